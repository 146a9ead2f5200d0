/- TraceFormat returns true for every input, where what it reads is of bulk at most 1048576: the row's statement, and its card. -/
import Derived.Test.YtepbbaifpckcpaaGreatDoorCards
import Derived.Test.YtepbbaifpckcpaaGreatDoorTie
import Derived.Test.YtepbbaifpckcpaaGreatDoorFTraceFormatC
import Derived.Test.YtepbbaifpckcpaaGreatDoorFLawFm
import Derived.Test.YtepbbaifpckcpaaGreatDoorFFr
namespace Go.Proofs.YtepbbaifpckcpaaGreatDoor.traceFormatLaw
set_option maxRecDepth 100000
open Go.Joins Go.ChangeShapes Go.WideShapes Go.ChangeAt Go.RowKit Go.Deep
open Go.ChangeMaps (open_string shut_string)
open Go.Proofs.YtepbbaifpckcpaaGreatDoor.frame
theorem params_in:∀t∈Tryz.f8.params.toList,t<Tryz.prog.types.size:=by
 have h:(Tryz.f8.params.toList.all fun t=>decide (t<Tryz.prog.types.size))=true:=by kernel_rfl
 intro t ht;simpa using List.all_eq_true.1 h t ht
theorem pts_bulk (l:List Pt):∀x∈l,x.msg.sz≤sum Pt.sz l∧x.text.length≤sum Pt.sz l∧x.result.length≤sum Pt.sz l:=fun x hx=>by
 induction l with
 |nil=>cases hx
 |cons y r ih=>
  rw [sum_cons]
  rcases List.mem_cons.1 hx with rfl|h
  · unfold Pt.sz
    omega
  · have:=ih h
    omega
theorem pts_many (l:List Pt):7 * l.length≤sum Pt.sz l:=by
 induction l with
 |nil=>simp [sum]
 |cons y r ih=>
  rw [sum_cons,List.length_cons];have:7≤y.sz:=by unfold Pt.sz;omega
  omega
theorem contract (H:Type) (enc:TypeId × Value→H) (W:World) (base:Nat) (args:Array Value) (ds gs:List (DataW H)) (before:List MemPlace)
    (hval:∀(j:Nat) t v,Tryz.f8.params[j]? =some t→args[j]? =some v→Value.okWide Tryz.prog W .any base t v)
    (hW:DataW.Whole enc Tryz.prog Tryz.f8.params.toList Rows.traceFormatSpec.vars false W args.toList ds gs before) (hL:laidMetH Tryz.prog Rows.traceFormatUptoRow.laid W) (hsh:W.ShapedOpen Tryz.prog) (hk:Rows.uptoSmall H (ds++gs)=true) :
    Calls Tryz.prog 8 args W fun e W'=>∃v,e= .returned v∧Rows.traceFormatSpec.post enc Tryz.prog Tryz.f8 false true false false W args v W':=by
 have hW':=hW;obtain⟨p,q,hA0,hV,rfl,hfz,hnd⟩:=hW;have hA:DataW.TrodAll enc Tryz.prog W 0 (fun _=>true) true Tryz.f8.params.toList args.toList ds p:=hA0;rw [Tryz.params8] at hA hval;obtain⟨v0,vs0,d0,ds0,p0,q0,hargs0,rfl,rfl,h0,r0⟩:=trodAll_cons hA;obtain⟨rfl,rfl,rfl⟩:=trodAll_nil r0;obtain rfl:args=#[v0]:=by cases args;simp_all
 obtain⟨rfl, -⟩:=trodVars_none hV;have hbk:=of_decide_eq_true hk;simp only [List.append_nil,Rows.uptoBulkAll] at hbk;obtain⟨A0,c0,l0,rfl,hq0,hb0⟩:=pts_in (hval 0 22 v0 rfl rfl) h0;have hl0:=pts_bulk l0;refine(lawFormat A0 c0 l0 W (env_of_laid hL hsh) hq0 (fun x hx=>Nat.le_trans (hl0 x hx).1 ja) (by have:=pts_many l0;omega)).mono fun e W' ⟨he,hb⟩=> ?_
 subst he;exact⟨_,rfl,post_true kids full rfl params_in jc Tryz.underlying4 rfl hW' hb⟩
theorem reads (os:Os) {H:Type} (enc:TypeId × Value→H):∃places,DataW.whole enc Tryz.prog ((zeh os).forCall (fun _ _=>0) ⟨#[],#[.slice none 0 0], []⟩).memory Tryz.f8.params.toList Rows.traceFormatSpec.vars false (#[.slice none 0 0]:Array Value).toList 8=some ([.nil], [],places):=
 ⟨[],by kernel_rfl⟩
theorem lifted (os:Os) (started:os.Started) (H:Type) (enc:TypeId × Value→H) (F:Stop.Interp) :
    ReturnsInHanded {} Tryz.checked os 8 .any ((Rows.OpenSpec.upto Rows.traceFormatSpec).preRow enc Tryz.prog Tryz.f8 Rows.traceFormatUptoRow.domain false Rows.traceFormatUptoRow.laid) (((Rows.OpenSpec.upto Rows.traceFormatSpec).at F).post enc Tryz.prog Tryz.f8 false true false false):=by
 obtain⟨places,hx⟩:=reads os enc;refine returnsInHanded_of_row (C:=Tryz.checked) (s:=Rows.OpenSpec.upto Rows.traceFormatSpec) frame.own started jc Tryz.func8
  (witness_row_at (enc:=enc) (C:=Tryz.checked) false (zeh os) #[.slice none 0 0] rfl jc jc jc
   (OpenSpec.preRow_of_cond 8 hx jc (fun k hk=>by cases hk;kernel_rfl) jc (laid_met os _))) ?_
 intro W base args ds gs before hval hW _ hcond _ hL hsh _;exact contract H enc W base args ds gs before hval hW hL hsh (hcond _ rfl)
theorem fnamed:Tryz.pinned.checked.prog.funcNamed Rows.traceFormatUptoRow.func=some 8:=by kernel_rfl
theorem inst:Tryz.f8.isInstance Tryz.pinned.checked.prog Rows.traceFormatUptoRow.origin Rows.traceFormatUptoRow.targs:=of_decide_eq_true jc
theorem wrap:Tryz.f8.isWrapper Tryz.pinned.checked.prog Rows.traceFormatUptoRow.wrapper Rows.traceFormatUptoRow.mainSum:=by
 unfold Func.isWrapper;first|(rw [if_pos (by decide +kernel)];kernel_rfl)|(rw [if_neg (by decide +kernel)];exact⟨rfl,rfl⟩)
theorem said:Rows.TraceFormatUptoSaid:=
 OpenClaim.holds_of_cond 8 Tryz.f8 rfl rfl rfl rfl rfl rfl rfl ⟨rfl,rfl,rfl,rfl,rfl⟩ rfl rfl rfl rfl rfl fnamed Tryz.func8 closed inst wrap
  (fun os started H enc _ F=>by rw [OpenClaim.pre_eq_preRow];exact lifted os started H enc F)
theorem plain (f:FuncId) (fn:Func) (hf:Tryz.pinned.checked.prog.funcNamed Rows.traceFormatUptoRow.func=some f) (hfn:Tryz.pinned.checked.prog.funcs[f]? =some fn) :
    true=Tryz.pinned.checked.prog.looks []∧∀(j:Nat) t,fn.params[j]? =some t→Tryz.pinned.checked.prog.wantsStandIn t=false:=by
 obtain rfl:f=8:=Option.some.inj ((show Tryz.prog.funcNamed Rows.traceFormatUptoRow.func=some 8 by kernel_rfl).symm.trans hf) |>.symm;obtain rfl:fn=Tryz.f8:=(Option.some.inj (Tryz.func8.symm.trans hfn)).symm;refine⟨by kernel_rfl,fun j t ht=> ?_⟩;rw [Tryz.params8] at ht;obtain rfl:t=22:=by simpa using Array.mem_of_getElem? ht
 exact(show Tryz.prog.wantsStandIn 22=false by kernel_rfl)
theorem card:Rows.TraceFormatUptoCardSaid:=
 Claim7.holds_tied_plain_at .later [] _ _ _ _ said (fun _ h=>by cases h) jc (fun _ h=>by cases h) traceFormatUpto_row_tie rfl ⟨rfl,rfl⟩ jc rfl plain jc
end Go.Proofs.YtepbbaifpckcpaaGreatDoor.traceFormatLaw
