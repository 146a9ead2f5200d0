/- TraceParse returns true for every input (no condition beside the row's own): the row's statement, and its card. -/
import Derived.Test.YtepbbaifpckcpaaGreatDoorPTraceParseC
import Derived.Test.YtepbbaifpckcpaaGreatDoorPRp
import Derived.Test.YtepbbaifpckcpaaGreatDoorPFr
open Go.Proofs.Tryz
namespace Go.Proofs.YtepbbaifpckcpaaGreatDoor.traceParseLaw
set_option maxRecDepth 100000
open Go.Joins Go.ChangeShapes Go.WideShapes Go.ChangeAt Go.RowKit Go.Deep
open Go.ChangeMaps (open_string shut_string)
open Go.Proofs.YtepbbaifpckcpaaGreatDoor.frame
theorem params_in:∀t∈f9.params.toList,t<prog.types.size:=by
 have h:(f9.params.toList.all fun t=>decide (t<prog.types.size))=true:=by kernel_rfl
 intro t ht;simpa using bX.1 h t ht
theorem contract(H:Type)(enc:TypeId × Value→H)(W:World)(base:Nat)(args:Array Value)(ds gs:List (DataW H))(before:List MemPlace)
    (hval:∀(j:Nat) t v,f9.params[j]? =some t→args[j]? =some v→Value.okWide prog W .any base t v)
    (hW:DataW.Whole enc prog f9.params.toList Rows.traceParseSpec.vars false W args.toList ds gs before) (hL:laidMetH prog Rows.traceParseRow.laid W) (hsh:W.ShapedOpen prog) :
    Calls prog 9 args W fun e W'=>∃v,e= .returned v∧Rows.traceParseSpec.post enc prog f9 false true false false W args v W':=by
 have hW':=hW;obtain⟨p,q,hA0,hV,rfl,hfz,hnd⟩:=hW;have hA:DataW.TrodAll enc prog W 0 (fun _=>true) true f9.params.toList args.toList ds p:=hA0;rw[params9]at hA hval;obtain⟨v0,vs0,d0,ds0,p0,q0,hargs0,rfl,rfl,h0,r0⟩:=trodAll_cons hA;obtain⟨rfl,rfl,rfl⟩:=trodAll_nil r0;obtain rfl:args=#[v0]:=by cases args;simp_all
 obtain⟨rfl, -⟩:=trodVars_none hV;obtain⟨s0,rfl, -, -,hs0⟩:=open_string underlying9 (hval 0 9 v0 rfl rfl) h0;refine(lawParse s0 W (env_of_laid hL hsh) hs0).mono fun e W' ⟨he,hb⟩=> ?_
 subst he;exact⟨_,rfl,post_true kids full rfl params_in jb underlying4 rfl hW' hb⟩
theorem reads(os:Os){H:Type}(enc:TypeId × Value→H):∃places,DataW.whole enc prog ((ze7 os).forCall (fun _ _=>0) ⟨#[],#[""],[]⟩).memory f9.params.toList Rows.traceParseSpec.vars false (#[""]:Array Value).toList 8=some ([.lit (.string [])],[],places):=
 ⟨[],by kernel_rfl⟩
theorem lifted(os:Os)(started:os.Started)(H:Type)(enc:TypeId × Value→H)(F:Stop.Interp) :
    ReturnsInHanded {} checked os 9 .any ((OpenSpec.ofChange Rows.traceParseSpec).preRow enc prog f9 Rows.traceParseRow.domain false Rows.traceParseRow.laid) (((OpenSpec.ofChange Rows.traceParseSpec).at F).post enc prog f9 false true false false):=by
 obtain⟨places,hx⟩:=reads os enc;refine returnsInHanded_of_row (C:=checked) (s:=OpenSpec.ofChange Rows.traceParseSpec) frame.own started jb func9
  (witness_row_at (enc:=enc) (C:=checked) false (ze7 os) #[""] rfl jb jb jb
   (OpenSpec.preRow_of_cond 8 hx jb (fun k hk=>by cases hk) jb (laid_met os _))) ?_
 intro W base args ds gs before hval hW _ _ _ hL hsh _;exact contract H enc W base args ds gs before hval hW hL hsh
theorem fnamed:Tryz.pinned.checked.prog.funcNamed Rows.traceParseRow.func=some 9:=by kernel_rfl
theorem inst:f9.isInstance Tryz.pinned.checked.prog Rows.traceParseRow.origin Rows.traceParseRow.targs:=az jb
theorem wrap:f9.isWrapper Tryz.pinned.checked.prog Rows.traceParseRow.wrapper Rows.traceParseRow.mainSum:=by
 unfold Func.isWrapper;first|(rw[af (by decide +kernel)];kernel_rfl)|(rw[aa (by decide +kernel)];exact⟨rfl,rfl⟩)
theorem said:Rows.TraceParseSaid:=
 OpenClaim.holds_of_cond 9 f9 rfl rfl rfl rfl rfl rfl rfl ⟨rfl,rfl,rfl,rfl,rfl⟩ rfl rfl rfl rfl rfl fnamed func9 closed inst wrap
  (fun os started H enc _ F=>by rw[OpenClaim.pre_eq_preRow];exact lifted os started H enc F)
theorem plain(f:FuncId)(fn:Func)(hf:Tryz.pinned.checked.prog.funcNamed Rows.traceParseRow.func=some f)(hfn:Tryz.pinned.checked.prog.funcs[f]? =some fn) :
    true=Tryz.pinned.checked.prog.looks []∧∀(j:Nat) t,fn.params[j]? =some t→Tryz.pinned.checked.prog.wantsStandIn t=false:=by
 obtain rfl:f=9:=dW ((show prog.funcNamed Rows.traceParseRow.func=some 9 by kernel_rfl).symm.trans hf) |>.symm;obtain rfl:fn=f9:=(dW (func9.symm.trans hfn)).symm;refine⟨by kernel_rfl,fun j t ht=> ?_⟩;rw[params9]at ht;obtain rfl:t=9:=by simpa using Array.mem_of_getElem? ht
 exact(show prog.wantsStandIn 9=false by kernel_rfl)
theorem card:Rows.TraceParseCardSaid:=
 Claim7.holds_tied_plain_at .later [] _ _ _ _ said (fun _ h=>by cases h) jb (fun _ h=>by cases h) traceParse_row_tie rfl ⟨rfl,rfl⟩ jb rfl plain jb
end Go.Proofs.YtepbbaifpckcpaaGreatDoor.traceParseLaw
