/- The contract of store.Parse. -/
import Derived.Test.YtepbbaifpckcpaaGreatDoorPSd
open Go.Proofs.Tryz
namespace Go.Proofs.YtepbbaifpckcpaaGreatDoor
set_option maxRecDepth 100000
set_option maxHeartbeats 8000000
open Go.RowKit
open Go.Maps (Keyed)
def frmP(x:ByteArray × Bool × Bool × Bool):Value:=frmV x.1 x.2.1 x.2.2.1 x.2.2.2
theorem forms_entry{x:Int}{kl:Lit}{c:ByteArray × Bool × Bool × Bool}{y:DataW Unit × List MemPlace}(hkey:keyOf prog 3 (.int .i64 x)=some kl)(hat:∀zd,za4.atKey kl zd=y.1)(hy:zbj (frmP c)=some y) :
    ∃k:Nat,1≤k∧k≤6∧x=(k:Int)∧kl= .int .i64 (k:Int)∧c=(⟨(zo k).toArray⟩,zx k,zB k,zI k):=by
 obtain⟨x',ex,rfl,_⟩:=Maps.keyOf_int_inv underlying3 hkey;cases ex
 have hk:∃k:Nat,1≤k∧k≤6∧x=(k:Int):=by
  by_cases h1:1≤x∧x≤6
  · exact⟨x.toNat,by omega,by omega,by omega⟩
  · exfalso;have e:∀zd,za4.atKey (.int .i64 x) zd=zd:=fun zd=>by
     simp only[za4,DataW.atKey,gU,gV,zbq];rw[av (by omega:¬(1:Int)=x),av (by omega:¬(2:Int)=x),av (by omega:¬(3:Int)=x),av (by omega:¬(4:Int)=x),av (by omega:¬(5:Int)=x),av (by omega:¬(6:Int)=x)]
    have e1:=(hat .nil).trans (hat (.agg [])).symm;rw[e,e]at e1;cases e1
 obtain⟨k,h1,h6,rfl⟩:=hk;refine⟨k,h1,h6,rfl,rfl,?_⟩;have e:=(hat .nil).symm.trans (forms_at k h1 h6 .nil).1;obtain⟨s,a,b,d⟩:=c;obtain⟨y1,y2⟩:=y;simp only at e;subst e;have h:=formR_is hy;simp only[frmP,frmV,Value.agg.injEq,Array.mk.injEq,List.cons.injEq,Value.string.injEq,Value.bool.injEq,fA]at h;obtain⟨rfl,rfl,rfl,rfl⟩:=h;rfl
variable{m:Nat}{w w':World}
theorem Y1{H:Type}{P:Program}{k:TypeId}{R:Value→Option (DataW H × List MemPlace)}{b r n:Nat}{D:DataW H}{left:Lit→Bool}{cnt:Nat}(h:w.ranges P k R b r n D left cnt)(hb:Below w.heap.size w w'):w'.ranges P k R b r n D left cnt:=by
 have h1:=h.owns.lt;have h2:=h.lt;obtain⟨es,clock,since,seen,c0,q1,F,hs,hD,q2,rest⟩:=h;exact⟨es,clock,since,seen,c0,(hb.block b h1).trans q1,F,hs,hD,(hb.block r h2).trans q2,rest⟩
theorem zdE(w:World){ops:Array Oper}{rest:List Oper}{o:Oper}{a:Act}{Q:Exit→Act→World→Prop}(hg:o.guard=none)(it:Operand)(hop:o.op=Op.next it false)(b r:Nat)(left:Lit→Bool)(cnt:Nat)
    (hit:a.eval it= .pointer (some ⟨r,0,none⟩)) (h:w.ranges prog 3 zbj b r 6 za4 left cnt)
    (hDone:Hid (∀kl,left kl=false)→wpList prog ops Q rest (a.put o.dst (.tuple #[false])) w)
    (hMore:∀(k:Nat) (w':World) (cnt':Nat),Hid (1≤k∧k≤6∧left (.int .i64 (k:Int))=true∧w'.ranges prog 3 zbj b r 6 za4 (fun z=>left z && !z.sameKey (.int .i64 (k:Int))) cnt'∧cnt' <cnt∧w.grownBy w' (some r)∧w'.heap.size=w.heap.size∧
     (Instr.entry (.pointer (some ⟨r,0,none⟩))).run prog w'= .ok (.tuple #[.int .i64 (k:Int),.agg #[zo k,.bool (zx k),.bool (zB k),.bool (zI k)]]) w')→wpList prog ops Q rest (a.put o.dst (.tuple #[true,.int .i64 (k:Int),.agg #[zo k,.bool (zx k),.bool (zB k),.bool (zI k)]])) w') :
    wpList prog ops Q (o::rest) a w:=
 wpList_next_ranges w hg it hop 3 zc9 zbj (Value.int .i64) frmP (fun key kl hkey=>by obtain⟨x,rfl,_⟩:=Maps.keyOf_int_inv underlying3 hkey;exact⟨x,rfl⟩) (fun v y hv=>formR_inv hv) b r 6 za4 left cnt hit h (fun _ hl=>hDone (hD hl)) (fun x c kl y w' cnt' hkey hlk hv hat hrg hlt hgr hsz hen=>by
  obtain⟨k,h1,h6,rfl,rfl,rfl⟩:=forms_entry hkey hat hv
  exact hMore k w' cnt' (hD ⟨h1,h6,hlk,hrg,hlt,hgr,hsz,hen⟩))
theorem strs_new(w:World)(l:List (List UInt8)):Vr (w.alloc (.cells (strC l).toArray 9)) w.heap.size (strC l):=Vr.new w (strC l) 9
theorem left_step{left:Lit→Bool}{s:List UInt8}{k:Nat}(h:∀j:Nat,1≤j→j≤6→left (.int .i64 (j:Int))=false→kindOk j s=false)(hk:kindOk k s=false) :
    ∀j:Nat,1≤j→j≤6→(fun z:Lit=>left z && !z.sameKey (.int .i64 (k:Int))) (.int .i64 (j:Int))=false→kindOk j s=false:=fun j h1 h6 hj=>by
 simp only[zbq,dZ,Bool.not_eq_false',aY]at hj
 rcases hj with hj|hj
 · exact h j h1 h6 hj
 · obtain rfl:j=k:=by omega
   exact hk
theorem cut_len:∀s:List UInt8,∀x∈cut s,x.length≤s.length
 | [],x,hx=>by simp only[cut,dn]at hx;subst hx;simp
 |b::r,x,hx=>by
  have ih:=cut_len r
  obtain⟨y,t,hc⟩:=zer r
  rw[hc]at ih
  unfold cut at hx
  by_cases h:b=32
  · rw[af h,hc]at hx
    rcases bC.1 hx with rfl|hx
    · simp
    · have:=ih x hx
      simp only[au];omega
  · rw[aa h,hc]at hx
    rcases bC.1 hx with rfl|hx
    · have:=ih y (bY ..)
      simp only[au];omega
    · have:=ih x (dm _ hx)
      simp only[au];omega
theorem zfD{r:List (List UInt8)}(h:∀y∈r,y.length≤m)(t:Bool):(YA t r).length≤m:=by
 unfold YA;split
 · cases r with
   |nil=>simp
   |cons a q=>exact h a (bY ..)
 · simp
theorem zeH{r:List (List UInt8)}(h:∀y∈r,y.length≤m)(t:Bool):∀y∈yH t r,y.length≤m:=fun y hy=>by
 unfold yH at hy
 split at hy
 · exact h y (ib hy)
 · exact h y hy
theorem take_sizes{r:List (List UInt8)}(h:∀y∈r,y.length≤m)(a b c:Bool)(hm:m≤349525:=by decide):(YA a r).length+(YA b (yH a r)).length+(YA c (yH b (yH a r))).length≤1048576:=by
 have h1:=zfD h a;have h2:=zfD (zeH h a) b;have h3:=zfD (zeH (zeH h a) b) c;omega
def RetPar(ok:Bool)(w:World)(e:Ending)(w':World):Prop:=(∃(a:Int) (b c d:ByteArray),e= .returned (.tuple #[.agg #[a,b,c,d],.int .i64 (if ok then 0 else 2)]))∧Below w.heap.size w w'
theorem zcG{ok:Bool}{n a:Int}{b c d:ByteArray}(h:n=if ok then 0 else 2)(hb:Below w.heap.size w w'):RetPar ok w (.returned (.tuple #[.agg #[a,b,c,d],n])) w':=⟨⟨a,b,c,d,by rw[h]⟩,hb⟩
theorem zcL(a:Int)(b c d:ByteArray):(#[a,b,c,d]:Array Value).all (·.oneCell')=true:=by simp[Value.oneCell']
theorem Zk:(prog.info? 124).map (·.size)=some 4:=by kernel_rfl
theorem parse_any(s:ByteArray)(w:World)(he:Env w)(hs:s.size≤300000):Calls prog 93 #[s] w (RetPar (opOk s.data.toList) w):=by
 obtain⟨x0,rest,hcut⟩:=zer s.data.toList;have HC:=hD hcut;have hspl:=splitB_cut s;have hlen:(Lib.splitB ⟨#[32]⟩ 0 (Lib.countB s ⟨#[32]⟩) s).length=Lib.countB s ⟨#[32]⟩+1:=Lib.splitB_all ⟨#[32]⟩ jf 0 _ s rfl;have hstr:((Lib.splitB ⟨#[32]⟩ 0 (Lib.countB s ⟨#[32]⟩) s).map Value.string)=strC (x0::rest):=by
  rw[←hcut,←hspl];exact fo165
 have hn:Lib.countB s ⟨#[32]⟩+1=(x0::rest).length:=by rw[←hlen,←hcut,←hspl,bF]
 have hrl:(x0::rest).length≤1048577:=by
  rw[←hn];have:=Lib.countB_le ⟨#[32]⟩ jf s.size s (ag _);omega
 have HSp:Hid (∀W,Below w.heap.size w W→Calls prog 136 #[s,.string ⟨#[32]⟩] W fun e w'=>e= .returned (.slice (some ⟨W.heap.size,0,none⟩) (x0::rest).length (x0::rest).length)∧w'=W.alloc (.cells (strC (x0::rest)).toArray 9)):=hD (fun W hb=>by
  obtain⟨m,hm⟩:=(he.below hb).mx;have h:=Tryz.strings_Split s ⟨#[32]⟩ m W ja hm jf;rw[hn,hstr]at h;exact h)
 clear hspl hlen hstr hn hcut he;have HRv:=hD (Vr.new w [(),"","",""] 124);have HB:=hD (za w (.cells #[(),"","",""] 124));go_in;go_wp2_with fail;generalize w.alloc (.cells #[(),"","",""] 124)=w1 at HRv HB⊢;refine(HSp _ HB).mono ?_;rintro e w2 ⟨rfl,hw2⟩;have HP:=hD (strs_new w1 (x0::rest));rw[←hw2]at HP;have hs2:=za w1 (.cells (strC (x0::rest)).toArray 9);rw[←hw2]at hs2;clear hw2;have HRv:=hD (HRv.below hs2);have HB:=hD (bon HB hs2);clear hs2;generalize w1.heap.size=bp at HP⊢;go_wp2_with fail;refine(zfm _).mono ?_;rintro e w3 ⟨bm,rfl,hown,hs3,hbm⟩;have HRv:=hD (HRv.below hs3);have HP:=hD (HP.below hs3);have HB:=hD (bon HB hs3);clear hs3 hbm;go_wp2_with (at_range;refine wpList_range_own _ rfl _ 182 rfl 3 185 zc9 underlying182 zbj bm 6 za4 rfl hown ?_;intro w0 hrg0 hg0 hs0);try go_frame
 generalize hrm:w3.heap.size=rm at hrg0⊢;have HB0:Hid (Below w3.heap.size w3 w0):=hD (below_grown (ae _ _) (ag _) hg0 (fun g hg=>by simp at hg));have HRm:Hid (w3.heap.size≤rm):=hD ja;clear hrm hg0 hs0 hown;go_loopw [5] (fun _ wr=>∃left cnt,wr.ranges prog 3 zbj bm rm 6 za4 left cnt∧Below w3.heap.size w3 wr∧∀k:Nat,1≤k→k≤6→left (.int .i64 (k:Int))=false→kindOk k s.data.toList=false) (fun _ wr=>wr.rangeLeft bm rm)
 case atStart=>exact⟨_,_,hrg0,HB0,fun k h1 h6 h=>by rw[(forms_at k h1 h6 .nil).2]at h;cases h⟩
 case round=>
  obtain⟨left,cnt,hrg,hB,hno⟩:=hrel;have HW:=hD hB;have HN:=hD hno;clear hB hno;go_wp2_with (at_next;refine zdE _ rfl _ rfl bm rm left cnt rfl hrg ?_ ?_)
  · intro hl0;have HF:Hid (opOk s.data.toList=false):=hD (opOk_no (fun k h1 h6=>HN.out k h1 h6 (hl0.out _)));have HRv:=hD (HRv.below HW);have HBw:=hD (bon HB HW);have HR2:=hD (HRv.sets [(),"","",""] rfl);have HB2:=hD (zf HBw (zb (b:=w.heap.size) [(),"","",""]) (ag _));clear hl0 hrg;go_wp2_with (refine ai rfl 124 _ _ rfl w.heap.size 0 #[(),"","",""] rfl rfl ?_ Zk (zcL _ _ _ _) ?_;· exact HRv.there rfl)
    refine aj (v:= .tuple #[.agg #[(),"","",""],.int .i64 2]) ?_ rfl (zcG (ok:=opOk s.data.toList) (by rw[HF.out];rfl) HB2);exact zi results93 _ _ w.heap.size [(),"","",""] _ _ rfl rfl HR2.range underlying124 rfl Zk
  · intro k w4 cnt4 hk;obtain⟨h1,h6,hlx,hrg4,hlt4,hg4,hs4,hen⟩:=hk.out;have HW4:Hid (Below w3.heap.size w3 w4):=hD (below_grown HW HW.size hg4 (fun g hg=>by simp only[ax]at hg;have:=HRm.out;omega));have HG:=hD hrg4;have HGo:=hD hrg;have HLt:=hD hlt4;clear hlx hrg4 hlt4 hg4 hs4 hrg hk;have HV6:=hD (Vr.new w4 [zo k,.bool (zx k),.bool (zB k),.bool (zI k)] 185);have hb5:=za w4 (.cells #[zo k,.bool (zx k),.bool (zB k),.bool (zI k)] 185);have HG:=hD (Y1 HG hb5);have HW5:=hD (bon HW4 hb5);clear hb5;go_upto_region 5 with fail;generalize w4.alloc (.cells #[zo k,.bool (zx k),.bool (zB k),.bool (zI k)] 185)=w5 at HV6 HG HW5⊢;generalize w4.heap.size=b6 at HV6⊢;have d0:=HV6.cells 0 _ rfl;have d1:=HV6.lt;have HPc:=hD (HP.below HW5);have p0:=HPc.cells 0 _ rfl;have p1:=HPc.lt;have i1:(0:Int) <(rest.length:Int)+1:=by omega
    clear hen;by_cases hx:zo k=x0
    case neg=>
     have q1:(zo k == x0)=false:=by simpa using hx
     have q2:(zo k != x0)=true:=by simpa using hx
     have HK:Hid (kindOk k s.data.toList=false):=hD (kind_no HC (fun e=>hx e.symm));clear hx;go_wp2_with fail;go_quiet (fail);all_goals
      have HGn:=hD (Y1 HG (bdN (ae _ _) nq));go_wp2_with fail;go_roundw
      case rel=>exact⟨_,cnt4,HGn,bon HW5 (bdN (ae _ _) nq),left_step HN HK⟩
      case measure=>rw[HGn.out.left_eq,HGo.out.left_eq];exact HLt
    have q1:(zo k == x0)=true:=by simpa using hx
    have q2:(zo k != x0)=false:=by simpa using hx
    have HKd:Hid (Y6 k s.data.toList rest=kindOk k s.data.toList):=hD (prog_kind h1 h6 (by rw[HC.out,hx]));clear hx;go_wp2_with fail;go_quiet (fail);all_goals
     have hbq:=bdN (ae w5.heap.size w5) nq;have HG:=hD (Y1 HG hbq);have HV6:=hD (HV6.below hbq);have HW6:=hD (bon HW5 hbq);clear hbq d0 d1 p0 p1 q1 q2;generalize w5.drewN nq=w6 at HG HV6 HW6⊢;have HP6:=hD (HP.below HW6);obtain⟨o2,hsl⟩:=slice_rest (b:=bp) (off:=0) (n:=rest.length+1) (c:=rest.length+1) ja (ag _) (by simp only[au]at hrl;omega);have hs1:∀W:World,Sem.run prog (Instr.slice 32 (.slice (some ⟨bp,0,none⟩) (rest.length+1) (rest.length+1)) (some (.int .i64 1)) none none) W= .ok (.slice (some ⟨bp,o2,none⟩) rest.length rest.length) W:=fun W=>(hsl W).1
     have HO2:Hid (0<rest.length→o2=1):=hD (fun h=>(hsl w6).2 ja);clear hsl;go_wp2_with fail;have HV6b:Hid (b6<w6.heap.size):=hD HV6.lt;refine aD ?_;have HB6:=hD ((ae w6.heap.size w6).drew);generalize hv:w6.drew=v0 at HB6;refine aC (S:=fun _=>True) jb trivial (fun hHeld=> ?_);rw[hv];clear hv;refine takes [0,1,2,3] ?_;refine bG (rs:=[4,5]) jb jc ?_;refine aX (o:=_) rfl (fun K hK=> ?_) (aX (o:=_) rfl (fun K hK=> ?_) bD)
     · go_simp;have hs:=za v0 (.cells #[(),"","",""] 124);have HO:=hD (Vr.new v0 [(),"","",""] 124);have hgo:w6.heap.size≤v0.heap.size:=HB6.size;have HB6:=hD (bon HB6 hs);clear hs;generalize v0.alloc (.cells #[(),"","",""] 124)=v1 at HO HB6⊢;generalize v0.heap.size=b7 at HO hgo⊢;refine hK.out _ _ trivial (fun hHeld=> ?_);clear hK K;try simp only[Act.put,qk1,qk2,qk3,qk4,qk5,qk6]
       refine tkr 5 rfl (fun K hK=> ?_);go_simp;have hs:=za v1 (.cells #["s"] 32);have HR:=hD (Vr.new v1 ["s"] 32);have hgr:w6.heap.size≤v1.heap.size:=HB6.size;have hne:b7≠v1.heap.size:=by have:=HO.lt;omega
       have HO:=hD (HO.below hs);have HB6:=hD (bon HB6 hs);clear hs;generalize v1.alloc (.cells #["s"] 32)=v2 at HR HB6 HO⊢;generalize v1.heap.size=b8 at HR hgr hne⊢;exact fo4
     · go_simp;have hs:=za v0 (.cells #["s"] 32);have HR:=hD (Vr.new v0 ["s"] 32);have hgr:w6.heap.size≤v0.heap.size:=HB6.size;have HB6:=hD (bon HB6 hs);clear hs;generalize v0.alloc (.cells #["s"] 32)=v1 at HR HB6⊢;generalize v0.heap.size=b8 at HR hgr⊢;refine hK.out _ _ trivial (fun hHeld=> ?_);clear hK K;try simp only[Act.put,qk1,qk2,qk3,qk4,qk5,qk6]
       refine tkr 4 rfl (fun K hK=> ?_);go_simp;have hs:=za v1 (.cells #[(),"","",""] 124);have HO:=hD (Vr.new v1 [(),"","",""] 124);have hgo:w6.heap.size≤v1.heap.size:=HB6.size;have hne:v1.heap.size≠b8:=by have:=HR.lt;omega
       have HR:=hD (HR.below hs);have HB6:=hD (bon HB6 hs);clear hs;generalize v1.alloc (.cells #[(),"","",""] 124)=v2 at HO HB6 HR⊢;generalize v1.heap.size=b7 at HO hgo hne⊢;exact fo4
