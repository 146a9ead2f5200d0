/- The contract of trace.Format. -/
import Derived.Lib.ItoaLen
import Derived.Great.Walk
import Derived.Test.YtepbbaifpckcpaaGreatDoorFFo
import Derived.Test.YtepbbaifpckcpaaGreatDoorFPl
import Derived.Test.YtepbbaifpckcpaaGreatDoorFTrL
import Derived.Test.YtepbbaifpckcpaaGreatDoorFTrM
import Derived.Test.YtepbbaifpckcpaaGreatDoorFTb
import Derived.Test.YtepbbaifpckcpaaGreatDoorFTc
namespace Go.Proofs.YtepbbaifpckcpaaGreatDoor
set_option maxRecDepth 100000
set_option maxHeartbeats 4000000
open Go.RowKit
theorem bst_below {w0 w w':World} {l:List UInt8} (h:BSt w0 l w) (hb:Below w.heap.size w w'):BSt w0 l w':=by
 have go:∀p,Lib.BuilderAt 77 5 w0.heap.size w0.heap.size p (Lib.byteCells l) w→Lib.BuilderAt 77 5 w0.heap.size w0.heap.size p (Lib.byteCells l) w':=fun p hp=>by
  have hlt:=hp.lt;obtain⟨h1,v,h2,h3,h4⟩:=hp;exact⟨h1,v,(hb.block _ hlt).trans h2,ownsRow_below h3 hb,h4⟩
 refine⟨?_,bon h.2.1 hb,Nat.le_trans h.2.2 hb.size⟩;rcases h.1 with h1|h1
 · exact .inl (go _ h1)
 · exact .inr (go _ h1)
theorem zdA {x:Pt} {w:World} (hok:x.ok w) (ht:x.text.length≤300000) (hr:x.result.length≤300000) (hm:(enc0 x.msg).length≤1100000):(Lib.join (yD x++zq x) [32]).length≤100000000:=by
 obtain⟨⟨i_t,i_k,i_w,i_s,i_n⟩, -⟩:=hok;have a1:=Lib.itoa_length_le x.time i_t.1 i_t.2;have a2:=Lib.itoa_length_le x.who i_w.1 i_w.2;have a3:=Lib.itoa_length_le x.slot i_s.1 i_s.2;have a4:=Lib.itoa_length_le x.number i_n.1 i_n.2;have b1:=zaC x.text;have b2:=zaC x.result;have b3:=zaC (enc0 x.msg);have c1:(yj x.kind).length≤7:=by
  unfold yj;repeat' split
  all_goals decide
 show(Lib.join (Lib.itoa x.time::([yj x.kind,Lib.itoa x.who]++zq x)) [32]).length≤_;rw [Lib.join_length];unfold zq;repeat' split
 all_goals
  simp only [Lib.lens,List.map_cons,List.map_nil,List.cons_append,List.nil_append,List.sum_cons,List.sum_nil,List.length_cons,List.length_nil];omega
def fewLn (l:List Pt):Prop:=∀x∈l,x.msg.sz≤16777216∧x.text.length≤300000∧x.result.length≤300000∧(enc0 x.msg).length≤1100000
theorem fewLn.pts {l:List Pt} (h:fewLn l):fewPts l:=fun x hx=>⟨(h x hx).1,(h x hx).2.1⟩
def zX (l:List Pt):List UInt8:=l.flatMap yw
theorem zbq (l:List Pt) (k:Nat) (hk:k<l.length):zX (l.take (k+1))=zX (l.take k)++yw l[k]:=by
 unfold zX;rw [List.take_succ_eq_append_getElem hk,List.flatMap_append];simp
theorem zcW (l:List Pt) (k:Nat):(zX (l.take k)).length≤(zX l).length:=by
 unfold zX;conv=>rhs;rw [←List.take_append_drop k l,List.flatMap_append,List.length_append]
 omega
def fmtT (E:List UInt8→Bool) (l:List Pt):List UInt8:=if vTr E l=0∧(zX l).length≤65536 then zX l else []
def fmtE (E:List UInt8→Bool) (l:List Pt):Int:=if vTr E l=0 then(if(zX l).length≤65536 then 0 else 3) else vTr E l
theorem zdl (A:Option Addr) (c:Nat) (l:List Pt) (w:World) (E:List UInt8→Bool) (hE:EntOk 60 E l w) (he:Env w) (hp:ZV w A l) (hf:fewLn l) (hn:l.length≤1099511627776) :
    Calls Tryz.prog 31 #[.slice A l.length c] w (Zv (fmtT E l) (fmtE E l) w):=by
 have HP:=hD hp;have HEnv:=hD he;have HFew:=hD hf;have HVal:=hD (trValid_any A c l w E hE he hp hf.pts hn);clear hp hE he hf;obtain⟨vt,hvt⟩:∃vt,vt=vTr E l:=⟨_,rfl⟩;rw [←hvt] at HVal;have HVt:=hD hvt;clear hvt;go_in;go_wp2_with fail;refine HVal.out.mono ?_;rintro e w1 ⟨rfl,b1⟩;have HB1:=hD b1;clear b1;by_cases h0:vt=0
 case neg=>exact fo72
 have HV0:Hid (vTr E l=0):=hD (HVt.out.symm.trans h0);subst h0;have HS0:=hD (zcQ w1);go_upto_region 6 with fail;generalize w1.alloc (.cells #[.pointer none, .slice none 0 0] 77)=w2 at HS0⊢;have HB1s:=hD HB1.out.size;have HPtr:Hid (w1.heap.size=w1.heap.size):=hD rfl;go_loopw [15] (fun i wr=>∃k:Nat,i= .int .i64 k∧k≤l.length∧(zX (l.take k)).length≤65536∧BSt w1 (zX (l.take k)) wr) (fun i _=>l.length-(intOf i).toNat)
 case atStart=>exact⟨0,rfl,by omega,by simp [zX],HS0.out⟩
 case round=>
  obtain⟨k,rfl,hk,hA,hst⟩:=hrel;have HA:=hD hA;have HSt:=hD hst;clear hA hst;by_cases hlt:k<l.length
  · have i0':(0:Int)≤(k:Int):=by omega
    have i1:(k:Int) <(l.length:Int):=by omega
    obtain⟨b,off,hA,hg,hcc⟩:=HP.out.at hlt;subst hA;obtain⟨x,hx⟩:∃x,x=l[k]:=⟨_,rfl⟩;have HBw:Hid (Below w.heap.size w wr):=hD (bon HB1.out HSt.out.2.1);have HRg:=hD (hcc wr HBw.out);rw [←hx] at HRg;have HXe:=hD hx;have HLn:Hid (∀W,Below w.heap.size w W→Calls Tryz.prog 48 #[.agg (ptC x).toArray] W (zi (yw x) W)):=hD (fun W hW=>by
     have hm:x∈l:=hx▸List.getElem_mem hlt;obtain⟨f1,f2,f3,f4⟩:=HFew.out x hm;have hok:=Pt.below (HP.out.2 x hm) hW;exact zfq x W (HEnv.out.below hW) hok f1 f2 f3 f4 (zdA hok f2 f3 f4))
    have hll:(yw x).length≤100000001:=by
     have hm:x∈l:=hx▸List.getElem_mem hlt;obtain⟨f1,f2,f3,f4⟩:=HFew.out x hm;have:=zdA (HP.out.2 x hm) f2 f3 f4;simp only [yw,List.length_append,List.length_cons,List.length_nil];omega
    clear hcc hx;have HX0:=hD (Vr.new wr (ptC pt0) 40);have HX:=hD (HX0.out.sets (ptC x) rfl);have HBr:=hD (zh (za wr (.cells (ptC pt0).toArray 40)) (zf (b:=wr.heap.size) (ptC x)) (Nat.le_refl _));go_upto_region 8 with(first
     |(refine wpList_load_mid rfl 40 _ rfl b (off+k * 28) rfl (ptC x) _ HRg.out Tryz.underlying40 rfl (zw x) ?_)
     |(refine wpList_store_mid rfl 40 _ _ rfl wr.heap.size 0 (ptC x).toArray rfl rfl ?_ (zw x) (yG x) ?_;· exact HX0.out.there rfl))
    try simp only [List.toList_toArray]
    clear HX0 HRg;change Code.wp _ _ _ _ ((wr.alloc (.cells (ptC pt0).toArray 40)).setCells wr.heap.size 0 (ptC x));generalize (wr.alloc (.cells (ptC pt0).toArray 40)).setCells wr.heap.size 0 (ptC x)=w3 at HX HBr⊢;generalize wr.heap.size=b3 at HX⊢;go_wp2_with (refine wpList_load_mid rfl 40 _ rfl b3 0 rfl (ptC x) _ HX.out.range Tryz.underlying40 rfl (zw x) ?_);refine(HLn.out _ (bon HBw.out HBr.out)).mono ?_;rintro e w4 ⟨rfl,hs⟩;have HSt4:=hD (bst_below HSt.out (bon HBr.out hs));clear hs;go_wp2_with fail;refine(zcR HSt4.out ⟨(yw x).toArray⟩ (by have:=HA.out;simp [ByteArray.size];omega)).mono ?_;rintro e w5 ⟨rfl,hs⟩;have HSt5:Hid (BSt w1 (zX (l.take (k+1))) w5):=hD (by rw [zbq l k hlt,←HXe.out];exact hs);clear hs;go_wp2_with fail;refine(Tryz.Builder_Len _ _ _ _ HSt5.out.1).mono ?_;rintro e w6 ⟨rfl,hw6⟩;subst hw6;rw [show(Lib.byteCells (zX (l.take (k+1)))).length=(zX (l.take (k+1))).length from by simp [Lib.byteCells]];have HLe:=hD (zcW l (k+1));by_cases hbig:(zX (l.take (k+1))).length≤65536
    · have t1:¬((65536:Int) <((zX (l.take (k+1))).length:Int)):=by omega
      have HN:=hD hbig;clear hbig;go_wp2_with fail;go_roundw
      case rel=>exact⟨k+1,by go_num,by omega,HN.out,HSt5.out⟩
      case measure=>simp [intOf];omega
    · have t1:(65536:Int) <((zX (l.take (k+1))).length:Int):=by omega
      have HT:Hid (fmtT E l= []∧fmtE E l=3):=hD (by
       have:=HLe.out;exact⟨by unfold fmtT;rw [if_neg (fun h=>by omega)],by unfold fmtE;rw [if_pos HV0.out,if_neg ja]⟩)
      have HBe:=hD (bon HB1.out HSt5.out.2.1);clear hbig;go_wp2_with fail;go_ret2;exact zbI HT.out.1 HT.out.2 HBe.out
  · obtain rfl:k=l.length:=by omega
    have HSt':Hid (BSt w1 (zX l) wr):=hD (by have h:=HSt.out;rwa [List.take_length] at h);have HT:Hid (fmtT E l=zX l∧fmtE E l=0):=hD (by
     have h:=HA.out;rw [List.take_length] at h;exact⟨by unfold fmtT;rw [if_pos ⟨HV0.out,h⟩],by unfold fmtE;rw [if_pos HV0.out,if_pos h]⟩)
    clear HSt;go_wp2_with fail;refine(zep HSt'.out).mono ?_;rintro e w7 ⟨rfl,hs⟩;have HBe:=hD (bon HB1.out hs);clear hs;go_wp2_with fail;go_ret2;exact zbI HT.out.1 HT.out.2 HBe.out
set_option maxRecDepth 100000
set_option maxHeartbeats 4000000
open Go.RowKit
def exP0:Pt:=⟨3,1,1,0,2, [103,101,116,32,97], [],ms0⟩
def exP1:Pt:=⟨5,2,1,0,2, [], [110,111,110,101],ms0⟩
def exL:List Pt:= [exP0,exP1]
def exO:Opn:=⟨1,0,1, [103,101,116,32,97], [110,111,110,101]⟩
def exT:List UInt8:= [51,32,105,110,118,111,107,101,32,49,32,50,32,34,103,101,116,32,97,34,10]
theorem exP0_ok (w:World):exP0.ok w:=⟨by simp [exP0,I64],zbk w⟩
theorem exP1_ok (w:World):exP1.ok w:=⟨by simp [exP1,I64],zbk w⟩
theorem exP0_good (E:List UInt8→Bool):zy E exP0=true:=by
 have h1:eqPt exP0 (yn exP0)=true:=by
  have e:yn exP0=exP0:=rfl;rw [e];simp [eqPt,zcN]
 have h2:opOk exP0.text=true:=by decide +kernel
 unfold zy;rw [h1,show Z5 exP0=true from by decide +kernel,show whoOk exP0=true from by decide +kernel,show zbi E exP0=(zab exP0.number && opOk exP0.text) from rfl,h2];decide +kernel
theorem exL_valid (E:List UInt8→Bool):vTr E [exP0]=0:=by
 unfold vTr;rw [if_neg jf];have h:Y2 E [exP0]=true:=by
  unfold Y2;rw [show(List.range [exP0].length)= [0] from rfl];simp only [List.all_cons,List.all_nil,Bool.and_true];rw [Z4 E [exP0] 0 jf (.inl rfl)];rw [show [exP0][0]=exP0 from rfl,exP0_good];rfl
 rw [h];rfl
theorem ex_line:yw exP0=exT:=by decide +kernel
theorem ex_fmt (E:List UInt8→Bool):fmtT E [exP0]=exT∧fmtE E [exP0]=0:=by
 have h:zX [exP0]=exT:=by
  show yw exP0++ []=_;rw [ex_line,List.append_nil]
 unfold fmtT fmtE;rw [exL_valid,h];exact⟨rfl,rfl⟩
theorem ex_ops:YA 0 exL= [exO]:=by decide +kernel
theorem enc0_ms0:(enc0 ms0).length≤1100000:=by
 unfold enc0;split
 · next h=>exact absurd h (by decide +kernel)
 · simp
theorem exL_few:fewLn [exP0]:=fun x hx=>by
 simp only [List.mem_singleton] at hx
 subst hx
 exact⟨zfs,by decide,by decide,enc0_ms0⟩
theorem ZV.take {w:World} {A:Option Addr} {l:List Pt} (h:ZV w A l) (k:Nat) (_hk:k≤l.length):ZV w A (l.take k):=by
 refine⟨⟨by rw [ZY ptC 28 Ye],fun hj=> ?_⟩,fun x hx=>h.2 x (List.mem_of_mem_take hx)⟩;have e:l.flatMap ptC=(l.take k).flatMap ptC++(l.drop k).flatMap ptC:=by rw [←List.flatMap_append,List.take_append_drop]
 obtain⟨b,o,e1,hb,hc⟩:=h.1.cells (by rw [e,List.length_append];omega);exact⟨b,o,e1,hb,fun j u hu=>hc j u (by rw [e,List.getElem?_append_left (List.getElem?_eq_some_iff.1 hu).1];exact hu)⟩
theorem pts_new (w:World) (l:List Pt) (hok:∀x∈l,x.ok w):ZV (w.alloc (.cells (l.flatMap ptC).toArray 40)) (some ⟨w.heap.size,0,none⟩) l:=by
 refine⟨⟨ZY ptC 28 Ye _,fun hj=>⟨w.heap.size,0,rfl,by simp,fun j u hu=> ?_⟩⟩,fun x hx=>Pt.below (hok x hx) (za _ _)⟩;rw [Nat.zero_add];exact(Vr.new w (l.flatMap ptC) 40).cells j u hu
theorem awake_any (w:World) (he:Env w):Calls Tryz.prog 10 #[] w (zC true w):=by
 have HP:=hD (pts_new w exL (fun x hx=>by
  simp only [exL,List.mem_cons,List.not_mem_nil,or_false] at hx;rcases hx with rfl|rfl
  · exact exP0_ok w
  · exact exP1_ok w))
 have HB:=hD (za w (.cells (exL.flatMap ptC).toArray 40));have HFm:Hid (∀W A c,Below w.heap.size w W→ZV W A [exP0]→Calls Tryz.prog 31 #[.slice A 1 c] W (Zv exT 0 W)):=hD (fun W A c hW hp=>by
  have h:=zdl A c [exP0] W (fun _=>false) (fun x hx h3=>by
   simp only [List.mem_singleton] at hx;subst hx;exact absurd h3 jf) (he.below hW) hp exL_few jf
  rw [(ex_fmt _).1,(ex_fmt _).2] at h;exact h)
 clear he;go_in;go_upto_region 2 with(first
  |(refine wpList_buildTo rfl 40 #[(0, .const (.int .i64 3)),(1, .const (.int .i64 1)),(2, .const (.int .i64 1)),(4, .const (.int .i64 2)),(5, .const (.string ⟨#[103,101,116,32,97]⟩))] rfl _ rfl (ptC exP0).toArray ?_ ?_;· kernel_rfl)
  |(refine wpList_buildTo rfl 40 #[(0, .const (.int .i64 5)),(1, .const (.int .i64 2)),(2, .const (.int .i64 1)),(4, .const (.int .i64 2)),(6, .const (.string ⟨#[110,111,110,101]⟩))] rfl _ rfl (ptC exP1).toArray ?_ ?_;· kernel_rfl)
  |(refine Go.Great.wpList_buildSliceTo rfl 22 40 2 _ rfl w.heap.size rfl _ rfl Tryz.underlying22 (exL.flatMap ptC).toArray ?_ ?_;· kernel_rfl))
 generalize w.alloc (.cells (exL.flatMap ptC).toArray 40)=w1 at HP HB⊢;generalize w.heap.size=b1 at HP⊢;have HP1:=hD (HP.out.take 1 jf);go_wp2_with fail;refine(HFm.out w1 _ _ HB.out HP1.out).mono ?_;rintro e w2 ⟨rfl,hs⟩;have HP:=hD (HP.out.below hs);have HB:=hD (bon HB.out hs);clear hs HP1;go_wp2_with fail;refine(zdZ _ _ exL w2 HP.out.1 jf).mono ?_;rintro e w3 ⟨A3,c3,rfl,hown,hs⟩;obtain⟨hp3,hc3,hm3⟩:=pts_own hown HP.out.2 hs;have HP3:=hD hp3;have HB:=hD (bon HB.out hs);clear hs hown hp3;go_wp2_with fail;refine(zdu A3 c3 exL w3 HP3.out jf hc3 hm3).mono ?_;rintro e w4 ⟨A4,c4,rfl,hrd,hs⟩;rw [ex_ops] at hrd;have HR4:=hD hrd;have HB:=hD (bon HB.out hs);clear hs hrd hc3 hm3 HP3;rw [show(YA 0 exL).length=1 from by rw [ex_ops];rfl];have HSm:Hid (∀W b,b=W.heap.size→Below w4.heap.size w4 W→Calls Tryz.prog 17 #[.slice A4 1 c4, .slice (some ⟨b,0,none⟩) 1 1] (W.alloc (.cells #[.int .i64 1, .int .i64 0, .int .i64 1, .string ⟨#[103,101,116,32,97]⟩, .string ⟨#[110,111,110,101]⟩] 44)) fun e w'=>e= .returned (.bool true)∧Below W.heap.size W w'):=hD (fun W b hb hW=>by
  subst hb;have h:=sameOps_any A4 (some ⟨W.heap.size,0,none⟩) c4 1 [exO] [exO] (W.alloc (.cells #[.int .i64 1, .int .i64 0, .int .i64 1, .string ⟨#[103,101,116,32,97]⟩, .string ⟨#[110,111,110,101]⟩] 44)) (HR4.out.below (bon hW (za _ _))) ⟨rfl,fun _=>⟨W.heap.size,0,rfl,by simp,fun j u hu=>by
   rw [Nat.zero_add];exact(Vr.new W (opC exO) 44).cells j u hu⟩⟩ jf jf
  exact h.mono fun e w' ⟨he,q,hw⟩=>⟨by rw [he];simp,by rw [hw];exact bon (za _ _) (draws_below _ q)⟩)
 go_wp2_with fail;refine(HSm.out w4 w4.heap.size rfl (Below.refl _ _)).mono ?_;rintro e w5 ⟨rfl,hs⟩;have HB:=hD (bon HB.out hs);clear hs;go_wp2_with fail;go_ret;exact zz rfl HB.out
end Go.Proofs.YtepbbaifpckcpaaGreatDoor
