/- The contract of trace.Format. -/
import Derived.Test.YtepbbaifpckcpaaGreatDoorPTrL
import Derived.Test.YtepbbaifpckcpaaGreatDoorPTrM
import Derived.Test.YtepbbaifpckcpaaGreatDoorPTb
open Go.Lib renaming byteCells→zE,itoa_length_le→zc
open Go.Proofs.Tryz renaming prog→zj,underlying40→zr
open List renaming length_cons→zv,length_nil→qA,flatMap_append→qB,take_append_drop→qC,length_append→qD,getElem_mem→qE,mem_singleton→qF
namespace Go.Proofs.YtepbbaifpckcpaaGreatDoor
set_option maxRecDepth 100000
set_option maxHeartbeats 4000000
open Go.RowKit
variable{w:World}
theorem bst_below{w0 w':World}{l:List UInt8}(h:BSt w0 l w)(hb:Below w.heap.size w w'):BSt w0 l w':=by
 have go:∀p,Lib.BuilderAt 77 5 w0.heap.size w0.heap.size p (zE l) w→Lib.BuilderAt 77 5 w0.heap.size w0.heap.size p (zE l) w':=fun p hp=>by
  have hlt:=hp.lt;obtain⟨h1,v,h2,h3,h4⟩:=hp;exact⟨h1,v,(hb.block _ hlt).trans h2,ownsRow_below h3 hb,h4⟩
 refine⟨?_,bon h.2.1 hb,Nat.le_trans h.2.2 hb.size⟩;rcases h.1 with h1|h1
 · exact .inl (go _ h1)
 · exact .inr (go _ h1)
theorem line_len{x:Pt}(hok:x.ok w)(ht:x.text.length≤300000)(hr:x.result.length≤300000)(hm:(enc0 x.msg).length≤1100000):(Lib.join (yZ x++zz x) [32]).length≤100000000:=by
 obtain⟨⟨i_t,i_k,i_w,i_s,i_n⟩, -⟩:=hok;have a1:=zc x.time i_t.1 i_t.2;have a2:=zc x.who i_w.1 i_w.2;have a3:=zc x.slot i_s.1 i_s.2;have a4:=zc x.number i_n.1 i_n.2;have b1:=zbj x.text;have b2:=zbj x.result;have b3:=zbj (enc0 x.msg);have c1:(yf x.kind).length≤7:=by
  unfold yf;repeat' split
  all_goals decide
 show(Lib.join (Lib.itoa x.time::([yf x.kind,Lib.itoa x.who]++zz x)) [32]).length≤_;rw[Lib.join_length];unfold zz;repeat' split
 all_goals
  simp only[Lib.lens,List.map_cons,List.map_nil,List.cons_append,List.nil_append,List.sum_cons,List.sum_nil,zv,qA];omega
def fewLn(l:List Pt):Prop:=∀x∈l,x.msg.sz≤16777216∧x.text.length≤300000∧x.result.length≤300000∧(enc0 x.msg).length≤1100000
theorem fewLn.pts{l:List Pt}(h:fewLn l):fewPts l:=fun x hx=>⟨(h x hx).1,(h x hx).2.1⟩
def yE(l:List Pt):List UInt8:=l.flatMap yT
theorem linesOf_take(l:List Pt)(k:Nat)(hk:k<l.length):yE (l.take (k+1))=yE (l.take k)++yT l[k]:=by
 unfold yE;rw[List.take_succ_eq_append_getElem hk,qB];simp
theorem linesOf_le(l:List Pt)(k:Nat):(yE (l.take k)).length≤(yE l).length:=by
 unfold yE;conv=>rhs;rw[←qC k l,qB,qD]
 omega
def fmtT(E:List UInt8→Bool)(l:List Pt):List UInt8:=if vTr E l=0∧(yE l).length≤65536 then yE l else []
def fmtE(E:List UInt8→Bool)(l:List Pt):Int:=if vTr E l=0 then(if(yE l).length≤65536 then 0 else 3) else vTr E l
theorem zd8(A:Option Addr)(c:Nat)(l:List Pt)(w:World)(E:List UInt8→Bool)(hE:EntOk 60 E l w)(he:Env w)(hp:YA w A l)(hf:fewLn l)(hn:l.length≤1099511627776):Calls zj 31 #[.slice A l.length c] w (ZV (fmtT E l) (fmtE E l) w):=by
 have HP:=hD hp;have HEnv:=hD he;have HFew:=hD hf;have HVal:=hD (trValid_any A c l w E hE he hp hf.pts hn);clear hp hE he hf;obtain⟨vt,hvt⟩:∃vt,vt=vTr E l:=⟨_,rfl⟩;rw[←hvt]at HVal;have HVt:=hD hvt;clear hvt;go_in;go_wp2_with fail;refine HVal.mono ?_;rintro e w1 ⟨rfl,b1⟩;have HB1:=hD b1;clear b1;by_cases h0:vt=0
 case neg=>
  have q0:(vt == 0)=false:=by simpa using h0
  have q1:(vt != 0)=true:=by simpa using h0
  have HT:Hid (fmtT E l=[]∧fmtE E l=vt):=hD ⟨by unfold fmtT;rw[if_neg (fun h=>h0 (HVt.out.trans h.1))],by unfold fmtE;rw[←HVt.out,if_neg h0]⟩;clear h0;go_wp2_with fail;go_ret2;exact zeJ HT.1 HT.2 HB1
 have HV0:Hid (vTr E l=0):=hD (HVt.symm.trans h0);subst h0;have HS0:=hD (zdT w1);go_upto_region 6 with fail;generalize w1.alloc (.cells #[.pointer none,"s"] 77)=w2 at HS0⊢;have HB1s:=hD HB1.size;have HPtr:Hid (w1.heap.size=w1.heap.size):=hD rfl;go_loopw [15] (fun i wr=>∃k:Nat,i= .int .i64 k∧k≤l.length∧(yE (l.take k)).length≤65536∧BSt w1 (yE (l.take k)) wr) (fun i _=>l.length-(intOf i).toNat)
 case atStart=>exact⟨0,rfl,by omega,by simp[yE],HS0⟩
 case round=>
  obtain⟨k,rfl,hk,hA,hst⟩:=hrel;have HA:=hD hA;have HSt:=hD hst;clear hA hst;by_cases hlt:k<l.length
  · have i0':(0:Int)≤(k:Int):=by omega
    have i1:(k:Int) <(l.length:Int):=by omega
    obtain⟨b,off,hA,hg,hcc⟩:=HP.at hlt;subst hA;obtain⟨x,hx⟩:∃x,x=l[k]:=⟨_,rfl⟩;have HBw:Hid (Below w.heap.size w wr):=hD (bon HB1 HSt.2.1);have HRg:=hD (hcc wr HBw);rw[←hx]at HRg;have HXe:=hD hx;have HLn:Hid (∀W,Below w.heap.size w W→Calls zj 48 #[.agg (ptC x).toArray] W (zm (yT x) W)):=hD (fun W hW=>by
     have hm:x∈l:=hx▸qE hlt;obtain⟨f1,f2,f3,f4⟩:=HFew.out x hm;have hok:=Pt.below (HP.2 x hm) hW;exact zgh x W (HEnv.below hW) hok f1 f2 f3 f4 (line_len hok f2 f3 f4))
    have hll:(yT x).length≤100000001:=by
     have hm:x∈l:=hx▸qE hlt;obtain⟨f1,f2,f3,f4⟩:=HFew.out x hm;have:=line_len (HP.2 x hm) f2 f3 f4;simp only[yT,qD,zv,qA];omega
    clear hcc hx;have HX0:=hD (Vr.new wr (ptC pt0) 40);have HX:=hD (HX0.sets (ptC x) rfl);have HBr:=hD (zf (za wr (.cells (ptC pt0).toArray 40)) (zb (b:=wr.heap.size) (ptC x)) (Nat.le_refl _));go_upto_region 8 with(first
     |(refine wpList_load_mid rfl 40 _ rfl b (off+k * 28) rfl (ptC x) _ HRg zr rfl (zw x) ?_)
     |(refine wpList_store_mid rfl 40 _ _ rfl wr.heap.size 0 (ptC x).toArray rfl rfl ?_ (zw x) (yz x) ?_;· exact HX0.there rfl))
    try simp only[List.toList_toArray]
    clear HX0 HRg;change Code.wp _ _ _ _ ((wr.alloc (.cells (ptC pt0).toArray 40)).setCells wr.heap.size 0 (ptC x));generalize (wr.alloc (.cells (ptC pt0).toArray 40)).setCells wr.heap.size 0 (ptC x)=w3 at HX HBr⊢;generalize wr.heap.size=b3 at HX⊢;go_wp2_with (refine wpList_load_mid rfl 40 _ rfl b3 0 rfl (ptC x) _ HX.range zr rfl (zw x) ?_);refine(HLn _ (bon HBw HBr)).mono ?_;rintro e w4 ⟨rfl,hs⟩;have HSt4:=hD (bst_below HSt (bon HBr hs));clear hs;go_wp2_with fail;refine(zdV HSt4 ⟨(yT x).toArray⟩ (by have:=HA.out;simp[ByteArray.size];omega)).mono ?_;rintro e w5 ⟨rfl,hs⟩;have HSt5:Hid (BSt w1 (yE (l.take (k+1))) w5):=hD (by rw[linesOf_take l k hlt,←HXe.out];exact hs);clear hs;go_wp2_with fail;refine(Tryz.Builder_Len _ _ _ _ HSt5.1).mono ?_;rintro e w6 ⟨rfl,hw6⟩;subst hw6;rw[show(zE (yE (l.take (k+1)))).length=(yE (l.take (k+1))).length from by simp[zE]];have HLe:=hD (linesOf_le l (k+1));by_cases hbig:(yE (l.take (k+1))).length≤65536
    · have t1:¬((65536:Int) <((yE (l.take (k+1))).length:Int)):=by omega
      have HN:=hD hbig;clear hbig;go_wp2_with fail;go_roundw
      case rel=>exact⟨k+1,by go_num,by omega,HN,HSt5⟩
      case measure=>simp[intOf];omega
    · have t1:(65536:Int) <((yE (l.take (k+1))).length:Int):=by omega
      have HT:Hid (fmtT E l=[]∧fmtE E l=3):=hD (by
       have:=HLe.out;exact⟨by unfold fmtT;rw[if_neg (fun h=>by omega)],by unfold fmtE;rw[if_pos HV0.out,if_neg ja]⟩)
      have HBe:=hD (bon HB1 HSt5.2.1);clear hbig;exact fo220
  · obtain rfl:k=l.length:=by omega
    have HSt':Hid (BSt w1 (yE l) wr):=hD (by have h:=HSt.out;rwa[List.take_length]at h);have HT:Hid (fmtT E l=yE l∧fmtE E l=0):=hD (by
     have h:=HA.out;rw[List.take_length]at h;exact⟨by unfold fmtT;rw[if_pos ⟨HV0.out,h⟩],by unfold fmtE;rw[if_pos HV0.out,if_pos h]⟩)
    clear HSt;go_wp2_with fail;refine(zfm HSt'.out).mono ?_;rintro e w7 ⟨rfl,hs⟩;have HBe:=hD (bon HB1 hs);clear hs;exact fo220
def exP0:Pt:=⟨3,1,1,0,2,[103,101,116,32,97],[],ms0⟩
def exP1:Pt:=⟨5,2,1,0,2,[],[110,111,110,101],ms0⟩
def exL:List Pt:=[exP0,exP1]
def exO:Opn:=⟨1,0,1,[103,101,116,32,97],[110,111,110,101]⟩
def exT:List UInt8:=[51,32,105,110,118,111,107,101,32,49,32,50,32,34,103,101,116,32,97,34,10]
theorem exP0_ok(w:World):exP0.ok w:=⟨by simp[exP0,I64],zbL w⟩
theorem exP1_ok(w:World):exP1.ok w:=⟨by simp[exP1,I64],zbL w⟩
theorem exP0_good(E:List UInt8→Bool):zA E exP0=true:=by
 have h1:eqPt exP0 (yM exP0)=true:=by
  have e:yM exP0=exP0:=rfl;rw[e];simp[eqPt,zgt]
 have h2:opOk exP0.text=true:=by decide +kernel
 unfold zA;rw[h1,show Yl exP0=true from by decide +kernel,show whoOk exP0=true from by decide +kernel,show zd3 E exP0=(zaF exP0.number && opOk exP0.text) from rfl,h2];decide +kernel
theorem exL_valid(E:List UInt8→Bool):vTr E [exP0]=0:=by
 unfold vTr;rw[if_neg jf];have h:zaw E [exP0]=true:=by
  unfold zaw;rw[show(List.range [exP0].length)=[0] from rfl];simp only[List.all_cons,List.all_nil,Bool.and_true];rw[zbx E [exP0] 0 jf (.inl rfl)];rw[show [exP0][0]=exP0 from rfl,exP0_good];rfl
 rw[h];rfl
theorem ex_line:yT exP0=exT:=by decide +kernel
theorem ex_fmt(E:List UInt8→Bool):fmtT E [exP0]=exT∧fmtE E [exP0]=0:=by
 have h:yE [exP0]=exT:=by
  show yT exP0++ []=_;rw[ex_line,List.append_nil]
 unfold fmtT fmtE;rw[exL_valid,h];exact⟨rfl,rfl⟩
theorem ex_ops:Y5 0 exL=[exO]:=by decide +kernel
theorem enc0_ms0:(enc0 ms0).length≤1100000:=by
 unfold enc0;split
 · next h=>exact absurd h (by decide +kernel)
 · simp
theorem exL_few:fewLn [exP0]:=fun x hx=>by
 simp only[qF]at hx
 subst hx
 exact⟨zgx,by decide,by decide,enc0_ms0⟩
theorem YA.take{A:Option Addr}{l:List Pt}(h:YA w A l)(k:Nat)(_hk:k≤l.length):YA w A (l.take k):=by
 refine⟨⟨by rw[zac ptC 28 Yw],fun hj=> ?_⟩,fun x hx=>h.2 x (List.mem_of_mem_take hx)⟩;have e:l.flatMap ptC=(l.take k).flatMap ptC++(l.drop k).flatMap ptC:=by rw[←qB,qC]
 obtain⟨b,o,e1,hb,hc⟩:=h.1.cells (by rw[e,qD];omega);exact⟨b,o,e1,hb,fun j u hu=>hc j u (by rw[e,List.getElem?_append_left (List.getElem?_eq_some_iff.1 hu).1];exact hu)⟩
theorem pts_new(w:World)(l:List Pt)(hok:∀x∈l,x.ok w):YA (w.alloc (.cells (l.flatMap ptC).toArray 40)) (some ⟨w.heap.size,0,none⟩) l:=by
 refine⟨⟨zac ptC 28 Yw _,fun hj=>⟨w.heap.size,0,rfl,by simp,fun j u hu=> ?_⟩⟩,fun x hx=>Pt.below (hok x hx) (za _ _)⟩;rw[Nat.zero_add];exact(Vr.new w (l.flatMap ptC) 40).cells j u hu
theorem awake_any(w:World)(he:Env w):Calls zj 10 #[] w (zK true w):=by
 have HP:=hD (pts_new w exL (fun x hx=>by
  simp only[exL,List.mem_cons,List.not_mem_nil,or_false]at hx;rcases hx with rfl|rfl
  · exact exP0_ok w
  · exact exP1_ok w))
 have HB:=hD (za w (.cells (exL.flatMap ptC).toArray 40));have HFm:Hid (∀W A c,Below w.heap.size w W→YA W A [exP0]→Calls zj 31 #[.slice A 1 c] W (ZV exT 0 W)):=hD (fun W A c hW hp=>by
  have h:=zd8 A c [exP0] W (fun _=>false) (fun x hx h3=>by
   simp only[qF]at hx;subst hx;exact absurd h3 jf) (he.below hW) hp exL_few jf
  rw[(ex_fmt _).1,(ex_fmt _).2]at h;exact h)
 clear he;go_in;go_upto_region 2 with(first
  |(refine wpList_buildTo rfl 40 #[(0,.const (.int .i64 3)),(1,.const (.int .i64 1)),(2,.const (.int .i64 1)),(4,.const (.int .i64 2)),(5,.const (.string ⟨#[103,101,116,32,97]⟩))] rfl _ rfl (ptC exP0).toArray ?_ ?_;· kernel_rfl)
  |(refine wpList_buildTo rfl 40 #[(0,.const (.int .i64 5)),(1,.const (.int .i64 2)),(2,.const (.int .i64 1)),(4,.const (.int .i64 2)),(6,.const (.string ⟨#[110,111,110,101]⟩))] rfl _ rfl (ptC exP1).toArray ?_ ?_;· kernel_rfl)
  |(refine Go.Great.wpList_buildSliceTo rfl 22 40 2 _ rfl w.heap.size rfl _ rfl Tryz.underlying22 (exL.flatMap ptC).toArray ?_ ?_;· kernel_rfl))
 generalize w.alloc (.cells (exL.flatMap ptC).toArray 40)=w1 at HP HB⊢;generalize w.heap.size=b1 at HP⊢;have HP1:=hD (HP.take 1 jf);go_wp2_with fail;refine(HFm w1 _ _ HB HP1).mono ?_;rintro e w2 ⟨rfl,hs⟩;have HP:=hD (HP.below hs);have HB:=hD (bon HB hs);clear hs HP1;go_wp2_with fail;refine(clonePt_any _ _ exL w2 HP.1 jf).mono ?_;rintro e w3 ⟨A3,c3,rfl,hown,hs⟩;obtain⟨hp3,hc3,hm3⟩:=pts_own hown HP.2 hs;have HP3:=hD hp3;have HB:=hD (bon HB hs);clear hs hown hp3;go_wp2_with fail;refine(zem A3 c3 exL w3 HP3 jf hc3 hm3).mono ?_;rintro e w4 ⟨A4,c4,rfl,hrd,hs⟩;rw[ex_ops]at hrd;have HR4:=hD hrd;have HB:=hD (bon HB hs);clear hs hrd hc3 hm3 HP3;rw[show(Y5 0 exL).length=1 from by rw[ex_ops];rfl];have HSm:Hid (∀W b,b=W.heap.size→Below w4.heap.size w4 W→Calls zj 17 #[.slice A4 1 c4,.slice (some ⟨b,0,none⟩) 1 1] (W.alloc (.cells #[.int .i64 1,(),.int .i64 1,.string ⟨#[103,101,116,32,97]⟩,.string ⟨#[110,111,110,101]⟩] 44)) fun e w'=>e= .returned (.bool true)∧Below W.heap.size W w'):=hD (fun W b hb hW=>by
  subst hb;have h:=sameOps_any A4 (some ⟨W.heap.size,0,none⟩) c4 1 [exO] [exO] (W.alloc (.cells #[.int .i64 1,(),.int .i64 1,.string ⟨#[103,101,116,32,97]⟩,.string ⟨#[110,111,110,101]⟩] 44)) (HR4.below (bon hW (za _ _))) ⟨rfl,fun _=>⟨W.heap.size,0,rfl,by simp,fun j u hu=>by
   rw[Nat.zero_add];exact(Vr.new W (opC exO) 44).cells j u hu⟩⟩ jf jf
  exact h.mono fun e w' ⟨he,q,hw⟩=>⟨by rw[he];simp,by rw[hw];exact bon (za _ _) (draws_below _ q)⟩)
 go_wp2_with fail;refine(HSm w4 w4.heap.size rfl (Below.refl _ _)).mono ?_;rintro e w5 ⟨rfl,hs⟩;have HB:=hD (bon HB hs);clear hs;go_wp2_with fail;go_ret;exact yA rfl HB
