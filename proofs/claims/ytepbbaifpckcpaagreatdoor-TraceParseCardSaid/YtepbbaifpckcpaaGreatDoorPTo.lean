/- The contract of trace.Format. -/
import Derived.Test.YtepbbaifpckcpaaGreatDoorPTrL
import Derived.Test.YtepbbaifpckcpaaGreatDoorPTrM
import Derived.Test.YtepbbaifpckcpaaGreatDoorPTb
open Go.Proofs.Tryz
namespace Go.Proofs.YtepbbaifpckcpaaGreatDoor
set_option maxRecDepth 100000
set_option maxHeartbeats 4000000
open Go.RowKit
variable{w:World}
theorem bst_below{w0 w':World}{l:List UInt8}(h:BSt w0 l w)(hb:Below w.heap.size w w'):BSt w0 l w':=by
 have go:∀p,Lib.BuilderAt 77 5 w0.heap.size w0.heap.size p (Lib.byteCells l) w→Lib.BuilderAt 77 5 w0.heap.size w0.heap.size p (Lib.byteCells l) w':=fun p hp=>by
  have hlt:=hp.lt;obtain⟨h1,v,h2,h3,h4⟩:=hp;exact⟨h1,v,(hb.block _ hlt).trans h2,ownsRow_below h3 hb,h4⟩
 refine⟨?_,bon h.2.1 hb,ah h.2.2 hb.size⟩;rcases h.1 with h1|h1
 · exact .inl (go _ h1)
 · exact .inr (go _ h1)
theorem line_len{x:Pt}(hok:x.ok w)(ht:x.text.length≤300000)(hr:x.result.length≤300000)(hm:(enc0 x.msg).length≤1100000):(Lib.join (yY x++zz x) [32]).length≤100000000:=by
 obtain⟨⟨i_t,i_k,i_w,i_s,i_n⟩, -⟩:=hok;have a1:=dB x.time i_t.1 i_t.2;have a2:=dB x.who i_w.1 i_w.2;have a3:=dB x.slot i_s.1 i_s.2;have a4:=dB x.number i_n.1 i_n.2;have b1:=za0 x.text;have b2:=za0 x.result;have b3:=za0 (enc0 x.msg);have c1:(yf x.kind).length≤7:=by
  unfold yf;repeat' split
  all_goals decide
 show(Lib.join (Lib.itoa x.time::([yf x.kind,Lib.itoa x.who]++zz x)) [32]).length≤_;rw[Lib.join_length];unfold zz;repeat' split
 all_goals
  simp only[Lib.lens,cO,dE,aZ,dF,List.sum_cons,fV,au,aJ];omega
def fewLn(l:List Pt):Prop:=∀x∈l,x.msg.sz≤16777216∧x.text.length≤300000∧x.result.length≤300000∧(enc0 x.msg).length≤1100000
theorem fewLn.pts{l:List Pt}(h:fewLn l):fewPts l:=fun x hx=>⟨(h x hx).1,(h x hx).2.1⟩
def yF(l:List Pt):List UInt8:=l.flatMap yU
theorem linesOf_take(l:List Pt)(k:Nat)(hk:k<l.length):yF (l.take (k+1))=yF (l.take k)++yU l[k]:=by
 unfold yF;rw[bq hk,bH];simp
theorem linesOf_le(l:List Pt)(k:Nat):(yF (l.take k)).length≤(yF l).length:=by
 unfold yF;conv=>rhs;rw[←fZ k l,bH,aG]
 omega
def fmtT(E:List UInt8→Bool)(l:List Pt):List UInt8:=if vTr E l=0∧(yF l).length≤65536 then yF l else []
def fmtE(E:List UInt8→Bool)(l:List Pt):Int:=if vTr E l=0 then(if(yF l).length≤65536 then 0 else 3) else vTr E l
theorem zd4(A:Option Addr)(c:Nat)(l:List Pt)(w:World)(E:List UInt8→Bool)(hE:EntOk 60 E l w)(he:Env w)(hp:Yz w A l)(hf:fewLn l)(hn:l.length≤1099511627776) :
    Calls prog 31 #[.slice A l.length c] w (ZR (fmtT E l) (fmtE E l) w):=by
 have HP:=hD hp;have HEnv:=hD he;have HFew:=hD hf;have HVal:=hD (trValid_any A c l w E hE he hp hf.pts hn);clear hp hE he hf;obtain⟨vt,hvt⟩:∃vt,vt=vTr E l:=⟨_,rfl⟩;rw[←hvt]at HVal;have HVt:=hD hvt;clear hvt;go_in;go_wp2_with fail;refine HVal.mono ?_;rintro e w1 ⟨rfl,b1⟩;have HB1:=hD b1;clear b1;by_cases h0:vt=0
 case neg=>
  have q0:(vt == 0)=false:=by simpa using h0
  have q1:(vt != 0)=true:=by simpa using h0
  have HT:Hid (fmtT E l=[]∧fmtE E l=vt):=hD ⟨by unfold fmtT;rw[aa (fun h=>h0 (HVt.out.trans h.1))],by unfold fmtE;rw[←HVt.out,aa h0]⟩;clear h0;go_wp2_with fail;go_ret2;exact zfj HT.1 HT.2 HB1
 have HV0:Hid (vTr E l=0):=hD (HVt.symm.trans h0);subst h0;have HS0:=hD (zdJ w1);go_upto_region 6 with fail;generalize w1.alloc (.cells #[.pointer none,"s"] 77)=w2 at HS0⊢;have HB1s:=hD HB1.size;have HPtr:Hid (w1.heap.size=w1.heap.size):=hD rfl;go_loopw [15] (fun i wr=>∃k:Nat,i= .int .i64 k∧k≤l.length∧(yF (l.take k)).length≤65536∧BSt w1 (yF (l.take k)) wr) (fun i _=>l.length-(intOf i).toNat)
 case atStart=>exact⟨0,rfl,by omega,by simp[yF],HS0⟩
 case round=>
  obtain⟨k,rfl,hk,hA,hst⟩:=hrel;have HA:=hD hA;have HSt:=hD hst;clear hA hst;by_cases hlt:k<l.length
  · have i0':(0:Int)≤(k:Int):=by omega
    have i1:(k:Int) <(l.length:Int):=by omega
    obtain⟨b,off,hA,hg,hcc⟩:=HP.at hlt;subst hA;obtain⟨x,hx⟩:∃x,x=l[k]:=⟨_,rfl⟩;have HBw:Hid (Below w.heap.size w wr):=hD (bon HB1 HSt.2.1);have HRg:=hD (hcc wr HBw);rw[←hx]at HRg;have HXe:=hD hx;have HLn:Hid (∀W,Below w.heap.size w W→Calls prog 48 #[.agg (ptC x).toArray] W (zm (yU x) W)):=hD (fun W hW=>by
     have hm:x∈l:=hx▸aH hlt;obtain⟨f1,f2,f3,f4⟩:=HFew.out x hm;have hok:=Pt.below (HP.2 x hm) hW;exact zgs x W (HEnv.below hW) hok f1 f2 f3 f4 (line_len hok f2 f3 f4))
    have hll:(yU x).length≤100000001:=by
     have hm:x∈l:=hx▸aH hlt;obtain⟨f1,f2,f3,f4⟩:=HFew.out x hm;have:=line_len (HP.2 x hm) f2 f3 f4;simp only[yU,aG,au,aJ];omega
    clear hcc hx;have HX0:=hD (Vr.new wr (ptC pt0) 40);have HX:=hD (HX0.sets (ptC x) rfl);have HBr:=hD (zf (za wr (.cells (ptC pt0).toArray 40)) (zb (b:=wr.heap.size) (ptC x)) (ag _));go_upto_region 8 with(first
     |(refine ak rfl 40 _ rfl b (off+k * 28) rfl (ptC x) _ HRg underlying40 rfl (zw x) ?_)
     |(refine ai rfl 40 _ _ rfl wr.heap.size 0 (ptC x).toArray rfl rfl ?_ (zw x) (yz x) ?_;· exact HX0.there rfl))
    try simp only[ay]
    clear HX0 HRg;change Code.wp _ _ _ _ ((wr.alloc (.cells (ptC pt0).toArray 40)).setCells wr.heap.size 0 (ptC x));generalize (wr.alloc (.cells (ptC pt0).toArray 40)).setCells wr.heap.size 0 (ptC x)=w3 at HX HBr⊢;generalize wr.heap.size=b3 at HX⊢;go_wp2_with (refine ak rfl 40 _ rfl b3 0 rfl (ptC x) _ HX.range underlying40 rfl (zw x) ?_);refine(HLn _ (bon HBw HBr)).mono ?_;rintro e w4 ⟨rfl,hs⟩;have HSt4:=hD (bst_below HSt (bon HBr hs));clear hs;go_wp2_with fail;refine(zdV HSt4 ⟨(yU x).toArray⟩ (by have:=HA.out;simp[ByteArray.size];omega)).mono ?_;rintro e w5 ⟨rfl,hs⟩;have HSt5:Hid (BSt w1 (yF (l.take (k+1))) w5):=hD (by rw[linesOf_take l k hlt,←HXe.out];exact hs);clear hs;go_wp2_with fail;refine(Tryz.Builder_Len _ _ _ _ HSt5.1).mono ?_;rintro e w6 ⟨rfl,hw6⟩;subst hw6;rw[show(Lib.byteCells (yF (l.take (k+1)))).length=(yF (l.take (k+1))).length from by simp[Lib.byteCells]];have HLe:=hD (linesOf_le l (k+1));by_cases hbig:(yF (l.take (k+1))).length≤65536
    · have t1:¬((65536:Int) <((yF (l.take (k+1))).length:Int)):=by omega
      have HN:=hD hbig;clear hbig;go_wp2_with fail;go_roundw
      case rel=>exact⟨k+1,by go_num,by omega,HN,HSt5⟩
      case measure=>simp[intOf];omega
    · have t1:(65536:Int) <((yF (l.take (k+1))).length:Int):=by omega
      have HT:Hid (fmtT E l=[]∧fmtE E l=3):=hD (by
       have:=HLe.out;exact⟨by unfold fmtT;rw[aa (fun h=>by omega)],by unfold fmtE;rw[af HV0.out,aa ja]⟩)
      have HBe:=hD (bon HB1 HSt5.2.1);clear hbig;exact fo220
  · obtain rfl:k=l.length:=by omega
    have HSt':Hid (BSt w1 (yF l) wr):=hD (by have h:=HSt.out;rwa[dN]at h);have HT:Hid (fmtT E l=yF l∧fmtE E l=0):=hD (by
     have h:=HA.out;rw[dN]at h;exact⟨by unfold fmtT;rw[af ⟨HV0.out,h⟩],by unfold fmtE;rw[af HV0.out,af h]⟩)
    clear HSt;go_wp2_with fail;refine(zfF HSt'.out).mono ?_;rintro e w7 ⟨rfl,hs⟩;have HBe:=hD (bon HB1 hs);clear hs;exact fo220
def exP0:Pt:=⟨3,1,1,0,2,[103,101,116,32,97],[],ms0⟩
def exP1:Pt:=⟨5,2,1,0,2,[],[110,111,110,101],ms0⟩
def exL:List Pt:=[exP0,exP1]
def exO:Opn:=⟨1,0,1,[103,101,116,32,97],[110,111,110,101]⟩
def exT:List UInt8:=[51,32,105,110,118,111,107,101,32,49,32,50,32,34,103,101,116,32,97,34,10]
theorem exP0_ok(w:World):exP0.ok w:=⟨by simp[exP0,I64],zbK w⟩
theorem exP1_ok(w:World):exP1.ok w:=⟨by simp[exP1,I64],zbK w⟩
theorem exP0_good(E:List UInt8→Bool):zA E exP0=true:=by
 have h1:eqPt exP0 (yJ exP0)=true:=by
  have e:yJ exP0=exP0:=rfl;rw[e];simp[eqPt,zf2]
 have h2:opOk exP0.text=true:=by decide +kernel
 unfold zA;rw[h1,show Yp exP0=true from by decide +kernel,show whoOk exP0=true from by decide +kernel,show zd3 E exP0=(zaF exP0.number && opOk exP0.text) from rfl,h2];decide +kernel
theorem exL_valid(E:List UInt8→Bool):vTr E [exP0]=0:=by
 unfold vTr;rw[aa jf];have h:zan E [exP0]=true:=by
  unfold zan;rw[show(List.range [exP0].length)=[0] from rfl];simp only[eu,fJ,dA];rw[zbs E [exP0] 0 jf (.inl rfl)];rw[show [exP0][0]=exP0 from rfl,exP0_good];rfl
 rw[h];rfl
theorem ex_line:yU exP0=exT:=by decide +kernel
theorem ex_fmt(E:List UInt8→Bool):fmtT E [exP0]=exT∧fmtE E [exP0]=0:=by
 have h:yF [exP0]=exT:=by
  show yU exP0++ []=_;rw[ex_line,bE]
 unfold fmtT fmtE;rw[exL_valid,h];exact⟨rfl,rfl⟩
theorem ex_ops:Y4 0 exL=[exO]:=by decide +kernel
theorem enc0_ms0:(enc0 ms0).length≤1100000:=by
 unfold enc0;split
 · next h=>exact absurd h (by decide +kernel)
 · simp
theorem exL_few:fewLn [exP0]:=fun x hx=>by
 simp only[dn]at hx
 subst hx
 exact⟨zgA,by decide,by decide,enc0_ms0⟩
theorem Yz.take{A:Option Addr}{l:List Pt}(h:Yz w A l)(k:Nat)(_hk:k≤l.length):Yz w A (l.take k):=by
 refine⟨⟨by rw[zaf ptC 28 Yy],fun hj=> ?_⟩,fun x hx=>h.2 x (ic hx)⟩;have e:l.flatMap ptC=(l.take k).flatMap ptC++(l.drop k).flatMap ptC:=by rw[←bH,fZ]
 obtain⟨b,o,e1,hb,hc⟩:=h.1.cells (by rw[e,aG];omega);exact⟨b,o,e1,hb,fun j u hu=>hc j u (by rw[e,dh (dD.1 hu).1];exact hu)⟩
theorem pts_new(w:World)(l:List Pt)(hok:∀x∈l,x.ok w):Yz (w.alloc (.cells (l.flatMap ptC).toArray 40)) (some ⟨w.heap.size,0,none⟩) l:=by
 refine⟨⟨zaf ptC 28 Yy _,fun hj=>⟨w.heap.size,0,rfl,by simp,fun j u hu=> ?_⟩⟩,fun x hx=>Pt.below (hok x hx) (za _ _)⟩;rw[bI];exact(Vr.new w (l.flatMap ptC) 40).cells j u hu
theorem awake_any(w:World)(he:Env w):Calls prog 10 #[] w (zK true w):=by
 have HP:=hD (pts_new w exL (fun x hx=>by
  simp only[exL,bC,eH,eP]at hx;rcases hx with rfl|rfl
  · exact exP0_ok w
  · exact exP1_ok w))
 have HB:=hD (za w (.cells (exL.flatMap ptC).toArray 40));have HFm:Hid (∀W A c,Below w.heap.size w W→Yz W A [exP0]→Calls prog 31 #[.slice A 1 c] W (ZR exT 0 W)):=hD (fun W A c hW hp=>by
  have h:=zd4 A c [exP0] W (fun _=>false) (fun x hx h3=>by
   simp only[dn]at hx;subst hx;exact absurd h3 jf) (he.below hW) hp exL_few jf
  rw[(ex_fmt _).1,(ex_fmt _).2]at h;exact h)
 clear he;go_in;go_upto_region 2 with(first
  |(refine bV rfl 40 #[(0,.const (.int .i64 3)),(1,.const (.int .i64 1)),(2,.const (.int .i64 1)),(4,.const (.int .i64 2)),(5,.const (.string ⟨#[103,101,116,32,97]⟩))] rfl _ rfl (ptC exP0).toArray ?_ ?_;· kernel_rfl)
  |(refine bV rfl 40 #[(0,.const (.int .i64 5)),(1,.const (.int .i64 2)),(2,.const (.int .i64 1)),(4,.const (.int .i64 2)),(6,.const (.string ⟨#[110,111,110,101]⟩))] rfl _ rfl (ptC exP1).toArray ?_ ?_;· kernel_rfl)
  |(refine gJ rfl 22 40 2 _ rfl w.heap.size rfl _ rfl underlying22 (exL.flatMap ptC).toArray ?_ ?_;· kernel_rfl))
 generalize w.alloc (.cells (exL.flatMap ptC).toArray 40)=w1 at HP HB⊢;generalize w.heap.size=b1 at HP⊢;have HP1:=hD (HP.take 1 jf);go_wp2_with fail;refine(HFm w1 _ _ HB HP1).mono ?_;rintro e w2 ⟨rfl,hs⟩;have HP:=hD (HP.below hs);have HB:=hD (bon HB hs);clear hs HP1;go_wp2_with fail;refine(clonePt_any _ _ exL w2 HP.1 jf).mono ?_;rintro e w3 ⟨A3,c3,rfl,hown,hs⟩;obtain⟨hp3,hc3,hm3⟩:=pts_own hown HP.2 hs;have HP3:=hD hp3;have HB:=hD (bon HB hs);clear hs hown hp3;go_wp2_with fail;refine(zeh A3 c3 exL w3 HP3 jf hc3 hm3).mono ?_;rintro e w4 ⟨A4,c4,rfl,hrd,hs⟩;rw[ex_ops]at hrd;have HR4:=hD hrd;have HB:=hD (bon HB hs);clear hs hrd hc3 hm3 HP3;rw[show(Y4 0 exL).length=1 from by rw[ex_ops];rfl];have HSm:Hid (∀W b,b=W.heap.size→Below w4.heap.size w4 W→Calls prog 17 #[.slice A4 1 c4,.slice (some ⟨b,0,none⟩) 1 1] (W.alloc (.cells #[.int .i64 1,(),.int .i64 1,.string ⟨#[103,101,116,32,97]⟩,.string ⟨#[110,111,110,101]⟩] 44)) fun e w'=>e= .returned (.bool true)∧Below W.heap.size W w'):=hD (fun W b hb hW=>by
  subst hb;have h:=sameOps_any A4 (some ⟨W.heap.size,0,none⟩) c4 1 [exO] [exO] (W.alloc (.cells #[.int .i64 1,(),.int .i64 1,.string ⟨#[103,101,116,32,97]⟩,.string ⟨#[110,111,110,101]⟩] 44)) (HR4.below (bon hW (za _ _))) ⟨rfl,fun _=>⟨W.heap.size,0,rfl,by simp,fun j u hu=>by
   rw[bI];exact(Vr.new W (opC exO) 44).cells j u hu⟩⟩ jf jf
  exact h.mono fun e w' ⟨he,q,hw⟩=>⟨by rw[he];simp,by rw[hw];exact bon (za _ _) (draws_below _ q)⟩)
 go_wp2_with fail;refine(HSm w4 w4.heap.size rfl (ae _ _)).mono ?_;rintro e w5 ⟨rfl,hs⟩;have HB:=hD (bon HB hs);clear hs;go_wp2_with fail;go_ret;exact yA rfl HB
