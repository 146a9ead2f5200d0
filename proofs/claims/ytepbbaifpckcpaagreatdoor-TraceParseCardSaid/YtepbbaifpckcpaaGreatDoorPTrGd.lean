/- The contracts of the reference's word, operation, Good. -/
import Derived.Test.YtepbbaifpckcpaaGreatDoorPTrK
import Derived.Test.YtepbbaifpckcpaaGreatDoorPSg
open Go.Proofs.Tryz
namespace Go.Proofs.YtepbbaifpckcpaaGreatDoor
set_option maxRecDepth 100000
set_option maxHeartbeats 16000000
open Go.RowKit
theorem refWd1(w:World):Calls prog 62 #[.int .i64 1] w (zm (yf 1) w):=fo17
theorem refWd2(w:World):Calls prog 62 #[.int .i64 2] w (zm (yf 2) w):=fo17
theorem refWd3(w:World):Calls prog 62 #[.int .i64 3] w (zm (yf 3) w):=fo17
theorem refWd4(w:World):Calls prog 62 #[.int .i64 4] w (zm (yf 4) w):=fo17
theorem refWd5(w:World):Calls prog 62 #[.int .i64 5] w (zm (yf 5) w):=fo17
theorem refWd6(w:World):Calls prog 62 #[.int .i64 6] w (zm (yf 6) w):=fo17
theorem refWd7(w:World):Calls prog 62 #[.int .i64 7] w (zm (yf 7) w):=fo17
theorem refWd8(w:World):Calls prog 62 #[.int .i64 8] w (zm (yf 8) w):=fo17
theorem wordK_no(k:Int)(h:k<1∨8<k):yf k=[]:=by
 unfold yf;rw[aa ja,aa ja,aa ja,aa ja,aa ja,aa ja,aa ja,aa ja]
theorem wordK_yes(k:Int)(h1:1≤k)(h8:k≤8):yf k≠ []:=by
 have:k=1∨k=2∨k=3∨k=4∨k=5∨k=6∨k=7∨k=8:=by omega
 rcases this with rfl|rfl|rfl|rfl|rfl|rfl|rfl|rfl <;> decide
theorem zbX(k:Int)(w:World):Calls prog 62 #[k] w (zm (yf k) w):=by
 by_cases h1:k<1
 · have HF:=hD (wordK_no k (.inl h1));exact fo73
 by_cases h8:8<k
 · have HF:=hD (wordK_no k (.inr h8));have h9:(9:Int)≤k:=by omega
   exact fo73
 have:k=1∨k=2∨k=3∨k=4∨k=5∨k=6∨k=7∨k=8:=by omega
 rcases this with rfl|rfl|rfl|rfl|rfl|rfl|rfl|rfl
 · exact refWd1 w
 · exact refWd2 w
 · exact refWd3 w
 · exact refWd4 w
 · exact refWd5 w
 · exact refWd6 w
 · exact refWd7 w
 · exact refWd8 w
theorem refOp_any(s:List UInt8)(w:World)(hs:s.length≤300000):Calls prog 64 #[s] w (zK (opOk s) w):=by
 have HP:=hD (refParse_any ⟨s.toArray⟩ w jds);exact fo100
theorem refGood_any(x:Pt)(w:World)(E:List UInt8→Bool)(hE:x.kind=3∨x.kind=4→∀W,Below w.heap.size w W→Calls prog 65 #[x.text] W (zK (E x.text) W))(hok:x.ok w)(hs:x.msg.sz≤16777216)(ht:x.text.length≤300000):Calls prog 37 #[.agg (ptC x).toArray] w (zK (zA E x) w):=by
 have HE:=hD hE;have HOk:=hD hok;have HS:=hD hs;have HX:=hD (Vr.new w (ptC x) 40);have HB:=hD (za w (.cells (ptC x).toArray 40));clear hE hok hs;go_in;go_upto_region 1 with fail;change Code.wp _ _ _ _ (w.alloc (.cells (ptC x).toArray 40));generalize w.alloc (.cells (ptC x).toArray 40)=w1 at HX HB⊢;have cl:=HX.lt;by_cases h0:isKind x.kind=true
 case neg=>
  have h0':isKind x.kind=false:=by simpa using h0
  have HF:Hid (zA E x=false):=hD (by unfold zA Yp;unfold isKind at h0';rw[h0'];simp);have hw0:yf x.kind=[]:=wordK_no _ (by simp only[isKind,dZ,dX]at h0';omega);have e1:(yf x.kind).isEmpty=true:=by rw[hw0];rfl
  have e2:(yf x.kind ==[])=true:=by rw[hw0];rfl
  clear hw0 h0;exact fo8
 have hw0:yf x.kind≠ []:=by
  simp only[isKind,aT,aY]at h0;exact wordK_yes _ h0.1 h0.2
 have e1:(yf x.kind).isEmpty=false:=by simpa using hw0
 have e2:(yf x.kind ==[])=false:=by simpa using hw0
 clear hw0;by_cases h1:0≤x.time
 case neg=>
  have HF:Hid (zA E x=false):=hD (by unfold zA Yp;rw[av h1];simp);have t1:x.time<0:=by omega
  have d1:decide (x.time<0)=true:=aO t1;clear h0 h1;exact fo8
 have t1:¬(x.time<0):=by omega
 have d1:decide (x.time<0)=false:=av t1;by_cases h2:0≤x.slot
 case neg=>
  have HF:Hid (zA E x=false):=hD (by unfold zA Yp;rw[av h2];simp);have t2:x.slot<0:=by omega
  have d2:decide (x.slot<0)=true:=aO t2;clear h0 h1 h2;exact fo8
 have t2:¬(x.slot<0):=by omega
 have d2:decide (x.slot<0)=false:=av t2;by_cases h3:x.slot≤2147483647
 case neg=>
  have HF:Hid (zA E x=false):=hD (by unfold zA Yp;rw[av h3];simp);have t3:2147483647<x.slot:=by omega
  have d3:decide (2147483647<x.slot)=true:=aO t3;clear h0 h1 h2 h3;exact fo8
 have t3:¬(2147483647<x.slot):=by omega
 have d3:decide (2147483647<x.slot)=false:=av t3;by_cases h4:x.result.length≤400
 case neg=>
  have HF:Hid (zA E x=false):=hD (by unfold zA Yp;rw[av h4];simp);have t4:(400:Int) <(x.result.length:Int):=by omega
  have d4:decide ((400:Int) <(x.result.length:Int))=true:=aO t4;clear h0 h1 h2 h3 h4;exact fo8
 have t4:¬((400:Int) <(x.result.length:Int)):=by omega
 have d4:decide ((400:Int) <(x.result.length:Int))=false:=av t4;have HH:Hid (Yp x=true):=hD (fo181);clear h0 h1 h2 h3 h4;cases hq:eqPt x (yJ x) with
 |false=>
  have HF:Hid (zA E x=false):=hD (by unfold zA;rw[hq];simp);have HQ:=hD hq;clear hq;go_wp2_with fail;refine aD ?_;have HX:=hD (HX.below (ae _ _).drew);have HB:=hD (HB.drew);generalize hv:w1.drew=v0 at HX HB;refine aC (S:=fun W=>World.cell? W ⟨w.heap.size,0,none⟩=some (.int .i64 x.time)∧World.cell? W ⟨w.heap.size,1,none⟩=some (.int .i64 x.kind)∧World.cell? W ⟨w.heap.size,3,none⟩=some (.int .i64 x.slot)∧World.cell? W ⟨w.heap.size,6,none⟩=some (.string ⟨x.result.toArray⟩)∧World.rangeAt W w.heap.size 0 (ptC x)) jb jv (fun hHeld=> ?_);rw[hv]at hHeld⊢;clear hv;refine takes [0,1] ?_;refine tkr 2 rfl (fun K hK=> ?_);go_simp;go_at_call 62;refine(zbX x.kind _).mono ?_;rintro e v1 ⟨rfl,hs⟩;have HX:=hD (HX.below hs);have HB:=hD (bon HB hs);clear hs;go_wp2_with fail;refine hK.out _ _ ⟨HX.cells 0 _ rfl,HX.cells 1 _ rfl,HX.cells 3 _ rfl,HX.cells 6 _ rfl,HX.range⟩ (fun hHeld=> ?_);clear hK K;try simp only[Act.put,qk1,qk2,qk3,qk4,qk5,qk6]
  refine takes [3,4,5,6,7,8,9,10,11,12,13,14,15,16,17,18,19,20,21,22,23,24,25] ?_;refine tkq 26 rfl (aM ji 40 _ ji _ 0 ji (ptC x) _ (fun W h=>h.2.2.2.2) underlying40 rfl (zw x)) je ?_;try simp only[Act.put,qk1,qk2,qk3,qk4,qk5,qk6]
  refine tkq 27 rfl (aM ji 40 _ ji _ 0 ji (ptC x) _ (fun W h=>h.2.2.2.2) underlying40 rfl (zw x)) je ?_;try simp only[Act.put,qk1,qk2,qk3,qk4,qk5,qk6]
  refine tkr 28 rfl (fun K hK=> ?_);go_simp;go_at_call 63;refine(zeW x _).mono ?_;rintro e v2 ⟨rfl,hs⟩;have HX:=hD (HX.below hs);have HB:=hD (bon HB hs);clear hs;go_wp2_with fail;refine hK.out _ _ ⟨HX.cells 0 _ rfl,HX.cells 1 _ rfl,HX.cells 3 _ rfl,HX.cells 6 _ rfl,HX.range⟩ (fun hHeld=> ?_);clear hK K;try simp only[Act.put,qk1,qk2,qk3,qk4,qk5,qk6]
  refine tkr 29 rfl (fun K hK=> ?_);go_simp;go_at_call 45;refine((HQ.out▸zaS x (yJ x) _ (Pt.below HOk HB) (kept_ok (Pt.below HOk HB)) HS (kept_sz HS))).mono ?_;rintro e v3 ⟨rfl,hs⟩;have HX:=hD (HX.below hs);have HB:=hD (bon HB hs);clear hs;go_wp2_with fail;refine hK.out _ _ ⟨HX.cells 0 _ rfl,HX.cells 1 _ rfl,HX.cells 3 _ rfl,HX.cells 6 _ rfl,HX.range⟩ (fun hHeld=> ?_);clear hK K;try simp only[Act.put,qk1,qk2,qk3,qk4,qk5,qk6]
  refine takes [30,31] ?_;exact fo287
 |true=>
  have HQ:=hD hq;clear hq;go_wp2_with fail;refine aD ?_;have HX:=hD (HX.below (ae _ _).drew);have HB:=hD (HB.drew);generalize hv:w1.drew=v0 at HX HB;refine aC (S:=fun W=>World.cell? W ⟨w.heap.size,0,none⟩=some (.int .i64 x.time)∧World.cell? W ⟨w.heap.size,1,none⟩=some (.int .i64 x.kind)∧World.cell? W ⟨w.heap.size,3,none⟩=some (.int .i64 x.slot)∧World.cell? W ⟨w.heap.size,6,none⟩=some (.string ⟨x.result.toArray⟩)∧World.rangeAt W w.heap.size 0 (ptC x)) jb jv (fun hHeld=> ?_);rw[hv]at hHeld⊢;clear hv;refine takes [0,1] ?_;refine tkr 2 rfl (fun K hK=> ?_);go_simp;go_at_call 62;refine(zbX x.kind _).mono ?_;rintro e v1 ⟨rfl,hs⟩;have HX:=hD (HX.below hs);have HB:=hD (bon HB hs);clear hs;go_wp2_with fail;refine hK.out _ _ ⟨HX.cells 0 _ rfl,HX.cells 1 _ rfl,HX.cells 3 _ rfl,HX.cells 6 _ rfl,HX.range⟩ (fun hHeld=> ?_);clear hK K;try simp only[Act.put,qk1,qk2,qk3,qk4,qk5,qk6]
  refine takes [3,4,5,6,7,8,9,10,11,12,13,14,15,16,17,18,19,20,21,22,23,24,25] ?_;refine tkq 26 rfl (aM ji 40 _ ji _ 0 ji (ptC x) _ (fun W h=>h.2.2.2.2) underlying40 rfl (zw x)) je ?_;try simp only[Act.put,qk1,qk2,qk3,qk4,qk5,qk6]
  refine tkq 27 rfl (aM ji 40 _ ji _ 0 ji (ptC x) _ (fun W h=>h.2.2.2.2) underlying40 rfl (zw x)) je ?_;try simp only[Act.put,qk1,qk2,qk3,qk4,qk5,qk6]
  refine tkr 28 rfl (fun K hK=> ?_);go_simp;go_at_call 63;refine(zeW x _).mono ?_;rintro e v2 ⟨rfl,hs⟩;have HX:=hD (HX.below hs);have HB:=hD (bon HB hs);clear hs;go_wp2_with fail;refine hK.out _ _ ⟨HX.cells 0 _ rfl,HX.cells 1 _ rfl,HX.cells 3 _ rfl,HX.cells 6 _ rfl,HX.range⟩ (fun hHeld=> ?_);clear hK K;try simp only[Act.put,qk1,qk2,qk3,qk4,qk5,qk6]
  refine tkr 29 rfl (fun K hK=> ?_);go_simp;go_at_call 45;refine((HQ.out▸zaS x (yJ x) _ (Pt.below HOk HB) (kept_ok (Pt.below HOk HB)) HS (kept_sz HS))).mono ?_;rintro e v3 ⟨rfl,hs⟩;have HX:=hD (HX.below hs);have HB:=hD (bon HB hs);clear hs;go_wp2_with fail;refine hK.out _ _ ⟨HX.cells 0 _ rfl,HX.cells 1 _ rfl,HX.cells 3 _ rfl,HX.cells 6 _ rfl,HX.range⟩ (fun hHeld=> ?_);clear hK K;try simp only[Act.put,qk1,qk2,qk3,qk4,qk5,qk6]
  refine takes [30,31] ?_;refine aB jb ?_ _;refine aA ?_;clear cl t1 t2 t3 t4 d1 d2 d3 d4 e1 e2;generalize v3=w3 at HX HB⊢;have c1:=HX.cells 1 _ rfl;have c2:=HX.cells 2 _ rfl;have c4:=HX.cells 4 _ rfl;have c5:=HX.cells 5 _ rfl;have cl:=HX.lt;go_upto_region 3 with fail;go_cut [3] from 36 to 43 (fun t wx=>t= .bool (zaF x.number)∧w3=wx)
  case first=>
   by_cases n1:1≤x.number
   case neg=>
    have n1d:decide (1≤x.number)=false:=av n1;have HNum:Hid (false=zaF x.number):=hD (by simp[zaF,n1]);clear n1;go_wp2_with fail;all_goals
     go_meet
     case rel=>exact⟨aL Value.bool HNum,rfl⟩
   have n1d:decide (1≤x.number)=true:=aO n1;have HNum:Hid (decide (x.number≤1000000)=zaF x.number):=hD (by simp[zaF,n1]);go_wp2_with fail;all_goals
    go_meet
    case rel=>exact⟨aL Value.bool (by first|exact HNum.out|simpa using HNum.out),rfl⟩
  case rest=>
   obtain⟨rfl,rfl⟩:=hcut;by_cases hk:x.kind=1
   case pos=>
    have HW:Hid (zA E x=(isCl x.who &&(zaF x.number && opOk x.text))):=hD jk;rw[hk]at c1;clear hk HH HQ;go_wp2_with fail;refine(zah x.who w3).mono ?_;rintro e wq ⟨rfl,hwq⟩;replace hwq:=hwq.symm;subst hwq;cases hp:isCl x.who with
    |false=>exact zek
    |true=>
     cases hn:zaF x.number with
     |false=>exact fo247
     |true=>
      go_wp2_with fail;refine(refOp_any x.text w3 ht).mono ?_;rintro e w4 ⟨rfl,hs⟩;have HX:=hD (HX.below hs);have HB:=hD (bon HB hs);clear hs;cases ho:opOk x.text with
      |false=>exact fo239
      |true=>
       have HF:Hid (zA E x=true):=hD (by rw[HW.out];simp[hp,ho,hn]);clear hp ho hn;exact fo16
   have nk1:=hk;clear hk;by_cases hk:x.kind=2
   case pos=>
    have HW:Hid (zA E x=(isCl x.who &&(zaF x.number))):=hD jk;rw[hk]at c1;clear hk HH HQ;go_wp2_with fail;refine(zah x.who w3).mono ?_;rintro e wq ⟨rfl,hwq⟩;replace hwq:=hwq.symm;subst hwq;cases hp:isCl x.who with
    |false=>exact zek
    |true=>
     cases hn:zaF x.number with
     |false=>exact fo247
     |true=>
      have HF:Hid (zA E x=true):=hD (by rw[HW.out];simp[hp,hn]);clear hp hn;exact fo16
   have nk2:=hk;clear hk;by_cases hk:x.kind=3
   case pos=>
    have HW:Hid (zA E x=(isCl x.who &&(E x.text))):=hD jk;have HE:=hD (HE jcw);rw[hk]at c1;clear hk HH HQ;go_wp2_with fail;refine(zah x.who w3).mono ?_;rintro e wq ⟨rfl,hwq⟩;replace hwq:=hwq.symm;subst hwq;cases hp:isCl x.who with
    |false=>exact zek
    |true=>exact fo234
   have nk3:=hk;clear hk;by_cases hk:x.kind=4
   case pos=>
    have HW:Hid (zA E x=(isSv x.who &&(E x.text))):=hD jk;have HE:=hD (HE jcw);rw[hk]at c1;clear hk HH HQ;go_wp2_with fail;refine(zab x.who w3).mono ?_;exact fo298
   have nk4:=hk;clear hk;by_cases hk:x.kind=5
   case pos=>
    have HW:Hid (zA E x=(isSv x.who &&(isCl x.number && opOk x.text))):=hD jk;rw[hk]at c1;clear hk HH HQ;go_wp2_with fail;refine(zab x.who w3).mono ?_;rintro e wq ⟨rfl,hwq⟩;replace hwq:=hwq.symm;subst hwq;cases hp:isSv x.who with
    |false=>exact zek
    |true=>
     go_wp2_with fail;refine(zah x.number w3).mono ?_;rintro e wq ⟨rfl,hwq⟩;replace hwq:=hwq.symm;subst hwq;cases hn:isCl x.number with
     |false=>exact fo247
     |true=>
      go_wp2_with fail;refine(refOp_any x.text w3 ht).mono ?_;exact fo296
   have nk5:=hk;clear hk;by_cases hk:x.kind=6
   case pos=>
    have HW:Hid (zA E x=(isSv x.who &&(decide (vMs x.msg=0) && decide (x.msg.src=x.who)))):=hD jk;rw[hk]at c1;clear hk HH HQ;go_wp2_with fail;refine(zab x.who w3).mono ?_;rintro e wq ⟨rfl,hwq⟩;replace hwq:=hwq.symm;subst hwq;cases hp:isSv x.who with
    |false=>exact zek
    |true=>
     have c8:=HX.cells 8 _ rfl;go_wp2_with (refine yC ji 38 _ rfl w.heap.size 7 rfl (msC x.msg) _ HX.msg underlying38 rfl (zD x.msg) ?_);clear c1 c2 c4 c5 c8 cl;refine(ZB x.msg w3 (Ms.below HOk.2 HB) (MsFew.of_sz (by have:=HS.out;omega))).mono ?_;exact fo238
   have nk6:=hk;clear hk;by_cases hk:x.kind=7
   case pos=>exact fo301
   have nk7:=hk;clear hk;by_cases hk:x.kind=8
   case pos=>exact fo301
   exact fo171
