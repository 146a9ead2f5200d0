/- The contract of trace.valid. -/
import Derived.Test.YtepbbaifpckcpaaGreatDoorPTrJ
import Derived.Test.YtepbbaifpckcpaaGreatDoorPTf
import Derived.Test.YtepbbaifpckcpaaGreatDoorPStE
open Go.Proofs.Tryz
namespace Go.Proofs.YtepbbaifpckcpaaGreatDoor
set_option maxRecDepth 100000
set_option maxHeartbeats 4000000
open Go.RowKit
theorem yj(k:Int)(w:World):Calls prog 58 #[k] w fun e w'=>e= .returned (.bool (ofCl k))∧w'=w:=by
 by_cases h1:k=1
 · subst h1;go_in;exact fo138
 · by_cases h2:k=2
   · subst h2;go_in;exact fo138
   · have q1:(k == 1)=false:=by simpa using h1
     have q2:(k == 2)=false:=by simpa using h2
     by_cases h3:k=3
     · have q3:(k == 3)=true:=by simpa using h3
       have HF:Hid (ofCl k=true):=hD (by simp[ofCl,h3]);clear h1 h2 h3;go_in;exact fo50
     · have q3:(k == 3)=false:=by simpa using h3
       have HF:Hid (ofCl k=false):=hD (by simp[ofCl,h1,h2,h3]);clear h1 h2 h3;go_in;exact fo50
theorem isOp_any(s:List UInt8)(w:World)(he:Env w)(hs:s.length≤300000):Calls prog 59 #[s] w (zK (opOk s) w):=by
 have HP:=hD (parse_any ⟨s.toArray⟩ w he jds);exact fo100
theorem zbK(w:World):ms0.ok w:=by
 refine⟨by simp[I64,ms0],by simp[Sg.ok,I64,ms0,sg0],⟨⟨rfl,fun h=>by simp[ms0,Sl.nil]at h⟩,fun x hx=>by simp[ms0,Sl.nil]at hx⟩,⟨⟨rfl,fun h=>by simp[ms0,Sl.nil]at h⟩,fun x hx=>by simp[ms0,Sl.nil]at hx⟩,⟨by simp[I64,ms0],⟨rfl,fun h=>by simp[ms0,Sl.nil]at h⟩,⟨⟨rfl,fun h=>by simp[ms0,Sl.nil]at h⟩,fun x hx=>by simp[ms0,Sl.nil]at hx⟩,⟨rfl,fun h=>by simp[ms0,Sl.nil]at h⟩,fun x hx=>by simp[ms0,Sl.nil]at hx⟩,⟨rfl,fun h=>by simp[ms0,Sl.nil]at h⟩⟩
theorem zgA:ms0.sz≤16777216:=by decide
theorem i64_0:I64 0:=by simp[I64]
theorem kept_ok{x:Pt}{w:World}(h:x.ok w):(yJ x).ok w:=by
 obtain⟨⟨a,b,c,d,e⟩,hm⟩:=h;unfold yJ;split
 · exact⟨⟨a,b,c,i64_0,e⟩,zbK w⟩
 · split
   · exact⟨⟨a,b,c,d,e⟩,zbK w⟩
   · split
     · exact⟨⟨a,b,c,d,i64_0⟩,zbK w⟩
     · split
       · exact⟨⟨a,b,c,i64_0,e⟩,zbK w⟩
       · split
         · exact⟨⟨a,b,c,i64_0,i64_0⟩,hm⟩
         · exact⟨⟨a,b,c,i64_0,i64_0⟩,zbK w⟩
theorem kept_sz{x:Pt}(h:x.msg.sz≤16777216):(yJ x).msg.sz≤16777216:=by
 unfold yJ;split
 · exact zgA
 · split
   · exact zgA
   · split
     · exact zgA
     · split
       · exact zgA
       · split
         · exact h
         · exact zgA
theorem zc6(x:Pt)(w:World)(E:List UInt8→Bool)(hE:x.kind=3∨x.kind=4→∀W,Below w.heap.size w W→Calls prog 60 #[x.text] W (zK (E x.text) W))(he:Env w)(hok:x.ok w)(hs:x.msg.sz≤16777216)(ht:x.text.length≤300000):Calls prog 36 #[.agg (ptC x).toArray] w (zK (zA E x) w):=by
 have HE:=hD hE;have HEnv:=hD he;have HOk:=hD hok;have HS:=hD hs;have HX:=hD (Vr.new w (ptC x) 40);have HB:=hD (za w (.cells (ptC x).toArray 40));obtain⟨bw,hlook⟩:=zf3 he x.kind hok.1.2.1;obtain⟨cg,lk, -⟩:=hlook _ HB.out;clear hE he hok hs hlook;go_in;go_upto_region 1 with fail;change Code.wp _ _ _ _ (w.alloc (.cells (ptC x).toArray 40));generalize w.alloc (.cells (ptC x).toArray 40)=w1 at HX HB cg lk⊢;have c1:=HX.cells 1 _ rfl;have cl:=HX.lt;by_cases h0:isKind x.kind=true
 case neg=>
  have h0':isKind x.kind=false:=by simpa using h0
  have HF:Hid (zA E x=false):=hD (by unfold zA Yp;unfold isKind at h0';rw[h0'];simp);rw[h0']at lk;exact fo13
 rw[h0]at lk;by_cases h1:0≤x.time
 case neg=>
  have HF:Hid (zA E x=false):=hD (by unfold zA Yp;rw[av h1];simp);have t1:x.time<0:=by omega
  have d1:decide (x.time<0)=true:=aO t1;clear h0 h1;exact fo13
 have t1:¬(x.time<0):=by omega
 have d1:decide (x.time<0)=false:=av t1;by_cases h2:0≤x.slot
 case neg=>
  have HF:Hid (zA E x=false):=hD (by unfold zA Yp;rw[av h2];simp);have t2:x.slot<0:=by omega
  have d2:decide (x.slot<0)=true:=aO t2;clear h0 h1 h2;exact fo13
 have t2:¬(x.slot<0):=by omega
 have d2:decide (x.slot<0)=false:=av t2;by_cases h3:x.slot≤2147483647
 case neg=>
  have HF:Hid (zA E x=false):=hD (by unfold zA Yp;rw[av h3];simp);have t3:2147483647<x.slot:=by omega
  have d3:decide (2147483647<x.slot)=true:=aO t3;clear h0 h1 h2 h3;exact fo13
 have t3:¬(2147483647<x.slot):=by omega
 have d3:decide (2147483647<x.slot)=false:=av t3;by_cases h4:x.result.length≤400
 case neg=>
  have HF:Hid (zA E x=false):=hD (by unfold zA Yp;rw[av h4];simp);have t4:(400:Int) <(x.result.length:Int):=by omega
  have d4:decide ((400:Int) <(x.result.length:Int))=true:=aO t4;clear h0 h1 h2 h3 h4;exact fo13
 have t4:¬((400:Int) <(x.result.length:Int)):=by omega
 have d4:decide ((400:Int) <(x.result.length:Int))=false:=av t4;have HH:Hid (Yp x=true):=hD (fo181);clear h0 h1 h2 h3 h4;cases hq:eqPt x (yJ x) with
 |false=>
  have HF:Hid (zA E x=false):=hD (by unfold zA;rw[hq];simp);have HQ:=hD hq;clear hq;go_wp2_with fail;clear c1 cg lk;refine aD ?_;have HX:=hD (HX.below (ae _ _).drew);have HB:=hD (HB.drew);generalize hv:w1.drew=v0 at HX HB;refine aC (S:=fun W=>World.cell? W ⟨w.heap.size,0,none⟩=some (.int .i64 x.time)∧World.cell? W ⟨w.heap.size,1,none⟩=some (.int .i64 x.kind)∧World.cell? W ⟨w.heap.size,3,none⟩=some (.int .i64 x.slot)∧World.cell? W ⟨w.heap.size,6,none⟩=some (.string ⟨x.result.toArray⟩)∧World.rangeAt W w.heap.size 0 (ptC x)) jb jv (fun hHeld=> ?_);rw[hv]at hHeld⊢;clear hv;refine takes [0,1,2,3,4,5,6,7,8,9,10,11,12,13,14,15,16,17,18,19,20,21,22,23] ?_;refine tkq 24 rfl (aM ji 40 _ ji _ 0 ji (ptC x) _ (fun W h=>h.2.2.2.2) underlying40 rfl (zw x)) je ?_;try simp only[Act.put,qk1,qk2,qk3,qk4,qk5,qk6]
  refine tkq 25 rfl (aM ji 40 _ ji _ 0 ji (ptC x) _ (fun W h=>h.2.2.2.2) underlying40 rfl (zw x)) je ?_;try simp only[Act.put,qk1,qk2,qk3,qk4,qk5,qk6]
  refine tkr 26 rfl (fun K hK=> ?_);go_simp;go_at_call 57;refine(zgC x _).mono ?_;rintro e v2 ⟨rfl,hs⟩;have HX:=hD (HX.below hs);have HB:=hD (bon HB hs);clear hs;go_wp2_with fail;refine hK.out _ _ ⟨HX.cells 0 _ rfl,HX.cells 1 _ rfl,HX.cells 3 _ rfl,HX.cells 6 _ rfl,HX.range⟩ (fun hHeld=> ?_);clear hK K;try simp only[Act.put,qk1,qk2,qk3,qk4,qk5,qk6]
  refine tkr 27 rfl (fun K hK=> ?_);go_simp;go_at_call 56;refine((HQ.out▸zfz x (yJ x) _ (Pt.below HOk HB) (kept_ok (Pt.below HOk HB)) HS (kept_sz HS))).mono ?_;rintro e v3 ⟨rfl,hs⟩;have HX:=hD (HX.below hs);have HB:=hD (bon HB hs);clear hs;go_wp2_with fail;refine hK.out _ _ ⟨HX.cells 0 _ rfl,HX.cells 1 _ rfl,HX.cells 3 _ rfl,HX.cells 6 _ rfl,HX.range⟩ (fun hHeld=> ?_);clear hK K;try simp only[Act.put,qk1,qk2,qk3,qk4,qk5,qk6]
  refine takes [28,29] ?_;exact fo287
 |true=>
  have HQ:=hD hq;clear hq;go_wp2_with fail;clear c1 cg lk;refine aD ?_;have HX:=hD (HX.below (ae _ _).drew);have HB:=hD (HB.drew);generalize hv:w1.drew=v0 at HX HB;refine aC (S:=fun W=>World.cell? W ⟨w.heap.size,0,none⟩=some (.int .i64 x.time)∧World.cell? W ⟨w.heap.size,1,none⟩=some (.int .i64 x.kind)∧World.cell? W ⟨w.heap.size,3,none⟩=some (.int .i64 x.slot)∧World.cell? W ⟨w.heap.size,6,none⟩=some (.string ⟨x.result.toArray⟩)∧World.rangeAt W w.heap.size 0 (ptC x)) jb jv (fun hHeld=> ?_);rw[hv]at hHeld⊢;clear hv;refine takes [0,1,2,3,4,5,6,7,8,9,10,11,12,13,14,15,16,17,18,19,20,21,22,23] ?_;refine tkq 24 rfl (aM ji 40 _ ji _ 0 ji (ptC x) _ (fun W h=>h.2.2.2.2) underlying40 rfl (zw x)) je ?_;try simp only[Act.put,qk1,qk2,qk3,qk4,qk5,qk6]
  refine tkq 25 rfl (aM ji 40 _ ji _ 0 ji (ptC x) _ (fun W h=>h.2.2.2.2) underlying40 rfl (zw x)) je ?_;try simp only[Act.put,qk1,qk2,qk3,qk4,qk5,qk6]
  refine tkr 26 rfl (fun K hK=> ?_);go_simp;go_at_call 57;refine(zgC x _).mono ?_;rintro e v2 ⟨rfl,hs⟩;have HX:=hD (HX.below hs);have HB:=hD (bon HB hs);clear hs;go_wp2_with fail;refine hK.out _ _ ⟨HX.cells 0 _ rfl,HX.cells 1 _ rfl,HX.cells 3 _ rfl,HX.cells 6 _ rfl,HX.range⟩ (fun hHeld=> ?_);clear hK K;try simp only[Act.put,qk1,qk2,qk3,qk4,qk5,qk6]
  refine tkr 27 rfl (fun K hK=> ?_);go_simp;go_at_call 56;refine((HQ.out▸zfz x (yJ x) _ (Pt.below HOk HB) (kept_ok (Pt.below HOk HB)) HS (kept_sz HS))).mono ?_;rintro e v3 ⟨rfl,hs⟩;have HX:=hD (HX.below hs);have HB:=hD (bon HB hs);clear hs;go_wp2_with fail;refine hK.out _ _ ⟨HX.cells 0 _ rfl,HX.cells 1 _ rfl,HX.cells 3 _ rfl,HX.cells 6 _ rfl,HX.range⟩ (fun hHeld=> ?_);clear hK K;try simp only[Act.put,qk1,qk2,qk3,qk4,qk5,qk6]
  refine takes [28,29] ?_;refine aB jb ?_ _;refine aA ?_;clear cl t1 t2 t3 t4 d1 d2 d3 d4;generalize v3=w3 at HX HB⊢;have c1:=HX.cells 1 _ rfl;have c2:=HX.cells 2 _ rfl;have c4:=HX.cells 4 _ rfl;have c5:=HX.cells 5 _ rfl;have cl:=HX.lt;by_cases hk:x.kind=1
  case pos=>
   have HW:Hid (zA E x=(isCl x.who &&(zaF x.number && opOk x.text))):=hD jk;rw[hk]at c1;clear hk HH HQ;go_wp2_with fail;refine(yj 1 w3).mono ?_;rintro e wq ⟨rfl,hwq⟩;replace hwq:=hwq.symm;subst hwq;rw[show ofCl 1=true from rfl];go_wp2_with fail;refine(Y0 x.who w3).mono ?_;rintro e wq ⟨rfl,hwq⟩;replace hwq:=hwq.symm;subst hwq;cases hp:isCl x.who with
   |false=>exact zek
   |true=>
    go_wp2_with fail;refine(yj 1 w3).mono ?_;rintro e wq ⟨rfl,hwq⟩;replace hwq:=hwq.symm;subst hwq;rw[show ofCl 1=true from rfl];by_cases n1:1≤x.number
    case neg=>exact fo255
    have n1d:decide (1≤x.number)=true:=aO n1;by_cases n2:x.number≤1000000
    case neg=>exact fo253
    have n2d:decide (x.number≤1000000)=true:=aO n2;go_wp2_with fail;refine(isOp_any x.text w3 (HEnv.below HB) ht).mono ?_;rintro e w4 ⟨rfl,hs⟩;have HX:=hD (HX.below hs);have HB:=hD (bon HB hs);clear hs;cases ho:opOk x.text with
    |false=>exact fo239
    |true=>
     have HF:Hid (zA E x=true):=hD (by rw[HW.out];simp[hp,ho,zaF,n1,n2]);clear hp ho n1 n2;exact fo16
  have nk1:=hk;clear hk;by_cases hk:x.kind=2
  case pos=>
   have HW:Hid (zA E x=(isCl x.who &&(zaF x.number))):=hD jk;rw[hk]at c1;clear hk HH HQ;go_wp2_with fail;refine(yj 2 w3).mono ?_;rintro e wq ⟨rfl,hwq⟩;replace hwq:=hwq.symm;subst hwq;rw[show ofCl 2=true from rfl];go_wp2_with fail;refine(Y0 x.who w3).mono ?_;rintro e wq ⟨rfl,hwq⟩;replace hwq:=hwq.symm;subst hwq;cases hp:isCl x.who with
   |false=>exact zek
   |true=>
    go_wp2_with fail;refine(yj 2 w3).mono ?_;rintro e wq ⟨rfl,hwq⟩;replace hwq:=hwq.symm;subst hwq;rw[show ofCl 2=true from rfl];by_cases n1:1≤x.number
    case neg=>exact fo255
    have n1d:decide (1≤x.number)=true:=aO n1;by_cases n2:x.number≤1000000
    case neg=>exact fo253
    have n2d:decide (x.number≤1000000)=true:=aO n2;have HF:Hid (zA E x=true):=hD (by rw[HW.out];simp[hp,zaF,n1,n2]);exact fo16
  have nk2:=hk;clear hk;by_cases hk:x.kind=3
  case pos=>
   have HW:Hid (zA E x=(isCl x.who &&(E x.text))):=hD jk;have HE:=hD (HE jcw);rw[hk]at c1;clear hk HH HQ;go_wp2_with fail;refine(yj 3 w3).mono ?_;rintro e wq ⟨rfl,hwq⟩;replace hwq:=hwq.symm;subst hwq;rw[show ofCl 3=true from rfl];go_wp2_with fail;refine(Y0 x.who w3).mono ?_;rintro e wq ⟨rfl,hwq⟩;replace hwq:=hwq.symm;subst hwq;cases hp:isCl x.who with
   |false=>exact zek
   |true=>
    go_wp2_with fail;refine(yj 3 w3).mono ?_;rintro e wq ⟨rfl,hwq⟩;replace hwq:=hwq.symm;subst hwq;rw[show ofCl 3=true from rfl];exact fo234
  have nk3:=hk;clear hk;by_cases hk:x.kind=4
  case pos=>
   have HW:Hid (zA E x=(isSv x.who &&(E x.text))):=hD jk;have HE:=hD (HE jcw);rw[hk]at c1;clear hk HH HQ;go_wp2_with fail;refine(yj 4 w3).mono ?_;rintro e wq ⟨rfl,hwq⟩;replace hwq:=hwq.symm;subst hwq;rw[show ofCl 4=false from rfl];go_wp2_with fail;refine(yj 4 w3).mono ?_;rintro e wq ⟨rfl,hwq⟩;replace hwq:=hwq.symm;subst hwq;rw[show ofCl 4=false from rfl];go_wp2_with fail;refine(zaN x.who w3).mono ?_;exact fo298
  have nk4:=hk;clear hk;by_cases hk:x.kind=5
  case pos=>
   have HW:Hid (zA E x=(isSv x.who &&(isCl x.number && opOk x.text))):=hD jk;rw[hk]at c1;clear hk HH HQ;go_wp2_with fail;refine(yj 5 w3).mono ?_;rintro e wq ⟨rfl,hwq⟩;replace hwq:=hwq.symm;subst hwq;rw[show ofCl 5=false from rfl];go_wp2_with fail;refine(yj 5 w3).mono ?_;rintro e wq ⟨rfl,hwq⟩;replace hwq:=hwq.symm;subst hwq;rw[show ofCl 5=false from rfl];go_wp2_with fail;refine(zaN x.who w3).mono ?_;rintro e wq ⟨rfl,hwq⟩;replace hwq:=hwq.symm;subst hwq;cases hp:isSv x.who with
   |false=>exact zek
   |true=>
    go_wp2_with fail;refine(Y0 x.number w3).mono ?_;rintro e wq ⟨rfl,hwq⟩;replace hwq:=hwq.symm;subst hwq;cases hn:isCl x.number with
    |false=>exact fo247
    |true=>
     go_wp2_with fail;refine(isOp_any x.text w3 (HEnv.below HB) ht).mono ?_;exact fo296
  have nk5:=hk;clear hk;by_cases hk:x.kind=6
  case pos=>
   have HW:Hid (zA E x=(isSv x.who &&(decide (vMs x.msg=0) && decide (x.msg.src=x.who)))):=hD jk;rw[hk]at c1;clear hk HH HQ;go_wp2_with fail;refine(yj 6 w3).mono ?_;rintro e wq ⟨rfl,hwq⟩;replace hwq:=hwq.symm;subst hwq;rw[show ofCl 6=false from rfl];go_wp2_with fail;refine(yj 6 w3).mono ?_;rintro e wq ⟨rfl,hwq⟩;replace hwq:=hwq.symm;subst hwq;rw[show ofCl 6=false from rfl];go_wp2_with fail;refine(zaN x.who w3).mono ?_;rintro e wq ⟨rfl,hwq⟩;replace hwq:=hwq.symm;subst hwq;cases hp:isSv x.who with
   |false=>exact zek
   |true=>
    have c8:=HX.cells 8 _ rfl;go_wp2_with (refine ak rfl 38 _ rfl w.heap.size 7 rfl (msC x.msg) _ HX.msg underlying38 rfl (zD x.msg) ?_);clear c1 c2 c4 c5 c8 cl;refine(zb5 x.msg w3 (Ms.below HOk.2 HB) (MsFew.of_sz (by have:=HS.out;omega))).mono ?_;exact fo238
  have nk6:=hk;clear hk;by_cases hk:x.kind=7
  case pos=>
   have HW:Hid (zA E x=(isSv x.who &&(true))):=hD jk;rw[hk]at c1;clear hk HH HQ;go_wp2_with fail;refine(yj 7 w3).mono ?_;rintro e wq ⟨rfl,hwq⟩;replace hwq:=hwq.symm;subst hwq;rw[show ofCl 7=false from rfl];go_wp2_with fail;refine(yj 7 w3).mono ?_;rintro e wq ⟨rfl,hwq⟩;replace hwq:=hwq.symm;subst hwq;rw[show ofCl 7=false from rfl];exact fo302
  have nk7:=hk;clear hk;by_cases hk:x.kind=8
  case pos=>
   have HW:Hid (zA E x=(isSv x.who &&(true))):=hD jk;rw[hk]at c1;clear hk HH HQ;go_wp2_with fail;refine(yj 8 w3).mono ?_;rintro e wq ⟨rfl,hwq⟩;replace hwq:=hwq.symm;subst hwq;rw[show ofCl 8=false from rfl];go_wp2_with fail;refine(yj 8 w3).mono ?_;rintro e wq ⟨rfl,hwq⟩;replace hwq:=hwq.symm;subst hwq;rw[show ofCl 8=false from rfl];exact fo302
  exact fo171
