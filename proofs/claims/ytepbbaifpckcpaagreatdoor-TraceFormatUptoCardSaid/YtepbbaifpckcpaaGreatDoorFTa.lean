/- Equal of messages, on both sides. -/
import Derived.Deep.Cut
import Derived.Maps.OwnSet
import Derived.Maps.StringElems
import Derived.Lib.SmallJoins
import Derived.Test.YtepbbaifpckcpaaGreatDoorFPl
import Derived.Test.YtepbbaifpckcpaaGreatDoorFMs
import Derived.Test.YtepbbaifpckcpaaGreatDoorFFo
namespace Go.Proofs.YtepbbaifpckcpaaGreatDoor
set_option maxRecDepth 100000
set_option maxHeartbeats 8000000
open Go.RowKit
def zcf (a b:List UInt8):Bool:=a == b
theorem zcN (a:List UInt8):zcf a a=true:=by simp [zcf]
theorem two_boxes (a b:Ms) (w wq:World) (T:TypeId) (h:wq=(w.alloc (.cells (msC a).toArray T)).alloc (.cells (msC b).toArray T)) :
    Hid (∀W,Below wq.heap.size wq W→W.rangeAt w.heap.size 0 (msC a))∧Hid (∀W,Below wq.heap.size wq W→W.rangeAt (w.heap.size+1) 0 (msC b))∧Hid (∀W,Below wq.heap.size wq W→Below w.heap.size w W):=by
 have h1:Bx w (msC a) T wq:=by rw [h];exact yh (Zk _ _ _) _
 have h2:∀j v,(msC b)[j]? =some v→wq.cell? ⟨w.heap.size+1,j,none⟩=some v:=fun j v hv=>by rw [h];exact zb6 _ (msC b) T _ jd j v hv
 have hs:wq.heap.size=w.heap.size+2:=by rw [h];simp
 refine⟨hD (fun W hb j v hv=> ?_),hD (fun W hb j v hv=> ?_),hD (fun W hb=>(zu h1).trans (hb.mono ja))⟩
 · rw [Nat.zero_add];exact(hb.cell (p:=⟨w.heap.size,j,none⟩) jo).trans (ze h1 j v hv)
 · rw [Nat.zero_add];exact(hb.cell (p:=⟨w.heap.size+1,j,none⟩) (by show w.heap.size+1< _;omega)).trans (h2 j v hv)
theorem msgEqual_any (a b:Ms) (w:World) (ha:a.ok w) (hb:b.ok w) (sa:a.sz≤16777216) (sb:b.sz≤16777216):Calls Tryz.prog 92 #[.agg (msC a).toArray, .agg (msC b).toArray] w (zC (zcf (yO a) (yO b)) w):=by
 obtain⟨wq,hwq⟩:∃wq,wq=(w.alloc (.cells (msC a).toArray 38)).alloc (.cells (msC b).toArray 38):=⟨_,rfl⟩;obtain⟨HRa,HRb,HLow⟩:=two_boxes a b w wq 38 hwq;have HCa:Hid (∀W,Below wq.heap.size wq W→Calls Tryz.prog 115 #[.agg (msC a).toArray] W fun e W'=>e= .returned (.string ⟨(yO a).toArray⟩)∧Below wq.heap.size wq W'):=hD (fun W h=>(code_any a W (Ms.below ha (HLow.out W h)) sa).mono fun e W' ⟨he,hw⟩=>⟨he,bon h hw⟩);have HCb:Hid (∀W,Below wq.heap.size wq W→Calls Tryz.prog 115 #[.agg (msC b).toArray] W fun e W'=>e= .returned (.string ⟨(yO b).toArray⟩)∧Below wq.heap.size wq W'):=hD (fun W h=>(code_any b W (Ms.below hb (HLow.out W h)) sb).mono fun e W' ⟨he,hw⟩=>⟨he,bon h hw⟩);have HWq:=hD hwq;clear ha hb sa sb hwq;generalize yO a=la at HCa⊢;generalize yO b=lb at HCb⊢;go_in;go_upto_region 1 with fail;rw [←HWq.out];refine wp_region_noPanic ?_;refine wp_region_held_drew (S:=fun W=>Below wq.heap.size wq W) jc ((Below.refl _ _).drew) (fun hHeld=> ?_);refine tkq 0 rfl (yieldsIf_load_mid jq 38 _ jq _ 0 jq (msC a) _ HRa.out Tryz.underlying38 rfl (zbt a)) je ?_;try simp only [Act.put,qk1]
 refine tkq 2 rfl (yieldsIf_load_mid jq 38 _ jq _ 0 jq (msC b) _ HRb.out Tryz.underlying38 rfl (zbt b)) je ?_;try simp only [Act.put]
 refine tkr 1 rfl (fun K hK=> ?_);go_simp;go_at_call 115;refine(HCa.out _ je).mono ?_;rintro e w4 ⟨rfl,b4⟩;go_wp2_with fail;refine hK.out _ _ b4 (fun hHeld=> ?_);clear hK K;try simp only [Act.put,qk1,qk2,qk3]
 refine tkr 3 rfl (fun K hK=> ?_);go_simp;go_at_call 115;refine(HCb.out _ je).mono ?_;rintro e w5 ⟨rfl,b5⟩;go_wp2_with fail;refine hK.out _ _ b5 (fun hHeld=> ?_);clear hK K;try simp only [Act.put,qk1,qk2,qk3]
 refine takes [4] ?_;refine tkr 5 rfl (fun K hK=> ?_);go_simp;refine hK.out _ _ b5 (fun hHeld=> ?_);clear hK K;try simp only [Act.put,qk1,qk2,qk3]
 refine wpAnyH_done jc ?_ _;refine NoPanic.normal ?_;go_wp2_with fail;go_ret;exact zz rfl (HLow.out _ b5)
theorem refEqual_any (a b:Ms) (w:World) (ha:a.ok w) (hb:b.ok w) (sa:a.sz≤16777216) (sb:b.sz≤16777216):Calls Tryz.prog 25 #[.agg (msC a).toArray, .agg (msC b).toArray] w (zC (zcf (yO a) (yO b)) w):=by
 obtain⟨wq,hwq⟩:∃wq,wq=(w.alloc (.cells (msC a).toArray 38)).alloc (.cells (msC b).toArray 38):=⟨_,rfl⟩;obtain⟨HRa,HRb,HLow⟩:=two_boxes a b w wq 38 hwq;have HCa:Hid (∀W,Below wq.heap.size wq W→Calls Tryz.prog 46 #[.agg (msC a).toArray] W fun e W'=>e= .returned (.string ⟨(yO a).toArray⟩)∧Below wq.heap.size wq W'):=hD (fun W h=>(YH a W (Ms.below ha (HLow.out W h)) sa).mono fun e W' ⟨he,hw⟩=>⟨he,bon h hw⟩);have HCb:Hid (∀W,Below wq.heap.size wq W→Calls Tryz.prog 46 #[.agg (msC b).toArray] W fun e W'=>e= .returned (.string ⟨(yO b).toArray⟩)∧Below wq.heap.size wq W'):=hD (fun W h=>(YH b W (Ms.below hb (HLow.out W h)) sb).mono fun e W' ⟨he,hw⟩=>⟨he,bon h hw⟩);have HWq:=hD hwq;clear ha hb sa sb hwq;generalize yO a=la at HCa⊢;generalize yO b=lb at HCb⊢;go_in;go_upto_region 1 with fail;rw [←HWq.out];refine wp_region_noPanic ?_;refine wp_region_held_drew (S:=fun W=>Below wq.heap.size wq W) jc ((Below.refl _ _).drew) (fun hHeld=> ?_);refine tkq 0 rfl (yieldsIf_load_mid jq 38 _ jq _ 0 jq (msC a) _ HRa.out Tryz.underlying38 rfl (zbt a)) je ?_;try simp only [Act.put,qk1]
 refine tkq 2 rfl (yieldsIf_load_mid jq 38 _ jq _ 0 jq (msC b) _ HRb.out Tryz.underlying38 rfl (zbt b)) je ?_;try simp only [Act.put]
 refine tkr 1 rfl (fun K hK=> ?_);go_simp;go_at_call 46;refine(HCa.out _ je).mono ?_;rintro e w4 ⟨rfl,b4⟩;go_wp2_with fail;refine hK.out _ _ b4 (fun hHeld=> ?_);clear hK K;try simp only [Act.put,qk1,qk2,qk3]
 refine tkr 3 rfl (fun K hK=> ?_);go_simp;go_at_call 46;refine(HCb.out _ je).mono ?_;rintro e w5 ⟨rfl,b5⟩;go_wp2_with fail;refine hK.out _ _ b5 (fun hHeld=> ?_);clear hK K;try simp only [Act.put,qk1,qk2,qk3]
 refine takes [4] ?_;refine tkr 5 rfl (fun K hK=> ?_);go_simp;refine hK.out _ _ b5 (fun hHeld=> ?_);clear hK K;try simp only [Act.put,qk1,qk2,qk3]
 refine wpAnyH_done jc ?_ _;refine NoPanic.normal ?_;go_wp2_with fail;go_ret;exact zz rfl (HLow.out _ b5)
set_option maxRecDepth 100000
set_option maxHeartbeats 2000000
open Go.RowKit
theorem zw (x:Pt):(Tryz.prog.info? 40).map (·.size)=some (ptC x).length:=by
 have:(Tryz.prog.info? 40).map (·.size)=some 28:=by kernel_rfl
 exact this
theorem yG (x:Pt):(ptC x).toArray.all (·.oneCell')=true:=by
 have h:=yR x.msg;rw [List.all_toArray] at h⊢;unfold ptC;rw [List.all_append,h,Bool.and_true];simp [ptH,Value.oneCell']
def pt0:Pt:=⟨0,0,0,0,0, [], [],ms0⟩
theorem Vr.msg {w:World} {b:Nat} {x:Pt} (h:Vr w b (ptC x)):w.rangeAt b 7 (msC x.msg):=fun j v hv=>h.cells (7+j) v (by rw [ptC_msg];exact hv)
theorem Yt (n:Int) (w:World):Calls Tryz.prog 38 #[.int .i64 n] w fun e w'=>e= .returned (.bool (isCl n))∧w'=w:=fo166
theorem YK (n:Int) (w:World):Calls Tryz.prog 42 #[.int .i64 n] w fun e w'=>e= .returned (.bool (isCl n))∧w'=w:=fo166
theorem Yu (n:Int) (w:World):Calls Tryz.prog 41 #[.int .i64 n] w fun e w'=>e= .returned (.bool (isSv n))∧w'=w:=fo165
theorem YE (n:Int) (w:World):Calls Tryz.prog 43 #[.int .i64 n] w fun e w'=>e= .returned (.bool (isSv n))∧w'=w:=fo165
theorem few53_any (A:Option Addr) (c:Nat) (l:List Pt) (w:World) (hp:ZV w A l) (hs:∀x∈l,x.msg.sz≤16777216) (hn:l.length≤1099511627776) :
    Calls Tryz.prog 11 #[.slice A l.length c] w (zC (zbb l) w):=by
 have HP:=hD hp;have HS:=hD hs;clear hp hs;have HB0:=hD (Below.refl w.heap.size w);go_in;go_wp2_with fail;go_loopw [3] (fun i wr=>∃k:Nat,i= .int .i64 k∧k≤l.length∧(l.take k).all zde=true∧Below w.heap.size w wr) (fun i _=>l.length-(intOf i).toNat)
 case atStart=>exact⟨0,rfl,by omega,by simp,HB0.out⟩
 case round=>
  obtain⟨k,rfl,hk,hA,hB0⟩:=hrel;have HA:=hD hA;have HB:=hD hB0;clear hA hB0;by_cases hlt:k<l.length
  · have i0':(0:Int)≤(k:Int):=by omega
    have i1:(k:Int) <(l.length:Int):=by omega
    obtain⟨b,off,rfl,hg,hcc⟩:=HP.out.at hlt;obtain⟨x,hx⟩:∃x,x=l[k]:=⟨_,rfl⟩;have HRg:=hD (hcc wr HB.out);rw [←hx] at HRg;have HT:Hid ((l.take (k+1)).all zde=zde x):=hD (by rw [Zr l zde k hlt,HA.out,hx];rfl);have HN:Hid (zde x=false→zbb l=false):=hD (fun h=>by unfold zbb;rw [ZM l zde k hlt (by rw [←hx];exact h)];rfl);have HF:Hid (∀W,Below w.heap.size w W→Calls Tryz.prog 35 #[.agg (msC x.msg).toArray] W (zC (zeY x.msg) W)):=hD (fun W hW=>few_any x.msg W (Ms.below (HP.out.2 x (hx▸List.getElem_mem hlt)).2 hW) (HS.out x (hx▸List.getElem_mem hlt)));have HX0:=hD (Vr.new wr (ptC pt0) 40);have HX:=hD (HX0.out.sets (ptC x) rfl);have HB3:=hD (zh (bon HB.out (za wr (.cells (ptC pt0).toArray 40))) (zf (b:=wr.heap.size) (ptC x)) HB.out.size);clear hcc hx;go_upto_region 5 with(first
     |(refine wpList_load_mid rfl 40 _ rfl b (off+k * 28) rfl (ptC x) _ HRg.out Tryz.underlying40 rfl (zw x) ?_)
     |(refine wpList_store_mid rfl 40 _ _ rfl wr.heap.size 0 (ptC x).toArray rfl rfl ?_ (zw x) (yG x) ?_;· exact HX0.out.there rfl))
    try simp only [List.toList_toArray]
    clear HX0 HRg;change Code.wp _ _ _ _ ((wr.alloc (.cells (ptC pt0).toArray 40)).setCells wr.heap.size 0 (ptC x));generalize (wr.alloc (.cells (ptC pt0).toArray 40)).setCells wr.heap.size 0 (ptC x)=w3 at HX HB3⊢;generalize wr.heap.size=b3 at HX⊢;have c5:=HX.out.cells 5 _ rfl;have c6:=HX.out.cells 6 _ rfl;have l3:=HX.out.lt;by_cases h1:x.text.length≤2100
    · have k1:¬((2100:Int) <(x.text.length:Int)):=by omega
      by_cases h2:x.result.length≤500
      · have k2:¬((500:Int) <(x.result.length:Int)):=by omega
        have HZ:Hid (zde x=zeY x.msg):=hD (by simp [zde,h1,h2]);go_wp2_with (refine Zl jq 38 _ rfl b3 7 rfl (msC x.msg) _ HX.out.msg Tryz.underlying38 rfl (zT x.msg) ?_);refine(HF.out _ HB3.out).mono ?_;rintro e w4 ⟨rfl,b4⟩;have HB4:=hD (bon HB3.out b4);clear b4;cases hq:zeY x.msg with
        |false=>
         have HR:Hid (zbb l=false):=hD (HN.out (by rw [HZ.out,hq]));clear hq;go_wp2_with fail;go_ret;exact zz HR.out HB4.out
        |true=>
         have HR:Hid ((l.take (k+1)).all zde=true):=hD (by rw [HT.out,HZ.out,hq]);clear hq;go_wp2_with fail;go_roundw
         case rel=>exact⟨k+1,by go_num,by omega,HR.out,HB4.out⟩
         case measure=>simp [intOf];omega
      · have k2:(500:Int) <(x.result.length:Int):=by omega
        have HR:Hid (zbb l=false):=hD (HN.out (by simp [zde,h2]));go_wp2_with fail;go_ret;exact zz HR.out HB3.out
    · have k1:(2100:Int) <(x.text.length:Int):=by omega
      have HR:Hid (zbb l=false):=hD (HN.out (by simp [zde,h1]));go_wp2_with fail;go_ret;exact zz HR.out HB3.out
  · obtain rfl:k=l.length:=by omega
    have HE:Hid (decide ((l.length:Int)≤40)=zbb l):=hD (by
     have:=HA.out;rw [List.take_length] at this;unfold zbb;rw [this,Bool.true_and,Bool.eq_iff_iff];simp;omega)
    go_wp2_with fail;go_ret;exact zz HE.out.symm HB.out
open Go.RowKit
/-! operations begin in ascending order, and end behind -/
/-! logs -/
/-! messages -/
/-! valid points -/
def yn (x:Pt):Pt:=
 if x.kind=1 then⟨x.time,x.kind,x.who,0,x.number,x.text, [],ms0⟩ else if x.kind=2 then⟨x.time,x.kind,x.who,x.slot,x.number, [],x.result,ms0⟩ else if x.kind=3∨x.kind=4 then⟨x.time,x.kind,x.who,x.slot,0,x.text, [],ms0⟩ else if x.kind=5 then⟨x.time,x.kind,x.who,0,x.number,x.text,x.result,ms0⟩ else if x.kind=6 then⟨x.time,x.kind,x.who,0,0, [], [],x.msg⟩ else⟨x.time,x.kind,x.who,0,0, [], [],ms0⟩
def eqPt (a b:Pt):Bool:=decide (a.time=b.time) && decide (a.kind=b.kind) && decide (a.who=b.who) && decide (a.slot=b.slot) && decide (a.number=b.number) && decide (a.text=b.text) && decide (a.result=b.result) && zcf (yO a.msg) (yO b.msg)
def ofCl (k:Int):Bool:=decide (k=1) || decide (k=2) || decide (k=3)
def zab (n:Int):Bool:=decide (1≤n) && decide (n≤1000000)
def zbi (E:List UInt8→Bool) (x:Pt):Bool:=
 if x.kind=1 then zab x.number && opOk x.text else if x.kind=2 then zab x.number else if x.kind=3∨x.kind=4 then E x.text else if x.kind=5 then isCl x.number && opOk x.text else if x.kind=6 then decide (vMs x.msg=0) && decide (x.msg.src=x.who) else true
def whoOk (x:Pt):Bool:=if ofCl x.kind then isCl x.who else isSv x.who
def Z5 (x:Pt):Bool:=decide (1≤x.kind) && decide (x.kind≤8) && decide (0≤x.time) && decide (0≤x.slot) && decide (x.slot≤2147483647) && decide (x.result.length≤400)
def zy (E:List UInt8→Bool) (x:Pt):Bool:=Z5 x && eqPt x (yn x) && whoOk x && zbi E x
def Zc (E:List UInt8→Bool) (l:List Pt) (k:Nat):Bool:=match l[k]? with
 |none=>true
 |some x=>zy E x &&(decide (k=0) ||(match l[k- 1]? with
  |none=>true
  |some y=>decide (y.time≤x.time)))
def Y2 (E:List UInt8→Bool) (l:List Pt):Bool:=(List.range l.length).all (Zc E l)
def vTr (E:List UInt8→Bool) (l:List Pt):Int:=if 5000<l.length then 3 else if Y2 E l then 0 else 1
open Go.RowKit
open Go.Maps (Keyed)
def yj (k:Int):List UInt8:=if k=1 then [105,110,118,111,107,101] else if k=2 then [97,99,107] else if k=3 then [97,99,99,101,112,116] else if k=4 then [100,101,99,105,100,101] else if k=5 then [114,101,97,100] else if k=6 then [115,101,110,100] else if k=7 then [99,114,97,115,104] else if k=8 then [114,101,115,116,97,114,116] else []
def zah:DataW Unit:= .map [(.int .i64 1, .lit (.string [105,110,118,111,107,101])),(.int .i64 2, .lit (.string [97,99,107])),(.int .i64 3, .lit (.string [97,99,99,101,112,116])),(.int .i64 4, .lit (.string [100,101,99,105,100,101])),(.int .i64 5, .lit (.string [114,101,97,100])),(.int .i64 6, .lit (.string [115,101,110,100])),(.int .i64 7, .lit (.string [99,114,97,115,104])),(.int .i64 8, .lit (.string [114,101,115,116,97,114,116]))]
def isKind (k:Int):Bool:=decide (1≤k) && decide (k≤8)
theorem zaU (a k:Int):Lit.sameKey (.int .i64 a) (.int .i64 k)=decide (a=k):=by simp [Lit.sameKey]
theorem words_has (k:Int):Maps.has zah (.int .i64 k)=isKind k:=by
 simp only [zah,Maps.has,List.any_cons,List.any_nil,zaU,isKind];rw [Bool.eq_iff_iff];simp only [Bool.or_eq_true,Bool.and_eq_true,decide_eq_true_eq,Bool.or_false];omega
theorem words_at (k:Int):zah.atKey (.int .i64 k) (.lit (.string []))= .lit (.string (yj k)):=by
 simp only [zah,DataW.atKey,List.find?_cons,List.find?_nil,zaU,yj];by_cases h1:k=1
 · subst h1;rfl
 by_cases h2:k=2
 · subst h2;rfl
 by_cases h3:k=3
 · subst h3;rfl
 by_cases h4:k=4
 · subst h4;rfl
 by_cases h5:k=5
 · subst h5;rfl
 by_cases h6:k=6
 · subst h6;rfl
 by_cases h7:k=7
 · subst h7;rfl
 by_cases h8:k=8
 · subst h8;rfl
 rw [if_neg h1,if_neg h2,if_neg h3,if_neg h4,if_neg h5,if_neg h6,if_neg h7,if_neg h8];rw [decide_eq_false (fun e:1=k=>h1 e.symm),decide_eq_false (fun e:2=k=>h2 e.symm),decide_eq_false (fun e:3=k=>h3 e.symm),decide_eq_false (fun e:4=k=>h4 e.symm),decide_eq_false (fun e:5=k=>h5 e.symm),decide_eq_false (fun e:6=k=>h6 e.symm),decide_eq_false (fun e:7=k=>h7 e.symm),decide_eq_false (fun e:8=k=>h8 e.symm)]
structure Env (w:World):Prop where
 pow:Lib.TabIs Tryz.prog w "internal/strconv.uint64pow10" .u64 Lib.pow10Tab
 syn:∃t p,w.cell? ⟨5,0,none⟩=some (.iface t p)
 rng:∃t p,w.cell? ⟨6,0,none⟩=some (.iface t p)
 mx:∃m,w.cell? ⟨1,0,none⟩=some (.int .i64 m)
 words:∃b n,w.cell? ⟨0,0,none⟩=some (.map (some b))∧w.ownsMap Tryz.prog 3 (plainElem Tryz.prog 9) b n zah
theorem YG {H:Type} {P:Program} {k:TypeId} {R:Value→Option (DataW H × List MemPlace)} {b n:Nat} {D:DataW H} {w w':World} (h:w.ownsMap P k R b n D) (hb:Below w.heap.size w w'):w'.ownsMap P k R b n D:=by
 have hlt:=h.lt;obtain⟨es,clock,hbk,F1,hle,hD⟩:=h;exact⟨es,clock,by rw [hb.block b hlt];exact hbk,F1,hle,hD⟩
theorem Env.below {w w':World} (h:Env w) (hb:Below w.heap.size w w'):Env w' where
 pow:=Go.Joins.tab_stays (g:=(Tryz.prog.globalNamed "internal/strconv.uint64pow10").getD 0) jc h.pow hb (Nat.le_refl _)
 syn:=by
  obtain⟨t,p,e⟩:=h.syn;exact⟨t,p,(hb.cell (p:=⟨5,0,none⟩) (Lib.lt_of_cell e)).trans e⟩
 rng:=by
  obtain⟨t,p,e⟩:=h.rng;exact⟨t,p,(hb.cell (p:=⟨6,0,none⟩) (Lib.lt_of_cell e)).trans e⟩
 mx:=by
  obtain⟨m,e⟩:=h.mx;exact⟨m,(hb.cell (p:=⟨1,0,none⟩) (Lib.lt_of_cell e)).trans e⟩
 words:=by
  obtain⟨b,n,e,h⟩:=h.words;exact⟨b,n,(hb.cell (p:=⟨0,0,none⟩) (Lib.lt_of_cell e)).trans e,YG h hb⟩
theorem zero_str (w:World):(zeroValue 9).run Tryz.prog w= .ok (.string ⟨#[]⟩) w:=by kernel_rfl
theorem wf_int {k:Int} (h:I64 k):(Lit.int .i64 k).wf=true:=by
 unfold I64 at h;simp only [Lit.wf,IntKind.min,IntKind.max,IntKind.signed,IntKind.bits,decide_eq_true_eq,Bool.and_eq_true];simp;omega
theorem zfr {w:World} (he:Env w) (k:Int) (hk:I64 k):∃b,∀w',Below w.heap.size w w'→w'.cell? ⟨0,0,none⟩=some (.map (some b))∧
    (Instr.lookup 90 (.map (some b)) (.int .i64 k) true).run Tryz.prog w'= .ok (.tuple #[.string ⟨(yj k).toArray⟩, .bool (isKind k)]) w'∧
    (Instr.lookup 90 (.map (some b)) (.int .i64 k) false).run Tryz.prog w'= .ok (.string ⟨(yj k).toArray⟩) w':=by
 obtain⟨b,n,e,hown⟩:=he.words;refine⟨b,fun w' hb=> ?_⟩;have ho:=YG hown hb;have K:Keyed Tryz.prog 3:=Go.Maps.int_keyed Tryz.underlying3;have hkey:=Go.Maps.keyOf_int_mk Tryz.underlying3 (wf_int hk);have hz:=plainElem_string (H:=Unit) Tryz.underlying9 (s:=⟨#[]⟩) jf;refine⟨(hb.cell (p:=⟨0,0,none⟩) (Lib.lt_of_cell e)).trans e, ?_, ?_⟩
 · obtain⟨v,ps,hrun,hv⟩:=ho.look_ok K Tryz.underlying90 (zero_str w') hz hkey;obtain⟨s,rfl,hs,_⟩:=plainElem_string_inv Tryz.underlying9 hv;rw [hrun,words_has];exact fo109
 · obtain⟨v,ps,hrun,hv⟩:=ho.lookup K Tryz.underlying90 (zero_str w') hz hkey;obtain⟨s,rfl,hs,_⟩:=plainElem_string_inv Tryz.underlying9 hv;rw [hrun];exact fo109
end Go.Proofs.YtepbbaifpckcpaaGreatDoor
