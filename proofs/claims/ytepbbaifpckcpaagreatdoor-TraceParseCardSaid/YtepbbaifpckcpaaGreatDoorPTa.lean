/- Equal of messages, on both sides. -/
import Derived.Test.YtepbbaifpckcpaaGreatDoorPMs
open Go renaming wp_region_noPanic→zE,wp_region_held_drew→zc,yieldsIf_load_mid→zj
open Go.Act renaming put→zr
open Go.Lib renaming lt_of_cell→zv
open Go.Proofs.Tryz renaming prog→qA,underlying38→qB,underlying3→qC,underlying9→qD
open _root_ renaming decide_eq_true_eq→qE,if_neg→qF,decide_eq_false→qG
namespace Go.Proofs.YtepbbaifpckcpaaGreatDoor
set_option maxRecDepth 100000
set_option maxHeartbeats 8000000
open Go.RowKit
def zeA(a b:List UInt8):Bool:=a == b
theorem zgt(a:List UInt8):zeA a a=true:=by simp[zeA]
theorem two_boxes(a b:Ms)(w wq:World)(T:TypeId)(h:wq=(w.alloc (.cells (msC a).toArray T)).alloc (.cells (msC b).toArray T)):Hid (∀W,Below wq.heap.size wq W→W.rangeAt w.heap.size 0 (msC a))∧Hid (∀W,Below wq.heap.size wq W→W.rangeAt (w.heap.size+1) 0 (msC b))∧Hid (∀W,Below wq.heap.size wq W→Below w.heap.size w W):=by
 have h1:Bx w (msC a) T wq:=by rw[h];exact yn (Zy _ _ _) _
 have h2:∀j v,(msC b)[j]? =some v→wq.cell? ⟨w.heap.size+1,j,none⟩=some v:=fun j v hv=>by rw[h];exact zc2 _ (msC b) T _ jc j v hv
 have hs:wq.heap.size=w.heap.size+2:=by rw[h];simp
 refine⟨hD (fun W hb j v hv=> ?_),hD (fun W hb j v hv=> ?_),hD (fun W hb=>(zC h1).trans (hb.mono ja))⟩
 · rw[Nat.zero_add];exact(hb.cell (p:=⟨w.heap.size,j,none⟩) jw).trans (zg h1 j v hv)
 · rw[Nat.zero_add];exact(hb.cell (p:=⟨w.heap.size+1,j,none⟩) (by show w.heap.size+1< _;omega)).trans (h2 j v hv)
theorem msgEqual_any(a b:Ms)(w:World)(ha:a.ok w)(hb:b.ok w)(sa:a.sz≤16777216)(sb:b.sz≤16777216):Calls qA 92 #[.agg (msC a).toArray,.agg (msC b).toArray] w (zK (zeA (ZP a) (ZP b)) w):=by
 obtain⟨wq,hwq⟩:∃wq,wq=(w.alloc (.cells (msC a).toArray 38)).alloc (.cells (msC b).toArray 38):=⟨_,rfl⟩;obtain⟨HRa,HRb,HLow⟩:=two_boxes a b w wq 38 hwq;have HCa:Hid (∀W,Below wq.heap.size wq W→Calls qA 115 #[.agg (msC a).toArray] W fun e W'=>e= .returned (.string ⟨(ZP a).toArray⟩)∧Below wq.heap.size wq W'):=hD (fun W h=>(code_any a W (Ms.below ha (HLow W h)) sa).mono fun e W' ⟨he,hw⟩=>⟨he,bon h hw⟩);have HCb:Hid (∀W,Below wq.heap.size wq W→Calls qA 115 #[.agg (msC b).toArray] W fun e W'=>e= .returned (.string ⟨(ZP b).toArray⟩)∧Below wq.heap.size wq W'):=hD (fun W h=>(code_any b W (Ms.below hb (HLow W h)) sb).mono fun e W' ⟨he,hw⟩=>⟨he,bon h hw⟩);have HWq:=hD hwq;clear ha hb sa sb hwq;generalize ZP a=la at HCa⊢;generalize ZP b=lb at HCb⊢;go_in;go_upto_region 1 with fail;rw[←HWq.out];refine zE ?_;refine zc (S:=fun W=>Below wq.heap.size wq W) jb ((Below.refl _ _).drew) (fun hHeld=> ?_);refine tkq 0 rfl (zj ji 38 _ ji _ 0 ji (msC a) _ HRa qB rfl (zcA a)) je ?_;try simp only[zr,qk1]
 refine tkq 2 rfl (zj ji 38 _ ji _ 0 ji (msC b) _ HRb qB rfl (zcA b)) je ?_;try simp only[zr]
 refine tkr 1 rfl (fun K hK=> ?_);go_simp;go_at_call 115;refine(HCa _ je).mono ?_;rintro e w4 ⟨rfl,b4⟩;go_wp2_with fail;refine hK.out _ _ b4 (fun hHeld=> ?_);clear hK K;try simp only[zr,qk1,qk2,qk3]
 refine tkr 3 rfl (fun K hK=> ?_);go_simp;go_at_call 115;refine(HCb _ je).mono ?_;rintro e w5 ⟨rfl,b5⟩;go_wp2_with fail;refine hK.out _ _ b5 (fun hHeld=> ?_);clear hK K;try simp only[zr,qk1,qk2,qk3]
 refine takes [4] ?_;refine tkr 5 rfl (fun K hK=> ?_);go_simp;refine hK.out _ _ b5 (fun hHeld=> ?_);clear hK K;try simp only[zr,qk1,qk2,qk3]
 refine wpAnyH_done jb ?_ _;refine NoPanic.normal ?_;go_wp2_with fail;go_ret;exact yA rfl (HLow _ b5)
theorem refEqual_any(a b:Ms)(w:World)(ha:a.ok w)(hb:b.ok w)(sa:a.sz≤16777216)(sb:b.sz≤16777216):Calls qA 25 #[.agg (msC a).toArray,.agg (msC b).toArray] w (zK (zeA (ZP a) (ZP b)) w):=by
 obtain⟨wq,hwq⟩:∃wq,wq=(w.alloc (.cells (msC a).toArray 38)).alloc (.cells (msC b).toArray 38):=⟨_,rfl⟩;obtain⟨HRa,HRb,HLow⟩:=two_boxes a b w wq 38 hwq;have HCa:Hid (∀W,Below wq.heap.size wq W→Calls qA 46 #[.agg (msC a).toArray] W fun e W'=>e= .returned (.string ⟨(ZP a).toArray⟩)∧Below wq.heap.size wq W'):=hD (fun W h=>(zby a W (Ms.below ha (HLow W h)) sa).mono fun e W' ⟨he,hw⟩=>⟨he,bon h hw⟩);have HCb:Hid (∀W,Below wq.heap.size wq W→Calls qA 46 #[.agg (msC b).toArray] W fun e W'=>e= .returned (.string ⟨(ZP b).toArray⟩)∧Below wq.heap.size wq W'):=hD (fun W h=>(zby b W (Ms.below hb (HLow W h)) sb).mono fun e W' ⟨he,hw⟩=>⟨he,bon h hw⟩);have HWq:=hD hwq;clear ha hb sa sb hwq;generalize ZP a=la at HCa⊢;generalize ZP b=lb at HCb⊢;go_in;go_upto_region 1 with fail;rw[←HWq.out];refine zE ?_;refine zc (S:=fun W=>Below wq.heap.size wq W) jb ((Below.refl _ _).drew) (fun hHeld=> ?_);refine tkq 0 rfl (zj ji 38 _ ji _ 0 ji (msC a) _ HRa qB rfl (zcA a)) je ?_;try simp only[zr,qk1]
 refine tkq 2 rfl (zj ji 38 _ ji _ 0 ji (msC b) _ HRb qB rfl (zcA b)) je ?_;try simp only[zr]
 refine tkr 1 rfl (fun K hK=> ?_);go_simp;go_at_call 46;refine(HCa _ je).mono ?_;rintro e w4 ⟨rfl,b4⟩;go_wp2_with fail;refine hK.out _ _ b4 (fun hHeld=> ?_);clear hK K;try simp only[zr,qk1,qk2,qk3]
 refine tkr 3 rfl (fun K hK=> ?_);go_simp;go_at_call 46;refine(HCb _ je).mono ?_;rintro e w5 ⟨rfl,b5⟩;go_wp2_with fail;refine hK.out _ _ b5 (fun hHeld=> ?_);clear hK K;try simp only[zr,qk1,qk2,qk3]
 refine takes [4] ?_;refine tkr 5 rfl (fun K hK=> ?_);go_simp;refine hK.out _ _ b5 (fun hHeld=> ?_);clear hK K;try simp only[zr,qk1,qk2,qk3]
 refine wpAnyH_done jb ?_ _;refine NoPanic.normal ?_;go_wp2_with fail;go_ret;exact yA rfl (HLow _ b5)
theorem zw(x:Pt):(qA.info? 40).map (·.size)=some (ptC x).length:=by
 have:(qA.info? 40).map (·.size)=some 28:=by kernel_rfl
 exact this
theorem yz(x:Pt):(ptC x).toArray.all (·.oneCell')=true:=by
 have h:=yu x.msg;rw[List.all_toArray]at h⊢;unfold ptC;rw[List.all_append,h,Bool.and_true];simp[ptH,Value.oneCell']
def pt0:Pt:=⟨0,0,0,0,0,[],[],ms0⟩
variable{b:Nat}{w w':World}
theorem Vr.msg{x:Pt}(h:Vr w b (ptC x)):w.rangeAt b 7 (msC x.msg):=fun j v hv=>h.cells (7+j) v (by rw[ptC_msg];exact hv)
theorem YZ(n:Int)(w:World):Calls qA 38 #[n] w fun e w'=>e= .returned (.bool (isCl n))∧w'=w:=fo249
theorem Y9(n:Int)(w:World):Calls qA 42 #[n] w fun e w'=>e= .returned (.bool (isCl n))∧w'=w:=fo249
theorem zaL(n:Int)(w:World):Calls qA 41 #[n] w fun e w'=>e= .returned (.bool (isSv n))∧w'=w:=fo248
theorem zah(n:Int)(w:World):Calls qA 43 #[n] w fun e w'=>e= .returned (.bool (isSv n))∧w'=w:=fo248
/-! operations begin in ascending order, and end behind -/
/-! logs -/
/-! messages -/
/-! valid points -/
def yM(x:Pt):Pt:=
 if x.kind=1 then⟨x.time,x.kind,x.who,0,x.number,x.text,[],ms0⟩ else if x.kind=2 then⟨x.time,x.kind,x.who,x.slot,x.number,[],x.result,ms0⟩ else if x.kind=3∨x.kind=4 then⟨x.time,x.kind,x.who,x.slot,0,x.text,[],ms0⟩ else if x.kind=5 then⟨x.time,x.kind,x.who,0,x.number,x.text,x.result,ms0⟩ else if x.kind=6 then⟨x.time,x.kind,x.who,0,0,[],[],x.msg⟩ else⟨x.time,x.kind,x.who,0,0,[],[],ms0⟩
def eqPt(a b:Pt):Bool:=decide (a.time=b.time) && decide (a.kind=b.kind) && decide (a.who=b.who) && decide (a.slot=b.slot) && decide (a.number=b.number) && decide (a.text=b.text) && decide (a.result=b.result) && zeA (ZP a.msg) (ZP b.msg)
def ofCl(k:Int):Bool:=decide (k=1) || decide (k=2) || decide (k=3)
def zaF(n:Int):Bool:=decide (1≤n) && decide (n≤1000000)
def zd3(E:List UInt8→Bool)(x:Pt):Bool:=
 if x.kind=1 then zaF x.number && opOk x.text else if x.kind=2 then zaF x.number else if x.kind=3∨x.kind=4 then E x.text else if x.kind=5 then isCl x.number && opOk x.text else if x.kind=6 then decide (vMs x.msg=0) && decide (x.msg.src=x.who) else true
def whoOk(x:Pt):Bool:=if ofCl x.kind then isCl x.who else isSv x.who
def Yl(x:Pt):Bool:=decide (1≤x.kind) && decide (x.kind≤8) && decide (0≤x.time) && decide (0≤x.slot) && decide (x.slot≤2147483647) && decide (x.result.length≤400)
def zA(E:List UInt8→Bool)(x:Pt):Bool:=Yl x && eqPt x (yM x) && whoOk x && zd3 E x
def y8(E:List UInt8→Bool)(l:List Pt)(k:Nat):Bool:=match l[k]? with
 |none=>true
 |some x=>zA E x &&(decide (k=0) ||(match l[k- 1]? with
  |none=>true
  |some y=>decide (y.time≤x.time)))
def zaw(E:List UInt8→Bool)(l:List Pt):Bool:=(List.range l.length).all (y8 E l)
def vTr(E:List UInt8→Bool)(l:List Pt):Int:=if 5000<l.length then 3 else if zaw E l then 0 else 1
open Go.Maps (Keyed)
def yf(k:Int):List UInt8:=if k=1 then [105,110,118,111,107,101] else if k=2 then [97,99,107] else if k=3 then [97,99,99,101,112,116] else if k=4 then [100,101,99,105,100,101] else if k=5 then [114,101,97,100] else if k=6 then [115,101,110,100] else if k=7 then [99,114,97,115,104] else if k=8 then [114,101,115,116,97,114,116] else []
def zaG:DataW Unit:= .map [(.int .i64 1,.lit (.string [105,110,118,111,107,101])),(.int .i64 2,.lit (.string [97,99,107])),(.int .i64 3,.lit (.string [97,99,99,101,112,116])),(.int .i64 4,.lit (.string [100,101,99,105,100,101])),(.int .i64 5,.lit (.string [114,101,97,100])),(.int .i64 6,.lit (.string [115,101,110,100])),(.int .i64 7,.lit (.string [99,114,97,115,104])),(.int .i64 8,.lit (.string [114,101,115,116,97,114,116]))]
def isKind(k:Int):Bool:=decide (1≤k) && decide (k≤8)
theorem zbI(a k:Int):Lit.sameKey (.int .i64 a) (.int .i64 k)=decide (a=k):=by simp[Lit.sameKey]
theorem words_has(k:Int):Maps.has zaG (.int .i64 k)=isKind k:=by
 simp only[zaG,Maps.has,List.any_cons,List.any_nil,zbI,isKind];rw[Bool.eq_iff_iff];simp only[Bool.or_eq_true,Bool.and_eq_true,qE,Bool.or_false];omega
theorem words_at(k:Int):zaG.atKey (.int .i64 k) (.lit (.string []))= .lit (.string (yf k)):=by
 simp only[zaG,DataW.atKey,List.find?_cons,List.find?_nil,zbI,yf];by_cases h1:k=1
 · subst h1;rfl
 by_cases h2:k=2
 · subst h2;rfl
 by_cases h3:k=3
 · subst h3;rfl
 by_cases h4:k=4
 · subst h4;rfl
 by_cases h5:k=5
 · subst h5;rfl
 by_cases h6:k=6
 · subst h6;rfl
 by_cases h7:k=7
 · subst h7;rfl
 by_cases h8:k=8
 · subst h8;rfl
 rw[qF h1,qF h2,qF h3,qF h4,qF h5,qF h6,qF h7,qF h8];rw[qG (fun e:1=k=>h1 e.symm),qG (fun e:2=k=>h2 e.symm),qG (fun e:3=k=>h3 e.symm),qG (fun e:4=k=>h4 e.symm),qG (fun e:5=k=>h5 e.symm),qG (fun e:6=k=>h6 e.symm),qG (fun e:7=k=>h7 e.symm),qG (fun e:8=k=>h8 e.symm)]
structure Env (w:World):Prop where
 pow:Lib.TabIs qA w "internal/strconv.uint64pow10" .u64 Lib.pow10Tab
 syn:∃t p,w.cell? ⟨5,0,none⟩=some (.iface t p)
 rng:∃t p,w.cell? ⟨6,0,none⟩=some (.iface t p)
 mx:∃m,w.cell? ⟨1,0,none⟩=some (.int .i64 m)
 words:∃b n,w.cell? ⟨0,0,none⟩=some (.map (some b))∧w.ownsMap qA 3 (plainElem qA 9) b n zaG
theorem zaf{H:Type}{P:Program}{k:TypeId}{R:Value→Option (DataW H × List MemPlace)}{n:Nat}{D:DataW H}(h:w.ownsMap P k R b n D)(hb:Below w.heap.size w w'):w'.ownsMap P k R b n D:=by
 have hlt:=h.lt;obtain⟨es,clock,hbk,F1,hle,hD⟩:=h;exact⟨es,clock,by rw[hb.block b hlt];exact hbk,F1,hle,hD⟩
theorem Env.below(h:Env w)(hb:Below w.heap.size w w'):Env w' where
 pow:=Go.Joins.tab_stays (g:=(qA.globalNamed "internal/strconv.uint64pow10").getD 0) jb h.pow hb (Nat.le_refl _)
 syn:=by
  obtain⟨t,p,e⟩:=h.syn;exact⟨t,p,(hb.cell (p:=⟨5,0,none⟩) (zv e)).trans e⟩
 rng:=by
  obtain⟨t,p,e⟩:=h.rng;exact⟨t,p,(hb.cell (p:=⟨6,0,none⟩) (zv e)).trans e⟩
 mx:=by
  obtain⟨m,e⟩:=h.mx;exact⟨m,(hb.cell (p:=⟨1,0,none⟩) (zv e)).trans e⟩
 words:=by
  obtain⟨b,n,e,h⟩:=h.words;exact⟨b,n,(hb.cell (p:=⟨0,0,none⟩) (zv e)).trans e,zaf h hb⟩
theorem zero_str(w:World):(zeroValue 9).run qA w= .ok (.string ⟨#[]⟩) w:=by kernel_rfl
theorem wf_int{k:Int}(h:I64 k):(Lit.int .i64 k).wf=true:=by
 unfold I64 at h;simp only[Lit.wf,IntKind.min,IntKind.max,IntKind.signed,IntKind.bits,qE,Bool.and_eq_true];simp;omega
theorem zf4(he:Env w)(k:Int)(hk:I64 k):∃b,∀w',Below w.heap.size w w'→w'.cell? ⟨0,0,none⟩=some (.map (some b))∧
    (Instr.lookup 90 (.map (some b)) (.int .i64 k) true).run qA w'= .ok (.tuple #[yf k,.bool (isKind k)]) w'∧
    (Instr.lookup 90 (.map (some b)) (.int .i64 k) false).run qA w'= .ok (.string ⟨(yf k).toArray⟩) w':=by
 obtain⟨b,n,e,hown⟩:=he.words;refine⟨b,fun w' hb=> ?_⟩;have ho:=zaf hown hb;have K:Keyed qA 3:=Go.Maps.int_keyed qC;have hkey:=Go.Maps.keyOf_int_mk qC (wf_int hk);have hz:=plainElem_string (H:=Unit) qD (s:=⟨#[]⟩) jf;refine⟨(hb.cell (p:=⟨0,0,none⟩) (zv e)).trans e,?_,?_⟩
 · obtain⟨v,ps,hrun,hv⟩:=ho.look_ok K Tryz.underlying90 (zero_str w') hz hkey;obtain⟨s,rfl,hs,_⟩:=plainElem_string_inv qD hv;rw[hrun,words_has];exact fo136
 · obtain⟨v,ps,hrun,hv⟩:=ho.lookup K Tryz.underlying90 (zero_str w') hz hkey;obtain⟨s,rfl,hs,_⟩:=plainElem_string_inv qD hv;rw[hrun];exact fo136
