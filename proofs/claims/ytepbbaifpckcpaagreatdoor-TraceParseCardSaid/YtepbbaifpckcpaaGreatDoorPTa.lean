/- Equal of messages, on both sides. -/
import Derived.Test.YtepbbaifpckcpaaGreatDoorPMs
open Go.Proofs.Tryz
namespace Go.Proofs.YtepbbaifpckcpaaGreatDoor
set_option maxRecDepth 100000
set_option maxHeartbeats 8000000
open Go.RowKit
def zeO(a b:List UInt8):Bool:=a == b
theorem zf2(a:List UInt8):zeO a a=true:=by simp[zeO]
theorem two_boxes(a b:Ms)(w wq:World)(T:TypeId)(h:wq=(w.alloc (.cells (msC a).toArray T)).alloc (.cells (msC b).toArray T)) :
    Hid (∀W,Below wq.heap.size wq W→W.rangeAt w.heap.size 0 (msC a))∧Hid (∀W,Below wq.heap.size wq W→W.rangeAt (w.heap.size+1) 0 (msC b))∧Hid (∀W,Below wq.heap.size wq W→Below w.heap.size w W):=by
 have h1:Bx w (msC a) T wq:=by rw[h];exact yn (Zy _ _ _) _
 have h2:∀j v,(msC b)[j]? =some v→wq.cell? ⟨w.heap.size+1,j,none⟩=some v:=fun j v hv=>by rw[h];exact zdf _ (msC b) T _ jc j v hv
 have hs:wq.heap.size=w.heap.size+2:=by rw[h];simp
 refine⟨hD (fun W hb j v hv=> ?_),hD (fun W hb j v hv=> ?_),hD (fun W hb=>(zC h1).trans (hb.mono ja))⟩
 · rw[bI];exact(hb.cell (p:=⟨w.heap.size,j,none⟩) jw).trans (zg h1 j v hv)
 · rw[bI];exact(hb.cell (p:=⟨w.heap.size+1,j,none⟩) (by show w.heap.size+1< _;omega)).trans (h2 j v hv)
theorem msgEqual_any(a b:Ms)(w:World)(ha:a.ok w)(hb:b.ok w)(sa:a.sz≤16777216)(sb:b.sz≤16777216):Calls prog 92 #[.agg (msC a).toArray,.agg (msC b).toArray] w (zK (zeO (ZP a) (ZP b)) w):=by
 obtain⟨wq,hwq⟩:∃wq,wq=(w.alloc (.cells (msC a).toArray 38)).alloc (.cells (msC b).toArray 38):=⟨_,rfl⟩;obtain⟨HRa,HRb,HLow⟩:=two_boxes a b w wq 38 hwq;have HCa:Hid (∀W,Below wq.heap.size wq W→Calls prog 115 #[.agg (msC a).toArray] W fun e W'=>e= .returned (.string ⟨(ZP a).toArray⟩)∧Below wq.heap.size wq W'):=hD (fun W h=>(code_any a W (Ms.below ha (HLow W h)) sa).mono fun e W' ⟨he,hw⟩=>⟨he,bon h hw⟩);have HCb:Hid (∀W,Below wq.heap.size wq W→Calls prog 115 #[.agg (msC b).toArray] W fun e W'=>e= .returned (.string ⟨(ZP b).toArray⟩)∧Below wq.heap.size wq W'):=hD (fun W h=>(code_any b W (Ms.below hb (HLow W h)) sb).mono fun e W' ⟨he,hw⟩=>⟨he,bon h hw⟩);have HWq:=hD hwq;clear ha hb sa sb hwq;generalize ZP a=la at HCa⊢;generalize ZP b=lb at HCb⊢;go_in;go_upto_region 1 with fail;rw[←HWq.out];refine aD ?_;refine aC (S:=fun W=>Below wq.heap.size wq W) jb ((ae _ _).drew) (fun hHeld=> ?_);refine tkq 0 rfl (aM ji 38 _ ji _ 0 ji (msC a) _ HRa underlying38 rfl (zcz a)) je ?_;try simp only[Act.put,qk1]
 refine tkq 2 rfl (aM ji 38 _ ji _ 0 ji (msC b) _ HRb underlying38 rfl (zcz b)) je ?_;try simp only[Act.put]
 refine tkr 1 rfl (fun K hK=> ?_);go_simp;go_at_call 115;refine(HCa _ je).mono ?_;rintro e w4 ⟨rfl,b4⟩;go_wp2_with fail;refine hK.out _ _ b4 (fun hHeld=> ?_);clear hK K;try simp only[Act.put,qk1,qk2,qk3]
 refine tkr 3 rfl (fun K hK=> ?_);go_simp;go_at_call 115;refine(HCb _ je).mono ?_;rintro e w5 ⟨rfl,b5⟩;go_wp2_with fail;refine hK.out _ _ b5 (fun hHeld=> ?_);clear hK K;try simp only[Act.put,qk1,qk2,qk3]
 refine takes [4] ?_;refine tkr 5 rfl (fun K hK=> ?_);go_simp;refine hK.out _ _ b5 (fun hHeld=> ?_);clear hK K;try simp only[Act.put,qk1,qk2,qk3]
 refine aB jb ?_ _;refine aA ?_;go_wp2_with fail;go_ret;exact yA rfl (HLow _ b5)
theorem refEqual_any(a b:Ms)(w:World)(ha:a.ok w)(hb:b.ok w)(sa:a.sz≤16777216)(sb:b.sz≤16777216):Calls prog 25 #[.agg (msC a).toArray,.agg (msC b).toArray] w (zK (zeO (ZP a) (ZP b)) w):=by
 obtain⟨wq,hwq⟩:∃wq,wq=(w.alloc (.cells (msC a).toArray 38)).alloc (.cells (msC b).toArray 38):=⟨_,rfl⟩;obtain⟨HRa,HRb,HLow⟩:=two_boxes a b w wq 38 hwq;have HCa:Hid (∀W,Below wq.heap.size wq W→Calls prog 46 #[.agg (msC a).toArray] W fun e W'=>e= .returned (.string ⟨(ZP a).toArray⟩)∧Below wq.heap.size wq W'):=hD (fun W h=>(zbH a W (Ms.below ha (HLow W h)) sa).mono fun e W' ⟨he,hw⟩=>⟨he,bon h hw⟩);have HCb:Hid (∀W,Below wq.heap.size wq W→Calls prog 46 #[.agg (msC b).toArray] W fun e W'=>e= .returned (.string ⟨(ZP b).toArray⟩)∧Below wq.heap.size wq W'):=hD (fun W h=>(zbH b W (Ms.below hb (HLow W h)) sb).mono fun e W' ⟨he,hw⟩=>⟨he,bon h hw⟩);have HWq:=hD hwq;clear ha hb sa sb hwq;generalize ZP a=la at HCa⊢;generalize ZP b=lb at HCb⊢;go_in;go_upto_region 1 with fail;rw[←HWq.out];refine aD ?_;refine aC (S:=fun W=>Below wq.heap.size wq W) jb ((ae _ _).drew) (fun hHeld=> ?_);refine tkq 0 rfl (aM ji 38 _ ji _ 0 ji (msC a) _ HRa underlying38 rfl (zcz a)) je ?_;try simp only[Act.put,qk1]
 refine tkq 2 rfl (aM ji 38 _ ji _ 0 ji (msC b) _ HRb underlying38 rfl (zcz b)) je ?_;try simp only[Act.put]
 refine tkr 1 rfl (fun K hK=> ?_);go_simp;go_at_call 46;refine(HCa _ je).mono ?_;rintro e w4 ⟨rfl,b4⟩;go_wp2_with fail;refine hK.out _ _ b4 (fun hHeld=> ?_);clear hK K;try simp only[Act.put,qk1,qk2,qk3]
 refine tkr 3 rfl (fun K hK=> ?_);go_simp;go_at_call 46;refine(HCb _ je).mono ?_;rintro e w5 ⟨rfl,b5⟩;go_wp2_with fail;refine hK.out _ _ b5 (fun hHeld=> ?_);clear hK K;try simp only[Act.put,qk1,qk2,qk3]
 refine takes [4] ?_;refine tkr 5 rfl (fun K hK=> ?_);go_simp;refine hK.out _ _ b5 (fun hHeld=> ?_);clear hK K;try simp only[Act.put,qk1,qk2,qk3]
 refine aB jb ?_ _;refine aA ?_;go_wp2_with fail;go_ret;exact yA rfl (HLow _ b5)
theorem zw(x:Pt):(prog.info? 40).map (·.size)=some (ptC x).length:=by
 have:(prog.info? 40).map (·.size)=some 28:=by kernel_rfl
 exact this
theorem yz(x:Pt):(ptC x).toArray.all (·.oneCell')=true:=by
 have h:=yu x.msg;rw[gQ]at h⊢;unfold ptC;rw[dQ,h,dA];simp[ptH,Value.oneCell']
def pt0:Pt:=⟨0,0,0,0,0,[],[],ms0⟩
variable{b:Nat}{w w':World}
theorem Vr.msg{x:Pt}(h:Vr w b (ptC x)):w.rangeAt b 7 (msC x.msg):=fun j v hv=>h.cells (7+j) v (by rw[ptC_msg];exact hv)
theorem Y0(n:Int)(w:World):Calls prog 38 #[n] w fun e w'=>e= .returned (.bool (isCl n))∧w'=w:=fo249
theorem zah(n:Int)(w:World):Calls prog 42 #[n] w fun e w'=>e= .returned (.bool (isCl n))∧w'=w:=fo249
theorem zaN(n:Int)(w:World):Calls prog 41 #[n] w fun e w'=>e= .returned (.bool (isSv n))∧w'=w:=fo248
theorem zab(n:Int)(w:World):Calls prog 43 #[n] w fun e w'=>e= .returned (.bool (isSv n))∧w'=w:=fo248
/-! operations begin in ascending order, and end behind -/
/-! logs -/
/-! messages -/
/-! valid points -/
def yJ(x:Pt):Pt:=
 if x.kind=1 then⟨x.time,x.kind,x.who,0,x.number,x.text,[],ms0⟩ else if x.kind=2 then⟨x.time,x.kind,x.who,x.slot,x.number,[],x.result,ms0⟩ else if x.kind=3∨x.kind=4 then⟨x.time,x.kind,x.who,x.slot,0,x.text,[],ms0⟩ else if x.kind=5 then⟨x.time,x.kind,x.who,0,x.number,x.text,x.result,ms0⟩ else if x.kind=6 then⟨x.time,x.kind,x.who,0,0,[],[],x.msg⟩ else⟨x.time,x.kind,x.who,0,0,[],[],ms0⟩
def eqPt(a b:Pt):Bool:=decide (a.time=b.time) && decide (a.kind=b.kind) && decide (a.who=b.who) && decide (a.slot=b.slot) && decide (a.number=b.number) && decide (a.text=b.text) && decide (a.result=b.result) && zeO (ZP a.msg) (ZP b.msg)
def ofCl(k:Int):Bool:=decide (k=1) || decide (k=2) || decide (k=3)
def zaF(n:Int):Bool:=decide (1≤n) && decide (n≤1000000)
def zd3(E:List UInt8→Bool)(x:Pt):Bool:=
 if x.kind=1 then zaF x.number && opOk x.text else if x.kind=2 then zaF x.number else if x.kind=3∨x.kind=4 then E x.text else if x.kind=5 then isCl x.number && opOk x.text else if x.kind=6 then decide (vMs x.msg=0) && decide (x.msg.src=x.who) else true
def whoOk(x:Pt):Bool:=if ofCl x.kind then isCl x.who else isSv x.who
def Yp(x:Pt):Bool:=decide (1≤x.kind) && decide (x.kind≤8) && decide (0≤x.time) && decide (0≤x.slot) && decide (x.slot≤2147483647) && decide (x.result.length≤400)
def zA(E:List UInt8→Bool)(x:Pt):Bool:=Yp x && eqPt x (yJ x) && whoOk x && zd3 E x
def y8(E:List UInt8→Bool)(l:List Pt)(k:Nat):Bool:=match l[k]? with
 |none=>true
 |some x=>zA E x &&(decide (k=0) ||(match l[k- 1]? with
  |none=>true
  |some y=>decide (y.time≤x.time)))
def zan(E:List UInt8→Bool)(l:List Pt):Bool:=(List.range l.length).all (y8 E l)
def vTr(E:List UInt8→Bool)(l:List Pt):Int:=if 5000<l.length then 3 else if zan E l then 0 else 1
open Go.Maps (Keyed)
def yf(k:Int):List UInt8:=if k=1 then [105,110,118,111,107,101] else if k=2 then [97,99,107] else if k=3 then [97,99,99,101,112,116] else if k=4 then [100,101,99,105,100,101] else if k=5 then [114,101,97,100] else if k=6 then [115,101,110,100] else if k=7 then [99,114,97,115,104] else if k=8 then [114,101,115,116,97,114,116] else []
def zaI:DataW Unit:= .map [(.int .i64 1,.lit (.string [105,110,118,111,107,101])),(.int .i64 2,.lit (.string [97,99,107])),(.int .i64 3,.lit (.string [97,99,99,101,112,116])),(.int .i64 4,.lit (.string [100,101,99,105,100,101])),(.int .i64 5,.lit (.string [114,101,97,100])),(.int .i64 6,.lit (.string [115,101,110,100])),(.int .i64 7,.lit (.string [99,114,97,115,104])),(.int .i64 8,.lit (.string [114,101,115,116,97,114,116]))]
def isKind(k:Int):Bool:=decide (1≤k) && decide (k≤8)
theorem zbq(a k:Int):Lit.sameKey (.int .i64 a) (.int .i64 k)=decide (a=k):=by simp[Lit.sameKey]
theorem words_has(k:Int):Maps.has zaI (.int .i64 k)=isKind k:=by
 simp only[zaI,Maps.has,List.any_cons,List.any_nil,zbq,isKind];rw[bQ];simp only[Bool.or_eq_true,aT,aY,Bool.or_false];omega
theorem words_at(k:Int):zaI.atKey (.int .i64 k) (.lit (.string []))= .lit (.string (yf k)):=by
 simp only[zaI,DataW.atKey,gU,gV,zbq,yf];by_cases h1:k=1
 · subst h1;rfl
 by_cases h2:k=2
 · subst h2;rfl
 by_cases h3:k=3
 · subst h3;rfl
 by_cases h4:k=4
 · subst h4;rfl
 by_cases h5:k=5
 · subst h5;rfl
 by_cases h6:k=6
 · subst h6;rfl
 by_cases h7:k=7
 · subst h7;rfl
 by_cases h8:k=8
 · subst h8;rfl
 rw[aa h1,aa h2,aa h3,aa h4,aa h5,aa h6,aa h7,aa h8];rw[av (fun e:1=k=>h1 e.symm),av (fun e:2=k=>h2 e.symm),av (fun e:3=k=>h3 e.symm),av (fun e:4=k=>h4 e.symm),av (fun e:5=k=>h5 e.symm),av (fun e:6=k=>h6 e.symm),av (fun e:7=k=>h7 e.symm),av (fun e:8=k=>h8 e.symm)]
structure Env (w:World):Prop where
 pow:Lib.TabIs prog w "internal/strconv.uint64pow10" .u64 Lib.pow10Tab
 syn:∃t p,w.cell? ⟨5,0,none⟩=some (.iface t p)
 rng:∃t p,w.cell? ⟨6,0,none⟩=some (.iface t p)
 mx:∃m,w.cell? ⟨1,0,none⟩=some (.int .i64 m)
 words:∃b n,w.cell? ⟨0,0,none⟩=some (.map (some b))∧w.ownsMap prog 3 (plainElem prog 9) b n zaI
theorem zae{H:Type}{P:Program}{k:TypeId}{R:Value→Option (DataW H × List MemPlace)}{n:Nat}{D:DataW H}(h:w.ownsMap P k R b n D)(hb:Below w.heap.size w w'):w'.ownsMap P k R b n D:=by
 have hlt:=h.lt;obtain⟨es,clock,hbk,F1,hle,hD⟩:=h;exact⟨es,clock,by rw[hb.block b hlt];exact hbk,F1,hle,hD⟩
theorem Env.below(h:Env w)(hb:Below w.heap.size w w'):Env w' where
 pow:=gK (g:=(prog.globalNamed "internal/strconv.uint64pow10").getD 0) jb h.pow hb (ag _)
 syn:=by
  obtain⟨t,p,e⟩:=h.syn;exact⟨t,p,(hb.cell (p:=⟨5,0,none⟩) (dK e)).trans e⟩
 rng:=by
  obtain⟨t,p,e⟩:=h.rng;exact⟨t,p,(hb.cell (p:=⟨6,0,none⟩) (dK e)).trans e⟩
 mx:=by
  obtain⟨m,e⟩:=h.mx;exact⟨m,(hb.cell (p:=⟨1,0,none⟩) (dK e)).trans e⟩
 words:=by
  obtain⟨b,n,e,h⟩:=h.words;exact⟨b,n,(hb.cell (p:=⟨0,0,none⟩) (dK e)).trans e,zae h hb⟩
theorem zero_str(w:World):(zeroValue 9).run prog w= .ok (.string ⟨#[]⟩) w:=by kernel_rfl
theorem wf_int{k:Int}(h:I64 k):(Lit.int .i64 k).wf=true:=by
 unfold I64 at h;simp only[Lit.wf,IntKind.min,IntKind.max,IntKind.signed,IntKind.bits,aY,aT];simp;omega
theorem zf3(he:Env w)(k:Int)(hk:I64 k):∃b,∀w',Below w.heap.size w w'→w'.cell? ⟨0,0,none⟩=some (.map (some b))∧
    (Instr.lookup 90 (.map (some b)) (.int .i64 k) true).run prog w'= .ok (.tuple #[yf k,.bool (isKind k)]) w'∧
    (Instr.lookup 90 (.map (some b)) (.int .i64 k) false).run prog w'= .ok (.string ⟨(yf k).toArray⟩) w':=by
 obtain⟨b,n,e,hown⟩:=he.words;refine⟨b,fun w' hb=> ?_⟩;have ho:=zae hown hb;have K:Keyed prog 3:=fG underlying3;have hkey:=Go.Maps.keyOf_int_mk underlying3 (wf_int hk);have hz:=plainElem_string (H:=Unit) underlying9 (s:=⟨#[]⟩) jf;refine⟨(hb.cell (p:=⟨0,0,none⟩) (dK e)).trans e,?_,?_⟩
 · obtain⟨v,ps,hrun,hv⟩:=ho.look_ok K underlying90 (zero_str w') hz hkey;obtain⟨s,rfl,hs,_⟩:=plainElem_string_inv underlying9 hv;rw[hrun,words_has];exact fo136
 · obtain⟨v,ps,hrun,hv⟩:=ho.lookup K underlying90 (zero_str w') hz hkey;obtain⟨s,rfl,hs,_⟩:=plainElem_string_inv underlying9 hv;rw[hrun];exact fo136
