/- The contracts of Encode, Few. -/
import Derived.Laws.Rows
import Derived.Laws.IdiomCopy
import Derived.Test.YtepbbaifpckcpaaGreatDoorFFo
import Derived.Test.YtepbbaifpckcpaaGreatDoorFPl
import Derived.Test.YtepbbaifpckcpaaGreatDoorFRb
import Derived.Test.YtepbbaifpckcpaaGreatDoorFCd
import Derived.Test.YtepbbaifpckcpaaGreatDoorFRc
import Derived.Test.YtepbbaifpckcpaaGreatDoorFSc
namespace Go.Proofs.YtepbbaifpckcpaaGreatDoor
set_option maxRecDepth 100000
set_option maxHeartbeats 4000000
open Go.RowKit
theorem zU {P:Program} {fn:Func} {p:Tmp} {ty:TypeId} (h:fn.results=#[.cell p ty]) (tmps:Array Value) (w:World) (b:Nat) (cs:List Value) (d:TypeDesc)
    (hp:tmps.getD p undef= .pointer (some ⟨b,0,none⟩)) (hc:w.rangeAt b 0 cs) (hu:P.underlying ty=some d) (hd:d.isRow=true) (hi:(P.info? ty).map (·.size)=some cs.length) :
    (results fn tmps).run P w= .ok (.agg cs.toArray) w:=by
 exact fo126
theorem few_any (m:Ms) (w:World) (hok:m.ok w) (hs:m.sz≤16777216):Calls Tryz.prog 35 #[.agg (msC m).toArray] w (zC (zeY m) w):=by
 have HE:Hid (∀w1,Below w.heap.size w w1→Calls Tryz.prog 46 #[.agg (msC m).toArray] w1 (zi (yO m) w1)):=hD (fun w1 hb=>YH m w1 (Ms.below hok hb) hs);have hl:=encMs_len m w hok hs;have HB0:=hD (Zk w (msC m) 38);have HRow:Hid (∀W,Bx w (msC m) 38 W→W.rangeAt w.heap.size 0 (msC m)):=hD (fun W hb j v hv=>by rw [Nat.zero_add];exact ze hb j v hv);have HZ:Hid (∀q:Bool,q=decide (((yO m).length:Int)≤80000)→(q && decide ((m.texts.l.length:Int)≤600))=zeY m):=hD (fun q hq=>by
  rw [hq];unfold zeY;rw [Bool.eq_iff_iff];simp only [Bool.and_eq_true,decide_eq_true_eq];omega)
 clear hok;go_in;go_wp2_with (refine wpList_load_mid rfl 38 _ rfl _ 0 rfl (msC m) _ (HRow.out _ HB0.out) Tryz.underlying38 rfl (zbt m) ?_);refine(HE.out _ (zu HB0.out)).mono ?_;rintro e w2 ⟨rfl,b2⟩;have hb2:=zau HB0.out b2;have c20:w2.cell? ⟨w.heap.size,20,none⟩=some (.slice m.texts.a m.texts.l.length m.texts.c):=ze hb2 20 _ rfl;have HB2:=hD (zu hb2);clear hb2 b2;by_cases h1:(yO m).length≤80000
 · have HF:Hid (decide ((m.texts.l.length:Int)≤600)=zeY m):=hD (by have:=HZ.out true (by symm;rw [decide_eq_true_eq];omega);simpa using this);go_wp2_with fail;go_ret;exact zz HF.out.symm HB2.out
 · have HF:Hid (zeY m=false):=hD (by unfold zeY;rw [decide_eq_false h1];rfl);go_wp2_with fail;go_ret;exact zz HF.out HB2.out
def Zv (l:List UInt8) (n:Int) (w:World) (e:Ending) (w':World):Prop:=e= .returned (.tuple #[.string ⟨l.toArray⟩, .int .i64 n])∧Below w.heap.size w w'
theorem zbI {l l':List UInt8} {n m:Int} {w w':World} (h:l=l') (hn:n=m) (hb:Below w.heap.size w w'):Zv l n w (.returned (.tuple #[.string ⟨l'.toArray⟩, .int .i64 m])) w':=⟨by rw [h,hn],hb⟩
def enc0 (m:Ms):List UInt8:=if vMs m=0 then yO m else []
theorem encode_any (m:Ms) (w:World) (hok:m.ok w) (hs:m.sz≤16777216):Calls Tryz.prog 78 #[.agg (msC m).toArray] w (Zv (enc0 m) (vMs m) w):=by
 have HV:Hid (∀w1,Below w.heap.size w w1→Calls Tryz.prog 61 #[.agg (msC m).toArray] w1 (Zw (vMs m) w1)):=hD (fun w1 hb=>zbl m w1 (Ms.below hok hb) (MsFew.of_sz ja));have HE:Hid (∀w1,Below w.heap.size w w1→Calls Tryz.prog 115 #[.agg (msC m).toArray] w1 (zi (yO m) w1)):=hD (fun w1 hb=>code_any m w1 (Ms.below hok hb) hs);exact fo37
open Go.RowKit
theorem Zl {P:Program} {ops:Array Oper} {rest:List Oper} {op:Oper} {a:Act} {w:World} {Q:Exit→Act→World→Prop} (hw:Region.wanted op (yielded ops a.tmps)=true) (ty:TypeId) (x:Operand) (ho:op.op= .load ty x)
    (b o:Nat) (hx:a.eval x= .pointer (some ⟨b,o,none⟩)) (cs:List Value) (d:TypeDesc) (hc:w.rangeAt b o cs)
    (hu:P.underlying ty=some d) (hd:d.isRow=true) (hi:(P.info? ty).map (·.size)=some cs.length)
    (h:wpList P ops Q rest (a.put op.dst (.agg cs.toArray)) w):wpList P ops Q (op::rest) a w:=by
 unfold wpList;rw [if_pos hw];exact .inl (wp_load_mid ty x ho b o hx cs d hc hu hd hi h)
def ms0:Ms:=⟨0,0,0,0,0, [],0,sg0,Sl.nil,Sl.nil,⟨0, [],Sl.nil,Sl.nil,Sl.nil⟩,Sl.nil⟩
theorem zh {w w1 w2:World} {b:Nat} (h:Below w.heap.size w w1) (hg:w1.grownBy w2 (some b)) (hb:w.heap.size≤b):Below w.heap.size w w2:=
 below_grown h h.size hg (fun g hq=>by simp only [Option.some.injEq] at hq;omega)
end Go.Proofs.YtepbbaifpckcpaaGreatDoor
