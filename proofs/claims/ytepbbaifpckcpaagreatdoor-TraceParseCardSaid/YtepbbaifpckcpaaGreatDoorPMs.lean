/- The contracts of Encode, Few. -/
import Derived.Test.YtepbbaifpckcpaaGreatDoorPRb
import Derived.Test.YtepbbaifpckcpaaGreatDoorPCd
import Derived.Test.YtepbbaifpckcpaaGreatDoorPRc
import Derived.Test.YtepbbaifpckcpaaGreatDoorPSc
open Go.Proofs.Tryz
namespace Go.Proofs.YtepbbaifpckcpaaGreatDoor
set_option maxRecDepth 100000
set_option maxHeartbeats 4000000
open Go.RowKit
variable{P:Program}{w:World}
theorem zX{fn:Func}{p:Tmp}{ty:TypeId}(h:fn.results=#[.cell p ty])(tmps:Array Value)(w:World)(b:Nat)(cs:List Value)(d:TypeDesc)
    (hp:tmps.getD p undef= .pointer (some ⟨b,0,none⟩)) (hc:w.rangeAt b 0 cs) (hu:P.underlying ty=some d) (hd:d.isRow=true) (hi:(P.info? ty).map (·.size)=some cs.length) :
    (results fn tmps).run P w= .ok (.agg cs.toArray) w:=by
 exact fo161
def ZR(l:List UInt8)(n:Int)(w:World)(e:Ending)(w':World):Prop:=e= .returned (.tuple #[l,n])∧Below w.heap.size w w'
theorem zfj{l l':List UInt8}{n m:Int}{w':World}(h:l=l')(hn:n=m)(hb:Below w.heap.size w w'):ZR l n w (.returned (.tuple #[l',m])) w':=⟨by rw[h,hn],hb⟩
def enc0(m:Ms):List UInt8:=if vMs m=0 then ZP m else []
theorem encode_any(m:Ms)(w:World)(hok:m.ok w)(hs:m.sz≤16777216):Calls prog 78 #[.agg (msC m).toArray] w (ZR (enc0 m) (vMs m) w):=by
 have HV:Hid (∀w1,Below w.heap.size w w1→Calls prog 61 #[.agg (msC m).toArray] w1 (ZN (vMs m) w1)):=hD (fun w1 hb=>zb5 m w1 (Ms.below hok hb) (MsFew.of_sz ja));have HE:Hid (∀w1,Below w.heap.size w w1→Calls prog 115 #[.agg (msC m).toArray] w1 (zm (ZP m) w1)):=hD (fun w1 hb=>code_any m w1 (Ms.below hok hb) hs);exact fo41
theorem yC{ops:Array Oper}{rest:List Oper}{op:Oper}{a:Act}{Q:Exit→Act→World→Prop}(hw:Region.wanted op (yielded ops a.tmps)=true)(ty:TypeId)(x:Operand)(ho:op.op= .load ty x)
    (b o:Nat) (hx:a.eval x= .pointer (some ⟨b,o,none⟩)) (cs:List Value) (d:TypeDesc) (hc:w.rangeAt b o cs)
    (hu:P.underlying ty=some d) (hd:d.isRow=true) (hi:(P.info? ty).map (·.size)=some cs.length)
    (h:wpList P ops Q rest (a.put op.dst (.agg cs.toArray)) w):wpList P ops Q (op::rest) a w:=by
 unfold wpList;rw[af hw];exact .inl (wp_load_mid ty x ho b o hx cs d hc hu hd hi h)
def ms0:Ms:=⟨0,0,0,0,0,[],0,sg0,Sl.nil,Sl.nil,⟨0,[],Sl.nil,Sl.nil,Sl.nil⟩,Sl.nil⟩
theorem zf{w1 w2:World}{b:Nat}(h:Below w.heap.size w w1)(hg:w1.grownBy w2 (some b))(hb:w.heap.size≤b):Below w.heap.size w w2:=
 below_grown h h.size hg (fun g hq=>by simp only[ax]at hq;omega)
