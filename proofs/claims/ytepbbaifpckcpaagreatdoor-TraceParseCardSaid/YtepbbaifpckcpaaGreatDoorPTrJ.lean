/- The contracts of equal, Equal of points. -/
import Derived.Test.YtepbbaifpckcpaaGreatDoorPTa
open Go.Proofs.Tryz
namespace Go.Proofs.YtepbbaifpckcpaaGreatDoor
set_option maxRecDepth 100000
set_option maxHeartbeats 8000000
open Go.RowKit
variable{a b:List UInt8}
theorem str_ne2(h:¬a=b):((ByteArray.mk a.toArray).toList ==(ByteArray.mk b.toArray).toList)=false:=by
 rw[aS,aS];simpa using h
theorem str_eq2(h:a=b):((ByteArray.mk a.toArray).toList ==(ByteArray.mk b.toArray).toList)=true:=by subst h;exact beq_self_eq_true _
theorem zfz(a b:Pt)(w:World)(ha:a.ok w)(hb:b.ok w)(sa:a.msg.sz≤16777216)(sb:b.msg.sz≤16777216):Calls prog 56 #[.agg (ptC a).toArray,.agg (ptC b).toArray] w (zK (eqPt a b) w):=by
 have HA:=hD ((Vr.new w (ptC a) 40).below (za (w.alloc (.cells (ptC a).toArray 40)) (.cells (ptC b).toArray 40)));have HB:=hD (Vr.new' (w.alloc (.cells (ptC a).toArray 40)) (ptC b) 40 (b:=w.heap.size+1) jc);have HL:=hD (bon (za w (.cells (ptC a).toArray 40)) (za (w.alloc (.cells (ptC a).toArray 40)) (.cells (ptC b).toArray 40)));have HM:Hid (∀W,Below w.heap.size w W→Calls prog 92 #[.agg (msC a.msg).toArray,.agg (msC b.msg).toArray] W (zK (zeO (ZP a.msg) (ZP b.msg)) W)):=hD (fun W h=>msgEqual_any a.msg b.msg W (Ms.below ha.2 h) (Ms.below hb.2 h) sa sb);exact fo14
theorem zaS(a b:Pt)(w:World)(ha:a.ok w)(hb:b.ok w)(sa:a.msg.sz≤16777216)(sb:b.msg.sz≤16777216):Calls prog 45 #[.agg (ptC a).toArray,.agg (ptC b).toArray] w (zK (eqPt a b) w):=by
 have HA:=hD ((Vr.new w (ptC a) 40).below (za (w.alloc (.cells (ptC a).toArray 40)) (.cells (ptC b).toArray 40)));have HB:=hD (Vr.new' (w.alloc (.cells (ptC a).toArray 40)) (ptC b) 40 (b:=w.heap.size+1) jc);have HL:=hD (bon (za w (.cells (ptC a).toArray 40)) (za (w.alloc (.cells (ptC a).toArray 40)) (.cells (ptC b).toArray 40)));have HM:Hid (∀W,Below w.heap.size w W→Calls prog 25 #[.agg (msC a.msg).toArray,.agg (msC b.msg).toArray] W (zK (zeO (ZP a.msg) (ZP b.msg)) W)):=hD (fun W h=>refEqual_any a.msg b.msg W (Ms.below ha.2 h) (Ms.below hb.2 h) sa sb);exact fo14
