/- Tactics that stand in more than one place, each as the default of an argument: the names in them are those of the place where it is used. -/
import Derived.Below
import Derived.BigQuiet
import Derived.ChangeMaps5
import Derived.ChangeSame
import Derived.Deep.AppendLies
import Derived.Deep.Cut
import Derived.Deep.CutBlock
import Derived.Deep.CutRange
import Derived.Deep.DeepHandedRow
import Derived.Deep.Draws
import Derived.Deep.Fields
import Derived.Deep.MidRow
import Derived.Deep.QuietTactic
import Derived.Deep.RegionHeld
import Derived.Deep.RegionHeld3
import Derived.Deep.RegionLaw
import Derived.Deep.RegionWith
import Derived.Deep.Slices
import Derived.Great.BuildSlice
import Derived.Great.Walk
import Derived.IntWalk
import Derived.LaidSub
import Derived.Laws.Bits64
import Derived.Laws.Bits64b
import Derived.Laws.IdiomCopy
import Derived.Laws.IdiomStrings
import Derived.Laws.OwnMore
import Derived.Laws.Rows
import Derived.Laws.Slices
import Derived.Laws.StructEq
import Derived.Lib.AppendIntMem
import Derived.Lib.AtoiAll
import Derived.Lib.AtoiAllCases
import Derived.Lib.AtoiErrMem
import Derived.Lib.BitFns
import Derived.Lib.Hide
import Derived.Lib.ItoaLen
import Derived.Lib.ItoaMem
import Derived.Lib.ItoaNum
import Derived.Lib.Join
import Derived.Lib.LaidTab
import Derived.Lib.SmallJoins
import Derived.Lib.SplitLaws
import Derived.Lib.Strings
import Derived.Lib.UnsafeStr
import Derived.LoopTactic
import Derived.MakeChecks
import Derived.Maps.AppendAt
import Derived.Maps.OwnOps
import Derived.Maps.OwnSet
import Derived.Maps.Range
import Derived.Maps.RangeWalk
import Derived.Maps.StringElems
import Derived.OpenShut
import Derived.Outline
import Derived.OwnWalk
import Derived.ProofKit
import Derived.ReadAgain
import Derived.StillTailTactics
import Derived.Stop.LaidErr
import Derived.Tactics
import Derived.WalkKit
import Derived.WalkLawsBesides
import Derived.WalkSpells
namespace Go.Proofs.YtepbbaifpckcpaaGreatDoor
theorem fo0 {p:Prop} (h:p:=by
 refine tkr 22 rfl (fun K hK=> ?_);rw [if_pos (by rfl)];refine wp_store_mid 38 _ _ rfl b4 0 (msC ⟨n0,n1,n2,n3,n4,t1,n5,sg0,Sl.nil,Sl.nil,⟨0, [],Sl.nil,Sl.nil,Sl.nil⟩,Sl.nil⟩).toArray rfl rfl (HX.out.there rfl) (zT ⟨n0,n1,n2,n3,n4,t1,n5,sg0,Sl.nil,Sl.nil,⟨0, [],Sl.nil,Sl.nil,Sl.nil⟩,Sl.nil⟩) (yR ⟨n0,n1,n2,n3,n4,t1,n5,sg0,Sl.nil,Sl.nil,⟨0, [],Sl.nil,Sl.nil,Sl.nil⟩,Sl.nil⟩) ?_;have HS:Hid (SsTo w g s1 (v2.setCells b4 0 (msC ⟨n0,n1,n2,n3,n4,t1,n5,sg0,Sl.nil,Sl.nil,⟨0, [],Sl.nil,Sl.nil,Sl.nil⟩,Sl.nil⟩))):=hD (HS1.out.own (zf (b:=b4) (msC ⟨n0,n1,n2,n3,n4,t1,n5,sg0,Sl.nil,Sl.nil,⟨0, [],Sl.nil,Sl.nil,Sl.nil⟩,Sl.nil⟩)) (by omega) (by omega));have HV:Hid (Vr (v2.setCells b4 0 (msC ⟨n0,n1,n2,n3,n4,t1,n5,sg0,Sl.nil,Sl.nil,⟨0, [],Sl.nil,Sl.nil,Sl.nil⟩,Sl.nil⟩)) w.heap.size [.int .i64 0, .int .i64 0, .int .i64 0, .int .i64 0, .int .i64 0, .string ⟨#[]⟩, .int .i64 0, .int .i64 0, .int .i64 0, .int .i64 0, .int .i64 0, .string ⟨#[]⟩, .string ⟨#[]⟩, .slice none 0 0, .slice none 0 0, .int .i64 0, .string ⟨#[]⟩, .slice none 0 0, .slice none 0 0, .slice none 0 0, .slice none 0 0]):=hD (HV.out.grown (zf (b:=b4) (msC ⟨n0,n1,n2,n3,n4,t1,n5,sg0,Sl.nil,Sl.nil,⟨0, [],Sl.nil,Sl.nil,Sl.nil⟩,Sl.nil⟩)) (by omega));have HX:Hid (Vr (v2.setCells b4 0 (msC ⟨n0,n1,n2,n3,n4,t1,n5,sg0,Sl.nil,Sl.nil,⟨0, [],Sl.nil,Sl.nil,Sl.nil⟩,Sl.nil⟩)) b4 (msC ⟨n0,n1,n2,n3,n4,t1,n5,sg0,Sl.nil,Sl.nil,⟨0, [],Sl.nil,Sl.nil,Sl.nil⟩,Sl.nil⟩)):=hD (HX.out.sets (msC ⟨n0,n1,n2,n3,n4,t1,n5,sg0,Sl.nil,Sl.nil,⟨0, [],Sl.nil,Sl.nil,Sl.nil⟩,Sl.nil⟩) rfl);have hC:(v2.setCells b4 0 (msC ⟨n0,n1,n2,n3,n4,t1,n5,sg0,Sl.nil,Sl.nil,⟨0, [],Sl.nil,Sl.nil,Sl.nil⟩,Sl.nil⟩)).cell? ⟨b,off,none⟩=some (.int .i64 n0)∧(v2.setCells b4 0 (msC ⟨n0,n1,n2,n3,n4,t1,n5,sg0,Sl.nil,Sl.nil,⟨0, [],Sl.nil,Sl.nil,Sl.nil⟩,Sl.nil⟩)).cell? ⟨b,off+1,none⟩=some (.int .i64 n1)∧(v2.setCells b4 0 (msC ⟨n0,n1,n2,n3,n4,t1,n5,sg0,Sl.nil,Sl.nil,⟨0, [],Sl.nil,Sl.nil,Sl.nil⟩,Sl.nil⟩)).cell? ⟨b,off+2,none⟩=some (.int .i64 n2)∧(v2.setCells b4 0 (msC ⟨n0,n1,n2,n3,n4,t1,n5,sg0,Sl.nil,Sl.nil,⟨0, [],Sl.nil,Sl.nil,Sl.nil⟩,Sl.nil⟩)).cell? ⟨b,off+3,none⟩=some (.int .i64 n3)∧(v2.setCells b4 0 (msC ⟨n0,n1,n2,n3,n4,t1,n5,sg0,Sl.nil,Sl.nil,⟨0, [],Sl.nil,Sl.nil,Sl.nil⟩,Sl.nil⟩)).cell? ⟨b,off+4,none⟩=some (.int .i64 n4)∧(v2.setCells b4 0 (msC ⟨n0,n1,n2,n3,n4,t1,n5,sg0,Sl.nil,Sl.nil,⟨0, [],Sl.nil,Sl.nil,Sl.nil⟩,Sl.nil⟩)).cell? ⟨b,off+5,none⟩=some (.int .i64 n5):=HCW.out _ (zfm HK.out (zf (b:=b4) (msC ⟨n0,n1,n2,n3,n4,t1,n5,sg0,Sl.nil,Sl.nil,⟨0, [],Sl.nil,Sl.nil,Sl.nil⟩,Sl.nil⟩)) (Or.inr (by omega)));refine hK.out _ _ hC (fun hHeld=> ?_);clear hK K;try simp only [Act.put,qk1,qk2,qk3]
 refine wpAnyH_done (by kernel_rfl) ?_ _;refine NoPanic.normal ?_;try simp only [List.toList_toArray]
 generalize v2.setCells b4 0 (msC ⟨n0,n1,n2,n3,n4,t1,n5,sg0,Sl.nil,Sl.nil,⟨0, [],Sl.nil,Sl.nil,Sl.nil⟩,Sl.nil⟩)=u0 at HS HV HX⊢;clear hC hHeld2 HK;go_wp2_with fail;refine(YM g s1 _ HS.out.2 (Nat.le_trans HL1.out (by decide))).mono ?_;rintro e u1 ⟨rfl,hss⟩;rw [show ym s1=(t2,s2) from HT2.out] at hss⊢;simp only at hss⊢;have hsz1:=hss.1.size;have HV:Hid (Vr u1 w.heap.size [.int .i64 0, .int .i64 0, .int .i64 0, .int .i64 0, .int .i64 0, .string ⟨#[]⟩, .int .i64 0, .int .i64 0, .int .i64 0, .int .i64 0, .int .i64 0, .string ⟨#[]⟩, .string ⟨#[]⟩, .slice none 0 0, .slice none 0 0, .int .i64 0, .string ⟨#[]⟩, .slice none 0 0, .slice none 0 0, .slice none 0 0, .slice none 0 0]):=hD (HV.out.grown hss.1 (by omega));have HX:=hD (HX.out.grown hss.1 (by omega));have HS:Hid (SsTo w g s2 u1):=hD (HS.out.trans hss);clear hss;go_wp2_with fail;refine(zc5 g s2 t2 _ HS.out.2 (fun q W hW=>Yp q ⟨t2,false⟩ W hW (Nat.le_trans HTL2.out (by decide)))).mono ?_;rintro e u2 ⟨x3,he,hx,hst3,hss⟩;obtain rfl:e= .returned (.agg #[.int .i64 x3.server, .int .i64 x3.kind, .int .i64 x3.view, .int .i64 x3.slot, .string ⟨x3.digest.toArray⟩, .string ⟨x3.sig.toArray⟩]):=he;rw [show yl tkSg t2 s2=(t3,s3) from HT3.out] at hss hx;simp only at hss hx;have HX3:=hD hx;clear hx;have HR3:=hD (Yr (a:=w.heap.size+1) (b4:=b4) hst3 (by have:=HX.out.lt;omega) (Or.inl (by have:=HX.out.lt;omega)));have hsz2:=hss.1.size;have HV:Hid (Vr u2 w.heap.size [.int .i64 0, .int .i64 0, .int .i64 0, .int .i64 0, .int .i64 0, .string ⟨#[]⟩, .int .i64 0, .int .i64 0, .int .i64 0, .int .i64 0, .int .i64 0, .string ⟨#[]⟩, .string ⟨#[]⟩, .slice none 0 0, .slice none 0 0, .int .i64 0, .string ⟨#[]⟩, .slice none 0 0, .slice none 0 0, .slice none 0 0, .slice none 0 0]):=hD (HV.out.grown hss.1 (by omega));have HX:=hD (HX.out.grown hss.1 (by omega));have HS:Hid (SsTo w g s3 u2):=hD (HS.out.trans hss);clear hss hst3;go_upto_region 4 with(refine wpList_store_mid rfl 29 _ _ rfl b4 7 (sgC x3).toArray rfl rfl (HX.out.there_at 7 6 (of_decide_eq_true rfl)) (ZZ x3) (zbR x3) ?_);try simp only [List.toList_toArray]
 have HS:Hid (SsTo w g s3 (u2.setCells b4 7 (sgC x3))):=hD (HS.out.own (zV (b:=b4) (o:=7) (sgC x3)) (by omega) (by omega));have HV:Hid (Vr (u2.setCells b4 7 (sgC x3)) w.heap.size [.int .i64 0, .int .i64 0, .int .i64 0, .int .i64 0, .int .i64 0, .string ⟨#[]⟩, .int .i64 0, .int .i64 0, .int .i64 0, .int .i64 0, .int .i64 0, .string ⟨#[]⟩, .string ⟨#[]⟩, .slice none 0 0, .slice none 0 0, .int .i64 0, .string ⟨#[]⟩, .slice none 0 0, .slice none 0 0, .slice none 0 0, .slice none 0 0]):=hD (HV.out.grown (zV (b:=b4) (o:=7) (sgC x3)) (by omega));have HX:Hid (Vr (u2.setCells b4 7 (sgC x3)) b4 (msC ⟨n0,n1,n2,n3,n4,t1,n5,x3,Sl.nil,Sl.nil,⟨0, [],Sl.nil,Sl.nil,Sl.nil⟩,Sl.nil⟩)):=hD ((HX.out.sets_at 7 (sgC x3) (of_decide_eq_true rfl)).eq rfl);have HR3:=hD (HR3.out.row (zV (b:=b4) (o:=7) (sgC x3)) (Or.inr rfl));generalize u2.setCells b4 7 (sgC x3)=u3 at HS HV HX HR3⊢;go_wp2_with fail;refine(partsSt_any g s3 _ HS.out.2 HL3.out (fun t ht q W hW=>zfa q ⟨t,false⟩ W hW (Nat.le_trans ht HL3.out))).mono ?_;rintro e u4 ⟨x4,rfl,hx,hst4,hss⟩;rw [show yx tkSt s3=(t4,s4) from HT4.out] at hss hx;simp only at hss hx;have HX4:=hD hx;clear hx;have HR4:=hD (Yr (a:=w.heap.size+1) (b4:=b4) hst4 (by have:=HX.out.lt;omega) (Or.inl (by have:=HX.out.lt;omega)));have hsz4:=hss.1.size;have HV:Hid (Vr u4 w.heap.size [.int .i64 0, .int .i64 0, .int .i64 0, .int .i64 0, .int .i64 0, .string ⟨#[]⟩, .int .i64 0, .int .i64 0, .int .i64 0, .int .i64 0, .int .i64 0, .string ⟨#[]⟩, .string ⟨#[]⟩, .slice none 0 0, .slice none 0 0, .int .i64 0, .string ⟨#[]⟩, .slice none 0 0, .slice none 0 0, .slice none 0 0, .slice none 0 0]):=hD (HV.out.grown hss.1 (by omega));have HX:=hD (HX.out.grown hss.1 (by omega));have HR3:=hD (HR3.out.row hss.1 (Or.inl (by omega)));have HS:Hid (SsTo w g s4 u4):=hD (HS.out.trans hss);clear hss hst4;go_wp2_with fail;refine(partsDe_any g s4 _ HS.out.2 HL4.out (fun t ht q W hW=>zb4 q ⟨t,false⟩ W hW (Nat.le_trans ht HL4.out))).mono ?_;rintro e u5 ⟨x5,rfl,hx,hst5,hss⟩;rw [show yx tkDe s4=(t5,s5) from HT5.out] at hss hx;simp only at hss hx;have HX5:=hD hx;clear hx;have HR5:=hD (Yr (a:=w.heap.size+1) (b4:=b4) hst5 (by have:=HX.out.lt;omega) (Or.inl (by have:=HX.out.lt;omega)));have hsz5:=hss.1.size;have HV:Hid (Vr u5 w.heap.size [.int .i64 0, .int .i64 0, .int .i64 0, .int .i64 0, .int .i64 0, .string ⟨#[]⟩, .int .i64 0, .int .i64 0, .int .i64 0, .int .i64 0, .int .i64 0, .string ⟨#[]⟩, .string ⟨#[]⟩, .slice none 0 0, .slice none 0 0, .int .i64 0, .string ⟨#[]⟩, .slice none 0 0, .slice none 0 0, .slice none 0 0, .slice none 0 0]):=hD (HV.out.grown hss.1 (by omega));have HX:=hD (HX.out.grown hss.1 (by omega));have HR3:=hD (HR3.out.row hss.1 (Or.inl (by omega)));have HR4:=hD (HR4.out.row hss.1 (Or.inl (by omega)));have HS:Hid (SsTo w g s5 u5):=hD (HS.out.trans hss);clear hss hst5;have c13x:=HX.out.cells 13 _ rfl;have f13x:=HX.out.free 13 (of_decide_eq_true rfl);have c14x:=HX.out.cells 14 _ rfl;have f14x:=HX.out.free 14 (of_decide_eq_true rfl);have lx:=HX.out.lt;go_upto_region 5 with fail;have HS:Hid (SsTo w g s5 ((u5.setCell ⟨b4,13,none⟩ (.slice x4.a x4.l.length x4.c)).setCell ⟨b4,14,none⟩ (.slice x5.a x5.l.length x5.c))):=hD ((HS.out.own (zb u5 ⟨b4,13,none⟩ (.slice x4.a x4.l.length x4.c)) (by show w.heap.size≤b4;omega) (by show g≠b4;omega)).own (zb ((u5.setCell ⟨b4,13,none⟩ (.slice x4.a x4.l.length x4.c))) ⟨b4,14,none⟩ (.slice x5.a x5.l.length x5.c)) (by show w.heap.size≤b4;omega) (by show g≠b4;omega));have HV:Hid (Vr ((u5.setCell ⟨b4,13,none⟩ (.slice x4.a x4.l.length x4.c)).setCell ⟨b4,14,none⟩ (.slice x5.a x5.l.length x5.c)) w.heap.size [.int .i64 0, .int .i64 0, .int .i64 0, .int .i64 0, .int .i64 0, .string ⟨#[]⟩, .int .i64 0, .int .i64 0, .int .i64 0, .int .i64 0, .int .i64 0, .string ⟨#[]⟩, .string ⟨#[]⟩, .slice none 0 0, .slice none 0 0, .int .i64 0, .string ⟨#[]⟩, .slice none 0 0, .slice none 0 0, .slice none 0 0, .slice none 0 0]):=hD ((HV.out.grown (zb u5 ⟨b4,13,none⟩ (.slice x4.a x4.l.length x4.c)) (by show w.heap.size≠b4;omega)).grown (zb ((u5.setCell ⟨b4,13,none⟩ (.slice x4.a x4.l.length x4.c))) ⟨b4,14,none⟩ (.slice x5.a x5.l.length x5.c)) (by show w.heap.size≠b4;omega));have HX:Hid (Vr ((u5.setCell ⟨b4,13,none⟩ (.slice x4.a x4.l.length x4.c)).setCell ⟨b4,14,none⟩ (.slice x5.a x5.l.length x5.c)) b4 (msC ⟨n0,n1,n2,n3,n4,t1,n5,x3,x4,x5,⟨0, [],Sl.nil,Sl.nil,Sl.nil⟩,Sl.nil⟩)):=hD (((HX.out.set 13 (.slice x4.a x4.l.length x4.c)).set 14 (.slice x5.a x5.l.length x5.c)).eq rfl);have HR3:=hD ((HR3.out.row (zb u5 ⟨b4,13,none⟩ (.slice x4.a x4.l.length x4.c)) (Or.inr rfl)).row (zb ((u5.setCell ⟨b4,13,none⟩ (.slice x4.a x4.l.length x4.c))) ⟨b4,14,none⟩ (.slice x5.a x5.l.length x5.c)) (Or.inr rfl));have HR4:=hD ((HR4.out.row (zb u5 ⟨b4,13,none⟩ (.slice x4.a x4.l.length x4.c)) (Or.inr rfl)).row (zb ((u5.setCell ⟨b4,13,none⟩ (.slice x4.a x4.l.length x4.c))) ⟨b4,14,none⟩ (.slice x5.a x5.l.length x5.c)) (Or.inr rfl));have HR5:=hD ((HR5.out.row (zb u5 ⟨b4,13,none⟩ (.slice x4.a x4.l.length x4.c)) (Or.inr rfl)).row (zb ((u5.setCell ⟨b4,13,none⟩ (.slice x4.a x4.l.length x4.c))) ⟨b4,14,none⟩ (.slice x5.a x5.l.length x5.c)) (Or.inr rfl));clear lx c13x f13x c14x f14x;generalize ((u5.setCell ⟨b4,13,none⟩ (.slice x4.a x4.l.length x4.c)).setCell ⟨b4,14,none⟩ (.slice x5.a x5.l.length x5.c))=u6 at HS HV HX HR3 HR4 HR5⊢;go_wp2_with fail;refine(YM g s5 _ HS.out.2 (Nat.le_trans HL5.out (by decide))).mono ?_;rintro e u7 ⟨rfl,hss⟩;rw [show ym s5=(t6,s6) from HT6.out] at hss⊢;simp only at hss⊢;have hsz7:=hss.1.size;have HV:Hid (Vr u7 w.heap.size [.int .i64 0, .int .i64 0, .int .i64 0, .int .i64 0, .int .i64 0, .string ⟨#[]⟩, .int .i64 0, .int .i64 0, .int .i64 0, .int .i64 0, .int .i64 0, .string ⟨#[]⟩, .string ⟨#[]⟩, .slice none 0 0, .slice none 0 0, .int .i64 0, .string ⟨#[]⟩, .slice none 0 0, .slice none 0 0, .slice none 0 0, .slice none 0 0]):=hD (HV.out.grown hss.1 (by omega));have HX:=hD (HX.out.grown hss.1 (by omega));have HR3:=hD (HR3.out.row hss.1 (Or.inl (by omega)));have HR4:=hD (HR4.out.row hss.1 (Or.inl (by omega)));have HR5:=hD (HR5.out.row hss.1 (Or.inl (by omega)));have HS:Hid (SsTo w g s6 u7):=hD (HS.out.trans hss);clear hss;go_wp2_with fail;refine(partSn_any g s6 t6 _ HS.out.2 (fun q W hW=>zdt q ⟨t6,false⟩ W hW HTL6.out)).mono ?_;rintro e u8 ⟨x7,he,hx,hst7,hss⟩;obtain rfl:e= .returned (.agg #[.int .i64 x7.slot, .string ⟨x7.root.toArray⟩, .slice x7.chunks.a x7.chunks.l.length x7.chunks.c, .slice x7.proof.a x7.proof.l.length x7.proof.c, .slice x7.chain.a x7.chain.l.length x7.chain.c]):=he;rw [show yl tkSn t6 s6=(t7,s7) from HT7.out] at hss hx;simp only at hss hx;have HX7:=hD hx;clear hx;have HR7:=hD (Yr (a:=w.heap.size+1) (b4:=b4) hst7 (by have:=HX.out.lt;omega) (Or.inl (by have:=HX.out.lt;omega)));have hsz8:=hss.1.size;have HV:Hid (Vr u8 w.heap.size [.int .i64 0, .int .i64 0, .int .i64 0, .int .i64 0, .int .i64 0, .string ⟨#[]⟩, .int .i64 0, .int .i64 0, .int .i64 0, .int .i64 0, .int .i64 0, .string ⟨#[]⟩, .string ⟨#[]⟩, .slice none 0 0, .slice none 0 0, .int .i64 0, .string ⟨#[]⟩, .slice none 0 0, .slice none 0 0, .slice none 0 0, .slice none 0 0]):=hD (HV.out.grown hss.1 (by omega));have HX:=hD (HX.out.grown hss.1 (by omega));have HR3:=hD (HR3.out.row hss.1 (Or.inl (by omega)));have HR4:=hD (HR4.out.row hss.1 (Or.inl (by omega)));have HR5:=hD (HR5.out.row hss.1 (Or.inl (by omega)));have HS:Hid (SsTo w g s7 u8):=hD (HS.out.trans hss);clear hss hst7;go_upto_region 6 with(refine wpList_store_mid rfl 36 _ _ rfl b4 15 (snC x7).toArray rfl rfl (HX.out.there_at 15 5 (of_decide_eq_true rfl)) (YZ x7) (zcg x7) ?_);try simp only [List.toList_toArray]
 have HS:Hid (SsTo w g s7 (u8.setCells b4 15 (snC x7))):=hD (HS.out.own (zV (b:=b4) (o:=15) (snC x7)) (by omega) (by omega));have HV:Hid (Vr (u8.setCells b4 15 (snC x7)) w.heap.size [.int .i64 0, .int .i64 0, .int .i64 0, .int .i64 0, .int .i64 0, .string ⟨#[]⟩, .int .i64 0, .int .i64 0, .int .i64 0, .int .i64 0, .int .i64 0, .string ⟨#[]⟩, .string ⟨#[]⟩, .slice none 0 0, .slice none 0 0, .int .i64 0, .string ⟨#[]⟩, .slice none 0 0, .slice none 0 0, .slice none 0 0, .slice none 0 0]):=hD (HV.out.grown (zV (b:=b4) (o:=15) (snC x7)) (by omega));have HX:Hid (Vr (u8.setCells b4 15 (snC x7)) b4 (msC ⟨n0,n1,n2,n3,n4,t1,n5,x3,x4,x5,x7,Sl.nil⟩)):=hD ((HX.out.sets_at 15 (snC x7) (of_decide_eq_true rfl)).eq rfl);have HR3:=hD (HR3.out.row (zV (b:=b4) (o:=15) (snC x7)) (Or.inr rfl));have HR4:=hD (HR4.out.row (zV (b:=b4) (o:=15) (snC x7)) (Or.inr rfl));have HR5:=hD (HR5.out.row (zV (b:=b4) (o:=15) (snC x7)) (Or.inr rfl));have HR7:=hD (HR7.out.row (zV (b:=b4) (o:=15) (snC x7)) (Or.inr rfl));generalize u8.setCells b4 15 (snC x7)=u9 at HS HV HX HR3 HR4 HR5 HR7⊢;go_wp2_with fail;refine(zaE g s7 _ HS.out.2 (Nat.le_trans HL7.out (by decide))).mono ?_;rintro e u10 ⟨a8,c8,he,hst8,hss⟩;rw [show ZK s7=(t8,s8) from HT8.out] at hss hst8 he;simp only at hss hst8 he;subst he;have HR8:=hD (Yr (a:=w.heap.size+1) (b4:=b4) hst8 (by have:=HX.out.lt;omega) (Or.inl (by have:=HX.out.lt;omega)));have hsz10:=hss.1.size;have HV:Hid (Vr u10 w.heap.size [.int .i64 0, .int .i64 0, .int .i64 0, .int .i64 0, .int .i64 0, .string ⟨#[]⟩, .int .i64 0, .int .i64 0, .int .i64 0, .int .i64 0, .int .i64 0, .string ⟨#[]⟩, .string ⟨#[]⟩, .slice none 0 0, .slice none 0 0, .int .i64 0, .string ⟨#[]⟩, .slice none 0 0, .slice none 0 0, .slice none 0 0, .slice none 0 0]):=hD (HV.out.grown hss.1 (by omega));have HX:=hD (HX.out.grown hss.1 (by omega));have HR3:=hD (HR3.out.row hss.1 (Or.inl (by omega)));have HR4:=hD (HR4.out.row hss.1 (Or.inl (by omega)));have HR5:=hD (HR5.out.row hss.1 (Or.inl (by omega)));have HR7:=hD (HR7.out.row hss.1 (Or.inl (by omega)));have HS:Hid (SsTo w g s8 u10):=hD (HS.out.trans hss);clear hss hst8;have c20x:=HX.out.cells 20 _ rfl;have f20x:=HX.out.free 20 (of_decide_eq_true rfl);have lx:=HX.out.lt;go_upto_region 7 with fail;have HS:Hid (SsTo w g s8 (u10.setCell ⟨b4,20,none⟩ (.slice a8 t8.length c8))):=hD (HS.out.own (zb u10 ⟨b4,20,none⟩ (.slice a8 t8.length c8)) (by show w.heap.size≤b4;omega) (by show g≠b4;omega));have HV:Hid (Vr (u10.setCell ⟨b4,20,none⟩ (.slice a8 t8.length c8)) w.heap.size [.int .i64 0, .int .i64 0, .int .i64 0, .int .i64 0, .int .i64 0, .string ⟨#[]⟩, .int .i64 0, .int .i64 0, .int .i64 0, .int .i64 0, .int .i64 0, .string ⟨#[]⟩, .string ⟨#[]⟩, .slice none 0 0, .slice none 0 0, .int .i64 0, .string ⟨#[]⟩, .slice none 0 0, .slice none 0 0, .slice none 0 0, .slice none 0 0]):=hD (HV.out.grown (zb u10 ⟨b4,20,none⟩ (.slice a8 t8.length c8)) (by show w.heap.size≠b4;omega));have HX:Hid (Vr (u10.setCell ⟨b4,20,none⟩ (.slice a8 t8.length c8)) b4 (msC ⟨n0,n1,n2,n3,n4,t1,n5,x3,x4,x5,x7,⟨a8,c8,t8⟩⟩)):=hD ((HX.out.set 20 (.slice a8 t8.length c8)).eq rfl);have HR3:=hD (HR3.out.row (zb u10 ⟨b4,20,none⟩ (.slice a8 t8.length c8)) (Or.inr rfl));have HR4:=hD (HR4.out.row (zb u10 ⟨b4,20,none⟩ (.slice a8 t8.length c8)) (Or.inr rfl));have HR5:=hD (HR5.out.row (zb u10 ⟨b4,20,none⟩ (.slice a8 t8.length c8)) (Or.inr rfl));have HR7:=hD (HR7.out.row (zb u10 ⟨b4,20,none⟩ (.slice a8 t8.length c8)) (Or.inr rfl));have HR8:=hD (HR8.out.row (zb u10 ⟨b4,20,none⟩ (.slice a8 t8.length c8)) (Or.inr rfl));clear lx c20x f20x;generalize (u10.setCell ⟨b4,20,none⟩ (.slice a8 t8.length c8))=u11 at HS HV HX HR3 HR4 HR5 HR7 HR8⊢;go_wp2_with (first
  |(refine wpList_load_mid rfl 38 _ rfl b4 0 rfl (msC ⟨n0,n1,n2,n3,n4,t1,n5,x3,x4,x5,x7,⟨a8,c8,t8⟩⟩) _ HX.out.range Tryz.underlying38 rfl (zT ⟨n0,n1,n2,n3,n4,t1,n5,x3,x4,x5,x7,⟨a8,c8,t8⟩⟩) ?_)
  |(refine wpList_store_mid rfl 38 _ _ rfl w.heap.size 0 (msC ⟨n0,n1,n2,n3,n4,t1,n5,x3,x4,x5,x7,⟨a8,c8,t8⟩⟩).toArray rfl rfl (HV.out.there rfl) (zT ⟨n0,n1,n2,n3,n4,t1,n5,x3,x4,x5,x7,⟨a8,c8,t8⟩⟩) (yR ⟨n0,n1,n2,n3,n4,t1,n5,x3,x4,x5,x7,⟨a8,c8,t8⟩⟩) ?_))
 have HSe:=hD (HS.out.own (zf (b:=w.heap.size) (msC ⟨n0,n1,n2,n3,n4,t1,n5,x3,x4,x5,x7,⟨a8,c8,t8⟩⟩)) (Nat.le_refl _) (by omega));have HVe:=hD (HV.out.sets (msC ⟨n0,n1,n2,n3,n4,t1,n5,x3,x4,x5,x7,⟨a8,c8,t8⟩⟩) rfl);refine bodyPost_ret (v:= .agg (msC ⟨n0,n1,n2,n3,n4,t1,n5,x3,x4,x5,x7,⟨a8,c8,t8⟩⟩).toArray) ?_ rfl (zeC (x:=⟨n0,n1,n2,n3,n4,t1,n5,x3,x4,x5,x7,⟨a8,c8,t8⟩⟩) HSpec.out rfl ?_ ?_ HSe.out)
 · exact zS Tryz.results126 _ _ w.heap.size (msC ⟨n0,n1,n2,n3,n4,t1,n5,x3,x4,x5,x7,⟨a8,c8,t8⟩⟩) _ rfl HVe.out.range Tryz.underlying38 rfl (zT ⟨n0,n1,n2,n3,n4,t1,n5,x3,x4,x5,x7,⟨a8,c8,t8⟩⟩)
 · show Ms.mk n0 n1 n2 n3 n4 t1 n5 x3 (Sl.of (x4.l.map St.er)) (Sl.of (x5.l.map De.er)) x7.er (Sl.er ⟨a8,c8,t8⟩)=_;have h3:x3=t3:=HX3.out;rw [h3,HX4.out,HX5.out,HX7.out];rfl
 · exact fun W hW=>⟨⟨HN64.out n0 (by simp),HN64.out n1 (by simp),HN64.out n2 (by simp),HN64.out n3 (by simp),HN64.out n4 (by simp),HN64.out n5 (by simp)⟩,((HR3.out.row (zf (b:=w.heap.size) _) (Or.inl (by omega))).stays.low (by omega)) W hW,⟨(((HR4.out.row (zf (b:=w.heap.size) _) (Or.inl (by omega))).stays.low (by omega)) W hW).1,(((HR4.out.row (zf (b:=w.heap.size) _) (Or.inl (by omega))).stays.low (by omega)) W hW).2⟩,⟨(((HR5.out.row (zf (b:=w.heap.size) _) (Or.inl (by omega))).stays.low (by omega)) W hW).1,(((HR5.out.row (zf (b:=w.heap.size) _) (Or.inl (by omega))).stays.low (by omega)) W hW).2⟩,((HR7.out.row (zf (b:=w.heap.size) _) (Or.inl (by omega))).stays.low (by omega)) W hW,by have h9:=((HR8.out.row (zf (b:=w.heap.size) _) (Or.inl (by omega))).stays.low (by omega)) W hW;show Rd W 1 a8 t8.length (t8.flatMap strV);rw [zcd];exact h9⟩):p:=h
theorem fo1 {p:Prop} (h:p:=by
 refine tkr 8 rfl (fun K hK=> ?_);have e0:=HVF.out.cells 0 _ rfl;have e1:=HVF.out.cells 1 _ rfl;have e2:=HVF.out.cells 2 _ rfl;have e3:=HVF.out.cells 3 _ rfl;have f0:=HVF.out.free 0 (by simp);have f1:=HVF.out.free 1 (by simp);have f2:=HVF.out.free 2 (by simp);have f3:=HVF.out.free 3 (by simp);have lz:=HVF.out.lt;go_simp;change K _ (v2.setCells b4 0 [.string ⟨(zn k).toArray⟩, .bool (zt k), .bool (zx k), .bool (zD k)]);have HB:=hD (zh HB.out (zf (b:=b4) [.string ⟨(zn k).toArray⟩, .bool (zt k), .bool (zx k), .bool (zD k)]) (by omega));have HR:=hD (HR.out.grown (zf (b:=b4) [.string ⟨(zn k).toArray⟩, .bool (zt k), .bool (zx k), .bool (zD k)]) (by omega));have HO:=hD (HO.out.grown (zf (b:=b4) [.string ⟨(zn k).toArray⟩, .bool (zt k), .bool (zx k), .bool (zD k)]) (by omega));have HM:=hD (HM.out.kept (zf (b:=b4) [.string ⟨(zn k).toArray⟩, .bool (zt k), .bool (zx k), .bool (zD k)]) (by simpa using HNe.out));have HVF:=hD (HVF.out.sets [.string ⟨(zn k).toArray⟩, .bool (zt k), .bool (zx k), .bool (zD k)] rfl);clear e0 e1 e2 e3 f0 f1 f2 f3 lz;generalize v2.setCells b4 0 [.string ⟨(zn k).toArray⟩, .bool (zt k), .bool (zx k), .bool (zD k)]=v3 at HB HR HO HM HVF⊢;refine hK.out _ _ ⟨HO.out.cells 0 _ rfl,zfK HM.out k h1 h6⟩ (fun hHeld=> ?_);clear hK K;try simp only [Act.put,qk1,qk2,qk3,qk4,qk5,qk6]
 refine tkr 9 rfl (fun K hK=> ?_);go_simp;refine hK.out _ _ hHeld (fun hHeld=> ?_);clear hK K;try simp only [Act.put,qk1,qk2,qk3,qk4,qk5,qk6]
 refine wpAnyH_done (by kernel_rfl) ?_ _;refine NoPanic.normal ?_;clear HM HNe;cases hk1:zB key.data.toList (zt k) with
 |false=>
  have hQ:zO k key.data.toList old.data.toList new.data.toList=false:=by unfold zO;rw [hk1];rfl
  go_wp2_with fail;refine wp_region_noPanic ?_;have HO:=hD (HO.out.below (Below.refl _ _).drew);have HR:=hD (HR.out.below (Below.refl _ _).drew);have HVF:=hD (HVF.out.below (Below.refl _ _).drew);have HB:=hD (HB.out.drew);generalize hv:v3.drew=v4 at HO HR HVF HB;refine wp_region_held_drew (S:=fun W=>World.cell? W ⟨w.heap.size,1,none⟩=some (.string key)∧World.cell? W ⟨w.heap.size,2,none⟩=some (.string old)∧World.cell? W ⟨w.heap.size,3,none⟩=some (.string new)∧World.cell? W ⟨b4,0,none⟩=some (.string ⟨(zn k).toArray⟩)∧World.cell? W ⟨b4,1,none⟩=some (.bool (zt k))∧World.cell? W ⟨b4,2,none⟩=some (.bool (zx k))∧World.cell? W ⟨b4,3,none⟩=some (.bool (zD k))) (by kernel_rfl) (by rw [hv];exact⟨HO.out.cells 1 _ rfl,HO.out.cells 2 _ rfl,HO.out.cells 3 _ rfl,HVF.out.cells 0 _ rfl,HVF.out.cells 1 _ rfl,HVF.out.cells 2 _ rfl,HVF.out.cells 3 _ rfl⟩) (fun hHeld=> ?_);rw [hv] at hHeld⊢;clear hv;refine takes [0,1,2,3,4,5,6] ?_;refine tkr 7 rfl (fun K hK=> ?_);go_simp;go_at_call 244;refine(zaI key (zt k) _ s1).mono ?_;rw [hk1];rintro e wq ⟨rfl,hwq⟩;replace hwq:=hwq.symm;subst hwq;go_wp2_with fail;refine hK.out _ _ (by assumption) (fun hHeld=> ?_);clear hK K;try simp only [Act.put,qk1,qk2,qk3,qk4,qk5,qk6]
  refine takes [8,9,10,11,12,13,14,15,16,17,18,19,20,21,22] ?_;exact fo151
 |true=>
  cases hk2:zB old.data.toList (zx k) with
  |false=>
   have hQ:zO k key.data.toList old.data.toList new.data.toList=false:=by unfold zO;rw [hk1,hk2];rfl
   go_wp2_with fail;refine wp_region_noPanic ?_;have HO:=hD (HO.out.below (Below.refl _ _).drew);have HR:=hD (HR.out.below (Below.refl _ _).drew);have HVF:=hD (HVF.out.below (Below.refl _ _).drew);have HB:=hD (HB.out.drew);generalize hv:v3.drew=v4 at HO HR HVF HB;refine wp_region_held_drew (S:=fun W=>World.cell? W ⟨w.heap.size,1,none⟩=some (.string key)∧World.cell? W ⟨w.heap.size,2,none⟩=some (.string old)∧World.cell? W ⟨w.heap.size,3,none⟩=some (.string new)∧World.cell? W ⟨b4,0,none⟩=some (.string ⟨(zn k).toArray⟩)∧World.cell? W ⟨b4,1,none⟩=some (.bool (zt k))∧World.cell? W ⟨b4,2,none⟩=some (.bool (zx k))∧World.cell? W ⟨b4,3,none⟩=some (.bool (zD k))) (by kernel_rfl) (by rw [hv];exact⟨HO.out.cells 1 _ rfl,HO.out.cells 2 _ rfl,HO.out.cells 3 _ rfl,HVF.out.cells 0 _ rfl,HVF.out.cells 1 _ rfl,HVF.out.cells 2 _ rfl,HVF.out.cells 3 _ rfl⟩) (fun hHeld=> ?_);rw [hv] at hHeld⊢;clear hv;refine takes [0,1,2,3,4,5,6] ?_;refine tkr 7 rfl (fun K hK=> ?_);go_simp;go_at_call 244;refine(zaI key (zt k) _ s1).mono ?_;rw [hk1];rintro e wq ⟨rfl,hwq⟩;replace hwq:=hwq.symm;subst hwq;go_wp2_with fail;refine hK.out _ _ (by assumption) (fun hHeld=> ?_);clear hK K;try simp only [Act.put,qk1,qk2,qk3,qk4,qk5,qk6]
   refine takes [8,9,10,11,12,13] ?_;refine tkr 14 rfl (fun K hK=> ?_);go_simp;go_at_call 244;refine(zaI old (zx k) _ s2).mono ?_;rw [hk2];rintro e wq ⟨rfl,hwq⟩;replace hwq:=hwq.symm;subst hwq;go_wp2_with fail;refine hK.out _ _ (by assumption) (fun hHeld=> ?_);clear hK K;try simp only [Act.put,qk1,qk2,qk3,qk4,qk5,qk6]
   refine takes [15,16,17,18,19,20,21,22] ?_;exact fo151
  |true=>
   obtain⟨bb,hk3⟩:∃bb,zB new.data.toList (zD k)=bb:=⟨_,rfl⟩;have hQ:zO k key.data.toList old.data.toList new.data.toList=bb:=by unfold zO;rw [hk1,hk2,hk3];rfl
   go_wp2_with fail;refine wp_region_noPanic ?_;have HO:=hD (HO.out.below (Below.refl _ _).drew);have HR:=hD (HR.out.below (Below.refl _ _).drew);have HVF:=hD (HVF.out.below (Below.refl _ _).drew);have HB:=hD (HB.out.drew);generalize hv:v3.drew=v4 at HO HR HVF HB;refine wp_region_held_drew (S:=fun W=>World.cell? W ⟨w.heap.size,1,none⟩=some (.string key)∧World.cell? W ⟨w.heap.size,2,none⟩=some (.string old)∧World.cell? W ⟨w.heap.size,3,none⟩=some (.string new)∧World.cell? W ⟨b4,0,none⟩=some (.string ⟨(zn k).toArray⟩)∧World.cell? W ⟨b4,1,none⟩=some (.bool (zt k))∧World.cell? W ⟨b4,2,none⟩=some (.bool (zx k))∧World.cell? W ⟨b4,3,none⟩=some (.bool (zD k))) (by kernel_rfl) (by rw [hv];exact⟨HO.out.cells 1 _ rfl,HO.out.cells 2 _ rfl,HO.out.cells 3 _ rfl,HVF.out.cells 0 _ rfl,HVF.out.cells 1 _ rfl,HVF.out.cells 2 _ rfl,HVF.out.cells 3 _ rfl⟩) (fun hHeld=> ?_);rw [hv] at hHeld⊢;clear hv;refine takes [0,1,2,3,4,5,6] ?_;refine tkr 7 rfl (fun K hK=> ?_);go_simp;go_at_call 244;refine(zaI key (zt k) _ s1).mono ?_;rw [hk1];rintro e wq ⟨rfl,hwq⟩;replace hwq:=hwq.symm;subst hwq;go_wp2_with fail;refine hK.out _ _ (by assumption) (fun hHeld=> ?_);clear hK K;try simp only [Act.put,qk1,qk2,qk3,qk4,qk5,qk6]
   refine takes [8,9,10,11,12,13] ?_;refine tkr 14 rfl (fun K hK=> ?_);go_simp;go_at_call 244;refine(zaI old (zx k) _ s2).mono ?_;rw [hk2];rintro e wq ⟨rfl,hwq⟩;replace hwq:=hwq.symm;subst hwq;go_wp2_with fail;refine hK.out _ _ (by assumption) (fun hHeld=> ?_);clear hK K;try simp only [Act.put,qk1,qk2,qk3,qk4,qk5,qk6]
   refine takes [15,16,17,18,19,20] ?_;refine tkr 21 rfl (fun K hK=> ?_);go_simp;go_at_call 244;refine(zaI new (zD k) _ s3).mono ?_;rw [hk3];rintro e wq ⟨rfl,hwq⟩;replace hwq:=hwq.symm;subst hwq;go_wp2_with fail;refine hK.out _ _ (by assumption) (fun hHeld=> ?_);clear hK K;try simp only [Act.put,qk1,qk2,qk3,qk4,qk5,qk6]
   refine takes [22] ?_;refine tkr 23 rfl (fun K hK=> ?_);have e0:=HR.out.cells 0 _ rfl;have e1:=HR.out.cells 1 _ rfl;have e2:=HR.out.cells 2 _ rfl;have e3:=HR.out.cells 3 _ rfl;have f0:=HR.out.free 0 (by simp);have f1:=HR.out.free 1 (by simp);have f2:=HR.out.free 2 (by simp);have f3:=HR.out.free 3 (by simp);have lz:=HR.out.lt;go_simp;change K _ (v4.setCells (w.heap.size+1) 0 [.string ⟨(zn k).toArray⟩, .bool (zt k), .bool (zx k), .bool (zD k)]);have HB:=hD (zh HB.out (zf (b:=w.heap.size+1) [.string ⟨(zn k).toArray⟩, .bool (zt k), .bool (zx k), .bool (zD k)]) (by omega));have HO:=hD (HO.out.grown (zf (b:=w.heap.size+1) [.string ⟨(zn k).toArray⟩, .bool (zt k), .bool (zx k), .bool (zD k)]) (by omega));have HVF:=hD (HVF.out.grown (zf (b:=w.heap.size+1) [.string ⟨(zn k).toArray⟩, .bool (zt k), .bool (zx k), .bool (zD k)]) (by omega));have HR:=hD (HR.out.sets [.string ⟨(zn k).toArray⟩, .bool (zt k), .bool (zx k), .bool (zD k)] rfl);clear e0 e1 e2 e3 f0 f1 f2 f3 lz;generalize v4.setCells (w.heap.size+1) 0 [.string ⟨(zn k).toArray⟩, .bool (zt k), .bool (zx k), .bool (zD k)]=v5 at HB HO HR HVF⊢;refine hK.out _ _ ⟨HO.out.cells 1 _ rfl,HO.out.cells 2 _ rfl,HO.out.cells 3 _ rfl,HVF.out.cells 0 _ rfl,HVF.out.cells 1 _ rfl,HVF.out.cells 2 _ rfl,HVF.out.cells 3 _ rfl⟩ (fun hHeld=> ?_);clear hK K;try simp only [Act.put,qk1,qk2,qk3,qk4,qk5,qk6]
   refine tkr 24 rfl (fun K hK=> ?_);go_simp;refine hK.out _ _ hHeld (fun hHeld=> ?_);clear hK K;try simp only [Act.put,qk1,qk2,qk3,qk4,qk5,qk6]
   refine wpAnyH_done (by kernel_rfl) ?_ _;refine NoPanic.normal ?_;go_wp2_with fail;refine bodyPost_ret (v:= .tuple #[.agg #[.string ⟨(zn k).toArray⟩, .bool (zt k), .bool (zx k), .bool (zD k)], .bool bb]) ?_ rfl ⟨by rw [hQ],HB.out⟩;exact fo187):p:=h
theorem fo2 {p:Prop} (h:p:=by
 refine hK.out _ _ ?_ (fun hHeld=> ?_)
 · exact fo157
 clear hK K;try simp only [Act.put,qk1,qk2,qk3]
 refine wpAnyH_ready (rs:= [20]) (by kernel_rfl) (by simp) ?_;refine AllReadyH.cons (o:=_) rfl (fun K hK=> ?_) ?_
 · (refine step_append_lies _ (by rfl) _ _ _ (by rfl) (w1.heap.size+1) 191 i0 _ 3 32 Tryz.underlying127 HI.out HZ0.out HZ1.out HZ2.out rfl (by decide) _ _ _ (by rfl) ((HOW.out _ ‹Below wr.heap.size wr _›).alloc _) _ 1 1 [.int .i64 (numR a), .int .i64 (numR b), .string ⟨d.toArray⟩] (by rfl) (by rfl) (World.news_of_block (cs:=#[.int .i64 (numR a), .int .i64 (numR b), .string ⟨d.toArray⟩]) (t:=191) (fr:=(0,0)) (heap_alloc_new _ _)) (by simp [Value.oneCell']) (by omega) (by simp [maxLen];omega) (by omega) (by have hz:=b2.size;simp;omega) _ rfl ?_;intro gg cap w3 hown1 hgrow hat hlt3;have HO4:=hD (O3.grown ((HO.out.below b2).alloc _) hgrow hob);have q2:=HO4.out.c2;have qf2:=HO4.out.f2)
   refine hK.out _ _ ?_ (fun hHeld=> ?_)
   · exact fo157
   clear hK K;try simp only [Act.put,qk1,qk2,qk3]
   refine takes [21] ?_;refine wpAnyH_ready (rs:= [22]) (by kernel_rfl) (by simp) ?_;refine AllReadyH.cons (o:=_) rfl (fun K hK=> ?_) ?_
   · go_simp;refine hK.out _ _ ?_ (fun hHeld=> ?_)
     · exact fo157
     clear hK K;try simp only [Act.put,qk1,qk2,qk3]
     refine wpAnyH_done (by kernel_rfl) ?_ _;refine NoPanic.normal ?_;have HOwn4:=hD hown1;have HG4:=hD hgrow;clear hown1 hgrow hat;have hbs:=b2.size;have hbg:Below w1.heap.size w1 w3:=below_grown ((bon HB.out b2).alloc (by omega) _) (by simp;omega) HG4.out (fun g hg=>by have:=(HOwn.out.lt g hg).1;omega);have HB5:=hD (hbg.setCell (p:=⟨w1.heap.size,2,none⟩) (Nat.le_refl _) (.slice (some ⟨gg,0,none⟩) (done.length+1) cap));have HO5:=hD (HO4.out.set2 (.slice (some ⟨gg,0,none⟩) (done.length+1) cap));have hz5:w2.heap.size+1≤w3.heap.size:=by have:=HG4.out.size;simpa using this
     have HOwn5:Hid ((w3.setCell ⟨w1.heap.size,2,none⟩ (.slice (some ⟨gg,0,none⟩) (done.length+1) cap)).ownsRow (w1.heap.size+1) 191 3 (.slice (some ⟨gg,0,none⟩) (done.length+1) cap) (done.length+1) ((done++ [(⟨numR a,numR b,d⟩:Rq)]).flatMap rqC)):=hD (zeS (by have h9:=HOwn4.out;simpa [rqC] using h9) _ _ (by simp) (by show w1.heap.size<w1.heap.size+1;omega));have hlen9:(done++ [(⟨numR a,numR b,d⟩:Rq)]).length=done.length+1:=by simp
     have HDn2:Hid (∀r∈done++ [(⟨numR a,numR b,d⟩:Rq)],I64 r.client∧I64 r.number∧r.op.length≤200):=hD (fun q hq=>by
      simp only [List.mem_append,List.mem_cons,List.not_mem_nil,or_false] at hq;rcases hq with hq|rfl
      · exact HDn.out q hq
      · exact⟨numR_i64 a,numR_i64 b,hdl2⟩)
     clear hbg hHeld q2 qf2;go_wp2_with fail;go_roundw
     case rel=>exact⟨k+1,m+3,some ⟨gg,0,none⟩,cap,_,by go_num,by have:=HMk.out;omega,by omega,by rw [hlen9,HDl.out],HRe2.out,HDn2.out,by rw [hlen9];exact HO5.out,by rw [hlen9];exact HOwn5.out,HB5.out,by simp;omega⟩
     case measure=>have:=HMk.out;simp [intOf];omega
   exact AllReadyH.nil
 exact AllReadyH.nil):p:=h
theorem fo3 {p:Prop} (h:p:=by
 refine hK.out _ _ trivial (fun hHeld=> ?_);clear hK K;try simp only [Act.put,qk1,qk2,qk3,qk4,qk5,qk6]
 refine tkr 6 rfl (fun K hK=> ?_);have e0:=HO.out.cells 0 _ rfl;have e1:=HO.out.cells 1 _ rfl;have e2:=HO.out.cells 2 _ rfl;have e3:=HO.out.cells 3 _ rfl;have f0:=HO.out.free 0 (by simp);have f1:=HO.out.free 1 (by simp);have f2:=HO.out.free 2 (by simp);have f3:=HO.out.free 3 (by simp);have lz:=HO.out.lt;go_simp;change K _ (v2.setCells b7 0 [.int .i64 (k:Int), .string ⟨#[]⟩, .string ⟨#[]⟩, .string ⟨#[]⟩]);have HR:=hD (HR.out.grown (zf (b:=b7) [.int .i64 (k:Int), .string ⟨#[]⟩, .string ⟨#[]⟩, .string ⟨#[]⟩]) (by omega));have HB6:=hD (zh HB6.out (zf (b:=b7) [.int .i64 (k:Int), .string ⟨#[]⟩, .string ⟨#[]⟩, .string ⟨#[]⟩]) (by omega));have HO:=hD (HO.out.sets [.int .i64 (k:Int), .string ⟨#[]⟩, .string ⟨#[]⟩, .string ⟨#[]⟩] rfl);clear e0 e1 e2 e3 f0 f1 f2 f3 lz;generalize v2.setCells b7 0 [.int .i64 (k:Int), .string ⟨#[]⟩, .string ⟨#[]⟩, .string ⟨#[]⟩]=v3 at HO HR HB6⊢;refine hK.out _ _ trivial (fun hHeld=> ?_);clear hK K;try simp only [Act.put,qk1,qk2,qk3,qk4,qk5,qk6]
 refine tkr 7 rfl (fun K hK=> ?_);have e0:=HR.out.cells 0 _ rfl;have f0:=HR.out.free 0 (by simp);have lz:=HR.out.lt;go_simp;have HO:=hD (HO.out.grown (zb v3 ⟨b8,0,none⟩ (.slice (some ⟨bp,o2,none⟩) rest.length rest.length)) (by show b7≠b8;omega));have HB6:=hD (zh HB6.out (zb v3 ⟨b8,0,none⟩ (.slice (some ⟨bp,o2,none⟩) rest.length rest.length)) (by show w6.heap.size≤b8;omega));have HR:=hD (HR.out.set 0 (.slice (some ⟨bp,o2,none⟩) rest.length rest.length));clear e0 f0 lz;generalize v3.setCell ⟨b8,0,none⟩ (.slice (some ⟨bp,o2,none⟩) rest.length rest.length)=v4 at HO HR HB6⊢;refine hK.out _ _ trivial (fun hHeld=> ?_);clear hK K;try simp only [Act.put,qk1,qk2,qk3,qk4,qk5,qk6]
 refine wpAnyH_done (by kernel_rfl) ?_ _;refine NoPanic.normal ?_;clear hs1;have HR:Hid (RestAt v4 b8 bp rest):=hD ⟨HR.out.lt,by have:=HP6.out.lt;have:=HB6.out.size;omega,by have:=HP6.out.lt;omega,HR.out.free 0 (by simp),o2,rest.length,HR.out.cells 0 _ rfl,Nat.le_refl _,by simp only [List.length_cons] at hrl;omega,fun j u hu=>by
  have hj:0<rest.length:=by
   have:=(List.getElem?_eq_some_iff.1 hu).1;rw [zaV] at this;omega
  rw [HO2.out hj,Nat.add_comm];exact(HP6.out.below HB6.out).cells (j+1) u hu⟩
 have HV6:=hD (HV6.out.below HB6.out);have hb6:b6<w6.heap.size:=HV6b.out;clear HO2;go_wp2_with fail;refine wp_region_noPanic ?_;have HO:=hD (HO.out.below (Below.refl _ _).drew);have HR:=hD (HR.out.below (Below.refl _ _).drew);have HV6:=hD (HV6.out.below (Below.refl _ _).drew);have HB6:=hD (HB6.out.drew);generalize hv:v4.drew=u0 at HO HR HV6 HB6;refine wp_region_held_drew (S:=fun W=>World.cell? W ⟨b6,1,none⟩=some (.bool (zt k))∧World.cell? W ⟨b6,2,none⟩=some (.bool (zx k))∧World.cell? W ⟨b6,3,none⟩=some (.bool (zD k))) (by kernel_rfl) (by rw [hv];exact⟨HV6.out.cells 1 _ rfl,HV6.out.cells 2 _ rfl,HV6.out.cells 3 _ rfl⟩) (fun hHeld=> ?_);rw [hv] at hHeld⊢;clear hv;refine takes [0,1,2,4,5,6,8,9,10] ?_;refine tkr 3 rfl (fun K hK=> ?_);go_simp;go_at_call 138;refine(zcE (zt k) (rest) b8 bp u0 HR.out).mono ?_;rintro e u1 ⟨rfl,hr,hg,hz⟩;have HR:=hD hr;have HO:=hD (HO.out.grown hg (by omega));have HV6:=hD (HV6.out.grown hg (by omega));have HB6:=hD (below_grown HB6.out HB6.out.size hg (fun g h=>by simp only [Option.some.injEq] at h;omega));clear hr hg hz;go_wp2_with fail;refine hK.out _ _ ⟨HV6.out.cells 1 _ rfl,HV6.out.cells 2 _ rfl,HV6.out.cells 3 _ rfl⟩ (fun hHeld=> ?_);clear hK K;try simp only [Act.put,qk1,qk2,qk3,qk4,qk5,qk6]
 refine takes [12] ?_;refine tkr 7 rfl (fun K hK=> ?_);go_simp;go_at_call 138;refine(zcE (zx k) (yA (zt k) rest) b8 bp u1 HR.out).mono ?_;rintro e u2 ⟨rfl,hr,hg,hz⟩;have HR:=hD hr;have HO:=hD (HO.out.grown hg (by omega));have HV6:=hD (HV6.out.grown hg (by omega));have HB6:=hD (below_grown HB6.out HB6.out.size hg (fun g h=>by simp only [Option.some.injEq] at h;omega));clear hr hg hz;go_wp2_with fail;refine hK.out _ _ ⟨HV6.out.cells 1 _ rfl,HV6.out.cells 2 _ rfl,HV6.out.cells 3 _ rfl⟩ (fun hHeld=> ?_);clear hK K;try simp only [Act.put,qk1,qk2,qk3,qk4,qk5,qk6]
 refine tkr 11 rfl (fun K hK=> ?_);go_simp;go_at_call 138;refine(zcE (zD k) (yA (zx k) (yA (zt k) rest)) b8 bp u2 HR.out).mono ?_;rintro e u3 ⟨rfl,hr,hg,hz⟩;have HR:=hD hr;have HO:=hD (HO.out.grown hg (by omega));have HV6:=hD (HV6.out.grown hg (by omega));have HB6:=hD (below_grown HB6.out HB6.out.size hg (fun g h=>by simp only [Option.some.injEq] at h;omega));clear hr hg hz;go_wp2_with fail;refine hK.out _ _ ⟨HV6.out.cells 1 _ rfl,HV6.out.cells 2 _ rfl,HV6.out.cells 3 _ rfl⟩ (fun hHeld=> ?_);clear hK K;try simp only [Act.put,qk1,qk2,qk3,qk4,qk5,qk6]
 have hsz:(Yg (zt k) rest).length+(Yg (zx k) (yA (zt k) rest)).length+(Yg (zD k) (yA (zx k) (yA (zt k) rest))).length≤1048576:=take_sizes (m:=300000) (fun y hy=>Nat.le_trans (cut_len s.data.toList y (by rw [HC.out];exact List.mem_cons_of_mem _ hy)) (by simpa using hs)) _ _ _;have HQ:Hid ((zO k (Yg (zt k) rest) (Yg (zx k) (yA (zt k) rest)) (Yg (zD k) (yA (zx k) (yA (zt k) rest))) &&(yo k (Yg (zt k) rest) (Yg (zx k) (yA (zt k) rest)) (Yg (zD k) (yA (zx k) (yA (zt k) rest))) == s.data.toList))=kindOk k s.data.toList):=HKd;generalize Yg (zD k) (yA (zx k) (yA (zt k) rest))=new at hsz HQ⊢;generalize Yg (zx k) (yA (zt k) rest)=old at hsz HQ⊢;generalize Yg (zt k) rest=key at hsz HQ⊢;refine tkr 13 rfl (fun K hK=> ?_);have cz:=HO.out.cells 1 _ rfl;have fz:=HO.out.free 1 (by simp);have lz:=HO.out.lt;go_simp;have HO:=hD (HO.out.set 1 (.string ⟨key.toArray⟩));have HV6:=hD (HV6.out.grown (zb u3 ⟨b7,1,none⟩ (.string ⟨key.toArray⟩)) (by show b6≠b7;omega));have HB6:=hD (zh HB6.out (zb u3 ⟨b7,1,none⟩ (.string ⟨key.toArray⟩)) (by show w6.heap.size≤b7;omega));clear cz fz lz;generalize u3.setCell ⟨b7,1,none⟩ (.string ⟨key.toArray⟩)=u4 at HO HV6 HB6⊢;refine hK.out _ _ ⟨HV6.out.cells 1 _ rfl,HV6.out.cells 2 _ rfl,HV6.out.cells 3 _ rfl⟩ (fun hHeld=> ?_);clear hK K;try simp only [Act.put,qk1,qk2,qk3,qk4,qk5,qk6]
 refine takes [14] ?_;refine tkr 15 rfl (fun K hK=> ?_);have cz:=HO.out.cells 2 _ rfl;have fz:=HO.out.free 2 (by simp);have lz:=HO.out.lt;go_simp;have HO:=hD (HO.out.set 2 (.string ⟨old.toArray⟩));have HV6:=hD (HV6.out.grown (zb u4 ⟨b7,2,none⟩ (.string ⟨old.toArray⟩)) (by show b6≠b7;omega));have HB6:=hD (zh HB6.out (zb u4 ⟨b7,2,none⟩ (.string ⟨old.toArray⟩)) (by show w6.heap.size≤b7;omega));clear cz fz lz;generalize u4.setCell ⟨b7,2,none⟩ (.string ⟨old.toArray⟩)=u5 at HO HV6 HB6⊢;refine hK.out _ _ ⟨HV6.out.cells 1 _ rfl,HV6.out.cells 2 _ rfl,HV6.out.cells 3 _ rfl⟩ (fun hHeld=> ?_);clear hK K;try simp only [Act.put,qk1,qk2,qk3,qk4,qk5,qk6]
 refine takes [16] ?_;refine tkr 17 rfl (fun K hK=> ?_);have cz:=HO.out.cells 3 _ rfl;have fz:=HO.out.free 3 (by simp);have lz:=HO.out.lt;go_simp;have HO:=hD (HO.out.set 3 (.string ⟨new.toArray⟩));have HV6:=hD (HV6.out.grown (zb u5 ⟨b7,3,none⟩ (.string ⟨new.toArray⟩)) (by show b6≠b7;omega));have HB6:=hD (zh HB6.out (zb u5 ⟨b7,3,none⟩ (.string ⟨new.toArray⟩)) (by show w6.heap.size≤b7;omega));clear cz fz lz;generalize u5.setCell ⟨b7,3,none⟩ (.string ⟨new.toArray⟩)=u6 at HO HV6 HB6⊢;refine hK.out _ _ ⟨HV6.out.cells 1 _ rfl,HV6.out.cells 2 _ rfl,HV6.out.cells 3 _ rfl⟩ (fun hHeld=> ?_);clear hK K;try simp only [Act.put,qk1,qk2,qk3,qk4,qk5,qk6]
 refine wpAnyH_done (by kernel_rfl) ?_ _;refine NoPanic.normal ?_;have HO:=hD (HO.out.eq (cs':= [.int .i64 (k:Int), .string ⟨key.toArray⟩, .string ⟨old.toArray⟩, .string ⟨new.toArray⟩]) rfl);have HFm:=hD (format_any k h1 h6 key old new u6 hsz);have o0:=HO.out.cells 0 _ rfl;have o1:=HO.out.cells 1 _ rfl;have o3:=HO.out.cells 2 _ rfl;have o4:=HO.out.cells 3 _ rfl;have ol:=HO.out.lt;go_wp2_with fail;clear o0 o1 o3 o4 ol;cases hq:zO k key old new with
 |false=>
  rw [hq] at HFm HQ;have HK:Hid (kindOk k s.data.toList=false):=hD HQ.out.symm;refine HFm.out.mono ?_;rintro e u7 ⟨rfl,b7'⟩;have HG:=hD (Yv HG.out (bon HB6.out b7'));have HW7:=hD (bon HW6.out (bon HB6.out b7'));clear b7' hq;exact fo173
 |true=>
  rw [hq] at HFm HQ;refine HFm.out.mono ?_;rintro e u7 ⟨rfl,b7'⟩;have HG:=hD (Yv HG.out (bon HB6.out b7'));have HW7:=hD (bon HW6.out (bon HB6.out b7'));have HO:=hD (HO.out.below b7');clear b7' hq;by_cases ht:yo k key old new=s.data.toList
  · have t1:(yo k key old new == s.toList)=true:=by rw [Lib.toList_data];simpa using ht
    have HF:Hid (opOk s.data.toList=true):=hD (zd5 h1 h6 (by rw [←HQ.out,ht];simp));have HRv:=hD (HRv.out.below HW7.out);have HR2:=hD (HRv.out.sets [.int .i64 (k:Int), .string ⟨key.toArray⟩, .string ⟨old.toArray⟩, .string ⟨new.toArray⟩] rfl);have HB2:=hD (zh (bon HB.out HW7.out) (zf (b:=w.heap.size) [.int .i64 (k:Int), .string ⟨key.toArray⟩, .string ⟨old.toArray⟩, .string ⟨new.toArray⟩]) (Nat.le_refl _));clear ht;go_wp2_with (first
     |(refine wpList_load_mid rfl 124 _ rfl b7 0 rfl [.int .i64 (k:Int), .string ⟨key.toArray⟩, .string ⟨old.toArray⟩, .string ⟨new.toArray⟩] _ HO.out.range Tryz.underlying124 rfl Za ?_)
     |(refine wpList_store_mid rfl 124 _ _ rfl w.heap.size 0 #[.int .i64 (k:Int), .string ⟨key.toArray⟩, .string ⟨old.toArray⟩, .string ⟨new.toArray⟩] rfl rfl ?_ Za (zbX _ _ _ _) ?_;· exact HRv.out.there rfl))
    refine bodyPost_ret (v:= .tuple #[.agg #[.int .i64 (k:Int), .string ⟨key.toArray⟩, .string ⟨old.toArray⟩, .string ⟨new.toArray⟩], .int .i64 0]) ?_ rfl (zb0 (ok:=opOk s.data.toList) (by rw [HF.out];rfl) HB2.out);exact zF Tryz.results93 _ _ w.heap.size [.int .i64 (k:Int), .string ⟨key.toArray⟩, .string ⟨old.toArray⟩, .string ⟨new.toArray⟩] _ _ rfl rfl HR2.out.range Tryz.underlying124 rfl Za
  · have t1:(yo k key old new == s.toList)=false:=by rw [Lib.toList_data];simpa using ht
    have HK:Hid (kindOk k s.data.toList=false):=hD (by rw [←HQ.out];simpa using ht);clear ht;exact fo173):p:=h
theorem fo4 {p:Prop} (h:p:=by
 refine tkr 18 rfl (fun K hK=> ?_);rw [if_pos (by rfl)];refine wp_store_mid 97 _ _ rfl b4 0 (stC ⟨n0,n1,n2,n3,t1,x2,sg0⟩).toArray rfl rfl (HX.out.there rfl) (Yx ⟨n0,n1,n2,n3,t1,x2,sg0⟩) (zcp ⟨n0,n1,n2,n3,t1,x2,sg0⟩) ?_;have HS:Hid (SsTo w g s2 (v3.setCells b4 0 (stC ⟨n0,n1,n2,n3,t1,x2,sg0⟩))):=hD (HS2.out.own (zf (b:=b4) (stC ⟨n0,n1,n2,n3,t1,x2,sg0⟩)) (by omega) (by omega));have HV:Hid (Vr (v3.setCells b4 0 (stC ⟨n0,n1,n2,n3,t1,x2,sg0⟩)) w.heap.size [.int .i64 0, .int .i64 0, .int .i64 0, .int .i64 0, .string ⟨#[]⟩, .slice none 0 0, .int .i64 0, .int .i64 0, .int .i64 0, .int .i64 0, .string ⟨#[]⟩, .string ⟨#[]⟩]):=hD (HV.out.grown (zf (b:=b4) (stC ⟨n0,n1,n2,n3,t1,x2,sg0⟩)) (by omega));have HX:Hid (Vr (v3.setCells b4 0 (stC ⟨n0,n1,n2,n3,t1,x2,sg0⟩)) b4 (stC ⟨n0,n1,n2,n3,t1,x2,sg0⟩)):=hD (HX.out.sets (stC ⟨n0,n1,n2,n3,t1,x2,sg0⟩) rfl);have hC:(v3.setCells b4 0 (stC ⟨n0,n1,n2,n3,t1,x2,sg0⟩)).cell? ⟨b,off,none⟩=some (.int .i64 n0)∧(v3.setCells b4 0 (stC ⟨n0,n1,n2,n3,t1,x2,sg0⟩)).cell? ⟨b,off+1,none⟩=some (.int .i64 n1)∧(v3.setCells b4 0 (stC ⟨n0,n1,n2,n3,t1,x2,sg0⟩)).cell? ⟨b,off+2,none⟩=some (.int .i64 n2)∧(v3.setCells b4 0 (stC ⟨n0,n1,n2,n3,t1,x2,sg0⟩)).cell? ⟨b,off+3,none⟩=some (.int .i64 n3):=HCW.out _ (zfm HK.out (zf (b:=b4) (stC ⟨n0,n1,n2,n3,t1,x2,sg0⟩)) (Or.inr (by omega)));have HR2:=hD (HR2.out.row (zf (b:=b4) (stC ⟨n0,n1,n2,n3,t1,x2,sg0⟩)) (Or.inr rfl));refine hK.out _ _ hC (fun hHeld=> ?_);clear hK K;try simp only [Act.put,qk1,qk2,qk3]
 refine wpAnyH_done (by kernel_rfl) ?_ _;refine NoPanic.normal ?_;try simp only [List.toList_toArray]
 generalize v3.setCells b4 0 (stC ⟨n0,n1,n2,n3,t1,x2,sg0⟩)=u0 at HS HV HX HR2⊢;clear hC hHeld2 HK;go_wp2_with fail;refine(YM g s2 _ HS.out.2 (Nat.le_trans HL2.out (by decide))).mono ?_;rintro e u1 ⟨rfl,hss⟩;rw [show ym s2=(t3,s3) from HT3.out] at hss⊢;simp only at hss⊢;have hsz1:=hss.1.size;have HV:Hid (Vr u1 w.heap.size [.int .i64 0, .int .i64 0, .int .i64 0, .int .i64 0, .string ⟨#[]⟩, .slice none 0 0, .int .i64 0, .int .i64 0, .int .i64 0, .int .i64 0, .string ⟨#[]⟩, .string ⟨#[]⟩]):=hD (HV.out.grown hss.1 (by omega));have HX:=hD (HX.out.grown hss.1 (by omega));have HR2:=hD (HR2.out.row hss.1 (Or.inl (by omega)));have HS:Hid (SsTo w g s3 u1):=hD (HS.out.trans hss);clear hss;go_wp2_with fail;refine(zc5 g s3 t3 _ HS.out.2 (fun q W hW=>Yp q ⟨t3,false⟩ W hW (Nat.le_trans HTL3.out (by decide)))).mono ?_;rintro e u2 ⟨x4,he,hx,hst4,hss⟩;obtain rfl:e= .returned (.agg #[.int .i64 x4.server, .int .i64 x4.kind, .int .i64 x4.view, .int .i64 x4.slot, .string ⟨x4.digest.toArray⟩, .string ⟨x4.sig.toArray⟩]):=he;rw [show yl tkSg t3 s3=(t4,s4) from HT4.out] at hss hx;simp only at hss hx;have HX4:=hD hx;clear hx;have HR4:=hD (Yr (a:=w.heap.size+1) (b4:=b4) hst4 (by have:=HX.out.lt;omega) (Or.inl (by have:=HX.out.lt;omega)));have hsz2:=hss.1.size;have HV:Hid (Vr u2 w.heap.size [.int .i64 0, .int .i64 0, .int .i64 0, .int .i64 0, .string ⟨#[]⟩, .slice none 0 0, .int .i64 0, .int .i64 0, .int .i64 0, .int .i64 0, .string ⟨#[]⟩, .string ⟨#[]⟩]):=hD (HV.out.grown hss.1 (by omega));have HX:=hD (HX.out.grown hss.1 (by omega));have HR2:=hD (HR2.out.row hss.1 (Or.inl (by omega)));have HS:Hid (SsTo w g s4 u2):=hD (HS.out.trans hss);clear hss hst4;go_upto_region 4 with(refine wpList_store_mid rfl 29 _ _ rfl b4 6 (sgC x4).toArray rfl rfl (HX.out.there_at 6 6 (of_decide_eq_true rfl)) (ZZ x4) (zbR x4) ?_);try simp only [List.toList_toArray]
 have HS:Hid (SsTo w g s4 (u2.setCells b4 6 (sgC x4))):=hD (HS.out.own (zV (b:=b4) (o:=6) (sgC x4)) (by omega) (by omega));have HV:Hid (Vr (u2.setCells b4 6 (sgC x4)) w.heap.size [.int .i64 0, .int .i64 0, .int .i64 0, .int .i64 0, .string ⟨#[]⟩, .slice none 0 0, .int .i64 0, .int .i64 0, .int .i64 0, .int .i64 0, .string ⟨#[]⟩, .string ⟨#[]⟩]):=hD (HV.out.grown (zV (b:=b4) (o:=6) (sgC x4)) (by omega));have HX:Hid (Vr (u2.setCells b4 6 (sgC x4)) b4 (stC ⟨n0,n1,n2,n3,t1,x2,x4⟩)):=hD ((HX.out.sets_at 6 (sgC x4) (of_decide_eq_true rfl)).eq rfl);have HR2:=hD (HR2.out.row (zV (b:=b4) (o:=6) (sgC x4)) (Or.inr rfl));have HR4:=hD (HR4.out.row (zV (b:=b4) (o:=6) (sgC x4)) (Or.inr rfl));generalize u2.setCells b4 6 (sgC x4)=u3 at HS HV HX HR2 HR4⊢;go_wp2_with (first
  |(refine wpList_load_mid rfl 97 _ rfl b4 0 rfl (stC ⟨n0,n1,n2,n3,t1,x2,x4⟩) _ HX.out.range Tryz.underlying97 rfl (Yx ⟨n0,n1,n2,n3,t1,x2,x4⟩) ?_)
  |(refine wpList_store_mid rfl 97 _ _ rfl w.heap.size 0 (stC ⟨n0,n1,n2,n3,t1,x2,x4⟩).toArray rfl rfl (HV.out.there rfl) (Yx ⟨n0,n1,n2,n3,t1,x2,x4⟩) (zcp ⟨n0,n1,n2,n3,t1,x2,x4⟩) ?_))
 have HSe:=hD (HS.out.own (zf (b:=w.heap.size) (stC ⟨n0,n1,n2,n3,t1,x2,x4⟩)) (Nat.le_refl _) (by omega));have HVe:=hD (HV.out.sets (stC ⟨n0,n1,n2,n3,t1,x2,x4⟩) rfl);refine bodyPost_ret (v:= .agg (stC ⟨n0,n1,n2,n3,t1,x2,x4⟩).toArray) ?_ rfl (zeC (x:=⟨n0,n1,n2,n3,t1,x2,x4⟩) HSpec.out rfl ?_ ?_ HSe.out)
 · exact zS Tryz.results186 _ _ w.heap.size (stC ⟨n0,n1,n2,n3,t1,x2,x4⟩) _ rfl HVe.out.range Tryz.underlying97 rfl (Yx ⟨n0,n1,n2,n3,t1,x2,x4⟩)
 · show St.mk n0 n1 n2 n3 t1 x2.er x4=_;have h2:=HX2.out;rw [List.map_id] at h2;have h4:x4=t4:=HX4.out;rw [Sl.er,h2,h4];rfl
 · exact fun W hW=>⟨⟨HN64.out n0 (by simp),HN64.out n1 (by simp),HN64.out n2 (by simp),HN64.out n3 (by simp)⟩,(((HR2.out.row (zf (b:=w.heap.size) _) (Or.inl (by omega))).stays.low (by omega)) W hW).1,(((HR2.out.row (zf (b:=w.heap.size) _) (Or.inl (by omega))).stays.low (by omega)) W hW).2,((HR4.out.row (zf (b:=w.heap.size) _) (Or.inl (by omega))).stays.low (by omega)) W hW⟩):p:=h
theorem fo5 {p:Prop} (h:p:=by
 exact fo157):p:=h
theorem fo6 {p:Prop} (h:p:=by
 have HNo:Hid (∀j,1≤j→j<k+1→kindOk j s.data.toList=false):=hD (fun j h1 h2=>by
  rcases Nat.lt_or_ge j k with h3|h3
  · exact HJ.out j h1 h3
  · obtain rfl:j=k:=by omega
    exact HK.out)
 go_wp2_with fail;go_roundw
 case rel=>exact⟨k+1,by go_num,by omega,by omega,HNo.out,HX2.out,HR.out,HB.out⟩
 case measure=>simp [intOf];omega):p:=h
theorem fo7 {p:Prop} (h:p:=by
 go_wp2_with fail;refine wp_region_noPanic ?_;have HX:=hD (HX.out.below (Below.refl _ _).drew);have HB:=hD (HB.out.drew);generalize hv:w1.drew=v0 at HX HB;refine wp_region_held_drew (S:=fun W=>World.cell? W ⟨w.heap.size,0,none⟩=some (.int .i64 x.time)∧World.cell? W ⟨w.heap.size,1,none⟩=some (.int .i64 x.kind)∧World.cell? W ⟨w.heap.size,3,none⟩=some (.int .i64 x.slot)∧World.cell? W ⟨w.heap.size,6,none⟩=some (.string ⟨x.result.toArray⟩)∧World.rangeAt W w.heap.size 0 (ptC x)) (by kernel_rfl) (by rw [hv];exact⟨HX.out.cells 0 _ rfl,HX.out.cells 1 _ rfl,HX.out.cells 3 _ rfl,HX.out.cells 6 _ rfl,HX.out.range⟩) (fun hHeld=> ?_);rw [hv] at hHeld⊢;clear hv;refine takes [0,1] ?_;refine tkr 2 rfl (fun K hK=> ?_);go_simp;go_at_call 62;refine(zcI x.kind _).mono ?_;rintro e v1 ⟨rfl,hs⟩;have HX:=hD (HX.out.below hs);have HB:=hD (bon HB.out hs);clear hs;go_wp2_with fail;refine hK.out _ _ ⟨HX.out.cells 0 _ rfl,HX.out.cells 1 _ rfl,HX.out.cells 3 _ rfl,HX.out.cells 6 _ rfl,HX.out.range⟩ (fun hHeld=> ?_);clear hK K;try simp only [Act.put,qk1,qk2,qk3,qk4,qk5,qk6]
 refine takes [3,4,5,6,7,8,9,10,11,12,13,14,15,16,17,18,19,20,21,22,23,24,25,26,27,28,29,30,31] ?_;exact fo170):p:=h
theorem fo8 {p:Prop} (h:p:=by
 have HKP:Hid (zq x= [Lib.itoa x.slot,Q06.quote x.text]):=hD (by simp [zq,hk]);rw [hk] at c1;clear hk;go_wp2_with fail;refine wp_region_noPanic ?_;have HX:=hD (HX.out.below (Below.refl _ _).drew);have HB:=hD (HB.out.drew);have HO:=hD (ownsRow_below HO.out (Below.refl _ _).drew);generalize hv:w3.drew=u0 at HX HB HO;refine wp_region_held_drew (S:=fun W=>World.cell? W ⟨w.heap.size,3,none⟩=some (.int .i64 x.slot)∧World.cell? W ⟨w.heap.size,4,none⟩=some (.int .i64 x.number)∧World.cell? W ⟨w.heap.size,5,none⟩=some (.string ⟨x.text.toArray⟩)∧World.cell? W ⟨w.heap.size,6,none⟩=some (.string ⟨x.result.toArray⟩)) (by kernel_rfl) (by rw [hv];exact⟨HX.out.cells 3 _ rfl,HX.out.cells 4 _ rfl,HX.out.cells 5 _ rfl,HX.out.cells 6 _ rfl⟩) (fun hHeld=> ?_);rw [hv] at hHeld⊢;clear hv;refine takes [0,1,2,4,5] ?_;refine tkr 3 rfl (fun K hK=> ?_);go_simp;go_at_call 76;refine(zbx x.slot HI_slot.out _ (HEnv.out.below HB.out)).mono ?_;rintro e u1 ⟨rfl,hs⟩;have HX:=hD (HX.out.below hs);have HB:=hD (bon HB.out hs);have HO:=hD (ownsRow_below HO.out hs);clear hs;go_wp2_with fail;refine hK.out _ _ ⟨HX.out.cells 3 _ rfl,HX.out.cells 4 _ rfl,HX.out.cells 5 _ rfl,HX.out.cells 6 _ rfl⟩ (fun hHeld=> ?_);clear hK K;try simp only [Act.put,qk1,qk2,qk3,qk4,qk5,qk6]
 refine tkr 6 rfl (fun K hK=> ?_);go_simp;go_at_call 77;refine(zaw x.text _ (by omega)).mono ?_;rintro e u2 ⟨rfl,hs⟩;have HX:=hD (HX.out.below hs);have HB:=hD (bon HB.out hs);have HO:=hD (ownsRow_below HO.out hs);clear hs;go_wp2_with fail;refine hK.out _ _ ⟨HX.out.cells 3 _ rfl,HX.out.cells 4 _ rfl,HX.out.cells 5 _ rfl,HX.out.cells 6 _ rfl⟩ (fun hHeld=> ?_);clear hK K;try simp only [Act.put,qk1,qk2,qk3,qk4,qk5,qk6]
 refine tkr 7 rfl (fun K hK=> ?_);go_simp;have hs:=za u2 (.cells #[.string ⟨(Lib.itoa x.slot).toArray⟩, .string ⟨(Q06.quote x.text).toArray⟩] 9);have hb9:w.heap.size<u2.heap.size:=HX.out.lt;have HN:=hD (World.news_of_block (cs:=#[.string ⟨(Lib.itoa x.slot).toArray⟩, .string ⟨(Q06.quote x.text).toArray⟩]) (t:=9) (fr:=(0,0)) (heap_alloc_new u2 (.cells #[.string ⟨(Lib.itoa x.slot).toArray⟩, .string ⟨(Q06.quote x.text).toArray⟩] 9)));have HX:=hD (HX.out.below hs);have HB:=hD (bon HB.out hs);have HO:=hD (ownsRow_below HO.out hs);clear hs;generalize u2.alloc (.cells #[.string ⟨(Lib.itoa x.slot).toArray⟩, .string ⟨(Q06.quote x.text).toArray⟩] 9)=v1 at HX HB HO HN⊢;generalize u2.heap.size=b9 at HN hb9⊢;refine hK.out _ _ ⟨HX.out.cells 3 _ rfl,HX.out.cells 4 _ rfl,HX.out.cells 5 _ rfl,HX.out.cells 6 _ rfl⟩ (fun hHeld=> ?_);clear hK K;try simp only [Act.put,qk1,qk2,qk3,qk4,qk5,qk6]
 refine tkr 8 rfl (fun K hK=> ?_);refine step_append_lies _ (by rfl) _ _ _ (by rfl) w.heap.size 9 i0 _ 1 16 Tryz.underlying32 HI.out HZ0.out HZ1.out HZ2.out rfl (by decide) _ _ _ (by rfl) HO.out _ 2 2 #[.string ⟨(Lib.itoa x.slot).toArray⟩, .string ⟨(Q06.quote x.text).toArray⟩].toList (by rfl) (by rfl) HN.out (by simp [Value.oneCell']) (by omega) (by simp [maxLen]) (by omega) (by have:=HX.out.lt;omega) _ rfl ?_;intro g cap v2 hown hgrow hat hlt;have HX:=hD (HX.out.grownO hgrow (by simp [Value.ownBlock];omega));have HB:=hD (below_grown HB.out HB.out.size hgrow (fun g h=>(HO.out.lt g h).1));have HO:=hD hown;clear hown hgrow hat hlt HN;refine hK.out _ _ ⟨HX.out.cells 3 _ rfl,HX.out.cells 4 _ rfl,HX.out.cells 5 _ rfl,HX.out.cells 6 _ rfl⟩ (fun hHeld=> ?_);clear hK K;try simp only [Act.put,qk1,qk2,qk3,qk4,qk5,qk6]
 refine tkr 9 rfl (fun K hK=> ?_);go_simp;refine hK.out _ _ hHeld (fun hHeld=> ?_);clear hK K;try simp only [Act.put,qk1,qk2,qk3,qk4,qk5,qk6]
 refine wpAnyH_done (by kernel_rfl) ?_ _;refine NoPanic.normal ?_;have HL:Hid (yD x++zq x= [Lib.itoa x.time,yj x.kind,Lib.itoa x.who,Lib.itoa x.slot,Q06.quote x.text]):=hD (by rw [HKP.out];rfl);have HJ:Hid (Calls Tryz.prog 79 #[.slice (some ⟨g,0,none⟩) (3+2) cap, .string ⟨#[32]⟩] v2 (zi (Lib.join (yD x++zq x) [32]) v2)):=hD (YX w v2 g (3+2) cap _ (by rw [HL.out];rfl) (by rw [HL.out];exact HO.out) (by rw [HL.out];simp) (Nat.le_trans HLen.out (by omega)) (by rw [HL.out];simp));exact fo167):p:=h
theorem fo9 {p:Prop} (h:p:=by
 have q5:(x.kind == 5)=false:=by simp [hk]
 have q6:(x.kind == 6)=false:=by simp [hk]
 clear hk;go_wp2_with fail;clear c1 cl;have HV:=hD (HV.out.below (Below.refl _ _).drew);have HX:=hD (HX.out.below (Below.refl _ _).drew);have HR:=hD (HR.out.below (Below.refl _ _).drew);have HB:=hD (HB.out.drew);refine wp_region_noPanic ?_;generalize hv:w3.drew=v0 at HV HX HR HB;have HS:Hid (∀W,Vr W w.heap.size (ptC x)→W.cell? ⟨w.heap.size,3,none⟩=some (.int .i64 x.slot)∧W.cell? ⟨w.heap.size,5,none⟩=some (.string ⟨x.text.toArray⟩)):=hD (fun W h=>⟨h.cells 3 _ rfl,h.cells 5 _ rfl⟩);have hC:=HS.out v0 HX.out;refine wp_region_held_drew (S:=fun W=>W.cell? ⟨w.heap.size,3,none⟩=some (.int .i64 x.slot)∧W.cell? ⟨w.heap.size,5,none⟩=some (.string ⟨x.text.toArray⟩)) (by kernel_rfl) (by rw [hv];exact hC) (fun hHeld=> ?_);rw [hv] at hHeld⊢;clear hv;refine takes [0,1,2,3,4] ?_;have cz:=HV.out.cells 3 _ rfl;have fz:=HV.out.free 3 (of_decide_eq_true rfl);have lz:=HV.out.lt;refine tkr 5 rfl (fun K hK=> ?_);go_simp;have HV:=hD (HV.out.set 3 (.int .i64 x.slot));have HX:=hD (HX.out.grown (zb v0 ⟨b3,3,none⟩ (.int .i64 x.slot)) (by show w.heap.size≠b3;have:=HZ1.out;omega));have HR:=hD (HR.out.grown (zb v0 ⟨b3,3,none⟩ (.int .i64 x.slot)) (by show w.heap.size+1≠b3;have:=HZ1.out;omega));have HB:=hD (zh HB.out (zb v0 ⟨b3,3,none⟩ (.int .i64 x.slot)) (by show w.heap.size≤b3;have:=HZ1.out;omega));clear cz fz lz;generalize v0.setCell ⟨b3,3,none⟩ (.int .i64 x.slot)=v1 at HV HX HR HB⊢;have hC0:=HS.out v1 HX.out;refine hK.out _ _ hC0 (fun hHeld=> ?_);clear hK K;try simp only [Act.put,qk1,qk2,qk3,qk4,qk5,qk6]
 refine takes [6] ?_;have cz:=HV.out.cells 5 _ rfl;have fz:=HV.out.free 5 (of_decide_eq_true rfl);have lz:=HV.out.lt;refine tkr 7 rfl (fun K hK=> ?_);go_simp;have HV:=hD (HV.out.set 5 (.string ⟨x.text.toArray⟩));have HX:=hD (HX.out.grown (zb v1 ⟨b3,5,none⟩ (.string ⟨x.text.toArray⟩)) (by show w.heap.size≠b3;have:=HZ1.out;omega));have HR:=hD (HR.out.grown (zb v1 ⟨b3,5,none⟩ (.string ⟨x.text.toArray⟩)) (by show w.heap.size+1≠b3;have:=HZ1.out;omega));have HB:=hD (zh HB.out (zb v1 ⟨b3,5,none⟩ (.string ⟨x.text.toArray⟩)) (by show w.heap.size≤b3;have:=HZ1.out;omega));clear cz fz lz;generalize v1.setCell ⟨b3,5,none⟩ (.string ⟨x.text.toArray⟩)=v2 at HV HX HR HB⊢;have hC1:=HS.out v2 HX.out;refine hK.out _ _ hC1 (fun hHeld=> ?_);clear hK K;try simp only [Act.put,qk1,qk2,qk3,qk4,qk5,qk6]
 refine wpAnyH_done (by kernel_rfl) ?_ _;refine NoPanic.normal ?_;clear hC hC0 hC1 HS;generalize v2=w5 at HV HX HR HB⊢;have HV:=hD (HV.out.eq (cs':=ptC (⟨x.time,x.kind,x.who,x.slot,0,x.text, [],ms0⟩:Pt)) rfl);have HR2:=hD (HR.out.sets (ptC (⟨x.time,x.kind,x.who,x.slot,0,x.text, [],ms0⟩:Pt)) rfl);have HB:=hD (zh HB.out (zf (b:=w.heap.size+1) (ptC (⟨x.time,x.kind,x.who,x.slot,0,x.text, [],ms0⟩:Pt))) (by omega));go_wp2_with (first
  |(refine wpList_load_mid rfl 40 _ rfl b3 0 rfl (ptC (⟨x.time,x.kind,x.who,x.slot,0,x.text, [],ms0⟩:Pt)) _ HV.out.range Tryz.underlying40 rfl (zw (⟨x.time,x.kind,x.who,x.slot,0,x.text, [],ms0⟩:Pt)) ?_)
  |(refine wpList_store_mid rfl 40 _ _ rfl (w.heap.size+1) 0 (ptC (⟨x.time,x.kind,x.who,x.slot,0,x.text, [],ms0⟩:Pt)).toArray rfl rfl ?_ (zw (⟨x.time,x.kind,x.who,x.slot,0,x.text, [],ms0⟩:Pt)) (yG (⟨x.time,x.kind,x.who,x.slot,0,x.text, [],ms0⟩:Pt)) ?_;· exact HR.out.there rfl))
 refine bodyPost_ret (v:= .agg (ptC (⟨x.time,x.kind,x.who,x.slot,0,x.text, [],ms0⟩:Pt)).toArray) ?_ rfl ⟨by rw [HK.out],HB.out⟩;exact zU Tryz.results63 _ _ (w.heap.size+1) (ptC (⟨x.time,x.kind,x.who,x.slot,0,x.text, [],ms0⟩:Pt)) _ rfl HR2.out.range Tryz.underlying40 rfl (zw (⟨x.time,x.kind,x.who,x.slot,0,x.text, [],ms0⟩:Pt))):p:=h
theorem fo10 {p:Prop} (h:p:=by
 have q5:(x.kind == 5)=false:=by simp [hk]
 have q6:(x.kind == 6)=false:=by simp [hk]
 clear hk;go_wp2_with fail;clear c1 cl;have HV:=hD (HV.out.below (Below.refl _ _).drew);have HX:=hD (HX.out.below (Below.refl _ _).drew);have HR:=hD (HR.out.below (Below.refl _ _).drew);have HB:=hD (HB.out.drew);refine wp_region_noPanic ?_;generalize hv:w3.drew=v0 at HV HX HR HB;have HS:Hid (∀W,Vr W w.heap.size (ptC x)→W.cell? ⟨w.heap.size,3,none⟩=some (.int .i64 x.slot)∧W.cell? ⟨w.heap.size,5,none⟩=some (.string ⟨x.text.toArray⟩)):=hD (fun W h=>⟨h.cells 3 _ rfl,h.cells 5 _ rfl⟩);have hC:=HS.out v0 HX.out;refine wp_region_held_drew (S:=fun W=>W.cell? ⟨w.heap.size,3,none⟩=some (.int .i64 x.slot)∧W.cell? ⟨w.heap.size,5,none⟩=some (.string ⟨x.text.toArray⟩)) (by kernel_rfl) (by rw [hv];exact hC) (fun hHeld=> ?_);rw [hv] at hHeld⊢;clear hv;refine takes [0,1,2,3,4] ?_;have cz:=HV.out.cells 3 _ rfl;have fz:=HV.out.free 3 (of_decide_eq_true rfl);have lz:=HV.out.lt;refine tkr 5 rfl (fun K hK=> ?_);go_simp;have HV:=hD (HV.out.set 3 (.int .i64 x.slot));have HX:=hD (HX.out.grown (zb v0 ⟨b3,3,none⟩ (.int .i64 x.slot)) (by show w.heap.size≠b3;have:=HZ1.out;omega));have HR:=hD (HR.out.grown (zb v0 ⟨b3,3,none⟩ (.int .i64 x.slot)) (by show w.heap.size+1≠b3;have:=HZ1.out;omega));have HB:=hD (zh HB.out (zb v0 ⟨b3,3,none⟩ (.int .i64 x.slot)) (by show w.heap.size≤b3;have:=HZ1.out;omega));clear cz fz lz;generalize v0.setCell ⟨b3,3,none⟩ (.int .i64 x.slot)=v1 at HV HX HR HB⊢;have hC0:=HS.out v1 HX.out;refine hK.out _ _ hC0 (fun hHeld=> ?_);clear hK K;try simp only [Act.put,qk1,qk2,qk3,qk4,qk5,qk6]
 refine takes [6] ?_;have cz:=HV.out.cells 5 _ rfl;have fz:=HV.out.free 5 (of_decide_eq_true rfl);have lz:=HV.out.lt;refine tkr 7 rfl (fun K hK=> ?_);go_simp;have HV:=hD (HV.out.set 5 (.string ⟨x.text.toArray⟩));have HX:=hD (HX.out.grown (zb v1 ⟨b3,5,none⟩ (.string ⟨x.text.toArray⟩)) (by show w.heap.size≠b3;have:=HZ1.out;omega));have HR:=hD (HR.out.grown (zb v1 ⟨b3,5,none⟩ (.string ⟨x.text.toArray⟩)) (by show w.heap.size+1≠b3;have:=HZ1.out;omega));have HB:=hD (zh HB.out (zb v1 ⟨b3,5,none⟩ (.string ⟨x.text.toArray⟩)) (by show w.heap.size≤b3;have:=HZ1.out;omega));clear cz fz lz;generalize v1.setCell ⟨b3,5,none⟩ (.string ⟨x.text.toArray⟩)=v2 at HV HX HR HB⊢;have hC1:=HS.out v2 HX.out;refine hK.out _ _ hC1 (fun hHeld=> ?_);clear hK K;try simp only [Act.put,qk1,qk2,qk3,qk4,qk5,qk6]
 refine wpAnyH_done (by kernel_rfl) ?_ _;refine NoPanic.normal ?_;clear hC hC0 hC1 HS;generalize v2=w5 at HV HX HR HB⊢;have HV:=hD (HV.out.eq (cs':=ptC (⟨x.time,x.kind,x.who,x.slot,0,x.text, [],ms0⟩:Pt)) rfl);have HR2:=hD (HR.out.sets (ptC (⟨x.time,x.kind,x.who,x.slot,0,x.text, [],ms0⟩:Pt)) rfl);have HB:=hD (zh HB.out (zf (b:=w.heap.size+1) (ptC (⟨x.time,x.kind,x.who,x.slot,0,x.text, [],ms0⟩:Pt))) (by omega));go_wp2_with (first
  |(refine wpList_load_mid rfl 40 _ rfl b3 0 rfl (ptC (⟨x.time,x.kind,x.who,x.slot,0,x.text, [],ms0⟩:Pt)) _ HV.out.range Tryz.underlying40 rfl (zw (⟨x.time,x.kind,x.who,x.slot,0,x.text, [],ms0⟩:Pt)) ?_)
  |(refine wpList_store_mid rfl 40 _ _ rfl (w.heap.size+1) 0 (ptC (⟨x.time,x.kind,x.who,x.slot,0,x.text, [],ms0⟩:Pt)).toArray rfl rfl ?_ (zw (⟨x.time,x.kind,x.who,x.slot,0,x.text, [],ms0⟩:Pt)) (yG (⟨x.time,x.kind,x.who,x.slot,0,x.text, [],ms0⟩:Pt)) ?_;· exact HR.out.there rfl))
 refine bodyPost_ret (v:= .agg (ptC (⟨x.time,x.kind,x.who,x.slot,0,x.text, [],ms0⟩:Pt)).toArray) ?_ rfl ⟨by rw [HK.out],HB.out⟩;exact zU Tryz.results57 _ _ (w.heap.size+1) (ptC (⟨x.time,x.kind,x.who,x.slot,0,x.text, [],ms0⟩:Pt)) _ rfl HR2.out.range Tryz.underlying40 rfl (zw (⟨x.time,x.kind,x.who,x.slot,0,x.text, [],ms0⟩:Pt))):p:=h
theorem fo11 {p:Prop} (h:p:=by
 go_wp2_with fail;clear c1 cg lk;refine wp_region_noPanic ?_;have HX:=hD (HX.out.below (Below.refl _ _).drew);have HB:=hD (HB.out.drew);generalize hv:w1.drew=v0 at HX HB;refine wp_region_held_drew (S:=fun W=>World.cell? W ⟨w.heap.size,0,none⟩=some (.int .i64 x.time)∧World.cell? W ⟨w.heap.size,1,none⟩=some (.int .i64 x.kind)∧World.cell? W ⟨w.heap.size,3,none⟩=some (.int .i64 x.slot)∧World.cell? W ⟨w.heap.size,6,none⟩=some (.string ⟨x.result.toArray⟩)∧World.rangeAt W w.heap.size 0 (ptC x)) (by kernel_rfl) (by rw [hv];exact⟨HX.out.cells 0 _ rfl,HX.out.cells 1 _ rfl,HX.out.cells 3 _ rfl,HX.out.cells 6 _ rfl,HX.out.range⟩) (fun hHeld=> ?_);rw [hv] at hHeld⊢;clear hv;refine takes [0,1,2,3,4,5,6,7,8,9,10,11,12,13,14,15,16,17,18,19,20,21,22,23,24,25,26,27,28,29] ?_;exact fo170):p:=h
theorem fo12 {p:Prop} (h:p:=by
 clear ha hb sa sb;go_in;go_upto_region 1 with fail;change Code.wp _ _ _ _ ((w.alloc (.cells (ptC a).toArray 40)).alloc (.cells (ptC b).toArray 40));generalize (w.alloc (.cells (ptC a).toArray 40)).alloc (.cells (ptC b).toArray 40)=w1 at HA HB HL⊢;have c0:=HA.out.cells 0 _ rfl;have d0:=HB.out.cells 0 _ rfl;have c1:=HA.out.cells 1 _ rfl;have d1:=HB.out.cells 1 _ rfl;have c2:=HA.out.cells 2 _ rfl;have d2:=HB.out.cells 2 _ rfl;have c3:=HA.out.cells 3 _ rfl;have d3:=HB.out.cells 3 _ rfl;have c4:=HA.out.cells 4 _ rfl;have d4:=HB.out.cells 4 _ rfl;have c5:=HA.out.cells 5 _ rfl;have d5:=HB.out.cells 5 _ rfl;have c6:=HA.out.cells 6 _ rfl;have d6:=HB.out.cells 6 _ rfl;have la:=HA.out.lt;have lb:=HB.out.lt;by_cases h0:a.time=b.time
 case neg=>
  have HF:Hid (eqPt a b=false):=hD (by simp [eqPt,h0]);have q0:(a.time == b.time)=false:=by simpa using h0
  clear h0;go_wp2_with fail;go_ret;exact zz HF.out HL.out
 have q0:(a.time == b.time)=true:=by simpa using h0
 by_cases h1:a.kind=b.kind
 case neg=>
  have HF:Hid (eqPt a b=false):=hD (by simp [eqPt,h1]);have q1:(a.kind == b.kind)=false:=by simpa using h1
  clear h1;go_wp2_with fail;go_ret;exact zz HF.out HL.out
 have q1:(a.kind == b.kind)=true:=by simpa using h1
 by_cases h2:a.who=b.who
 case neg=>
  have HF:Hid (eqPt a b=false):=hD (by simp [eqPt,h2]);have q2:(a.who == b.who)=false:=by simpa using h2
  clear h2;go_wp2_with fail;go_ret;exact zz HF.out HL.out
 have q2:(a.who == b.who)=true:=by simpa using h2
 by_cases h3:a.slot=b.slot
 case neg=>
  have HF:Hid (eqPt a b=false):=hD (by simp [eqPt,h3]);have q3:(a.slot == b.slot)=false:=by simpa using h3
  clear h3;go_wp2_with fail;go_ret;exact zz HF.out HL.out
 have q3:(a.slot == b.slot)=true:=by simpa using h3
 by_cases h4:a.number=b.number
 case neg=>
  have HF:Hid (eqPt a b=false):=hD (by simp [eqPt,h4]);have q4:(a.number == b.number)=false:=by simpa using h4
  clear h4;go_wp2_with fail;go_ret;exact zz HF.out HL.out
 have q4:(a.number == b.number)=true:=by simpa using h4
 by_cases h5:a.text=b.text
 case neg=>
  have HF:Hid (eqPt a b=false):=hD (by simp [eqPt,h5]);have q5:(a.text == b.text)=false:=by simpa using h5
  clear h5;go_wp2_with fail;go_ret;exact zz HF.out HL.out
 have q5:(a.text == b.text)=true:=by simpa using h5
 by_cases h6:a.result=b.result
 case neg=>
  have HF:Hid (eqPt a b=false):=hD (by simp [eqPt,h6]);have q6:(a.result == b.result)=false:=by simpa using h6
  clear h6;go_wp2_with fail;go_ret;exact zz HF.out HL.out
 have q6:(a.result == b.result)=true:=by simpa using h6
 have HF:Hid (eqPt a b=zcf (yO a.msg) (yO b.msg)):=hD (by simp [eqPt,h0,h1,h2,h3,h4,h5,h6]);clear h0 h1 h2 h3 h4 h5 h6;go_wp2_with (first
  |(refine Zl (by rfl) 38 _ rfl w.heap.size 7 rfl (msC a.msg) _ HA.out.msg Tryz.underlying38 rfl (zT a.msg) ?_)
  |(refine Zl (by rfl) 38 _ rfl (w.heap.size+1) 7 rfl (msC b.msg) _ HB.out.msg Tryz.underlying38 rfl (zT b.msg) ?_))
 refine(HM.out _ HL.out).mono ?_;rintro e w2 ⟨rfl,b2⟩;have HL2:=hD (bon HL.out b2);clear b2;generalize zcf (yO a.msg) (yO b.msg)=q at HF⊢;go_wp2_with fail;go_ret;exact zz HF.out HL2.out):p:=h
theorem fo13 {p:Prop} (h:p:=by
 go_wp2_with fail;generalize w1.alloc (.cells #[.int .i64 3, .int .i64 0, .slice none 0 0] 129)=wx at B3 HR3 HO3⊢;have HQ3:=hD (zcz wx);have HVal:=zbK 3 0 [] none 0 wx HQ3.out;by_cases hv:vEn ⟨3,0, []⟩=0
 · rw [hv] at HVal;refine HVal.mono ?_;rintro e w3 ⟨rfl,b3⟩;have B4:=hD (bon B3.out b3);have HR4:=hD (HR3.out.below b3);have HO4:=hD (HO3.out.below b3);have HQ4:=hD (HQ3.out.below b3);obtain⟨hlt4,p0,p1,p2,f0,f1,f2⟩:=HO4.out;clear b3;go_wp2_with fail;have HVl:=zed 3 0 [] none 0 w3 (HE.out.below B4.out) HQ4.out (by simp) (by intro r hr;simp at hr) ⟨by decide,by decide⟩;by_cases hq:valE ⟨3,0, []⟩=s
   · rw [hq] at HVl;refine HVl.mono ?_;rintro e w4 ⟨rfl,b4⟩;have B5:=hD (bon B4.out b4);have HR5:=hD (HR4.out.below b4);have HO5:=hD (HO4.out.below b4);have HQ5:=hD (HQ4.out.below b4);have HY:Hid (decE s=some ⟨3,0, []⟩):=hD (by rw [HD.out,zbv,if_pos ⟨hv,hq⟩]);clear b4 p0 p1 p2 f0 f1 f2 hv hq;obtain⟨hlt5,p0,p1,p2,f0,f1,f2⟩:=HO5.out;obtain⟨hlt6,r0,r1,r2,s0,s1,s2⟩:=HR5.out;go_wp2_with fail;refine bodyPost_ret (v:= .tuple #[.agg #[.int .i64 3, .int .i64 0, .slice none 0 0], .int .i64 0]) (by simp [results,Tryz.results94,go_sem,r0,r1,r2]) rfl (Yn HY.out (((B5.out.setCell (Nat.le_refl _) _).setCell (Nat.le_refl _) _).setCell (Nat.le_refl _) _) rfl ?_);exact Y0 HQ5.out (fun a h=>by cases h) _ _ _
   · have HY:Hid (decE s=none):=hD (by rw [HD.out,zbv,if_neg (fun h=>hq h.2)]);have hq1:(valE ⟨3,0, []⟩ == s)=false:=by simpa using hq
     generalize valE ⟨3,0, []⟩=v at HVl hq1 hq;exact fo162
 · have HY:Hid (decE s=none):=hD (by rw [HD.out,zbv,if_neg (fun h=>hv h.1)]);generalize vEn ⟨3,0, []⟩=v at HVal hv;exact fo160):p:=h
theorem fo14 {p:Prop} (h:p:=by
 have HB:=hD (za w (.cells #[.string ⟨#[]⟩, .string ⟨#[105,110,118,111,107,101]⟩, .string ⟨#[97,99,107]⟩, .string ⟨#[97,99,99,101,112,116]⟩, .string ⟨#[100,101,99,105,100,101]⟩, .string ⟨#[114,101,97,100]⟩, .string ⟨#[115,101,110,100]⟩, .string ⟨#[99,114,97,115,104]⟩, .string ⟨#[114,101,115,116,97,114,116]⟩] 9));go_in;go_wp2_with fail;go_ret;exact⟨rfl,HB.out⟩):p:=h
theorem fo15 {p:Prop} (h:p:=by
 rintro e w6 ⟨rfl,hs2⟩;have HX:=hD (HX.out.below hs2);have HB:=hD (bon HB.out hs2);clear hs2 c0 c1 c2 c3 l1;have c0:=HX.out.cells 0 _ rfl;have c1:=HX.out.cells 1 _ rfl;have c2:=HX.out.cells 2 _ rfl;have c3:=HX.out.cells 3 _ rfl;have l1:=HX.out.lt;go_wp2_with fail;go_ret2;exact ret_fmt_ok HF.out (by first|(rw [HT.out];done)|(rw [HT.out];apply ByteArray.ext;simp)) HB.out):p:=h
theorem fo16 {p:Prop} (h:p:=by
 have HK:Hid (opOk s.data.toList=true):=hD (zd5 hk1 hk6 (by rw [Zj hk1 hk6 HCut.out,ht,hq];rfl));have t1:(yo k (zH (a::b::c::t)) (zI k (a::b::c::t)) (zA k (a::b::c::t)) == s.toList)=true:=by rw [Lib.toList_data];exact ht
 clear ht hq;have HR2:=hD (HX2.out.sets [.int .i64 (k:Int), .string ⟨(zH (a::b::c::t)).toArray⟩, .string ⟨(zI k (a::b::c::t)).toArray⟩, .string ⟨(zA k (a::b::c::t)).toArray⟩] rfl);have HB3:=hD (zh HB.out (zf (b:=b2) [.int .i64 (k:Int), .string ⟨(zH (a::b::c::t)).toArray⟩, .string ⟨(zI k (a::b::c::t)).toArray⟩, .string ⟨(zA k (a::b::c::t)).toArray⟩]) HB2.out);go_wp2_with (first
  |(refine wpList_load_mid rfl 124 _ rfl b6 0 rfl [.int .i64 (k:Int), .string ⟨(zH (a::b::c::t)).toArray⟩, .string ⟨(zI k (a::b::c::t)).toArray⟩, .string ⟨(zA k (a::b::c::t)).toArray⟩] _ HX6.out.range Tryz.underlying124 rfl Za ?_)
  |(refine wpList_store_mid rfl 124 _ _ rfl b2 0 #[.int .i64 (k:Int), .string ⟨(zH (a::b::c::t)).toArray⟩, .string ⟨(zI k (a::b::c::t)).toArray⟩, .string ⟨(zA k (a::b::c::t)).toArray⟩] rfl rfl ?_ Za (zbX _ _ _ _) ?_;· exact HX2.out.there rfl))
 refine bodyPost_ret (v:= .tuple #[.agg #[.int .i64 (k:Int), .string ⟨(zH (a::b::c::t)).toArray⟩, .string ⟨(zI k (a::b::c::t)).toArray⟩, .string ⟨(zA k (a::b::c::t)).toArray⟩], .int .i64 0]) ?_ rfl (zb0 (ok:=opOk s.data.toList) (by rw [HK.out];rfl) HB3.out);exact zF Tryz.results103 _ _ b2 [.int .i64 (k:Int), .string ⟨(zH (a::b::c::t)).toArray⟩, .string ⟨(zI k (a::b::c::t)).toArray⟩, .string ⟨(zA k (a::b::c::t)).toArray⟩] _ _ rfl rfl HR2.out.range Tryz.underlying124 rfl Za):p:=h
theorem fo17 {p:Prop} (h:p:=by
 refine takes [0] ?_;refine tkq 1 rfl (yieldsIf_load_mid (by rfl) 38 _ (by rfl) _ 0 (by rfl) (msC m) _ (fun W h=>h) Tryz.underlying38 rfl (zT m)) (by assumption) ?_;try simp only [Act.put,qk]
 refine takes [2,3,4,10] ?_;refine tkr 5 rfl (fun K hK=> ?_);go_simp;refine hK.out _ _ hHeld (fun hHeld=> ?_);clear hK K;try simp only [Act.put,qk]
 refine takes [6,7,8,9] ?_;refine tkr 11 rfl (fun K hK=> ?_);rw [if_pos (by rfl)];refine wp_store_mid 38 _ _ rfl q 7 (msC m).toArray rfl rfl HTh.out (zT m) (yR m) ?_;try simp only [List.toList_toArray]
 generalize v0.setCells q 7 (msC m)=v1 at HPm HVm HSm⊢;refine hK.out _ _ HVm.out.range (fun hHeld=> ?_);clear hK K c1 lg;try simp only [Act.put,qk]
 obtain⟨A8,c8,hv8, -⟩:=HPm.out.rd.blk;have c1:=hv8.cells 1 _ rfl;have f1:=hv8.free 1 (by simp);have lg:=hv8.lt;simp only at c1;clear hv8;refine takes [12,13] ?_;refine tkr 14 rfl (fun K hK=> ?_);go_simp;have HPe:=hD (HPm.out.bad true);have HVe:=hD (HVm.out.grown (zb v1 ⟨g,1,none⟩ (.bool true)) (by have:=HQ2.out;have:=HPm.out.o2;show b12≠g;omega));have HSe:=hD ((HSm.out.on (zm (zb v1 ⟨g,1,none⟩ (.bool true)) (by have:=HQ1.out;have:=HPm.out.o2;show g<w11.heap.size;omega))).low (b':=q+1) HQ1.out);generalize v1.setCell ⟨g,1,none⟩ (.bool true)=v2 at HPe HVe HSe⊢;refine hK.out _ _ HVe.out.range (fun hHeld=> ?_);clear hK K c1 f1 lg;try simp only [Act.put,qk]
 refine wpAnyH_done (by kernel_rfl) ?_ _;refine NoPanic.normal ?_;go_wp2_with fail;go_meet
 case rel=>exact⟨_,_,HPe.out,by rw [HKp.out,HM.out];rfl,by rw [HKp.out],HSe.out⟩):p:=h
theorem fo18 {p:Prop} (h:p:=by
 have HF:Hid (zy E x=false):=hD (by rw [HW.out];simp [hp]);clear hp;go_wp2_with fail;go_ret;exact zz HF.out HB.out):p:=h
theorem fo19 {p:Prop} (h:p:=by
 have HK:Hid (opOk s.data.toList=true):=hD (zd5 hk1 hk6 (by rw [Zj hk1 hk6 HCut.out,ht,hq];rfl));have t1:(yo k (zH [a,b]) (zI k [a,b]) (zA k [a,b]) == s.toList)=true:=by rw [Lib.toList_data];exact ht
 clear ht hq;have HR2:=hD (HX2.out.sets [.int .i64 (k:Int), .string ⟨(zH [a,b]).toArray⟩, .string ⟨(zI k [a,b]).toArray⟩, .string ⟨(zA k [a,b]).toArray⟩] rfl);have HB3:=hD (zh HB.out (zf (b:=b2) [.int .i64 (k:Int), .string ⟨(zH [a,b]).toArray⟩, .string ⟨(zI k [a,b]).toArray⟩, .string ⟨(zA k [a,b]).toArray⟩]) HB2.out);go_wp2_with (first
  |(refine wpList_load_mid rfl 124 _ rfl b6 0 rfl [.int .i64 (k:Int), .string ⟨(zH [a,b]).toArray⟩, .string ⟨(zI k [a,b]).toArray⟩, .string ⟨(zA k [a,b]).toArray⟩] _ HX6.out.range Tryz.underlying124 rfl Za ?_)
  |(refine wpList_store_mid rfl 124 _ _ rfl b2 0 #[.int .i64 (k:Int), .string ⟨(zH [a,b]).toArray⟩, .string ⟨(zI k [a,b]).toArray⟩, .string ⟨(zA k [a,b]).toArray⟩] rfl rfl ?_ Za (zbX _ _ _ _) ?_;· exact HX2.out.there rfl))
 refine bodyPost_ret (v:= .tuple #[.agg #[.int .i64 (k:Int), .string ⟨(zH [a,b]).toArray⟩, .string ⟨(zI k [a,b]).toArray⟩, .string ⟨(zA k [a,b]).toArray⟩], .int .i64 0]) ?_ rfl (zb0 (ok:=opOk s.data.toList) (by rw [HK.out];rfl) HB3.out);exact zF Tryz.results103 _ _ b2 [.int .i64 (k:Int), .string ⟨(zH [a,b]).toArray⟩, .string ⟨(zI k [a,b]).toArray⟩, .string ⟨(zA k [a,b]).toArray⟩] _ _ rfl rfl HR2.out.range Tryz.underlying124 rfl Za):p:=h
theorem fo20 {p:Prop} (h:p:=by
 have HK:Hid (opOk s.data.toList=true):=hD (zd5 hk1 hk6 (by rw [Zj hk1 hk6 HCut.out,ht,hq];rfl));have t1:(yo k (zH [a]) (zI k [a]) (zA k [a]) == s.toList)=true:=by rw [Lib.toList_data];exact ht
 clear ht hq;have HR2:=hD (HX2.out.sets [.int .i64 (k:Int), .string ⟨(zH [a]).toArray⟩, .string ⟨(zI k [a]).toArray⟩, .string ⟨(zA k [a]).toArray⟩] rfl);have HB3:=hD (zh HB.out (zf (b:=b2) [.int .i64 (k:Int), .string ⟨(zH [a]).toArray⟩, .string ⟨(zI k [a]).toArray⟩, .string ⟨(zA k [a]).toArray⟩]) HB2.out);go_wp2_with (first
  |(refine wpList_load_mid rfl 124 _ rfl b6 0 rfl [.int .i64 (k:Int), .string ⟨(zH [a]).toArray⟩, .string ⟨(zI k [a]).toArray⟩, .string ⟨(zA k [a]).toArray⟩] _ HX6.out.range Tryz.underlying124 rfl Za ?_)
  |(refine wpList_store_mid rfl 124 _ _ rfl b2 0 #[.int .i64 (k:Int), .string ⟨(zH [a]).toArray⟩, .string ⟨(zI k [a]).toArray⟩, .string ⟨(zA k [a]).toArray⟩] rfl rfl ?_ Za (zbX _ _ _ _) ?_;· exact HX2.out.there rfl))
 refine bodyPost_ret (v:= .tuple #[.agg #[.int .i64 (k:Int), .string ⟨(zH [a]).toArray⟩, .string ⟨(zI k [a]).toArray⟩, .string ⟨(zA k [a]).toArray⟩], .int .i64 0]) ?_ rfl (zb0 (ok:=opOk s.data.toList) (by rw [HK.out];rfl) HB3.out);exact zF Tryz.results103 _ _ b2 [.int .i64 (k:Int), .string ⟨(zH [a]).toArray⟩, .string ⟨(zI k [a]).toArray⟩, .string ⟨(zA k [a]).toArray⟩] _ _ rfl rfl HR2.out.range Tryz.underlying124 rfl Za):p:=h
theorem fo21 {p:Prop} (h:p:=by
 exact fo160):p:=h
theorem fo22 {p:Prop} (h:p:=by
 obtain⟨x,q⟩:=x;have HG1:=hD (zeE (s.extract p s.size) wr (by omega) x q (by rw [HD.out];exact hg));have hq:=Yb hg;simp only [List.length_drop,yu] at hq;obtain⟨q0,q1,q2⟩:=hq;have HR:Hid (zK s.data.toList=(match yt yJ (n-(j+1)) (s.data.toList.drop (p+q)) with
  |none=>none
  |some (ys,m)=>some (xs++ [x]++ys,p+q+m))):=hD (by
   rw [HE.out,hmany,yt,hg];simp only [List.drop_drop];cases yt yJ (n-(j+1)) (s.data.toList.drop (p+q)) with
   |none=>rfl
   |some y=>obtain⟨ys,m⟩:=y;simp [Nat.add_assoc])
 clear hg hsl hmany;go_wp2_with fail;refine HG1.out.mono ?_;rintro e w' ⟨rfl,rfl⟩;go_wp2_with (at_builtin;refine wpList_append_own _ rfl _ _ 32 rfl w.heap.size 9 i0 _ 1 16 Tryz.underlying32 HI.out HZ0.out HZ1.out HZ2.out rfl (by decide) _ _ _ rfl (HO.out.alloc _) ⟨wr.heap.size,0,none⟩ 1 1 [.string ⟨x.toArray⟩] rfl rfl (z8 _ _ _ _ rfl) (by simp [Value.oneCell']) (by simp [maxLen];omega) (by omega) (by simp;omega) ?_);intro v' w2 hown' hgrow _;have HO2:=hD hown';have HG2:=hD hgrow;clear hown' hgrow;go_wp2_with fail;go_roundw
 case rel=>
  refine⟨j+1,p+q,xs++ [x],by go_num,by omega,by go_num,by omega,by omega,by simp [HX.out], ?_,below_grown (HB.out.alloc hge _) (by simp;omega) HG2.out (fun g hg=>(HO.out.lt g hg).1), ?_,HR.out⟩
  · rw [Y1];exact HO2.out
  · have:=HG2.out.size;simp at this;omega
 case measure=>simp [intOf];omega):p:=h
theorem fo23 {p:Prop} (h:p:=by
 go_in;go_wp2_with fail;go_ret;exact⟨congrArg (fun b=>Ending.returned (.bool b)) H.out.symm,rfl⟩):p:=h
theorem fo24 {p:Prop} (h:p:=by
 have HK:Hid (opOk s.data.toList=true):=hD (zd5 hk1 hk6 (by rw [Zj hk1 hk6 HCut.out,ht,hq];rfl));have t1:(yo k (zH []) (zI k []) (zA k []) == s.toList)=true:=by rw [Lib.toList_data];exact ht
 clear ht hq;have HR2:=hD (HX2.out.sets [.int .i64 (k:Int), .string ⟨(zH []).toArray⟩, .string ⟨(zI k []).toArray⟩, .string ⟨(zA k []).toArray⟩] rfl);have HB3:=hD (zh HB.out (zf (b:=b2) [.int .i64 (k:Int), .string ⟨(zH []).toArray⟩, .string ⟨(zI k []).toArray⟩, .string ⟨(zA k []).toArray⟩]) HB2.out);go_wp2_with (first
  |(refine wpList_load_mid rfl 124 _ rfl b6 0 rfl [.int .i64 (k:Int), .string ⟨(zH []).toArray⟩, .string ⟨(zI k []).toArray⟩, .string ⟨(zA k []).toArray⟩] _ HX6.out.range Tryz.underlying124 rfl Za ?_)
  |(refine wpList_store_mid rfl 124 _ _ rfl b2 0 #[.int .i64 (k:Int), .string ⟨(zH []).toArray⟩, .string ⟨(zI k []).toArray⟩, .string ⟨(zA k []).toArray⟩] rfl rfl ?_ Za (zbX _ _ _ _) ?_;· exact HX2.out.there rfl))
 refine bodyPost_ret (v:= .tuple #[.agg #[.int .i64 (k:Int), .string ⟨(zH []).toArray⟩, .string ⟨(zI k []).toArray⟩, .string ⟨(zA k []).toArray⟩], .int .i64 0]) ?_ rfl (zb0 (ok:=opOk s.data.toList) (by rw [HK.out];rfl) HB3.out);exact zF Tryz.results103 _ _ b2 [.int .i64 (k:Int), .string ⟨(zH []).toArray⟩, .string ⟨(zI k []).toArray⟩, .string ⟨(zA k []).toArray⟩] _ _ rfl rfl HR2.out.range Tryz.underlying124 rfl Za):p:=h
theorem fo25 {p:Prop} (h:p:=by
 have HKP:Hid (zq x= [Lib.itoa x.slot,Q06.quote x.text]):=hD (by simp [zq,hk]);have HCk:Hid (∀w1,Bx w (ptC x) 40 w1→Bx w (ptC x) 40 w1∧w1.cell? ⟨w.heap.size,3,none⟩=some (.int .i64 x.slot)∧w1.cell? ⟨w.heap.size,5,none⟩=some (.string ⟨x.text.toArray⟩)):=hD (fun w1 hb=>⟨hb,ze hb 3 _ rfl,ze hb 5 _ rfl⟩);rw [hk] at c1;clear hk;have s0:¬(9223372036854775807<1+(Lib.itoa x.slot).length):=by omega
 have s1:¬(9223372036854775807<1+(Lib.itoa x.slot).length+1):=by omega
 have s2:¬(9223372036854775807<1+(Lib.itoa x.slot).length+1+(Q06.quote x.text).length):=by omega
 have s3:¬(9223372036854775807<hl.length+(1+(Lib.itoa x.slot).length+1+(Q06.quote x.text).length)):=by omega
 have s4:¬(9223372036854775807<hl.length+(1+(Lib.itoa x.slot).length+1+(Q06.quote x.text).length)+1):=by omega
 go_wp2_with fail; go_region_held3 (fun w1 => Bx w (ptC x) 40 w1 ∧ w1.cell? ⟨w.heap.size, 3, none⟩ = some (.int .i64 x.slot) ∧ w1.cell? ⟨w.heap.size, 5, none⟩ = some (.string ⟨x.text.toArray⟩))
     (first|exact HCk.out _ (yF ‹Bx _ _ _ _›)|exact HCk.out _ ‹Bx _ _ _ _›)
     (first
      |(go_at_call 76;refine(HI.out _ _ _ (by assumption) (by assumption)).mono ?_;rintro e w2 ⟨rfl,b2⟩)
      |(go_at_call 62;refine(HWd.out _ _ (by assumption)).mono ?_;rintro e w3 ⟨rfl,b3⟩)
      |(go_at_call 80;refine(HQ.out _ _ _ (by omega) (by assumption)).mono ?_;rintro e w4 ⟨rfl,b4⟩))
 all_goals
  go_wp2_with fail;go_ret;refine zfO ?_ (zu ‹_›);rw [zav,HHd.out,HKP.out];apply ByteArray.ext;simp [zeW]):p:=h
theorem fo26 {p:Prop} (h:p:=by
 have hv1:(v == 0)=false:=by simpa using hv
 have hv2:(v != 0)=true:=by simpa using hv
 refine HVal.mono ?_;rintro e w3 ⟨rfl,b3⟩;have B4:=hD (bon B3.out b3);have HR4:=hD (HR3.out.below b3);clear b3 hv;obtain⟨hlt6,r0,r1,r2,s0,s1,s2⟩:=HR4.out;go_wp2_with fail;exact bodyPost_ret (v:= .tuple #[.agg #[.int .i64 0, .int .i64 0, .slice none 0 0], .int .i64 2]) (by simp [results,Tryz.results104,go_sem,r0,r1,r2]) rfl (YO HY.out (((B4.out.setCell (Nat.le_refl _) _).setCell (Nat.le_refl _) _).setCell (Nat.le_refl _) _))):p:=h
theorem fo27 {p:Prop} (h:p:=by
 go_wp2_with fail;refine(zaG HP10.out).mono ?_;rintro e w11 ⟨rfl,hp⟩;obtain⟨l,hl⟩:∃x,x=(nxt 2 s3).1.int:=⟨_,rfl⟩;obtain⟨s4,hs4⟩:∃x,x=(nxt 2 s3).2:=⟨_,rfl⟩;rw [←hl];rw [←hs4] at hp;have HP11:=hD hp;have HL11:=hD (And.intro hl hs4);clear hp hl hs4 HP10;go_wp2_with fail;refine(zc3 HP11.out).mono ?_;rintro e w12 ⟨rfl,hp⟩;obtain⟨t,ht⟩:∃x,x=(nxt 3 s4).1.str:=⟨_,rfl⟩;obtain⟨s5,hs5⟩:∃x,x=(nxt 3 s4).2:=⟨_,rfl⟩;rw [←ht];rw [←hs5] at hp;have HP12:=hD hp;have HL12:=hD (And.intro ht hs5);clear hp ht hs5 HP11;have c3:=HP12.out.pt.cells 3 _ rfl;have f3:=HP12.out.pt.free 3 (of_decide_eq_true rfl);have c5:=HP12.out.pt.cells 5 _ rfl;have f5:=HP12.out.pt.free 5 (of_decide_eq_true rfl);have lq:=HP12.out.pt.lt;have HPe:=hD (Ps.setx (y:=⟨a,k,o,l,0,t, [],ms0⟩) (Ps.setx (y:=⟨a,k,o,l,0, [], [],ms0⟩) (HP12.out) 3 (.int .i64 l) rfl) 5 (.string ⟨t.toArray⟩) rfl);have HKp:Hid (YD a k o s3=(⟨a,k,o,l,0,t, [],ms0⟩,s5.2)):=hD (fo183);have HKd:Hid (Pt.er ⟨a,k,o,l,0,t, [],ms0⟩=(YD a k o s3).1):=hD (by rw [HKp.out];rfl);have HKs:Hid (s5.2=(YD a k o s3).2):=hD (by rw [HKp.out]);go_wp2_with fail;go_meet
 case rel=>exact⟨_,_,HPe.out,HKd.out,HKs.out,fun W _=>zbk W⟩):p:=h
theorem fo28 {p:Prop} (h:p:=by
 go_wp2_with fail;refine(HE.out w3 HB.out).mono ?_;rintro e w4 ⟨rfl,hs⟩;have HX:=hD (HX.out.below hs);have HB:=hD (bon HB.out hs);clear hs;cases ho:E x.text with
 |false=>exact fo181
 |true=>
  have HF:Hid (zy E x=true):=hD (by rw [HW.out];simp [hp,ho]);clear hp ho;go_wp2_with fail;go_ret;exact zz HF.out HB.out):p:=h
theorem fo29 {p:Prop} (h:p:=by
 exact fo167):p:=h
theorem fo30 {p:Prop} (h:p:=by
 exact fo162):p:=h
theorem fo31 {p:Prop} (h:p:=by
 have HB:=hD (za w (.cells #[.string ⟨#[112,117,116]⟩, .string ⟨#[103,101,116]⟩, .string ⟨#[100,101,108,101,116,101]⟩, .string ⟨#[97,112,112,101,110,100]⟩, .string ⟨#[99,97,115]⟩, .string ⟨#[99,111,117,110,116]⟩] 9));go_in;go_wp2_with fail;go_ret;exact⟨rfl,HB.out⟩):p:=h
theorem fo32 {p:Prop} (h:p:=by
 refine HVl.mono ?_;rintro e w4 ⟨rfl,b4⟩;have B5:=hD (bon B4.out b4);have HR5:=hD (HR4.out.below b4);clear b4 p0 p1 p2 f0 f1 f2 hv hq;obtain⟨hlt6,r0,r1,r2,s0,s1,s2⟩:=HR5.out;go_wp2_with fail;exact bodyPost_ret (v:= .tuple #[.agg #[.int .i64 0, .int .i64 0, .slice none 0 0], .int .i64 2]) (by simp [results,Tryz.results104,go_sem,r0,r1,r2]) rfl (YO HY.out (((B5.out.setCell (Nat.le_refl _) _).setCell (Nat.le_refl _) _).setCell (Nat.le_refl _) _))):p:=h
theorem fo33 {p:Prop} (h:p:=by
 have i0:(0:Int)≤(k:Int):=by omega
 have i1:(k:Int) <(s.size:Int):=by omega
 have hT:=graphic_to s n k hlt;by_cases h1:s[k].toNat<33
 · have c1:(s[k].toNat:Int) <33:=by omega
   have HF:Hid (graphic s.data.toList n=false):=hD (zd2 hlt (by rw [decide_eq_false (by omega)];rfl));clear hT;exact fo182
 · have c1:¬((s[k].toNat:Int) <33):=by omega
   by_cases h2:126<s[k].toNat
   · have c2:(126:Int) <(s[k].toNat:Int):=by omega
     have HF:Hid (graphic s.data.toList n=false):=hD (zd2 hlt (by rw [decide_eq_false (p:=s[k].toNat≤126) (by omega),Bool.and_false]));clear hT;exact fo182
   · have c2:¬((126:Int) <(s[k].toNat:Int)):=by omega
     have HN:Hid ((s.data.toList.take (k+1)).all (fun b=>decide (33≤b.toNat) && decide (b.toNat≤126))=true):=hD (by rw [hT,HA.out,decide_eq_true (by omega:33≤s[k].toNat),decide_eq_true (by omega:s[k].toNat≤126)];rfl);clear hT;go_wp2_with fail;go_roundw
     case rel=>exact⟨k+1,by go_num,by omega,HN.out,by first|rfl|trivial⟩
     case measure=>simp [intOf];omega):p:=h
theorem fo34 {p:Prop} (h:p:=by
 have HG2:=hD hgrow;clear hown' hgrow;go_wp2_with fail;go_roundw
 case rel=>
  refine⟨k+1,by go_num,by omega,HO2.out,below_grown (B1.out.alloc (by omega) _) (by simp;omega) HG2.out (fun g hg=>(HO1.out.lt g hg).1), ?_⟩;have:=HG2.out.size;simp at this;omega
 case measure=>simp [intOf];omega):p:=h
theorem fo35 {p:Prop} (h:p:=by
 simp only [qk4,qk5,qk6,cells_int,qd1,qd2,qd3,qd4,qd5,qd6] at h9;exact h9):p:=h
theorem fo36 {p:Prop} (h:p:=by
 exact fo170):p:=h
theorem fo37 {p:Prop} (h:p:=by
 have HB0:=hD (Zk w (msC m) 38);have HRow:Hid (∀W,Bx w (msC m) 38 W→W.rangeAt w.heap.size 0 (msC m)):=hD (fun W hb j v hv=>by rw [Nat.zero_add];exact ze hb j v hv);clear hok hs;go_in;go_wp2_with (refine wpList_load_mid rfl 38 _ rfl _ 0 rfl (msC m) _ (HRow.out _ HB0.out) Tryz.underlying38 rfl (zbt m) ?_);refine(HV.out _ (zu HB0.out)).mono ?_;rintro e w2 ⟨rfl,b2⟩;have HB2:=hD (zau HB0.out b2);clear b2;by_cases h0:vMs m=0
 · have h1:(vMs m == 0)=true:=by simp [h0]
   have h2:(vMs m != 0)=false:=by simp [h0]
   have H0:=hD h0;clear h0;have HE2:=hD (HE.out w2 (zu HB2.out));go_wp2_with (refine wpList_load_mid rfl 38 _ rfl _ 0 rfl (msC m) _ (HRow.out _ HB2.out) Tryz.underlying38 rfl (zbt m) ?_);refine HE2.out.mono ?_;rintro e w3 ⟨rfl,b3⟩;have HB3:=hD (zu (zau HB2.out b3));clear b3;go_wp2_with fail;go_ret2;exact zbI (by unfold enc0;rw [if_pos H0.out]) H0.out HB3.out
 · have h1:(vMs m == 0)=false:=by simp [h0]
   have h2:(vMs m != 0)=true:=by simp [h0]
   have H0:=hD h0;clear h0;go_wp2_with fail;go_ret2;exact zbI (by unfold enc0;rw [if_neg H0.out]) rfl (zu HB2.out)):p:=h
theorem fo38 {p:Prop} (h:p:=by
 rintro e w4 ⟨rfl,hs⟩;have HX:=hD (HX.out.below hs);have HB:=hD (bon HB.out hs);clear hs;have c2:=HX.out.cells 2 _ rfl;have c8:=HX.out.cells 8 _ rfl;have cl:=HX.out.lt;by_cases hv:vMs x.msg=0
 case neg=>
  have v1:(vMs x.msg == 0)=false:=by simpa using hv
  have HF:Hid (zy E x=false):=hD (by rw [HW.out];simp [hv]);clear hv;go_wp2_with fail;go_ret;exact zz HF.out HB.out
 have v1:(vMs x.msg == 0)=true:=by simpa using hv
 by_cases hs:x.msg.src=x.who
 case neg=>
  have s1:(x.msg.src == x.who)=false:=by simpa using hs
  have HF:Hid (zy E x=false):=hD (by rw [HW.out];simp [hs]);clear hs;go_wp2_with fail;go_ret;exact zz HF.out HB.out
 have s1:(x.msg.src == x.who)=true:=by simpa using hs
 have HF:Hid (zy E x=true):=hD (by rw [HW.out];simp [hp,hv,hs]);clear hp hv hs;go_wp2_with fail;go_ret;exact zz HF.out HB.out):p:=h
theorem fo39 {p:Prop} (h:p:=by
 exact fo181):p:=h
theorem fo40 {p:Prop} (h:p:=by
 obtain⟨A',c',hv⟩:=ownsRow_form HL.out;subst hv;have HR2:=hD (Rd.own HL.out);go_wp2_with fail;refine(HP.out _ _ _ HR2.out).mono ?_;rintro e w1 ⟨rfl,b1⟩;have B1:=hD b1;clear b1;go_wp2_with fail;go_ret;exact ZJ rfl (HB.out.trans (B1.out.mono hge))):p:=h
theorem fo41 {p:Prop} (h:p:=by
 rw [List.take_succ_eq_append_getElem hlt,List.map_append,List.map_cons,List.map_nil,HX.out,Y1];simpa only [List.map_take] using hown'):p:=h
theorem fo42 {p:Prop} (h:p:=by
 have HQ:=hD hq;rw [hq] at HCall;clear hq;go_wp2_with fail;refine HCall.out.mono ?_;rintro e w1 ⟨rfl,b1⟩;have HB1:=hD (bon HB.out b1);clear b1;go_wp2_with fail;go_ret;exact zz (HN.out HQ.out) (HLowq.out _ HB1.out)):p:=h
theorem fo43 {p:Prop} (h:p:=by
 have d1:(x.slot == 0)=true:=by simp [c1]
 by_cases c2:x.root= []
 · have HZ:Hid (((x.chunks.l.length:Int)+x.proof.l.length+x.chain.l.length == 0)=Yz x):=hD (by
     show _=(decide (x.slot=0) && decide (x.root= []) && decide (x.chunks.l.length+x.proof.l.length+x.chain.l.length=0));rw [decide_eq_true c1,decide_eq_true c2,Bool.true_and,Bool.true_and,Bool.eq_iff_iff,beq_iff_eq,decide_eq_true_eq];omega)
   have HC1:=hD c1;clear c1;go_in;go_wp2_with fail;go_ret;exact zz HZ.out.symm (za _ _)
 · have HZ:Hid (Yz x=false):=hD (by simp [Yz,c2]);have HC1:=hD c1;clear c1;go_in;go_wp2_with fail;go_ret;exact zz HZ.out (za _ _)):p:=h
theorem fo44 {p:Prop} (h:p:=by
 exact fo182):p:=h
theorem fo45 {p:Prop} (h:p:=by
 go_in;go_wp2_with fail;refine HQ.out.mono ?_;rintro e w' ⟨rfl,hb⟩;have HB1:=hD (zau HB0.out hb);obtain⟨c0,c1,c2⟩:=HC.out _ HB1.out;clear hb;go_wp2_with fail;refine(HX.out _ HB1.out).mono ?_;rintro e w2 ⟨rfl,b2⟩;go_wp2_with fail;go_ret;exact yz rfl (zu (zau HB1.out b2))):p:=h
theorem fo46 {p:Prop} (h:p:=by
 go_wp2_with fail;go_roundw
 case rel=>exact⟨j+1,_,by go_num,rfl,HN.out⟩
 case measure=>simp [intOf];omega):p:=h
theorem fo47 {p:Prop} (h:p:=by
 have B0:Hid (Below w.heap.size w ((w.alloc (.cells #[.int .i64 a.client, .int .i64 a.number, .string ⟨a.op.toArray⟩] 191)).alloc (.cells #[.int .i64 b.client, .int .i64 b.number, .string ⟨b.op.toArray⟩] 191))):=
  hD ((za w _).alloc (by simp) _)
 cases h1:(a.client == b.client) with
 |true=>
  have HS:Hid (same a b=(a.number == b.number)):=hD (by unfold same;rw [h1];rfl);go_in;go_wp2_with fail;all_goals
   go_ret;exact zz (by rw [HS.out]) B0.out
 |false=>
  have HS:Hid (same a b=false):=hD (by unfold same;rw [h1];rfl);go_in;go_wp2_with fail;all_goals
   go_ret;exact zz HS.out B0.out):p:=h
theorem fo48 {p:Prop} (h:p:=by
 obtain rfl:j=l.length:=by omega
 obtain⟨a,c',rfl,hret⟩:=HJ.out.done hB;have HRet:=hD hret;clear hret;go_wp2_with fail;go_ret;rw [HR.out];exact HRet.out):p:=h
theorem fo49 {p:Prop} (h:p:=by
 go_in;go_wp2_with fail;refine HD.out.mono ?_;intro e w2 hd;unfold Q40.RetDec at hd;obtain⟨hb,hd⟩:=hd;have HB:=hD hb;clear hb HD;cases hq:Q40.decE s with
 |none=>
  rw [hq] at hd;subst hd;have HF:Hid (entB s=false):=hD (by unfold entB;rw [hq];rfl);clear hq;go_wp2_with fail;go_ret;exact zz HF.out (bon HB.out (za _ _))
 |some x=>
  rw [hq] at hd;obtain⟨A,c,rfl, -⟩:=hd;have HF:Hid (entB s=true):=hD (by unfold entB;rw [hq];rfl);clear hq;go_wp2_with fail;go_ret;exact zz HF.out (bon HB.out (za _ _))):p:=h
theorem fo50 {p:Prop} (h:p:=by
 have he9:strC (yI::(rs.take (k+1)).flatMap rqS)=strC (yI::(rs.take k).flatMap rqS)++ [.string ⟨(Lib.itoa rs[k].client).toArray⟩, .string ⟨(Lib.itoa rs[k].number).toArray⟩, .string ⟨rs[k].op.toArray⟩]:=by
   rw [List.take_succ_eq_append_getElem hlt,List.flatMap_append];simp only [List.flatMap_cons,List.flatMap_nil,List.append_nil,rqS,strC,List.map_cons,List.map_append,List.map_nil,List.cons_append]
 rw [show 1+3 *(k+1)=1+3 * k+3 from by omega,he9];exact HO3.out):p:=h
theorem fo51 {p:Prop} (h:p:=by
 go_quiet (fail);all_goals
  have hbq:Below w3.heap.size w3 (w3.drewN nq):=bdN (Below.refl _ _) nq;generalize w3.drewN nq=w4 at hbq⊢;go_wp2_with fail;go_meet
  case rel=>exact⟨rfl,hbq⟩):p:=h
theorem fo52 {p:Prop} (h:p:=by
 go_wp2_with (first
   |(refine wpList_load_mid rfl 147 _ rfl w2.heap.size 0 rfl (hoC x) _ (HXz.out true).range Tryz.underlying147 rfl (zaq x) ?_)
   |(refine wpList_store_mid rfl 147 _ _ rfl w.heap.size 0 (hoC x).toArray rfl rfl ((HVz.out true).there rfl) (zaq x) (zdJ x) ?_))
 refine bodyPost_ret (v:= .agg (hoC x).toArray) ?_ rfl (HFin.out true rfl);exact fo175):p:=h
theorem fo53 {p:Prop} (h:p:=by
 go_wp2_with (first
   |(refine wpList_load_mid rfl 100 _ rfl w2.heap.size 0 rfl (deC x) _ (HXz.out true).range Tryz.underlying100 rfl (zao x) ?_)
   |(refine wpList_store_mid rfl 100 _ _ rfl w.heap.size 0 (deC x).toArray rfl rfl ((HVz.out true).there rfl) (zao x) (zdB x) ?_))
 refine bodyPost_ret (v:= .agg (deC x).toArray) ?_ rfl (HFin.out true rfl);exact fo176):p:=h
theorem fo54 {p:Prop} (h:p:=by
 go_wp2_with (first
   |(refine wpList_load_mid rfl 97 _ rfl w2.heap.size 0 rfl (stC x) _ (HXz.out true).range Tryz.underlying97 rfl (Yx x) ?_)
   |(refine wpList_store_mid rfl 97 _ _ rfl w.heap.size 0 (stC x).toArray rfl rfl ((HVz.out true).there rfl) (Yx x) (zcp x) ?_))
 refine bodyPost_ret (v:= .agg (stC x).toArray) ?_ rfl (HFin.out true rfl);exact fo177):p:=h
theorem fo55 {p:Prop} (h:p:=by
 go_wp2_with (first
   |(refine wpList_load_mid rfl 38 _ rfl w2.heap.size 0 rfl (msC x) _ (HXz.out true).range Tryz.underlying38 rfl (zT x) ?_)
   |(refine wpList_store_mid rfl 38 _ _ rfl w.heap.size 0 (msC x).toArray rfl rfl ((HVz.out true).there rfl) (zT x) (yR x) ?_))
 refine bodyPost_ret (v:= .agg (msC x).toArray) ?_ rfl (HFin.out true rfl);exact fo180):p:=h
theorem fo56 {p:Prop} (h:p:=by
 go_wp2_with (first
   |(refine wpList_load_mid rfl 36 _ rfl w2.heap.size 0 rfl (snC x) _ (HXz.out true).range Tryz.underlying36 rfl (YZ x) ?_)
   |(refine wpList_store_mid rfl 36 _ _ rfl w.heap.size 0 (snC x).toArray rfl rfl ((HVz.out true).there rfl) (YZ x) (zcg x) ?_))
 refine bodyPost_ret (v:= .agg (snC x).toArray) ?_ rfl (HFin.out true rfl);exact fo178):p:=h
theorem fo57 {p:Prop} (h:p:=by
 go_wp2_with (first
   |(refine wpList_load_mid rfl 29 _ rfl w2.heap.size 0 rfl (sgC x) _ (HXz.out true).range Tryz.underlying29 rfl (zbg x) ?_)
   |(refine wpList_store_mid rfl 29 _ _ rfl w.heap.size 0 (sgC x).toArray rfl rfl ((HVz.out true).there rfl) (zbg x) (sgC_one' x) ?_))
 refine bodyPost_ret (v:= .agg (sgC x).toArray) ?_ rfl (HFin.out true rfl);exact fo179):p:=h
theorem fo58 {p:Prop} (h:p:=by
 rintro e w1 ⟨rfl,rfl⟩;go_wp2_with fail;exact bodyPost_ret (v:= .tuple #[.agg (tokA tok0), .int .i64 0]) (by simp [results,Tryz.results124,go_sem,tokA,tok0]) rfl (zeK _ _ (zfF HN.out) (by omega) (((Below.refl _ _).alloc (Nat.le_refl _) _)))):p:=h
theorem fo59 {p:Prop} (h:p:=by
 clear hown' hgrow hat;go_wp2_with fail;go_roundw
 case rel=>exact⟨j+1,xs++ [x],_,_,by go_num,by omega,HN.out⟩
 case measure=>simp [intOf];omega):p:=h
theorem fo60 {p:Prop} (h:p:=by
 clear hp hq;go_in;go_wp2_with fail;refine H.out.mono ?_;rintro e w' ⟨A,c,rfl,hr,h⟩;have HQ:=hD hr;have HH:=hD h;clear h hr;simp only;go_wp2_with fail;go_ret;exact zb8 HR.out rfl HQ.out HH.out):p:=h
theorem fo61 {p:Prop} (h:p:=by
 refine wpAnyH_done (by kernel_rfl) ?_ _;refine NoPanic.normal ?_;go_wp2_with fail;go_roundw
 case rel=>exact⟨k+1,by go_num,by omega,HN.out,HBr.out⟩
 case measure=>simp [intOf];omega):p:=h
theorem fo62 {p:Prop} (h:p:=by
 simp only [qk4,qk5,qk6,zbp,qd1,qd2,qd3,qd4,qd5,qd6] at h9;exact h9):p:=h
theorem fo63 {p:Prop} (h:p:=by
 have HB:=hD (za w (.cells #[.string ⟨#[]⟩, .string ⟨#[105,110,118,111,107,101]⟩, .string ⟨#[97,99,107]⟩, .string ⟨#[97,99,99,101,112,116]⟩, .string ⟨#[100,101,99,105,100,101]⟩, .string ⟨#[114,101,97,100]⟩, .string ⟨#[115,101,110,100]⟩, .string ⟨#[99,114,97,115,104]⟩, .string ⟨#[114,101,115,116,97,114,116]⟩] 9));go_in;go_wp2_with fail;go_ret;exact ZJ (by rw [HF.out]) HB.out):p:=h
theorem fo64 {p:Prop} (h:p:=by
 clear hcc;go_wp2_with fail;refine HW.out.mono ?_;rintro e w2 ⟨rfl,b2⟩;have B2:=hD b2;clear b2;go_wp2_with fail;go_roundw
 case rel=>exact⟨k+1,by go_num,by omega,B2.out⟩
 case measure=>simp [intOf];omega):p:=h
theorem fo65 {p:Prop} (h:p:=by
 have HF:Hid (zy E x=false):=hD (by rw [HW.out];simp [hn]);clear hn;go_wp2_with fail;go_ret;exact zz HF.out HB.out):p:=h
theorem fo66 {p:Prop} (h:p:=by
 have hs1:=HTot.out k;have hs2:=HTg.out k hlt;have HS:Hid (tot (m.texts.l.take (k+1))=tot (m.texts.l.take k)+m.texts.l[k].length):=hD (by rw [List.take_succ_eq_append_getElem hlt,tot_snoc]);clear hcc;go_wp2_with fail;go_round
 case rel=>exact⟨k+1,by go_num,by omega,by rw [HS.out];go_num⟩
 case measure=>simp [intOf];omega):p:=h
theorem fo67 {p:Prop} (h:p:=by
 go_wp2_with (refine wpList_store_mid rfl 29 _ _ rfl w.heap.size 0 (sgC sg0).toArray rfl rfl (HV1.out.there rfl) (ZZ sg0) (zbR sg0) ?_);refine bodyPost_ret (v:= .tuple #[.agg (sgC sg0).toArray, .int .i64 2]) ?_ rfl (zdn HR.out (below_vs HB1.out (Nat.le_refl _) _));exact zF Tryz.results234 _ _ w.heap.size (sgC sg0) _ _ rfl rfl (HV1.out.sets (sgC sg0) rfl).range Tryz.underlying29 rfl (ZZ sg0)):p:=h
theorem fo68 {p:Prop} (h:p:=by
 have HF:Hid (zy E x=true):=hD (by rw [HW.out];simp [hp]);clear hp;go_wp2_with fail;go_ret;exact zz HF.out HB.out):p:=h
theorem fo69 {p:Prop} (h:p:=by
 go_wp2_with fail;go_meet
 case rel=>exact⟨_,_,HPe.out,HKd.out,HKs.out,fun W _=>zbk W⟩):p:=h
theorem fo70 {p:Prop} (h:p:=by
 intro e;simp only [Bool.and_eq_true,decide_eq_true_eq,List.length_cons] at e;obtain rfl:t= []:=List.eq_nil_of_length_eq_zero (by omega);rfl):p:=h
theorem fo71 {p:Prop} (h:p:=by
 go_in;go_wp2_with fail;go_ret2;exact ret_tk HZ.out _ _ rfl rfl):p:=h
theorem fo72 {p:Prop} (h:p:=by
 have q0:(vt == 0)=false:=by simpa using h0
 have q1:(vt != 0)=true:=by simpa using h0
 have HT:Hid (fmtT E l= []∧fmtE E l=vt):=hD ⟨by unfold fmtT;rw [if_neg (fun h=>h0 (HVt.out.trans h.1))],by unfold fmtE;rw [←HVt.out,if_neg h0]⟩;clear h0;go_wp2_with fail;go_ret2;exact zbI HT.out.1 HT.out.2 HB1.out):p:=h
theorem fo73 {p:Prop} (h:p:=by
 go_wp2_with (go_at_call 193;refine(zcq _ _).mono ?_;rw [HD.out];rintro e w' ⟨rfl,rfl⟩);go_ret2;exact⟨zeN (by rw [HX.out]),rfl⟩):p:=h
theorem fo74 {p:Prop} (h:p:=by
 refine hK.out _ _ HVe.out.range (fun hHeld=> ?_);clear hK K c1 f1 lg;try simp only [Act.put,qk]
 refine wpAnyH_done (by kernel_rfl) ?_ _;refine NoPanic.normal ?_;go_wp2_with fail;go_meet
 case rel=>exact⟨_,_,HPe.out,by rw [HKp.out];rfl,by rw [HKp.out],HSe.out⟩):p:=h
theorem fo75 {p:Prop} (h:p:=by
 rintro e w2 ⟨rfl,h2⟩;have H2:=hD h2;clear h2;go_wp2_with fail;go_roundw
 case rel=>
  refine⟨k+1,by go_num,by omega,zdk H2.out ?_⟩;rw [HS.out,HQ.out];simp
 case measure=>simp [intOf];omega):p:=h
theorem fo76 {p:Prop} (h:p:=by
 rcases h.2 with⟨h1,h2⟩|⟨g,cap,cur,hv,_,_,_,hm,_⟩
 · injection h1 with _ _ h3;omega
 · injection hv with _ _ h3;subst h3;unfold maxLen at hm;omega):p:=h
theorem fo77 {p:Prop} (h:p:=by
 obtain⟨b2,o2,hA2,_,hc2⟩:=Z7 (hst0 W hW) (by simp);simp only [Option.some.injEq,Addr.mk.injEq] at hA2;obtain⟨rfl,rfl,_⟩:=hA2;exact hc2 0 _ rfl):p:=h
theorem fo78 {p:Prop} (h:p:=by
 intro j u h;subst hb;rw [show((⟨W.heap.size,0,none⟩:Addr).add j)=⟨W.heap.size,j,none⟩ from by unfold Addr.add;split <;> simp_all]
 have h1:(W.alloc (.cells cs.toArray T)).heap[W.heap.size]? =some (.cells cs.toArray T):=by
  show(W.heap.push _)[W.heap.size]? =_;simp
 simp only [World.cell?];rw [h1];simpa using h):p:=h
theorem fo79 {p:Prop} (h:p:=by
 exact zF Tryz.results53 _ _ w.heap.size (ptC y) _ _ rfl rfl HRx.out.range Tryz.underlying40 rfl (zw y)):p:=h
theorem fo80 {p:Prop} (h:p:=by
 clear hsl hmany ht;obtain⟨A,c,hv⟩:=ownsRow_form HO.out;subst hv;go_wp2_with fail;refine HG1.out.mono ?_;rintro e w' ⟨rfl,rfl⟩;go_wp2_with fail;go_ret2;exact zbY HR.out _ _ _ HB.out):p:=h
theorem fo81 {p:Prop} (h:p:=by
 clear hK K;try simp only [Act.put,qk1,qk2,qk3,qk4,qk5,qk6]
 refine takes [2,3,4,5,6,7,8,9,10,11,12,13,14,15,16,17] ?_;refine wpAnyH_done (by kernel_rfl) ?_ _;refine NoPanic.normal ?_;go_wp2_with fail;go_ret;exact yz HF.out (bon HJb.out HBr.out)):p:=h
theorem fo82 {p:Prop} (h:p:=by
 clear hK K;try simp only [Act.put,qk1,qk2,qk3,qk4,qk5,qk6]
 refine takes [5,6,7,8,9,10,11,12,13,14,15,16,17,18,19,20,21,22,23] ?_;refine wpAnyH_done (by kernel_rfl) ?_ _;refine NoPanic.normal ?_;go_wp2_with fail;go_ret;exact yz HF.out HBr.out):p:=h
theorem fo83 {p:Prop} (h:p:=by
 have hne:some wr.heap.size≠some og:=by simp;omega
 have hlt:=ZN hb;rw [hg.cell_far _ (by show wr.heap.size<W.heap.size;omega) hne,hg.cell_far _ (by show wr.heap.size<W.heap.size;omega) hne,hg.cell_far _ (by show wr.heap.size<W.heap.size;omega) hne];exact HC.out W hb):p:=h
theorem fo84 {p:Prop} (h:p:=by
 refine⟨h.1,fun hj=> ?_⟩;rcases h.2 with⟨h1,h2⟩|⟨g,cap,cur,hv,_,hg,_⟩
 · have:=h.1;subst h2;simp at this;subst this;simp at hj
 · injection hv with h1 h2 h3;subst h1;have hlt:=(h.lt g rfl).2;exact⟨g,0,rfl,hlt,fun j u hu=>by rw [←zam];exact h.cells rfl j u hu⟩):p:=h
theorem fo85 {p:Prop} (h:p:=by
 go_in;go_wp2_with fail;refine HP.out.mono ?_;rintro e w2 ⟨⟨a,b,c,d,rfl⟩,b2⟩;have HB:=hD b2;clear b2;cases hq:opOk s with
 |true=>
  go_wp2_with fail;go_ret;exact zz hq (bon HB.out (za _ _))
 |false=>
  go_wp2_with fail;go_ret;exact zz hq (bon HB.out (za _ _))):p:=h
theorem fo86 {p:Prop} (h:p:=by
 rintro e w2 ⟨rfl,b2⟩;have B2:=hD b2;clear b2;go_wp2_with fail;go_roundw
 case rel=>
  refine⟨k+1,_,by go_num,by omega,by rw [zbL],bon HB.out B2.out, ?_⟩;rw [HE.out,HE0.out,List.append_assoc]
 case measure=>simp [intOf];omega):p:=h
theorem fo87 {p:Prop} (h:p:=by
 go_wp2_with fail;refine HE6.out.mono ?_;rintro e w7 ⟨rfl,rfl⟩;go_wp2_with fail;go_ret;exact yz HZ1.out HLow.out):p:=h
theorem fo88 {p:Prop} (h:p:=by
 have n2':1000000<x.number:=by omega
 have n2d:decide (x.number≤1000000)=false:=decide_eq_false n2;have HF:Hid (zy E x=false):=hD (by rw [HW.out];simp [zab,n2]);clear n2';go_wp2_with fail;go_ret;exact zz HF.out HB.out):p:=h
theorem fo89 {p:Prop} (h:p:=by
 have n1':x.number<1:=by omega
 have n1d:decide (1≤x.number)=false:=decide_eq_false n1;have HF:Hid (zy E x=false):=hD (by rw [HW.out];simp [zab,n1]);clear n1';go_wp2_with fail;go_ret;exact zz HF.out HB.out):p:=h
theorem fo90 {p:Prop} (h:p:=by
 have hl:(l.take k).length=k:=by simp;omega
 have h:=in_any (some ⟨g,o,none⟩) c (l.take k) l[k] W (by rw [hl];exact HT.out.below hb) (by rw [hl];omega);rw [hl,hin] at h;exact h.mono fun _ _ ⟨a,b⟩=>⟨a,bon hb b⟩):p:=h
theorem fo91 {p:Prop} (h:p:=by
 go_wp2_with fail;exact bodyPost_ret (v:= .tuple #[.agg #[.int .i64 0, .int .i64 0, .slice none 0 0], .int .i64 2]) (by simp [results,Tryz.results104,go_sem,c0,c1,c2]) rfl (YO HD.out (((B1.out.setCell (Nat.le_refl _) _).setCell (Nat.le_refl _) _).setCell (Nat.le_refl _) _))):p:=h
theorem fo92 {p:Prop} (h:p:=by
 go_wp2_with fail;exact bodyPost_ret (v:= .tuple #[.agg #[.int .i64 0, .int .i64 0, .slice none 0 0], .int .i64 2]) (by simp [results,Tryz.results94,go_sem,c0,c1,c2]) rfl (YO HD.out (((B1.out.setCell (Nat.le_refl _) _).setCell (Nat.le_refl _) _).setCell (Nat.le_refl _) _))):p:=h
theorem fo93 {p:Prop} (h:p:=by
 clear h hr;simp only;go_wp2_with fail;go_ret;exact zb8 HR.out rfl (by simpa [intC] using HQ.out) (HH.out.below (za _ _))):p:=h
theorem fo94 {p:Prop} (h:p:=by
 go_wp2_with fail;refine HE6.out.mono ?_;rintro e w7 ⟨rfl,rfl⟩;go_wp2_with fail;go_ret;exact yz HZ.out HLow.out):p:=h
theorem fo95 {p:Prop} (h:p:=by
 exact en_eta e _ _ _ hk (by
  by_cases hr:e.cfg=0
  · exact hr
  · exact absurd (.inl hr) h3) (by
  by_cases hr:e.rs= []
  · exact hr
  · exact absurd (.inr hr) h3)):p:=h
theorem fo96 {p:Prop} (h:p:=by
 go_in;go_wp2_with fail;refine HI.out.mono ?_;rintro e w1 ⟨rfl,b1⟩;have B1:=hD (bon B0.out b1);clear b1;go_wp2_with fail;refine(HP.out _).mono ?_;rintro e w2 ⟨rfl,b2⟩;go_wp2_with fail;go_ret;exact ZJ rfl (bon (B1.out.alloc B1.out.size _) b2)):p:=h
theorem fo97 {p:Prop} (h:p:=by
 rw [←hW];exact zb6 w2 ((YT m).map Value.bool) 4 _ rfl k _ (by
  have h9:(YT m).length=9:=rfl;rw [List.getElem?_map,List.getElem?_eq_getElem (by omega),List.getD_eq_getElem?_getD,List.getElem?_eq_getElem (by omega)];rfl)):p:=h
theorem fo98 {p:Prop} (h:p:=by
 have hc:=Zz c;simp only [escR];by_cases h1:(c.toNat:Int)=34∨(c.toNat:Int)=92
 · rw [if_pos h1];simp;omega
 · rw [if_neg h1];by_cases h2:(c.toNat:Int)=110 <;> by_cases h3:(c.toNat:Int)=120 <;> simp [h2,h3]):p:=h
theorem fo99 {p:Prop} (h:p:=by
 rw [List.take_succ_eq_append_getElem hlt,List.flatMap_append];simp only [List.flatMap_cons,List.flatMap_nil,List.append_nil]):p:=h
theorem fo100 {p:Prop} (h:p:=by
 have c1:(cfg == 0)=false:=by simpa using c0
 have c2:(cfg != 0)=true:=by simpa using c0
 clear c0;go_in;go_wp2_with fail;go_ret;exact yz HY.out B0.out):p:=h
theorem fo101 {p:Prop} (h:p:=by
 unfold yo zas;simp only [List.filter_cons,List.filter_nil,yV hkey,yV hnew,ne_eq,not_true_eq_false,decide_false,if_true,Bool.false_eq_true,if_false];simp [Lib.join,zn]):p:=h
theorem fo102 {p:Prop} (h:p:=by
 have h2:k=1∨k=2∨k=3∨k=4∨k=5∨k=6∨k=7∨k=8∨k=9∨k=10∨k=11∨k=12:=by omega
 rcases h2 with rfl|rfl|rfl|rfl|rfl|rfl|rfl|rfl|rfl|rfl|rfl|rfl <;> decide):p:=h
theorem fo103 {p:Prop} (h:p:=by
 refine⟨h.1, ?_⟩;rcases h.2 with h1|⟨g,cap,cur,hv,hge,hg,rest⟩
 · exact .inl h1
 · have hlt:g<w.heap.size:=(h.lt g (by rw [hv];rfl)).2;exact .inr ⟨g,cap,cur,hv,hge,(hb.block g hlt).trans hg,rest⟩):p:=h
theorem fo104 {p:Prop} (h:p:=by
 obtain rfl:k=l.length:=by omega
 have HF:Hid (vTr E l=0):=hD (by
  have h:Y2 E l=true:=HA.out;rw [HV.out,h];rfl)
 go_wp2_with fail;go_ret;exact yz HF.out HJb.out):p:=h
theorem fo105 {p:Prop} (h:p:=by
 unfold yo zas;simp only [List.filter_cons,List.filter_nil,yV hkey,ne_eq,not_true_eq_false,decide_false,if_true,Bool.false_eq_true,if_false];simp [Lib.join,zn]):p:=h
theorem fo106 {p:Prop} (h:p:=by
 have i0:(5000:Int) <(l.length:Int):=by omega
 have HF:Hid (vTr E l=3):=hD (by unfold vTr;rw [if_pos hbig]);clear hbig;go_in;go_wp2_with fail;go_ret;exact yz HF.out HB0.out):p:=h
theorem fo107 {p:Prop} (h:p:=by
 have HE:Hid (varint l.length++(l.take k).flatMap zk=zg l):=hD (by rw [List.take_of_length_le (by omega)];rfl);go_wp2_with fail;go_ret;exact ZJ (by rw [HE0.out,HE.out]) HB.out):p:=h
theorem fo108 {p:Prop} (h:p:=by
 go_wp2_with fail;go_ret;exact yz HY.out (Below.refl _ _)):p:=h
theorem fo109 {p:Prop} (h:p:=by
 have h1:zah.atKey (.int .i64 k) (.lit (.string []))= .lit (.string s.data.toList):=congrArg Prod.fst hs;rw [words_at] at h1;simp only [DataW.lit.injEq,Lit.string.injEq] at h1;rw [h1,zad]):p:=h
theorem fo110 {p:Prop} (h:p:=by
 have HZ:Hid (Yz x=false):=hD (by simp [Yz,c1]);have d1:(x.slot == 0)=false:=by simp [c1]
 go_in;go_wp2_with fail;go_ret;exact zz HZ.out (za _ _)):p:=h
theorem fo111 {p:Prop} (h:p:=by
 have hv:=yK s.length (by omega);go_in;go_wp2_with fail;refine HP.out.mono ?_;rintro e w1 ⟨rfl,b1⟩;have B1:=hD b1;clear b1;go_wp2_with fail;go_ret;exact ZJ rfl B1.out):p:=h
theorem fo112 {p:Prop} (h:p:=by
 go_wp2_with (go_at_call 270;refine(Tryz.bits_Len8 _ _ (by omega) (by omega)).mono ?_;rintro e w' ⟨rfl,rfl⟩);go_ret3;exact zfL HR.out _ (by decide)):p:=h
theorem fo113 {p:Prop} (h:p:=by
 have hj:j<m:=by
  have:=(List.getElem?_eq_some_iff.1 hv).1;rwa [hC] at this
 have:=hc (k * m+j) v (by rw [flat_get C m hC l k hk j hj];exact hv);rwa [←Nat.add_assoc] at this):p:=h
theorem fo114 {p:Prop} (h:p:=by
 clear h2;go_in;go_wp2_with fail;go_ret;exact yz HY.out B0.out):p:=h
theorem fo115 {p:Prop} (h:p:=by
 have h6:(l.take k).length≤l.length:=by simp;omega
 omega):p:=h
theorem fo116 {p:Prop} (h:p:=by
 have:=Y5 (Tryz.strings_HasPrefix t ⟨#[47,47]⟩ w);rw [show(ByteArray.mk #[47,47]).data.toList= [47,47] from rfl,hcm] at this;exact this):p:=h
theorem fo117 {p:Prop} (h:p:=by
 go_ret2;refine⟨zeN ?_,rfl⟩;have h1:=HT.out;rw [HR.out,if_neg (fun h=>HZ.out h.1 h.2),←zdp,HF.out,HX.out] at h1;simp [intR,h1]):p:=h
theorem fo118 {p:Prop} (h:p:=by
 have HF:Hid (zy E x=true):=hD (by rw [HW.out];simp [hp,hn,ho]);clear hp hn ho;go_wp2_with fail;go_ret;exact zz HF.out HB.out):p:=h
theorem fo119 {p:Prop} (h:p:=by
 go_wp2_with fail;refine HD.out.mono ?_;rintro e w1 ⟨rfl,b1⟩;go_wp2_with fail;go_ret;exact yz HZ.out b1):p:=h
theorem fo120 {p:Prop} (h:p:=by
 go_wp2_with fail;go_ret;exact zz (by rw [HZ.out,HQ.out,decide_eq_true htt];rfl) (HLowq.out _ HB1.out)):p:=h
theorem fo121 {p:Prop} (h:p:=by
 clear hl2 hke;go_wp2_with fail;refine HP.out.mono ?_;rintro e w1 ⟨rfl,b1⟩;go_wp2_with fail;go_ret;exact ZJ rfl (bon HB.out b1)):p:=h
theorem fo122 {p:Prop} (h:p:=by
 have:=Y5 (Tryz.strings_IndexByte t 10 w);rw [show(10:Int).toNat.toUInt8=10 from rfl,hx] at this;exact this):p:=h
theorem fo123 {p:Prop} (h:p:=by
 go_in;go_wp2_with fail;refine(HP.out _ _ (by simp)).mono ?_;rintro e w2 ⟨rfl,b2⟩;go_wp2_with fail;go_ret;exact ZJ rfl (bon (B0.out.alloc (by simp) _) b2)):p:=h
theorem fo124 {p:Prop} (h:p:=by
 obtain⟨A9,c9,hv9, -⟩:=HP2.out.rd.blk;exact(hv9.grown (zf (b:=w.heap.size) (ptC y)) (by have:=HP2.out.o1;omega)).cells 1 _ rfl):p:=h
theorem fo125 {p:Prop} (h:p:=by
 have HY:Hid (vRqs [] l=0):=hD (by rw [HV.out,List.drop_eq_nil_of_le (by omega),vRqs]);go_wp2_with fail;go_ret;exact yz HY.out HB.out):p:=h
theorem fo126 {p:Prop} (h:p:=by
 have hp':tmps[p]?.getD undef= .pointer (some ⟨b,0,none⟩):=by simpa using hp
 simp [results,h,hp',asAddr,run_loadVar_mid w b 0 ty cs d hc hu hd hi]):p:=h
theorem fo127 {p:Prop} (h:p:=by
 go_wp2_with fail;refine(zep HB.out).mono ?_;rintro e w2 ⟨rfl,b2⟩;go_wp2_with fail;go_ret;exact ZJ HE.out.symm b2):p:=h
theorem fo128 {p:Prop} (h:p:=by
 clear hs;go_in;go_wp2_with fail;refine H.out.mono ?_;rintro e w' ⟨rfl,h⟩;have HH:=hD h;clear h;go_wp2_with fail;go_ret;exact⟨rfl,HH.out⟩):p:=h
theorem fo129 {p:Prop} (h:p:=by
 simp only [strC,List.map_map];refine List.map_congr_left (fun x _=> ?_);show Value.string x=Value.string ⟨x.data.toList.toArray⟩;rw [zad]):p:=h
theorem fo130 {p:Prop} (h:p:=by
 simp only [qk4,qk5,qk6,zcG,qd1,qd2,qd3,qd4,qd5,qd6] at h9;exact h9):p:=h
theorem fo131 {p:Prop} (h:p:=by
 have e:=HKn.out;have e0:=HL11.out;have e1:=HL12.out;have e2:=HL13.out;rw [e2.1,e2.2,e1.1,e1.2,e0.1,e0.2,e];rfl):p:=h
theorem fo132 {p:Prop} (h:p:=by
 simp [IntKind.wrap,IntKind.min,IntKind.max,IntKind.signed,IntKind.bits];omega):p:=h
theorem fo133 {p:Prop} (h:p:=by
 exact zS Tryz.results85 _ _ w.heap.size (Q06.tokC Q06.tok0) _ rfl (HT2.out.sets (Q06.tokC Q06.tok0) rfl).range Tryz.underlying117 rfl (zdg _)):p:=h
theorem fo134 {p:Prop} (h:p:=by
 have nk8:=hk;clear hk;exfalso;have h:=HH.out;unfold Z5 at h;simp only [Bool.and_eq_true,decide_eq_true_eq] at h;omega):p:=h
theorem fo135 {p:Prop} (h:p:=by
 clear hr;go_in;go_wp2_with fail;go_ret;exact yz HY.out B0.out):p:=h
theorem fo136 {p:Prop} (h:p:=by
 exact en_eta e _ _ _ hk rfl (by
  by_cases hr:e.rs= []
  · exact hr
  · exact absurd (.inr (.inr hr)) h2)):p:=h
theorem fo137 {p:Prop} (h:p:=by
 injection h with h;injection h with h;subst h;show(0:Int)≤_;omega):p:=h
theorem fo138 {p:Prop} (h:p:=by
 simp only [List.mem_cons,List.not_mem_nil,or_false] at hx;rcases hx with rfl|rfl
 · simp [Ya]
 · omega):p:=h
theorem fo139 {p:Prop} (h:p:=by
 go_wp2_with fail;go_ret;exact⟨congrArg (fun b=>Ending.returned (.bool b)) (HN.out HZ.out).symm,rfl⟩):p:=h
theorem fo140 {p:Prop} (h:p:=by
 by_cases h1:(s[k].toNat:Int)=34
 · left;simp [h1]
 · right;exact⟨by simp [h1],by simp;omega⟩):p:=h
theorem fo141 {p:Prop} (h:p:=by
 have ha':graphic a 64=false:=by simpa using ha
 simp [ha']):p:=h
theorem fo142 {p:Prop} (h:p:=by
 clear he hop0;go_wp2_with fail;go_ret;exact yz HY.out (HB.out.alloc HB.out.size _)):p:=h
theorem fo143 {p:Prop} (h:p:=by
 unfold isKind at h0;unfold Z5;rw [h0,decide_eq_true h1,decide_eq_true h2,decide_eq_true h3,decide_eq_true h4];rfl):p:=h
theorem fo144 {p:Prop} (h:p:=by
 go_in;go_wp2_with fail;refine HG.out.mono ?_;rintro e w2 ⟨rfl,rfl⟩;go_wp2_with fail;go_ret;exact⟨rfl,rfl⟩):p:=h
theorem fo145 {p:Prop} (h:p:=by
 clear h h2 h3 h4;go_in;go_wp2_with fail;go_ret;exact⟨rfl,HN.out,HGr.out,by simp⟩):p:=h
theorem fo146 {p:Prop} (h:p:=by
 obtain rfl:l= []:=List.length_eq_zero_iff.1 (by omega);rw [toks] at h;injection h with h;subst h;exact ha):p:=h
theorem fo147 {p:Prop} (h:p:=by
 rcases h.2 with⟨h1,h2⟩|⟨g,cap,cur,hv,_⟩
 · exact⟨none,0,by rw [h1,h2]⟩
 · exact⟨_,_,hv⟩):p:=h
theorem fo148 {p:Prop} (h:p:=by
 go_wp2_with fail;go_ret2;exact⟨zeN (by rw [HF.out,if_neg (by omega)]),⟨_,rfl⟩⟩):p:=h
theorem fo149 {p:Prop} (h:p:=by
 have HV:=hD (HV7.out hp);clear hp;go_wp2_with fail;go_ret;exact yz HV.out (zu HB0.out)):p:=h
theorem fo150 {p:Prop} (h:p:=by
 go_in;go_wp2;all_goals (go_ret;refine⟨YN ?_,rfl⟩;rw [Bool.eq_iff_iff];simp [zY];try omega)):p:=h
theorem fo151 {p:Prop} (h:p:=by
 refine tkr 23 rfl (fun K hK=> ?_);have e0:=HR.out.cells 0 _ rfl;have e1:=HR.out.cells 1 _ rfl;have e2:=HR.out.cells 2 _ rfl;have e3:=HR.out.cells 3 _ rfl;have f0:=HR.out.free 0 (by simp);have f1:=HR.out.free 1 (by simp);have f2:=HR.out.free 2 (by simp);have f3:=HR.out.free 3 (by simp);have lz:=HR.out.lt;go_simp;change K _ (v4.setCells (w.heap.size+1) 0 [.string ⟨(zn k).toArray⟩, .bool (zt k), .bool (zx k), .bool (zD k)]);have HB:=hD (zh HB.out (zf (b:=w.heap.size+1) [.string ⟨(zn k).toArray⟩, .bool (zt k), .bool (zx k), .bool (zD k)]) (by omega));have HO:=hD (HO.out.grown (zf (b:=w.heap.size+1) [.string ⟨(zn k).toArray⟩, .bool (zt k), .bool (zx k), .bool (zD k)]) (by omega));have HVF:=hD (HVF.out.grown (zf (b:=w.heap.size+1) [.string ⟨(zn k).toArray⟩, .bool (zt k), .bool (zx k), .bool (zD k)]) (by omega));have HR:=hD (HR.out.sets [.string ⟨(zn k).toArray⟩, .bool (zt k), .bool (zx k), .bool (zD k)] rfl);clear e0 e1 e2 e3 f0 f1 f2 f3 lz;generalize v4.setCells (w.heap.size+1) 0 [.string ⟨(zn k).toArray⟩, .bool (zt k), .bool (zx k), .bool (zD k)]=v5 at HB HO HR HVF⊢;refine hK.out _ _ ⟨HO.out.cells 1 _ rfl,HO.out.cells 2 _ rfl,HO.out.cells 3 _ rfl,HVF.out.cells 0 _ rfl,HVF.out.cells 1 _ rfl,HVF.out.cells 2 _ rfl,HVF.out.cells 3 _ rfl⟩ (fun hHeld=> ?_);clear hK K;try simp only [Act.put,qk1,qk2,qk3,qk4,qk5,qk6]
 refine tkr 24 rfl (fun K hK=> ?_);go_simp;refine hK.out _ _ hHeld (fun hHeld=> ?_);clear hK K;try simp only [Act.put,qk1,qk2,qk3,qk4,qk5,qk6]
 refine wpAnyH_done (by kernel_rfl) ?_ _;refine NoPanic.normal ?_;go_wp2_with fail;refine bodyPost_ret (v:= .tuple #[.agg #[.string ⟨(zn k).toArray⟩, .bool (zt k), .bool (zx k), .bool (zD k)], .bool false]) ?_ rfl ⟨by rw [hQ],HB.out⟩;exact fo187):p:=h
theorem fo152 {p:Prop} (h:p:=by
 have HSz:Hid ((zH [a]).length+(zI k [a]).length+(zA k [a]).length≤1048576):=hD (zaK HCut.out HLen.out hss);clear HF6 HBg;generalize (v1.alloc (.cells #[.int .i64 (k:Int), .string ⟨a.toArray⟩, .string ⟨#[]⟩, .string ⟨#[]⟩] 124))=wv at HX2 HR HB HX6⊢;generalize v1.heap.size=b6 at HX6⊢;have HFm:=hD (YI k hk1 hk6 (zH [a]) (zI k [a]) (zA k [a]) wv HSz.out);go_wp2_with (refine wpList_load_mid rfl 124 _ rfl b6 0 rfl [.int .i64 (k:Int), .string ⟨(zH [a]).toArray⟩, .string ⟨(zI k [a]).toArray⟩, .string ⟨(zA k [a]).toArray⟩] _ HX6.out.range Tryz.underlying124 rfl Za ?_);refine HFm.out.mono ?_;rintro e w8 ⟨hyes,hno,hs⟩;have HX6:=hD (HX6.out.below hs);have HX2:=hD (HX2.out.below hs);have HB:=hD (bon HB.out hs);have HR:=hD (HR.out.below hs);clear hs;cases hq:zO k (zH [a]) (zI k [a]) (zA k [a]) with
 |false=>exact fo184
 |true=>
  obtain rfl:=hyes hq;clear hno hyes;cases ht:(yo k (zH [a]) (zI k [a]) (zA k [a]) == s.data.toList) with
  |false=>
   have HK:Hid (kindOk k s.data.toList=false):=hD (by rw [Zj hk1 hk6 HCut.out,ht];simp);have t1:(yo k (zH [a]) (zI k [a]) (zA k [a]) == s.toList)=false:=by rw [Lib.toList_data];exact ht
   clear ht hq;exact fo6
  |true=>exact fo20):p:=h
theorem fo153 {p:Prop} (h:p:=by
 have HSz:Hid ((zH []).length+(zI k []).length+(zA k []).length≤1048576):=hD (zaK HCut.out HLen.out hss);clear HF6 HBg;generalize (v1.alloc (.cells #[.int .i64 (k:Int), .string ⟨#[]⟩, .string ⟨#[]⟩, .string ⟨#[]⟩] 124))=wv at HX2 HR HB HX6⊢;generalize v1.heap.size=b6 at HX6⊢;have HFm:=hD (YI k hk1 hk6 (zH []) (zI k []) (zA k []) wv HSz.out);go_wp2_with (refine wpList_load_mid rfl 124 _ rfl b6 0 rfl [.int .i64 (k:Int), .string ⟨(zH []).toArray⟩, .string ⟨(zI k []).toArray⟩, .string ⟨(zA k []).toArray⟩] _ HX6.out.range Tryz.underlying124 rfl Za ?_);refine HFm.out.mono ?_;rintro e w8 ⟨hyes,hno,hs⟩;have HX6:=hD (HX6.out.below hs);have HX2:=hD (HX2.out.below hs);have HB:=hD (bon HB.out hs);have HR:=hD (HR.out.below hs);clear hs;cases hq:zO k (zH []) (zI k []) (zA k []) with
 |false=>exact fo184
 |true=>
  obtain rfl:=hyes hq;clear hno hyes;cases ht:(yo k (zH []) (zI k []) (zA k []) == s.data.toList) with
  |false=>
   have HK:Hid (kindOk k s.data.toList=false):=hD (by rw [Zj hk1 hk6 HCut.out,ht];simp);have t1:(yo k (zH []) (zI k []) (zA k []) == s.toList)=false:=by rw [Lib.toList_data];exact ht
   clear ht hq;exact fo6
  |true=>exact fo24):p:=h
theorem fo154 {p:Prop} (h:p:=by
 generalize v1.heap.size=b6 at HX6⊢;have HFm:=hD (YI k hk1 hk6 (zH (a::b::c::t)) (zI k (a::b::c::t)) (zA k (a::b::c::t)) wv HSz.out);go_wp2_with (refine wpList_load_mid rfl 124 _ rfl b6 0 rfl [.int .i64 (k:Int), .string ⟨(zH (a::b::c::t)).toArray⟩, .string ⟨(zI k (a::b::c::t)).toArray⟩, .string ⟨(zA k (a::b::c::t)).toArray⟩] _ HX6.out.range Tryz.underlying124 rfl Za ?_);refine HFm.out.mono ?_;rintro e w8 ⟨hyes,hno,hs⟩;have HX6:=hD (HX6.out.below hs);have HX2:=hD (HX2.out.below hs);have HB:=hD (bon HB.out hs);have HR:=hD (HR.out.below hs);clear hs;cases hq:zO k (zH (a::b::c::t)) (zI k (a::b::c::t)) (zA k (a::b::c::t)) with
 |false=>exact fo184
 |true=>
  obtain rfl:=hyes hq;clear hno hyes;cases ht:(yo k (zH (a::b::c::t)) (zI k (a::b::c::t)) (zA k (a::b::c::t)) == s.data.toList) with
  |false=>
   have HK:Hid (kindOk k s.data.toList=false):=hD (by rw [Zj hk1 hk6 HCut.out,ht];simp);have t1:(yo k (zH (a::b::c::t)) (zI k (a::b::c::t)) (zA k (a::b::c::t)) == s.toList)=false:=by rw [Lib.toList_data];exact ht
   clear ht hq;exact fo6
  |true=>exact fo16):p:=h
theorem fo155 {p:Prop} (h:p:=by
 generalize v1.heap.size=b6 at HX6⊢;have HFm:=hD (YI k hk1 hk6 (zH [a,b]) (zI k [a,b]) (zA k [a,b]) wv HSz.out);go_wp2_with (refine wpList_load_mid rfl 124 _ rfl b6 0 rfl [.int .i64 (k:Int), .string ⟨(zH [a,b]).toArray⟩, .string ⟨(zI k [a,b]).toArray⟩, .string ⟨(zA k [a,b]).toArray⟩] _ HX6.out.range Tryz.underlying124 rfl Za ?_);refine HFm.out.mono ?_;rintro e w8 ⟨hyes,hno,hs⟩;have HX6:=hD (HX6.out.below hs);have HX2:=hD (HX2.out.below hs);have HB:=hD (bon HB.out hs);have HR:=hD (HR.out.below hs);clear hs;cases hq:zO k (zH [a,b]) (zI k [a,b]) (zA k [a,b]) with
 |false=>exact fo184
 |true=>
  obtain rfl:=hyes hq;clear hno hyes;cases ht:(yo k (zH [a,b]) (zI k [a,b]) (zA k [a,b]) == s.data.toList) with
  |false=>
   have HK:Hid (kindOk k s.data.toList=false):=hD (by rw [Zj hk1 hk6 HCut.out,ht];simp);have t1:(yo k (zH [a,b]) (zI k [a,b]) (zA k [a,b]) == s.toList)=false:=by rw [Lib.toList_data];exact ht
   clear ht hq;exact fo6
  |true=>exact fo19):p:=h
theorem fo156 {p:Prop} (h:p:=by
 refine hK.out _ _ hC (fun hHeld=> ?_);clear hK K;try simp only [Act.put,qk1,qk2,qk3]
 refine tkr 15 rfl (fun K hK=> ?_);go_simp;go_at_call 236;refine(zaX g s1 _ (HS1.out.2) HL1.out (fun t ht q W hW=>Yp q ⟨t,false⟩ W hW (Nat.le_trans (Nat.le_trans ht HL1.out) (by decide)))).mono ?_;rintro e v3 ⟨x2,rfl,hx2,hst2,hss2⟩;rw [show yx tkSg s1=(t2,s2) from HT2.out] at hss2 hx2;simp only at hss2 hx2;have HX2:=hD hx2;clear hx2;have hb4o:=HX.out.lt;have hz:=hss2.1.size;have HS2:Hid (SsTo w g s2 v3):=hD (HS1.out.trans hss2);have HV:Hid (Vr v3 w.heap.size [.int .i64 0, .int .i64 0, .int .i64 0, .int .i64 0, .string ⟨#[]⟩, .slice none 0 0, .int .i64 0, .int .i64 0, .int .i64 0, .int .i64 0, .string ⟨#[]⟩, .string ⟨#[]⟩]):=hD (HV.out.grown hss2.1 (by omega));have HK:Hid (yX (w.heap.size+1) v0 v3):=hD (HK.out.trans (zm hss2.1 (by omega)));have hC:=HCW.out v3 HK.out;have hsv3:v2.heap.size≤v3.heap.size:=hz;have HX:Hid (Vr v3 b4 [.int .i64 0, .int .i64 0, .int .i64 0, .int .i64 0, .string ⟨#[]⟩, .slice none 0 0, .int .i64 0, .int .i64 0, .int .i64 0, .int .i64 0, .string ⟨#[]⟩, .string ⟨#[]⟩]):=hD (HX.out.grown hss2.1 (by omega));clear hb4;have hb4:=HX.out.lt;have HR2:=hD (Yr (a:=w.heap.size+1) (b4:=b4) hst2 (by have:=HV.out.lt;omega) (Or.inl (by omega)));clear hst2;clear hss2 hz hb4o;go_wp2_with fail;refine hK.out _ _ hC (fun hHeld=> ?_);clear hK K;try simp only [Act.put,qk1,qk2,qk3]
 refine takes [16] ?_;exact fo4):p:=h
theorem fo157 {p:Prop} (h:p:=by
 first|exact HC3.out _ (Below.drew ‹Below wr.heap.size wr _›)|exact HC3.out _ ‹Below wr.heap.size wr _› |exact HC3.out _ (Below.drew (bon ‹Below wr.heap.size wr _› (za _ _)))|exact HC3.out _ (bon ‹Below wr.heap.size wr _› (za _ _))|exact HCg3.out _ _ (bon ‹Below wr.heap.size wr _› (za _ _)) ‹_› |exact HCs.out _ _ _ (bon ‹Below wr.heap.size wr _› (za _ _)) ‹_›):p:=h
theorem fo158 {p:Prop} (h:p:=by
 refine hK.out _ _ ?_ (fun hHeld=> ?_)
 · exact fo5
 clear hK K;try simp only [Act.put,qk1,qk2,qk3]
 refine wpAnyH_ready (rs:= [12]) (by kernel_rfl) (by simp) ?_;refine AllReadyH.cons (o:=_) rfl (fun K hK=> ?_) ?_
 · go_simp;go_at_call 150;refine(HNum.out _ _ (by assumption) (by first|assumption|exact Below.drew ‹Below wr.heap.size wr _›)).mono ?_;rintro e w2 ⟨rfl,b2⟩;have x3:=(HC.out _ b2).2.2.2;go_wp2_with fail;refine hK.out _ _ ?_ (fun hHeld=> ?_)
   · exact fo5
   clear hK K;try simp only [Act.put,qk1,qk2,qk3]
   refine takes [18] ?_;exact fo185
 exact AllReadyH.nil):p:=h
theorem fo159 {p:Prop} (h:p:=by
 by_cases h4:s.size≤n
 · have c4:(s.size:Int)≤(n:Int):=by omega
   have HF:Hid (graphic s.data.toList n=true):=hD (by unfold graphic;rw [hA,decide_eq_true h0,decide_eq_true (by simpa using h4)];rfl);clear hA h0;exact fo44
 · have c4:¬((s.size:Int)≤(n:Int)):=by omega
   have HF:Hid (graphic s.data.toList n=false):=hD (by unfold graphic;rw [decide_eq_false (p:=s.data.toList.length≤n) (by simpa using h4),Bool.and_false]);clear hA h0;exact fo44):p:=h
theorem fo160 {p:Prop} (h:p:=by
 have hv1:(v == 0)=false:=by simpa using hv
 have hv2:(v != 0)=true:=by simpa using hv
 refine HVal.mono ?_;rintro e w3 ⟨rfl,b3⟩;have B4:=hD (bon B3.out b3);have HR4:=hD (HR3.out.below b3);clear b3 hv;obtain⟨hlt6,r0,r1,r2,s0,s1,s2⟩:=HR4.out;go_wp2_with fail;exact bodyPost_ret (v:= .tuple #[.agg #[.int .i64 0, .int .i64 0, .slice none 0 0], .int .i64 2]) (by simp [results,Tryz.results94,go_sem,r0,r1,r2]) rfl (YO HY.out (((B4.out.setCell (Nat.le_refl _) _).setCell (Nat.le_refl _) _).setCell (Nat.le_refl _) _))):p:=h
theorem fo161 {p:Prop} (h:p:=by
 clear b1 a0 a1 a2 a3 a4 a5;go_wp2_with (at_builtin;refine wpList_append_own _ rfl _ _ 32 rfl w.heap.size 9 i0 _ 1 16 Tryz.underlying32 HI.out HZ0.out HZ1.out HZ2.out rfl (by decide) _ _ _ rfl (HO1.out.alloc _) ⟨w1.heap.size,0,none⟩ 1 1 [.string ⟨(zM x).toArray⟩] rfl rfl (z8 _ _ _ _ rfl) (by simp [Value.oneCell']) (by simp [maxLen];omega) (by omega) (by simp;omega) ?_);intro v' w2 hown' hgrow _;have HO2:Hid (w2.ownsRow w.heap.size 9 1 v' (k+1) (strC ((l.take (k+1)).map zM))):=hD (fo41);exact fo34):p:=h
theorem fo162 {p:Prop} (h:p:=by
 refine HVl.mono ?_;rintro e w4 ⟨rfl,b4⟩;have B5:=hD (bon B4.out b4);have HR5:=hD (HR4.out.below b4);clear b4 p0 p1 p2 f0 f1 f2 hv hq;obtain⟨hlt6,r0,r1,r2,s0,s1,s2⟩:=HR5.out;go_wp2_with fail;exact bodyPost_ret (v:= .tuple #[.agg #[.int .i64 0, .int .i64 0, .slice none 0 0], .int .i64 2]) (by simp [results,Tryz.results94,go_sem,r0,r1,r2]) rfl (YO HY.out (((B5.out.setCell (Nat.le_refl _) _).setCell (Nat.le_refl _) _).setCell (Nat.le_refl _) _))):p:=h
theorem fo163 {p:Prop} (h:p:=by
 rintro e wq ⟨rfl,hwq⟩;replace hwq:=hwq.symm;subst hwq;cases hp:isSv x.who with
 |false=>exact fo18
 |true=>exact fo68):p:=h
theorem fo164 {p:Prop} (h:p:=by
 have HJ:Hid (Calls Tryz.prog 79 #[.slice (some ⟨g,0,none⟩) (3+3) cap, .string ⟨#[32]⟩] v2 (zi (Lib.join (yD x++zq x) [32]) v2)):=hD (YX w v2 g (3+3) cap _ (by rw [HL.out];rfl) (by rw [HL.out];exact HO.out) (by rw [HL.out];simp) (Nat.le_trans HLen.out (by omega)) (by rw [HL.out];simp));exact fo29):p:=h
theorem fo165 {p:Prop} (h:p:=by
 by_cases h0:0≤n
 · by_cases h1:n<12
   · have H:Hid (isSv n=true):=hD (by simp [isSv,h0,h1]);exact fo23
   · have H:Hid (isSv n=false):=hD (by simp [isSv,h1]);exact fo23
 · have H:Hid (isSv n=false):=hD (by simp [isSv,h0]);exact fo23):p:=h
theorem fo166 {p:Prop} (h:p:=by
 by_cases h0:0≤n
 · by_cases h1:n<6
   · have H:Hid (isCl n=true):=hD (by simp [isCl,h0,h1]);exact fo23
   · have H:Hid (isCl n=false):=hD (by simp [isCl,h1]);exact fo23
 · have H:Hid (isCl n=false):=hD (by simp [isCl,h0]);exact fo23):p:=h
theorem fo167 {p:Prop} (h:p:=by
 have hq:¬(9223372036854775807<(Lib.join (yD x++zq x) [32]).length+1):=by have:=HLen.out;omega
 go_wp2_with fail;refine HJ.out.mono ?_;rintro e w9 ⟨rfl,hs⟩;have HB:=hD (bon HB.out hs);clear hs;go_wp2_with fail;go_ret;exact ret_line HB.out):p:=h
theorem fo168 {p:Prop} (h:p:=by
 by_cases h0:0≤n
 · by_cases h1:n≤2147483647
   · have H:=hD (num_yes h0 h1);exact fo23
   · have H:=hD (num_no (n:=n) (by omega));exact fo23
 · have H:=hD (num_no (n:=n) (by omega));exact fo23):p:=h
theorem fo169 {p:Prop} (h:p:=by
 rintro e w4 ⟨rfl,hs⟩;have HX:=hD (HX.out.below hs);have HB:=hD (bon HB.out hs);clear hs;cases ho:opOk x.text with
 |false=>exact fo39
 |true=>exact fo118):p:=h
theorem fo170 {p:Prop} (h:p:=by
 refine wpAnyH_done (by kernel_rfl) ?_ _;refine NoPanic.normal ?_;go_wp2_with fail;go_ret;exact zz HF.out HB.out):p:=h
theorem fo171 {p:Prop} (h:p:=by
 have e0:s=⟨#[]⟩:=by rw [←zad s,h0]
 have HF:Hid (graphic s.data.toList n=false):=hD (by rw [h0];rfl);subst e0;clear hA h0;exact fo44):p:=h
theorem fo172 {p:Prop} (h:p:=by
 clear hK K;try simp only [Act.put,qk1,qk2,qk3,qk4,qk5,qk6]
 refine takes [5,6,7,8,9,10,11,12,13,14,15,16,17,18,19,20,21,22,23] ?_;exact fo61):p:=h
theorem fo173 {p:Prop} (h:p:=by
 go_wp2_with fail;go_roundw
 case rel=>exact⟨_,cnt4,HG.out,HW7.out,left_step HN.out HK.out⟩
 case measure=>rw [HG.out.left_eq,HGo.out.left_eq];exact HLt.out):p:=h
theorem fo174 {p:Prop} (h:p:=by
 rintro e wq ⟨rfl,hwq⟩;replace hwq:=hwq.symm;subst hwq;cases hp:isSv x.who with
 |false=>exact fo18
 |true=>exact fo28):p:=h
theorem fo175 {p:Prop} (h:p:=by
 exact zS Tryz.results267 _ _ w.heap.size (hoC x) _ rfl ((HVz.out true).sets (hoC x) rfl).range Tryz.underlying147 rfl (zaq x)):p:=h
theorem fo176 {p:Prop} (h:p:=by
 exact zS Tryz.results237 _ _ w.heap.size (deC x) _ rfl ((HVz.out true).sets (deC x) rfl).range Tryz.underlying100 rfl (zao x)):p:=h
theorem fo177 {p:Prop} (h:p:=by
 exact zS Tryz.results235 _ _ w.heap.size (stC x) _ rfl ((HVz.out true).sets (stC x) rfl).range Tryz.underlying97 rfl (Yx x)):p:=h
theorem fo178 {p:Prop} (h:p:=by
 exact zS Tryz.results189 _ _ w.heap.size (snC x) _ rfl ((HVz.out true).sets (snC x) rfl).range Tryz.underlying36 rfl (YZ x)):p:=h
theorem fo179 {p:Prop} (h:p:=by
 exact zS Tryz.results183 _ _ w.heap.size (sgC x) _ rfl ((HVz.out true).sets (sgC x) rfl).range Tryz.underlying29 rfl (zbg x)):p:=h
theorem fo180 {p:Prop} (h:p:=by
 exact zS Tryz.results125 _ _ w.heap.size (msC x) _ rfl ((HVz.out true).sets (msC x) rfl).range Tryz.underlying38 rfl (zT x)):p:=h
theorem fo181 {p:Prop} (h:p:=by
 have HF:Hid (zy E x=false):=hD (by rw [HW.out];simp [ho]);clear ho;go_wp2_with fail;go_ret;exact zz HF.out HB.out):p:=h
theorem fo182 {p:Prop} (h:p:=by
 go_wp2_with fail;go_ret;exact⟨YN HF.out.symm,rfl⟩):p:=h
theorem fo183 {p:Prop} (h:p:=by
 have e:=HKn.out;have e0:=HL11.out;have e1:=HL12.out;rw [e1.1,e1.2,e0.1,e0.2,e];rfl):p:=h
theorem fo184 {p:Prop} (h:p:=by
 obtain rfl:=hno hq;have HK:Hid (kindOk k s.data.toList=false):=hD (by rw [Zj hk1 hk6 HCut.out,hq];rfl);clear hq hyes hno;exact fo6):p:=h
theorem fo185 {p:Prop} (h:p:=by
 refine wpAnyH_ready (rs:= [19]) (by kernel_rfl) (by simp) ?_;refine AllReadyH.cons (o:=_) rfl (fun K hK=> ?_) ?_
 · go_simp;have x3:=(HC.out _ (bon b2 (za w2 (.cells #[.int .i64 (numR a), .int .i64 (numR b), .string ⟨d.toArray⟩] 191)))).2.2.2;exact fo2
 exact AllReadyH.nil):p:=h
theorem fo186 {p:Prop} (h:p:=by
 have HW:Hid (zy E x=(isSv x.who &&(true))):=hD (by unfold zy;rw [HH.out,HQ.out];simp [whoOk,zbi,ofCl,hk]);rw [hk] at c1;clear hk HH HQ;go_wp2_with fail;refine(YE x.who w3).mono ?_;exact fo163):p:=h
theorem fo187 {p:Prop} (h:p:=by
 exact zF Tryz.results202 _ _ (w.heap.size+1) [.string ⟨(zn k).toArray⟩, .bool (zt k), .bool (zx k), .bool (zD k)] _ _ rfl rfl HR.out.range Tryz.underlying185 rfl (by kernel_rfl)):p:=h
theorem ja {p:Prop} (h:p:=by omega):p:=h
theorem jb {p:Prop} (h:p:=by rw [HX.out];rfl):p:=h
theorem jc {p:Prop} (h:p:=by kernel_rfl):p:=h
theorem jd {p:Prop} (h:p:=by simp):p:=h
theorem je {p:Prop} (h:p:=by assumption):p:=h
theorem jf {p:Prop} (h:p:=by decide):p:=h
theorem jg {p:Prop} (h:p:=by simp;omega):p:=h
theorem jh {p:Prop} (h:p:=by simpa [List.forall_mem_cons] using hI):p:=h
theorem ji {p:Prop} (h:p:=by unfold zy;rw [HH.out,HQ.out];simp [whoOk,zbi,ofCl,hk]):p:=h
theorem jk {p:Prop} (h:p:=by show w.heap.size+1≠b3;have:=HZ1.out;omega):p:=h
theorem jl {p:Prop} (h:p:=by show w.heap.size≠b3;have:=HZ1.out;omega):p:=h
theorem jm {p:Prop} (h:p:=by show w.heap.size≤b3;have:=HZ1.out;omega):p:=h
theorem jo {p:Prop} (h:p:=by show w.heap.size< _;omega):p:=h
theorem jq {p:Prop} (h:p:=by rfl):p:=h
theorem jr {p:Prop} (h:p:=by rw [size_mk];omega):p:=h
theorem jv {p:Prop} (h:p:=by simp [Value.oneCell']):p:=h
theorem jw {p:Prop} (h:p:=by simp [maxLen];omega):p:=h
theorem jy {p:Prop} (h:p:=by rw [hv];exact⟨HX.out.cells 0 _ rfl,HX.out.cells 1 _ rfl,HX.out.cells 3 _ rfl,HX.out.cells 6 _ rfl,HX.out.range⟩):p:=h
theorem jaa {p:Prop} (h:p:=by simpa [List.forall_mem_cons] using h.1):p:=h
theorem jab {p:Prop} (h:p:=by have:=HO.out;rwa [List.take_length] at this):p:=h
theorem jac {p:Prop} (h:p:=by simpa using h):p:=h
theorem jad {p:Prop} (h:p:=by rw [hv];exact⟨HX.out.cells 3 _ rfl,HX.out.cells 4 _ rfl,HX.out.cells 5 _ rfl,HX.out.cells 6 _ rfl⟩):p:=h
theorem jae {p:Prop} (h:p:=by show w.heap.size≠g;omega):p:=h
theorem jaf {p:Prop} (h:p:=by have h9:=Zq.len s0;rw [ht1] at h9;exact Nat.le_trans h9 HL0.out):p:=h
theorem jag {p:Prop} (h:p:=by have:=HA.out;rwa [List.take_length] at this):p:=h
theorem jah {p:Prop} (h:p:=by first|assumption|exact Below.drew ‹Below wr.heap.size wr _›):p:=h
theorem jai {p:Prop} (h:p:=by first|assumption|exact yF ‹Bx _ _ _ _›):p:=h
theorem jaj {p:Prop} (h:p:=by simp [ByteArray.size];omega):p:=h
theorem jak {p:Prop} (h:p:=by have:=HZ1.out;omega):p:=h
theorem jal {p:Prop} (h:p:=by first|assumption|exact Below.drew ‹Below w.heap.size w _› |exact za w _|exact(za w _).drew):p:=h
theorem jam {p:Prop} (h:p:=by have:=HP2.out.o1;have:=HP2.out.o2;omega):p:=h
theorem jan {p:Prop} (h:p:=by have:=Zb szS l t ht;unfold szS at this hz;omega):p:=h
theorem jao {p:Prop} (h:p:=by simp [yn,hk]):p:=h
theorem jap {p:Prop} (h:p:=by have h5:=HK5.out;simp [zH,zI,zA,h5]):p:=h
theorem jaq {p:Prop} (h:p:=by simp [results,Tryz.results104,go_sem,r0,r1,r2]):p:=h
theorem jar {p:Prop} (h:p:=by unfold zK zaP;rw [hv];simp only [];cases yt yJ n (List.drop k s.data.toList) <;> rfl):p:=h
theorem jas {p:Prop} (h:p:=by first|assumption|exact Below.drew ‹Below w.heap.size w _›):p:=h
theorem jat {p:Prop} (h:p:=by show g<w.heap.size+2;omega):p:=h
theorem jau {p:Prop} (h:p:=by rw [List.size_toArray,Ye,zeA];omega):p:=h
theorem jav {p:Prop} (h:p:=by show w2.heap.size≠g;omega):p:=h
theorem jaw {p:Prop} (h:p:=by first|exact b3|exact b3.drew|exact b3.alloc b3.size _|exact(b3.alloc b3.size _).drew):p:=h
theorem jax {p:Prop} (h:p:=by simpa [List.forall_mem_cons,Sg.ok] using hok):p:=h
theorem jay {p:Prop} (h:p:=by simp [zq,hk]):p:=h
theorem jaz {p:Prop} (h:p:=by have:=Sl.rd_below hok.2.2.2.2.2 hb;unfold Sl.rd at this;rwa [zcd] at this):p:=h
theorem jba {p:Prop} (h:p:=by have h9:=zcr s0;rw [ht1] at h9;have h8:=HL0.out;simp only at h9;omega):p:=h
theorem jbb {p:Prop} (h:p:=by unfold yl;rw [←hy]):p:=h
theorem jbc {p:Prop} (h:p:=by have h9:=(Yd ag_sg).len s1;rw [ht2] at h9;exact Nat.le_trans h9 HL1.out):p:=h
theorem jbd {p:Prop} (h:p:=by have:=Sl.rd_below hok.2.1 hb;unfold Sl.rd at this;rwa [zcd] at this):p:=h
theorem jbe {p:Prop} (h:p:=by simp only [List.length_append];omega):p:=h
theorem jbf {p:Prop} (h:p:=by first|exact .inl hk|exact .inr hk):p:=h
theorem jbg {p:Prop} (h:p:=by rw [HX.out];exact h):p:=h
theorem jbh {p:Prop} (h:p:=by rw [hs0];exact Nat.le_trans (zbM 1 s) hl):p:=h
theorem jbi {p:Prop} (h:p:=by rw [List.length_drop];omega):p:=h
theorem jbj {p:Prop} (h:p:=by rw [hv];exact⟨HX.out.cells 0 _ rfl,HX.out.range,HY.out _ HBr.out⟩):p:=h
theorem jbk {p:Prop} (h:p:=by have:=Zb Sg.sz l x hx;omega):p:=h
theorem jbl {p:Prop} (h:p:=by rw [HY.out];rfl):p:=h
theorem jbm {p:Prop} (h:p:=by rw [HE.out,hjn,Nat.sub_self,yt];simp):p:=h
theorem jbn {p:Prop} (h:p:=by have h5:=HK5.out;subst h5;rfl):p:=h
theorem jbo {p:Prop} (h:p:=by have:=h.o1;have:=h.o2;omega):p:=h
theorem jbp {p:Prop} (h:p:=by simpa [List.forall_mem_cons,Sg.ok] using hI):p:=h
theorem jbq {p:Prop} (h:p:=by have:=HQ1.out;have:=HPm.out.o2;show g<w11.heap.size;omega):p:=h
theorem jbr {p:Prop} (h:p:=by unfold inB;rw [any_take l _ k hlt,hs];simpa [inB] using HN.out):p:=h
theorem jbs {p:Prop} (h:p:=by rw [hv];exact hC):p:=h
theorem jbt {p:Prop} (h:p:=by rw [←HTt.out];exact HS2.out):p:=h
theorem jbu {p:Prop} (h:p:=by rw [←hn];exact HTn.2):p:=h
theorem jbv {p:Prop} (h:p:=by simpa [Lib.byteCells] using hl):p:=h
theorem jbw {p:Prop} (h:p:=by simpa using hg):p:=h
theorem jbx {p:Prop} (h:p:=by show w1.heap.size≠g;omega):p:=h
theorem jby {p:Prop} (h:p:=by show w.heap.size≤w1.heap.size;omega):p:=h
theorem jbz {p:Prop} (h:p:=by show w1.heap.size≠w.heap.size;omega):p:=h
theorem jca {p:Prop} (h:p:=by rw [List.length_take];omega):p:=h
theorem jcb {p:Prop} (h:p:=by unfold yM;rw [←hp,if_pos hq]):p:=h
theorem jcc {p:Prop} (h:p:=by unfold yM;rw [←hp,if_neg hq]):p:=h
theorem jcd {p:Prop} (h:p:=by rw [HL.out];simp):p:=h
theorem jce {p:Prop} (h:p:=by simpa using hk):p:=h
theorem jcf {p:Prop} (h:p:=by have:=Zb St.sz _ y hy;omega):p:=h
theorem jcg {p:Prop} (h:p:=by have:=Zb De.sz _ y hy;omega):p:=h
theorem jch {p:Prop} (h:p:=by have:=Zb Ho.sz _ y hy;omega):p:=h
theorem jci {p:Prop} (h:p:=by simp [hy]):p:=h
theorem jcj {p:Prop} (h:p:=by simp [strC]):p:=h
theorem jck {p:Prop} (h:p:=by simpa using hne):p:=h
theorem jcl {p:Prop} (h:p:=by simpa [ByteArray.size] using hs):p:=h
theorem jcm {p:Prop} (h:p:=by rw [HE.out,hmany,yt,hg]):p:=h
theorem jcn {p:Prop} (h:p:=by simpa using h0):p:=h
theorem jco {p:Prop} (h:p:=by simpa using hr):p:=h
theorem jcp {p:Prop} (h:p:=by rw [HKP.out];rfl):p:=h
theorem jcq {p:Prop} (h:p:=by rw [HD.out];exact hg):p:=h
theorem jcr {p:Prop} (h:p:=by simp [maxLen]):p:=h
theorem jcs {p:Prop} (h:p:=by rw [hs0,←hn]):p:=h
theorem jct {p:Prop} (h:p:=by rw [zaV];omega):p:=h
theorem jcu {p:Prop} (h:p:=by rw [HX.out,HTt.out]):p:=h
theorem jcv {p:Prop} (h:p:=by intro hh;exact absurd hh.1 jf):p:=h
theorem jcw {p:Prop} (h:p:=by rw [Nat.div_lt_iff_lt_mul ja];rw [Nat.pow_succ] at h;omega):p:=h
theorem jcx {p:Prop} (h:p:=by rw [List.take_of_length_le ja];rfl):p:=h
end Go.Proofs.YtepbbaifpckcpaaGreatDoor
