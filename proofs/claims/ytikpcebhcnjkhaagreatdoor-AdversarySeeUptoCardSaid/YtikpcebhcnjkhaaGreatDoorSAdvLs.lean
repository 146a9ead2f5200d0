/- The law AdversarySee. -/
import Derived.Deep.Cut
import Derived.Deep.CutRange
import Derived.Test.YtikpcebhcnjkhaaGreatDoorSPl
import Derived.Test.YtikpcebhcnjkhaaGreatDoorSAdvAk
import Derived.Test.YtikpcebhcnjkhaaGreatDoorSAdvFw
import Derived.Test.YtikpcebhcnjkhaaGreatDoorSAdvSi
namespace Go.Proofs.YtikpcebhcnjkhaaGreatDoor
open Go.RowKit Q40
theorem wpList_load_wanted {P : Program} {ops : Array Oper} {rest : List Oper} {op : Oper} {a : Act} {w : World} {Q : Exit → Act → World → Prop} (hw : Region.wanted op (yielded ops a.tmps) = true) (ty : TypeId) (x : Operand) (ho : op.op = .load ty x)
    (b o : Nat) (hx : a.eval x = .pointer (some ⟨b, o, none⟩)) (cs : List Value) (d : TypeDesc) (hc : w.rangeAt b o cs)
    (hu : P.underlying ty = some d) (hd : d.isRow = true) (hi : (P.info? ty).map (·.size) = some cs.length)
    (h : wpList P ops Q rest (a.put op.dst (.agg cs.toArray)) w) : wpList P ops Q (op :: rest) a w := by
 unfold wpList
 rw [if_pos hw]
 exact .inl (wp_load_mid ty x ho b o hx cs d hc hu hd hi h)
theorem wpList_build_wanted {P : Program} {ops : Array Oper} {rest : List Oper} {op : Oper} {a : Act} {w : World} {Q : Exit → Act → World → Prop} (hw : Region.wanted op (yielded ops a.tmps) = true) (t : TypeId) (parts : Array (Nat × Operand)) (ho : op.op = .build t parts)
    (cells : Array Value) (hc : P.built t (parts.map fun (i, x) => (i, a.eval x)).toList = some cells)
    (h : wpList P ops Q rest (a.put op.dst (.agg cells)) w) : wpList P ops Q (op :: rest) a w := by
 unfold wpList
 rw [if_pos hw]
 exact .inl (wp_build t parts ho (by rw [hc]; rfl) (by rw [hc]; exact h))
def msSeen (As Av : Option Addr) (cs cv : Nat) (ss : List St) (vs : List (List UInt8)) : Ms := ⟨0, 0, 0, 0, 0, [], 0, ⟨0, 0, 0, 0, [], []⟩, ⟨As, cs, ss⟩, Sl.nil, ⟨0, [], Sl.nil, Sl.nil, Sl.nil⟩, ⟨Av, cv, vs⟩⟩
theorem i64z : I64 0 := ⟨by decide, by decide⟩
theorem msSeen_ok {As Av : Option Addr} {cs cv : Nat} {ss : List St} {vs : List (List UInt8)} {w : World} (h1 : Rd w 12 As ss.length (ss.flatMap stC)) (h2 : Rd w 1 Av vs.length (strC vs)) (ho : ∀ y ∈ ss, y.ok w) : (msSeen As Av cs cv ss vs).ok w := by
 refine ⟨⟨i64z, i64z, i64z, i64z, i64z, i64z⟩, ⟨i64z, i64z, i64z, i64z⟩, ⟨h1, ho⟩, ⟨Rd.nil _ _ _, by simp [msSeen, Sl.nil]⟩, ⟨i64z, Rd.nil _ _ _, ⟨Rd.nil _ _ _, by simp [msSeen, Sl.nil]⟩, Rd.nil _ _ _, by simp [msSeen, Sl.nil]⟩, ?_⟩
 show Rd w 1 Av vs.length (vs.flatMap strV)
 rw [strV_flat]
 exact h2
theorem msSeen_sz (As Av : Option Addr) (cs cv : Nat) (ss : List St) (vs : List (List UInt8)) : (msSeen As Av cs cv ss vs).sz = sum St.sz ss + sum szS vs + 24 := by
 simp [Ms.sz, Sn.sz, msSeen, Sg.sz, sum, Sl.nil]; omega
set_option maxRecDepth 100000 in
set_option maxHeartbeats 16000000 in
theorem lawSee51 (As Av : Option Addr) (cs cv : Nat) (ss : List St) (vs : List (List UInt8)) (m : Ms) (w : World) (he : Env w) (ht : Tz w) (hss : Rd w 12 As ss.length (ss.flatMap stC)) (hvs : Rd w 1 Av vs.length (strC vs)) (hso : ∀ y ∈ ss, y.ok w) (hm : m.ok w) (hz : m.sz ≤ 1048576) (hzz : sum St.sz ss + sum szS vs ≤ 1048576) :
    Calls Tryz.prog 6 #[.agg #[.slice As ss.length cs, .slice Av vs.length cv], .agg (msC m).toArray] w (RetBool true w) := by
 have hl1 : ss.length ≤ 1048576 := by have h1 := sum_ge St.sz ss 14 St.sz_ge; omega
 have hl2 : vs.length ≤ 1048576 := by have h1 := sum_ge szS vs 1 szS_ge; omega
 have hso2 : ∀ y ∈ ss, y.ok w ∧ y.sz ≤ 16777216 := fun y hy => ⟨hso y hy, by have := sum_get St.sz ss y hy; omega⟩
 have HAw : Hid (∀ W, Below w.heap.size w W → Calls Tryz.prog 7 #[] W (RetBool true W)) := hD (fun W hb => awake51 W (EnvP.below he.p hb) (ht.below hb))
 have HFw : Hid (∀ W, Below w.heap.size w W → Calls Tryz.prog 11 #[.agg (msC m).toArray] W (RetBool (few51 m) W)) := hD (fun W hb => few51_any m W (Ms.below hm hb) (by omega))
 have HFs : Hid (∀ W, Below w.heap.size w W → Calls Tryz.prog 11 #[.agg (msC (msSeen As Av cs cv ss vs)).toArray] W (RetBool (few51 (msSeen As Av cs cv ss vs)) W)) := hD (fun W hb => few51_any (msSeen As Av cs cv ss vs) W (Ms.below (msSeen_ok hss hvs hso) hb) (by rw [msSeen_sz]; omega))
 have HC17 : Hid (∀ W, Below w.heap.size w W → Calls Tryz.prog 17 #[.slice As ss.length cs] W (OwnSts ss W)) := hD (fun W hb => cloneSt_any As cs ss W (hss.below hb) hl1)
 have HC18 : Hid (∀ W, Below w.heap.size w W → Calls Tryz.prog 18 #[.slice Av vs.length cv] W (OwnStrs vs W)) := hD (fun W hb => cloneStrs Av cv vs W (hvs.below hb) hl2)
 have hStO : ∀ y ∈ m.statuses.l, y.ok w ∧ y.sz ≤ 16777216 := fun y hy => ⟨hm.2.2.1.2 y hy, Nat.le_trans (sum_get St.sz m.statuses.l y hy) (by unfold Ms.sz at hz; omega)⟩
 obtain ⟨P, hP⟩ : ∃ P, P = seeAll ss vs m := ⟨_, rfl⟩
 have hbd : P.1.length ≤ 1048576 ∧ P.2.length ≤ 1048576 ∧ ∀ y ∈ P.1, y.ok w ∧ y.sz ≤ 16777216 := by
  have h9 := see_bd ss vs m.statuses.l w hl1 hl2 hso2 hStO m.statuses.l.length
  rw [List.take_length] at h9
  have h8 := seeV_bd (learnV (m.statuses.l.foldl seeF (ss, vs)).2 m.value) m.entries.l (learnV_len _ _ h9.2.1) m.entries.l.length
  rw [List.take_length] at h8
  rw [hP]
  exact ⟨h9.1, h8, h9.2.2⟩
 have HSee : Hid (∀ (A B : Option Addr) (c d : Nat) (W : World), Below w.heap.size w W → Rd W 12 A ss.length (ss.flatMap stC) → Rd W 1 B vs.length (strC vs) → Calls Tryz.prog 20 #[.agg #[.slice A ss.length c, .slice B vs.length d], .agg (msC m).toArray] W (RetSeen P W)) := hD (fun A B c d W hb h1 h2 => by
  rw [hP]
  exact see_any A B c d ss vs m W (he.below hb) h1 h2 (fun y hy => ⟨St.below (hso2 y hy).1 hb, (hso2 y hy).2⟩) (Ms.below hm hb) hz hl1 hl2)
 have HRee : Hid (∀ W, Below w.heap.size w W → Calls Tryz.prog 21 #[.agg #[.slice As ss.length cs, .slice Av vs.length cv], .agg (msC m).toArray] W (RetSeen P W)) := hD (fun W hb => by
  rw [hP]
  exact refSee_any As Av cs cv ss vs m W (hss.below hb) (hvs.below hb) (fun y hy => ⟨St.below (hso2 y hy).1 hb, (hso2 y hy).2⟩) (Ms.below hm hb) hz hl1 hl2)
 have HEqu : Hid (∀ (A1 B1 A2 B2 : Option Addr) (c1 d1 c2 d2 : Nat) (W : World), Below w.heap.size w W → Rd W 12 A1 P.1.length (P.1.flatMap stC) → Rd W 12 A2 P.1.length (P.1.flatMap stC) → Rd W 1 B1 P.2.length (strC P.2) → Rd W 1 B2 P.2.length (strC P.2) → Calls Tryz.prog 19 #[.agg #[.slice A1 P.1.length c1, .slice B1 P.2.length d1], .agg #[.slice A2 P.1.length c2, .slice B2 P.2.length d2]] W (RetBool true W)) := hD (fun A1 B1 A2 B2 c1 d1 c2 d2 W hb h1 h2 h3 h4 => refEqual_any A1 B1 A2 B2 c1 d1 c2 d2 P.1 P.2 W h1 h2 h3 h4 (fun y hy => ⟨St.below (hbd.2.2 y hy).1 hb, (hbd.2.2 y hy).2⟩) hbd.1 hbd.2.1)
 have HL0 : Hid (Below w.heap.size w ((w.alloc (.cells #[.slice As ss.length cs, .slice Av vs.length cv] 59)).alloc (.cells (msC m).toArray 50))) := hD (bon (below_new w _) (below_new _ _))
 have HZ0 : Hid (Vz ((w.alloc (.cells #[.slice As ss.length cs, .slice Av vs.length cv] 59)).alloc (.cells (msC m).toArray 50)) w.heap.size [.slice As ss.length cs, .slice Av vs.length cv]) := hD ((Vz.new w [.slice As ss.length cs, .slice Av vs.length cv] 59).below (below_new _ _))
 have HM0 : Hid (Vz ((w.alloc (.cells #[.slice As ss.length cs, .slice Av vs.length cv] 59)).alloc (.cells (msC m).toArray 50)) (w.heap.size + 1) (msC m)) := hD (by
  have h9 := Vz.new (w.alloc (.cells #[.slice As ss.length cs, .slice Av vs.length cv] 59)) (msC m) 50
  rw [World.size_alloc] at h9
  exact h9)
 obtain ⟨w3, hw3⟩ : ∃ w3, w3 = ((w.alloc (.cells #[.slice As ss.length cs, .slice Av vs.length cv] 59)).alloc (.cells (msC m).toArray 50)) := ⟨_, rfl⟩
 rw [← hw3] at HL0 HZ0 HM0
 have HW3 : Hid (((w.alloc (.cells #[.slice As ss.length cs, .slice Av vs.length cv] 59)).alloc (.cells (msC m).toArray 50)) = w3) := hD hw3.symm
 clear hw3 he ht hss hvs hso hso2 hm hz hzz hStO hbd hP
 go_enter Tryz.func6, Tryz.ntmps6
 go_upto_region 1 with fail
 refine world_eqA HW3.out ?_
 have HL := HL0
 have HZ := HZ0
 have HMm := HM0
 clear HW3 HL0 HZ0 HM0
 have z0 := HZ.out.cells 0 _ rfl
 have z1 := HZ.out.cells 1 _ rfl
 have lz := HZ.out.lt
 by_cases h60 : ss.length ≤ 60
 · have g60 : ¬ (60 : Int) < (ss.length : Int) := by omega
   by_cases h30 : vs.length ≤ 30
   · have g30 : ¬ (30 : Int) < (vs.length : Int) := by omega
     go_wp2_with fail
     refine (HAw.out _ HL.out).mono ?_
     rintro e w4 ⟨rfl, hs⟩
     have HL := hD (bon HL.out hs)
     have HZ := hD (HZ.out.below hs)
     have HMm := hD (HMm.out.below hs)
     clear hs
     clear z0 z1 lz
     have z0 := HZ.out.cells 0 _ rfl
     have z1 := HZ.out.cells 1 _ rfl
     have lz := HZ.out.lt
     go_wp2_with (refine wpList_load_wanted (by go_simp) 50 _ rfl _ 0 rfl (msC m) _ HMm.out.range Tryz.underlying50 rfl (infoMs m) ?_)
     refine (HFw.out _ HL.out).mono ?_
     rintro e w5 ⟨rfl, hs⟩
     have HL := hD (bon HL.out hs)
     have HZ := hD (HZ.out.below hs)
     have HMm := hD (HMm.out.below hs)
     clear hs z0 z1 lz
     have z0 := HZ.out.cells 0 _ rfl
     have z1 := HZ.out.cells 1 _ rfl
     have lz := HZ.out.lt
     cases few51 m
     · go_wp2_with fail
       clear z0 z1 lz
       go_wp2_with fail
       refine (HAw.out _ HL.out).mono ?_
       rintro e w7 ⟨rfl, hs⟩
       have HL := hD (bon HL.out hs)
       have HZ := hD (HZ.out.below hs)
       have HMm := hD (HMm.out.below hs)
       clear hs
       go_wp2_with fail
       go_ret
       exact ret_bl rfl HL.out
     · go_wp2_with (refine wpList_build_wanted (by go_simp) 50 _ rfl (msC (msSeen As Av cs cv ss vs)).toArray (by kernel_rfl) ?_)
       refine (HFs.out _ HL.out).mono ?_
       rintro e w6 ⟨rfl, hs⟩
       have HL := hD (bon HL.out hs)
       have HZ := hD (HZ.out.below hs)
       have HMm := hD (HMm.out.below hs)
       clear hs z0 z1 lz
       have z0 := HZ.out.cells 0 _ rfl
       have z1 := HZ.out.cells 1 _ rfl
       have lz := HZ.out.lt
       cases few51 (msSeen As Av cs cv ss vs)
       · go_wp2_with fail
         clear z0 z1 lz
         go_wp2_with fail
         refine (HAw.out _ HL.out).mono ?_
         rintro e w7 ⟨rfl, hs⟩
         have HL := hD (bon HL.out hs)
         have HZ := hD (HZ.out.below hs)
         have HMm := hD (HMm.out.below hs)
         clear hs
         go_wp2_with fail
         go_ret
         exact ret_bl rfl HL.out
       · go_upto_region 3 with fail
         clear z0 z1 lz
         have HL : Hid (Below w.heap.size w w6.drew) := hD (bon HL.out (Below.refl _ _).drew)
         have HZ : Hid (Vz w6.drew w.heap.size [.slice As ss.length cs, .slice Av vs.length cv]) := hD (HZ.out.below (Below.refl _ _).drew)
         have HMm : Hid (Vz w6.drew (w.heap.size + 1) (msC m)) := hD (HMm.out.below (Below.refl _ _).drew)
         generalize hv : w6.drew = v0 at HL HZ HMm
         have hS0 : World.cell? v0 ⟨w.heap.size, 0, none⟩ = some (.slice As ss.length cs) ∧ World.cell? v0 ⟨w.heap.size, 1, none⟩ = some (.slice Av vs.length cv) := ⟨HZ.out.cells 0 _ rfl, HZ.out.cells 1 _ rfl⟩
         refine wp_region_held_drew (S := fun W => World.cell? W ⟨w.heap.size, 0, none⟩ = some (.slice As ss.length cs) ∧ World.cell? W ⟨w.heap.size, 1, none⟩ = some (.slice Av vs.length cv)) (by kernel_rfl) (by rw [hv]; exact hS0) (fun hHeld => ?_)
         rw [hv] at hHeld ⊢
         clear hv
         refine takes [0,1,3,4] ?_
         refine wpAnyH_ready (rs := [2, 7]) (by kernel_rfl) (by simp) ?_
         refine AllReadyH.cons (o := _) rfl (fun K hK => ?_) (AllReadyH.cons (o := _) rfl (fun K hK => ?_) AllReadyH.nil)
         · go_simp
           go_at_call 17
           refine (HC17.out _ HL.out).mono ?_
           rintro e v1 ⟨A7, c7, rfl, hown, hs⟩
           have HA := hD ((RdN.own hown (g := w.heap.size) (by have := HMm.out.lt; omega)).rd)
           have HL := hD (bon HL.out hs)
           have HZ := hD (HZ.out.below hs)
           have HMm := hD (HMm.out.below hs)
           clear hown hs
           go_wp2_with fail
           have hS1 : World.cell? v1 ⟨w.heap.size, 0, none⟩ = some (.slice As ss.length cs) ∧ World.cell? v1 ⟨w.heap.size, 1, none⟩ = some (.slice Av vs.length cv) := ⟨HZ.out.cells 0 _ rfl, HZ.out.cells 1 _ rfl⟩
           refine hK.out _ _ hS1 (fun hHeld => ?_)
           clear hK K
           try simp only [Act.put,qk1,qk2,qk3,qk4,qk5,qk6]
           refine wpAnyH_ready (rs := [5, 7]) (by kernel_rfl) (by simp) ?_
           refine AllReadyH.cons (o := _) rfl (fun K hK => ?_) (AllReadyH.cons (o := _) rfl (fun K hK => ?_) AllReadyH.nil)
           · go_simp
             go_at_call 18
             refine (HC18.out _ HL.out).mono ?_
             rintro e v2 ⟨B7, d7, rfl, hown, hs⟩
             have HB := hD ((RdN.own hown (g := w.heap.size) (by have := HMm.out.lt; omega)).rd)
             have HL := hD (bon HL.out hs)
             have HZ := hD (HZ.out.below hs)
             have HMm := hD (HMm.out.below hs)
             have HA := hD (HA.out.below hs)
             clear hown hs
             go_wp2_with fail
             have hS2 : World.cell? v2 ⟨w.heap.size, 0, none⟩ = some (.slice As ss.length cs) ∧ World.cell? v2 ⟨w.heap.size, 1, none⟩ = some (.slice Av vs.length cv) := ⟨HZ.out.cells 0 _ rfl, HZ.out.cells 1 _ rfl⟩
             refine hK.out _ _ hS2 (fun hHeld => ?_)
             clear hK K
             try simp only [Act.put,qk1,qk2,qk3,qk4,qk5,qk6]
             refine takes [6] ?_
             refine tkr 7 rfl (fun K hK => ?_)
             go_simp
             have HT := hD (Vz.new v2 [.slice none 0 0, .slice none 0 0] 59)
             have HG : Hid (w.heap.size + 2 ≤ (World.heap v2).size) := hD (by have := HMm.out.lt; omega)
             have HL := hD (bon HL.out (below_new v2 (.cells #[.slice none 0 0, .slice none 0 0] 59)))
             have HZ := hD (HZ.out.below (below_new v2 (.cells #[.slice none 0 0, .slice none 0 0] 59)))
             have HMm := hD (HMm.out.below (below_new v2 (.cells #[.slice none 0 0, .slice none 0 0] 59)))
             have HA := hD (HA.out.apart (below_new v2 (.cells #[.slice none 0 0, .slice none 0 0] 59)) (Nat.le_refl _))
             have HB := hD (HB.out.apart (below_new v2 (.cells #[.slice none 0 0, .slice none 0 0] 59)) (Nat.le_refl _))
             generalize World.alloc v2 (.cells #[.slice none 0 0, .slice none 0 0] 59) = v3 at HT HL HZ HMm HA HB ⊢
             generalize (World.heap v2).size = gb at HT HG HA HB ⊢
             have hS3 : World.cell? v3 ⟨w.heap.size, 0, none⟩ = some (.slice As ss.length cs) ∧ World.cell? v3 ⟨w.heap.size, 1, none⟩ = some (.slice Av vs.length cv) := ⟨HZ.out.cells 0 _ rfl, HZ.out.cells 1 _ rfl⟩
             refine hK.out _ _ hS3 (fun hHeld => ?_)
             clear hK K
             try simp only [Act.put,qk1,qk2,qk3,qk4,qk5,qk6]
             refine tkr 8 rfl (fun K hK => ?_)
             have y0 := HT.out.cells 0 _ rfl
             have y1 := HT.out.cells 1 _ rfl
             have e0 := HT.out.free 0 (by simp)
             have e1 := HT.out.free 1 (by simp)
             have ly := HT.out.lt
             go_simp
             have hge : w.heap.size ≤ gb := by have := HG.out; omega
             have hne : (some gb : Option Nat) ≠ some w.heap.size := fun h => by injection h; have := HG.out; omega
             have hne1 : (some gb : Option Nat) ≠ some (w.heap.size + 1) := fun h => by injection h; have := HG.out; omega
             have hg0 := grown_set v3 ⟨gb, 0, none⟩ (.slice A7 ss.length c7)
             have hg1 := grown_set (World.setCell v3 ⟨gb, 0, none⟩ (.slice A7 ss.length c7)) ⟨gb, 1, none⟩ (.slice B7 vs.length d7)
             have HL := hD ((HL.out.setCell (p := ⟨gb, 0, none⟩) hge (.slice A7 ss.length c7)).setCell (p := ⟨gb, 1, none⟩) hge (.slice B7 vs.length d7))
             have HZ := hD ((HZ.out.grown hg0 hne).grown hg1 hne)
             have HMm := hD ((HMm.out.grown hg0 hne1).grown hg1 hne1)
             have HA := hD ((HA.out.far 0 (.slice A7 ss.length c7)).far 1 (.slice B7 vs.length d7))
             have HB := hD ((HB.out.far 0 (.slice A7 ss.length c7)).far 1 (.slice B7 vs.length d7))
             have HT := hD (((HT.out.set 0 (.slice A7 ss.length c7)).set 1 (.slice B7 vs.length d7)).eq (cs' := [.slice A7 ss.length c7, .slice B7 vs.length d7]) rfl)
             clear y0 y1 e0 e1 ly hge hne hne1 hg0 hg1
             generalize World.setCell (World.setCell v3 ⟨gb, 0, none⟩ (.slice A7 ss.length c7)) ⟨gb, 1, none⟩ (.slice B7 vs.length d7) = v4 at HL HZ HMm HT HA HB ⊢
             have hS4 : World.cell? v4 ⟨w.heap.size, 0, none⟩ = some (.slice As ss.length cs) ∧ World.cell? v4 ⟨w.heap.size, 1, none⟩ = some (.slice Av vs.length cv) := ⟨HZ.out.cells 0 _ rfl, HZ.out.cells 1 _ rfl⟩
             refine hK.out _ _ hS4 (fun hHeld => ?_)
             clear hK K
             try simp only [Act.put,qk1,qk2,qk3,qk4,qk5,qk6]
             refine wpAnyH_done (by kernel_rfl) ?_ _
             clear hHeld hS0 hS1 hS2 hS3 hS4
             go_upto_region 4 with fail
             have HL : Hid (Below w.heap.size w v4.drew) := hD (bon HL.out (Below.refl _ _).drew)
             have HZ : Hid (Vz v4.drew w.heap.size [.slice As ss.length cs, .slice Av vs.length cv]) := hD (HZ.out.below (Below.refl _ _).drew)
             have HMm : Hid (Vz v4.drew (w.heap.size + 1) (msC m)) := hD (HMm.out.below (Below.refl _ _).drew)
             have HT : Hid (Vz v4.drew gb [.slice A7 ss.length c7, .slice B7 vs.length d7]) := hD (HT.out.below (Below.refl _ _).drew)
             have HA : Hid (RdN gb v4.drew 12 A7 ss.length (ss.flatMap stC)) := hD (HA.out.below (Below.refl _ _).drew)
             have HB : Hid (RdN gb v4.drew 1 B7 vs.length (strC vs)) := hD (HB.out.below (Below.refl _ _).drew)
             generalize hv : v4.drew = v0 at HL HZ HMm HT HA HB
             have hS0 : World.cell? v0 ⟨gb, 0, none⟩ = some (.slice A7 ss.length c7) ∧ World.cell? v0 ⟨gb, 1, none⟩ = some (.slice B7 vs.length d7) ∧ World.cell? v0 ⟨w.heap.size, 0, none⟩ = some (.slice As ss.length cs) ∧ World.cell? v0 ⟨w.heap.size, 1, none⟩ = some (.slice Av vs.length cv) ∧ World.rangeAt v0 (w.heap.size + 1) 0 (msC m) := ⟨HT.out.cells 0 _ rfl, HT.out.cells 1 _ rfl, HZ.out.cells 0 _ rfl, HZ.out.cells 1 _ rfl, HMm.out.range⟩
             refine wp_region_held_drew (S := fun W => World.cell? W ⟨gb, 0, none⟩ = some (.slice A7 ss.length c7) ∧ World.cell? W ⟨gb, 1, none⟩ = some (.slice B7 vs.length d7) ∧ World.cell? W ⟨w.heap.size, 0, none⟩ = some (.slice As ss.length cs) ∧ World.cell? W ⟨w.heap.size, 1, none⟩ = some (.slice Av vs.length cv) ∧ World.rangeAt W (w.heap.size + 1) 0 (msC m)) (by kernel_rfl) (by rw [hv]; exact hS0) (fun hHeld => ?_)
             rw [hv] at hHeld ⊢
             clear hv
             refine takes [0] ?_
             refine tkq 1 rfl (yieldsIf_load_mid (by rfl) 50 _ (by rfl) _ _ (by rfl) (msC m) _ (fun W h => h.2.2.2.2) Tryz.underlying50 rfl (infoMs m)) (by assumption) ?_
             try simp only [Act.put,qk1,qk2,qk3,qk4,qk5,qk6]
             refine takes [3] ?_
             refine tkq 4 rfl (yieldsIf_load_mid (by rfl) 50 _ (by rfl) _ _ (by rfl) (msC m) _ (fun W h => h.2.2.2.2) Tryz.underlying50 rfl (infoMs m)) (by assumption) ?_
             try simp only [Act.put,qk1,qk2,qk3,qk4,qk5,qk6]
             refine tkr 2 rfl (fun K hK => ?_)
             go_simp
             go_at_call 20
             refine (HSee.out A7 B7 c7 d7 _ HL.out HA.out.rd HB.out.rd).mono ?_
             rintro e v1 ⟨A8, c8, B8, d8, rfl, hr, hq, hs⟩
             have HR8 := hD hr
             have HQ8 := hD hq
             have HL := hD (bon HL.out hs)
             have HZ := hD (HZ.out.below hs)
             have HMm := hD (HMm.out.below hs)
             have HT := hD (HT.out.below hs)
             clear hr hq hs
             go_wp2_with fail
             have hS1 : World.cell? v1 ⟨gb, 0, none⟩ = some (.slice A7 ss.length c7) ∧ World.cell? v1 ⟨gb, 1, none⟩ = some (.slice B7 vs.length d7) ∧ World.cell? v1 ⟨w.heap.size, 0, none⟩ = some (.slice As ss.length cs) ∧ World.cell? v1 ⟨w.heap.size, 1, none⟩ = some (.slice Av vs.length cv) ∧ World.rangeAt v1 (w.heap.size + 1) 0 (msC m) := ⟨HT.out.cells 0 _ rfl, HT.out.cells 1 _ rfl, HZ.out.cells 0 _ rfl, HZ.out.cells 1 _ rfl, HMm.out.range⟩
             refine hK.out _ _ hS1 (fun hHeld => ?_)
             clear hK K
             try simp only [Act.put,qk1,qk2,qk3,qk4,qk5,qk6]
             refine tkr 5 rfl (fun K hK => ?_)
             go_simp
             go_at_call 21
             refine (HRee.out _ HL.out).mono ?_
             rintro e v2 ⟨A9, c9, B9, d9, rfl, hr, hq, hs⟩
             have HL := hD (bon HL.out hs)
             have HZ := hD (HZ.out.below hs)
             have HMm := hD (HMm.out.below hs)
             have HT := hD (HT.out.below hs)
             have HR8 := hD (HR8.out.below hs)
             have HQ8 := hD (HQ8.out.below hs)
             have HR9 := hD hr
             have HQ9 := hD hq
             clear hr hq hs
             go_wp2_with fail
             have hS2 : World.cell? v2 ⟨gb, 0, none⟩ = some (.slice A7 ss.length c7) ∧ World.cell? v2 ⟨gb, 1, none⟩ = some (.slice B7 vs.length d7) ∧ World.cell? v2 ⟨w.heap.size, 0, none⟩ = some (.slice As ss.length cs) ∧ World.cell? v2 ⟨w.heap.size, 1, none⟩ = some (.slice Av vs.length cv) ∧ World.rangeAt v2 (w.heap.size + 1) 0 (msC m) := ⟨HT.out.cells 0 _ rfl, HT.out.cells 1 _ rfl, HZ.out.cells 0 _ rfl, HZ.out.cells 1 _ rfl, HMm.out.range⟩
             refine hK.out _ _ hS2 (fun hHeld => ?_)
             clear hK K
             try simp only [Act.put,qk1,qk2,qk3,qk4,qk5,qk6]
             refine tkr 6 rfl (fun K hK => ?_)
             go_simp
             go_at_call 19
             refine (HEqu.out A8 B8 A9 B9 c8 d8 c9 d9 _ HL.out HR8.out HR9.out HQ8.out HQ9.out).mono ?_
             rintro e v3 ⟨rfl, hs⟩
             have HL := hD (bon HL.out hs)
             have HZ := hD (HZ.out.below hs)
             have HMm := hD (HMm.out.below hs)
             have HT := hD (HT.out.below hs)
             clear hs
             go_wp2_with fail
             have hS3 : World.cell? v3 ⟨gb, 0, none⟩ = some (.slice A7 ss.length c7) ∧ World.cell? v3 ⟨gb, 1, none⟩ = some (.slice B7 vs.length d7) ∧ World.cell? v3 ⟨w.heap.size, 0, none⟩ = some (.slice As ss.length cs) ∧ World.cell? v3 ⟨w.heap.size, 1, none⟩ = some (.slice Av vs.length cv) ∧ World.rangeAt v3 (w.heap.size + 1) 0 (msC m) := ⟨HT.out.cells 0 _ rfl, HT.out.cells 1 _ rfl, HZ.out.cells 0 _ rfl, HZ.out.cells 1 _ rfl, HMm.out.range⟩
             refine hK.out _ _ hS3 (fun hHeld => ?_)
             clear hK K
             try simp only [Act.put,qk1,qk2,qk3,qk4,qk5,qk6]
             refine tkr 7 rfl (fun K hK => ?_)
             go_simp
             refine hK.out _ _ hS3 (fun hHeld => ?_)
             clear hK K
             try simp only [Act.put,qk1,qk2,qk3,qk4,qk5,qk6]
             refine wpAnyH_done (by kernel_rfl) ?_ _
             clear hS0 hS1 hS2 hS3 hHeld
             go_wp2_with fail
             go_ret
             exact ret_bl rfl HL.out
           · go_simp
             have HT := hD (Vz.new v1 [.slice none 0 0, .slice none 0 0] 59)
             have HG : Hid (w.heap.size + 2 ≤ (World.heap v1).size) := hD (by have := HMm.out.lt; omega)
             have HL := hD (bon HL.out (below_new v1 (.cells #[.slice none 0 0, .slice none 0 0] 59)))
             have HZ := hD (HZ.out.below (below_new v1 (.cells #[.slice none 0 0, .slice none 0 0] 59)))
             have HMm := hD (HMm.out.below (below_new v1 (.cells #[.slice none 0 0, .slice none 0 0] 59)))
             have HA := hD (HA.out.apart (below_new v1 (.cells #[.slice none 0 0, .slice none 0 0] 59)) (Nat.le_refl _))
             generalize World.alloc v1 (.cells #[.slice none 0 0, .slice none 0 0] 59) = v2 at HT HL HZ HMm HA ⊢
             generalize (World.heap v1).size = gb at HT HG HA ⊢
             have hS2 : World.cell? v2 ⟨w.heap.size, 0, none⟩ = some (.slice As ss.length cs) ∧ World.cell? v2 ⟨w.heap.size, 1, none⟩ = some (.slice Av vs.length cv) := ⟨HZ.out.cells 0 _ rfl, HZ.out.cells 1 _ rfl⟩
             refine hK.out _ _ hS2 (fun hHeld => ?_)
             clear hK K
             try simp only [Act.put,qk1,qk2,qk3,qk4,qk5,qk6]
             refine tkr 5 rfl (fun K hK => ?_)
             go_simp
             go_at_call 18
             refine (HC18.out _ HL.out).mono ?_
             rintro e v3 ⟨B7, d7, rfl, hown, hs⟩
             have HB := hD (RdN.own hown (g := gb) HT.out.lt)
             have HL := hD (bon HL.out hs)
             have HZ := hD (HZ.out.below hs)
             have HMm := hD (HMm.out.below hs)
             have HT := hD (HT.out.below hs)
             have HA := hD (HA.out.below hs)
             clear hown hs
             go_wp2_with fail
             have hS3 : World.cell? v3 ⟨w.heap.size, 0, none⟩ = some (.slice As ss.length cs) ∧ World.cell? v3 ⟨w.heap.size, 1, none⟩ = some (.slice Av vs.length cv) := ⟨HZ.out.cells 0 _ rfl, HZ.out.cells 1 _ rfl⟩
             refine hK.out _ _ hS3 (fun hHeld => ?_)
             clear hK K
             try simp only [Act.put,qk1,qk2,qk3,qk4,qk5,qk6]
             refine takes [6] ?_
             refine tkr 8 rfl (fun K hK => ?_)
             have y0 := HT.out.cells 0 _ rfl
             have y1 := HT.out.cells 1 _ rfl
             have e0 := HT.out.free 0 (by simp)
             have e1 := HT.out.free 1 (by simp)
             have ly := HT.out.lt
             go_simp
             have hge : w.heap.size ≤ gb := by have := HG.out; omega
             have hne : (some gb : Option Nat) ≠ some w.heap.size := fun h => by injection h; have := HG.out; omega
             have hne1 : (some gb : Option Nat) ≠ some (w.heap.size + 1) := fun h => by injection h; have := HG.out; omega
             have hg0 := grown_set v3 ⟨gb, 0, none⟩ (.slice A7 ss.length c7)
             have hg1 := grown_set (World.setCell v3 ⟨gb, 0, none⟩ (.slice A7 ss.length c7)) ⟨gb, 1, none⟩ (.slice B7 vs.length d7)
             have HL := hD ((HL.out.setCell (p := ⟨gb, 0, none⟩) hge (.slice A7 ss.length c7)).setCell (p := ⟨gb, 1, none⟩) hge (.slice B7 vs.length d7))
             have HZ := hD ((HZ.out.grown hg0 hne).grown hg1 hne)
             have HMm := hD ((HMm.out.grown hg0 hne1).grown hg1 hne1)
             have HA := hD ((HA.out.far 0 (.slice A7 ss.length c7)).far 1 (.slice B7 vs.length d7))
             have HB := hD ((HB.out.far 0 (.slice A7 ss.length c7)).far 1 (.slice B7 vs.length d7))
             have HT := hD (((HT.out.set 0 (.slice A7 ss.length c7)).set 1 (.slice B7 vs.length d7)).eq (cs' := [.slice A7 ss.length c7, .slice B7 vs.length d7]) rfl)
             clear y0 y1 e0 e1 ly hge hne hne1 hg0 hg1
             generalize World.setCell (World.setCell v3 ⟨gb, 0, none⟩ (.slice A7 ss.length c7)) ⟨gb, 1, none⟩ (.slice B7 vs.length d7) = v4 at HL HZ HMm HT HA HB ⊢
             have hS4 : World.cell? v4 ⟨w.heap.size, 0, none⟩ = some (.slice As ss.length cs) ∧ World.cell? v4 ⟨w.heap.size, 1, none⟩ = some (.slice Av vs.length cv) := ⟨HZ.out.cells 0 _ rfl, HZ.out.cells 1 _ rfl⟩
             refine hK.out _ _ hS4 (fun hHeld => ?_)
             clear hK K
             try simp only [Act.put,qk1,qk2,qk3,qk4,qk5,qk6]
             refine wpAnyH_done (by kernel_rfl) ?_ _
             clear hHeld hS0 hS1 hS2 hS3 hS4
             go_upto_region 4 with fail
             have HL : Hid (Below w.heap.size w v4.drew) := hD (bon HL.out (Below.refl _ _).drew)
             have HZ : Hid (Vz v4.drew w.heap.size [.slice As ss.length cs, .slice Av vs.length cv]) := hD (HZ.out.below (Below.refl _ _).drew)
             have HMm : Hid (Vz v4.drew (w.heap.size + 1) (msC m)) := hD (HMm.out.below (Below.refl _ _).drew)
             have HT : Hid (Vz v4.drew gb [.slice A7 ss.length c7, .slice B7 vs.length d7]) := hD (HT.out.below (Below.refl _ _).drew)
             have HA : Hid (RdN gb v4.drew 12 A7 ss.length (ss.flatMap stC)) := hD (HA.out.below (Below.refl _ _).drew)
             have HB : Hid (RdN gb v4.drew 1 B7 vs.length (strC vs)) := hD (HB.out.below (Below.refl _ _).drew)
             generalize hv : v4.drew = v0 at HL HZ HMm HT HA HB
             have hS0 : World.cell? v0 ⟨gb, 0, none⟩ = some (.slice A7 ss.length c7) ∧ World.cell? v0 ⟨gb, 1, none⟩ = some (.slice B7 vs.length d7) ∧ World.cell? v0 ⟨w.heap.size, 0, none⟩ = some (.slice As ss.length cs) ∧ World.cell? v0 ⟨w.heap.size, 1, none⟩ = some (.slice Av vs.length cv) ∧ World.rangeAt v0 (w.heap.size + 1) 0 (msC m) := ⟨HT.out.cells 0 _ rfl, HT.out.cells 1 _ rfl, HZ.out.cells 0 _ rfl, HZ.out.cells 1 _ rfl, HMm.out.range⟩
             refine wp_region_held_drew (S := fun W => World.cell? W ⟨gb, 0, none⟩ = some (.slice A7 ss.length c7) ∧ World.cell? W ⟨gb, 1, none⟩ = some (.slice B7 vs.length d7) ∧ World.cell? W ⟨w.heap.size, 0, none⟩ = some (.slice As ss.length cs) ∧ World.cell? W ⟨w.heap.size, 1, none⟩ = some (.slice Av vs.length cv) ∧ World.rangeAt W (w.heap.size + 1) 0 (msC m)) (by kernel_rfl) (by rw [hv]; exact hS0) (fun hHeld => ?_)
             rw [hv] at hHeld ⊢
             clear hv
             refine takes [0] ?_
             refine tkq 1 rfl (yieldsIf_load_mid (by rfl) 50 _ (by rfl) _ _ (by rfl) (msC m) _ (fun W h => h.2.2.2.2) Tryz.underlying50 rfl (infoMs m)) (by assumption) ?_
             try simp only [Act.put,qk1,qk2,qk3,qk4,qk5,qk6]
             refine takes [3] ?_
             refine tkq 4 rfl (yieldsIf_load_mid (by rfl) 50 _ (by rfl) _ _ (by rfl) (msC m) _ (fun W h => h.2.2.2.2) Tryz.underlying50 rfl (infoMs m)) (by assumption) ?_
             try simp only [Act.put,qk1,qk2,qk3,qk4,qk5,qk6]
             refine tkr 2 rfl (fun K hK => ?_)
             go_simp
             go_at_call 20
             refine (HSee.out A7 B7 c7 d7 _ HL.out HA.out.rd HB.out.rd).mono ?_
             rintro e v1 ⟨A8, c8, B8, d8, rfl, hr, hq, hs⟩
             have HR8 := hD hr
             have HQ8 := hD hq
             have HL := hD (bon HL.out hs)
             have HZ := hD (HZ.out.below hs)
             have HMm := hD (HMm.out.below hs)
             have HT := hD (HT.out.below hs)
             clear hr hq hs
             go_wp2_with fail
             have hS1 : World.cell? v1 ⟨gb, 0, none⟩ = some (.slice A7 ss.length c7) ∧ World.cell? v1 ⟨gb, 1, none⟩ = some (.slice B7 vs.length d7) ∧ World.cell? v1 ⟨w.heap.size, 0, none⟩ = some (.slice As ss.length cs) ∧ World.cell? v1 ⟨w.heap.size, 1, none⟩ = some (.slice Av vs.length cv) ∧ World.rangeAt v1 (w.heap.size + 1) 0 (msC m) := ⟨HT.out.cells 0 _ rfl, HT.out.cells 1 _ rfl, HZ.out.cells 0 _ rfl, HZ.out.cells 1 _ rfl, HMm.out.range⟩
             refine hK.out _ _ hS1 (fun hHeld => ?_)
             clear hK K
             try simp only [Act.put,qk1,qk2,qk3,qk4,qk5,qk6]
             refine tkr 5 rfl (fun K hK => ?_)
             go_simp
             go_at_call 21
             refine (HRee.out _ HL.out).mono ?_
             rintro e v2 ⟨A9, c9, B9, d9, rfl, hr, hq, hs⟩
             have HL := hD (bon HL.out hs)
             have HZ := hD (HZ.out.below hs)
             have HMm := hD (HMm.out.below hs)
             have HT := hD (HT.out.below hs)
             have HR8 := hD (HR8.out.below hs)
             have HQ8 := hD (HQ8.out.below hs)
             have HR9 := hD hr
             have HQ9 := hD hq
             clear hr hq hs
             go_wp2_with fail
             have hS2 : World.cell? v2 ⟨gb, 0, none⟩ = some (.slice A7 ss.length c7) ∧ World.cell? v2 ⟨gb, 1, none⟩ = some (.slice B7 vs.length d7) ∧ World.cell? v2 ⟨w.heap.size, 0, none⟩ = some (.slice As ss.length cs) ∧ World.cell? v2 ⟨w.heap.size, 1, none⟩ = some (.slice Av vs.length cv) ∧ World.rangeAt v2 (w.heap.size + 1) 0 (msC m) := ⟨HT.out.cells 0 _ rfl, HT.out.cells 1 _ rfl, HZ.out.cells 0 _ rfl, HZ.out.cells 1 _ rfl, HMm.out.range⟩
             refine hK.out _ _ hS2 (fun hHeld => ?_)
             clear hK K
             try simp only [Act.put,qk1,qk2,qk3,qk4,qk5,qk6]
             refine tkr 6 rfl (fun K hK => ?_)
             go_simp
             go_at_call 19
             refine (HEqu.out A8 B8 A9 B9 c8 d8 c9 d9 _ HL.out HR8.out HR9.out HQ8.out HQ9.out).mono ?_
             rintro e v3 ⟨rfl, hs⟩
             have HL := hD (bon HL.out hs)
             have HZ := hD (HZ.out.below hs)
             have HMm := hD (HMm.out.below hs)
             have HT := hD (HT.out.below hs)
             clear hs
             go_wp2_with fail
             have hS3 : World.cell? v3 ⟨gb, 0, none⟩ = some (.slice A7 ss.length c7) ∧ World.cell? v3 ⟨gb, 1, none⟩ = some (.slice B7 vs.length d7) ∧ World.cell? v3 ⟨w.heap.size, 0, none⟩ = some (.slice As ss.length cs) ∧ World.cell? v3 ⟨w.heap.size, 1, none⟩ = some (.slice Av vs.length cv) ∧ World.rangeAt v3 (w.heap.size + 1) 0 (msC m) := ⟨HT.out.cells 0 _ rfl, HT.out.cells 1 _ rfl, HZ.out.cells 0 _ rfl, HZ.out.cells 1 _ rfl, HMm.out.range⟩
             refine hK.out _ _ hS3 (fun hHeld => ?_)
             clear hK K
             try simp only [Act.put,qk1,qk2,qk3,qk4,qk5,qk6]
             refine tkr 7 rfl (fun K hK => ?_)
             go_simp
             refine hK.out _ _ hS3 (fun hHeld => ?_)
             clear hK K
             try simp only [Act.put,qk1,qk2,qk3,qk4,qk5,qk6]
             refine wpAnyH_done (by kernel_rfl) ?_ _
             clear hS0 hS1 hS2 hS3 hHeld
             go_wp2_with fail
             go_ret
             exact ret_bl rfl HL.out
         · go_simp
           have HT := hD (Vz.new v0 [.slice none 0 0, .slice none 0 0] 59)
           have HG : Hid (w.heap.size + 2 ≤ (World.heap v0).size) := hD (by have := HMm.out.lt; omega)
           have HL := hD (bon HL.out (below_new v0 (.cells #[.slice none 0 0, .slice none 0 0] 59)))
           have HZ := hD (HZ.out.below (below_new v0 (.cells #[.slice none 0 0, .slice none 0 0] 59)))
           have HMm := hD (HMm.out.below (below_new v0 (.cells #[.slice none 0 0, .slice none 0 0] 59)))
           generalize World.alloc v0 (.cells #[.slice none 0 0, .slice none 0 0] 59) = v1 at HT HL HZ HMm  ⊢
           generalize (World.heap v0).size = gb at HT HG  ⊢
           have hS1 : World.cell? v1 ⟨w.heap.size, 0, none⟩ = some (.slice As ss.length cs) ∧ World.cell? v1 ⟨w.heap.size, 1, none⟩ = some (.slice Av vs.length cv) := ⟨HZ.out.cells 0 _ rfl, HZ.out.cells 1 _ rfl⟩
           refine hK.out _ _ hS1 (fun hHeld => ?_)
           clear hK K
           try simp only [Act.put,qk1,qk2,qk3,qk4,qk5,qk6]
           refine tkr 2 rfl (fun K hK => ?_)
           go_simp
           go_at_call 17
           refine (HC17.out _ HL.out).mono ?_
           rintro e v2 ⟨A7, c7, rfl, hown, hs⟩
           have HA := hD (RdN.own hown (g := gb) HT.out.lt)
           have HL := hD (bon HL.out hs)
           have HZ := hD (HZ.out.below hs)
           have HMm := hD (HMm.out.below hs)
           have HT := hD (HT.out.below hs)
           clear hown hs
           go_wp2_with fail
           have hS2 : World.cell? v2 ⟨w.heap.size, 0, none⟩ = some (.slice As ss.length cs) ∧ World.cell? v2 ⟨w.heap.size, 1, none⟩ = some (.slice Av vs.length cv) := ⟨HZ.out.cells 0 _ rfl, HZ.out.cells 1 _ rfl⟩
           refine hK.out _ _ hS2 (fun hHeld => ?_)
           clear hK K
           try simp only [Act.put,qk1,qk2,qk3,qk4,qk5,qk6]
           refine tkr 5 rfl (fun K hK => ?_)
           go_simp
           go_at_call 18
           refine (HC18.out _ HL.out).mono ?_
           rintro e v3 ⟨B7, d7, rfl, hown, hs⟩
           have HB := hD (RdN.own hown (g := gb) HT.out.lt)
           have HL := hD (bon HL.out hs)
           have HZ := hD (HZ.out.below hs)
           have HMm := hD (HMm.out.below hs)
           have HT := hD (HT.out.below hs)
           have HA := hD (HA.out.below hs)
           clear hown hs
           go_wp2_with fail
           have hS3 : World.cell? v3 ⟨w.heap.size, 0, none⟩ = some (.slice As ss.length cs) ∧ World.cell? v3 ⟨w.heap.size, 1, none⟩ = some (.slice Av vs.length cv) := ⟨HZ.out.cells 0 _ rfl, HZ.out.cells 1 _ rfl⟩
           refine hK.out _ _ hS3 (fun hHeld => ?_)
           clear hK K
           try simp only [Act.put,qk1,qk2,qk3,qk4,qk5,qk6]
           refine takes [6] ?_
           refine tkr 8 rfl (fun K hK => ?_)
           have y0 := HT.out.cells 0 _ rfl
           have y1 := HT.out.cells 1 _ rfl
           have e0 := HT.out.free 0 (by simp)
           have e1 := HT.out.free 1 (by simp)
           have ly := HT.out.lt
           go_simp
           have hge : w.heap.size ≤ gb := by have := HG.out; omega
           have hne : (some gb : Option Nat) ≠ some w.heap.size := fun h => by injection h; have := HG.out; omega
           have hne1 : (some gb : Option Nat) ≠ some (w.heap.size + 1) := fun h => by injection h; have := HG.out; omega
           have hg0 := grown_set v3 ⟨gb, 0, none⟩ (.slice A7 ss.length c7)
           have hg1 := grown_set (World.setCell v3 ⟨gb, 0, none⟩ (.slice A7 ss.length c7)) ⟨gb, 1, none⟩ (.slice B7 vs.length d7)
           have HL := hD ((HL.out.setCell (p := ⟨gb, 0, none⟩) hge (.slice A7 ss.length c7)).setCell (p := ⟨gb, 1, none⟩) hge (.slice B7 vs.length d7))
           have HZ := hD ((HZ.out.grown hg0 hne).grown hg1 hne)
           have HMm := hD ((HMm.out.grown hg0 hne1).grown hg1 hne1)
           have HA := hD ((HA.out.far 0 (.slice A7 ss.length c7)).far 1 (.slice B7 vs.length d7))
           have HB := hD ((HB.out.far 0 (.slice A7 ss.length c7)).far 1 (.slice B7 vs.length d7))
           have HT := hD (((HT.out.set 0 (.slice A7 ss.length c7)).set 1 (.slice B7 vs.length d7)).eq (cs' := [.slice A7 ss.length c7, .slice B7 vs.length d7]) rfl)
           clear y0 y1 e0 e1 ly hge hne hne1 hg0 hg1
           generalize World.setCell (World.setCell v3 ⟨gb, 0, none⟩ (.slice A7 ss.length c7)) ⟨gb, 1, none⟩ (.slice B7 vs.length d7) = v4 at HL HZ HMm HT HA HB ⊢
           have hS4 : World.cell? v4 ⟨w.heap.size, 0, none⟩ = some (.slice As ss.length cs) ∧ World.cell? v4 ⟨w.heap.size, 1, none⟩ = some (.slice Av vs.length cv) := ⟨HZ.out.cells 0 _ rfl, HZ.out.cells 1 _ rfl⟩
           refine hK.out _ _ hS4 (fun hHeld => ?_)
           clear hK K
           try simp only [Act.put,qk1,qk2,qk3,qk4,qk5,qk6]
           refine wpAnyH_done (by kernel_rfl) ?_ _
           clear hHeld hS0 hS1 hS2 hS3 hS4
           go_upto_region 4 with fail
           have HL : Hid (Below w.heap.size w v4.drew) := hD (bon HL.out (Below.refl _ _).drew)
           have HZ : Hid (Vz v4.drew w.heap.size [.slice As ss.length cs, .slice Av vs.length cv]) := hD (HZ.out.below (Below.refl _ _).drew)
           have HMm : Hid (Vz v4.drew (w.heap.size + 1) (msC m)) := hD (HMm.out.below (Below.refl _ _).drew)
           have HT : Hid (Vz v4.drew gb [.slice A7 ss.length c7, .slice B7 vs.length d7]) := hD (HT.out.below (Below.refl _ _).drew)
           have HA : Hid (RdN gb v4.drew 12 A7 ss.length (ss.flatMap stC)) := hD (HA.out.below (Below.refl _ _).drew)
           have HB : Hid (RdN gb v4.drew 1 B7 vs.length (strC vs)) := hD (HB.out.below (Below.refl _ _).drew)
           generalize hv : v4.drew = v0 at HL HZ HMm HT HA HB
           have hS0 : World.cell? v0 ⟨gb, 0, none⟩ = some (.slice A7 ss.length c7) ∧ World.cell? v0 ⟨gb, 1, none⟩ = some (.slice B7 vs.length d7) ∧ World.cell? v0 ⟨w.heap.size, 0, none⟩ = some (.slice As ss.length cs) ∧ World.cell? v0 ⟨w.heap.size, 1, none⟩ = some (.slice Av vs.length cv) ∧ World.rangeAt v0 (w.heap.size + 1) 0 (msC m) := ⟨HT.out.cells 0 _ rfl, HT.out.cells 1 _ rfl, HZ.out.cells 0 _ rfl, HZ.out.cells 1 _ rfl, HMm.out.range⟩
           refine wp_region_held_drew (S := fun W => World.cell? W ⟨gb, 0, none⟩ = some (.slice A7 ss.length c7) ∧ World.cell? W ⟨gb, 1, none⟩ = some (.slice B7 vs.length d7) ∧ World.cell? W ⟨w.heap.size, 0, none⟩ = some (.slice As ss.length cs) ∧ World.cell? W ⟨w.heap.size, 1, none⟩ = some (.slice Av vs.length cv) ∧ World.rangeAt W (w.heap.size + 1) 0 (msC m)) (by kernel_rfl) (by rw [hv]; exact hS0) (fun hHeld => ?_)
           rw [hv] at hHeld ⊢
           clear hv
           refine takes [0] ?_
           refine tkq 1 rfl (yieldsIf_load_mid (by rfl) 50 _ (by rfl) _ _ (by rfl) (msC m) _ (fun W h => h.2.2.2.2) Tryz.underlying50 rfl (infoMs m)) (by assumption) ?_
           try simp only [Act.put,qk1,qk2,qk3,qk4,qk5,qk6]
           refine takes [3] ?_
           refine tkq 4 rfl (yieldsIf_load_mid (by rfl) 50 _ (by rfl) _ _ (by rfl) (msC m) _ (fun W h => h.2.2.2.2) Tryz.underlying50 rfl (infoMs m)) (by assumption) ?_
           try simp only [Act.put,qk1,qk2,qk3,qk4,qk5,qk6]
           refine tkr 2 rfl (fun K hK => ?_)
           go_simp
           go_at_call 20
           refine (HSee.out A7 B7 c7 d7 _ HL.out HA.out.rd HB.out.rd).mono ?_
           rintro e v1 ⟨A8, c8, B8, d8, rfl, hr, hq, hs⟩
           have HR8 := hD hr
           have HQ8 := hD hq
           have HL := hD (bon HL.out hs)
           have HZ := hD (HZ.out.below hs)
           have HMm := hD (HMm.out.below hs)
           have HT := hD (HT.out.below hs)
           clear hr hq hs
           go_wp2_with fail
           have hS1 : World.cell? v1 ⟨gb, 0, none⟩ = some (.slice A7 ss.length c7) ∧ World.cell? v1 ⟨gb, 1, none⟩ = some (.slice B7 vs.length d7) ∧ World.cell? v1 ⟨w.heap.size, 0, none⟩ = some (.slice As ss.length cs) ∧ World.cell? v1 ⟨w.heap.size, 1, none⟩ = some (.slice Av vs.length cv) ∧ World.rangeAt v1 (w.heap.size + 1) 0 (msC m) := ⟨HT.out.cells 0 _ rfl, HT.out.cells 1 _ rfl, HZ.out.cells 0 _ rfl, HZ.out.cells 1 _ rfl, HMm.out.range⟩
           refine hK.out _ _ hS1 (fun hHeld => ?_)
           clear hK K
           try simp only [Act.put,qk1,qk2,qk3,qk4,qk5,qk6]
           refine tkr 5 rfl (fun K hK => ?_)
           go_simp
           go_at_call 21
           refine (HRee.out _ HL.out).mono ?_
           rintro e v2 ⟨A9, c9, B9, d9, rfl, hr, hq, hs⟩
           have HL := hD (bon HL.out hs)
           have HZ := hD (HZ.out.below hs)
           have HMm := hD (HMm.out.below hs)
           have HT := hD (HT.out.below hs)
           have HR8 := hD (HR8.out.below hs)
           have HQ8 := hD (HQ8.out.below hs)
           have HR9 := hD hr
           have HQ9 := hD hq
           clear hr hq hs
           go_wp2_with fail
           have hS2 : World.cell? v2 ⟨gb, 0, none⟩ = some (.slice A7 ss.length c7) ∧ World.cell? v2 ⟨gb, 1, none⟩ = some (.slice B7 vs.length d7) ∧ World.cell? v2 ⟨w.heap.size, 0, none⟩ = some (.slice As ss.length cs) ∧ World.cell? v2 ⟨w.heap.size, 1, none⟩ = some (.slice Av vs.length cv) ∧ World.rangeAt v2 (w.heap.size + 1) 0 (msC m) := ⟨HT.out.cells 0 _ rfl, HT.out.cells 1 _ rfl, HZ.out.cells 0 _ rfl, HZ.out.cells 1 _ rfl, HMm.out.range⟩
           refine hK.out _ _ hS2 (fun hHeld => ?_)
           clear hK K
           try simp only [Act.put,qk1,qk2,qk3,qk4,qk5,qk6]
           refine tkr 6 rfl (fun K hK => ?_)
           go_simp
           go_at_call 19
           refine (HEqu.out A8 B8 A9 B9 c8 d8 c9 d9 _ HL.out HR8.out HR9.out HQ8.out HQ9.out).mono ?_
           rintro e v3 ⟨rfl, hs⟩
           have HL := hD (bon HL.out hs)
           have HZ := hD (HZ.out.below hs)
           have HMm := hD (HMm.out.below hs)
           have HT := hD (HT.out.below hs)
           clear hs
           go_wp2_with fail
           have hS3 : World.cell? v3 ⟨gb, 0, none⟩ = some (.slice A7 ss.length c7) ∧ World.cell? v3 ⟨gb, 1, none⟩ = some (.slice B7 vs.length d7) ∧ World.cell? v3 ⟨w.heap.size, 0, none⟩ = some (.slice As ss.length cs) ∧ World.cell? v3 ⟨w.heap.size, 1, none⟩ = some (.slice Av vs.length cv) ∧ World.rangeAt v3 (w.heap.size + 1) 0 (msC m) := ⟨HT.out.cells 0 _ rfl, HT.out.cells 1 _ rfl, HZ.out.cells 0 _ rfl, HZ.out.cells 1 _ rfl, HMm.out.range⟩
           refine hK.out _ _ hS3 (fun hHeld => ?_)
           clear hK K
           try simp only [Act.put,qk1,qk2,qk3,qk4,qk5,qk6]
           refine tkr 7 rfl (fun K hK => ?_)
           go_simp
           refine hK.out _ _ hS3 (fun hHeld => ?_)
           clear hK K
           try simp only [Act.put,qk1,qk2,qk3,qk4,qk5,qk6]
           refine wpAnyH_done (by kernel_rfl) ?_ _
           clear hS0 hS1 hS2 hS3 hHeld
           go_wp2_with fail
           go_ret
           exact ret_bl rfl HL.out
   · have g30 : (30 : Int) < (vs.length : Int) := by omega
     go_wp2_with fail
     refine (HAw.out _ HL.out).mono ?_
     rintro e w4 ⟨rfl, hs⟩
     have HL := hD (bon HL.out hs)
     have HZ := hD (HZ.out.below hs)
     have HMm := hD (HMm.out.below hs)
     clear hs
     clear z0 z1 lz
     have z0 := HZ.out.cells 0 _ rfl
     have z1 := HZ.out.cells 1 _ rfl
     have lz := HZ.out.lt
     go_wp2_with fail
     clear z0 z1 lz
     go_wp2_with fail
     refine (HAw.out _ HL.out).mono ?_
     rintro e w7 ⟨rfl, hs⟩
     have HL := hD (bon HL.out hs)
     have HZ := hD (HZ.out.below hs)
     have HMm := hD (HMm.out.below hs)
     clear hs
     go_wp2_with fail
     go_ret
     exact ret_bl rfl HL.out
 · have g60 : (60 : Int) < (ss.length : Int) := by omega
   go_wp2_with fail
   refine (HAw.out _ HL.out).mono ?_
   rintro e w4 ⟨rfl, hs⟩
   have HL := hD (bon HL.out hs)
   have HZ := hD (HZ.out.below hs)
   have HMm := hD (HMm.out.below hs)
   clear hs
   clear z0 z1 lz
   have z0 := HZ.out.cells 0 _ rfl
   have z1 := HZ.out.cells 1 _ rfl
   have lz := HZ.out.lt
   go_wp2_with fail
   clear z0 z1 lz
   go_wp2_with fail
   refine (HAw.out _ HL.out).mono ?_
   rintro e w7 ⟨rfl, hs⟩
   have HL := hD (bon HL.out hs)
   have HZ := hD (HZ.out.below hs)
   have HMm := hD (HMm.out.below hs)
   clear hs
   go_wp2_with fail
   go_ret
   exact ret_bl rfl HL.out
end Go.Proofs.YtikpcebhcnjkhaaGreatDoor
