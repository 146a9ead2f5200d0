/- Tactics that stand in more than one place, each as the default of an argument: the names in them are those of the place where it is used. -/
import Derived.Below
import Derived.BigQuiet
import Derived.ChangeMaps5
import Derived.ChangeSame
import Derived.Deep.AppendLies
import Derived.Deep.Cut
import Derived.Deep.CutBlock
import Derived.Deep.CutRange
import Derived.Deep.DeepHandedRow
import Derived.Deep.Draws
import Derived.Deep.Fields
import Derived.Deep.MidRow
import Derived.Deep.QuietTactic
import Derived.Deep.RegionHeld
import Derived.Deep.RegionHeld3
import Derived.Deep.RegionLaw
import Derived.Deep.RegionWith
import Derived.Deep.Slices
import Derived.Great.BuildSlice
import Derived.Great.Walk
import Derived.IntWalk
import Derived.LaidSub
import Derived.Laws.Bits64
import Derived.Laws.Bits64b
import Derived.Laws.IdiomCopy
import Derived.Laws.IdiomStrings
import Derived.Laws.OwnMore
import Derived.Laws.Rows
import Derived.Laws.Slices
import Derived.Laws.StructEq
import Derived.Lib.AppendIntMem
import Derived.Lib.AtoiAll
import Derived.Lib.AtoiAllCases
import Derived.Lib.AtoiErrMem
import Derived.Lib.BitFns
import Derived.Lib.Hide
import Derived.Lib.ItoaLen
import Derived.Lib.ItoaMem
import Derived.Lib.ItoaNum
import Derived.Lib.Join
import Derived.Lib.LaidTab
import Derived.Lib.SmallJoins
import Derived.Lib.SplitLaws
import Derived.Lib.Strings
import Derived.Lib.UnsafeStr
import Derived.LoopTactic
import Derived.MakeChecks
import Derived.Maps.AppendAt
import Derived.Maps.OwnOps
import Derived.Maps.OwnSet
import Derived.Maps.Range
import Derived.Maps.RangeWalk
import Derived.Maps.StringElems
import Derived.OpenShut
import Derived.Outline
import Derived.OwnWalk
import Derived.ProofKit
import Derived.ReadAgain
import Derived.StillTailTactics
import Derived.Stop.LaidErr
import Derived.Tactics
import Derived.WalkKit
import Derived.WalkLawsBesides
import Derived.WalkSpells
namespace Go.Proofs.YtepbbaifpckcpaaGreatDoor
variable{p:Prop}
abbrev aa:=@if_neg
abbrev ae:=@Go.RowKit.Below.refl
abbrev af:=@if_pos
abbrev ag:=@Nat.le_refl
abbrev ah:=@Nat.le_trans
abbrev ai:=@Go.wpList_store_mid
abbrev aj:=@Go.bodyPost_ret
abbrev ak:=@Go.wpList_load_mid
abbrev au:=@List.length_cons
abbrev av:=@decide_eq_false
abbrev ax:=@Option.some.injEq
abbrev ay:=@List.toList_toArray
abbrev az:=@of_decide_eq_true
abbrev aA:=@Go.NoPanic.normal
abbrev aB:=@Go.wpAnyH_done
abbrev aC:=@Go.wp_region_held_drew
abbrev aD:=@Go.wp_region_noPanic
abbrev aF:=@beq_eq_false_iff_ne
abbrev aG:=@List.length_append
abbrev aH:=@List.getElem_mem
abbrev aI:=@Prod.mk.injEq
abbrev aJ:=@List.length_nil
abbrev aK:=@List.length_drop
abbrev aL:=@congrArg
abbrev aM:=@Go.yieldsIf_load_mid
abbrev aN:=@Nat.lt_of_lt_of_le
abbrev aO:=@decide_eq_true
abbrev aP:=@List.getElem?_eq_getElem
abbrev aQ:=@Go.wp_store_mid
abbrev aR:=@Go.World.ownsRow_nil
abbrev aS:=@Go.Lib.toList_data
abbrev aT:=@Bool.and_eq_true
abbrev aU:=@List.flatMap_cons
abbrev aV:=@beq_iff_eq
abbrev aW:=@if_true
abbrev aX:=@Go.AllReadyH.cons
abbrev aY:=@decide_eq_true_eq
abbrev aZ:=@List.cons_append
abbrev bf:=@Nat.zero_le
abbrev bi:=@List.take_of_length_le
abbrev bq:=@List.take_succ_eq_append_getElem
abbrev bu:=@Go.wpList_append_own
abbrev bv:=@Go.World.cell?_setCell_other
abbrev bz:=@ByteArray.ext
abbrev bA:=@Int.eq_ofNat_of_zero_le
abbrev bB:=@List.drop_eq_getElem_cons
abbrev bC:=@List.mem_cons
abbrev bD:=@Go.AllReadyH.nil
abbrev bE:=@List.append_nil
abbrev bF:=@List.length_map
abbrev bG:=@Go.wpAnyH_ready
abbrev bH:=@List.flatMap_append
abbrev bI:=@Nat.zero_add
abbrev bJ:=@List.drop_eq_nil_of_le
abbrev bK:=@dif_pos
abbrev bL:=@Go.IntWalk.i64_in
abbrev bM:=@List.append_assoc
abbrev bN:=@List.length_take
abbrev bO:=@bne_iff_ne
abbrev bP:=@Go.RowKit.Below.drew
abbrev bQ:=@Bool.eq_iff_iff
abbrev bS:=@Bool.true_and
abbrev bT:=@List.getElem?_map
abbrev bU:=@if_false
abbrev bV:=@Go.wpList_buildTo
abbrev bW:=@Bool.false_eq_true
abbrev bX:=@List.all_eq_true
abbrev bY:=@List.mem_cons_self
abbrev bZ:=@Nat.add_assoc
abbrev cu:=@dif_neg
abbrev cB:=@Go.wpList_append_own_at
abbrev cK:=@List.eq_nil_of_length_eq_zero
abbrev cO:=@List.map_cons
abbrev cZ:=@Go.Addr.mk.injEq
abbrev df:=@List.drop_length
abbrev dh:=@List.getElem?_append_left
abbrev di:=@List.mem_append
abbrev dm:=@List.mem_cons_of_mem
abbrev dn:=@List.mem_singleton
abbrev dw:=@Nat.lt_or_ge
abbrev dx:=@Go.World.cell?_setCell_same
abbrev dz:=@Go.step_append_lies
abbrev dA:=@Bool.and_true
abbrev dB:=@Go.Lib.itoa_length_le
abbrev dC:=@List.drop_drop
abbrev dD:=@List.getElem?_eq_some_iff
abbrev dE:=@List.map_nil
abbrev dF:=@List.nil_append
abbrev dG:=@Nat.pow_succ
abbrev dH:=@Option.map_some
abbrev dI:=@Go.World.news_of_block
abbrev dJ:=@Go.heap_alloc_new
abbrev dK:=@Go.Lib.lt_of_cell
abbrev dL:=@List.drop_zero
abbrev dM:=@List.getElem?_append_right
abbrev dN:=@List.take_length
abbrev dO:=@Go.Lib.decDigits_one
abbrev dP:=@Go.Lib.extract_data
abbrev dQ:=@List.all_append
abbrev dR:=@List.forall_mem_cons
abbrev dS:=@Nat.add_comm
abbrev dU:=@Nat.add_zero
abbrev dV:=@Nat.pow_le_pow_right
abbrev dW:=@Option.some.inj
abbrev dX:=@decide_eq_false_iff_not
abbrev dY:=@Go.RowKit.Below.alloc
abbrev dZ:=@Bool.and_eq_false_iff
abbrev ed:=@Go.below_drewN
abbrev ek:=@Go.IntWalk.u8_in
abbrev eu:=@List.all_cons
abbrev eB:=@List.drop_left
abbrev eD:=@List.flatMap_nil
abbrev eF:=@List.getElem_drop
abbrev eG:=@List.mem_of_getElem?
abbrev eH:=@List.not_mem_nil
abbrev eO:=@List.takeWhile_cons
abbrev eP:=@or_false
abbrev eQ:=@Go.IntKind.wrap_u64
abbrev eT:=@Go.Lib.itoa_nonneg
abbrev eU:=@List.dropWhile_cons_of_pos
abbrev eX:=@List.filter_cons
abbrev eY:=@List.headD_cons
abbrev eZ:=@List.map_map
abbrev fe:=@Nat.mod_eq_of_lt
abbrev fq:=@Nat.mul_le_mul_right
abbrev fu:=@Prod.mk.inj
abbrev fw:=@Go.World.ownsRow_lit
abbrev fA:=@and_true
abbrev fB:=@Array.toList_inj
abbrev fC:=@Bool.and_false
abbrev fD:=@Bool.false_or
abbrev fE:=@Go.DataW.lit.injEq
abbrev fF:=@Go.MakeChecks.laidMetH_plain
abbrev fG:=@Go.Maps.int_keyed
abbrev fH:=@Int.le_refl
abbrev fI:=@Go.Lib.join_cons
abbrev fJ:=@List.all_nil
abbrev fK:=@List.filter_nil
abbrev fM:=@List.getElem?_drop
abbrev fO:=@List.getElem?_eq_none
abbrev fP:=@List.length_singleton
abbrev fQ:=@List.map_append
abbrev fT:=@List.map_id
abbrev fU:=@List.mem_range
abbrev fV:=@List.sum_nil
abbrev fZ:=@List.take_append_drop
abbrev gm:=@List.take_succ_cons
abbrev gp:=@Go.Lit.string.injEq
abbrev gq:=@Nat.mul_comm
abbrev gu:=@Nat.sub_self
abbrev gy:=@Nat.succ_mul
abbrev gz:=@UInt8.toNat_inj
abbrev gB:=@Go.World.cell?_setCells_out
abbrev gD:=@decide_false
abbrev gF:=@decide_true
abbrev gG:=@not_true_eq_false
abbrev gH:=@Go.run_loadVar_mid
abbrev gI:=@Bool.false_and
abbrev gJ:=@Go.Great.wpList_buildSliceTo
abbrev gK:=@Go.Joins.tab_stays
abbrev gL:=@Int.natCast_ediv
abbrev gM:=@Int.tmod_eq_emod_of_nonneg
abbrev gN:=@Go.Lib.fresh_isBuilder
abbrev gP:=@List.all_eq_false
abbrev gQ:=@List.all_toArray
abbrev gT:=@List.dropWhile_sublist
abbrev gU:=@List.find?_cons
abbrev gV:=@List.find?_nil
abbrev gW:=@List.getD_eq_getElem?_getD
abbrev gX:=@List.getElem_cons_succ
abbrev gY:=@List.getElem_cons_zero
abbrev gZ:=@List.head?_cons
abbrev ib:=@List.mem_of_mem_tail
abbrev ic:=@List.mem_of_mem_take
abbrev ig:=@List.range_succ
abbrev ik:=@List.singleton_append
abbrev il:=@Nat.eq_zero_or_pos
abbrev iq:=@Nat.min_eq_left
abbrev iw:=@Nat.mul_assoc
abbrev iy:=@Go.World.frozen?_setCells
abbrev iA:=@Go.World.rangeAt_setCells_same
abbrev iB:=@Go.World.var?_cell
abbrev iC:=@Go.heap_setCell_other
abbrev iD:=@ByteArray.getElem_extract
abbrev iE:=@Int.tdiv_eq_ediv_of_nonneg
abbrev iF:=@List.contains_eq_any_beq
abbrev iG:=@List.findIdx?_eq_some_iff_getElem
abbrev iH:=@List.getElem?_take_of_lt
abbrev iI:=@List.getLast?_eq_getElem?
abbrev iJ:=@List.setIfInBounds_toArray
abbrev iK:=@List.takeWhile_cons_of_pos
instance:Coe Int Value:=⟨fun n=>.int .i64 n⟩
instance:Coe Nat Value:=⟨fun n=>.int .i64 n⟩
instance:Coe ByteArray Value:=⟨.string⟩
instance:Coe (List UInt8) Value:=⟨fun l=>.string ⟨l.toArray⟩⟩
instance:Coe Bool Value:=⟨.bool⟩
instance:CoeDep Unit () Value:=⟨.int .i64 0⟩
instance:CoeDep String "" Value:=⟨.string ⟨#[]⟩⟩
instance:CoeDep String "s" Value:=⟨.slice none 0 0⟩
theorem fo0(h:p:=by
 have hC4:=HCC.out w10 HBr.out;refine hK.out _ _ hC4 (fun hHeld=> ?_);clear hK K;try simp only[Act.put,qk1,qk2,qk3,qk4,qk5,qk6]
 refine aB jb ?_ _;refine aA ?_;clear hC hC2 hC3 hC4 hHeld HCC a0 cR lR hsz;have hb9l:=H9.out.lt;have hw10:=HBr.out.size;go_wp2_with (refine ak rfl 167 _ rfl b9 0 rfl (rcC q1) _ H9.out.range underlying167 rfl (zt q1) ?_);refine(zbL q1 w10 HLq.out).mono ?_;rintro e w11 ⟨y,he,hy,hst,hb⟩;rw[HTy.out]at he hy;obtain rfl:e= .returned (.tuple #[.agg y,.agg (rcC q2).toArray]):=he;have H9:=hD ((H9.out.below hb).below (za w11 (.cells (deC y).toArray 100)));have HBr:=hD (bon (bon HBr.out hb) (za w11 (.cells (deC y).toArray 100)));have HN9:=hD ((HN9.out.below hb).below (za w11 (.cells (deC y).toArray 100)));have HY:=hD (hst.on (zl _ (za w11 (.cells (deC y).toArray 100))));have H10:=hD (Vr.new w11 (deC y) 100);have HYe:=hD hy;have hu10:wr.heap.size≤w10.heap.size:=hw10;have h911:b9<w11.heap.size:=aN hb9l hb.size;clear hst hb hy;have HBr:=hD (zf HBr.out (zb (b:=b9) (rcC q2)) hb9);have HN9:=hD (HN9.out.row (zb (b:=b9) (rcC q2)) (Or.inr rfl));have HY:=hD (HY.out.on (zh (zb (b:=b9) (rcC q2)) hb9l));have H10:=hD (H10.out.grown (zb (b:=b9) (rcC q2)) ja);go_upto_region 12 with(refine ai rfl 167 _ _ rfl b9 0 (rcC q2).toArray rfl rfl ?_ (zt q2) (zO q2) ?_;· exact H9.out.there (n:=2) rfl)
 try simp only[ay]
 have H9:=hD (H9.out.sets (rcC q2) rfl);change Code.wp _ _ _ _ ((w11.alloc (.cells (deC y).toArray 100)).setCells b9 0 (rcC q2));generalize (w11.alloc (.cells (deC y).toArray 100)).setCells b9 0 (rcC q2)=w12 at HBr HN9 HY H10 H9⊢;generalize hb10:w11.heap.size=b10 at H10 h911⊢;have hb10w:wr.heap.size<b10:=by omega
 clear hb10;have c90:=H9.out.cells 0 _ rfl;have c91:=H9.out.cells 1 _ rfl;have l9:=H9.out.lt;obtain⟨s2,k2⟩:=q2;simp only at c90 c91;cases k2 with
 |false=>exact fo230
 |true=>
  cases s2 with
  |cons q0 qs=>exact fo230
  |nil=>
   have HWh:Hid (whole rdHo t4[j]=some (Ho.er ⟨k0,y⟩)):=hD (by rw[←HTt.out,ho_whole,HTq.out];show some (Ho.mk k0 d)=some (Ho.mk k0 y.er);rw[HYe.out]);go_wp2_with fail;clear c90 c91 l9;refine aD ?_;have HBr:=hD (HBr.out.drew);have H10:=hD (H10.out.below (ae _ _).drew);have HN9:=hD (HN9.out.below (ae _ _).drew);have HY:=hD (HY.out.on (zl _ (ae _ _).drew));generalize hv:w12.drew=v at HBr H10 HN9 HY;obtain⟨bn,on,hA,hbl,hcc⟩:=yD HN9.out.stays.out jc;subst hA;have HNC:Hid (∀W,Held wr.heap.size b9 (fun W=>Rd W 1 (some ⟨bn,on,none⟩) 1 (intC [k0])) W→W.cell? ⟨bn,on,none⟩=some (.int .i64 k0)):=hD (fun W hW=>by
    obtain⟨b2,o2,hA2,_,hc2⟩:=yD hW.stays.out jc;exact fo276)
   have HXv:=hD (HX.out.below HBr.out);have hC:v.cell? ⟨bn,on,none⟩=some (.int .i64 k0)∧v.rangeAt b10 0 [y.view,y.value,y.cert]:=⟨HNC.out v HN9.out,H10.out.range⟩;have c4:=HXv.out.cells 4 _ rfl;have l5:=HXv.out.lt;clear hcc hbl;refine aC (S:=fun W=>W.cell? ⟨bn,on,none⟩=some (.int .i64 k0)∧W.rangeAt b10 0 [y.view,y.value,y.cert]) jb jar (fun hHeld=> ?_);rw[hv]at hHeld⊢;clear hv;refine takes [0,2,3,4] ?_;refine tkq 5 rfl (aM ji 100 _ ji _ 0 ji [y.view,y.value,y.cert] _ (fun _ h=>h.2) underlying100 rfl (Yb y)) je ?_;try simp only[Act.put,qk1,qk2,qk3,qk4,qk5,qk6]
   refine takes [6] ?_;refine bG (rs:=[1,7]) jb jc ?_;refine aX (o:=_) rfl (fun K hK=> ?_) ?_
   · go_simp;refine hK.out _ _ hC (fun hHeld=> ?_);clear hK K;try simp only[Act.put,qk1,qk2,qk3,qk4,qk5,qk6]
     refine tkr 7 rfl (fun K hK=> ?_);go_simp;have HBa:Hid (Below wr.heap.size wr (v.alloc (.cells #[k0,y.view,y.value,y.cert] 147))):=hD (bon HBr.out (za _ _));have H10:=hD (H10.out.below (za v (.cells #[k0,y.view,y.value,y.cert] 147)));have HN9:=hD (HN9.out.below (za v (.cells #[k0,y.view,y.value,y.cert] 147)));have HY:=hD (HY.out.on (zl _ (za v (.cells #[k0,y.view,y.value,y.cert] 147))));have hnew:=zN v [k0,y.view,y.value,y.cert] 147 _ rfl;have hza:(v.alloc (.cells #[k0,y.view,y.value,y.cert] 147)).heap.size=v.heap.size+1:=by simp
     generalize v.alloc (.cells #[k0,y.view,y.value,y.cert] 147)=va at HBa H10 HN9 HY hnew hza⊢;have c4a:=(HX.out.below HBa.out).cells 4 _ rfl;have l5a:=(HX.out.below HBa.out).lt;have hCa:va.cell? ⟨bn,on,none⟩=some (.int .i64 k0)∧va.rangeAt b10 0 [y.view,y.value,y.cert]:=⟨HNC.out va HN9.out,H10.out.range⟩;exact fo226
   refine aX (o:=_) rfl (fun K hK=> ?_) bD;go_simp;have HBa:Hid (Below wr.heap.size wr (v.alloc (.cells #[k0,y.view,y.value,y.cert] 147))):=hD (bon HBr.out (za _ _));have H10:=hD (H10.out.below (za v (.cells #[k0,y.view,y.value,y.cert] 147)));have HN9:=hD (HN9.out.below (za v (.cells #[k0,y.view,y.value,y.cert] 147)));have HY:=hD (HY.out.on (zl _ (za v (.cells #[k0,y.view,y.value,y.cert] 147))));have hnew:=zN v [k0,y.view,y.value,y.cert] 147 _ rfl;have hza:(v.alloc (.cells #[k0,y.view,y.value,y.cert] 147)).heap.size=v.heap.size+1:=by simp
   generalize v.alloc (.cells #[k0,y.view,y.value,y.cert] 147)=va at HBa H10 HN9 HY hnew hza⊢;have c4a:=(HX.out.below HBa.out).cells 4 _ rfl;have l5a:=(HX.out.below HBa.out).lt;have hCa:va.cell? ⟨bn,on,none⟩=some (.int .i64 k0)∧va.rangeAt b10 0 [y.view,y.value,y.cert]:=⟨HNC.out va HN9.out,H10.out.range⟩;refine hK.out _ _ hCa (fun hHeld=> ?_);clear hK K;try simp only[Act.put,qk1,qk2,qk3,qk4,qk5,qk6]
   refine tkr 1 rfl (fun K hK=> ?_);go_simp;exact fo226):p:=h
theorem fo1(h:p:=by
 refine tkr 22 rfl (fun K hK=> ?_);rw[af ji];refine aQ 38 _ _ rfl b4 0 (msC ⟨n0,n1,n2,n3,n4,t1,n5,sg0,Sl.nil,Sl.nil,⟨0,[],Sl.nil,Sl.nil,Sl.nil⟩,Sl.nil⟩).toArray rfl rfl (HX.out.there rfl) (zD ⟨n0,n1,n2,n3,n4,t1,n5,sg0,Sl.nil,Sl.nil,⟨0,[],Sl.nil,Sl.nil,Sl.nil⟩,Sl.nil⟩) (yu ⟨n0,n1,n2,n3,n4,t1,n5,sg0,Sl.nil,Sl.nil,⟨0,[],Sl.nil,Sl.nil,Sl.nil⟩,Sl.nil⟩) ?_;have HS:Hid (SsTo w g s1 (v2.setCells b4 0 (msC ⟨n0,n1,n2,n3,n4,t1,n5,sg0,Sl.nil,Sl.nil,⟨0,[],Sl.nil,Sl.nil,Sl.nil⟩,Sl.nil⟩))):=hD (HS1.out.own (zb (b:=b4) (msC ⟨n0,n1,n2,n3,n4,t1,n5,sg0,Sl.nil,Sl.nil,⟨0,[],Sl.nil,Sl.nil,Sl.nil⟩,Sl.nil⟩)) ja ja);have HV:Hid (Vr (v2.setCells b4 0 (msC ⟨n0,n1,n2,n3,n4,t1,n5,sg0,Sl.nil,Sl.nil,⟨0,[],Sl.nil,Sl.nil,Sl.nil⟩,Sl.nil⟩)) w.heap.size [(),(),(),(),(),"",(),(),(),(),(),"","","s","s",(),"","s","s","s","s"]):=hD (HV.out.grown (zb (b:=b4) (msC ⟨n0,n1,n2,n3,n4,t1,n5,sg0,Sl.nil,Sl.nil,⟨0,[],Sl.nil,Sl.nil,Sl.nil⟩,Sl.nil⟩)) ja);have HX:Hid (Vr (v2.setCells b4 0 (msC ⟨n0,n1,n2,n3,n4,t1,n5,sg0,Sl.nil,Sl.nil,⟨0,[],Sl.nil,Sl.nil,Sl.nil⟩,Sl.nil⟩)) b4 (msC ⟨n0,n1,n2,n3,n4,t1,n5,sg0,Sl.nil,Sl.nil,⟨0,[],Sl.nil,Sl.nil,Sl.nil⟩,Sl.nil⟩)):=hD (HX.out.sets (msC ⟨n0,n1,n2,n3,n4,t1,n5,sg0,Sl.nil,Sl.nil,⟨0,[],Sl.nil,Sl.nil,Sl.nil⟩,Sl.nil⟩) rfl);have hC:(v2.setCells b4 0 (msC ⟨n0,n1,n2,n3,n4,t1,n5,sg0,Sl.nil,Sl.nil,⟨0,[],Sl.nil,Sl.nil,Sl.nil⟩,Sl.nil⟩)).cell? ⟨b,off,none⟩=some (.int .i64 n0)∧(v2.setCells b4 0 (msC ⟨n0,n1,n2,n3,n4,t1,n5,sg0,Sl.nil,Sl.nil,⟨0,[],Sl.nil,Sl.nil,Sl.nil⟩,Sl.nil⟩)).cell? ⟨b,off+1,none⟩=some (.int .i64 n1)∧(v2.setCells b4 0 (msC ⟨n0,n1,n2,n3,n4,t1,n5,sg0,Sl.nil,Sl.nil,⟨0,[],Sl.nil,Sl.nil,Sl.nil⟩,Sl.nil⟩)).cell? ⟨b,off+2,none⟩=some (.int .i64 n2)∧(v2.setCells b4 0 (msC ⟨n0,n1,n2,n3,n4,t1,n5,sg0,Sl.nil,Sl.nil,⟨0,[],Sl.nil,Sl.nil,Sl.nil⟩,Sl.nil⟩)).cell? ⟨b,off+3,none⟩=some (.int .i64 n3)∧(v2.setCells b4 0 (msC ⟨n0,n1,n2,n3,n4,t1,n5,sg0,Sl.nil,Sl.nil,⟨0,[],Sl.nil,Sl.nil,Sl.nil⟩,Sl.nil⟩)).cell? ⟨b,off+4,none⟩=some (.int .i64 n4)∧(v2.setCells b4 0 (msC ⟨n0,n1,n2,n3,n4,t1,n5,sg0,Sl.nil,Sl.nil,⟨0,[],Sl.nil,Sl.nil,Sl.nil⟩,Sl.nil⟩)).cell? ⟨b,off+5,none⟩=some (.int .i64 n5):=HCW.out _ (zbh HK.out (zb (b:=b4) (msC ⟨n0,n1,n2,n3,n4,t1,n5,sg0,Sl.nil,Sl.nil,⟨0,[],Sl.nil,Sl.nil,Sl.nil⟩,Sl.nil⟩)) (Or.inr ja));refine hK.out _ _ hC (fun hHeld=> ?_);clear hK K;try simp only[Act.put,qk1,qk2,qk3]
 refine aB jb ?_ _;refine aA ?_;try simp only[ay]
 generalize v2.setCells b4 0 (msC ⟨n0,n1,n2,n3,n4,t1,n5,sg0,Sl.nil,Sl.nil,⟨0,[],Sl.nil,Sl.nil,Sl.nil⟩,Sl.nil⟩)=u0 at HS HV HX⊢;clear hC hHeld2 HK;go_wp2_with fail;refine(Y9 g s1 _ HS.out.2 (ah HL1.out jf)).mono ?_;rintro e u1 ⟨rfl,hss⟩;rw[show yx s1=(t2,s2) from HT2.out]at hss⊢;simp only at hss⊢;have hsz1:=hss.1.size;have HV:Hid (Vr u1 w.heap.size [(),(),(),(),(),"",(),(),(),(),(),"","","s","s",(),"","s","s","s","s"]):=hD (HV.out.grown hss.1 ja);have HX:=hD (HX.out.grown hss.1 ja);have HS:Hid (SsTo w g s2 u1):=hD (HS.out.trans hss);clear hss;go_wp2_with fail;refine(zdW g s2 t2 _ HS.out.2 (fun q W hW=>YL q ⟨t2,false⟩ W hW (ah HTL2.out jf))).mono ?_;rintro e u2 ⟨x3,he,hx,hst3,hss⟩;obtain rfl:e= .returned (.agg x3):=he;rw[show yt tkSg t2 s2=(t3,s3) from HT3.out]at hss hx;simp only at hss hx;have HX3:=hD hx;clear hx;have HR3:=hD (yI (a:=w.heap.size+1) (b4:=b4) hst3 jac (Or.inl jac));have hsz2:=hss.1.size;have HV:Hid (Vr u2 w.heap.size [(),(),(),(),(),"",(),(),(),(),(),"","","s","s",(),"","s","s","s","s"]):=hD (HV.out.grown hss.1 ja);have HX:=hD (HX.out.grown hss.1 ja);have HS:Hid (SsTo w g s3 u2):=hD (HS.out.trans hss);clear hss hst3;go_upto_region 4 with(refine ai rfl 29 _ _ rfl b4 7 (sgC x3).toArray rfl rfl (HX.out.there_at 7 6 (az rfl)) (yP x3) (Yr x3) ?_);try simp only[ay]
 have HS:Hid (SsTo w g s3 (u2.setCells b4 7 (sgC x3))):=hD (HS.out.own (zq (b:=b4) (o:=7) (sgC x3)) ja ja);have HV:Hid (Vr (u2.setCells b4 7 (sgC x3)) w.heap.size [(),(),(),(),(),"",(),(),(),(),(),"","","s","s",(),"","s","s","s","s"]):=hD (HV.out.grown (zq (b:=b4) (o:=7) (sgC x3)) ja);have HX:Hid (Vr (u2.setCells b4 7 (sgC x3)) b4 (msC ⟨n0,n1,n2,n3,n4,t1,n5,x3,Sl.nil,Sl.nil,⟨0,[],Sl.nil,Sl.nil,Sl.nil⟩,Sl.nil⟩)):=hD ((HX.out.sets_at 7 (sgC x3) (az rfl)).eq rfl);have HR3:=hD (HR3.out.row (zq (b:=b4) (o:=7) (sgC x3)) (Or.inr rfl));generalize u2.setCells b4 7 (sgC x3)=u3 at HS HV HX HR3⊢;go_wp2_with fail;refine(partsSt_any g s3 _ HS.out.2 HL3.out (fun t ht q W hW=>zfX q ⟨t,false⟩ W hW (ah ht HL3.out))).mono ?_;rintro e u4 ⟨x4,rfl,hx,hst4,hss⟩;rw[show yE tkSt s3=(t4,s4) from HT4.out]at hss hx;simp only at hss hx;have HX4:=hD hx;clear hx;have HR4:=hD (yI (a:=w.heap.size+1) (b4:=b4) hst4 jac (Or.inl jac));have hsz4:=hss.1.size;have HV:Hid (Vr u4 w.heap.size [(),(),(),(),(),"",(),(),(),(),(),"","","s","s",(),"","s","s","s","s"]):=hD (HV.out.grown hss.1 ja);have HX:=hD (HX.out.grown hss.1 ja);have HR3:=hD (HR3.out.row hss.1 (Or.inl ja));have HS:Hid (SsTo w g s4 u4):=hD (HS.out.trans hss);clear hss hst4;go_wp2_with fail;refine(partsDe_any g s4 _ HS.out.2 HL4.out (fun t ht q W hW=>zdx q ⟨t,false⟩ W hW (ah ht HL4.out))).mono ?_;rintro e u5 ⟨x5,rfl,hx,hst5,hss⟩;rw[show yE tkDe s4=(t5,s5) from HT5.out]at hss hx;simp only at hss hx;have HX5:=hD hx;clear hx;have HR5:=hD (yI (a:=w.heap.size+1) (b4:=b4) hst5 jac (Or.inl jac));have hsz5:=hss.1.size;have HV:Hid (Vr u5 w.heap.size [(),(),(),(),(),"",(),(),(),(),(),"","","s","s",(),"","s","s","s","s"]):=hD (HV.out.grown hss.1 ja);have HX:=hD (HX.out.grown hss.1 ja);have HR3:=hD (HR3.out.row hss.1 (Or.inl ja));have HR4:=hD (HR4.out.row hss.1 (Or.inl ja));have HS:Hid (SsTo w g s5 u5):=hD (HS.out.trans hss);clear hss hst5;have c13x:=HX.out.cells 13 _ rfl;have f13x:=HX.out.free 13 (az rfl);have c14x:=HX.out.cells 14 _ rfl;have f14x:=HX.out.free 14 (az rfl);have lx:=HX.out.lt;go_upto_region 5 with fail;have HS:Hid (SsTo w g s5 ((u5.setCell ⟨b4,13,none⟩ (.slice x4.a x4.l.length x4.c)).setCell ⟨b4,14,none⟩ (.slice x5.a x5.l.length x5.c))):=hD ((HS.out.own (ze u5 ⟨b4,13,none⟩ (.slice x4.a x4.l.length x4.c)) jeu (by show g≠b4;omega)).own (ze ((u5.setCell ⟨b4,13,none⟩ (.slice x4.a x4.l.length x4.c))) ⟨b4,14,none⟩ (.slice x5.a x5.l.length x5.c)) jeu (by show g≠b4;omega));have HV:Hid (Vr ((u5.setCell ⟨b4,13,none⟩ (.slice x4.a x4.l.length x4.c)).setCell ⟨b4,14,none⟩ (.slice x5.a x5.l.length x5.c)) w.heap.size [(),(),(),(),(),"",(),(),(),(),(),"","","s","s",(),"","s","s","s","s"]):=hD ((HV.out.grown (ze u5 ⟨b4,13,none⟩ (.slice x4.a x4.l.length x4.c)) jev).grown (ze ((u5.setCell ⟨b4,13,none⟩ (.slice x4.a x4.l.length x4.c))) ⟨b4,14,none⟩ (.slice x5.a x5.l.length x5.c)) jev);have HX:Hid (Vr ((u5.setCell ⟨b4,13,none⟩ (.slice x4.a x4.l.length x4.c)).setCell ⟨b4,14,none⟩ (.slice x5.a x5.l.length x5.c)) b4 (msC ⟨n0,n1,n2,n3,n4,t1,n5,x3,x4,x5,⟨0,[],Sl.nil,Sl.nil,Sl.nil⟩,Sl.nil⟩)):=hD (((HX.out.set 13 (.slice x4.a x4.l.length x4.c)).set 14 (.slice x5.a x5.l.length x5.c)).eq rfl);have HR3:=hD ((HR3.out.row (ze u5 ⟨b4,13,none⟩ (.slice x4.a x4.l.length x4.c)) (Or.inr rfl)).row (ze ((u5.setCell ⟨b4,13,none⟩ (.slice x4.a x4.l.length x4.c))) ⟨b4,14,none⟩ (.slice x5.a x5.l.length x5.c)) (Or.inr rfl));have HR4:=hD ((HR4.out.row (ze u5 ⟨b4,13,none⟩ (.slice x4.a x4.l.length x4.c)) (Or.inr rfl)).row (ze ((u5.setCell ⟨b4,13,none⟩ (.slice x4.a x4.l.length x4.c))) ⟨b4,14,none⟩ (.slice x5.a x5.l.length x5.c)) (Or.inr rfl));have HR5:=hD ((HR5.out.row (ze u5 ⟨b4,13,none⟩ (.slice x4.a x4.l.length x4.c)) (Or.inr rfl)).row (ze ((u5.setCell ⟨b4,13,none⟩ (.slice x4.a x4.l.length x4.c))) ⟨b4,14,none⟩ (.slice x5.a x5.l.length x5.c)) (Or.inr rfl));clear lx c13x f13x c14x f14x;generalize ((u5.setCell ⟨b4,13,none⟩ (.slice x4.a x4.l.length x4.c)).setCell ⟨b4,14,none⟩ (.slice x5.a x5.l.length x5.c))=u6 at HS HV HX HR3 HR4 HR5⊢;go_wp2_with fail;refine(Y9 g s5 _ HS.out.2 (ah HL5.out jf)).mono ?_;rintro e u7 ⟨rfl,hss⟩;rw[show yx s5=(t6,s6) from HT6.out]at hss⊢;simp only at hss⊢;have hsz7:=hss.1.size;have HV:Hid (Vr u7 w.heap.size [(),(),(),(),(),"",(),(),(),(),(),"","","s","s",(),"","s","s","s","s"]):=hD (HV.out.grown hss.1 ja);have HX:=hD (HX.out.grown hss.1 ja);have HR3:=hD (HR3.out.row hss.1 (Or.inl ja));have HR4:=hD (HR4.out.row hss.1 (Or.inl ja));have HR5:=hD (HR5.out.row hss.1 (Or.inl ja));have HS:Hid (SsTo w g s6 u7):=hD (HS.out.trans hss);clear hss;go_wp2_with fail;refine(partSn_any g s6 t6 _ HS.out.2 (fun q W hW=>zep q ⟨t6,false⟩ W hW HTL6.out)).mono ?_;rintro e u8 ⟨x7,he,hx,hst7,hss⟩;obtain rfl:e= .returned (.agg x7):=he;rw[show yt tkSn t6 s6=(t7,s7) from HT7.out]at hss hx;simp only at hss hx;have HX7:=hD hx;clear hx;have HR7:=hD (yI (a:=w.heap.size+1) (b4:=b4) hst7 jac (Or.inl jac));have hsz8:=hss.1.size;have HV:Hid (Vr u8 w.heap.size [(),(),(),(),(),"",(),(),(),(),(),"","","s","s",(),"","s","s","s","s"]):=hD (HV.out.grown hss.1 ja);have HX:=hD (HX.out.grown hss.1 ja);have HR3:=hD (HR3.out.row hss.1 (Or.inl ja));have HR4:=hD (HR4.out.row hss.1 (Or.inl ja));have HR5:=hD (HR5.out.row hss.1 (Or.inl ja));have HS:Hid (SsTo w g s7 u8):=hD (HS.out.trans hss);clear hss hst7;go_upto_region 6 with(refine ai rfl 36 _ _ rfl b4 15 (snC x7).toArray rfl rfl (HX.out.there_at 15 5 (az rfl)) (ZC x7) (zac x7) ?_);try simp only[ay]
 have HS:Hid (SsTo w g s7 (u8.setCells b4 15 (snC x7))):=hD (HS.out.own (zq (b:=b4) (o:=15) (snC x7)) ja ja);have HV:Hid (Vr (u8.setCells b4 15 (snC x7)) w.heap.size [(),(),(),(),(),"",(),(),(),(),(),"","","s","s",(),"","s","s","s","s"]):=hD (HV.out.grown (zq (b:=b4) (o:=15) (snC x7)) ja);have HX:Hid (Vr (u8.setCells b4 15 (snC x7)) b4 (msC ⟨n0,n1,n2,n3,n4,t1,n5,x3,x4,x5,x7,Sl.nil⟩)):=hD ((HX.out.sets_at 15 (snC x7) (az rfl)).eq rfl);have HR3:=hD (HR3.out.row (zq (b:=b4) (o:=15) (snC x7)) (Or.inr rfl));have HR4:=hD (HR4.out.row (zq (b:=b4) (o:=15) (snC x7)) (Or.inr rfl));have HR5:=hD (HR5.out.row (zq (b:=b4) (o:=15) (snC x7)) (Or.inr rfl));have HR7:=hD (HR7.out.row (zq (b:=b4) (o:=15) (snC x7)) (Or.inr rfl));generalize u8.setCells b4 15 (snC x7)=u9 at HS HV HX HR3 HR4 HR5 HR7⊢;go_wp2_with fail;refine(za6 g s7 _ HS.out.2 (ah HL7.out jf)).mono ?_;rintro e u10 ⟨a8,c8,he,hst8,hss⟩;rw[show ZW s7=(t8,s8) from HT8.out]at hss hst8 he;simp only at hss hst8 he;subst he;have HR8:=hD (yI (a:=w.heap.size+1) (b4:=b4) hst8 jac (Or.inl jac));have hsz10:=hss.1.size;have HV:Hid (Vr u10 w.heap.size [(),(),(),(),(),"",(),(),(),(),(),"","","s","s",(),"","s","s","s","s"]):=hD (HV.out.grown hss.1 ja);have HX:=hD (HX.out.grown hss.1 ja);have HR3:=hD (HR3.out.row hss.1 (Or.inl ja));have HR4:=hD (HR4.out.row hss.1 (Or.inl ja));have HR5:=hD (HR5.out.row hss.1 (Or.inl ja));have HR7:=hD (HR7.out.row hss.1 (Or.inl ja));have HS:Hid (SsTo w g s8 u10):=hD (HS.out.trans hss);clear hss hst8;have c20x:=HX.out.cells 20 _ rfl;have f20x:=HX.out.free 20 (az rfl);have lx:=HX.out.lt;go_upto_region 7 with fail;have HS:Hid (SsTo w g s8 (u10.setCell ⟨b4,20,none⟩ (.slice a8 t8.length c8))):=hD (HS.out.own (ze u10 ⟨b4,20,none⟩ (.slice a8 t8.length c8)) jeu (by show g≠b4;omega));have HV:Hid (Vr (u10.setCell ⟨b4,20,none⟩ (.slice a8 t8.length c8)) w.heap.size [(),(),(),(),(),"",(),(),(),(),(),"","","s","s",(),"","s","s","s","s"]):=hD (HV.out.grown (ze u10 ⟨b4,20,none⟩ (.slice a8 t8.length c8)) jev);have HX:Hid (Vr (u10.setCell ⟨b4,20,none⟩ (.slice a8 t8.length c8)) b4 (msC ⟨n0,n1,n2,n3,n4,t1,n5,x3,x4,x5,x7,⟨a8,c8,t8⟩⟩)):=hD ((HX.out.set 20 (.slice a8 t8.length c8)).eq rfl);have HR3:=hD (HR3.out.row (ze u10 ⟨b4,20,none⟩ (.slice a8 t8.length c8)) (Or.inr rfl));have HR4:=hD (HR4.out.row (ze u10 ⟨b4,20,none⟩ (.slice a8 t8.length c8)) (Or.inr rfl));have HR5:=hD (HR5.out.row (ze u10 ⟨b4,20,none⟩ (.slice a8 t8.length c8)) (Or.inr rfl));have HR7:=hD (HR7.out.row (ze u10 ⟨b4,20,none⟩ (.slice a8 t8.length c8)) (Or.inr rfl));have HR8:=hD (HR8.out.row (ze u10 ⟨b4,20,none⟩ (.slice a8 t8.length c8)) (Or.inr rfl));clear lx c20x f20x;generalize (u10.setCell ⟨b4,20,none⟩ (.slice a8 t8.length c8))=u11 at HS HV HX HR3 HR4 HR5 HR7 HR8⊢;go_wp2_with (first
  |(refine ak rfl 38 _ rfl b4 0 rfl (msC ⟨n0,n1,n2,n3,n4,t1,n5,x3,x4,x5,x7,⟨a8,c8,t8⟩⟩) _ HX.out.range underlying38 rfl (zD ⟨n0,n1,n2,n3,n4,t1,n5,x3,x4,x5,x7,⟨a8,c8,t8⟩⟩) ?_)
  |(refine ai rfl 38 _ _ rfl w.heap.size 0 (msC ⟨n0,n1,n2,n3,n4,t1,n5,x3,x4,x5,x7,⟨a8,c8,t8⟩⟩).toArray rfl rfl (HV.out.there rfl) (zD ⟨n0,n1,n2,n3,n4,t1,n5,x3,x4,x5,x7,⟨a8,c8,t8⟩⟩) (yu ⟨n0,n1,n2,n3,n4,t1,n5,x3,x4,x5,x7,⟨a8,c8,t8⟩⟩) ?_))
 have HSe:=hD (HS.out.own (zb (b:=w.heap.size) (msC ⟨n0,n1,n2,n3,n4,t1,n5,x3,x4,x5,x7,⟨a8,c8,t8⟩⟩)) (ag _) ja);have HVe:=hD (HV.out.sets (msC ⟨n0,n1,n2,n3,n4,t1,n5,x3,x4,x5,x7,⟨a8,c8,t8⟩⟩) rfl);refine aj (v:= .agg (msC ⟨n0,n1,n2,n3,n4,t1,n5,x3,x4,x5,x7,⟨a8,c8,t8⟩⟩).toArray) ?_ rfl (zfd (x:=⟨n0,n1,n2,n3,n4,t1,n5,x3,x4,x5,x7,⟨a8,c8,t8⟩⟩) HSpec.out rfl ?_ ?_ HSe.out)
 · exact zW results126 _ _ w.heap.size (msC ⟨n0,n1,n2,n3,n4,t1,n5,x3,x4,x5,x7,⟨a8,c8,t8⟩⟩) _ rfl HVe.out.range underlying38 rfl (zD ⟨n0,n1,n2,n3,n4,t1,n5,x3,x4,x5,x7,⟨a8,c8,t8⟩⟩)
 · show Ms.mk n0 n1 n2 n3 n4 t1 n5 x3 (Sl.of (x4.l.map St.er)) (Sl.of (x5.l.map De.er)) x7.er (Sl.er ⟨a8,c8,t8⟩)=_;have h3:x3=t3:=HX3.out;rw[h3,HX4.out,HX5.out,HX7.out];rfl
 · exact fun W hW=>⟨⟨HN64.out n0 jc,HN64.out n1 jc,HN64.out n2 jc,HN64.out n3 jc,HN64.out n4 jc,HN64.out n5 jc⟩,((HR3.out.row (zb (b:=w.heap.size) _) (Or.inl ja)).stays.low ja) W hW,⟨(((HR4.out.row (zb (b:=w.heap.size) _) (Or.inl ja)).stays.low ja) W hW).1,(((HR4.out.row (zb (b:=w.heap.size) _) (Or.inl ja)).stays.low ja) W hW).2⟩,⟨(((HR5.out.row (zb (b:=w.heap.size) _) (Or.inl ja)).stays.low ja) W hW).1,(((HR5.out.row (zb (b:=w.heap.size) _) (Or.inl ja)).stays.low ja) W hW).2⟩,((HR7.out.row (zb (b:=w.heap.size) _) (Or.inl ja)).stays.low ja) W hW,by have h9:=((HR8.out.row (zb (b:=w.heap.size) _) (Or.inl ja)).stays.low ja) W hW;show Rd W 1 a8 t8.length (t8.flatMap strV);rw[zbg];exact h9⟩):p:=h
theorem fo2(h:p:=by
 refine tkr 8 rfl (fun K hK=> ?_);have e0:=HVF.out.cells 0 _ rfl;have e1:=HVF.out.cells 1 _ rfl;have e2:=HVF.out.cells 2 _ rfl;have e3:=HVF.out.cells 3 _ rfl;have f0:=HVF.out.free 0 jc;have f1:=HVF.out.free 1 jc;have f2:=HVF.out.free 2 jc;have f3:=HVF.out.free 3 jc;have lz:=HVF.out.lt;go_simp;change K _ (v2.setCells b4 0 [zo k,.bool (zx k),.bool (zB k),.bool (zI k)]);have HB:=hD (zf HB.out (zb (b:=b4) [zo k,.bool (zx k),.bool (zB k),.bool (zI k)]) ja);have HR:=hD (HR.out.grown (zb (b:=b4) [zo k,.bool (zx k),.bool (zB k),.bool (zI k)]) ja);have HO:=hD (HO.out.grown (zb (b:=b4) [zo k,.bool (zx k),.bool (zB k),.bool (zI k)]) ja);have HM:=hD (HM.out.kept (zb (b:=b4) [zo k,.bool (zx k),.bool (zB k),.bool (zI k)]) (by simpa using HNe.out));have HVF:=hD (HVF.out.sets [zo k,.bool (zx k),.bool (zB k),.bool (zI k)] rfl);clear e0 e1 e2 e3 f0 f1 f2 f3 lz;generalize v2.setCells b4 0 [zo k,.bool (zx k),.bool (zB k),.bool (zI k)]=v3 at HB HR HO HM HVF⊢;refine hK.out _ _ ⟨HO.out.cells 0 _ rfl,zf6 HM.out k h1 h6⟩ (fun hHeld=> ?_);clear hK K;try simp only[Act.put,qk1,qk2,qk3,qk4,qk5,qk6]
 refine tkr 9 rfl (fun K hK=> ?_);go_simp;refine hK.out _ _ hHeld (fun hHeld=> ?_);clear hK K;try simp only[Act.put,qk1,qk2,qk3,qk4,qk5,qk6]
 refine aB jb ?_ _;refine aA ?_;clear HM HNe;cases hk1:zH key.data.toList (zx k) with
 |false=>
  have hQ:zP k key.data.toList old.data.toList new.data.toList=false:=by unfold zP;rw[hk1];rfl
  go_wp2_with fail;refine aD ?_;have HO:=hD (HO.out.below (ae _ _).drew);have HR:=hD (HR.out.below (ae _ _).drew);have HVF:=hD (HVF.out.below (ae _ _).drew);have HB:=hD (HB.out.drew);generalize hv:v3.drew=v4 at HO HR HVF HB;refine aC (S:=fun W=>World.cell? W ⟨w.heap.size,1,none⟩=some (.string key)∧World.cell? W ⟨w.heap.size,2,none⟩=some (.string old)∧World.cell? W ⟨w.heap.size,3,none⟩=some (.string new)∧World.cell? W ⟨b4,0,none⟩=some (.string ⟨(zo k).toArray⟩)∧World.cell? W ⟨b4,1,none⟩=some (.bool (zx k))∧World.cell? W ⟨b4,2,none⟩=some (.bool (zB k))∧World.cell? W ⟨b4,3,none⟩=some (.bool (zI k))) jb jab (fun hHeld=> ?_);rw[hv]at hHeld⊢;clear hv;refine takes [0,1,2,3,4,5,6] ?_;refine tkr 7 rfl (fun K hK=> ?_);go_simp;go_at_call 244;refine(zba key (zx k) _ s1).mono ?_;rw[hk1];rintro e wq ⟨rfl,hwq⟩;replace hwq:=hwq.symm;subst hwq;go_wp2_with fail;refine hK.out _ _ je (fun hHeld=> ?_);clear hK K;try simp only[Act.put,qk1,qk2,qk3,qk4,qk5,qk6]
  refine takes [8,9,10,11,12,13,14,15,16,17,18,19,20,21,22] ?_;exact fo227
 |true=>
  cases hk2:zH old.data.toList (zB k) with
  |false=>
   have hQ:zP k key.data.toList old.data.toList new.data.toList=false:=by unfold zP;rw[hk1,hk2];rfl
   go_wp2_with fail;refine aD ?_;have HO:=hD (HO.out.below (ae _ _).drew);have HR:=hD (HR.out.below (ae _ _).drew);have HVF:=hD (HVF.out.below (ae _ _).drew);have HB:=hD (HB.out.drew);generalize hv:v3.drew=v4 at HO HR HVF HB;refine aC (S:=fun W=>World.cell? W ⟨w.heap.size,1,none⟩=some (.string key)∧World.cell? W ⟨w.heap.size,2,none⟩=some (.string old)∧World.cell? W ⟨w.heap.size,3,none⟩=some (.string new)∧World.cell? W ⟨b4,0,none⟩=some (.string ⟨(zo k).toArray⟩)∧World.cell? W ⟨b4,1,none⟩=some (.bool (zx k))∧World.cell? W ⟨b4,2,none⟩=some (.bool (zB k))∧World.cell? W ⟨b4,3,none⟩=some (.bool (zI k))) jb jab (fun hHeld=> ?_);rw[hv]at hHeld⊢;clear hv;refine takes [0,1,2,3,4,5,6] ?_;refine tkr 7 rfl (fun K hK=> ?_);go_simp;go_at_call 244;refine(zba key (zx k) _ s1).mono ?_;rw[hk1];rintro e wq ⟨rfl,hwq⟩;replace hwq:=hwq.symm;subst hwq;go_wp2_with fail;refine hK.out _ _ je (fun hHeld=> ?_);clear hK K;try simp only[Act.put,qk1,qk2,qk3,qk4,qk5,qk6]
   refine takes [8,9,10,11,12,13] ?_;refine tkr 14 rfl (fun K hK=> ?_);go_simp;go_at_call 244;refine(zba old (zB k) _ s2).mono ?_;rw[hk2];rintro e wq ⟨rfl,hwq⟩;replace hwq:=hwq.symm;subst hwq;go_wp2_with fail;refine hK.out _ _ je (fun hHeld=> ?_);clear hK K;try simp only[Act.put,qk1,qk2,qk3,qk4,qk5,qk6]
   refine takes [15,16,17,18,19,20,21,22] ?_;exact fo227
  |true=>
   obtain⟨bb,hk3⟩:∃bb,zH new.data.toList (zI k)=bb:=⟨_,rfl⟩;have hQ:zP k key.data.toList old.data.toList new.data.toList=bb:=by unfold zP;rw[hk1,hk2,hk3];rfl
   go_wp2_with fail;refine aD ?_;have HO:=hD (HO.out.below (ae _ _).drew);have HR:=hD (HR.out.below (ae _ _).drew);have HVF:=hD (HVF.out.below (ae _ _).drew);have HB:=hD (HB.out.drew);generalize hv:v3.drew=v4 at HO HR HVF HB;refine aC (S:=fun W=>World.cell? W ⟨w.heap.size,1,none⟩=some (.string key)∧World.cell? W ⟨w.heap.size,2,none⟩=some (.string old)∧World.cell? W ⟨w.heap.size,3,none⟩=some (.string new)∧World.cell? W ⟨b4,0,none⟩=some (.string ⟨(zo k).toArray⟩)∧World.cell? W ⟨b4,1,none⟩=some (.bool (zx k))∧World.cell? W ⟨b4,2,none⟩=some (.bool (zB k))∧World.cell? W ⟨b4,3,none⟩=some (.bool (zI k))) jb jab (fun hHeld=> ?_);rw[hv]at hHeld⊢;clear hv;refine takes [0,1,2,3,4,5,6] ?_;refine tkr 7 rfl (fun K hK=> ?_);go_simp;go_at_call 244;refine(zba key (zx k) _ s1).mono ?_;rw[hk1];rintro e wq ⟨rfl,hwq⟩;replace hwq:=hwq.symm;subst hwq;go_wp2_with fail;refine hK.out _ _ je (fun hHeld=> ?_);clear hK K;try simp only[Act.put,qk1,qk2,qk3,qk4,qk5,qk6]
   refine takes [8,9,10,11,12,13] ?_;refine tkr 14 rfl (fun K hK=> ?_);go_simp;go_at_call 244;refine(zba old (zB k) _ s2).mono ?_;rw[hk2];rintro e wq ⟨rfl,hwq⟩;replace hwq:=hwq.symm;subst hwq;go_wp2_with fail;refine hK.out _ _ je (fun hHeld=> ?_);clear hK K;try simp only[Act.put,qk1,qk2,qk3,qk4,qk5,qk6]
   refine takes [15,16,17,18,19,20] ?_;refine tkr 21 rfl (fun K hK=> ?_);go_simp;go_at_call 244;refine(zba new (zI k) _ s3).mono ?_;rw[hk3];rintro e wq ⟨rfl,hwq⟩;replace hwq:=hwq.symm;subst hwq;go_wp2_with fail;refine hK.out _ _ je (fun hHeld=> ?_);clear hK K;try simp only[Act.put,qk1,qk2,qk3,qk4,qk5,qk6]
   refine takes [22] ?_;refine tkr 23 rfl (fun K hK=> ?_);have e0:=HR.out.cells 0 _ rfl;have e1:=HR.out.cells 1 _ rfl;have e2:=HR.out.cells 2 _ rfl;have e3:=HR.out.cells 3 _ rfl;have f0:=HR.out.free 0 jc;have f1:=HR.out.free 1 jc;have f2:=HR.out.free 2 jc;have f3:=HR.out.free 3 jc;have lz:=HR.out.lt;go_simp;change K _ (v4.setCells (w.heap.size+1) 0 [zo k,.bool (zx k),.bool (zB k),.bool (zI k)]);have HB:=hD (zf HB.out (zb (b:=w.heap.size+1) [zo k,.bool (zx k),.bool (zB k),.bool (zI k)]) ja);have HO:=hD (HO.out.grown (zb (b:=w.heap.size+1) [zo k,.bool (zx k),.bool (zB k),.bool (zI k)]) ja);have HVF:=hD (HVF.out.grown (zb (b:=w.heap.size+1) [zo k,.bool (zx k),.bool (zB k),.bool (zI k)]) ja);have HR:=hD (HR.out.sets [zo k,.bool (zx k),.bool (zB k),.bool (zI k)] rfl);clear e0 e1 e2 e3 f0 f1 f2 f3 lz;generalize v4.setCells (w.heap.size+1) 0 [zo k,.bool (zx k),.bool (zB k),.bool (zI k)]=v5 at HB HO HR HVF⊢;refine hK.out _ _ ⟨HO.out.cells 1 _ rfl,HO.out.cells 2 _ rfl,HO.out.cells 3 _ rfl,HVF.out.cells 0 _ rfl,HVF.out.cells 1 _ rfl,HVF.out.cells 2 _ rfl,HVF.out.cells 3 _ rfl⟩ (fun hHeld=> ?_);clear hK K;try simp only[Act.put,qk1,qk2,qk3,qk4,qk5,qk6]
   refine tkr 24 rfl (fun K hK=> ?_);go_simp;refine hK.out _ _ hHeld (fun hHeld=> ?_);clear hK K;try simp only[Act.put,qk1,qk2,qk3,qk4,qk5,qk6]
   refine aB jb ?_ _;refine aA ?_;go_wp2_with fail;refine aj (v:= .tuple #[.agg #[zo k,.bool (zx k),.bool (zB k),.bool (zI k)],bb]) ?_ rfl ⟨by rw[hQ],HB.out⟩;exact fo297):p:=h
theorem fo3(h:p:=by
 refine hK.out _ _ ?_ (fun hHeld=> ?_)
 · exact fo236
 clear hK K;try simp only[Act.put,qk1,qk2,qk3]
 refine bG (rs:=[20]) jb jc ?_;refine aX (o:=_) rfl (fun K hK=> ?_) ?_
 · (refine dz _ ji _ _ _ ji (w1.heap.size+1) 191 i0 _ 3 32 underlying127 HI.out HZ0.out HZ1.out HZ2.out rfl jf _ _ _ ji ((HOW.out _ ‹Below wr.heap.size wr _›).alloc _) _ 1 1 [numR a,numR b,d] ji ji (dI (cs:=#[numR a,numR b,d]) (t:=191) (fr:=(0,0)) (dJ _ _)) jr ja jq ja (by have hz:=b2.size;simp;omega) _ rfl ?_;intro gg cap w3 hown1 hgrow hat hlt3;have HO4:=hD (O3.grown ((HO.out.below b2).alloc _) hgrow hob);have q2:=HO4.out.c2;have qf2:=HO4.out.f2)
   refine hK.out _ _ ?_ (fun hHeld=> ?_)
   · exact fo236
   clear hK K;try simp only[Act.put,qk1,qk2,qk3]
   refine takes [21] ?_;refine bG (rs:=[22]) jb jc ?_;refine aX (o:=_) rfl (fun K hK=> ?_) ?_
   · go_simp;refine hK.out _ _ ?_ (fun hHeld=> ?_)
     · exact fo236
     clear hK K;try simp only[Act.put,qk1,qk2,qk3]
     refine aB jb ?_ _;refine aA ?_;have HOwn4:=hD hown1;have HG4:=hD hgrow;clear hown1 hgrow hat;have hbs:=b2.size;have hbg:Below w1.heap.size w1 w3:=below_grown ((bon HB.out b2).alloc ja _) jg HG4.out (fun g hg=>by have:=(HOwn.out.lt g hg).1;omega);have HB5:=hD (hbg.setCell (p:=⟨w1.heap.size,2,none⟩) (ag _) (.slice (some ⟨gg,0,none⟩) (done.length+1) cap));have HO5:=hD (HO4.out.set2 (.slice (some ⟨gg,0,none⟩) (done.length+1) cap));have hz5:w2.heap.size+1≤w3.heap.size:=by have:=HG4.out.size;simpa using this
     have HOwn5:Hid ((w3.setCell ⟨w1.heap.size,2,none⟩ (.slice (some ⟨gg,0,none⟩) (done.length+1) cap)).ownsRow (w1.heap.size+1) 191 3 (.slice (some ⟨gg,0,none⟩) (done.length+1) cap) (done.length+1) ((done++ [(⟨numR a,numR b,d⟩:Rq)]).flatMap rqC)):=hD (ze5 (by have h9:=HOwn4.out;simpa[rqC]using h9) _ _ jc (by show w1.heap.size<w1.heap.size+1;omega));have hlen9:(done++ [(⟨numR a,numR b,d⟩:Rq)]).length=done.length+1:=by simp
     have HDn2:Hid (∀r∈done++ [(⟨numR a,numR b,d⟩:Rq)],I64 r.client∧I64 r.number∧r.op.length≤200):=hD (fun q hq=>by
      simp only[di,bC,eH,eP]at hq;rcases hq with hq|rfl
      · exact HDn.out q hq
      · exact⟨numR_i64 a,numR_i64 b,hdl2⟩)
     clear hbg hHeld q2 qf2;go_wp2_with fail;go_roundw
     case rel=>exact⟨k+1,m+3,some ⟨gg,0,none⟩,cap,_,by go_num,by have:=HMk.out;omega,by omega,by rw[hlen9,HDl.out],HRe2.out,HDn2.out,by rw[hlen9];exact HO5.out,by rw[hlen9];exact HOwn5.out,HB5.out,by simp;omega⟩
     case measure=>have:=HMk.out;simp[intOf];omega
   exact bD
 exact bD):p:=h
theorem fo4(h:p:=by
 refine hK.out _ _ trivial (fun hHeld=> ?_);clear hK K;try simp only[Act.put,qk1,qk2,qk3,qk4,qk5,qk6]
 refine tkr 6 rfl (fun K hK=> ?_);have e0:=HO.out.cells 0 _ rfl;have e1:=HO.out.cells 1 _ rfl;have e2:=HO.out.cells 2 _ rfl;have e3:=HO.out.cells 3 _ rfl;have f0:=HO.out.free 0 jc;have f1:=HO.out.free 1 jc;have f2:=HO.out.free 2 jc;have f3:=HO.out.free 3 jc;have lz:=HO.out.lt;go_simp;change K _ (v2.setCells b7 0 [.int .i64 (k:Int),"","",""]);have HR:=hD (HR.out.grown (zb (b:=b7) [.int .i64 (k:Int),"","",""]) ja);have HB6:=hD (zf HB6.out (zb (b:=b7) [.int .i64 (k:Int),"","",""]) ja);have HO:=hD (HO.out.sets [.int .i64 (k:Int),"","",""] rfl);clear e0 e1 e2 e3 f0 f1 f2 f3 lz;generalize v2.setCells b7 0 [.int .i64 (k:Int),"","",""]=v3 at HO HR HB6⊢;refine hK.out _ _ trivial (fun hHeld=> ?_);clear hK K;try simp only[Act.put,qk1,qk2,qk3,qk4,qk5,qk6]
 refine tkr 7 rfl (fun K hK=> ?_);have e0:=HR.out.cells 0 _ rfl;have f0:=HR.out.free 0 jc;have lz:=HR.out.lt;go_simp;have HO:=hD (HO.out.grown (ze v3 ⟨b8,0,none⟩ (.slice (some ⟨bp,o2,none⟩) rest.length rest.length)) (by show b7≠b8;omega));have HB6:=hD (zf HB6.out (ze v3 ⟨b8,0,none⟩ (.slice (some ⟨bp,o2,none⟩) rest.length rest.length)) (by show w6.heap.size≤b8;omega));have HR:=hD (HR.out.set 0 (.slice (some ⟨bp,o2,none⟩) rest.length rest.length));clear e0 f0 lz;generalize v3.setCell ⟨b8,0,none⟩ (.slice (some ⟨bp,o2,none⟩) rest.length rest.length)=v4 at HO HR HB6⊢;refine hK.out _ _ trivial (fun hHeld=> ?_);clear hK K;try simp only[Act.put,qk1,qk2,qk3,qk4,qk5,qk6]
 refine aB jb ?_ _;refine aA ?_;clear hs1;have HR:Hid (RestAt v4 b8 bp rest):=hD ⟨HR.out.lt,by have:=HP6.out.lt;have:=HB6.out.size;omega,by have:=HP6.out.lt;omega,HR.out.free 0 jc,o2,rest.length,HR.out.cells 0 _ rfl,ag _,by simp only[au]at hrl;omega,fun j u hu=>by
  have hj:0<rest.length:=by
   have:=(dD.1 hu).1;rw[zbu]at this;omega
  rw[HO2.out hj,dS];exact(HP6.out.below HB6.out).cells (j+1) u hu⟩
 have HV6:=hD (HV6.out.below HB6.out);have hb6:b6<w6.heap.size:=HV6b.out;clear HO2;go_wp2_with fail;refine aD ?_;have HO:=hD (HO.out.below (ae _ _).drew);have HR:=hD (HR.out.below (ae _ _).drew);have HV6:=hD (HV6.out.below (ae _ _).drew);have HB6:=hD (HB6.out.drew);generalize hv:v4.drew=u0 at HO HR HV6 HB6;refine aC (S:=fun W=>World.cell? W ⟨b6,1,none⟩=some (.bool (zx k))∧World.cell? W ⟨b6,2,none⟩=some (.bool (zB k))∧World.cell? W ⟨b6,3,none⟩=some (.bool (zI k))) jb (by rw[hv];exact⟨HV6.out.cells 1 _ rfl,HV6.out.cells 2 _ rfl,HV6.out.cells 3 _ rfl⟩) (fun hHeld=> ?_);rw[hv]at hHeld⊢;clear hv;refine takes [0,1,2,4,5,6,8,9,10] ?_;refine tkr 3 rfl (fun K hK=> ?_);go_simp;go_at_call 138;refine(zc1 (zx k) (rest) b8 bp u0 HR.out).mono ?_;rintro e u1 ⟨rfl,hr,hg,hz⟩;have HR:=hD hr;have HO:=hD (HO.out.grown hg ja);have HV6:=hD (HV6.out.grown hg ja);have HB6:=hD (below_grown HB6.out HB6.out.size hg (fun g h=>by simp only[ax]at h;omega));clear hr hg hz;go_wp2_with fail;refine hK.out _ _ ⟨HV6.out.cells 1 _ rfl,HV6.out.cells 2 _ rfl,HV6.out.cells 3 _ rfl⟩ (fun hHeld=> ?_);clear hK K;try simp only[Act.put,qk1,qk2,qk3,qk4,qk5,qk6]
 refine takes [12] ?_;refine tkr 7 rfl (fun K hK=> ?_);go_simp;go_at_call 138;refine(zc1 (zB k) (yH (zx k) rest) b8 bp u1 HR.out).mono ?_;rintro e u2 ⟨rfl,hr,hg,hz⟩;have HR:=hD hr;have HO:=hD (HO.out.grown hg ja);have HV6:=hD (HV6.out.grown hg ja);have HB6:=hD (below_grown HB6.out HB6.out.size hg (fun g h=>by simp only[ax]at h;omega));clear hr hg hz;go_wp2_with fail;refine hK.out _ _ ⟨HV6.out.cells 1 _ rfl,HV6.out.cells 2 _ rfl,HV6.out.cells 3 _ rfl⟩ (fun hHeld=> ?_);clear hK K;try simp only[Act.put,qk1,qk2,qk3,qk4,qk5,qk6]
 refine tkr 11 rfl (fun K hK=> ?_);go_simp;go_at_call 138;refine(zc1 (zI k) (yH (zB k) (yH (zx k) rest)) b8 bp u2 HR.out).mono ?_;rintro e u3 ⟨rfl,hr,hg,hz⟩;have HR:=hD hr;have HO:=hD (HO.out.grown hg ja);have HV6:=hD (HV6.out.grown hg ja);have HB6:=hD (below_grown HB6.out HB6.out.size hg (fun g h=>by simp only[ax]at h;omega));clear hr hg hz;go_wp2_with fail;refine hK.out _ _ ⟨HV6.out.cells 1 _ rfl,HV6.out.cells 2 _ rfl,HV6.out.cells 3 _ rfl⟩ (fun hHeld=> ?_);clear hK K;try simp only[Act.put,qk1,qk2,qk3,qk4,qk5,qk6]
 have hsz:(YA (zx k) rest).length+(YA (zB k) (yH (zx k) rest)).length+(YA (zI k) (yH (zB k) (yH (zx k) rest))).length≤1048576:=take_sizes (m:=300000) (fun y hy=>ah (cut_len s.data.toList y (by rw[HC.out];exact dm _ hy)) (by simpa using hs)) _ _ _;have HQ:Hid ((zP k (YA (zx k) rest) (YA (zB k) (yH (zx k) rest)) (YA (zI k) (yH (zB k) (yH (zx k) rest))) &&(yw k (YA (zx k) rest) (YA (zB k) (yH (zx k) rest)) (YA (zI k) (yH (zB k) (yH (zx k) rest))) == s.data.toList))=kindOk k s.data.toList):=HKd;generalize YA (zI k) (yH (zB k) (yH (zx k) rest))=new at hsz HQ⊢;generalize YA (zB k) (yH (zx k) rest)=old at hsz HQ⊢;generalize YA (zx k) rest=key at hsz HQ⊢;refine tkr 13 rfl (fun K hK=> ?_);have cz:=HO.out.cells 1 _ rfl;have fz:=HO.out.free 1 jc;have lz:=HO.out.lt;go_simp;have HO:=hD (HO.out.set 1 (.string ⟨key.toArray⟩));have HV6:=hD (HV6.out.grown (ze u3 ⟨b7,1,none⟩ (.string ⟨key.toArray⟩)) (by show b6≠b7;omega));have HB6:=hD (zf HB6.out (ze u3 ⟨b7,1,none⟩ (.string ⟨key.toArray⟩)) jer);clear cz fz lz;generalize u3.setCell ⟨b7,1,none⟩ (.string ⟨key.toArray⟩)=u4 at HO HV6 HB6⊢;refine hK.out _ _ ⟨HV6.out.cells 1 _ rfl,HV6.out.cells 2 _ rfl,HV6.out.cells 3 _ rfl⟩ (fun hHeld=> ?_);clear hK K;try simp only[Act.put,qk1,qk2,qk3,qk4,qk5,qk6]
 refine takes [14] ?_;refine tkr 15 rfl (fun K hK=> ?_);have cz:=HO.out.cells 2 _ rfl;have fz:=HO.out.free 2 jc;have lz:=HO.out.lt;go_simp;have HO:=hD (HO.out.set 2 (.string ⟨old.toArray⟩));have HV6:=hD (HV6.out.grown (ze u4 ⟨b7,2,none⟩ (.string ⟨old.toArray⟩)) (by show b6≠b7;omega));have HB6:=hD (zf HB6.out (ze u4 ⟨b7,2,none⟩ (.string ⟨old.toArray⟩)) jer);clear cz fz lz;generalize u4.setCell ⟨b7,2,none⟩ (.string ⟨old.toArray⟩)=u5 at HO HV6 HB6⊢;refine hK.out _ _ ⟨HV6.out.cells 1 _ rfl,HV6.out.cells 2 _ rfl,HV6.out.cells 3 _ rfl⟩ (fun hHeld=> ?_);clear hK K;try simp only[Act.put,qk1,qk2,qk3,qk4,qk5,qk6]
 refine takes [16] ?_;refine tkr 17 rfl (fun K hK=> ?_);have cz:=HO.out.cells 3 _ rfl;have fz:=HO.out.free 3 jc;have lz:=HO.out.lt;go_simp;have HO:=hD (HO.out.set 3 (.string ⟨new.toArray⟩));have HV6:=hD (HV6.out.grown (ze u5 ⟨b7,3,none⟩ (.string ⟨new.toArray⟩)) (by show b6≠b7;omega));have HB6:=hD (zf HB6.out (ze u5 ⟨b7,3,none⟩ (.string ⟨new.toArray⟩)) jer);clear cz fz lz;generalize u5.setCell ⟨b7,3,none⟩ (.string ⟨new.toArray⟩)=u6 at HO HV6 HB6⊢;refine hK.out _ _ ⟨HV6.out.cells 1 _ rfl,HV6.out.cells 2 _ rfl,HV6.out.cells 3 _ rfl⟩ (fun hHeld=> ?_);clear hK K;try simp only[Act.put,qk1,qk2,qk3,qk4,qk5,qk6]
 refine aB jb ?_ _;refine aA ?_;have HO:=hD (HO.out.eq (cs':=[.int .i64 (k:Int),key,old,new]) rfl);have HFm:=hD (format_any k h1 h6 key old new u6 hsz);have o0:=HO.out.cells 0 _ rfl;have o1:=HO.out.cells 1 _ rfl;have o3:=HO.out.cells 2 _ rfl;have o4:=HO.out.cells 3 _ rfl;have ol:=HO.out.lt;go_wp2_with fail;clear o0 o1 o3 o4 ol;cases hq:zP k key old new with
 |false=>
  rw[hq]at HFm HQ;have HK:Hid (kindOk k s.data.toList=false):=hD HQ.out.symm;refine HFm.out.mono ?_;rintro e u7 ⟨rfl,b7'⟩;have HG:=hD (Y1 HG.out (bon HB6.out b7'));have HW7:=hD (bon HW6.out (bon HB6.out b7'));clear b7' hq;exact fo258
 |true=>
  rw[hq]at HFm HQ;refine HFm.out.mono ?_;rintro e u7 ⟨rfl,b7'⟩;have HG:=hD (Y1 HG.out (bon HB6.out b7'));have HW7:=hD (bon HW6.out (bon HB6.out b7'));have HO:=hD (HO.out.below b7');clear b7' hq;by_cases ht:yw k key old new=s.data.toList
  · have t1:(yw k key old new == s.toList)=true:=by rw[aS];simpa using ht
    have HF:Hid (opOk s.data.toList=true):=hD (zeQ h1 h6 (by rw[←HQ.out,ht];simp));have HRv:=hD (HRv.out.below HW7.out);have HR2:=hD (HRv.out.sets [.int .i64 (k:Int),key,old,new] rfl);have HB2:=hD (zf (bon HB.out HW7.out) (zb (b:=w.heap.size) [.int .i64 (k:Int),key,old,new]) (ag _));clear ht;go_wp2_with (first
     |(refine ak rfl 124 _ rfl b7 0 rfl [.int .i64 (k:Int),key,old,new] _ HO.out.range underlying124 rfl Zk ?_)
     |(refine ai rfl 124 _ _ rfl w.heap.size 0 #[.int .i64 (k:Int),key,old,new] rfl rfl ?_ Zk (zcL _ _ _ _) ?_;· exact HRv.out.there rfl))
    refine aj (v:= .tuple #[.agg #[.int .i64 (k:Int),key,old,new],()]) ?_ rfl (zcG (ok:=opOk s.data.toList) (by rw[HF.out];rfl) HB2.out);exact zi results93 _ _ w.heap.size [.int .i64 (k:Int),key,old,new] _ _ rfl rfl HR2.out.range underlying124 rfl Zk
  · have t1:(yw k key old new == s.toList)=false:=by rw[aS];simpa using ht
    have HK:Hid (kindOk k s.data.toList=false):=hD (by rw[←HQ.out];simpa using ht);clear ht;exact fo258):p:=h
theorem fo5(h:p:=by
 refine tkr 18 rfl (fun K hK=> ?_);rw[af ji];refine aQ 97 _ _ rfl b4 0 (stC ⟨n0,n1,n2,n3,t1,x2,sg0⟩).toArray rfl rfl (HX.out.there rfl) (yL ⟨n0,n1,n2,n3,t1,x2,sg0⟩) (Yi ⟨n0,n1,n2,n3,t1,x2,sg0⟩) ?_;have HS:Hid (SsTo w g s2 (v3.setCells b4 0 (stC ⟨n0,n1,n2,n3,t1,x2,sg0⟩))):=hD (HS2.out.own (zb (b:=b4) (stC ⟨n0,n1,n2,n3,t1,x2,sg0⟩)) ja ja);have HV:Hid (Vr (v3.setCells b4 0 (stC ⟨n0,n1,n2,n3,t1,x2,sg0⟩)) w.heap.size [(),(),(),(),"","s",(),(),(),(),"",""]):=hD (HV.out.grown (zb (b:=b4) (stC ⟨n0,n1,n2,n3,t1,x2,sg0⟩)) ja);have HX:Hid (Vr (v3.setCells b4 0 (stC ⟨n0,n1,n2,n3,t1,x2,sg0⟩)) b4 (stC ⟨n0,n1,n2,n3,t1,x2,sg0⟩)):=hD (HX.out.sets (stC ⟨n0,n1,n2,n3,t1,x2,sg0⟩) rfl);have hC:(v3.setCells b4 0 (stC ⟨n0,n1,n2,n3,t1,x2,sg0⟩)).cell? ⟨b,off,none⟩=some (.int .i64 n0)∧(v3.setCells b4 0 (stC ⟨n0,n1,n2,n3,t1,x2,sg0⟩)).cell? ⟨b,off+1,none⟩=some (.int .i64 n1)∧(v3.setCells b4 0 (stC ⟨n0,n1,n2,n3,t1,x2,sg0⟩)).cell? ⟨b,off+2,none⟩=some (.int .i64 n2)∧(v3.setCells b4 0 (stC ⟨n0,n1,n2,n3,t1,x2,sg0⟩)).cell? ⟨b,off+3,none⟩=some (.int .i64 n3):=HCW.out _ (zbh HK.out (zb (b:=b4) (stC ⟨n0,n1,n2,n3,t1,x2,sg0⟩)) (Or.inr ja));have HR2:=hD (HR2.out.row (zb (b:=b4) (stC ⟨n0,n1,n2,n3,t1,x2,sg0⟩)) (Or.inr rfl));refine hK.out _ _ hC (fun hHeld=> ?_);clear hK K;try simp only[Act.put,qk1,qk2,qk3]
 refine aB jb ?_ _;refine aA ?_;try simp only[ay]
 generalize v3.setCells b4 0 (stC ⟨n0,n1,n2,n3,t1,x2,sg0⟩)=u0 at HS HV HX HR2⊢;clear hC hHeld2 HK;go_wp2_with fail;refine(Y9 g s2 _ HS.out.2 (ah HL2.out jf)).mono ?_;rintro e u1 ⟨rfl,hss⟩;rw[show yx s2=(t3,s3) from HT3.out]at hss⊢;simp only at hss⊢;have hsz1:=hss.1.size;have HV:Hid (Vr u1 w.heap.size [(),(),(),(),"","s",(),(),(),(),"",""]):=hD (HV.out.grown hss.1 ja);have HX:=hD (HX.out.grown hss.1 ja);have HR2:=hD (HR2.out.row hss.1 (Or.inl ja));have HS:Hid (SsTo w g s3 u1):=hD (HS.out.trans hss);clear hss;go_wp2_with fail;refine(zdW g s3 t3 _ HS.out.2 (fun q W hW=>YL q ⟨t3,false⟩ W hW (ah HTL3.out jf))).mono ?_;rintro e u2 ⟨x4,he,hx,hst4,hss⟩;obtain rfl:e= .returned (.agg x4):=he;rw[show yt tkSg t3 s3=(t4,s4) from HT4.out]at hss hx;simp only at hss hx;have HX4:=hD hx;clear hx;have HR4:=hD (yI (a:=w.heap.size+1) (b4:=b4) hst4 jac (Or.inl jac));have hsz2:=hss.1.size;have HV:Hid (Vr u2 w.heap.size [(),(),(),(),"","s",(),(),(),(),"",""]):=hD (HV.out.grown hss.1 ja);have HX:=hD (HX.out.grown hss.1 ja);have HR2:=hD (HR2.out.row hss.1 (Or.inl ja));have HS:Hid (SsTo w g s4 u2):=hD (HS.out.trans hss);clear hss hst4;go_upto_region 4 with(refine ai rfl 29 _ _ rfl b4 6 (sgC x4).toArray rfl rfl (HX.out.there_at 6 6 (az rfl)) (yP x4) (Yr x4) ?_);try simp only[ay]
 have HS:Hid (SsTo w g s4 (u2.setCells b4 6 (sgC x4))):=hD (HS.out.own (zq (b:=b4) (o:=6) (sgC x4)) ja ja);have HV:Hid (Vr (u2.setCells b4 6 (sgC x4)) w.heap.size [(),(),(),(),"","s",(),(),(),(),"",""]):=hD (HV.out.grown (zq (b:=b4) (o:=6) (sgC x4)) ja);have HX:Hid (Vr (u2.setCells b4 6 (sgC x4)) b4 (stC ⟨n0,n1,n2,n3,t1,x2,x4⟩)):=hD ((HX.out.sets_at 6 (sgC x4) (az rfl)).eq rfl);have HR2:=hD (HR2.out.row (zq (b:=b4) (o:=6) (sgC x4)) (Or.inr rfl));have HR4:=hD (HR4.out.row (zq (b:=b4) (o:=6) (sgC x4)) (Or.inr rfl));generalize u2.setCells b4 6 (sgC x4)=u3 at HS HV HX HR2 HR4⊢;go_wp2_with (first
  |(refine ak rfl 97 _ rfl b4 0 rfl (stC ⟨n0,n1,n2,n3,t1,x2,x4⟩) _ HX.out.range underlying97 rfl (yL ⟨n0,n1,n2,n3,t1,x2,x4⟩) ?_)
  |(refine ai rfl 97 _ _ rfl w.heap.size 0 (stC ⟨n0,n1,n2,n3,t1,x2,x4⟩).toArray rfl rfl (HV.out.there rfl) (yL ⟨n0,n1,n2,n3,t1,x2,x4⟩) (Yi ⟨n0,n1,n2,n3,t1,x2,x4⟩) ?_))
 have HSe:=hD (HS.out.own (zb (b:=w.heap.size) (stC ⟨n0,n1,n2,n3,t1,x2,x4⟩)) (ag _) ja);have HVe:=hD (HV.out.sets (stC ⟨n0,n1,n2,n3,t1,x2,x4⟩) rfl);refine aj (v:= .agg (stC ⟨n0,n1,n2,n3,t1,x2,x4⟩).toArray) ?_ rfl (zfd (x:=⟨n0,n1,n2,n3,t1,x2,x4⟩) HSpec.out rfl ?_ ?_ HSe.out)
 · exact zW results186 _ _ w.heap.size (stC ⟨n0,n1,n2,n3,t1,x2,x4⟩) _ rfl HVe.out.range underlying97 rfl (yL ⟨n0,n1,n2,n3,t1,x2,x4⟩)
 · show St.mk n0 n1 n2 n3 t1 x2.er x4=_;have h2:=HX2.out;rw[fT]at h2;have h4:x4=t4:=HX4.out;rw[Sl.er,h2,h4];rfl
 · exact fun W hW=>⟨⟨HN64.out n0 jc,HN64.out n1 jc,HN64.out n2 jc,HN64.out n3 jc⟩,(((HR2.out.row (zb (b:=w.heap.size) _) (Or.inl ja)).stays.low ja) W hW).1,(((HR2.out.row (zb (b:=w.heap.size) _) (Or.inl ja)).stays.low ja) W hW).2,((HR4.out.row (zb (b:=w.heap.size) _) (Or.inl ja)).stays.low ja) W hW⟩):p:=h
theorem fo6(h:p:=by
 exact fo236):p:=h
theorem fo7(h:p:=by
 have HNo:Hid (∀j,1≤j→j<k+1→kindOk j s.data.toList=false):=hD (fun j h1 h2=>by
  rcases dw j k with h3|h3
  · exact HJ.out j h1 h3
  · obtain rfl:j=k:=by omega
    exact HK.out)
 go_wp2_with fail;go_roundw
 case rel=>exact⟨k+1,by go_num,by omega,by omega,HNo.out,HX2.out,HR.out,HB.out⟩
 case measure=>simp[intOf];omega):p:=h
theorem fo8(h:p:=by
 go_wp2_with fail;refine aD ?_;have HX:=hD (HX.out.below (ae _ _).drew);have HB:=hD (HB.out.drew);generalize hv:w1.drew=v0 at HX HB;refine aC (S:=fun W=>World.cell? W ⟨w.heap.size,0,none⟩=some (.int .i64 x.time)∧World.cell? W ⟨w.heap.size,1,none⟩=some (.int .i64 x.kind)∧World.cell? W ⟨w.heap.size,3,none⟩=some (.int .i64 x.slot)∧World.cell? W ⟨w.heap.size,6,none⟩=some (.string ⟨x.result.toArray⟩)∧World.rangeAt W w.heap.size 0 (ptC x)) jb jv (fun hHeld=> ?_);rw[hv]at hHeld⊢;clear hv;refine takes [0,1] ?_;refine tkr 2 rfl (fun K hK=> ?_);go_simp;go_at_call 62;refine(zbX x.kind _).mono ?_;rintro e v1 ⟨rfl,hs⟩;have HX:=hD (HX.out.below hs);have HB:=hD (bon HB.out hs);clear hs;go_wp2_with fail;refine hK.out _ _ ⟨HX.out.cells 0 _ rfl,HX.out.cells 1 _ rfl,HX.out.cells 3 _ rfl,HX.out.cells 6 _ rfl,HX.out.range⟩ (fun hHeld=> ?_);clear hK K;try simp only[Act.put,qk1,qk2,qk3,qk4,qk5,qk6]
 refine takes [3,4,5,6,7,8,9,10,11,12,13,14,15,16,17,18,19,20,21,22,23,24,25,26,27,28,29,30,31] ?_;exact fo274):p:=h
theorem fo9(h:p:=by
 go_wp2_with (first|(go_at_call 127;refine(zdv _ _).mono ?_;rw[HSP.out];rintro e w' ⟨rfl,rfl⟩));refine(token_any _ _ jq jg jg).mono ?_;rintro e w1 ⟨⟨kd,tx,it,st,l0⟩,m,rfl,htk,hm0,hb1⟩;simp only[tokA];rw[zbB]at htk;obtain⟨m,rfl⟩:=bA hm0;have hz1:=hb1.size;have HB1:=hD hb1;rcases HTK.out _ m htk with⟨hk0,htk1⟩|⟨hm1,hm2,htk1⟩
 · have hkz:((m:Int) == 0)=true:=by simp[hk0]
   exact fo246
 · have hkz:((m:Int) == 0)=false:=by rw[aF];omega
   have HT1:=hD htk1;have HO1:=hD (ownsRow_below HO.out HB1.out);clear htk htk1 hb1;go_wp2_with (at_builtin;refine bu _ rfl _ _ 110 rfl w.heap.size 117 i0 _ 5 56 underlying110 HI.out HZ0.out HZ1.out HZ2.out rfl jf _ _ _ rfl ((HO1.out.alloc _).alloc _) ⟨w1.heap.size+1,0,none⟩ 1 1 [kd,tx,it,st,n] rfl rfl (zN _ _ _ _ jc) jr jq ja jg ?_);intro v' w2 hown' hgrow _;have HO2:=hD hown';have HG2:=hD hgrow;clear hown' hgrow;go_wp2_with fail;go_roundw
   case rel=>
    refine⟨k+m,n,acc++ [⟨kd,tx,it,st,n⟩],by go_num,by omega,rfl,?_⟩;refine⟨h1,by simp;omega,by simp;omega,?_,?_,?_,?_⟩
    · rw[zgc,aG];exact HO2.out
    · exact fo260
    · exact fo277
    · rw[HF.out,HT1.out]
   case measure=>simp[intOf];omega):p:=h
theorem fo10(h:p:=by
 have HKP:Hid (zz x=[Lib.itoa x.slot,Q06.quote x.text]):=hD jbs;rw[hk]at c1;clear hk;go_wp2_with fail;refine aD ?_;have HX:=hD (HX.out.below (ae _ _).drew);have HB:=hD (HB.out.drew);have HO:=hD (ownsRow_below HO.out (ae _ _).drew);generalize hv:w3.drew=u0 at HX HB HO;refine aC (S:=fun W=>World.cell? W ⟨w.heap.size,3,none⟩=some (.int .i64 x.slot)∧World.cell? W ⟨w.heap.size,4,none⟩=some (.int .i64 x.number)∧World.cell? W ⟨w.heap.size,5,none⟩=some (.string ⟨x.text.toArray⟩)∧World.cell? W ⟨w.heap.size,6,none⟩=some (.string ⟨x.result.toArray⟩)) jb jaf (fun hHeld=> ?_);rw[hv]at hHeld⊢;clear hv;refine takes [0,1,2,4,5] ?_;refine tkr 3 rfl (fun K hK=> ?_);go_simp;go_at_call 76;refine(zb4 x.slot HI_slot.out _ (HEnv.out.below HB.out)).mono ?_;rintro e u1 ⟨rfl,hs⟩;have HX:=hD (HX.out.below hs);have HB:=hD (bon HB.out hs);have HO:=hD (ownsRow_below HO.out hs);clear hs;go_wp2_with fail;refine hK.out _ _ ⟨HX.out.cells 3 _ rfl,HX.out.cells 4 _ rfl,HX.out.cells 5 _ rfl,HX.out.cells 6 _ rfl⟩ (fun hHeld=> ?_);clear hK K;try simp only[Act.put,qk1,qk2,qk3,qk4,qk5,qk6]
 refine tkr 6 rfl (fun K hK=> ?_);go_simp;go_at_call 77;refine(zaX x.text _ ja).mono ?_;rintro e u2 ⟨rfl,hs⟩;have HX:=hD (HX.out.below hs);have HB:=hD (bon HB.out hs);have HO:=hD (ownsRow_below HO.out hs);clear hs;go_wp2_with fail;refine hK.out _ _ ⟨HX.out.cells 3 _ rfl,HX.out.cells 4 _ rfl,HX.out.cells 5 _ rfl,HX.out.cells 6 _ rfl⟩ (fun hHeld=> ?_);clear hK K;try simp only[Act.put,qk1,qk2,qk3,qk4,qk5,qk6]
 refine tkr 7 rfl (fun K hK=> ?_);go_simp;have hs:=za u2 (.cells #[Lib.itoa x.slot,Q06.quote x.text] 9);have hb9:w.heap.size<u2.heap.size:=HX.out.lt;have HN:=hD (dI (cs:=#[Lib.itoa x.slot,Q06.quote x.text]) (t:=9) (fr:=(0,0)) (dJ u2 (.cells #[Lib.itoa x.slot,Q06.quote x.text] 9)));have HX:=hD (HX.out.below hs);have HB:=hD (bon HB.out hs);have HO:=hD (ownsRow_below HO.out hs);clear hs;generalize u2.alloc (.cells #[Lib.itoa x.slot,Q06.quote x.text] 9)=v1 at HX HB HO HN⊢;generalize u2.heap.size=b9 at HN hb9⊢;refine hK.out _ _ ⟨HX.out.cells 3 _ rfl,HX.out.cells 4 _ rfl,HX.out.cells 5 _ rfl,HX.out.cells 6 _ rfl⟩ (fun hHeld=> ?_);clear hK K;try simp only[Act.put,qk1,qk2,qk3,qk4,qk5,qk6]
 refine tkr 8 rfl (fun K hK=> ?_);refine dz _ ji _ _ _ ji w.heap.size 9 i0 _ 1 16 underlying32 HI.out HZ0.out HZ1.out HZ2.out rfl jf _ _ _ ji HO.out _ 2 2 (#[Lib.itoa x.slot,Q06.quote x.text]:Array Value).toList ji ji HN.out jr ja jeo ja jac _ rfl ?_;intro g cap v2 hown hgrow hat hlt;have HX:=hD (HX.out.grownO hgrow jed);have HB:=hD (below_grown HB.out HB.out.size hgrow (fun g h=>(HO.out.lt g h).1));have HO:=hD hown;clear hown hgrow hat hlt HN;refine hK.out _ _ ⟨HX.out.cells 3 _ rfl,HX.out.cells 4 _ rfl,HX.out.cells 5 _ rfl,HX.out.cells 6 _ rfl⟩ (fun hHeld=> ?_);clear hK K;try simp only[Act.put,qk1,qk2,qk3,qk4,qk5,qk6]
 refine tkr 9 rfl (fun K hK=> ?_);go_simp;refine hK.out _ _ hHeld (fun hHeld=> ?_);clear hK K;try simp only[Act.put,qk1,qk2,qk3,qk4,qk5,qk6]
 refine aB jb ?_ _;refine aA ?_;have HL:Hid (yY x++zz x=[Lib.itoa x.time,yf x.kind,Lib.itoa x.who,Lib.itoa x.slot,Q06.quote x.text]):=hD jej;have HJ:Hid (Calls prog 79 #[.slice (some ⟨g,0,none⟩) (3+2) cap,.string ⟨#[32]⟩] v2 (zm (Lib.join (yY x++zz x) [32]) v2)):=hD (zaC w v2 g (3+2) cap _ jey jdq jch (ah HLen.out ja) jch);exact fo251):p:=h
theorem fo11(h:p:=by
 have q5:(x.kind == 5)=false:=by simp[hk]
 have q6:(x.kind == 6)=false:=by simp[hk]
 clear hk;go_wp2_with fail;clear c1 cl;have HV:=hD (HV.out.below (ae _ _).drew);have HX:=hD (HX.out.below (ae _ _).drew);have HR:=hD (HR.out.below (ae _ _).drew);have HB:=hD (HB.out.drew);refine aD ?_;generalize hv:w3.drew=v0 at HV HX HR HB;have HS:Hid (∀W,Vr W w.heap.size (ptC x)→W.cell? ⟨w.heap.size,3,none⟩=some (.int .i64 x.slot)∧W.cell? ⟨w.heap.size,5,none⟩=some (.string ⟨x.text.toArray⟩)):=hD (fun W h=>⟨h.cells 3 _ rfl,h.cells 5 _ rfl⟩);have hC:=HS.out v0 HX.out;refine aC (S:=fun W=>W.cell? ⟨w.heap.size,3,none⟩=some (.int .i64 x.slot)∧W.cell? ⟨w.heap.size,5,none⟩=some (.string ⟨x.text.toArray⟩)) jb jar (fun hHeld=> ?_);rw[hv]at hHeld⊢;clear hv;refine takes [0,1,2,3,4] ?_;have cz:=HV.out.cells 3 _ rfl;have fz:=HV.out.free 3 (az rfl);have lz:=HV.out.lt;refine tkr 5 rfl (fun K hK=> ?_);go_simp;have HV:=hD (HV.out.set 3 (.int .i64 x.slot));have HX:=hD (HX.out.grown (ze v0 ⟨b3,3,none⟩ (.int .i64 x.slot)) jl);have HR:=hD (HR.out.grown (ze v0 ⟨b3,3,none⟩ (.int .i64 x.slot)) jh);have HB:=hD (zf HB.out (ze v0 ⟨b3,3,none⟩ (.int .i64 x.slot)) jm);clear cz fz lz;generalize v0.setCell ⟨b3,3,none⟩ (.int .i64 x.slot)=v1 at HV HX HR HB⊢;have hC0:=HS.out v1 HX.out;refine hK.out _ _ hC0 (fun hHeld=> ?_);clear hK K;try simp only[Act.put,qk1,qk2,qk3,qk4,qk5,qk6]
 refine takes [6] ?_;have cz:=HV.out.cells 5 _ rfl;have fz:=HV.out.free 5 (az rfl);have lz:=HV.out.lt;refine tkr 7 rfl (fun K hK=> ?_);go_simp;have HV:=hD (HV.out.set 5 (.string ⟨x.text.toArray⟩));have HX:=hD (HX.out.grown (ze v1 ⟨b3,5,none⟩ (.string ⟨x.text.toArray⟩)) jl);have HR:=hD (HR.out.grown (ze v1 ⟨b3,5,none⟩ (.string ⟨x.text.toArray⟩)) jh);have HB:=hD (zf HB.out (ze v1 ⟨b3,5,none⟩ (.string ⟨x.text.toArray⟩)) jm);clear cz fz lz;generalize v1.setCell ⟨b3,5,none⟩ (.string ⟨x.text.toArray⟩)=v2 at HV HX HR HB⊢;have hC1:=HS.out v2 HX.out;refine hK.out _ _ hC1 (fun hHeld=> ?_);clear hK K;try simp only[Act.put,qk1,qk2,qk3,qk4,qk5,qk6]
 refine aB jb ?_ _;refine aA ?_;clear hC hC0 hC1 HS;generalize v2=w5 at HV HX HR HB⊢;have HV:=hD (HV.out.eq (cs':=ptC (⟨x.time,x.kind,x.who,x.slot,0,x.text,[],ms0⟩:Pt)) rfl);have HR2:=hD (HR.out.sets (ptC (⟨x.time,x.kind,x.who,x.slot,0,x.text,[],ms0⟩:Pt)) rfl);have HB:=hD (zf HB.out (zb (b:=w.heap.size+1) (ptC (⟨x.time,x.kind,x.who,x.slot,0,x.text,[],ms0⟩:Pt))) ja);go_wp2_with (first
  |(refine ak rfl 40 _ rfl b3 0 rfl (ptC (⟨x.time,x.kind,x.who,x.slot,0,x.text,[],ms0⟩:Pt)) _ HV.out.range underlying40 rfl (zw (⟨x.time,x.kind,x.who,x.slot,0,x.text,[],ms0⟩:Pt)) ?_)
  |(refine ai rfl 40 _ _ rfl (w.heap.size+1) 0 (ptC (⟨x.time,x.kind,x.who,x.slot,0,x.text,[],ms0⟩:Pt)).toArray rfl rfl ?_ (zw (⟨x.time,x.kind,x.who,x.slot,0,x.text,[],ms0⟩:Pt)) (yz (⟨x.time,x.kind,x.who,x.slot,0,x.text,[],ms0⟩:Pt)) ?_;· exact HR.out.there rfl))
 refine aj (v:= .agg (ptC (⟨x.time,x.kind,x.who,x.slot,0,x.text,[],ms0⟩:Pt)).toArray) ?_ rfl ⟨by rw[HK.out],HB.out⟩;exact zX results63 _ _ (w.heap.size+1) (ptC (⟨x.time,x.kind,x.who,x.slot,0,x.text,[],ms0⟩:Pt)) _ rfl HR2.out.range underlying40 rfl (zw (⟨x.time,x.kind,x.who,x.slot,0,x.text,[],ms0⟩:Pt))):p:=h
theorem fo12(h:p:=by
 have q5:(x.kind == 5)=false:=by simp[hk]
 have q6:(x.kind == 6)=false:=by simp[hk]
 clear hk;go_wp2_with fail;clear c1 cl;have HV:=hD (HV.out.below (ae _ _).drew);have HX:=hD (HX.out.below (ae _ _).drew);have HR:=hD (HR.out.below (ae _ _).drew);have HB:=hD (HB.out.drew);refine aD ?_;generalize hv:w3.drew=v0 at HV HX HR HB;have HS:Hid (∀W,Vr W w.heap.size (ptC x)→W.cell? ⟨w.heap.size,3,none⟩=some (.int .i64 x.slot)∧W.cell? ⟨w.heap.size,5,none⟩=some (.string ⟨x.text.toArray⟩)):=hD (fun W h=>⟨h.cells 3 _ rfl,h.cells 5 _ rfl⟩);have hC:=HS.out v0 HX.out;refine aC (S:=fun W=>W.cell? ⟨w.heap.size,3,none⟩=some (.int .i64 x.slot)∧W.cell? ⟨w.heap.size,5,none⟩=some (.string ⟨x.text.toArray⟩)) jb jar (fun hHeld=> ?_);rw[hv]at hHeld⊢;clear hv;refine takes [0,1,2,3,4] ?_;have cz:=HV.out.cells 3 _ rfl;have fz:=HV.out.free 3 (az rfl);have lz:=HV.out.lt;refine tkr 5 rfl (fun K hK=> ?_);go_simp;have HV:=hD (HV.out.set 3 (.int .i64 x.slot));have HX:=hD (HX.out.grown (ze v0 ⟨b3,3,none⟩ (.int .i64 x.slot)) jl);have HR:=hD (HR.out.grown (ze v0 ⟨b3,3,none⟩ (.int .i64 x.slot)) jh);have HB:=hD (zf HB.out (ze v0 ⟨b3,3,none⟩ (.int .i64 x.slot)) jm);clear cz fz lz;generalize v0.setCell ⟨b3,3,none⟩ (.int .i64 x.slot)=v1 at HV HX HR HB⊢;have hC0:=HS.out v1 HX.out;refine hK.out _ _ hC0 (fun hHeld=> ?_);clear hK K;try simp only[Act.put,qk1,qk2,qk3,qk4,qk5,qk6]
 refine takes [6] ?_;have cz:=HV.out.cells 5 _ rfl;have fz:=HV.out.free 5 (az rfl);have lz:=HV.out.lt;refine tkr 7 rfl (fun K hK=> ?_);go_simp;have HV:=hD (HV.out.set 5 (.string ⟨x.text.toArray⟩));have HX:=hD (HX.out.grown (ze v1 ⟨b3,5,none⟩ (.string ⟨x.text.toArray⟩)) jl);have HR:=hD (HR.out.grown (ze v1 ⟨b3,5,none⟩ (.string ⟨x.text.toArray⟩)) jh);have HB:=hD (zf HB.out (ze v1 ⟨b3,5,none⟩ (.string ⟨x.text.toArray⟩)) jm);clear cz fz lz;generalize v1.setCell ⟨b3,5,none⟩ (.string ⟨x.text.toArray⟩)=v2 at HV HX HR HB⊢;have hC1:=HS.out v2 HX.out;refine hK.out _ _ hC1 (fun hHeld=> ?_);clear hK K;try simp only[Act.put,qk1,qk2,qk3,qk4,qk5,qk6]
 refine aB jb ?_ _;refine aA ?_;clear hC hC0 hC1 HS;generalize v2=w5 at HV HX HR HB⊢;have HV:=hD (HV.out.eq (cs':=ptC (⟨x.time,x.kind,x.who,x.slot,0,x.text,[],ms0⟩:Pt)) rfl);have HR2:=hD (HR.out.sets (ptC (⟨x.time,x.kind,x.who,x.slot,0,x.text,[],ms0⟩:Pt)) rfl);have HB:=hD (zf HB.out (zb (b:=w.heap.size+1) (ptC (⟨x.time,x.kind,x.who,x.slot,0,x.text,[],ms0⟩:Pt))) ja);go_wp2_with (first
  |(refine ak rfl 40 _ rfl b3 0 rfl (ptC (⟨x.time,x.kind,x.who,x.slot,0,x.text,[],ms0⟩:Pt)) _ HV.out.range underlying40 rfl (zw (⟨x.time,x.kind,x.who,x.slot,0,x.text,[],ms0⟩:Pt)) ?_)
  |(refine ai rfl 40 _ _ rfl (w.heap.size+1) 0 (ptC (⟨x.time,x.kind,x.who,x.slot,0,x.text,[],ms0⟩:Pt)).toArray rfl rfl ?_ (zw (⟨x.time,x.kind,x.who,x.slot,0,x.text,[],ms0⟩:Pt)) (yz (⟨x.time,x.kind,x.who,x.slot,0,x.text,[],ms0⟩:Pt)) ?_;· exact HR.out.there rfl))
 refine aj (v:= .agg (ptC (⟨x.time,x.kind,x.who,x.slot,0,x.text,[],ms0⟩:Pt)).toArray) ?_ rfl ⟨by rw[HK.out],HB.out⟩;exact zX results57 _ _ (w.heap.size+1) (ptC (⟨x.time,x.kind,x.who,x.slot,0,x.text,[],ms0⟩:Pt)) _ rfl HR2.out.range underlying40 rfl (zw (⟨x.time,x.kind,x.who,x.slot,0,x.text,[],ms0⟩:Pt))):p:=h
theorem fo13(h:p:=by
 go_wp2_with fail;clear c1 cg lk;refine aD ?_;have HX:=hD (HX.out.below (ae _ _).drew);have HB:=hD (HB.out.drew);generalize hv:w1.drew=v0 at HX HB;refine aC (S:=fun W=>World.cell? W ⟨w.heap.size,0,none⟩=some (.int .i64 x.time)∧World.cell? W ⟨w.heap.size,1,none⟩=some (.int .i64 x.kind)∧World.cell? W ⟨w.heap.size,3,none⟩=some (.int .i64 x.slot)∧World.cell? W ⟨w.heap.size,6,none⟩=some (.string ⟨x.result.toArray⟩)∧World.rangeAt W w.heap.size 0 (ptC x)) jb jv (fun hHeld=> ?_);rw[hv]at hHeld⊢;clear hv;refine takes [0,1,2,3,4,5,6,7,8,9,10,11,12,13,14,15,16,17,18,19,20,21,22,23,24,25,26,27,28,29] ?_;exact fo274):p:=h
theorem fo14(h:p:=by
 clear ha hb sa sb;go_in;go_upto_region 1 with fail;change Code.wp _ _ _ _ ((w.alloc (.cells (ptC a).toArray 40)).alloc (.cells (ptC b).toArray 40));generalize (w.alloc (.cells (ptC a).toArray 40)).alloc (.cells (ptC b).toArray 40)=w1 at HA HB HL⊢;have c0:=HA.out.cells 0 _ rfl;have d0:=HB.out.cells 0 _ rfl;have c1:=HA.out.cells 1 _ rfl;have d1:=HB.out.cells 1 _ rfl;have c2:=HA.out.cells 2 _ rfl;have d2:=HB.out.cells 2 _ rfl;have c3:=HA.out.cells 3 _ rfl;have d3:=HB.out.cells 3 _ rfl;have c4:=HA.out.cells 4 _ rfl;have d4:=HB.out.cells 4 _ rfl;have c5:=HA.out.cells 5 _ rfl;have d5:=HB.out.cells 5 _ rfl;have c6:=HA.out.cells 6 _ rfl;have d6:=HB.out.cells 6 _ rfl;have la:=HA.out.lt;have lb:=HB.out.lt;by_cases h0:a.time=b.time
 case neg=>
  have HF:Hid (eqPt a b=false):=hD (by simp[eqPt,h0]);have q0:(a.time == b.time)=false:=by simpa using h0
  clear h0;exact fo252
 have q0:(a.time == b.time)=true:=by simpa using h0
 by_cases h1:a.kind=b.kind
 case neg=>
  have HF:Hid (eqPt a b=false):=hD (by simp[eqPt,h1]);have q1:(a.kind == b.kind)=false:=by simpa using h1
  clear h1;exact fo252
 have q1:(a.kind == b.kind)=true:=by simpa using h1
 by_cases h2:a.who=b.who
 case neg=>
  have HF:Hid (eqPt a b=false):=hD (by simp[eqPt,h2]);have q2:(a.who == b.who)=false:=by simpa using h2
  clear h2;exact fo252
 have q2:(a.who == b.who)=true:=by simpa using h2
 by_cases h3:a.slot=b.slot
 case neg=>
  have HF:Hid (eqPt a b=false):=hD (by simp[eqPt,h3]);have q3:(a.slot == b.slot)=false:=by simpa using h3
  clear h3;exact fo252
 have q3:(a.slot == b.slot)=true:=by simpa using h3
 by_cases h4:a.number=b.number
 case neg=>
  have HF:Hid (eqPt a b=false):=hD (by simp[eqPt,h4]);have q4:(a.number == b.number)=false:=by simpa using h4
  clear h4;exact fo252
 have q4:(a.number == b.number)=true:=by simpa using h4
 by_cases h5:a.text=b.text
 case neg=>
  have HF:Hid (eqPt a b=false):=hD (by simp[eqPt,h5]);have q5:(a.text == b.text)=false:=by simpa using h5
  clear h5;exact fo252
 have q5:(a.text == b.text)=true:=by simpa using h5
 by_cases h6:a.result=b.result
 case neg=>
  have HF:Hid (eqPt a b=false):=hD (by simp[eqPt,h6]);have q6:(a.result == b.result)=false:=by simpa using h6
  clear h6;exact fo252
 have q6:(a.result == b.result)=true:=by simpa using h6
 have HF:Hid (eqPt a b=zeO (ZP a.msg) (ZP b.msg)):=hD (by simp[eqPt,h0,h1,h2,h3,h4,h5,h6]);clear h0 h1 h2 h3 h4 h5 h6;go_wp2_with (first
  |(refine yC ji 38 _ rfl w.heap.size 7 rfl (msC a.msg) _ HA.out.msg underlying38 rfl (zD a.msg) ?_)
  |(refine yC ji 38 _ rfl (w.heap.size+1) 7 rfl (msC b.msg) _ HB.out.msg underlying38 rfl (zD b.msg) ?_))
 refine(HM.out _ HL.out).mono ?_;rintro e w2 ⟨rfl,b2⟩;have HL2:=hD (bon HL.out b2);clear b2;generalize zeO (ZP a.msg) (ZP b.msg)=q at HF⊢;go_wp2_with fail;go_ret;exact yA HF.out HL2.out):p:=h
theorem fo15(h:p:=by
 go_wp2_with fail;generalize w1.alloc (.cells #[.int .i64 3,(),"s"] 129)=wx at B3 HR3 HO3⊢;have HQ3:=hD (zdt wx);have HVal:=zcK 3 0 [] none 0 wx HQ3.out;by_cases hv:vEn ⟨3,0,[]⟩=0
 · rw[hv]at HVal;refine HVal.mono ?_;rintro e w3 ⟨rfl,b3⟩;have B4:=hD (bon B3.out b3);have HR4:=hD (HR3.out.below b3);have HO4:=hD (HO3.out.below b3);have HQ4:=hD (HQ3.out.below b3);obtain⟨hlt4,p0,p1,p2,f0,f1,f2⟩:=HO4.out;clear b3;go_wp2_with fail;have HVl:=zfu 3 0 [] none 0 w3 (HE.out.below B4.out) HQ4.out jc (by intro r hr;simp at hr) ⟨by decide,by decide⟩;by_cases hq:valE ⟨3,0,[]⟩=s
   · rw[hq]at HVl;refine HVl.mono ?_;rintro e w4 ⟨rfl,b4⟩;have B5:=hD (bon B4.out b4);have HR5:=hD (HR4.out.below b4);have HO5:=hD (HO4.out.below b4);have HQ5:=hD (HQ4.out.below b4);have HY:Hid (decE s=some ⟨3,0,[]⟩):=hD (by rw[HD.out,zbV,af ⟨hv,hq⟩]);clear b4 p0 p1 p2 f0 f1 f2 hv hq;obtain⟨hlt5,p0,p1,p2,f0,f1,f2⟩:=HO5.out;obtain⟨hlt6,r0,r1,r2,s0,s1,s2⟩:=HR5.out;go_wp2_with fail;refine aj (v:= .tuple #[.agg #[.int .i64 3,(),"s"],()]) jbh rfl (YO HY.out (((B5.out.setCell (ag _) _).setCell (ag _) _).setCell (ag _) _) rfl ?_);exact zeA HQ5.out (fun a h=>by cases h) _ _ _
   · have HY:Hid (decE s=none):=hD (by rw[HD.out,zbV,aa (fun h=>hq h.2)]);have hq1:(valE ⟨3,0,[]⟩ == s)=false:=by simpa using hq
     generalize valE ⟨3,0,[]⟩=v at HVl hq1 hq;exact fo243
 · have HY:Hid (decE s=none):=hD (by rw[HD.out,zbV,aa (fun h=>hv h.1)]);generalize vEn ⟨3,0,[]⟩=v at HVal hv;exact fo241):p:=h
theorem fo16(h:p:=by
 go_wp2_with fail;go_ret;exact yA HF.out HB.out):p:=h
theorem fo17(h:p:=by
 have HB:=hD (za w (.cells #["",.string ⟨#[105,110,118,111,107,101]⟩,.string ⟨#[97,99,107]⟩,.string ⟨#[97,99,99,101,112,116]⟩,.string ⟨#[100,101,99,105,100,101]⟩,.string ⟨#[114,101,97,100]⟩,.string ⟨#[115,101,110,100]⟩,.string ⟨#[99,114,97,115,104]⟩,.string ⟨#[114,101,115,116,97,114,116]⟩] 9));go_in;go_wp2_with fail;go_ret;exact⟨rfl,HB.out⟩):p:=h
theorem fo18(h:p:=by
 rintro e w6 ⟨rfl,hs2⟩;have HX:=hD (HX.out.below hs2);have HB:=hD (bon HB.out hs2);clear hs2 c0 c1 c2 c3 l1;have c0:=HX.out.cells 0 _ rfl;have c1:=HX.out.cells 1 _ rfl;have c2:=HX.out.cells 2 _ rfl;have c3:=HX.out.cells 3 _ rfl;have l1:=HX.out.lt;go_wp2_with fail;go_ret2;exact ret_fmt_ok HF.out (by first|(rw[HT.out];done)|(rw[HT.out];apply bz;simp)) HB.out):p:=h
theorem fo19(h:p:=by
 cases n with
 |zero=>
  have HL0:Hid (lt=false):=hD (by
   have h:=HNl.out;rw[HLt.out,cK h];rfl)
  have hl0:=HL0.out;subst hl0;clear HJ3 HL0;exact fo244
 |succ p=>
  obtain⟨b,off,hA,hg,hcc⟩:=HJ3.out.pts.1.at (k:=p) (by have:=HNl.out;omega);subst hA;have cl:=hcc w3 (ae _ _) 0 _ rfl;obtain⟨z,hz⟩:∃z,z=(acc[p]'(by have:=HNl.out;omega)).time:=⟨_,rfl⟩;rw[←hz,dU]at cl;have HL0:Hid (lt=decide (x.time<z)):=hD (by
   have h:=HNl.out;rw[HLt.out,←HXe.out,late_last ja,hz];simp only[h,Nat.add_sub_cancel])
  clear hcc hz HJ3 hg;have p0:(0:Int)≤(p:Int):=by omega
  by_cases hlz:x.time<z
  · have hl0:=HL0.out.trans (aO hlz);subst hl0;clear HL0;exact fo244
  · have hl0:=HL0.out.trans (av hlz);subst hl0;clear HL0;exact fo244):p:=h
theorem fo20(h:p:=by
 have HK:Hid (opOk s.data.toList=true):=hD (zeQ hk1 hk6 jcb);have t1:(yw k (zL (a::b::c::t)) (zM k (a::b::c::t)) (zG k (a::b::c::t)) == s.toList)=true:=by rw[aS];exact ht
 clear ht hq;have HR2:=hD (HX2.out.sets [.int .i64 (k:Int),.string ⟨(zL (a::b::c::t)).toArray⟩,.string ⟨(zM k (a::b::c::t)).toArray⟩,.string ⟨(zG k (a::b::c::t)).toArray⟩] rfl);have HB3:=hD (zf HB.out (zb (b:=b2) [.int .i64 (k:Int),.string ⟨(zL (a::b::c::t)).toArray⟩,.string ⟨(zM k (a::b::c::t)).toArray⟩,.string ⟨(zG k (a::b::c::t)).toArray⟩]) HB2.out);go_wp2_with (first
  |(refine ak rfl 124 _ rfl b6 0 rfl [.int .i64 (k:Int),.string ⟨(zL (a::b::c::t)).toArray⟩,.string ⟨(zM k (a::b::c::t)).toArray⟩,.string ⟨(zG k (a::b::c::t)).toArray⟩] _ HX6.out.range underlying124 rfl Zk ?_)
  |(refine ai rfl 124 _ _ rfl b2 0 #[.int .i64 (k:Int),.string ⟨(zL (a::b::c::t)).toArray⟩,.string ⟨(zM k (a::b::c::t)).toArray⟩,.string ⟨(zG k (a::b::c::t)).toArray⟩] rfl rfl ?_ Zk (zcL _ _ _ _) ?_;· exact HX2.out.there rfl))
 refine aj (v:= .tuple #[.agg #[.int .i64 (k:Int),.string ⟨(zL (a::b::c::t)).toArray⟩,.string ⟨(zM k (a::b::c::t)).toArray⟩,.string ⟨(zG k (a::b::c::t)).toArray⟩],()]) ?_ rfl (zcG (ok:=opOk s.data.toList) jex HB3.out);exact zi results103 _ _ b2 [.int .i64 (k:Int),.string ⟨(zL (a::b::c::t)).toArray⟩,.string ⟨(zM k (a::b::c::t)).toArray⟩,.string ⟨(zG k (a::b::c::t)).toArray⟩] _ _ rfl rfl HR2.out.range underlying124 rfl Zk):p:=h
theorem fo21(h:p:=by
 refine takes [0] ?_;refine tkq 1 rfl (aM ji 38 _ ji _ 0 ji (msC m) _ (fun W h=>h) underlying38 rfl (zD m)) je ?_;try simp only[Act.put,qk]
 refine takes [2,3,4,10] ?_;refine tkr 5 rfl (fun K hK=> ?_);go_simp;refine hK.out _ _ hHeld (fun hHeld=> ?_);clear hK K;try simp only[Act.put,qk]
 refine takes [6,7,8,9] ?_;refine tkr 11 rfl (fun K hK=> ?_);rw[af ji];refine aQ 38 _ _ rfl q 7 (msC m).toArray rfl rfl HTh.out (zD m) (yu m) ?_;try simp only[ay]
 generalize v0.setCells q 7 (msC m)=v1 at HPm HVm HSm⊢;refine hK.out _ _ HVm.out.range (fun hHeld=> ?_);clear hK K c1 lg;try simp only[Act.put,qk]
 obtain⟨A8,c8,hv8, -⟩:=HPm.out.rd.blk;have c1:=hv8.cells 1 _ rfl;have f1:=hv8.free 1 jc;have lg:=hv8.lt;simp only at c1;clear hv8;refine takes [12,13] ?_;refine tkr 14 rfl (fun K hK=> ?_);go_simp;have HPe:=hD (HPm.out.bad true);have HVe:=hD (HVm.out.grown (ze v1 ⟨g,1,none⟩ (.bool true)) jck);have HSe:=hD ((HSm.out.on (zh (ze v1 ⟨g,1,none⟩ (.bool true)) jbw)).low (b':=q+1) HQ1.out);generalize v1.setCell ⟨g,1,none⟩ (.bool true)=v2 at HPe HVe HSe⊢;refine hK.out _ _ HVe.out.range (fun hHeld=> ?_);clear hK K c1 f1 lg;try simp only[Act.put,qk]
 refine aB jb ?_ _;refine aA ?_;go_wp2_with fail;go_meet
 case rel=>exact⟨_,_,HPe.out,by rw[HKp.out,HM.out];rfl,by rw[HKp.out],HSe.out⟩):p:=h
theorem fo22(h:p:=by
 have HK:Hid (opOk s.data.toList=true):=hD (zeQ hk1 hk6 jcb);have t1:(yw k (zL [a,b]) (zM k [a,b]) (zG k [a,b]) == s.toList)=true:=by rw[aS];exact ht
 clear ht hq;have HR2:=hD (HX2.out.sets [.int .i64 (k:Int),.string ⟨(zL [a,b]).toArray⟩,.string ⟨(zM k [a,b]).toArray⟩,.string ⟨(zG k [a,b]).toArray⟩] rfl);have HB3:=hD (zf HB.out (zb (b:=b2) [.int .i64 (k:Int),.string ⟨(zL [a,b]).toArray⟩,.string ⟨(zM k [a,b]).toArray⟩,.string ⟨(zG k [a,b]).toArray⟩]) HB2.out);go_wp2_with (first
  |(refine ak rfl 124 _ rfl b6 0 rfl [.int .i64 (k:Int),.string ⟨(zL [a,b]).toArray⟩,.string ⟨(zM k [a,b]).toArray⟩,.string ⟨(zG k [a,b]).toArray⟩] _ HX6.out.range underlying124 rfl Zk ?_)
  |(refine ai rfl 124 _ _ rfl b2 0 #[.int .i64 (k:Int),.string ⟨(zL [a,b]).toArray⟩,.string ⟨(zM k [a,b]).toArray⟩,.string ⟨(zG k [a,b]).toArray⟩] rfl rfl ?_ Zk (zcL _ _ _ _) ?_;· exact HX2.out.there rfl))
 refine aj (v:= .tuple #[.agg #[.int .i64 (k:Int),.string ⟨(zL [a,b]).toArray⟩,.string ⟨(zM k [a,b]).toArray⟩,.string ⟨(zG k [a,b]).toArray⟩],()]) ?_ rfl (zcG (ok:=opOk s.data.toList) jex HB3.out);exact zi results103 _ _ b2 [.int .i64 (k:Int),.string ⟨(zL [a,b]).toArray⟩,.string ⟨(zM k [a,b]).toArray⟩,.string ⟨(zG k [a,b]).toArray⟩] _ _ rfl rfl HR2.out.range underlying124 rfl Zk):p:=h
theorem fo23(h:p:=by
 have HK:Hid (opOk s.data.toList=true):=hD (zeQ hk1 hk6 jcb);have t1:(yw k (zL [a]) (zM k [a]) (zG k [a]) == s.toList)=true:=by rw[aS];exact ht
 clear ht hq;have HR2:=hD (HX2.out.sets [.int .i64 (k:Int),.string ⟨(zL [a]).toArray⟩,.string ⟨(zM k [a]).toArray⟩,.string ⟨(zG k [a]).toArray⟩] rfl);have HB3:=hD (zf HB.out (zb (b:=b2) [.int .i64 (k:Int),.string ⟨(zL [a]).toArray⟩,.string ⟨(zM k [a]).toArray⟩,.string ⟨(zG k [a]).toArray⟩]) HB2.out);go_wp2_with (first
  |(refine ak rfl 124 _ rfl b6 0 rfl [.int .i64 (k:Int),.string ⟨(zL [a]).toArray⟩,.string ⟨(zM k [a]).toArray⟩,.string ⟨(zG k [a]).toArray⟩] _ HX6.out.range underlying124 rfl Zk ?_)
  |(refine ai rfl 124 _ _ rfl b2 0 #[.int .i64 (k:Int),.string ⟨(zL [a]).toArray⟩,.string ⟨(zM k [a]).toArray⟩,.string ⟨(zG k [a]).toArray⟩] rfl rfl ?_ Zk (zcL _ _ _ _) ?_;· exact HX2.out.there rfl))
 refine aj (v:= .tuple #[.agg #[.int .i64 (k:Int),.string ⟨(zL [a]).toArray⟩,.string ⟨(zM k [a]).toArray⟩,.string ⟨(zG k [a]).toArray⟩],()]) ?_ rfl (zcG (ok:=opOk s.data.toList) jex HB3.out);exact zi results103 _ _ b2 [.int .i64 (k:Int),.string ⟨(zL [a]).toArray⟩,.string ⟨(zM k [a]).toArray⟩,.string ⟨(zG k [a]).toArray⟩] _ _ rfl rfl HR2.out.range underlying124 rfl Zk):p:=h
theorem fo24(h:p:=by
 exact fo241):p:=h
theorem fo25(h:p:=by
 obtain⟨x,q⟩:=x;have HG1:=hD (ze4 (s.extract p s.size) wr ja x q jbv);have hq:=Zj hg;simp only[aK,zU]at hq;obtain⟨q0,q1,q2⟩:=hq;have HR:Hid (zF s.data.toList=(match zY yg (n-(j+1)) (s.data.toList.drop (p+q)) with
  |none=>none
  |some (ys,m)=>some (xs++ [x]++ys,p+q+m))):=hD (fo254)
 clear hg hsl hmany;go_wp2_with fail;refine HG1.out.mono ?_;rintro e w' ⟨rfl,rfl⟩;go_wp2_with (at_builtin;refine bu _ rfl _ _ 32 rfl w.heap.size 9 i0 _ 1 16 underlying32 HI.out HZ0.out HZ1.out HZ2.out rfl jf _ _ _ rfl (HO.out.alloc _) ⟨wr.heap.size,0,none⟩ 1 1 [x] rfl rfl (zN _ _ _ _ rfl) jr jq ja jg ?_);intro v' w2 hown' hgrow _;have HO2:=hD hown';have HG2:=hD hgrow;clear hown' hgrow;go_wp2_with fail;go_roundw
 case rel=>
  refine⟨j+1,p+q,xs++ [x],by go_num,by omega,by go_num,by omega,by omega,by simp[HX.out],?_,below_grown (HB.out.alloc hge _) jg HG2.out (fun g hg=>(HO.out.lt g hg).1),?_,HR.out⟩
  · rw[Y2];exact HO2.out
  · exact fo277
 case measure=>simp[intOf];omega):p:=h
theorem fo26(h:p:=by
 go_in;go_wp2_with fail;go_ret;exact⟨aL (fun b=>Ending.returned (.bool b)) H.out.symm,rfl⟩):p:=h
theorem fo27(h:p:=by
 have HK:Hid (opOk s.data.toList=true):=hD (zeQ hk1 hk6 jcb);have t1:(yw k (zL []) (zM k []) (zG k []) == s.toList)=true:=by rw[aS];exact ht
 clear ht hq;have HR2:=hD (HX2.out.sets [.int .i64 (k:Int),.string ⟨(zL []).toArray⟩,.string ⟨(zM k []).toArray⟩,.string ⟨(zG k []).toArray⟩] rfl);have HB3:=hD (zf HB.out (zb (b:=b2) [.int .i64 (k:Int),.string ⟨(zL []).toArray⟩,.string ⟨(zM k []).toArray⟩,.string ⟨(zG k []).toArray⟩]) HB2.out);go_wp2_with (first
  |(refine ak rfl 124 _ rfl b6 0 rfl [.int .i64 (k:Int),.string ⟨(zL []).toArray⟩,.string ⟨(zM k []).toArray⟩,.string ⟨(zG k []).toArray⟩] _ HX6.out.range underlying124 rfl Zk ?_)
  |(refine ai rfl 124 _ _ rfl b2 0 #[.int .i64 (k:Int),.string ⟨(zL []).toArray⟩,.string ⟨(zM k []).toArray⟩,.string ⟨(zG k []).toArray⟩] rfl rfl ?_ Zk (zcL _ _ _ _) ?_;· exact HX2.out.there rfl))
 refine aj (v:= .tuple #[.agg #[.int .i64 (k:Int),.string ⟨(zL []).toArray⟩,.string ⟨(zM k []).toArray⟩,.string ⟨(zG k []).toArray⟩],()]) ?_ rfl (zcG (ok:=opOk s.data.toList) jex HB3.out);exact zi results103 _ _ b2 [.int .i64 (k:Int),.string ⟨(zL []).toArray⟩,.string ⟨(zM k []).toArray⟩,.string ⟨(zG k []).toArray⟩] _ _ rfl rfl HR2.out.range underlying124 rfl Zk):p:=h
theorem fo28(h:p:=by
 have HKP:Hid (zz x=[Lib.itoa x.slot,Q06.quote x.text]):=hD jbs;have HCk:Hid (∀w1,Bx w (ptC x) 40 w1→Bx w (ptC x) 40 w1∧w1.cell? ⟨w.heap.size,3,none⟩=some (.int .i64 x.slot)∧w1.cell? ⟨w.heap.size,5,none⟩=some (.string ⟨x.text.toArray⟩)):=hD (fun w1 hb=>⟨hb,zg hb 3 _ rfl,zg hb 5 _ rfl⟩);rw[hk]at c1;clear hk;have s0:¬(9223372036854775807<1+(Lib.itoa x.slot).length):=by omega
 have s1:¬(9223372036854775807<1+(Lib.itoa x.slot).length+1):=by omega
 have s2:¬(9223372036854775807<1+(Lib.itoa x.slot).length+1+(Q06.quote x.text).length):=by omega
 have s3:¬(9223372036854775807<hl.length+(1+(Lib.itoa x.slot).length+1+(Q06.quote x.text).length)):=by omega
 have s4:¬(9223372036854775807<hl.length+(1+(Lib.itoa x.slot).length+1+(Q06.quote x.text).length)+1):=by omega
 go_wp2_with fail; go_region_held3 (fun w1 => Bx w (ptC x) 40 w1 ∧ w1.cell? ⟨w.heap.size, 3, none⟩ = some (.int .i64 x.slot) ∧ w1.cell? ⟨w.heap.size, 5, none⟩ = some (.string ⟨x.text.toArray⟩))
     (first|exact HCk.out _ (yO ‹Bx _ _ _ _›)|exact HCk.out _ ‹Bx _ _ _ _›)
     (first
      |(go_at_call 76;refine(HI.out _ _ _ je je).mono ?_;rintro e w2 ⟨rfl,b2⟩)
      |(go_at_call 62;refine(HWd.out _ _ je).mono ?_;rintro e w3 ⟨rfl,b3⟩)
      |(go_at_call 80;refine(HQ.out _ _ _ ja je).mono ?_;rintro e w4 ⟨rfl,b4⟩))
 all_goals
  go_wp2_with fail;go_ret;refine zgy ?_ (zC ‹_›);rw[zbb,HHd.out,HKP.out];apply bz;simp[zey]):p:=h
theorem fo29(h:p:=by
 have hv1:(v == 0)=false:=by simpa using hv
 have hv2:(v != 0)=true:=by simpa using hv
 refine HVal.mono ?_;rintro e w3 ⟨rfl,b3⟩;have B4:=hD (bon B3.out b3);have HR4:=hD (HR3.out.below b3);clear b3 hv;obtain⟨hlt6,r0,r1,r2,s0,s1,s2⟩:=HR4.out;go_wp2_with fail;exact aj (v:= .tuple #[.agg #[(),(),"s"],.int .i64 2]) jat rfl (zal HY.out (((B4.out.setCell (ag _) _).setCell (ag _) _).setCell (ag _) _))):p:=h
theorem fo30(h:p:=by
 go_wp2_with (refine ai rfl 29 _ _ rfl w.heap.size 0 (sgC sg0).toArray rfl rfl (HV1.out.there rfl) (yP sg0) (Yr sg0) ?_);refine aj (v:= .tuple #[.agg (sgC sg0).toArray,.int .i64 2]) ?_ rfl (zch HR.out (zcZ HB1.out (ag _) _));exact zi results198 _ _ w.heap.size (sgC sg0) _ _ rfl rfl (HV1.out.sets (sgC sg0) rfl).range underlying29 rfl (yP sg0)):p:=h
theorem fo31(h:p:=by
 go_wp2_with fail;refine(zbi HP10.out).mono ?_;rintro e w11 ⟨rfl,hp⟩;obtain⟨l,hl⟩:∃x,x=(nxt 2 s3).1.int:=⟨_,rfl⟩;obtain⟨s4,hs4⟩:∃x,x=(nxt 2 s3).2:=⟨_,rfl⟩;rw[←hl];rw[←hs4]at hp;have HP11:=hD hp;have HL11:=hD (And.intro hl hs4);clear hp hl hs4 HP10;go_wp2_with fail;refine(zdM HP11.out).mono ?_;rintro e w12 ⟨rfl,hp⟩;obtain⟨t,ht⟩:∃x,x=(nxt 3 s4).1.str:=⟨_,rfl⟩;obtain⟨s5,hs5⟩:∃x,x=(nxt 3 s4).2:=⟨_,rfl⟩;rw[←ht];rw[←hs5]at hp;have HP12:=hD hp;have HL12:=hD (And.intro ht hs5);clear hp ht hs5 HP11;have c3:=HP12.out.pt.cells 3 _ rfl;have f3:=HP12.out.pt.free 3 (az rfl);have c5:=HP12.out.pt.cells 5 _ rfl;have f5:=HP12.out.pt.free 5 (az rfl);have lq:=HP12.out.pt.lt;have HPe:=hD (Ps.setx (y:=⟨a,k,o,l,0,t,[],ms0⟩) (Ps.setx (y:=⟨a,k,o,l,0,[],[],ms0⟩) (HP12.out) 3 (.int .i64 l) rfl) 5 (.string ⟨t.toArray⟩) rfl);have HKp:Hid (YG a k o s3=(⟨a,k,o,l,0,t,[],ms0⟩,s5.2)):=hD (fo275);have HKd:Hid (Pt.er ⟨a,k,o,l,0,t,[],ms0⟩=(YG a k o s3).1):=hD (by rw[HKp.out];rfl);have HKs:Hid (s5.2=(YG a k o s3).2):=hD (by rw[HKp.out]);exact fo278):p:=h
theorem fo32(h:p:=by
 exact fo251):p:=h
theorem fo33(h:p:=by
 have HY:Hid (ZI s=none):=hD (by rw[HSpec2.out];rfl);go_wp2_with (refine ai rfl 38 _ _ rfl w.heap.size 0 (msC ms0).toArray rfl rfl (HV.out.there rfl) (zD ms0) (yu ms0) ?_);refine aj (v:= .tuple #[.agg (msC ms0).toArray,.int .i64 2]) ?_ rfl (Z0 HY.out (zf HB.out (zb (b:=w.heap.size) (msC ms0)) (ag _)));exact zi results91 _ _ w.heap.size (msC ms0) _ _ rfl rfl (HV.out.sets (msC ms0) rfl).range underlying38 rfl (zD ms0)):p:=h
theorem fo34(h:p:=by
 exact fo243):p:=h
theorem fo35(h:p:=by
 have HB:=hD (za w (.cells #[.string ⟨#[112,117,116]⟩,.string ⟨#[103,101,116]⟩,.string ⟨#[100,101,108,101,116,101]⟩,.string ⟨#[97,112,112,101,110,100]⟩,.string ⟨#[99,97,115]⟩,.string ⟨#[99,111,117,110,116]⟩] 9));go_in;go_wp2_with fail;go_ret;exact⟨rfl,HB.out⟩):p:=h
theorem fo36(h:p:=by
 refine HVl.mono ?_;rintro e w4 ⟨rfl,b4⟩;have B5:=hD (bon B4.out b4);have HR5:=hD (HR4.out.below b4);clear b4 p0 p1 p2 f0 f1 f2 hv hq;obtain⟨hlt6,r0,r1,r2,s0,s1,s2⟩:=HR5.out;go_wp2_with fail;exact aj (v:= .tuple #[.agg #[(),(),"s"],.int .i64 2]) jat rfl (zal HY.out (((B5.out.setCell (ag _) _).setCell (ag _) _).setCell (ag _) _))):p:=h
theorem fo37(h:p:=by
 have i0:(0:Int)≤(k:Int):=by omega
 have i1:(k:Int) <(s.size:Int):=by omega
 have hT:=graphic_to s n k hlt;by_cases h1:s[k].toNat<33
 · have c1:(s[k].toNat:Int) <33:=by omega
   have HF:Hid (graphic s.data.toList n=false):=hD (zfE hlt (by rw[av ja];rfl));clear hT;exact fo273
 · have c1:¬((s[k].toNat:Int) <33):=by omega
   by_cases h2:126<s[k].toNat
   · have c2:(126:Int) <(s[k].toNat:Int):=by omega
     have HF:Hid (graphic s.data.toList n=false):=hD (zfE hlt (by rw[av (p:=s[k].toNat≤126) ja,fC]));clear hT;exact fo273
   · have c2:¬((126:Int) <(s[k].toNat:Int)):=by omega
     have HN:Hid ((s.data.toList.take (k+1)).all (fun b=>decide (33≤b.toNat) && decide (b.toNat≤126))=true):=hD (by rw[hT,HA.out,aO (by omega:33≤s[k].toNat),aO (by omega:s[k].toNat≤126)];rfl);clear hT;go_wp2_with fail;go_roundw
     case rel=>exact⟨k+1,by go_num,by omega,HN.out,by first|rfl|trivial⟩
     case measure=>simp[intOf];omega):p:=h
theorem fo38(h:p:=by
 go_wp2_with fail;refine(YI A c ts 3 _ HP0.out.tk.rd).mono ?_;rintro e w9 ⟨rfl,hw⟩;subst hw;obtain⟨l,hl⟩:∃x,x=numR ts 3:=⟨_,rfl⟩;rw[←hl];have HLl:=hD hl;clear hl;go_wp2_with fail;refine(zaj A c ts 4 _ HP0.out.tk.rd).mono ?_;rintro e w9 ⟨rfl,hw⟩;subst hw;obtain⟨t,ht⟩:∃x,x=txtR ts 4:=⟨_,rfl⟩;rw[←ht];have HLt:=hD ht;clear ht;have c3:=HP0.out.pt.cells 3 _ rfl;have f3:=HP0.out.pt.free 3 (az rfl);have c5:=HP0.out.pt.cells 5 _ rfl;have f5:=HP0.out.pt.free 5 (az rfl);have lq:=HP0.out.pt.lt;have HPe:=hD (Pq.setx (y:=⟨a,k,o,l,0,t,[],ms0⟩) (Pq.setx (y:=⟨a,k,o,l,0,[],[],ms0⟩) (HP0.out) 3 (.int .i64 l) rfl) 5 (.string ⟨t.toArray⟩) rfl);have HKp:Hid (pRef ts=some (Pt.er ⟨a,k,o,l,0,t,[],ms0⟩)):=hD (by
  have hn:=HKn.out;rw[HPr.out,aa (show ¬k=1 by omega),aa (show ¬k=2 by omega),af (show k=3∨k=4 by omega),←HLl.out,←HLt.out];rfl)
 exact fo284):p:=h
theorem fo39(h:p:=by
 go_wp2_with fail;go_ret2;exact ret_fmt_no HF.out HB.out):p:=h
theorem fo40(h:p:=by
 have HG2:=hD hgrow;clear hown' hgrow;go_wp2_with fail;go_roundw
 case rel=>
  refine⟨k+1,by go_num,by omega,HO2.out,below_grown (B1.out.alloc ja _) jg HG2.out (fun g hg=>(HO1.out.lt g hg).1),?_⟩;exact fo277
 case measure=>simp[intOf];omega):p:=h
theorem fo41(h:p:=by
 have HB0:=hD (Zy w (msC m) 38);have HRow:Hid (∀W,Bx w (msC m) 38 W→W.rangeAt w.heap.size 0 (msC m)):=hD (fun W hb j v hv=>by rw[bI];exact zg hb j v hv);clear hok hs;go_in;go_wp2_with (refine ak rfl 38 _ rfl _ 0 rfl (msC m) _ (HRow.out _ HB0.out) underlying38 rfl (zcz m) ?_);refine(HV.out _ (zC HB0.out)).mono ?_;rintro e w2 ⟨rfl,b2⟩;have HB2:=hD (zbv HB0.out b2);clear b2;by_cases h0:vMs m=0
 · have h1:(vMs m == 0)=true:=by simp[h0]
   have h2:(vMs m != 0)=false:=by simp[h0]
   have H0:=hD h0;clear h0;have HE2:=hD (HE.out w2 (zC HB2.out));go_wp2_with (refine ak rfl 38 _ rfl _ 0 rfl (msC m) _ (HRow.out _ HB2.out) underlying38 rfl (zcz m) ?_);refine HE2.out.mono ?_;rintro e w3 ⟨rfl,b3⟩;have HB3:=hD (zC (zbv HB2.out b3));clear b3;go_wp2_with fail;go_ret2;exact zfj (by unfold enc0;rw[af H0.out]) H0.out HB3.out
 · have h1:(vMs m == 0)=false:=by simp[h0]
   have h2:(vMs m != 0)=true:=by simp[h0]
   have H0:=hD h0;clear h0;go_wp2_with fail;go_ret2;exact zfj (by unfold enc0;rw[aa H0.out]) rfl (zC HB2.out)):p:=h
theorem fo42(h:p:=by
 cases b
 all_goals
  have HQ2:=hD (HQ1.out.below (za w1 (.cells (intC (List.replicate 6 0)).toArray 3)));have HB2:=hD (bon HB1.out (za w1 (.cells (intC (List.replicate 6 0)).toArray 3)));have HRow:=hD (Yx (b:=w.heap.size+2) (k:=1) (n:=6) (cs:=intC (List.replicate 6 0)) (T:=3) (w:=w1) rfl hz1);have HBe:=hD (zf HB2.out (zb (b:=w.heap.size+1) (rcC Rc.fail)) ja);have HQe:=hD (HQ2.out.sets (rcC Rc.fail) rfl);have HRe:=hD ((HRow.out.on (zh (zb (b:=w.heap.size+1) (rcC Rc.fail)) ja)).low (b':=w.heap.size) ja);go_wp2_with (refine ai rfl 167 _ _ rfl (w.heap.size+1) 0 (rcC Rc.fail).toArray rfl rfl (HQ2.out.there (n:=2) rfl) (zt Rc.fail) (zO Rc.fail) ?_);refine aj (v:= .tuple #[.slice (some ⟨w1.heap.size,0,none⟩) 6 6,.agg (rcC Rc.fail).toArray]) ?_ rfl (zcU (r':=(List.replicate 6 0,Rc.fail)) HS.out rfl HRe.out HBe.out);exact zT results129 _ _ (w.heap.size+1) (rcC Rc.fail) _ _ rfl rfl HQe.out.range underlying167 rfl (zt Rc.fail)):p:=h
theorem fo43(h:p:=by
 cases b
 all_goals
  have HQ2:=hD (HQ1.out.below (za w1 (.cells (intC (List.replicate 4 0)).toArray 3)));have HB2:=hD (bon HB1.out (za w1 (.cells (intC (List.replicate 4 0)).toArray 3)));have HRow:=hD (Yx (b:=w.heap.size+2) (k:=1) (n:=4) (cs:=intC (List.replicate 4 0)) (T:=3) (w:=w1) rfl hz1);have HBe:=hD (zf HB2.out (zb (b:=w.heap.size+1) (rcC Rc.fail)) ja);have HQe:=hD (HQ2.out.sets (rcC Rc.fail) rfl);have HRe:=hD ((HRow.out.on (zh (zb (b:=w.heap.size+1) (rcC Rc.fail)) ja)).low (b':=w.heap.size) ja);go_wp2_with (refine ai rfl 167 _ _ rfl (w.heap.size+1) 0 (rcC Rc.fail).toArray rfl rfl (HQ2.out.there (n:=2) rfl) (zt Rc.fail) (zO Rc.fail) ?_);refine aj (v:= .tuple #[.slice (some ⟨w1.heap.size,0,none⟩) 4 4,.agg (rcC Rc.fail).toArray]) ?_ rfl (zcU (r':=(List.replicate 4 0,Rc.fail)) HS.out rfl HRe.out HBe.out);exact zT results129 _ _ (w.heap.size+1) (rcC Rc.fail) _ _ rfl rfl HQe.out.range underlying167 rfl (zt Rc.fail)):p:=h
theorem fo44(h:p:=by
 cases b
 all_goals
  have HQ2:=hD (HQ1.out.below (za w1 (.cells (intC (List.replicate 1 0)).toArray 3)));have HB2:=hD (bon HB1.out (za w1 (.cells (intC (List.replicate 1 0)).toArray 3)));have HRow:=hD (Yx (b:=w.heap.size+2) (k:=1) (n:=1) (cs:=intC (List.replicate 1 0)) (T:=3) (w:=w1) rfl hz1);have HBe:=hD (zf HB2.out (zb (b:=w.heap.size+1) (rcC Rc.fail)) ja);have HQe:=hD (HQ2.out.sets (rcC Rc.fail) rfl);have HRe:=hD ((HRow.out.on (zh (zb (b:=w.heap.size+1) (rcC Rc.fail)) ja)).low (b':=w.heap.size) ja);go_wp2_with (refine ai rfl 167 _ _ rfl (w.heap.size+1) 0 (rcC Rc.fail).toArray rfl rfl (HQ2.out.there (n:=2) rfl) (zt Rc.fail) (zO Rc.fail) ?_);refine aj (v:= .tuple #[.slice (some ⟨w1.heap.size,0,none⟩) 1 1,.agg (rcC Rc.fail).toArray]) ?_ rfl (zcU (r':=(List.replicate 1 0,Rc.fail)) HS.out rfl HRe.out HBe.out);exact zT results129 _ _ (w.heap.size+1) (rcC Rc.fail) _ _ rfl rfl HQe.out.range underlying167 rfl (zt Rc.fail)):p:=h
theorem fo45(h:p:=by
 have hle:=Y5 hv;rw[zU]at hle;have hn:=zbT hv;obtain⟨k0,k1,k2⟩:=hle;by_cases hq:s.size- k<n
 · have HR:Hid (yg s.data.toList=none):=hD (by unfold yg;rw[hv];simp only[];rw[zU,af hq]);clear hv;have hq':(s.size:Int)-(k:Int) <(n:Int):=by omega
   go_in;go_wp2_with fail;refine HG.out.mono ?_;rintro e w' ⟨rfl,rfl⟩;go_wp2_with fail;go_ret3;exact zgk HR.out 9 jf
 · have HR:Hid (yg s.data.toList=some ((s.data.toList.drop k).take n,k+n)):=hD (by unfold yg;rw[hv];simp only[];rw[zU,aa hq]);clear hv;have hq':¬(s.size:Int)-(k:Int) <(n:Int):=by omega
   have hn2:n≤70368744177664:=by omega
   have HX:=hD (zeN s k (k+n));go_in;go_wp2_with fail;refine HG.out.mono ?_;rintro e w' ⟨rfl,rfl⟩;go_wp2_with fail;go_ret3;exact ret_s_some HR.out (by rw[HX.out,show k+n- k=n from by omega]) (by go_num)):p:=h
theorem fo46(h:p:=by
 obtain⟨A',c',hv⟩:=ownsRow_form HL.out;subst hv;have HR2:=hD (Rd.own HL.out);go_wp2_with fail;refine(HP.out _ _ _ HR2.out).mono ?_;rintro e w1 ⟨rfl,b1⟩;have B1:=hD b1;clear b1;go_wp2_with fail;go_ret;exact Z9 rfl (HB.out.trans (B1.out.mono hge))):p:=h
theorem fo47(h:p:=by
 rw[bq hlt,fQ,cO,dE,HX.out,Y2];simpa only[List.map_take]using hown'):p:=h
theorem fo48(h:p:=by
 have HQ:=hD hq;rw[hq]at HCall;clear hq;go_wp2_with fail;refine HCall.out.mono ?_;rintro e w1 ⟨rfl,b1⟩;have HB1:=hD (bon HB.out b1);clear b1;go_wp2_with fail;go_ret;exact yA (HN.out HQ.out) (HLowq.out _ HB1.out)):p:=h
theorem fo49(h:p:=by
 have d1:(x.slot == 0)=true:=by simp[c1]
 by_cases c2:x.root=[]
 · have HZ:Hid (((x.chunks.l.length:Int)+x.proof.l.length+x.chain.l.length == 0)=Y3 x):=hD (by
     show _=(decide (x.slot=0) && decide (x.root=[]) && decide (x.chunks.l.length+x.proof.l.length+x.chain.l.length=0));rw[aO c1,aO c2,bS,bS,bQ,aV,aY];omega)
   have HC1:=hD c1;clear c1;go_in;go_wp2_with fail;go_ret;exact yA HZ.out.symm (za _ _)
 · have HZ:Hid (Y3 x=false):=hD (by simp[Y3,c2]);have HC1:=hD c1;clear c1;go_in;go_wp2_with fail;go_ret;exact yA HZ.out (za _ _)):p:=h
theorem fo50(h:p:=by
 exact fo273):p:=h
theorem fo51(h:p:=by
 go_in;go_wp2_with fail;refine HQ.out.mono ?_;rintro e w' ⟨rfl,hb⟩;have HB1:=hD (zbv HB0.out hb);obtain⟨c0,c1,c2⟩:=HC.out _ HB1.out;clear hb;go_wp2_with fail;refine(HX.out _ HB1.out).mono ?_;rintro e w2 ⟨rfl,b2⟩;go_wp2_with fail;go_ret;exact Zp rfl (zC (zbv HB1.out b2))):p:=h
theorem fo52(h:p:=by
 have HY:Hid (ZI s=none):=hD (by rw[HSpec.out,HA1.out];simp only;rw[show many rdDe t4=none from by rw[many_allO,HLp.out.all,HDr.out,allO,HDe.out];rfl]);go_wp2_with (refine ai rfl 38 _ _ rfl w.heap.size 0 (msC ms0).toArray rfl rfl (HV9.out.there rfl) (zD ms0) (yu ms0) ?_);refine aj (v:= .tuple #[.agg (msC ms0).toArray,.int .i64 2]) ?_ rfl (Z0 HY.out (zf HB9.out (zb (b:=w.heap.size) (msC ms0)) (ag _)));exact zi results91 _ _ w.heap.size (msC ms0) _ _ rfl rfl (HV9.out.sets (msC ms0) rfl).range underlying38 rfl (zD ms0)):p:=h
theorem fo53(h:p:=by
 go_wp2_with fail;go_roundw
 case rel=>exact⟨j+1,_,by go_num,rfl,HN.out⟩
 case measure=>simp[intOf];omega):p:=h
theorem fo54(h:p:=by
 have B0:Hid (Below w.heap.size w ((w.alloc (.cells #[a.client,a.number,a.op] 191)).alloc (.cells #[b.client,b.number,b.op] 191))):=
  hD ((za w _).alloc jc _)
 cases h1:(a.client == b.client) with
 |true=>
  have HS:Hid (same a b=(a.number == b.number)):=hD (by unfold same;rw[h1];rfl);go_in;go_wp2_with fail;all_goals
   go_ret;exact yA (by rw[HS.out]) B0.out
 |false=>
  have HS:Hid (same a b=false):=hD (by unfold same;rw[h1];rfl);go_in;go_wp2_with fail;all_goals
   go_ret;exact yA HS.out B0.out):p:=h
theorem fo55(h:p:=by
 go_in;go_wp2_with fail;go_ret;exact Zp HY.out B0.out):p:=h
theorem fo56(h:p:=by
 go_wp2_with (first
  |(refine bV rfl 40 _ rfl _ rfl (ptC pt0).toArray ?_ ?_;· kernel_rfl)
  |(refine ai rfl 40 _ _ rfl w.heap.size 0 (ptC pt0).toArray rfl rfl ?_ (zw pt0) (yz pt0) ?_;· exact HR2.out.there rfl))
 try simp only[ay]
 refine aj (v:= .tuple #[.agg (ptC pt0).toArray,false]) ?_ rfl (ZU pt0 (HF.out) (zf HB2.out (zb (b:=w.heap.size) (ptC pt0)) (ag _)));exact zi results55 _ _ w.heap.size (ptC pt0) _ _ rfl rfl (HR2.out.sets (ptC pt0) rfl).range underlying40 rfl (zw pt0)):p:=h
theorem fo57(h:p:=by
 obtain rfl:j=l.length:=by omega
 obtain⟨a,c',rfl,hret⟩:=HJ.out.done hB;have HRet:=hD hret;clear hret;go_wp2_with fail;go_ret;rw[HR.out];exact HRet.out):p:=h
theorem fo58(h:p:=by
 go_in;go_wp2_with fail;refine HD.out.mono ?_;intro e w2 hd;unfold Q40.RetDec at hd;obtain⟨hb,hd⟩:=hd;have HB:=hD hb;clear hb HD;cases hq:Q40.decE s with
 |none=>
  rw[hq]at hd;subst hd;have HF:Hid (entB s=false):=hD (by unfold entB;rw[hq];rfl);exact fo286
 |some x=>
  rw[hq]at hd;obtain⟨A,c,rfl, -⟩:=hd;have HF:Hid (entB s=true):=hD (by unfold entB;rw[hq];rfl);exact fo286):p:=h
theorem fo59(h:p:=by
 exact fo277):p:=h
theorem fo60(h:p:=by
 have he9:strC (yR::(rs.take (k+1)).flatMap rqS)=strC (yR::(rs.take k).flatMap rqS)++ [.string ⟨(Lib.itoa rs[k].client).toArray⟩,.string ⟨(Lib.itoa rs[k].number).toArray⟩,.string ⟨rs[k].op.toArray⟩]:=by
   rw[bq hlt,bH];simp only[aU,eD,bE,rqS,strC,cO,fQ,dE,aZ]
 rw[show 1+3 *(k+1)=1+3 * k+3 from by omega,he9];exact HO3.out):p:=h
theorem fo61(h:p:=by
 refine(retPs_none HC.out hp).mono ?_;rintro e w2 ⟨x,rfl,hb⟩;have HB2:=hD (bon HBr.out hb);clear hb hp HC;have HX0:=hD (Vr.new w2 (ptC pt0) 40);have HB3:=hD (zf (bon HB2.out (za w2 (.cells (ptC pt0).toArray 40))) (zb (b:=w2.heap.size) (ptC x)) HB2.out.size);go_wp2_with (refine ai rfl 40 _ _ rfl w2.heap.size 0 (ptC x).toArray rfl rfl ?_ (zw x) (yz x) ?_;· exact HX0.out.there rfl)
 go_ret3;exact zdh HT.out HB3.out):p:=h
theorem fo62(h:p:=by
 have HY:Hid (zcv s=none):=hD (by rw[HD.out];simp);go_wp2_with (refine ai rfl 97 _ _ rfl w.heap.size 0 (stC st0).toArray rfl rfl (HVc.out.there (n:=12) rfl) (yL st0) (Yi st0) ?_);refine aj (v:= .tuple #[.agg (stC st0).toArray,.int .i64 2]) ?_ rfl (zaV HY.out (zf HBc.out (zb (b:=w.heap.size) (stC st0)) (ag _)));exact zi results133 _ _ w.heap.size (stC st0) _ _ rfl rfl (HVc.out.sets (stC st0) rfl).range underlying97 rfl (yL st0)):p:=h
theorem fo63(h:p:=by
 go_wp2_with (first
   |(refine ak rfl 147 _ rfl w2.heap.size 0 rfl (hoC x) _ (HXz.out true).range underlying147 rfl (zaW x) ?_)
   |(refine ai rfl 147 _ _ rfl w.heap.size 0 (hoC x).toArray rfl rfl ((HVz.out true).there rfl) (zaW x) (zeq x) ?_))
 refine aj (v:= .agg (hoC x).toArray) ?_ rfl (HFin.out true rfl);exact fo265):p:=h
theorem fo64(h:p:=by
 go_wp2_with (first
   |(refine ak rfl 100 _ rfl w2.heap.size 0 rfl (deC x) _ (HXz.out true).range underlying100 rfl (Yb x) ?_)
   |(refine ai rfl 100 _ _ rfl w.heap.size 0 (deC x).toArray rfl rfl ((HVz.out true).there rfl) (Yb x) (zcp x) ?_))
 refine aj (v:= .agg (deC x).toArray) ?_ rfl (HFin.out true rfl);exact fo266):p:=h
theorem fo65(h:p:=by
 go_wp2_with (first
   |(refine ak rfl 97 _ rfl w2.heap.size 0 rfl (stC x) _ (HXz.out true).range underlying97 rfl (yL x) ?_)
   |(refine ai rfl 97 _ _ rfl w.heap.size 0 (stC x).toArray rfl rfl ((HVz.out true).there rfl) (yL x) (Yi x) ?_))
 refine aj (v:= .agg (stC x).toArray) ?_ rfl (HFin.out true rfl);exact fo267):p:=h
theorem fo66(h:p:=by
 go_wp2_with (first
   |(refine ak rfl 38 _ rfl w2.heap.size 0 rfl (msC x) _ (HXz.out true).range underlying38 rfl (zD x) ?_)
   |(refine ai rfl 38 _ _ rfl w.heap.size 0 (msC x).toArray rfl rfl ((HVz.out true).there rfl) (zD x) (yu x) ?_))
 refine aj (v:= .agg (msC x).toArray) ?_ rfl (HFin.out true rfl);exact fo270):p:=h
theorem fo67(h:p:=by
 go_wp2_with (first
   |(refine ak rfl 36 _ rfl w2.heap.size 0 rfl (snC x) _ (HXz.out true).range underlying36 rfl (ZC x) ?_)
   |(refine ai rfl 36 _ _ rfl w.heap.size 0 (snC x).toArray rfl rfl ((HVz.out true).there rfl) (ZC x) (zac x) ?_))
 refine aj (v:= .agg (snC x).toArray) ?_ rfl (HFin.out true rfl);exact fo268):p:=h
theorem fo68(h:p:=by
 go_wp2_with (first
   |(refine ak rfl 29 _ rfl w2.heap.size 0 rfl (sgC x) _ (HXz.out true).range underlying29 rfl (zcb x) ?_)
   |(refine ai rfl 29 _ _ rfl w.heap.size 0 (sgC x).toArray rfl rfl ((HVz.out true).there rfl) (zcb x) (sgC_one' x) ?_))
 refine aj (v:= .agg (sgC x).toArray) ?_ rfl (HFin.out true rfl);exact fo269):p:=h
theorem fo69(h:p:=by
 rintro e w1 ⟨rfl,rfl⟩;go_wp2_with fail;exact aj (v:= .tuple #[.agg (tokA tok0),()]) (by simp[results,results124,go_sem,tokA,tok0]) rfl (zay _ _ (zbf HN.out) ja (((ae _ _).alloc (ag _) _)))):p:=h
theorem fo70(h:p:=by
 clear hown' hgrow hat;go_wp2_with fail;go_roundw
 case rel=>exact⟨j+1,xs++ [x],_,_,by go_num,by omega,HN.out⟩
 case measure=>simp[intOf];omega):p:=h
theorem fo71(h:p:=by
 clear hp hq;go_in;go_wp2_with fail;refine H.out.mono ?_;rintro e w' ⟨A,c,rfl,hr,h⟩;have HQ:=hD hr;have HH:=hD h;clear h hr;simp only;go_wp2_with fail;go_ret;exact zes HR.out rfl HQ.out HH.out):p:=h
theorem fo72(h:p:=by
 intro i hi;rcases hi with hi|⟨a1,a2⟩
 · obtain⟨b1,b2,b3,b4⟩:=h.fin i hi;refine⟨b1,by omega,b3,?_⟩;rcases hat with e|e
   · rw[e];exact b4
   · exact fo261
 · refine⟨by omega,by omega,by omega,?_⟩;exact fo299):p:=h
theorem fo73(h:p:=by
 have HB:=hD (za w (.cells #["",.string ⟨#[105,110,118,111,107,101]⟩,.string ⟨#[97,99,107]⟩,.string ⟨#[97,99,99,101,112,116]⟩,.string ⟨#[100,101,99,105,100,101]⟩,.string ⟨#[114,101,97,100]⟩,.string ⟨#[115,101,110,100]⟩,.string ⟨#[99,114,97,115,104]⟩,.string ⟨#[114,101,115,116,97,114,116]⟩] 9));go_in;go_wp2_with fail;go_ret;exact Z9 (by rw[HF.out]) HB.out):p:=h
theorem fo74(h:p:=by
 clear hcc;go_wp2_with fail;refine HW.out.mono ?_;rintro e w2 ⟨rfl,b2⟩;have B2:=hD b2;clear b2;go_wp2_with fail;go_roundw
 case rel=>exact⟨k+1,by go_num,by omega,B2.out⟩
 case measure=>simp[intOf];omega):p:=h
theorem fo75(h:p:=by
 refine hD ?_;have h1:=HT.out;rw[aa (by rw[HL1.out];simp),aa (by rw[HL2.out];simp),af HQ.out]at h1;obtain⟨r1,r2,r3⟩:=HR.out;by_cases hz:(litR s.data.toList).2=0
 · rw[af hz]at h1;rw[hz];exact zbf h1
 · rw[aa hz]at h1;obtain⟨m,hm⟩:=bA r1;rw[hm]at h1⊢;refine YN h1 ja ?_;rw[hm]at r2;exact_mod_cast r2):p:=h
theorem fo76(h:p:=by
 have hs1:=HTot.out k;have hs2:=HTg.out k hlt;have HS:Hid (tot (m.texts.l.take (k+1))=tot (m.texts.l.take k)+m.texts.l[k].length):=hD (by rw[bq hlt,tot_snoc]);clear hcc;go_wp2_with fail;go_round
 case rel=>exact⟨k+1,by go_num,by omega,by rw[HS.out];go_num⟩
 case measure=>simp[intOf];omega):p:=h
theorem fo77(h:p:=by
 go_wp2_with (refine ai rfl 29 _ _ rfl w.heap.size 0 (sgC sg0).toArray rfl rfl (HV1.out.there rfl) (yP sg0) (Yr sg0) ?_);refine aj (v:= .tuple #[.agg (sgC sg0).toArray,.int .i64 2]) ?_ rfl (zch HR.out (zcZ HB1.out (ag _) _));exact zi results234 _ _ w.heap.size (sgC sg0) _ _ rfl rfl (HV1.out.sets (sgC sg0) rfl).range underlying29 rfl (yP sg0)):p:=h
theorem fo78(h:p:=by
 exact fo276):p:=h
theorem fo79(h:p:=by
 exact fo278):p:=h
theorem fo80(h:p:=by
 refine aj (v:= .tuple #[.agg (tokA ⟨1,s.data.toList.takeWhile (pb isCon),0,[],0⟩),k]) ?_ rfl (zay _ _ (YN HN.out (HR.out▸HP.out) (by rw[HLen.out];omega)) ja (((ae _ _).alloc (ag _) _)));have h9:=HK.out;rw[HR.out]at h9;simp[results,results128,go_sem,tokA,HE.out,h9]):p:=h
theorem fo81(h:p:=by
 exact fo284):p:=h
theorem fo82(h:p:=by
 have HR:Hid (zF s.data.toList=none):=hD (by unfold zF za5;rw[hv]);clear hv;go_in;go_wp2_with fail;refine HG.out.mono ?_;rintro e w' ⟨rfl,c,hc,rfl⟩;have hc1:(c == 0)=false:=by simpa using hc
 have hc2:(c != 0)=true:=by simpa using hc
 go_wp2_with fail;go_ret3;exact zcr HR.out c hc (ae _ _)):p:=h
theorem fo83(h:p:=by
 have HR:Hid (zy s.data.toList=none):=hD (by unfold zy za5;rw[hv]);clear hv;go_in;go_wp2_with fail;refine HG.out.mono ?_;rintro e w' ⟨rfl,c,hc,rfl⟩;have hc1:(c == 0)=false:=by simpa using hc
 have hc2:(c != 0)=true:=by simpa using hc
 go_wp2_with fail;go_ret3;exact zcn HR.out c hc (ae _ _)):p:=h
theorem fo84(h:p:=by
 go_in;go_wp2_with fail;go_ret;exact⟨by rw[HN.out];rfl,rfl⟩):p:=h
theorem fo85(h:p:=by
 intro e;simp only[aT,aY,au]at e;obtain rfl:t=[]:=cK ja;rfl):p:=h
theorem fo86(h:p:=by
 go_in;go_wp2_with fail;go_ret2;exact ret_tk HZ.out _ _ rfl rfl):p:=h
theorem fo87(h:p:=by
 go_wp2_with (go_at_call 193;refine(Yf _ _).mono ?_;rw[HD.out];rintro e w' ⟨rfl,rfl⟩);go_ret2;exact⟨zaG (by rw[HX.out]),rfl⟩):p:=h
theorem fo88(h:p:=by
 refine hK.out _ _ HVe.out.range (fun hHeld=> ?_);clear hK K c1 f1 lg;try simp only[Act.put,qk]
 refine aB jb ?_ _;refine aA ?_;go_wp2_with fail;go_meet
 case rel=>exact⟨_,_,HPe.out,by rw[HKp.out];rfl,by rw[HKp.out],HSe.out⟩):p:=h
theorem fo89(h:p:=by
 rintro e w2 ⟨rfl,h2⟩;have H2:=hD h2;clear h2;go_wp2_with fail;go_roundw
 case rel=>exact fo282
 case measure=>simp[intOf];omega):p:=h
theorem fo90(h:p:=by
 rcases h.2 with⟨h1,h2⟩|⟨g,cap,cur,hv,_,_,_,hm,_⟩
 · injection h1 with _ _ h3;omega
 · injection hv with _ _ h3;subst h3;unfold maxLen at hm;omega):p:=h
theorem fo91(h:p:=by
 have HR:Hid (yg s.data.toList=none):=hD (by unfold yg;rw[hv]);clear hv;go_in;go_wp2_with fail;refine HG.out.mono ?_;rintro e w' ⟨rfl,c,hc,rfl⟩;have hc1:(c == 0)=false:=by simpa using hc
 have hc2:(c != 0)=true:=by simpa using hc
 go_wp2_with fail;go_ret3;exact zgk HR.out c hc):p:=h
theorem fo92(h:p:=by
 intro j u h;subst hb;rw[show((⟨W.heap.size,0,none⟩:Addr).add j)=⟨W.heap.size,j,none⟩ from by unfold Addr.add;split <;> simp_all]
 have h1:(W.alloc (.cells cs.toArray T)).heap[W.heap.size]? =some (.cells cs.toArray T):=by
  show(W.heap.push _)[W.heap.size]? =_;simp
 simp only[World.cell?];rw[h1];simpa using h):p:=h
theorem fo93(h:p:=by
 exact zi results53 _ _ w.heap.size (ptC y) _ _ rfl rfl HRx.out.range underlying40 rfl (zw y)):p:=h
theorem fo94(h:p:=by
 clear hsl hmany ht;obtain⟨A,c,hv⟩:=ownsRow_form HO.out;subst hv;go_wp2_with fail;refine HG1.out.mono ?_;rintro e w' ⟨rfl,rfl⟩;exact fo289):p:=h
theorem fo95(h:p:=by
 clear hK K;try simp only[Act.put,qk1,qk2,qk3,qk4,qk5,qk6]
 refine takes [2,3,4,5,6,7,8,9,10,11,12,13,14,15,16,17] ?_;refine aB jb ?_ _;refine aA ?_;go_wp2_with fail;go_ret;exact Zp HF.out (bon HJb.out HBr.out)):p:=h
theorem fo96(h:p:=by
 have hne:some wr.heap.size≠some og:=by simp;omega
 have hlt:=ZT hb;rw[hg.cell_far _ jee hne,hg.cell_far _ jee hne,hg.cell_far _ jee hne];exact HC.out W hb):p:=h
theorem fo97(h:p:=by
 go_wp2_with fail;go_roundw
 case rel=>
  exact⟨j,n,acc,rfl,by omega,rfl,YB HREL.out (ae _ _) ja jg jg (by rw[HTK.out,HD.out,HS.out])⟩
 case measure=>simp[intOf];omega):p:=h
theorem fo98(h:p:=by
 refine⟨h.1,fun hj=> ?_⟩;rcases h.2 with⟨h1,h2⟩|⟨g,cap,cur,hv,_,hg,_⟩
 · have:=h.1;subst h2;simp at this;subst this;simp at hj
 · injection hv with h1 h2 h3;subst h1;have hlt:=(h.lt g rfl).2;exact⟨g,0,rfl,hlt,fun j u hu=>by rw[←zaO];exact h.cells rfl j u hu⟩):p:=h
theorem fo99(h:p:=by
 exact zT results129 _ _ (w.heap.size+1) (rcC ⟨s.drop k,true⟩) _ _ rfl rfl HQe.out.range underlying167 rfl (zt ⟨s.drop k,true⟩)):p:=h
theorem fo100(h:p:=by
 go_in;go_wp2_with fail;refine HP.out.mono ?_;rintro e w2 ⟨⟨a,b,c,d,rfl⟩,b2⟩;have HB:=hD b2;clear b2;cases hq:opOk s with
 |true=>
  go_wp2_with fail;go_ret;exact yA hq (bon HB.out (za _ _))
 |false=>
  go_wp2_with fail;go_ret;exact yA hq (bon HB.out (za _ _))):p:=h
theorem fo101(h:p:=by
 simp only[ax,cZ]at hA2;obtain⟨rfl,rfl,_⟩:=hA2;exact⟨hc2 0 _ rfl,hc2 1 _ rfl,hc2 2 _ rfl,hc2 3 _ rfl⟩):p:=h
theorem fo102(h:p:=by
 rintro e w2 ⟨rfl,b2⟩;have B2:=hD b2;clear b2;go_wp2_with fail;go_roundw
 case rel=>
  refine⟨k+1,_,by go_num,by omega,by rw[zbS],bon HB.out B2.out,?_⟩;rw[HE.out,HE0.out,bM]
 case measure=>simp[intOf];omega):p:=h
theorem fo103(h:p:=by
 go_wp2_with fail;refine HE6.out.mono ?_;rintro e w7 ⟨rfl,rfl⟩;go_wp2_with fail;go_ret;exact Zp HZ1.out HLow.out):p:=h
theorem fo104(h:p:=by
 have hl:(l.take k).length=k:=by simp;omega
 have h:=in_any (some ⟨g,o,none⟩) c (l.take k) l[k] W (by rw[hl];exact HT.out.below hb) (by rw[hl];omega);rw[hl,hin]at h;exact h.mono fun _ _ ⟨a,b⟩=>⟨a,bon hb b⟩):p:=h
theorem fo105(h:p:=by
 go_wp2_with fail;exact aj (v:= .tuple #[.agg #[(),(),"s"],.int .i64 2]) (by simp[results,results104,go_sem,c0,c1,c2]) rfl (zal HD.out (((B1.out.setCell (ag _) _).setCell (ag _) _).setCell (ag _) _))):p:=h
theorem fo106(h:p:=by
 go_wp2_with fail;exact aj (v:= .tuple #[.agg #[(),(),"s"],.int .i64 2]) (by simp[results,results94,go_sem,c0,c1,c2]) rfl (zal HD.out (((B1.out.setCell (ag _) _).setCell (ag _) _).setCell (ag _) _))):p:=h
theorem fo107(h:p:=by
 clear h hr;simp only;go_wp2_with fail;go_ret;exact zes HR.out rfl (by simpa[intC]using HQ.out) (HH.out.below (za _ _))):p:=h
theorem fo108(h:p:=by
 go_wp2_with fail;refine HE6.out.mono ?_;rintro e w7 ⟨rfl,rfl⟩;go_wp2_with fail;go_ret;exact Zp HZ.out HLow.out):p:=h
theorem fo109(h:p:=by
 exact en_eta e _ _ _ hk (by
  by_cases hr:e.cfg=0
  · exact hr
  · exact absurd (.inl hr) h3) (by
  by_cases hr:e.rs=[]
  · exact hr
  · exact absurd (.inr hr) h3)):p:=h
theorem fo110(h:p:=by
 exact zT results129 _ _ (w.heap.size+1) (rcC Rc.fail) _ _ rfl rfl HQe.out.range underlying167 rfl (zt Rc.fail)):p:=h
theorem fo111(h:p:=by
 go_in;go_wp2_with fail;refine HI.out.mono ?_;rintro e w1 ⟨rfl,b1⟩;have B1:=hD (bon B0.out b1);clear b1;go_wp2_with fail;refine(HP.out _).mono ?_;rintro e w2 ⟨rfl,b2⟩;go_wp2_with fail;go_ret;exact Z9 rfl (bon (B1.out.alloc B1.out.size _) b2)):p:=h
theorem fo112(h:p:=by
 have hv1:=hv.below hb;cases ho:o.ownBlock with
 |none=>rw[ho]at hgr;exact hv1.below ⟨hgr.os,hgr.tape,hgr.output,hgr.size,fun i hi=>hgr.block i hi jc⟩
 |some q=>
  rw[ho]at hgr;exact hv1.grown hgr (by have:=(h.own.lt q ho).1;omega)):p:=h
theorem fo113(h:p:=by
 simp[q,hf.slot ja,hf.number ja,hf.text ja,hf.result ja]):p:=h
theorem fo114(h:p:=by
 rw[←hW];exact zdf w2 ((zam m).map Value.bool) 4 _ rfl k _ (by
  have h9:(zam m).length=9:=rfl;rw[bT,aP ja,gW,aP ja];rfl)):p:=h
theorem fo115(h:p:=by
 have hc:=Zq c;simp only[escR];by_cases h1:(c.toNat:Int)=34∨(c.toNat:Int)=92
 · rw[af h1];simp;omega
 · rw[aa h1];by_cases h2:(c.toNat:Int)=110 <;> by_cases h3:(c.toNat:Int)=120 <;> simp[h2,h3]):p:=h
theorem fo116(h:p:=by
 clear hown' hgrow hat hat2 cM lM;go_wp2_with fail;go_roundw
 case rel=>exact⟨j+1,_,_,_,by go_num,by omega,HLp2.out,HR4.out,HX5.out,HV4.out,HB4.out⟩
 case measure=>simp[intOf];omega):p:=h
theorem fo117(h:p:=by
 rw[bq hlt,bH];simp only[aU,eD,bE]):p:=h
theorem fo118(h:p:=by
 unfold yw zaP;simp only[eX,fK,Zh hkey,Zh hnew,ne_eq,gG,gD,aW,bW,bU];simp[Lib.join,zo]):p:=h
theorem fo119(h:p:=by
 have h2:k=1∨k=2∨k=3∨k=4∨k=5∨k=6∨k=7∨k=8∨k=9∨k=10∨k=11∨k=12:=by omega
 rcases h2 with rfl|rfl|rfl|rfl|rfl|rfl|rfl|rfl|rfl|rfl|rfl|rfl <;> decide):p:=h
theorem fo120(h:p:=by
 refine⟨h.1,?_⟩;rcases h.2 with h1|⟨g,cap,cur,hv,hge,hg,rest⟩
 · exact .inl h1
 · have hlt:g<w.heap.size:=(h.lt g (by rw[hv];rfl)).2;exact .inr ⟨g,cap,cur,hv,hge,(hb.block g hlt).trans hg,rest⟩):p:=h
theorem fo121(h:p:=by
 go_in;go_wp2_with (go_at_call 268;refine(hex_any _ _ ja (Zq _)).mono ?_;rintro e w' ⟨rfl,rfl⟩);go_ret2;exact⟨zaG (by rw[HF.out,aa ja]),⟨0,rfl⟩⟩):p:=h
theorem fo122(h:p:=by
 go_ret3;exact zdL HR.out _ jf):p:=h
theorem fo123(h:p:=by
 unfold yw zaP;simp only[eX,fK,Zh hkey,ne_eq,gG,gD,aW,bW,bU];simp[Lib.join,zo]):p:=h
theorem fo124(h:p:=by
 go_wp2_with fail;go_ret3;exact zdh HT.out HBe.out):p:=h
theorem fo125(h:p:=by
 rcases di.1 hy with hy|hy
 · exact a.2 y hy
 · rw[dn]at hy;subst hy;exact b):p:=h
theorem fo126(h:p:=by
 exact zeA HQ5.out (fun a h=>by cases h) _ _ _):p:=h
theorem fo127(h:p:=by
 go_in;go_wp2_with fail;go_ret2;exact⟨zaG (by rw[HC.out,af HB.out]),⟨0,rfl⟩⟩):p:=h
theorem fo128(h:p:=by
 have hp':tmps[p]?.getD undef= .pointer (some ⟨b,0,none⟩):=by simpa using hp
 have hq':tmps[q]?.getD undef=v:=by simpa using hq
 simp[results,h,hp',hq',asAddr,gH w b 0 ty cs d hc hu hd hi]):p:=h
theorem fo129(h:p:=by
 exact((((((ae _ _).alloc (ag _) _).trans (HB.out.mono jc)).setCell (ag _) _).setCell (ag _) _).setCell (ag _) _).setCell (ag _) _ |>.setCell (ag _) _):p:=h
theorem fo130(h:p:=by
 have HE:Hid (varint l.length++(l.take k).flatMap zn=zk l):=hD jff;exact fo290):p:=h
theorem fo131(h:p:=by
 go_in;go_wp2_with fail;go_ret;exact yA HZ.out (za _ _)):p:=h
theorem fo132(h:p:=by
 go_wp2_with fail;go_ret;exact Zp HY.out (ae _ _)):p:=h
theorem fo133(h:p:=by
 have he:=hD (zaH s h0);have hq:s.toList.isEmpty=true:=by rw[aS,he.out];rfl
 go_in;go_wp2_with fail;go_ret2;refine⟨zaG (by rw[he.out];rfl),⟨0,rfl⟩⟩):p:=h
theorem fo134(h:p:=by
 exact aj (v:= .tuple #[.agg (tokA tok0),()]) (by simp[results,results128,go_sem,tokA,tok0]) rfl (zay _ _ (zbf HN.out) ja (((ae _ _).alloc (ag _) _)))):p:=h
theorem fo135(h:p:=by
 simp only[dC];cases zY Za (n-(j+1)) (s.data.toList.drop (p+q)) with
 |none=>rfl
 |some y=>obtain⟨ys,m⟩:=y;simp[bZ]):p:=h
theorem fo136(h:p:=by
 have h1:zaI.atKey (.int .i64 k) (.lit (.string []))= .lit (.string s.data.toList):=aL Prod.fst hs;rw[words_at]at h1;simp only[fE,gp]at h1;rw[h1,ze2]):p:=h
theorem fo137(h:p:=by
 go_wp2_with fail;go_ret2;exact⟨ret_si (by rw[HF.out,HX.out]),HB.out⟩):p:=h
theorem fo138(h:p:=by
 go_wp2_with fail;go_ret;exact⟨rfl,rfl⟩):p:=h
theorem fo139(h:p:=by
 go_wp2_with fail;go_ret;exact yA HZ.out HB.out):p:=h
theorem fo140(h:p:=by
 have hv:=yS s.length ja;go_in;go_wp2_with fail;refine HP.out.mono ?_;rintro e w1 ⟨rfl,b1⟩;have B1:=hD b1;clear b1;go_wp2_with fail;go_ret;exact Z9 rfl B1.out):p:=h
theorem fo141(h:p:=by
 have hj:j<m:=by
  have:=(dD.1 hv).1;rwa[hC]at this
 have:=hc (k * m+j) v (by rw[flat_get C m hC l k hk j hj];exact hv);rwa[←bZ]at this):p:=h
theorem fo142(h:p:=by
 cases h:r5.ok with
 |true=>rfl
 |false=>
  unfold yc rk at h7;rw[aa (by rw[h];simp)]at h7;have:=aL Rc.ok (fu h7).2;cases this):p:=h
theorem fo143(h:p:=by
 have h6:(l.take k).length≤l.length:=by simp;omega
 omega):p:=h
theorem fo144(h:p:=by
 have:=zaE (Tryz.strings_HasPrefix t ⟨#[47,47]⟩ w);rw[show(ByteArray.mk #[47,47]).data.toList=[47,47] from rfl,hcm]at this;exact this):p:=h
theorem fo145(h:p:=by
 go_ret2;refine⟨zaG ?_,rfl⟩;have h1:=HT.out;rw[HR.out,aa (fun h=>HZ.out h.1 h.2),←zea,HF.out,HX.out]at h1;simp[intR,h1]):p:=h
theorem fo146(h:p:=by
 obtain⟨A,cp,hv⟩:=ownsRow_form HJ.out.own;subst hv;have HPp:=hD HJ.out.pts;go_wp2_with fail;go_ret3;exact ret_parse_ok rfl HT.out HPp.out HBr.out):p:=h
theorem fo147(h:p:=by
 by_cases h0:s[k].toNat=0
 · right;constructor
   · simp;exact h0
   · omega
 · left;simp;exact h0):p:=h
theorem fo148(h:p:=by
 go_wp2_with fail;refine HD.out.mono ?_;rintro e w1 ⟨rfl,b1⟩;go_wp2_with fail;go_ret;exact Zp HZ.out b1):p:=h
theorem fo149(h:p:=by
 exact below_grown (HB.out.alloc hge _) jg HG2.out (fun g hg=>(HO.out.lt g hg).1)):p:=h
theorem fo150(h:p:=by
 simp only[ax,cZ]at hA2;obtain⟨rfl,rfl,_⟩:=hA2;exact⟨hc2 0 _ rfl,hc2 1 _ rfl,hc2 2 _ rfl,hc2 3 _ rfl,hc2 4 _ rfl,hc2 5 _ rfl⟩):p:=h
theorem fo151(h:p:=by
 go_wp2_with fail;go_ret;exact yA (by rw[HZ.out,HQ.out,aO htt];rfl) (HLowq.out _ HB1.out)):p:=h
theorem fo152(h:p:=by
 cases ho:v'.ownBlock with
 |none=>exact .inl rfl
 |some b=>
  have:=(hown.lt b ho).1;exact .inr (fun e=>by simp only[ax]at e;omega)):p:=h
theorem fo153(h:p:=by
 clear hl2 hke;go_wp2_with fail;refine HP.out.mono ?_;rintro e w1 ⟨rfl,b1⟩;go_wp2_with fail;go_ret;exact Z9 rfl (bon HB.out b1)):p:=h
theorem fo154(h:p:=by
 have:=zaE (Tryz.strings_IndexByte t 10 w);rw[show(10:Int).toNat.toUInt8=10 from rfl,hx]at this;exact this):p:=h
theorem fo155(h:p:=by
 go_in;go_wp2_with fail;refine(HP.out _ _ jc).mono ?_;rintro e w2 ⟨rfl,b2⟩;go_wp2_with fail;go_ret;exact Z9 rfl (bon (B0.out.alloc jc _) b2)):p:=h
theorem fo156(h:p:=by
 have hj':¬(j:Int) <(n:Int):=by omega
 clear hjn;go_wp2_with fail;go_ret3;exact zgq HR.out HX.out.symm HO.out HB.out):p:=h
theorem fo157(h:p:=by
 have hj':¬(j:Int) <(n:Int):=by omega
 clear hjn;go_wp2_with fail;go_ret3;exact zgx HR.out HX.out.symm HO.out HB.out):p:=h
theorem fo158(h:p:=by
 obtain⟨A9,c9,hv9, -⟩:=HP2.out.rd.blk;exact(hv9.grown (zb (b:=w.heap.size) (ptC y)) (by have:=HP2.out.o1;omega)).cells 1 _ rfl):p:=h
theorem fo159(h:p:=by
 have HY:Hid (vRqs [] l=0):=hD (by rw[HV.out,bJ ja,vRqs]);go_wp2_with fail;go_ret;exact Zp HY.out HB.out):p:=h
theorem fo160(h:p:=by
 go_wp2_with fail;go_ret2;exact⟨ret_si (by rw[HL.out]),ae _ _⟩):p:=h
theorem fo161(h:p:=by
 have hp':tmps[p]?.getD undef= .pointer (some ⟨b,0,none⟩):=by simpa using hp
 simp[results,h,hp',asAddr,gH w b 0 ty cs d hc hu hd hi]):p:=h
theorem fo162(h:p:=by
 go_wp2_with fail;refine(zfF HB.out).mono ?_;rintro e w2 ⟨rfl,b2⟩;go_wp2_with fail;go_ret;exact Z9 HE.out.symm b2):p:=h
theorem fo163(h:p:=by
 rcases h.2 with h1|⟨g,cap,cur,hv,hge,hg,rest⟩
 · exact .inl h1
 · exact .inr ⟨g,cap,cur,hv,hge,(hk g (by rw[hv];rfl)).trans hg,rest⟩):p:=h
theorem fo164(h:p:=by
 clear hs;go_in;go_wp2_with fail;refine H.out.mono ?_;rintro e w' ⟨rfl,h⟩;have HH:=hD h;clear h;go_wp2_with fail;go_ret;exact⟨rfl,HH.out⟩):p:=h
theorem fo165(h:p:=by
 simp only[strC,eZ];refine List.map_congr_left (fun x _=> ?_);show Value.string x=Value.string ⟨x.data.toList.toArray⟩;rw[ze2]):p:=h
theorem fo166(h:p:=by
 rw[toks]at h;injection h with h;subst h;exact ha):p:=h
theorem fo167(h:p:=by
 have e:=HKn.out;have e0:=HL11.out;have e1:=HL12.out;have e2:=HL13.out;rw[e2.1,e2.2,e1.1,e1.2,e0.1,e0.2,e];rfl):p:=h
theorem fo168(h:p:=by
 simp[IntKind.wrap,IntKind.min,IntKind.max,IntKind.signed,IntKind.bits];omega):p:=h
theorem fo169(h:p:=by
 exact zW results85 _ _ w.heap.size (Q06.tokC Q06.tok0) _ rfl (HT2.out.sets (Q06.tokC Q06.tok0) rfl).range underlying117 rfl (zd5 _)):p:=h
theorem fo170(h:p:=by
 rw[HGo.out,HD.out,go_next HY.out HLt.out.symm jea,←HXe.out,fQ];rfl):p:=h
theorem fo171(h:p:=by
 have nk8:=hk;clear hk;exfalso;have h:=HH.out;unfold Yp at h;simp only[aT,aY]at h;omega):p:=h
theorem fo172(h:p:=by
 exact en_eta e _ _ _ hk rfl (by
  by_cases hr:e.rs=[]
  · exact hr
  · exact absurd (.inr (.inr hr)) h2)):p:=h
theorem fo173(h:p:=by
 exact((((h9.setCell (ag _) _).setCell (ag _) _).setCell (ag _) _).setCell (ag _) _).setCell (ag _) _):p:=h
theorem fo174(h:p:=by
 injection h with h;injection h with h;subst h;show(0:Int)≤_;omega):p:=h
theorem fo175(h:p:=by
 simp only[bC,eH,eP]at hx;rcases hx with rfl|rfl
 · simp[Yq]
 · omega):p:=h
theorem fo176(h:p:=by
 go_wp2_with fail;go_ret;exact⟨aL (fun b=>Ending.returned (.bool b)) (HN.out HZ.out).symm,rfl⟩):p:=h
theorem fo177(h:p:=by
 by_cases h1:(s[k].toNat:Int)=34
 · left;simp[h1]
 · right;exact⟨by simp[h1],by simp;omega⟩):p:=h
theorem fo178(h:p:=by
 have ha':graphic a 64=false:=by simpa using ha
 simp[ha']):p:=h
theorem fo179(h:p:=by
 rcases dw j k with h1|h1
 · exact HJ.out j h h1
 · obtain rfl:j=k:=by omega
   exact hd):p:=h
theorem fo180(h:p:=by
 clear he hop0;go_wp2_with fail;go_ret;exact Zp HY.out (HB.out.alloc HB.out.size _)):p:=h
theorem fo181(h:p:=by
 unfold isKind at h0;unfold Yp;rw[h0,aO h1,aO h2,aO h3,aO h4];rfl):p:=h
theorem fo182(h:p:=by
 go_in;go_wp2_with fail;go_ret;exact Zp rfl B0.out):p:=h
theorem fo183(h:p:=by
 go_wp2_with fail;go_ret2;exact⟨ret_si (by rw[HF.out,litFrom_end _ _ _ ja]),HB.out⟩):p:=h
theorem fo184(h:p:=by
 go_round
 case rel=>exact⟨k+1,by go_num,by omega,HC.out⟩
 case measure=>simp[intOf];omega):p:=h
theorem fo185(h:p:=by
 clear h h2 h3 h4;go_in;go_wp2_with fail;go_ret;exact⟨rfl,HN.out,HGr.out,by simp⟩):p:=h
theorem fo186(h:p:=by
 rcases h.2 with⟨h1,h2⟩|⟨g,cap,cur,hv,_⟩
 · exact⟨none,0,by rw[h1,h2]⟩
 · exact⟨_,_,hv⟩):p:=h
theorem fo187(h:p:=by
 go_wp2_with fail;go_ret;exact Zp HV.out (za _ _)):p:=h
theorem fo188(h:p:=by
 go_wp2_with fail;go_ret2;exact⟨zaG (by rw[HF.out,aa ja]),⟨_,rfl⟩⟩):p:=h
theorem fo189(h:p:=by
 have HV:=hD (HV7.out hp);clear hp;go_wp2_with fail;go_ret;exact Zp HV.out (zC HB0.out)):p:=h
theorem fo190(h:p:=by
 go_wp2_with fail;go_ret3;exact ret_toks A c acc 0 0 HF2.out (Rd.own HO.out) HB.out (own_capmax HO.out)):p:=h
theorem fo191(h:p:=by
 rw[Y2,aG,←HE.out];exact HO2.out):p:=h
theorem fo192(h:p:=by
 go_in;go_wp2;all_goals (go_ret;refine⟨YS ?_,rfl⟩;rw[bQ];simp[isLet];try omega)):p:=h
theorem fo193(h:p:=by
 go_in;go_wp2;all_goals (go_ret;refine⟨YS ?_,rfl⟩;rw[bQ];simp[zV];try omega)):p:=h
theorem fo194(h:p:=by
 exact zeA HQ5.out (fun a ha hbk=>by subst ha;have h9:=(HOwn.out.lt a.block rfl).1;omega) _ _ _):p:=h
theorem fo195(h:p:=by
 split
 · simp
 · split
   · simp
   · split <;> simp):p:=h
theorem fo196(h:p:=by
 rintro e w' ⟨rfl,hb⟩;go_wp2_with fail;go_ret;exact yA rfl (B0.out.trans (hb.mono jc))):p:=h
theorem fo197(h:p:=by
 rw[hf.number ja];omega):p:=h
theorem fo198(h:p:=by
 exact⟨by decide,by decide⟩):p:=h
theorem fo199(h:p:=by
 clear h h2 h3 h4;go_in;go_wp2_with fail;go_ret;exact⟨rfl,H.out,HG.out,rfl⟩):p:=h
theorem fo200(h:p:=by
 obtain⟨a1,a2,a3,a4⟩:=h.fin i hi;exact(h23 i ja a4 a3).trans (hb.block i a2)):p:=h
theorem fo201(h:p:=by
 go_wp2_with fail;go_ret;exact Zp HZ1.out (zC HB5.out)):p:=h
theorem fo202(h:p:=by
 simp only[run,pb,eO,h0,aW,au]at this⊢;omega):p:=h
theorem fo203(h:p:=by
 refine⟨hb,?_⟩;rw[h];exact⟨c,hc,rfl⟩):p:=h
theorem fo204(h:p:=by
 go_in;go_wp2_with fail;go_ret;exact⟨zb0 (by rw[H.out];omega),rfl⟩):p:=h
theorem fo205(h:p:=by
 unfold kindOf;repeat' split
 all_goals omega):p:=h
theorem fo206(h:p:=by
 rw[bJ jg];rfl):p:=h
theorem fo207(h:p:=by
 injection h with h;injection h with h;subst h;exact⟨fH _,bf _⟩):p:=h
theorem fo208(h:p:=by
 have h':i<s.data.toList.length:=by simpa using h
 exact bB h'):p:=h
theorem fo209(h:p:=by
 rw[af ja,aa ja,aa ja];congr 1;omega):p:=h
theorem fo210(h:p:=by
 go_wp2_with fail;go_ret;exact ret_texts HR.out rfl zdq (HS1.out.set1 true)):p:=h
theorem fo211(h:p:=by
 rw[gL]at h;exact h.mono fun _ _ ⟨a,b⟩=>⟨a,b,bon hW b⟩):p:=h
theorem fo212(h:p:=by
 go_wp2_with fail;go_ret;exact zes HR.out rfl zdq (HS1.out.set1 true)):p:=h
theorem fo213(h:p:=by
 simp only[aU,aG,au]at h2⊢;omega):p:=h
theorem fo214(h:p:=by
 apply bz;exact Array.eq_empty_of_size_eq_zero jfb):p:=h
theorem fo215(h:p:=by
 simp only[Sc.fine,a2,Bool.not_true,gI,bW,bU]):p:=h
theorem fo216(h:p:=by
 rw[zcQ s h0,aa (by rw[hl];simp),aa (by rw[hd];simp),aa hq]):p:=h
theorem fo217(h:p:=by
 go_wp2_with fail;go_ret;exact ret_text HR.out ((SsTo.refl HS.out).set1 true)):p:=h
theorem fo218(h:p:=by
 simp[q,numR,txtR,atL,tnum,tstr,hf.number ja,hf.result ja]):p:=h
theorem fo219(h:p:=by
 unfold oneB;rw[aO hk2,bQ];simp;omega):p:=h
theorem fo220(h:p:=by
 go_wp2_with fail;go_ret2;exact zfj HT.out.1 HT.out.2 HBe.out):p:=h
theorem fo221(h:p:=by
 rw[BitVec.ofInt_natCast,BitVec.toNat_ofNat];exact fe ja):p:=h
theorem fo222(h:p:=by
 have:(prog.info? 29).map (·.size)=some 6:=by kernel_rfl
 exact this):p:=h
theorem fo223(h:p:=by
 have hb':graphic b 64=false:=by simpa using hb
 simp[hb']):p:=h
theorem fo224(h:p:=by
 simp[q,nxt,atL,tnum,tstr,hf.number ja,hf.result ja]):p:=h
theorem fo225(h:p:=by
 rw[av (show ¬m.statuses.l.length≤12 by omega)];simp):p:=h
theorem fo226(h:p:=by
 refine hK.out _ _ hCa (fun hHeld=> ?_);clear hK K;try simp only[Act.put,qk1,qk2,qk3,qk4,qk5,qk6]
 refine tkr 8 rfl (fun K hK=> ?_);have HOa:=hD (ownsRow_below HCh.out.own HBa.out);have hB9:B≤wr.heap.size:=HCh.out.size;refine dz _ ji _ _ _ ji B 147 i0 _ 4 56 underlying34 HI.out HZ0.out HZ1.out HZ2.out rfl jf _ _ _ ji HOa.out _ 1 1 [k0,y.view,y.value,y.cert] ji ji hnew jr Nat.one_pos jq ja (by have:=HBa.out.size;have:=HCh.out.size;omega) va.heap.size rfl ?_;intro g cap w2 hown hgr hat hlt;have hat2:Value.ownBlock (.slice (some ⟨g,0,none⟩) (j+1) cap)=o.ownBlock∨Value.ownBlock (.slice (some ⟨g,0,none⟩) (j+1) cap)=some va.heap.size:=by
  rcases hat with e|e
  · exact .inl (by rw[e];rfl)
  · exact .inr (by rw[e];rfl)
 have hq9:∀q,o.ownBlock=some q→q<wr.heap.size:=fun q hq=>(HCh.out.own.lt q hq).2
 have HN9:=hD (HN9.out.rowO hgr (fun q hq=>Or.inl (hq9 q hq)));have H10:Hid (Vr w2 b10 (deC y)):=hD (by
  cases ho:o.ownBlock with
  |none=>rw[ho]at hgr;exact H10.out.below ⟨hgr.os,hgr.tape,hgr.output,hgr.size,fun i hi=>hgr.block i hi jc⟩
  |some q=>rw[ho]at hgr;exact H10.out.grown hgr (by have:=hq9 q ho;omega))
 have HX2:=hD (HCh.out.vr HBa.out hgr HX.out hB5);have c4b:=HX2.out.cells 4 _ rfl;have f4b:=HX2.out.free 4 jc;have l5b:=HX2.out.lt;have HCh2:=hD (HCh.out.step (x:=⟨k0,y⟩) hB5 hB3 HBa.out hlt1 (by rw[HWh.out]) hu10 (HY.out.imp (fun W hW=>⟨HK64.out,hW⟩)) hown hgr hat2);have HB2:=hD (HCh.out.low (v':= .slice (some ⟨g,0,none⟩) (j+1) cap) hB5 ja HB.out HBa.out hgr);have HR2':=hD ((HCh.out.vr HBa.out hgr HR.out ja).grown (ze w2 ⟨b5,4,none⟩ (.slice (some ⟨g,0,none⟩) (j+1) cap)) jad);have HV2':=hD ((HCh.out.vr HBa.out hgr HV.out ja).grown (ze w2 ⟨b5,4,none⟩ (.slice (some ⟨g,0,none⟩) (j+1) cap)) (by show w.heap.size+1≠b5;omega));have HQ2':=hD ((HCh.out.vr HBa.out hgr HQ.out ja).grown (ze w2 ⟨b5,4,none⟩ (.slice (some ⟨g,0,none⟩) (j+1) cap)) (by show w.heap.size+2≠b5;omega));have HX3:=hD (HX2.out.set 4 (.slice (some ⟨g,0,none⟩) (j+1) cap));have hC2:w2.cell? ⟨bn,on,none⟩=some (.int .i64 k0)∧w2.rangeAt b10 0 [y.view,y.value,y.cert]:=⟨HNC.out w2 HN9.out,H10.out.range⟩;have HN9:=hD (HN9.out.row (ze w2 ⟨b5,4,none⟩ (.slice (some ⟨g,0,none⟩) (j+1) cap)) (Or.inl (by show b5<wr.heap.size;omega)));have hC3:(w2.setCell ⟨b5,4,none⟩ (.slice (some ⟨g,0,none⟩) (j+1) cap)).cell? ⟨bn,on,none⟩=some (.int .i64 k0)∧(w2.setCell ⟨b5,4,none⟩ (.slice (some ⟨g,0,none⟩) (j+1) cap)).rangeAt b10 0 [y.view,y.value,y.cert]:=⟨HNC.out _ HN9.out,(H10.out.grown (ze w2 ⟨b5,4,none⟩ (.slice (some ⟨g,0,none⟩) (j+1) cap)) (by show b10≠b5;omega)).range⟩;clear hown hgr hat hat2;refine hK.out _ _ hC2 (fun hHeld=> ?_);clear hK K;try simp only[Act.put,qk1,qk2,qk3,qk4,qk5,qk6]
 refine takes [9] ?_;refine tkr 10 rfl (fun K hK=> ?_);go_simp;refine hK.out _ _ hC3 (fun hHeld=> ?_);clear hK K;try simp only[Act.put,qk1,qk2,qk3,qk4,qk5,qk6]
 refine aB jb ?_ _;refine aA ?_;clear hC hC2 hC3 c4 l5 hHeld;go_wp2_with fail;go_roundw
 case rel=>exact⟨j+1,_,_,_,by go_num,by omega,HCh2.out,HR2'.out,HX3.out,HV2'.out,HQ2'.out,HB2.out⟩
 case measure=>simp[intOf];omega):p:=h
theorem fo227(h:p:=by
 refine tkr 23 rfl (fun K hK=> ?_);have e0:=HR.out.cells 0 _ rfl;have e1:=HR.out.cells 1 _ rfl;have e2:=HR.out.cells 2 _ rfl;have e3:=HR.out.cells 3 _ rfl;have f0:=HR.out.free 0 jc;have f1:=HR.out.free 1 jc;have f2:=HR.out.free 2 jc;have f3:=HR.out.free 3 jc;have lz:=HR.out.lt;go_simp;change K _ (v4.setCells (w.heap.size+1) 0 [zo k,.bool (zx k),.bool (zB k),.bool (zI k)]);have HB:=hD (zf HB.out (zb (b:=w.heap.size+1) [zo k,.bool (zx k),.bool (zB k),.bool (zI k)]) ja);have HO:=hD (HO.out.grown (zb (b:=w.heap.size+1) [zo k,.bool (zx k),.bool (zB k),.bool (zI k)]) ja);have HVF:=hD (HVF.out.grown (zb (b:=w.heap.size+1) [zo k,.bool (zx k),.bool (zB k),.bool (zI k)]) ja);have HR:=hD (HR.out.sets [zo k,.bool (zx k),.bool (zB k),.bool (zI k)] rfl);clear e0 e1 e2 e3 f0 f1 f2 f3 lz;generalize v4.setCells (w.heap.size+1) 0 [zo k,.bool (zx k),.bool (zB k),.bool (zI k)]=v5 at HB HO HR HVF⊢;refine hK.out _ _ ⟨HO.out.cells 1 _ rfl,HO.out.cells 2 _ rfl,HO.out.cells 3 _ rfl,HVF.out.cells 0 _ rfl,HVF.out.cells 1 _ rfl,HVF.out.cells 2 _ rfl,HVF.out.cells 3 _ rfl⟩ (fun hHeld=> ?_);clear hK K;try simp only[Act.put,qk1,qk2,qk3,qk4,qk5,qk6]
 refine tkr 24 rfl (fun K hK=> ?_);go_simp;refine hK.out _ _ hHeld (fun hHeld=> ?_);clear hK K;try simp only[Act.put,qk1,qk2,qk3,qk4,qk5,qk6]
 refine aB jb ?_ _;refine aA ?_;go_wp2_with fail;refine aj (v:= .tuple #[.agg #[zo k,.bool (zx k),.bool (zB k),.bool (zI k)],false]) ?_ rfl ⟨by rw[hQ],HB.out⟩;exact fo297):p:=h
theorem fo228(h:p:=by
 have HSz:Hid ((zL [a]).length+(zM k [a]).length+(zG k [a]).length≤1048576):=hD (zbc HCut.out HLen.out hss);clear HF6 HBg;generalize (v1.alloc (.cells #[.int .i64 (k:Int),a,"",""] 124))=wv at HX2 HR HB HX6⊢;generalize v1.heap.size=b6 at HX6⊢;have HFm:=hD (zaa k hk1 hk6 (zL [a]) (zM k [a]) (zG k [a]) wv HSz.out);go_wp2_with (refine ak rfl 124 _ rfl b6 0 rfl [.int .i64 (k:Int),.string ⟨(zL [a]).toArray⟩,.string ⟨(zM k [a]).toArray⟩,.string ⟨(zG k [a]).toArray⟩] _ HX6.out.range underlying124 rfl Zk ?_);refine HFm.out.mono ?_;rintro e w8 ⟨hyes,hno,hs⟩;have HX6:=hD (HX6.out.below hs);have HX2:=hD (HX2.out.below hs);have HB:=hD (bon HB.out hs);have HR:=hD (HR.out.below hs);clear hs;cases hq:zP k (zL [a]) (zM k [a]) (zG k [a]) with
 |false=>exact fo294
 |true=>
  obtain rfl:=hyes hq;clear hno hyes;cases ht:(yw k (zL [a]) (zM k [a]) (zG k [a]) == s.data.toList) with
  |false=>
   have HK:Hid (kindOk k s.data.toList=false):=hD jcj;have t1:(yw k (zL [a]) (zM k [a]) (zG k [a]) == s.toList)=false:=by rw[aS];exact ht
   clear ht hq;exact fo7
  |true=>exact fo23):p:=h
theorem fo229(h:p:=by
 have HSz:Hid ((zL []).length+(zM k []).length+(zG k []).length≤1048576):=hD (zbc HCut.out HLen.out hss);clear HF6 HBg;generalize (v1.alloc (.cells #[.int .i64 (k:Int),"","",""] 124))=wv at HX2 HR HB HX6⊢;generalize v1.heap.size=b6 at HX6⊢;have HFm:=hD (zaa k hk1 hk6 (zL []) (zM k []) (zG k []) wv HSz.out);go_wp2_with (refine ak rfl 124 _ rfl b6 0 rfl [.int .i64 (k:Int),.string ⟨(zL []).toArray⟩,.string ⟨(zM k []).toArray⟩,.string ⟨(zG k []).toArray⟩] _ HX6.out.range underlying124 rfl Zk ?_);refine HFm.out.mono ?_;rintro e w8 ⟨hyes,hno,hs⟩;have HX6:=hD (HX6.out.below hs);have HX2:=hD (HX2.out.below hs);have HB:=hD (bon HB.out hs);have HR:=hD (HR.out.below hs);clear hs;cases hq:zP k (zL []) (zM k []) (zG k []) with
 |false=>exact fo294
 |true=>
  obtain rfl:=hyes hq;clear hno hyes;cases ht:(yw k (zL []) (zM k []) (zG k []) == s.data.toList) with
  |false=>
   have HK:Hid (kindOk k s.data.toList=false):=hD jcj;have t1:(yw k (zL []) (zM k []) (zG k []) == s.toList)=false:=by rw[aS];exact ht
   clear ht hq;exact fo7
  |true=>exact fo27):p:=h
theorem fo230(h:p:=by
 have HWh:Hid (whole rdHo t=none):=hD (by rw[ho_whole,HTq.out];rfl);have HR':=hD (HR.out.below HBr.out);have HV':=hD (HV.out.below HBr.out);have HQ':=hD (HQ.out.below HBr.out);have HB':=hD (bon HB.out HBr.out);have HQ1:=hD (HQ'.out.grown (zb (b:=w.heap.size+1) (snC ⟨0,[],Sl.nil,Sl.nil,Sl.nil⟩)) ja);have HV1:=hD ((HV'.out.sets (snC ⟨0,[],Sl.nil,Sl.nil,Sl.nil⟩) rfl).grown (zb (b:=w.heap.size+2) (rcC Rc.fail)) ja);have HQ2:=hD (HQ1.out.sets (rcC Rc.fail) rfl);have HBe:=hD (zf (zf HB'.out (zb (b:=w.heap.size+1) (snC ⟨0,[],Sl.nil,Sl.nil,Sl.nil⟩)) ja) (zb (b:=w.heap.size+2) (rcC Rc.fail)) ja);have HS:Hid (rkSn r=(⟨0,[],Sl.nil,Sl.nil,Sl.nil⟩,Rc.fail)):=hD (by rw[HSpec.out,HCh.out.all,HDr.out,many,HWh.out]);go_wp2_with (first
  |(refine ai rfl 36 _ _ rfl (w.heap.size+1) 0 (snC ⟨0,[],Sl.nil,Sl.nil,Sl.nil⟩).toArray rfl rfl ?_ (ZC ⟨0,[],Sl.nil,Sl.nil,Sl.nil⟩) (zac ⟨0,[],Sl.nil,Sl.nil,Sl.nil⟩) ?_;· exact HV'.out.there rfl)
  |(refine ai rfl 167 _ _ rfl (w.heap.size+2) 0 (rcC Rc.fail).toArray rfl rfl ?_ (zt Rc.fail) (zO Rc.fail) ?_;· exact HQ1.out.there (n:=2) rfl))
 refine aj (v:= .tuple #[.agg (snC ⟨0,[],Sl.nil,Sl.nil,Sl.nil⟩).toArray,.agg (rcC Rc.fail).toArray]) ?_ rfl (zfe (x:=⟨0,[],Sl.nil,Sl.nil,Sl.nil⟩) (r':=(⟨0,[],Sl.nil,Sl.nil,Sl.nil⟩,Rc.fail)) HS.out rfl rfl (fun W _=>⟨⟨by decide,by decide⟩,Rd.nil _ _ _,⟨Rd.nil _ _ _,by simp[Sl.nil]⟩,Rd.nil _ _ _,by simp[Sl.nil]⟩) HBe.out);exact ZQ results135 _ _ (w.heap.size+1) (w.heap.size+2) (snC ⟨0,[],Sl.nil,Sl.nil,Sl.nil⟩) (rcC Rc.fail) _ _ rfl rfl HV1.out.range HQ2.out.range underlying36 rfl (ZC ⟨0,[],Sl.nil,Sl.nil,Sl.nil⟩) underlying167 rfl (zt Rc.fail)):p:=h
theorem fo231(h:p:=by
 generalize v1.heap.size=b6 at HX6⊢;have HFm:=hD (zaa k hk1 hk6 (zL (a::b::c::t)) (zM k (a::b::c::t)) (zG k (a::b::c::t)) wv HSz.out);go_wp2_with (refine ak rfl 124 _ rfl b6 0 rfl [.int .i64 (k:Int),.string ⟨(zL (a::b::c::t)).toArray⟩,.string ⟨(zM k (a::b::c::t)).toArray⟩,.string ⟨(zG k (a::b::c::t)).toArray⟩] _ HX6.out.range underlying124 rfl Zk ?_);refine HFm.out.mono ?_;rintro e w8 ⟨hyes,hno,hs⟩;have HX6:=hD (HX6.out.below hs);have HX2:=hD (HX2.out.below hs);have HB:=hD (bon HB.out hs);have HR:=hD (HR.out.below hs);clear hs;cases hq:zP k (zL (a::b::c::t)) (zM k (a::b::c::t)) (zG k (a::b::c::t)) with
 |false=>exact fo294
 |true=>
  obtain rfl:=hyes hq;clear hno hyes;cases ht:(yw k (zL (a::b::c::t)) (zM k (a::b::c::t)) (zG k (a::b::c::t)) == s.data.toList) with
  |false=>
   have HK:Hid (kindOk k s.data.toList=false):=hD jcj;have t1:(yw k (zL (a::b::c::t)) (zM k (a::b::c::t)) (zG k (a::b::c::t)) == s.toList)=false:=by rw[aS];exact ht
   clear ht hq;exact fo7
  |true=>exact fo20):p:=h
theorem fo232(h:p:=by
 generalize v1.heap.size=b6 at HX6⊢;have HFm:=hD (zaa k hk1 hk6 (zL [a,b]) (zM k [a,b]) (zG k [a,b]) wv HSz.out);go_wp2_with (refine ak rfl 124 _ rfl b6 0 rfl [.int .i64 (k:Int),.string ⟨(zL [a,b]).toArray⟩,.string ⟨(zM k [a,b]).toArray⟩,.string ⟨(zG k [a,b]).toArray⟩] _ HX6.out.range underlying124 rfl Zk ?_);refine HFm.out.mono ?_;rintro e w8 ⟨hyes,hno,hs⟩;have HX6:=hD (HX6.out.below hs);have HX2:=hD (HX2.out.below hs);have HB:=hD (bon HB.out hs);have HR:=hD (HR.out.below hs);clear hs;cases hq:zP k (zL [a,b]) (zM k [a,b]) (zG k [a,b]) with
 |false=>exact fo294
 |true=>
  obtain rfl:=hyes hq;clear hno hyes;cases ht:(yw k (zL [a,b]) (zM k [a,b]) (zG k [a,b]) == s.data.toList) with
  |false=>
   have HK:Hid (kindOk k s.data.toList=false):=hD jcj;have t1:(yw k (zL [a,b]) (zM k [a,b]) (zG k [a,b]) == s.toList)=false:=by rw[aS];exact ht
   clear ht hq;exact fo7
  |true=>exact fo22):p:=h
theorem fo233(h:p:=by
 refine hK.out _ _ hC (fun hHeld=> ?_);clear hK K;try simp only[Act.put,qk1,qk2,qk3]
 refine tkr 15 rfl (fun K hK=> ?_);go_simp;go_at_call 236;refine(zbC g s1 _ (HS1.out.2) HL1.out (fun t ht q W hW=>YL q ⟨t,false⟩ W hW (ah (ah ht HL1.out) jf))).mono ?_;rintro e v3 ⟨x2,rfl,hx2,hst2,hss2⟩;rw[show yE tkSg s1=(t2,s2) from HT2.out]at hss2 hx2;simp only at hss2 hx2;have HX2:=hD hx2;clear hx2;have hb4o:=HX.out.lt;have hz:=hss2.1.size;have HS2:Hid (SsTo w g s2 v3):=hD (HS1.out.trans hss2);have HV:Hid (Vr v3 w.heap.size [(),(),(),(),"","s",(),(),(),(),"",""]):=hD (HV.out.grown hss2.1 ja);have HK:Hid (yV (w.heap.size+1) v0 v3):=hD (HK.out.trans (zh hss2.1 ja));have hC:=HCW.out v3 HK.out;have hsv3:v2.heap.size≤v3.heap.size:=hz;have HX:Hid (Vr v3 b4 [(),(),(),(),"","s",(),(),(),(),"",""]):=hD (HX.out.grown hss2.1 ja);clear hb4;have hb4:=HX.out.lt;have HR2:=hD (yI (a:=w.heap.size+1) (b4:=b4) hst2 (by have:=HV.out.lt;omega) (Or.inl ja));clear hst2;clear hss2 hz hb4o;go_wp2_with fail;refine hK.out _ _ hC (fun hHeld=> ?_);clear hK K;try simp only[Act.put,qk1,qk2,qk3]
 refine takes [16] ?_;exact fo5):p:=h
theorem fo234(h:p:=by
 go_wp2_with fail;refine(HE.out w3 HB.out).mono ?_;rintro e w4 ⟨rfl,hs⟩;have HX:=hD (HX.out.below hs);have HB:=hD (bon HB.out hs);clear hs;cases ho:E x.text with
 |false=>exact fo300
 |true=>
  have HF:Hid (zA E x=true):=hD (by rw[HW.out];simp[hp,ho]);clear hp ho;exact fo16):p:=h
theorem zek(h:p:=by
 have HF:Hid (zA E x=false):=hD (by rw[HW.out];simp[hp]);clear hp;exact fo16):p:=h
theorem fo236(h:p:=by
 first|exact HC3.out _ (bP ‹Below wr.heap.size wr _›)|exact HC3.out _ ‹Below wr.heap.size wr _› |exact HC3.out _ (bP (bon ‹Below wr.heap.size wr _› (za _ _)))|exact HC3.out _ (bon ‹Below wr.heap.size wr _› (za _ _))|exact HCg3.out _ _ (bon ‹Below wr.heap.size wr _› (za _ _)) ‹_› |exact HCs.out _ _ _ (bon ‹Below wr.heap.size wr _› (za _ _)) ‹_›):p:=h
theorem fo237(h:p:=by
 refine hK.out _ _ ?_ (fun hHeld=> ?_)
 · exact fo6
 clear hK K;try simp only[Act.put,qk1,qk2,qk3]
 refine bG (rs:=[12]) jb jc ?_;refine aX (o:=_) rfl (fun K hK=> ?_) ?_
 · go_simp;go_at_call 150;refine(HNum.out _ _ je jap).mono ?_;rintro e w2 ⟨rfl,b2⟩;have x3:=(HC.out _ b2).2.2.2;go_wp2_with fail;refine hK.out _ _ ?_ (fun hHeld=> ?_)
   · exact fo6
   clear hK K;try simp only[Act.put,qk1,qk2,qk3]
   refine takes [18] ?_;exact fo295
 exact bD):p:=h
theorem fo238(h:p:=by
 rintro e w4 ⟨rfl,hs⟩;have HX:=hD (HX.out.below hs);have HB:=hD (bon HB.out hs);clear hs;have c2:=HX.out.cells 2 _ rfl;have c8:=HX.out.cells 8 _ rfl;have cl:=HX.out.lt;by_cases hv:vMs x.msg=0
 case neg=>
  have v1:(vMs x.msg == 0)=false:=by simpa using hv
  have HF:Hid (zA E x=false):=hD (by rw[HW.out];simp[hv]);clear hv;exact fo16
 have v1:(vMs x.msg == 0)=true:=by simpa using hv
 by_cases hs:x.msg.src=x.who
 case neg=>
  have s1:(x.msg.src == x.who)=false:=by simpa using hs
  have HF:Hid (zA E x=false):=hD (by rw[HW.out];simp[hs]);clear hs;exact fo16
 have s1:(x.msg.src == x.who)=true:=by simpa using hs
 have HF:Hid (zA E x=true):=hD (by rw[HW.out];simp[hp,hv,hs]);clear hp hv hs;exact fo16):p:=h
theorem fo239(h:p:=by
 exact fo300):p:=h
theorem fo240(h:p:=by
 by_cases h4:s.size≤n
 · have c4:(s.size:Int)≤(n:Int):=by omega
   have HF:Hid (graphic s.data.toList n=true):=hD (by unfold graphic;rw[hA,aO h0,aO (by simpa using h4)];rfl);clear hA h0;exact fo50
 · have c4:¬((s.size:Int)≤(n:Int)):=by omega
   have HF:Hid (graphic s.data.toList n=false):=hD (by unfold graphic;rw[av (p:=s.data.toList.length≤n) (by simpa using h4),fC]);clear hA h0;exact fo50):p:=h
theorem fo241(h:p:=by
 have hv1:(v == 0)=false:=by simpa using hv
 have hv2:(v != 0)=true:=by simpa using hv
 refine HVal.mono ?_;rintro e w3 ⟨rfl,b3⟩;have B4:=hD (bon B3.out b3);have HR4:=hD (HR3.out.below b3);clear b3 hv;obtain⟨hlt6,r0,r1,r2,s0,s1,s2⟩:=HR4.out;go_wp2_with fail;exact aj (v:= .tuple #[.agg #[(),(),"s"],.int .i64 2]) jbh rfl (zal HY.out (((B4.out.setCell (ag _) _).setCell (ag _) _).setCell (ag _) _))):p:=h
theorem fo242(h:p:=by
 clear b1 a0 a1 a2 a3 a4 a5;go_wp2_with (at_builtin;refine bu _ rfl _ _ 32 rfl w.heap.size 9 i0 _ 1 16 underlying32 HI.out HZ0.out HZ1.out HZ2.out rfl jf _ _ _ rfl (HO1.out.alloc _) ⟨w1.heap.size,0,none⟩ 1 1 [zQ x] rfl rfl (zN _ _ _ _ rfl) jr jq ja jg ?_);intro v' w2 hown' hgrow _;have HO2:Hid (w2.ownsRow w.heap.size 9 1 v' (k+1) (strC ((l.take (k+1)).map zQ))):=hD (fo47);exact fo40):p:=h
theorem fo243(h:p:=by
 refine HVl.mono ?_;rintro e w4 ⟨rfl,b4⟩;have B5:=hD (bon B4.out b4);have HR5:=hD (HR4.out.below b4);clear b4 p0 p1 p2 f0 f1 f2 hv hq;obtain⟨hlt6,r0,r1,r2,s0,s1,s2⟩:=HR5.out;go_wp2_with fail;exact aj (v:= .tuple #[.agg #[(),(),"s"],.int .i64 2]) jbh rfl (zal HY.out (((B5.out.setCell (ag _) _).setCell (ag _) _).setCell (ag _) _))):p:=h
theorem fo244(h:p:=by
 go_quiet (fail);all_goals
  have hbq:Below w3.heap.size w3 (w3.drewN nq):=bdN (ae _ _) nq;generalize w3.drewN nq=w4 at hbq⊢;go_wp2_with fail;go_meet
  case rel=>exact⟨rfl,hbq⟩):p:=h
theorem fo245(h:p:=by
 have HJ:Hid (Calls prog 79 #[.slice (some ⟨g,0,none⟩) (3+3) cap,.string ⟨#[32]⟩] v2 (zm (Lib.join (yY x++zz x) [32]) v2)):=hD (zaC w v2 g (3+3) cap _ jey jdq jch (ah HLen.out ja) jch);exact fo32):p:=h
theorem fo246(h:p:=by
 have HT1:=hD htk1;clear htk htk1 hb1 hk0;go_wp2_with fail;go_ret3;refine ret_toks none 0 [] n 2 (toksR_err s hs n (by rw[HF.out,HT1.out])) (Rd.nil _ _ _) ?_ cap0;exact(HB.out.trans (HB1.out.mono hge)).alloc (ah hge hz1) _):p:=h
theorem fo247(h:p:=by
 have HF:Hid (zA E x=false):=hD (by rw[HW.out];simp[hn]);clear hn;exact fo16):p:=h
theorem fo248(h:p:=by
 by_cases h0:0≤n
 · by_cases h1:n<12
   · have H:Hid (isSv n=true):=hD (by simp[isSv,h0,h1]);exact fo26
   · have H:Hid (isSv n=false):=hD (by simp[isSv,h1]);exact fo26
 · have H:Hid (isSv n=false):=hD (by simp[isSv,h0]);exact fo26):p:=h
theorem fo249(h:p:=by
 by_cases h0:0≤n
 · by_cases h1:n<6
   · have H:Hid (isCl n=true):=hD (by simp[isCl,h0,h1]);exact fo26
   · have H:Hid (isCl n=false):=hD (by simp[isCl,h1]);exact fo26
 · have H:Hid (isCl n=false):=hD (by simp[isCl,h0]);exact fo26):p:=h
theorem fo250(h:p:=by
 have HF:Hid (zA E x=true):=hD (by rw[HW.out];simp[hp]);clear hp;exact fo16):p:=h
theorem fo251(h:p:=by
 have hq:¬(9223372036854775807<(Lib.join (yY x++zz x) [32]).length+1):=by have:=HLen.out;omega
 go_wp2_with fail;refine HJ.out.mono ?_;rintro e w9 ⟨rfl,hs⟩;have HB:=hD (bon HB.out hs);clear hs;go_wp2_with fail;go_ret;exact ret_line HB.out):p:=h
theorem fo252(h:p:=by
 go_wp2_with fail;go_ret;exact yA HF.out HL.out):p:=h
theorem fo253(h:p:=by
 have n2':1000000<x.number:=by omega
 have n2d:decide (x.number≤1000000)=false:=av n2;have HF:Hid (zA E x=false):=hD (by rw[HW.out];simp[zaF,n2]);clear n2';exact fo16):p:=h
theorem fo254(h:p:=by
 rw[HE.out,hmany,zY,hg];simp only[dC];cases zY yg (n-(j+1)) (s.data.toList.drop (p+q)) with
 |none=>rfl
 |some y=>obtain⟨ys,m⟩:=y;simp[bZ]):p:=h
theorem fo255(h:p:=by
 have n1':x.number<1:=by omega
 have n1d:decide (1≤x.number)=false:=av n1;have HF:Hid (zA E x=false):=hD (by rw[HW.out];simp[zaF,n1]);clear n1';exact fo16):p:=h
theorem fo256(h:p:=by
 by_cases h0:0≤n
 · by_cases h1:n≤2147483647
   · have H:=hD (num_yes h0 h1);exact fo26
   · have H:=hD (num_no (n:=n) ja);exact fo26
 · have H:=hD (num_no (n:=n) ja);exact fo26):p:=h
theorem fo257(h:p:=by
 have e0:s=⟨#[]⟩:=by rw[←ze2 s,h0]
 have HF:Hid (graphic s.data.toList n=false):=hD (by rw[h0];rfl);subst e0;clear hA h0;exact fo50):p:=h
theorem fo258(h:p:=by
 go_wp2_with fail;go_roundw
 case rel=>exact⟨_,cnt4,HG.out,HW7.out,left_step HN.out HK.out⟩
 case measure=>rw[HG.out.left_eq,HGo.out.left_eq];exact HLt.out):p:=h
theorem fo259(h:p:=by
 rintro e w2 ⟨rfl,c',hc,rfl⟩;have hc1:(c' == 0)=false:=by simpa using hc
 have hc2:(c' != 0)=true:=by simpa using hc
 exact fo30):p:=h
theorem fo260(h:p:=by
 exact below_grown (((HB.out.trans (HB1.out.mono hge)).alloc (ah hge hz1) _).alloc jg _) jg HG2.out (fun g hg=>(HO1.out.lt g hg).1)):p:=h
theorem fo261(h:p:=by
 rw[e];intro e2;simp only[ax]at e2;omega):p:=h
theorem fo262(h:p:=by
 have c1:(cfg == 0)=false:=by simpa using c0
 have c2:(cfg != 0)=true:=by simpa using c0
 clear c0;exact fo55):p:=h
theorem fo263(h:p:=by
 obtain⟨b2,o2,hA2,_,hc2⟩:=yD (hst0 W hW) jc;exact fo78):p:=h
theorem fo264(h:p:=by
 go_wp2_with (go_at_call 270;refine(Tryz.bits_Len8 _ _ ja ja).mono ?_;rintro e w' ⟨rfl,rfl⟩);exact fo122):p:=h
theorem fo265(h:p:=by
 exact zW results267 _ _ w.heap.size (hoC x) _ rfl ((HVz.out true).sets (hoC x) rfl).range underlying147 rfl (zaW x)):p:=h
theorem fo266(h:p:=by
 exact zW results237 _ _ w.heap.size (deC x) _ rfl ((HVz.out true).sets (deC x) rfl).range underlying100 rfl (Yb x)):p:=h
theorem fo267(h:p:=by
 exact zW results235 _ _ w.heap.size (stC x) _ rfl ((HVz.out true).sets (stC x) rfl).range underlying97 rfl (yL x)):p:=h
theorem fo268(h:p:=by
 exact zW results189 _ _ w.heap.size (snC x) _ rfl ((HVz.out true).sets (snC x) rfl).range underlying36 rfl (ZC x)):p:=h
theorem fo269(h:p:=by
 exact zW results183 _ _ w.heap.size (sgC x) _ rfl ((HVz.out true).sets (sgC x) rfl).range underlying29 rfl (zcb x)):p:=h
theorem fo270(h:p:=by
 exact zW results125 _ _ w.heap.size (msC x) _ rfl ((HVz.out true).sets (msC x) rfl).range underlying38 rfl (zD x)):p:=h
theorem fo271(h:p:=by
 have HZ:Hid (Y3 x=false):=hD (by simp[Y3,c1]);have d1:(x.slot == 0)=false:=by simp[c1]
 exact fo131):p:=h
theorem fo272(h:p:=by
 have HF:Hid (zA E x=true):=hD (by rw[HW.out];simp[hp,hn,ho]);clear hp hn ho;exact fo16):p:=h
theorem fo273(h:p:=by
 go_wp2_with fail;go_ret;exact⟨YS HF.out.symm,rfl⟩):p:=h
theorem fo274(h:p:=by
 refine aB jb ?_ _;refine aA ?_;go_wp2_with fail;go_ret;exact yA HF.out HB.out):p:=h
theorem fo275(h:p:=by
 have e:=HKn.out;have e0:=HL11.out;have e1:=HL12.out;rw[e1.1,e1.2,e0.1,e0.2,e];rfl):p:=h
theorem fo276(h:p:=by
 simp only[ax,cZ]at hA2;obtain⟨rfl,rfl,_⟩:=hA2;exact hc2 0 _ rfl):p:=h
theorem fo277(h:p:=by
 have:=HG2.out.size;simp at this;omega):p:=h
theorem fo278(h:p:=by
 go_wp2_with fail;go_meet
 case rel=>exact⟨_,_,HPe.out,HKd.out,HKs.out,fun W _=>zbK W⟩):p:=h
theorem fo279(h:p:=by
 have HY:=hD (HBad.out (fun h=>by have:=(isDg_iff _).1 h;omega));exact fo132):p:=h
theorem fo280(h:p:=by
 have:=ints_len (l.take k) (fun n hn=>HI.out n (ic hn));exact fo143):p:=h
theorem fo281(h:p:=by
 go_wp2_with fail;exact fo122):p:=h
theorem fo282(h:p:=by
 refine⟨k+1,by go_num,by omega,zeM H2.out ?_⟩;rw[HS.out,HQ.out];simp):p:=h
theorem fo283(h:p:=by
 go_in;go_wp2_with fail;refine HG.out.mono ?_;rintro e w2 ⟨rfl,rfl⟩;exact fo138):p:=h
theorem fo284(h:p:=by
 go_wp2_with fail;go_meet
 case rel=>exact⟨_,HPe.out,HKp.out,fun W _=>zbK W⟩):p:=h
theorem fo285(h:p:=by
 have HKs:Hid (s6.2=(YG a k o s3).2):=hD (by rw[HKp.out]);exact fo79):p:=h
theorem fo286(h:p:=by
 clear hq;go_wp2_with fail;go_ret;exact yA HF.out (bon HB.out (za _ _))):p:=h
theorem fo287(h:p:=by
 refine aB jb ?_ _;refine aA ?_;exact fo16):p:=h
theorem fo288(h:p:=by
 clear h hv hq;simp only[aJ]at HX HC HB0⊢;exact fo51):p:=h
theorem fo289(h:p:=by
 go_wp2_with fail;go_ret2;exact zfn HR.out _ _ _ HB.out):p:=h
theorem fo290(h:p:=by
 go_wp2_with fail;go_ret;exact Z9 (by rw[HE0.out,HE.out]) HB.out):p:=h
theorem fo291(h:p:=by
 clear hown' hgrow hat;exact fo53):p:=h
theorem fo292(h:p:=by
 obtain rfl:l=[]:=List.length_eq_zero_iff.1 ja;exact fo166):p:=h
theorem fo293(h:p:=by
 rintro e wq ⟨rfl,hwq⟩;replace hwq:=hwq.symm;subst hwq;cases hp:isSv x.who with
 |false=>exact zek
 |true=>exact fo250):p:=h
theorem fo294(h:p:=by
 obtain rfl:=hno hq;have HK:Hid (kindOk k s.data.toList=false):=hD (by rw[zbO hk1 hk6 HCut.out,hq];rfl);clear hq hyes hno;exact fo7):p:=h
theorem fo295(h:p:=by
 refine bG (rs:=[19]) jb jc ?_;refine aX (o:=_) rfl (fun K hK=> ?_) ?_
 · go_simp;have x3:=(HC.out _ (bon b2 (za w2 (.cells #[numR a,numR b,d] 191)))).2.2.2;exact fo3
 exact bD):p:=h
theorem fo296(h:p:=by
 rintro e w4 ⟨rfl,hs⟩;have HX:=hD (HX.out.below hs);have HB:=hD (bon HB.out hs);clear hs;cases ho:opOk x.text with
 |false=>exact fo239
 |true=>exact fo272):p:=h
theorem fo297(h:p:=by
 exact zi results202 _ _ (w.heap.size+1) [zo k,.bool (zx k),.bool (zB k),.bool (zI k)] _ _ rfl rfl HR.out.range underlying185 rfl jb):p:=h
theorem fo298(h:p:=by
 rintro e wq ⟨rfl,hwq⟩;replace hwq:=hwq.symm;subst hwq;cases hp:isSv x.who with
 |false=>exact zek
 |true=>exact fo234):p:=h
theorem fo299(h:p:=by
 rcases hat with e|e
 · rw[e];intro e2;have:=(hok i e2).2;omega
 · exact fo261):p:=h
theorem fo300(h:p:=by
 have HF:Hid (zA E x=false):=hD (by rw[HW.out];simp[ho]);clear ho;exact fo16):p:=h
theorem fo301(h:p:=by
 have HW:Hid (zA E x=(isSv x.who &&(true))):=hD jk;rw[hk]at c1;clear hk HH HQ;go_wp2_with fail;refine(zab x.who w3).mono ?_;exact fo293):p:=h
theorem fo302(h:p:=by
 go_wp2_with fail;refine(zaN x.who w3).mono ?_;exact fo293):p:=h
theorem ja(h:p:=by omega):p:=h
theorem jb(h:p:=by kernel_rfl):p:=h
theorem jc(h:p:=by simp):p:=h
theorem jd(h:p:=by rw[HX.out];rfl):p:=h
theorem je(h:p:=by assumption):p:=h
theorem jf(h:p:=by decide):p:=h
theorem jg(h:p:=by simp;omega):p:=h
theorem jh(h:p:=by show w.heap.size+1≠b3;have:=HZ1.out;omega):p:=h
theorem ji(h:p:=by rfl):p:=h
theorem jk(h:p:=by unfold zA;rw[HH.out,HQ.out];simp[whoOk,zd3,ofCl,hk]):p:=h
theorem jl(h:p:=by show w.heap.size≠b3;have:=HZ1.out;omega):p:=h
theorem jm(h:p:=by show w.heap.size≤b3;have:=HZ1.out;omega):p:=h
theorem jo(h:p:=by simpa[dR]using hI):p:=h
theorem jq(h:p:=by simp[maxLen];omega):p:=h
theorem jr(h:p:=by simp[Value.oneCell']):p:=h
theorem jv(h:p:=by rw[hv];exact⟨HX.out.cells 0 _ rfl,HX.out.cells 1 _ rfl,HX.out.cells 3 _ rfl,HX.out.cells 6 _ rfl,HX.out.range⟩):p:=h
theorem jw(h:p:=by show w.heap.size< _;omega):p:=h
theorem jy(h:p:=by rw[size_mk];omega):p:=h
theorem jaa(h:p:=by show w.heap.size<w.heap.size+3∨w.heap.size=b5;omega):p:=h
theorem jab(h:p:=by rw[hv];exact⟨HO.out.cells 1 _ rfl,HO.out.cells 2 _ rfl,HO.out.cells 3 _ rfl,HVF.out.cells 0 _ rfl,HVF.out.cells 1 _ rfl,HVF.out.cells 2 _ rfl,HVF.out.cells 3 _ rfl⟩):p:=h
theorem jac(h:p:=by have:=HX.out.lt;omega):p:=h
theorem jad(h:p:=by show w.heap.size≠b5;omega):p:=h
theorem jae(h:p:=by show _=Value.agg #[s.drop k,true];rw[←HX.out];rfl):p:=h
theorem jaf(h:p:=by rw[hv];exact⟨HX.out.cells 3 _ rfl,HX.out.cells 4 _ rfl,HX.out.cells 5 _ rfl,HX.out.cells 6 _ rfl⟩):p:=h
theorem jag(h:p:=by show(w.heap.size+1)≠w.heap.size;omega):p:=h
theorem jah(h:p:=by show(w.heap.size+2)≠w.heap.size;omega):p:=h
theorem jai(h:p:=by have:=HO.out;rwa[dN]at this):p:=h
theorem jaj(h:p:=by show w.heap.size≤b5;omega):p:=h
theorem jak(h:p:=by show(w.heap.size+1) <w.heap.size+3∨(w.heap.size+1)=b5;omega):p:=h
theorem jal(h:p:=by show(w.heap.size+2) <w.heap.size+3∨(w.heap.size+2)=b5;omega):p:=h
theorem jam(h:p:=by show bR<b5+1∨bR=b5;omega):p:=h
theorem jan(h:p:=by show w.heap.size≤w.heap.size;omega):p:=h
theorem jao(h:p:=by simpa using h):p:=h
theorem jap(h:p:=by first|assumption|exact bP ‹Below wr.heap.size wr _›):p:=h
theorem jaq(h:p:=by rw[hwa];exact((Vr.new w (rcC r) 167).below (za _ _)).below (za _ _)):p:=h
theorem jar(h:p:=by rw[hv];exact hC):p:=h
theorem jas(h:p:=by show b5<w.heap.size+3∨b5=b5;omega):p:=h
theorem jat(h:p:=by simp[results,results104,go_sem,r0,r1,r2]):p:=h
theorem jau(h:p:=by unfold zF za5;rw[hv];simp only[];cases zY yg n (List.drop k s.data.toList) <;> rfl):p:=h
theorem jav(h:p:=by show w.heap.size≠g;omega):p:=h
theorem jaw(h:p:=by have h9:=(zcj r0).1;rw[ht1]at h9;exact ah h9 HL0.out):p:=h
theorem jax(h:p:=by show(w.heap.size+1)≠b5;omega):p:=h
theorem jay(h:p:=by show(w.heap.size+2)≠b5;omega):p:=h
theorem jaz(h:p:=by rw[hwa];exact bon (bon (za _ _) (za _ _)) (za _ _)):p:=h
theorem jba(h:p:=by have h9:=zfG r0;rw[ht1]at h9;exact ah h9 HL0.out):p:=h
theorem jbb(h:p:=by have h9:=ZE.len s0;rw[ht1]at h9;exact ah h9 HL0.out):p:=h
theorem jbc(h:p:=by have:=HA.out;rwa[dN]at this):p:=h
theorem jbd(h:p:=by show b5≠w.heap.size;omega):p:=h
theorem jbe(h:p:=by simp[ByteArray.size];omega):p:=h
theorem jbf(h:p:=by have:=HX.out.lt;have:=HQ.out.lt;omega):p:=h
theorem jbg(h:p:=by first|assumption|exact yO ‹Bx _ _ _ _›):p:=h
theorem jbh(h:p:=by simp[results,results94,go_sem,r0,r1,r2]):p:=h
theorem jbi(h:p:=by show b5<b5+1∨b5=b5;omega):p:=h
theorem jbj(h:p:=by rw[List.size_toArray,Yy,zdH];omega):p:=h
theorem jbk(h:p:=by rw[aK];omega):p:=h
theorem jbl(h:p:=by have:=HZ1.out;omega):p:=h
theorem jbm(h:p:=by first|assumption|exact bP ‹Below w.heap.size w _› |exact za w _|exact(za w _).drew):p:=h
theorem jbn(h:p:=by rw[HE.out,hjn,gu,zY];simp):p:=h
theorem jbo(h:p:=by have:=HP2.out.o1;have:=HP2.out.o2;omega):p:=h
theorem jbp(h:p:=by rw[←hn];exact HTn.2):p:=h
theorem jbq(h:p:=by have:=Zv szS l t ht;unfold szS at this hz;omega):p:=h
theorem jbr(h:p:=by simp[yJ,hk]):p:=h
theorem jbs(h:p:=by simp[zz,hk]):p:=h
theorem jbt(h:p:=by have h5:=HK5.out;simp[zL,zM,zG,h5]):p:=h
theorem jbu(h:p:=by unfold zy za5;rw[hv];simp only[];cases zY Za n (List.drop k s.data.toList) <;> rfl):p:=h
theorem jbv(h:p:=by rw[HD.out];exact hg):p:=h
theorem jbw(h:p:=by have:=HQ1.out;have:=HPm.out.o2;show g<w11.heap.size;omega):p:=h
theorem jbx(h:p:=by first|(rw[hv];exact hC)|(have hv2:=hv;simp only[rcC,Rc.fail]at hv2;rw[hv2];exact hC)):p:=h
theorem jby(h:p:=by first|assumption|exact bP ‹Below w.heap.size w _›):p:=h
theorem jbz(h:p:=by simpa[dR]using h.1):p:=h
theorem jca(h:p:=by show g<w.heap.size+2;omega):p:=h
theorem jcb(h:p:=by rw[zbO hk1 hk6 HCut.out,ht,hq];rfl):p:=h
theorem jcc(h:p:=by simpa using hg):p:=h
theorem jcd(h:p:=by show w.heap.size≠bR;omega):p:=h
theorem jce(h:p:=by show w.heap.size≤bR;omega):p:=h
theorem jcf(h:p:=by show w2.heap.size≠g;omega):p:=h
theorem jcg(h:p:=by first|exact b3|exact b3.drew|exact b3.alloc b3.size _|exact(b3.alloc b3.size _).drew):p:=h
theorem jch(h:p:=by rw[HL.out];simp):p:=h
theorem jci(h:p:=by simpa[dR,Sg.ok]using hok):p:=h
theorem jcj(h:p:=by rw[zbO hk1 hk6 HCut.out,ht];simp):p:=h
theorem jck(h:p:=by have:=HQ2.out;have:=HPm.out.o2;show b12≠g;omega):p:=h
theorem jcl(h:p:=by rw[zbu];omega):p:=h
theorem jcm(h:p:=by rw[HPt.out,HGo.out,HD.out,go_late HY.out HLt.out.symm,bF,HNl.out]):p:=h
theorem jcn(h:p:=by have:=Sl.rd_below hok.2.2.2.2.2 hb;unfold Sl.rd at this;rwa[zbg]at this):p:=h
theorem jco(h:p:=by have h9:=zdn s0;rw[ht1]at h9;have h8:=HL0.out;simp only at h9;omega):p:=h
theorem jcp(h:p:=by unfold yt;rw[←hy]):p:=h
theorem jcq(h:p:=by have h9:=(Yv ag_sg).len s1;rw[ht2]at h9;exact ah h9 HL1.out):p:=h
theorem jcr(h:p:=by show(w.heap.size+2)≠(w.heap.size+1);omega):p:=h
theorem jcs(h:p:=by show(w.heap.size+1)≠(w.heap.size+2);omega):p:=h
theorem jct(h:p:=by have:=Sl.rd_below hok.2.1 hb;unfold Sl.rd at this;rwa[zbg]at this):p:=h
theorem jcu(h:p:=by simp only[aG];omega):p:=h
theorem jcv(h:p:=by have h9:=(YE r3).1;rw[ht4]at h9;exact ah h9 HL3.out):p:=h
theorem jcw(h:p:=by first|exact .inl hk|exact .inr hk):p:=h
theorem jcx(h:p:=by rw[HX.out];exact h):p:=h
theorem jcy(h:p:=by have h:=HJ4.out.own.alloc (.cells (ptC x).toArray 40);rwa[HNl.out]at h):p:=h
theorem jcz(h:p:=by unfold Zc off;rw[hg];simp only[af hn]):p:=h
theorem jda(h:p:=by unfold Zc off;rw[hg];simp only[aa hn]):p:=h
theorem jdb(h:p:=by rw[hs0];exact ah (zcI 1 s) hl):p:=h
theorem jdc(h:p:=by have h9:=zaJ r3;rw[ht4]at h9;exact ah h9 HL3.out):p:=h
theorem jdd(h:p:=by rw[hv];exact⟨HX.out.cells 0 _ rfl,HX.out.range,HY.out _ HBr.out⟩):p:=h
theorem jde(h:p:=by rw[hv];exact⟨HX.out.range,HR.out.range⟩):p:=h
theorem jdf(h:p:=by rw[HY.out];rfl):p:=h
theorem jdg(h:p:=by have h9:=rkSgs_len r1;rw[ht2]at h9;exact ah h9 HL1.out):p:=h
theorem jdh(h:p:=by show w.heap.size≠(w.heap.size+1);omega):p:=h
theorem jdi(h:p:=by show w.heap.size≤(w.heap.size+1);omega):p:=h
theorem jdj(h:p:=by show w.heap.size≠(w.heap.size+2);omega):p:=h
theorem jdk(h:p:=by show w.heap.size≤(w.heap.size+2);omega):p:=h
theorem jdl(h:p:=by have h5:=HK5.out;subst h5;rfl):p:=h
theorem jdm(h:p:=by have:=h.o1;have:=h.o2;omega):p:=h
theorem jdn(h:p:=by simpa[dR,Sg.ok]using hI):p:=h
theorem jdo(h:p:=by show bR≠b5;omega):p:=h
theorem jdp(h:p:=by show b5≠bR;omega):p:=h
theorem jdq(h:p:=by rw[HL.out];exact HO.out):p:=h
theorem jdr(h:p:=by unfold inB;rw[any_take l _ k hlt,hs];simpa[inB]using HN.out):p:=h
theorem jds(h:p:=by simpa[ByteArray.size]using hs):p:=h
theorem jdt(h:p:=by rw[HE.out,hmany,zY,hg]):p:=h
theorem jdu(h:p:=by rw[←HTt.out];exact HS2.out):p:=h
theorem jdv(h:p:=by simpa[Lib.byteCells]using hl):p:=h
theorem jdw(h:p:=by simpa using hk):p:=h
theorem jdx(h:p:=by show w1.heap.size≠g;omega):p:=h
theorem jdy(h:p:=by show w.heap.size≤w1.heap.size;omega):p:=h
theorem jdz(h:p:=by show w1.heap.size≠w.heap.size;omega):p:=h
theorem jea(h:p:=by rw[bF,HNl.out];exact h5):p:=h
theorem jeb(h:p:=by rw[bB hlt1,ht]):p:=h
theorem jec(h:p:=by rw[bN];omega):p:=h
theorem jed(h:p:=by simp[Value.ownBlock];omega):p:=h
theorem jee(h:p:=by show wr.heap.size<W.heap.size;omega):p:=h
theorem jef(h:p:=by unfold yT;rw[←hp,af hq]):p:=h
theorem jeg(h:p:=by unfold yT;rw[←hp,aa hq]):p:=h
theorem jeh(h:p:=by show b5≠(w.heap.size+1);omega):p:=h
theorem jei(h:p:=by show b5≠(w.heap.size+2);omega):p:=h
theorem jej(h:p:=by rw[HKP.out];rfl):p:=h
theorem jek(h:p:=by have:=Zv St.sz _ y hy;omega):p:=h
theorem jel(h:p:=by have:=Zv De.sz _ y hy;omega):p:=h
theorem jem(h:p:=by have:=Zv Ho.sz _ y hy;omega):p:=h
theorem jen(h:p:=by have:=Zv Sg.sz l x hx;omega):p:=h
theorem jeo(h:p:=by simp[maxLen]):p:=h
theorem jep(h:p:=by simp[strC]):p:=h
theorem jeq(h:p:=by simpa using hne):p:=h
theorem jer(h:p:=by show w6.heap.size≤b7;omega):p:=h
theorem jes(h:p:=by simpa using hr):p:=h
theorem jet(h:p:=by simpa using hw):p:=h
theorem jeu(h:p:=by show w.heap.size≤b4;omega):p:=h
theorem jev(h:p:=by show w.heap.size≠b4;omega):p:=h
theorem jew(h:p:=by rw[hs0,←hn]):p:=h
theorem jex(h:p:=by rw[HK.out];rfl):p:=h
theorem jey(h:p:=by rw[HL.out];rfl):p:=h
theorem jez(h:p:=by rw[HX.out,HTt.out]):p:=h
theorem jfa(h:p:=by have:=h.o1;omega):p:=h
theorem jfb(h:p:=by simpa using h0):p:=h
theorem jfc(h:p:=by simp[hy]):p:=h
theorem jfd(h:p:=by rw[hwa];exact Vr.new' _ (rcC Rc.fail) 167 jc):p:=h
theorem jfe(h:p:=by rw[HPt.out,HGo.out,HD.out,go_many HY.out HLt.out.symm jea,bF,HNl.out]):p:=h
theorem jff(h:p:=by rw[bi ja];rfl):p:=h
theorem jfg(h:p:=by intro hh;exact absurd hh.1 jf):p:=h
theorem jfh(h:p:=by rw[Nat.div_lt_iff_lt_mul ja];rw[dG]at h;omega):p:=h
