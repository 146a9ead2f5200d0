/- Two signatures against each other. -/
import Derived.Laws.StructEq
import Derived.Shelf.SlicesQ.Contains
import Derived.Deep.AppendLies
import Derived.Deep.Cut
import Derived.Deep.CutRange
import Derived.Deep.MidRow
import Derived.Test.YtepbbaifpckcpaaGreatDoorFWa
import Derived.Test.YtepbbaifpckcpaaGreatDoorFPl
import Derived.Test.YtepbbaifpckcpaaGreatDoorFFo
import Derived.Test.YtepbbaifpckcpaaGreatDoorFVa
namespace Go.Proofs.YtepbbaifpckcpaaGreatDoor
set_option maxHeartbeats 2000000
open Go.RowKit Go.Shelf Go.Lib
theorem run_sg (x y:Sg) (w:World):(Op.equalIn 10000 29 (.agg #[.int .i64 x.server, .int .i64 x.kind, .int .i64 x.view, .int .i64 x.slot, .string ⟨x.digest.toArray⟩, .string ⟨x.sig.toArray⟩]) (.agg #[.int .i64 y.server, .int .i64 y.kind, .int .i64 y.view, .int .i64 y.slot, .string ⟨y.digest.toArray⟩, .string ⟨y.sig.toArray⟩])).run Tryz.prog w= .ok (decide (x=y)) w:=by
 have u3:=Tryz.underlying3;have i3:=Tryz.isAgg3;have z3:=Tryz.sizeOf3;have u9:=Tryz.underlying9;have a9:=Tryz.isAgg9;have z9:=Tryz.sizeOf9;have hp:Tryz.prog.stoodInHeld 29=false:=by kernel_rfl
 rw [show(10000:Nat)=9999+1 from rfl,run_equalIn_agg w 9999 29 _ _ jc hp];simp only [Program.fieldsOf,Tryz.underlying29];go_simp;obtain⟨a1,a2,a3,a4,a5,a6⟩:=x;obtain⟨b1,b2,b3,b4,b5,b6⟩:=y;by_cases h1:a1=b1 <;> by_cases h2:a2=b2 <;> by_cases h3:a3=b3 <;> by_cases h4:a4=b4 <;> by_cases h5:a5=b5 <;> by_cases h6:a6=b6 <;> simp [h1,h2,h3,h4,h5,h6]
theorem run_ne_sg (x:Sg) (w:World):(binOp .neq 29 (.agg #[.int .i64 x.server, .int .i64 x.kind, .int .i64 x.view, .int .i64 x.slot, .string ⟨x.digest.toArray⟩, .string ⟨x.sig.toArray⟩]) (.agg #[.int .i64 0, .int .i64 0, .int .i64 0, .int .i64 0, .string ⟨#[]⟩, .string ⟨#[]⟩])).run Tryz.prog w= .ok (.bool (!sgZero x)) w:=by
 rw [run_neq_struct];have h:=run_sg x ⟨0,0,0,0, [], []⟩ w;rw [show(#[.int .i64 0, .int .i64 0, .int .i64 0, .int .i64 0, .string ⟨#[]⟩, .string ⟨#[]⟩]:Array Value)=#[.int .i64 (⟨0,0,0,0, [], []⟩:Sg).server, .int .i64 (⟨0,0,0,0, [], []⟩:Sg).kind, .int .i64 (⟨0,0,0,0, [], []⟩:Sg).view, .int .i64 (⟨0,0,0,0, [], []⟩:Sg).slot, .string ⟨(⟨0,0,0,0, [], []⟩:Sg).digest.toArray⟩, .string ⟨(⟨0,0,0,0, [], []⟩:Sg).sig.toArray⟩] from rfl,h];rfl
end Go.Proofs.YtepbbaifpckcpaaGreatDoor
namespace Go.Proofs.YtepbbaifpckcpaaGreatDoor
set_option maxRecDepth 100000
set_option maxHeartbeats 8000000
open Go.RowKit
def zeq (L:List Bool):Nat→Nat
 |0=>0
 |k+1=>zeq L k+if L.getD k false then 2 ^ k else 0
theorem presK_lt (L:List Bool):∀k,zeq L k<2 ^ k
 |0=>by simp [zeq]
 |k+1=>by
  have:=presK_lt L k
  rw [zeq,Nat.pow_succ]
  split <;> omega
theorem or_step':∀(k:Fin 9) (a:Fin 512),a.val<2 ^ k.val→bits BinOp.or IntKind.i64 (a.val:Int) (((2 ^ k.val:Nat):Int))=((a.val+2 ^ k.val:Nat):Int):=by decide +kernel
theorem or_step (a k:Nat) (ha:a<2 ^ k) (hk:k<9):bits BinOp.or IntKind.i64 (a:Int) (((2 ^ k:Nat):Int))=((a+2 ^ k:Nat):Int):=by
 have h2:2 ^ k≤2 ^ 8:=Nat.pow_le_pow_right ja ja;exact or_step' ⟨k,hk⟩ ⟨a,by omega⟩ ha
theorem two_wrap':∀k:Fin 9,wrap64 ((2:Int) ^ k.val)=((2 ^ k.val:Nat):Int):=by decide +kernel
theorem two_wrap (k:Nat) (hk:k<9):wrap64 ((2:Int) ^ k)=((2 ^ k:Nat):Int):=two_wrap' ⟨k,hk⟩
def RetInt (n:Int) (w:World) (e:Ending) (w':World):Prop:=e= .returned (.int .i64 n)∧Below w.heap.size w w'
theorem ret_in {n m:Int} {w w':World} (h:n=m) (hb:Below w.heap.size w w'):RetInt n w (.returned (.int .i64 m)) w':=⟨by rw [h],hb⟩
def zd7 (w:World) (cs:List Value) (T:TypeId) (b:Bool) (e:Ending) (w':World):Prop:=e= .returned (.bool b)∧Bx w cs T w'
theorem zfz {P:Program} {k:FuncId} {args:Array Value} {w w1:World} {cs:List Value} {T:TypeId} {b:Bool} (hb:Bx w cs T w1) (h:Calls P k args w1 (zC b w1)):Calls P k args w1 (zd7 w cs T b):=
 h.mono fun _ _ ⟨he,hw⟩=>⟨he,zau hb hw⟩
theorem present_any (m:Ms) (w:World) (h1:m.snapshot.chunks.l.length≤1099511627776) (h2:m.snapshot.proof.l.length≤1099511627776) (h3:m.snapshot.chain.l.length≤1099511627776) :
    Calls Tryz.prog 97 #[.agg #[.int .i64 m.kind, .int .i64 m.src, .int .i64 m.dst, .int .i64 m.view, .int .i64 m.slot, .string ⟨m.value.toArray⟩, .int .i64 m.till, .int .i64 m.signed.server, .int .i64 m.signed.kind, .int .i64 m.signed.view, .int .i64 m.signed.slot, .string ⟨m.signed.digest.toArray⟩, .string ⟨m.signed.sig.toArray⟩, .slice m.statuses.a m.statuses.l.length m.statuses.c, .slice m.entries.a m.entries.l.length m.entries.c, .int .i64 m.snapshot.slot, .string ⟨m.snapshot.root.toArray⟩, .slice m.snapshot.chunks.a m.snapshot.chunks.l.length m.snapshot.chunks.c, .slice m.snapshot.proof.a m.snapshot.proof.l.length m.snapshot.proof.c, .slice m.snapshot.chain.a m.snapshot.chain.l.length m.snapshot.chain.c, .slice m.texts.a m.texts.l.length m.texts.c]] w (RetInt (zeq (YT m) 9) w):=by
 have HE:Hid (∀(w1:World) (R:Prop),(Bx w (msC m) 38 w1∧R)→Calls Tryz.prog 144 #[.agg #[.int .i64 m.snapshot.slot, .string ⟨m.snapshot.root.toArray⟩, .slice m.snapshot.chunks.a m.snapshot.chunks.l.length m.snapshot.chunks.c, .slice m.snapshot.proof.a m.snapshot.proof.l.length m.snapshot.proof.c, .slice m.snapshot.chain.a m.snapshot.chain.l.length m.snapshot.chain.c]] w1 (zd7 w (msC m) 38 (Yz m.snapshot))):=
  hD (fun w1 _ hb=>zfz hb.1 (empty_any m.snapshot w1 h1 h2 h3))
 have HC:Hid (∀w1,Bx w (msC m) 38 w1→Bx w (msC m) 38 w1∧w1.cell? ⟨w.heap.size,3,none⟩=some (.int .i64 m.view)∧w1.cell? ⟨w.heap.size,4,none⟩=some (.int .i64 m.slot)∧w1.cell? ⟨w.heap.size,5,none⟩=some (.string ⟨m.value.toArray⟩)∧w1.cell? ⟨w.heap.size,6,none⟩=some (.int .i64 m.till)∧w1.cell? ⟨w.heap.size,7,none⟩=some (.int .i64 m.signed.server)∧w1.cell? ⟨w.heap.size,8,none⟩=some (.int .i64 m.signed.kind)∧w1.cell? ⟨w.heap.size,9,none⟩=some (.int .i64 m.signed.view)∧w1.cell? ⟨w.heap.size,10,none⟩=some (.int .i64 m.signed.slot)∧w1.cell? ⟨w.heap.size,11,none⟩=some (.string ⟨m.signed.digest.toArray⟩)∧w1.cell? ⟨w.heap.size,12,none⟩=some (.string ⟨m.signed.sig.toArray⟩)∧w1.cell? ⟨w.heap.size,13,none⟩=some (.slice m.statuses.a m.statuses.l.length m.statuses.c)∧w1.cell? ⟨w.heap.size,14,none⟩=some (.slice m.entries.a m.entries.l.length m.entries.c)∧w1.cell? ⟨w.heap.size,15,none⟩=some (.int .i64 m.snapshot.slot)∧w1.cell? ⟨w.heap.size,16,none⟩=some (.string ⟨m.snapshot.root.toArray⟩)∧w1.cell? ⟨w.heap.size,17,none⟩=some (.slice m.snapshot.chunks.a m.snapshot.chunks.l.length m.snapshot.chunks.c)∧w1.cell? ⟨w.heap.size,18,none⟩=some (.slice m.snapshot.proof.a m.snapshot.proof.l.length m.snapshot.proof.c)∧w1.cell? ⟨w.heap.size,19,none⟩=some (.slice m.snapshot.chain.a m.snapshot.chain.l.length m.snapshot.chain.c)∧w1.cell? ⟨w.heap.size,20,none⟩=some (.slice m.texts.a m.texts.l.length m.texts.c)):=
  hD (fun w1 hb=>⟨hb,ze hb 3 _ rfl,ze hb 4 _ rfl,ze hb 5 _ rfl,ze hb 6 _ rfl,ze hb 7 _ rfl,ze hb 8 _ rfl,ze hb 9 _ rfl,ze hb 10 _ rfl,ze hb 11 _ rfl,ze hb 12 _ rfl,ze hb 13 _ rfl,ze hb 14 _ rfl,ze hb 15 _ rfl,ze hb 16 _ rfl,ze hb 17 _ rfl,ze hb 18 _ rfl,ze hb 19 _ rfl,ze hb 20 _ rfl⟩)
 have H0:=hD (Zk w (msC m) 38);have hne:=run_ne_sg m.signed;clear h1 h2 h3;go_in;go_wp2_with fail;go_region_held3 (fun w1=>Bx w (msC m) 38 w1∧w1.cell? ⟨w.heap.size,3,none⟩=some (.int .i64 m.view)∧w1.cell? ⟨w.heap.size,4,none⟩=some (.int .i64 m.slot)∧w1.cell? ⟨w.heap.size,5,none⟩=some (.string ⟨m.value.toArray⟩)∧w1.cell? ⟨w.heap.size,6,none⟩=some (.int .i64 m.till)∧w1.cell? ⟨w.heap.size,7,none⟩=some (.int .i64 m.signed.server)∧w1.cell? ⟨w.heap.size,8,none⟩=some (.int .i64 m.signed.kind)∧w1.cell? ⟨w.heap.size,9,none⟩=some (.int .i64 m.signed.view)∧w1.cell? ⟨w.heap.size,10,none⟩=some (.int .i64 m.signed.slot)∧w1.cell? ⟨w.heap.size,11,none⟩=some (.string ⟨m.signed.digest.toArray⟩)∧w1.cell? ⟨w.heap.size,12,none⟩=some (.string ⟨m.signed.sig.toArray⟩)∧w1.cell? ⟨w.heap.size,13,none⟩=some (.slice m.statuses.a m.statuses.l.length m.statuses.c)∧w1.cell? ⟨w.heap.size,14,none⟩=some (.slice m.entries.a m.entries.l.length m.entries.c)∧w1.cell? ⟨w.heap.size,15,none⟩=some (.int .i64 m.snapshot.slot)∧w1.cell? ⟨w.heap.size,16,none⟩=some (.string ⟨m.snapshot.root.toArray⟩)∧w1.cell? ⟨w.heap.size,17,none⟩=some (.slice m.snapshot.chunks.a m.snapshot.chunks.l.length m.snapshot.chunks.c)∧w1.cell? ⟨w.heap.size,18,none⟩=some (.slice m.snapshot.proof.a m.snapshot.proof.l.length m.snapshot.proof.c)∧w1.cell? ⟨w.heap.size,19,none⟩=some (.slice m.snapshot.chain.a m.snapshot.chain.l.length m.snapshot.chain.c)∧w1.cell? ⟨w.heap.size,20,none⟩=some (.slice m.texts.a m.texts.l.length m.texts.c))
  (first|exact HC.out _ (yF H0.out)|exact HC.out _ (yh (‹Bx _ _ _ _∧_›).1 _)|exact HC.out _ ‹Bx _ _ _ _›)
  ((go_at_call 144;refine(HE.out _ _ je).mono ?_;rintro e w2 ⟨rfl,b2⟩))
 all_goals
  go_wp2_with fail;generalize hW:w2.alloc _=wz;have HZ:Hid (∀k,k<9→wz.cell? ⟨w2.heap.size,k,none⟩=some (.bool ((YT m).getD k false))):=hD (fun k hk=>fo97);have HWB:Hid (Below w.heap.size w wz):=hD (hW▸zu (yh b2 _));clear hW b2 hne H0 HC HE;go_loop [3,40] (fun o i=>∃k:Nat,i= .int .i64 k∧k≤9∧o= .int .i64 (zeq (YT m) k)) (fun _ i=>9-(intOf i).toNat)
  case atStart=>exact⟨0,rfl,by omega,rfl⟩
  case round=>
   obtain⟨k,rfl,hk,rfl⟩:=hrel;by_cases hlt:k<9
   · have hcell:=HZ.out k hlt;have i0:(0:Int)≤(k:Int):=by omega
     have i1:(k:Int) <9:=by omega
     have i2:(k:Int)≤64:=by omega
     have HS:Hid (zeq (YT m) (k+1)=zeq (YT m) k+if(YT m).getD k false then 2 ^ k else 0):=hD rfl;have HA:=hD (presK_lt (YT m) k);generalize hb:(YT m).getD k false=b at hcell HS;cases b
     · go_wp2_with fail;go_round
       case rel=>exact⟨k+1,by go_num,by omega,by rw [HS.out];rfl⟩
       case measure=>simp [intOf];omega
     · have HT:=hD (or_step _ k HA.out ja);go_wp2_with fail;go_round
       case rel=>
        refine⟨k+1,by go_num,by omega, ?_⟩;rw [HS.out];rw [two_wrap k hlt,HT.out,if_pos rfl]
       case measure=>simp [intOf];omega
   · obtain rfl:k=9:=by omega
     go_wp2_with fail;go_ret;exact ret_in rfl HWB.out
end Go.Proofs.YtepbbaifpckcpaaGreatDoor
namespace Go.Proofs.YtepbbaifpckcpaaGreatDoor
set_option maxRecDepth 100000
set_option maxHeartbeats 16000000
open Go.RowKit
def vTail (m:Ms):Int:=if Zu m=false then 7 else if yC m=false then 3 else if 0<m.snapshot.chunks.l.length then 1 else 0
theorem vMs_kind {m:Ms} (h:m.kind<1∨12<m.kind):vMs m=1:=by unfold vMs;rw [if_pos h]
theorem vMs_part {m:Ms} (h:¬(m.kind<1∨12<m.kind)) (hp:zbc m=true):vMs m=7:=by unfold vMs;rw [if_neg h,if_pos hp]
theorem vMs_spare {m:Ms} (h:¬(m.kind<1∨12<m.kind)) (hp:zbc m=false) (hs:ZU m=true∨oneB m=true):vMs m=1:=by
 unfold vMs;rw [if_neg h,if_neg (by simp [hp]),if_pos hs]
theorem vMs_tail {m:Ms} (h:¬(m.kind<1∨12<m.kind)) (hp:zbc m=false) (hs:ZU m=false) (ho:oneB m=false):vMs m=vTail m:=by
 unfold vMs;rw [if_neg h,if_neg (by simp [hp]),if_neg (by simp [hs,ho])];rfl
theorem spare_val':∀(b0 b1 b2 b3 b4 b5 b6 b7 b8:Bool) (k:Fin 12),(bits BinOp.andNot IntKind.i64 (zeq [b0,b1,b2,b3,b4,b5,b6,b7,b8] 9:Nat) (kwF (k.val+1:Nat)) != 0)=([b0,b1,b2,b3,b4,b5,b6,b7,b8].zipIdx.any fun x=>x.1 && !alw (k.val+1:Nat) x.2):=by decide +kernel
theorem spare_val (m:Ms) (h:¬(m.kind<1∨12<m.kind)):(bits BinOp.andNot IntKind.i64 (zeq (YT m) 9:Nat) (kwF m.kind) != 0)=ZU m:=by
 obtain⟨n,hn⟩:=Int.eq_ofNat_of_zero_le (show 0≤m.kind- 1 by omega);have h1:m.kind=((n+1:Nat):Int):=by omega
 have:=spare_val' (m.view != 0) (m.slot != 0) (m.till != 0) (!m.value.isEmpty) (!sgZero m.signed) (decide (0<m.statuses.l.length)) (decide (0<m.entries.l.length)) (!Yz m.snapshot) (decide (0<m.texts.l.length)) ⟨n,by omega⟩;unfold ZU;rw [h1];exact this
theorem kwS_ne {k:Int} (h:¬(k<1∨12<k)):kwS k≠ []:=fo102
theorem partB_lt (m:Ms) (h:m.src<0∨12≤m.src∨m.dst<0∨18≤m.dst):zbc m=true:=by
 unfold zbc;rcases h with h|h|h|h <;> simp [h]
theorem zfp (m:Ms) (h:¬num m.view=true):zbc m=true:=by unfold zbc;simp [h]
theorem zfA (m:Ms) (h:¬num m.slot=true):zbc m=true:=by unfold zbc;simp [h]
theorem zff (m:Ms) (h1:num m.view=true) (h2:num m.slot=true):(decide (m.src<0) || decide (12≤m.src) || decide (m.dst<0) || decide (18≤m.dst) || decide (m.till<0))=zbc m:=by
 unfold zbc;rw [h1,h2];simp
theorem head_true (m:Ms) (h:2000<m.value.length∨12<m.statuses.l.length∨8<m.entries.l.length∨500<m.texts.l.length):true= !(zaF m && decide (tot m.texts.l≤60000)):=by
 have:zaF m=false:=by
  unfold zaF;rcases h with h|h|h|h
  · rw [decide_eq_false (show ¬m.value.length≤2000 by omega)];rfl
  · rw [decide_eq_false (show ¬m.statuses.l.length≤12 by omega)];simp
  · rw [decide_eq_false (show ¬m.entries.l.length≤8 by omega)];simp
  · rw [decide_eq_false (show ¬m.texts.l.length≤500 by omega)];simp
 rw [this];rfl
theorem head_last (m:Ms):(decide ((2000:Int) <m.value.length) || decide ((12:Int) <m.statuses.l.length) || decide ((8:Int) <m.entries.l.length) || decide ((500:Int) <m.texts.l.length) || decide ((60000:Int) <(tot m.texts.l:Nat)))= !(zaF m && decide (tot m.texts.l≤60000)):=by
 rw [show(2000:Int)=((2000:Nat):Int) from rfl,show(12:Int)=((12:Nat):Int) from rfl,show(8:Int)=((8:Nat):Int) from rfl,show(500:Int)=((500:Nat):Int) from rfl,show(60000:Int)=((60000:Nat):Int) from rfl,Zd,Zd,Zd,Zd,Zd];unfold zaF;cases decide (m.value.length≤2000) <;> cases decide (m.statuses.l.length≤12) <;> cases decide (m.entries.l.length≤8) <;> cases decide (m.texts.l.length≤500) <;> cases decide (tot m.texts.l≤60000) <;> rfl
theorem ranges_val (m:Ms):(((false || !m.statuses.l.all yB) || !m.entries.l.all (fun d=>num d.view)) || !zbP m.snapshot)= !Zu m:=by
 unfold Zu zbP;cases m.statuses.l.all yB <;> cases m.entries.l.all (fun d=>num d.view) <;> cases m.snapshot.chain.l.all ZB <;> cases num m.snapshot.slot <;> rfl
theorem lengths_val (m:Ms):(((((!(zaF m && decide (tot m.texts.l≤60000))) || !zR m.signed) || !m.statuses.l.all yH) || !m.entries.l.all zP) || !zbW m.snapshot)= !yC m:=by
 unfold yC zbW zdv;cases zaF m <;> cases decide (tot m.texts.l≤60000) <;> cases zR m.signed <;> cases m.statuses.l.all yH <;> cases m.entries.l.all zP <;> cases decide (m.snapshot.root.length≤64) <;> cases decide (m.snapshot.chain.l.length≤20) <;> cases zL m.snapshot.proof.l <;> cases m.snapshot.chain.l.all (fun h=>zP h.entry) <;> rfl
structure MsFew (m:Ms):Prop where
 statuses:m.statuses.l.length≤1099511627776
 certs:∀x∈m.statuses.l,x.cert.l.length≤1099511627776
 entries:m.entries.l.length≤1099511627776
 ecerts:∀x∈m.entries.l,x.cert.l.length≤1099511627776
 chunks:m.snapshot.chunks.l.length≤1099511627776
 proof:m.snapshot.proof.l.length≤1099511627776
 chain:m.snapshot.chain.l.length≤1099511627776
 hcerts:∀x∈m.snapshot.chain.l,x.entry.cert.l.length≤1099511627776
 texts:m.texts.l.length≤1099511627776
 tot:tot m.texts.l≤1099511627776
theorem MsFew.of_sz {m:Ms} (h:m.sz≤1099511627776):MsFew m:=by
 unfold Ms.sz Sn.sz at h;have a1:=Z9 St.sz m.statuses.l 14 St.sz_ge;have a2:=Z9 De.sz m.entries.l 4 De.sz_ge;have a3:=Z9 szS m.snapshot.chunks.l 1 zeV;have a4:=Z9 Sg.sz m.snapshot.proof.l 7 Sg.sz_ge;have a5:=Z9 Ho.sz m.snapshot.chain.l 6 Ho.sz_ge;have a6:=Z9 szS m.texts.l 1 zeV;have a7:=tot_strs m.texts.l;refine⟨by omega,fun x hx=> ?_,by omega,fun x hx=> ?_,by omega,by omega,by omega,fun x hx=> ?_,by omega,by omega⟩
 · have b1:=Zb St.sz _ x hx;have b2:=Z9 Sg.sz x.cert.l 7 Sg.sz_ge;have:sum Sg.sz x.cert.l≤x.sz:=by unfold St.sz;omega
   omega
 · have b1:=Zb De.sz _ x hx;have b2:=Z9 Sg.sz x.cert.l 7 Sg.sz_ge;have:sum Sg.sz x.cert.l≤x.sz:=by unfold De.sz;omega
   omega
 · have b1:=Zb Ho.sz _ x hx;have b2:=Z9 Sg.sz x.entry.cert.l 7 Sg.sz_ge;have:sum Sg.sz x.entry.cert.l≤x.sz:=by unfold Ho.sz De.sz;omega
   omega
theorem zbt (m:Ms):(Tryz.prog.info? 38).map (·.size)=some (msC m).length:=(by kernel_rfl:(Tryz.prog.info? 38).map (·.size)=some 21)
theorem valid_kind (m:Ms) (w:World) (h:m.kind<1∨12<m.kind):Calls Tryz.prog 61 #[.agg (msC m).toArray] w (Zw (vMs m) w):=by
 have HV:=hD (vMs_kind h);have HK:Hid (∀w1,Calls Tryz.prog 95 #[.int .i64 m.kind] w1 fun e w'=>e= .returned (.tuple #[.string ⟨#[]⟩, .int .i64 0])∧w1=w'):=
  hD (fun w1=>(kind_any m.kind w1).mono fun e w' ⟨he,hw⟩=>⟨by rw [he,(kw_none _ h).1,(kw_none _ h).2];rfl,hw⟩)
 have c0:(w.alloc (.cells (msC m).toArray 38)).cell? ⟨w.heap.size,0,none⟩=some (.int .i64 m.kind):=ze (Zk w (msC m) 38) 0 _ rfl;clear h;go_in;go_wp2_with fail;refine(HK.out _).mono ?_;rintro e w1 ⟨rfl,rfl⟩;go_wp2_with fail;go_ret;exact yz HV.out (za _ _)
theorem valid_in (m:Ms) (w:World) (h:¬(m.kind<1∨12<m.kind)) (hok:m.ok w) (hf:MsFew m):Calls Tryz.prog 61 #[.agg (msC m).toArray] w (Zw (vMs m) w):=by
 have HV7:=hD (vMs_part h);have HV1:=hD (vMs_spare h);have HVT:=hD (vMs_tail h);obtain⟨pn,hpn⟩:∃pn,pn=zeq (YT m) 9:=⟨_,rfl⟩;obtain⟨kf,hkf⟩:∃kf,kf=kwF m.kind:=⟨_,rfl⟩;obtain⟨ks,hks⟩:∃ks,ks=kwS m.kind:=⟨_,rfl⟩;have HSP:Hid ((bits BinOp.andNot IntKind.i64 (pn:Int) (kf:Int) != 0)=ZU m):=hD (by rw [hpn,hkf];exact spare_val m h);have HN:=hD (fun n w'=>ZP n w');have HK:Hid (∀w1,Calls Tryz.prog 95 #[.int .i64 m.kind] w1 fun e w'=>e= .returned (.tuple #[.string ⟨ks.toArray⟩, .int .i64 (kf:Int)])∧w1=w'):=hD (fun w1=>(kind_any m.kind w1).mono fun e w' ⟨he,hw⟩=>⟨by rw [he,hks,hkf],hw⟩);have hn:ks.isEmpty=false:=by have:=kwS_ne h;rw [hks];simpa using this
 have HPN:=hD hpn;clear hpn hkf hks;have HOK:=hD hok;have HF:=hD hf;clear h hok hf;go_in;go_upto_region 1 with fail;obtain⟨wb,hwb⟩:∃wb,wb=w.alloc (.cells (msC m).toArray 38):=⟨_,rfl⟩;rw [←hwb];have HB0:Hid (Bx w (msC m) 38 wb):=hD (by rw [hwb];exact Zk w (msC m) 38);clear hwb;have HRow:Hid (wb.rangeAt w.heap.size 0 (msC m)):=hD (fun j v hv=>by rw [Nat.zero_add];exact ze HB0.out j v hv);have HG:Hid (∀W,Bx w (msC m) 38 W→∀j v,(msC m)[j]? =some v→W.cell? ⟨w.heap.size,j,none⟩=some v):=hD (fun W hb j v hv=>ze hb j v hv);have c0:wb.cell? ⟨w.heap.size,0,none⟩=some (.int .i64 m.kind):=HG.out wb HB0.out 0 _ rfl;have c1:wb.cell? ⟨w.heap.size,1,none⟩=some (.int .i64 m.src):=HG.out wb HB0.out 1 _ rfl;have c2:wb.cell? ⟨w.heap.size,2,none⟩=some (.int .i64 m.dst):=HG.out wb HB0.out 2 _ rfl;have c3:wb.cell? ⟨w.heap.size,3,none⟩=some (.int .i64 m.view):=HG.out wb HB0.out 3 _ rfl;have c4:wb.cell? ⟨w.heap.size,4,none⟩=some (.int .i64 m.slot):=HG.out wb HB0.out 4 _ rfl;have c6:wb.cell? ⟨w.heap.size,6,none⟩=some (.int .i64 m.till):=HG.out wb HB0.out 6 _ rfl;go_wp2_with fail;refine(HK.out _).mono ?_;rintro e w1 ⟨rfl,rfl⟩;go_upto_region 4 with fail;go_cut [56] from 22 to 56 (fun t wx=>t= .bool (zbc m)∧wb=wx)
 case first=>
  go_wp2_with (go_at_call 96;refine(HN.out _ _).mono ?_;rintro e w' ⟨rfl,rfl⟩);all_goals
   go_meet
   case rel=>exact⟨by first
    |exact congrArg Value.bool (zff m je je)
    |exact congrArg Value.bool (partB_lt m ja).symm
    |exact congrArg Value.bool (zfp m je).symm
    |exact congrArg Value.bool (zfA m je).symm,rfl⟩
 case rest=>
  obtain⟨rfl,rfl⟩:=hcut;cases hp:zbc m with
  |true=>exact fo149
  |false=>
   have HVT2:=hD (HVT.out hp);have HV12:=hD (HV1.out hp);clear hp c0 c1 c2 c3 c4 c6;have HPr:Hid (Calls Tryz.prog 97 #[.agg (msC m).toArray] wb (RetInt (pn:Int) wb)):=hD (by rw [HPN.out];exact present_any m wb HF.out.chunks HF.out.proof HF.out.chain);go_upto_region 6 with fail;go_cut [72] from 57 to 72 (fun t wx=>t= .bool (ZU m || oneB m)∧Bx w (msC m) 38 wx)
   case first=>
    go_wp2_with (refine wpList_load_mid rfl 38 _ rfl _ 0 rfl (msC m) _ HRow.out Tryz.underlying38 rfl (zbt m) ?_);refine HPr.out.mono ?_;rintro e w2 ⟨rfl,b2⟩;have hb2:=zau HB0.out b2;have HB2:=hD hb2;have d0:w2.cell? ⟨w.heap.size,0,none⟩=some (.int .i64 m.kind):=HG.out w2 HB2.out 0 _ rfl;have d13:w2.cell? ⟨w.heap.size,13,none⟩=some (.slice m.statuses.a m.statuses.l.length m.statuses.c):=HG.out w2 HB2.out 13 _ rfl;clear hb2 b2;cases hsp:ZU m with
    |true=>
     have hs:=HSP.out.trans hsp;have HSp:=hD hsp;clear hsp;go_wp2_with fail;go_meet
     case rel=>exact⟨congrArg Value.bool (by rw [HSp.out,Bool.true_or]),HB2.out⟩
    |false=>
     have hs:=HSP.out.trans hsp;have HSp:=hD hsp;clear hsp;by_cases hk2:m.kind=2
     · have hk3:(m.kind == 2)=true:=by simp [hk2]
       have HO:Hid (((m.statuses.l.length:Int) != 1)=oneB m):=hD (by
        unfold oneB;rw [decide_eq_true hk2,Bool.eq_iff_iff];simp;omega)
       have HK2:=hD hk2;clear hk2;go_wp2_with fail;go_meet
       case rel=>exact⟨congrArg Value.bool (by rw [HSp.out,Bool.false_or,HO.out]),HB2.out⟩
     · have hk3:(m.kind == 2)=false:=by simp [hk2]
       have HO:Hid (oneB m=false):=hD (by unfold oneB;rw [decide_eq_false hk2];rfl);go_wp2_with fail;go_meet
       case rel=>exact⟨congrArg Value.bool (by rw [HSp.out,HO.out,Bool.false_or]),HB2.out⟩
   case rest=>
    obtain⟨rfl,hbx⟩:=hcut;have HB2:=hD hbx;clear hbx HSP HPr;cases hs:(ZU m || oneB m) with
    |true=>
     have HV:=hD (HV12.out (by simpa using hs));clear hs;go_wp2_with fail;go_ret;exact yz HV.out (zu HB2.out)
    |false=>
     have hs2:ZU m=false∧oneB m=false:=by simpa using hs
     have HV:=hD (HVT2.out hs2.1 hs2.2);clear hs hs2 HV12 HV7 HV1 HVT HVT2 hn;rename_i wc;have HMk:=hD (HG.out wc HB2.out);go_upto_region 10 with fail;obtain⟨wk,hwk⟩:∃wk,wk=wc.alloc (.cells #[.bool false, .bool false] 136):=⟨_,rfl⟩;rw [←hwk];obtain⟨g,hg⟩:∃g,g=wc.heap.size:=⟨_,rfl⟩;rw [←hg];have hgs:w.heap.size+1≤g:=by rw [hg];exact ZN HB2.out
     have HCk:Hid (Ck wk g false false):=hD (by rw [hwk,hg];exact Ck.new _ _ _ _);have HBk:Hid (Bx w (msC m) 38 wk):=hD (by rw [hwk];exact yh HB2.out _);have hwks:w.heap.size<wk.heap.size:=by have:=ZN HBk.out;omega
     have HBel:=hD (zu HBk.out);clear hwk hg HB2;have HRSt:Hid (RdN g wk 12 m.statuses.a m.statuses.l.length (m.statuses.l.flatMap stC)):=hD (Rd.apart HOK.out.2.2.1.1 HBel.out ja);have HISt:Hid (∀x∈m.statuses.l,RdN g wk 6 x.cert.a x.cert.l.length (x.cert.l.flatMap sgC)∧x.cert.l.length≤1099511627776):=hD (fun x hx=>⟨Rd.apart (HOK.out.2.2.1.2 x hx).2.1 HBel.out ja,HF.out.certs x hx⟩);have HRDe:Hid (RdN g wk 3 m.entries.a m.entries.l.length (m.entries.l.flatMap deC)):=hD (Rd.apart HOK.out.2.2.2.1.1 HBel.out ja);have HIDe:Hid (∀x∈m.entries.l,RdN g wk 6 x.cert.a x.cert.l.length (x.cert.l.flatMap sgC)∧x.cert.l.length≤1099511627776):=hD (fun x hx=>⟨Rd.apart (HOK.out.2.2.2.1.2 x hx).2.1 HBel.out ja,HF.out.ecerts x hx⟩);have HSn:Hid (∀o t W,CkTo wk g o t W→Calls Tryz.prog 101 #[.pointer (some ⟨g,0,none⟩), .agg #[.int .i64 m.snapshot.slot, .string ⟨m.snapshot.root.toArray⟩, .slice m.snapshot.chunks.a m.snapshot.chunks.l.length m.snapshot.chunks.c, .slice m.snapshot.proof.a m.snapshot.proof.l.length m.snapshot.proof.c, .slice m.snapshot.chain.a m.snapshot.chain.l.length m.snapshot.chain.c]] W (zdc wk g (o || !zbP m.snapshot) (t || !zbW m.snapshot))):=
      hD (fun o t W hc=>(zfb g o t m.snapshot W hc.2 ((Rd.apart HOK.out.2.2.2.2.1.2.2.1.1 HBel.out ja).kept hc.1) HF.out.proof ((Rd.apart HOK.out.2.2.2.2.1.2.2.2.1 HBel.out ja).kept hc.1) HF.out.chain
       (fun h hh=>⟨(Rd.apart (HOK.out.2.2.2.2.1.2.2.2.2 h hh).2.2.1 HBel.out ja).kept hc.1,HF.out.hcerts h hh⟩)).mono fun e w' ⟨he,hq⟩=>⟨he,hc.trans hq⟩)
     have HCell:Hid (∀o t W,CkTo wk g o t W→∀j v,(msC m)[j]? =some v→W.cell? ⟨w.heap.size,j,none⟩=some v):=hD (fun o t W hc j v hv=>box_kept hc.1 hwks ja j (ze HBk.out j v hv));have HTx:Hid (Rd wk 1 m.texts.a m.texts.l.length (m.texts.l.flatMap strV)):=hD (Sl.rd_below HOK.out.2.2.2.2.2 HBel.out);have HTot:=hD (zcK m.texts.l);have HTg:=hD (tot_get m.texts.l);have htt:=HF.out.tot;have htl:=HF.out.texts;have hsl:=HF.out.statuses;have hel:=HF.out.entries;have c20:wk.cell? ⟨w.heap.size,20,none⟩=some (.slice m.texts.a m.texts.l.length m.texts.c):=HG.out wk HBk.out 20 _ rfl;go_wp2_with fail;go_loop [6,76] (fun s i=>∃k:Nat,i= .int .i64 k∧k≤m.texts.l.length∧s= .int .i64 (tot (m.texts.l.take k):Nat)) (fun _ i=>m.texts.l.length-(intOf i).toNat)
     case atStart=>exact⟨0,rfl,by omega,by simp [tot]⟩
     case round=>
      obtain⟨k,rfl,hk,rfl⟩:=hrel;by_cases hlt:k<m.texts.l.length
      · have i0':(0:Int)≤(k:Int):=by omega
        have i1:(k:Int) <(m.texts.l.length:Int):=by omega
        obtain⟨b,off,hxa,hg2,hcc⟩:=HTx.out.at (fun _=>rfl) ja hlt;have HXA:=hD hxa;have hrun:Sem.run Tryz.prog (Instr.indexAt 32 (.slice m.texts.a m.texts.l.length m.texts.c) (.int .i64 k)) wk= .ok (Value.pointer (some ⟨b,off+k,none⟩)) wk:=by
         rw [HXA.out];go_simp
        clear hxa;have a0:wk.cell? ⟨b,off+k,none⟩=some (.string ⟨(m.texts.l[k]).toArray⟩):=by simpa using hcc wk (Below.refl _ _) 0 _ rfl
        exact fo66
      · obtain rfl:k=m.texts.l.length:=by omega
        have HTk:Hid (tot (m.texts.l.take m.texts.l.length)=tot m.texts.l):=hD (by rw [List.take_length]);rw [HTk.out];clear hlt hk;have k0:=HCk.out.c0;have k1:=HCk.out.c1;have k2:=HCk.out.f0;have k3:=HCk.out.f1;have c5:wk.cell? ⟨w.heap.size,5,none⟩=some (.string ⟨m.value.toArray⟩):=HG.out wk HBk.out 5 _ rfl;have c13:wk.cell? ⟨w.heap.size,13,none⟩=some (.slice m.statuses.a m.statuses.l.length m.statuses.c):=HG.out wk HBk.out 13 _ rfl;have c14:wk.cell? ⟨w.heap.size,14,none⟩=some (.slice m.entries.a m.entries.l.length m.entries.c):=HG.out wk HBk.out 14 _ rfl;go_upto_region 15 with fail;go_cut [] from 85 to 111 (fun wx=>CkTo wk g false (!(zaF m && decide (tot m.texts.l≤60000))) wx)
        case first=>
         go_wp2_with fail;all_goals
          go_meet
          case rel=>exact((CkTo.refl HCk.out).set1 _).eq rfl (by first|exact head_last m|exact head_true m ja)
        case rest=>
         have HC1:=hD hcut;clear hcut k0 k1 k2 k3 c5 c13 c14 c20;obtain⟨w3,hw3⟩:∃w3:World,w3=wc:=⟨_,rfl⟩;subst hw3;obtain⟨t1,ht1⟩:∃q,q=(!(zaF m && decide (tot m.texts.l≤60000))):=⟨_,rfl⟩;have HT1:=hD ht1;rw [←ht1] at HC1;clear ht1;have c7:w3.cell? ⟨w.heap.size,7,none⟩=some (.int .i64 m.signed.server):=HCell.out _ _ w3 HC1.out 7 _ rfl;have c8:w3.cell? ⟨w.heap.size,8,none⟩=some (.int .i64 m.signed.kind):=HCell.out _ _ w3 HC1.out 8 _ rfl;have c9:w3.cell? ⟨w.heap.size,9,none⟩=some (.int .i64 m.signed.view):=HCell.out _ _ w3 HC1.out 9 _ rfl;have c10:w3.cell? ⟨w.heap.size,10,none⟩=some (.int .i64 m.signed.slot):=HCell.out _ _ w3 HC1.out 10 _ rfl;have c11:w3.cell? ⟨w.heap.size,11,none⟩=some (.string ⟨m.signed.digest.toArray⟩):=HCell.out _ _ w3 HC1.out 11 _ rfl;have c12:w3.cell? ⟨w.heap.size,12,none⟩=some (.string ⟨m.signed.sig.toArray⟩):=HCell.out _ _ w3 HC1.out 12 _ rfl;have HO1:Hid (∀h,w3.heap.size=h→Calls Tryz.prog 98 #[.pointer (some ⟨g,0,none⟩), .slice (some ⟨h,0,none⟩) 1 1] (w3.alloc (.cells #[.int .i64 m.signed.server, .int .i64 m.signed.kind, .int .i64 m.signed.view, .int .i64 m.signed.slot, .string ⟨m.signed.digest.toArray⟩, .string ⟨m.signed.sig.toArray⟩] 29)) (zdc wk g false (t1 || !zR m.signed))):=
          hD (fun h hh=>(zfP g _ _ m.signed w3 HC1.out.2 hh).mono fun e w' ⟨he,hq⟩=>⟨he,HC1.out.trans hq⟩)
         go_wp2_with fail;refine(HO1.out _ rfl).mono ?_;rintro e w4 ⟨rfl,b4⟩;have HC2:=hD b4;clear b4 c7 c8 c9 c10 c11 c12;obtain⟨t2,ht2⟩:∃q,q=(t1 || !zR m.signed):=⟨_,rfl⟩;have HT2:=hD ht2;rw [←ht2] at HC2;clear ht2;have c13:w4.cell? ⟨w.heap.size,13,none⟩=some (.slice m.statuses.a m.statuses.l.length m.statuses.c):=HCell.out _ _ w4 HC2.out 13 _ rfl;go_wp2_with fail;go_loopw [119] (fun i wr=>∃k:Nat,i= .int .i64 k∧k≤m.statuses.l.length∧CkTo wk g (false || !(m.statuses.l.take k).all yB) (t2 || !(m.statuses.l.take k).all yH) wr) (fun i _=>m.statuses.l.length-(intOf i).toNat)
         case atStart=>exact⟨0,rfl,by omega,by simpa using HC2.out⟩
         case round=>
          obtain⟨k,rfl,hk,hb⟩:=hrel;have HB:=hD hb;clear hb;by_cases hlt:k<m.statuses.l.length
          · have i0':(0:Int)≤(k:Int):=by omega
            have i1:(k:Int) <(m.statuses.l.length:Int):=by omega
            obtain⟨b,off,hxa,hg2,hne,hcc⟩:=HRSt.out.at (fun _=>rfl) ja hlt;have HXA:=hD hxa;have hrun:Sem.run Tryz.prog (Instr.indexAt 30 (.slice m.statuses.a m.statuses.l.length m.statuses.c) (.int .i64 k)) wr= .ok (Value.pointer (some ⟨b,off+k * 12,none⟩)) wr:=by
             rw [HXA.out];go_simp
            clear hxa;obtain⟨x,hx⟩:∃x,x=m.statuses.l[k]:=⟨_,rfl⟩;have HX:=hD hx.symm;have HM:=hD (hx▸List.getElem_mem hlt:x∈m.statuses.l);clear hx;have a0:wr.cell? ⟨b,off+k * 12,none⟩=some (.int .i64 x.server):=by simpa using hcc wr HB.out.1 0 _ jb
            have a1:wr.cell? ⟨b,off+k * 12+1,none⟩=some (.int .i64 x.view):=hcc wr HB.out.1 1 _ jb;have a2:wr.cell? ⟨b,off+k * 12+2,none⟩=some (.int .i64 x.length):=hcc wr HB.out.1 2 _ jb;have a3:wr.cell? ⟨b,off+k * 12+3,none⟩=some (.int .i64 x.lockView):=hcc wr HB.out.1 3 _ jb;have a4:wr.cell? ⟨b,off+k * 12+4,none⟩=some (.string ⟨x.lock.toArray⟩):=hcc wr HB.out.1 4 _ jb;have a5:wr.cell? ⟨b,off+k * 12+5,none⟩=some (.slice x.cert.a x.cert.l.length x.cert.c):=hcc wr HB.out.1 5 _ jb;have a6:wr.cell? ⟨b,off+k * 12+6,none⟩=some (.int .i64 x.signed.server):=hcc wr HB.out.1 6 _ jb;have a7:wr.cell? ⟨b,off+k * 12+7,none⟩=some (.int .i64 x.signed.kind):=hcc wr HB.out.1 7 _ jb;have a8:wr.cell? ⟨b,off+k * 12+8,none⟩=some (.int .i64 x.signed.view):=hcc wr HB.out.1 8 _ jb;have a9:wr.cell? ⟨b,off+k * 12+9,none⟩=some (.int .i64 x.signed.slot):=hcc wr HB.out.1 9 _ jb;have a10:wr.cell? ⟨b,off+k * 12+10,none⟩=some (.string ⟨x.signed.digest.toArray⟩):=hcc wr HB.out.1 10 _ jb;have a11:wr.cell? ⟨b,off+k * 12+11,none⟩=some (.string ⟨x.signed.sig.toArray⟩):=hcc wr HB.out.1 11 _ jb;have HT:=hD (Zr m.statuses.l yB k hlt);have HU:=hD (Zr m.statuses.l yH k hlt);have HW:Hid (Calls Tryz.prog 99 #[.pointer (some ⟨g,0,none⟩), .agg #[.int .i64 x.server, .int .i64 x.view, .int .i64 x.length, .int .i64 x.lockView, .string ⟨x.lock.toArray⟩, .slice x.cert.a x.cert.l.length x.cert.c, .int .i64 x.signed.server, .int .i64 x.signed.kind, .int .i64 x.signed.view, .int .i64 x.signed.slot, .string ⟨x.signed.digest.toArray⟩, .string ⟨x.signed.sig.toArray⟩]] (wr.alloc (.cells #[.int .i64 x.server, .int .i64 x.view, .int .i64 x.length, .int .i64 x.lockView, .string ⟨x.lock.toArray⟩, .slice x.cert.a x.cert.l.length x.cert.c, .int .i64 x.signed.server, .int .i64 x.signed.kind, .int .i64 x.signed.view, .int .i64 x.signed.slot, .string ⟨x.signed.digest.toArray⟩, .string ⟨x.signed.sig.toArray⟩] 97)) (zdc wk g (false || !(m.statuses.l.take (k+1)).all yB) (t2 || !(m.statuses.l.take (k+1)).all yH))):=
             hD (by
              have hc:=HB.out.alloc (.cells #[.int .i64 x.server, .int .i64 x.view, .int .i64 x.length, .int .i64 x.lockView, .string ⟨x.lock.toArray⟩, .slice x.cert.a x.cert.l.length x.cert.c, .int .i64 x.signed.server, .int .i64 x.signed.kind, .int .i64 x.signed.view, .int .i64 x.signed.slot, .string ⟨x.signed.digest.toArray⟩, .string ⟨x.signed.sig.toArray⟩] 97);refine(statusCk_any g _ _ x _ hc.2 ((HISt.out x HM.out).1.kept hc.1) (HISt.out x HM.out).2).mono fun e w' ⟨he,h⟩=>⟨he,(hc.trans h).eq ?_ ?_⟩
              · rw [HT.out,HX.out];cases false <;> cases(m.statuses.l.take k).all yB <;> cases yB x <;> rfl
              · rw [HU.out,HX.out];cases t2 <;> cases(m.statuses.l.take k).all yH <;> cases yH x <;> rfl)
            exact fo64
          · obtain rfl:k=m.statuses.l.length:=by omega
            have HNSt:Hid (CkTo wk g (false || !m.statuses.l.all yB) (t2 || !m.statuses.l.all yH) wr):=hD (by simpa using HB.out);clear HB hlt hk;obtain⟨t3,ht3⟩:∃q,q=(t2 || !m.statuses.l.all yH):=⟨_,rfl⟩;obtain⟨o3,ho3⟩:∃q,q=(false || !m.statuses.l.all yB):=⟨_,rfl⟩;have HT3:=hD ht3;have HO3:=hD ho3;rw [←ht3,←ho3] at HNSt;clear ht3 ho3;obtain⟨w5,hw5⟩:∃w5:World,w5=wr:=⟨_,rfl⟩;subst hw5;have c14:w5.cell? ⟨w.heap.size,14,none⟩=some (.slice m.entries.a m.entries.l.length m.entries.c):=HCell.out _ _ w5 HNSt.out 14 _ rfl;go_wp2_with fail;go_loopw [129] (fun i wr=>∃k:Nat,i= .int .i64 k∧k≤m.entries.l.length∧CkTo wk g (o3 || !(m.entries.l.take k).all (fun d=>num d.view)) (t3 || !(m.entries.l.take k).all zP) wr) (fun i _=>m.entries.l.length-(intOf i).toNat)
            case atStart=>exact⟨0,rfl,by omega,by simpa using HNSt.out⟩
            case round=>
             obtain⟨k,rfl,hk,hb⟩:=hrel;have HB:=hD hb;clear hb;by_cases hlt:k<m.entries.l.length
             · have i0':(0:Int)≤(k:Int):=by omega
               have i1:(k:Int) <(m.entries.l.length:Int):=by omega
               obtain⟨b,off,hxa,hg2,hne,hcc⟩:=HRDe.out.at (fun _=>rfl) ja hlt;have HXA:=hD hxa;have hrun:Sem.run Tryz.prog (Instr.indexAt 31 (.slice m.entries.a m.entries.l.length m.entries.c) (.int .i64 k)) wr= .ok (Value.pointer (some ⟨b,off+k * 3,none⟩)) wr:=by
                rw [HXA.out];go_simp
               clear hxa;obtain⟨x,hx⟩:∃x,x=m.entries.l[k]:=⟨_,rfl⟩;have HX:=hD hx.symm;have HM:=hD (hx▸List.getElem_mem hlt:x∈m.entries.l);clear hx;have a0:wr.cell? ⟨b,off+k * 3,none⟩=some (.int .i64 x.view):=by simpa using hcc wr HB.out.1 0 _ jb
               have a1:wr.cell? ⟨b,off+k * 3+1,none⟩=some (.string ⟨x.value.toArray⟩):=hcc wr HB.out.1 1 _ jb;have a2:wr.cell? ⟨b,off+k * 3+2,none⟩=some (.slice x.cert.a x.cert.l.length x.cert.c):=hcc wr HB.out.1 2 _ jb;have HT:=hD (Zr m.entries.l (fun d=>num d.view) k hlt);have HU:=hD (Zr m.entries.l zP k hlt);have HW:Hid (Calls Tryz.prog 100 #[.pointer (some ⟨g,0,none⟩), .agg #[.int .i64 x.view, .string ⟨x.value.toArray⟩, .slice x.cert.a x.cert.l.length x.cert.c]] (wr.alloc (.cells #[.int .i64 x.view, .string ⟨x.value.toArray⟩, .slice x.cert.a x.cert.l.length x.cert.c] 100)) (zdc wk g (o3 || !(m.entries.l.take (k+1)).all (fun d=>num d.view)) (t3 || !(m.entries.l.take (k+1)).all zP))):=
                hD (by
                 have hc:=HB.out.alloc (.cells #[.int .i64 x.view, .string ⟨x.value.toArray⟩, .slice x.cert.a x.cert.l.length x.cert.c] 100);refine(zdV g _ _ x _ hc.2 ((HIDe.out x HM.out).1.kept hc.1) (HIDe.out x HM.out).2).mono fun e w' ⟨he,h⟩=>⟨he,(hc.trans h).eq ?_ ?_⟩
                 · rw [HT.out,HX.out];cases o3 <;> cases(m.entries.l.take k).all (fun d=>num d.view) <;> cases num x.view <;> rfl
                 · rw [HU.out,HX.out];cases t3 <;> cases(m.entries.l.take k).all zP <;> cases zP x <;> rfl)
               exact fo64
             · obtain rfl:k=m.entries.l.length:=by omega
               have HNDe:Hid (CkTo wk g (o3 || !m.entries.l.all (fun d=>num d.view)) (t3 || !m.entries.l.all zP) wr):=hD (by simpa using HB.out);clear HB hlt hk;obtain⟨t4,ht4⟩:∃q,q=(t3 || !m.entries.l.all zP):=⟨_,rfl⟩;obtain⟨o4,ho4⟩:∃q,q=(o3 || !m.entries.l.all (fun d=>num d.view)):=⟨_,rfl⟩;have HT4:=hD ht4;have HO4:=hD ho4;rw [←ht4,←ho4] at HNDe;clear ht4 ho4;have c15:wr.cell? ⟨w.heap.size,15,none⟩=some (.int .i64 m.snapshot.slot):=HCell.out _ _ wr HNDe.out 15 _ rfl;have c16:wr.cell? ⟨w.heap.size,16,none⟩=some (.string ⟨m.snapshot.root.toArray⟩):=HCell.out _ _ wr HNDe.out 16 _ rfl;have c17:wr.cell? ⟨w.heap.size,17,none⟩=some (.slice m.snapshot.chunks.a m.snapshot.chunks.l.length m.snapshot.chunks.c):=HCell.out _ _ wr HNDe.out 17 _ rfl;have c18:wr.cell? ⟨w.heap.size,18,none⟩=some (.slice m.snapshot.proof.a m.snapshot.proof.l.length m.snapshot.proof.c):=HCell.out _ _ wr HNDe.out 18 _ rfl;have c19:wr.cell? ⟨w.heap.size,19,none⟩=some (.slice m.snapshot.chain.a m.snapshot.chain.l.length m.snapshot.chain.c):=HCell.out _ _ wr HNDe.out 19 _ rfl;go_wp2_with fail;refine(HSn.out _ _ _ HNDe.out).mono ?_;rintro e w6 ⟨rfl,b6⟩;have HC6:=hD b6;clear b6 c15 c16 c17 c18 c19;obtain⟨t5,ht5⟩:∃q,q=(t4 || !zbW m.snapshot):=⟨_,rfl⟩;obtain⟨o5,ho5⟩:∃q,q=(o4 || !zbP m.snapshot):=⟨_,rfl⟩;have HR5:Hid (o5= !Zu m):=hD (by rw [ho5,HO4.out,HO3.out];exact ranges_val m);have HL5:Hid (t5= !yC m):=hD (by rw [ht5,HT4.out,HT3.out,HT2.out,HT1.out];exact lengths_val m);rw [←ht5,←ho5] at HC6;clear ht5 ho5;have HLow:Hid (Below w.heap.size w w6):=hD (below_grown HBel.out ja HC6.out.1 (fun b hb=>by simp at hb;omega));have HE6:=hD (eCk_any g o5 t5 w6 HC6.out.2);have c17:w6.cell? ⟨w.heap.size,17,none⟩=some (.slice m.snapshot.chunks.a m.snapshot.chunks.l.length m.snapshot.chunks.c):=HCell.out _ _ w6 HC6.out 17 _ rfl;have HVt:Hid (vMs m=vTail m):=HV;cases o5 with
               |true=>
                have HZ:Hid (vMs m=7):=hD (by rw [HVt.out];unfold vTail;rw [if_pos (by simpa using HR5.out.symm)]);exact fo94
               |false=>
                cases t5 with
                |true=>
                 have HZ:Hid (vMs m=3):=hD (by rw [HVt.out];unfold vTail;rw [if_neg (by have:=HR5.out;simp at this;simp [this]),if_pos (by simpa using HL5.out.symm)]);exact fo94
                |false=>
                 have HZ:Hid (vMs m=if 0<m.snapshot.chunks.l.length then 1 else 0):=hD (by rw [HVt.out];unfold vTail;rw [if_neg (by have:=HR5.out;simp at this;simp [this]),if_neg (by have:=HL5.out;simp at this;simp [this])]);by_cases hch:0<m.snapshot.chunks.l.length
                 · have HZ1:Hid (vMs m=1):=hD (by rw [HZ.out,if_pos hch]);exact fo87
                 · have HZ1:Hid (vMs m=0):=hD (by rw [HZ.out,if_neg hch]);exact fo87
end Go.Proofs.YtepbbaifpckcpaaGreatDoor
