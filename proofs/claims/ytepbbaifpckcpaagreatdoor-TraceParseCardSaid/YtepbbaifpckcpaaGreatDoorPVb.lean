/- Two signatures against each other. -/
import Derived.Shelf.SlicesQ.Contains
import Derived.Test.YtepbbaifpckcpaaGreatDoorPVa
open Go.Proofs.Tryz
namespace Go.Proofs.YtepbbaifpckcpaaGreatDoor
set_option maxHeartbeats 16000000
open Go.RowKit Go.Shelf Go.Lib
theorem run_sg(x y:Sg)(w:World):(Op.equalIn 10000 29 (.agg x) (.agg y)).run prog w= .ok (decide (x=y)) w:=by
 have u3:=underlying3;have i3:=isAgg3;have z3:=sizeOf3;have u9:=underlying9;have a9:=isAgg9;have z9:=sizeOf9;have hp:prog.stoodInHeld 29=false:=by kernel_rfl
 rw[show(10000:Nat)=9999+1 from rfl,run_equalIn_agg w 9999 29 _ _ jb hp];simp only[Program.fieldsOf,underlying29];go_simp;obtain⟨a1,a2,a3,a4,a5,a6⟩:=x;obtain⟨b1,b2,b3,b4,b5,b6⟩:=y;by_cases h1:a1=b1 <;> by_cases h2:a2=b2 <;> by_cases h3:a3=b3 <;> by_cases h4:a4=b4 <;> by_cases h5:a5=b5 <;> by_cases h6:a6=b6 <;> simp[h1,h2,h3,h4,h5,h6]
theorem run_ne_sg(x:Sg)(w:World):(binOp .neq 29 (.agg x) (.agg #[(),(),(),(),"",""])).run prog w= .ok (.bool (!sgZero x)) w:=by
 rw[run_neq_struct];have h:=run_sg x ⟨0,0,0,0,[],[]⟩ w;rw[show(#[(),(),(),(),"",""]:Array Value)=#[.int .i64 (⟨0,0,0,0,[],[]⟩:Sg).server,.int .i64 (⟨0,0,0,0,[],[]⟩:Sg).kind,.int .i64 (⟨0,0,0,0,[],[]⟩:Sg).view,.int .i64 (⟨0,0,0,0,[],[]⟩:Sg).slot,.string ⟨(⟨0,0,0,0,[],[]⟩:Sg).digest.toArray⟩,.string ⟨(⟨0,0,0,0,[],[]⟩:Sg).sig.toArray⟩] from rfl,h];rfl
end Go.Proofs.YtepbbaifpckcpaaGreatDoor
namespace Go.Proofs.YtepbbaifpckcpaaGreatDoor
set_option maxRecDepth 100000
set_option maxHeartbeats 16000000
open Go.RowKit
def zfJ(L:List Bool):Nat→Nat
 |0=>0
 |k+1=>zfJ L k+if L.getD k false then 2 ^ k else 0
theorem presK_lt(L:List Bool):∀k,zfJ L k<2 ^ k
 |0=>by simp[zfJ]
 |k+1=>by
  have:=presK_lt L k
  rw[zfJ,dG]
  split <;> omega
theorem or_step':∀(k:Fin 9) (a:Fin 512),a.val<2 ^ k.val→bits BinOp.or IntKind.i64 (a.val:Int) (((2 ^ k.val:Nat):Int))=((a.val+2 ^ k.val:Nat):Int):=by decide +kernel
theorem or_step(a k:Nat)(ha:a<2 ^ k)(hk:k<9):bits BinOp.or IntKind.i64 (a:Int) (((2 ^ k:Nat):Int))=((a+2 ^ k:Nat):Int):=by
 have h2:2 ^ k≤2 ^ 8:=dV ja ja;exact or_step' ⟨k,hk⟩ ⟨a,by omega⟩ ha
theorem two_wrap':∀k:Fin 9,wrap64 ((2:Int) ^ k.val)=((2 ^ k.val:Nat):Int):=by decide +kernel
theorem two_wrap(k:Nat)(hk:k<9):wrap64 ((2:Int) ^ k)=((2 ^ k:Nat):Int):=two_wrap' ⟨k,hk⟩
def RetInt(n:Int)(w:World)(e:Ending)(w':World):Prop:=e= .returned (.int .i64 n)∧Below w.heap.size w w'
theorem ret_in{n m:Int}{w w':World}(h:n=m)(hb:Below w.heap.size w w'):RetInt n w (.returned (.int .i64 m)) w':=⟨by rw[h],hb⟩
def zeC(w:World)(cs:List Value)(T:TypeId)(b:Bool)(e:Ending)(w':World):Prop:=e= .returned (.bool b)∧Bx w cs T w'
theorem zf7{P:Program}{k:FuncId}{args:Array Value}{w w1:World}{cs:List Value}{T:TypeId}{b:Bool}(hb:Bx w cs T w1)(h:Calls P k args w1 (zK b w1)):Calls P k args w1 (zeC w cs T b):=
 h.mono fun _ _ ⟨he,hw⟩=>⟨he,zbv hb hw⟩
theorem present_any(m:Ms)(w:World)(h1:m.snapshot.chunks.l.length≤1099511627776)(h2:m.snapshot.proof.l.length≤1099511627776)(h3:m.snapshot.chain.l.length≤1099511627776) :
    Calls prog 97 #[.agg m] w (RetInt (zfJ (zam m) 9) w):=by
 have HE:Hid (∀(w1:World) (R:Prop),(Bx w (msC m) 38 w1∧R)→Calls prog 144 #[.agg m.snapshot] w1 (zeC w (msC m) 38 (Y3 m.snapshot))):=
  hD (fun w1 _ hb=>zf7 hb.1 (empty_any m.snapshot w1 h1 h2 h3))
 have HC:Hid (∀w1,Bx w (msC m) 38 w1→Bx w (msC m) 38 w1∧w1.cell? ⟨w.heap.size,3,none⟩=some (.int .i64 m.view)∧w1.cell? ⟨w.heap.size,4,none⟩=some (.int .i64 m.slot)∧w1.cell? ⟨w.heap.size,5,none⟩=some (.string ⟨m.value.toArray⟩)∧w1.cell? ⟨w.heap.size,6,none⟩=some (.int .i64 m.till)∧w1.cell? ⟨w.heap.size,7,none⟩=some (.int .i64 m.signed.server)∧w1.cell? ⟨w.heap.size,8,none⟩=some (.int .i64 m.signed.kind)∧w1.cell? ⟨w.heap.size,9,none⟩=some (.int .i64 m.signed.view)∧w1.cell? ⟨w.heap.size,10,none⟩=some (.int .i64 m.signed.slot)∧w1.cell? ⟨w.heap.size,11,none⟩=some (.string ⟨m.signed.digest.toArray⟩)∧w1.cell? ⟨w.heap.size,12,none⟩=some (.string ⟨m.signed.sig.toArray⟩)∧w1.cell? ⟨w.heap.size,13,none⟩=some (.slice m.statuses.a m.statuses.l.length m.statuses.c)∧w1.cell? ⟨w.heap.size,14,none⟩=some (.slice m.entries.a m.entries.l.length m.entries.c)∧w1.cell? ⟨w.heap.size,15,none⟩=some (.int .i64 m.snapshot.slot)∧w1.cell? ⟨w.heap.size,16,none⟩=some (.string ⟨m.snapshot.root.toArray⟩)∧w1.cell? ⟨w.heap.size,17,none⟩=some (.slice m.snapshot.chunks.a m.snapshot.chunks.l.length m.snapshot.chunks.c)∧w1.cell? ⟨w.heap.size,18,none⟩=some (.slice m.snapshot.proof.a m.snapshot.proof.l.length m.snapshot.proof.c)∧w1.cell? ⟨w.heap.size,19,none⟩=some (.slice m.snapshot.chain.a m.snapshot.chain.l.length m.snapshot.chain.c)∧w1.cell? ⟨w.heap.size,20,none⟩=some (.slice m.texts.a m.texts.l.length m.texts.c)):=
  hD (fun w1 hb=>⟨hb,zg hb 3 _ rfl,zg hb 4 _ rfl,zg hb 5 _ rfl,zg hb 6 _ rfl,zg hb 7 _ rfl,zg hb 8 _ rfl,zg hb 9 _ rfl,zg hb 10 _ rfl,zg hb 11 _ rfl,zg hb 12 _ rfl,zg hb 13 _ rfl,zg hb 14 _ rfl,zg hb 15 _ rfl,zg hb 16 _ rfl,zg hb 17 _ rfl,zg hb 18 _ rfl,zg hb 19 _ rfl,zg hb 20 _ rfl⟩)
 have H0:=hD (Zy w (msC m) 38);have hne:=run_ne_sg m.signed;clear h1 h2 h3;go_in;go_wp2_with fail;go_region_held3 (fun w1=>Bx w (msC m) 38 w1∧w1.cell? ⟨w.heap.size,3,none⟩=some (.int .i64 m.view)∧w1.cell? ⟨w.heap.size,4,none⟩=some (.int .i64 m.slot)∧w1.cell? ⟨w.heap.size,5,none⟩=some (.string ⟨m.value.toArray⟩)∧w1.cell? ⟨w.heap.size,6,none⟩=some (.int .i64 m.till)∧w1.cell? ⟨w.heap.size,7,none⟩=some (.int .i64 m.signed.server)∧w1.cell? ⟨w.heap.size,8,none⟩=some (.int .i64 m.signed.kind)∧w1.cell? ⟨w.heap.size,9,none⟩=some (.int .i64 m.signed.view)∧w1.cell? ⟨w.heap.size,10,none⟩=some (.int .i64 m.signed.slot)∧w1.cell? ⟨w.heap.size,11,none⟩=some (.string ⟨m.signed.digest.toArray⟩)∧w1.cell? ⟨w.heap.size,12,none⟩=some (.string ⟨m.signed.sig.toArray⟩)∧w1.cell? ⟨w.heap.size,13,none⟩=some (.slice m.statuses.a m.statuses.l.length m.statuses.c)∧w1.cell? ⟨w.heap.size,14,none⟩=some (.slice m.entries.a m.entries.l.length m.entries.c)∧w1.cell? ⟨w.heap.size,15,none⟩=some (.int .i64 m.snapshot.slot)∧w1.cell? ⟨w.heap.size,16,none⟩=some (.string ⟨m.snapshot.root.toArray⟩)∧w1.cell? ⟨w.heap.size,17,none⟩=some (.slice m.snapshot.chunks.a m.snapshot.chunks.l.length m.snapshot.chunks.c)∧w1.cell? ⟨w.heap.size,18,none⟩=some (.slice m.snapshot.proof.a m.snapshot.proof.l.length m.snapshot.proof.c)∧w1.cell? ⟨w.heap.size,19,none⟩=some (.slice m.snapshot.chain.a m.snapshot.chain.l.length m.snapshot.chain.c)∧w1.cell? ⟨w.heap.size,20,none⟩=some (.slice m.texts.a m.texts.l.length m.texts.c))
  (first|exact HC _ (yO H0)|exact HC _ (yn (‹Bx _ _ _ _∧_›).1 _)|exact HC _ ‹Bx _ _ _ _›)
  ((go_at_call 144;refine(HE _ _ je).mono ?_;rintro e w2 ⟨rfl,b2⟩))
 all_goals
  go_wp2_with fail;generalize hW:w2.alloc _=wz;have HZ:Hid (∀k,k<9→wz.cell? ⟨w2.heap.size,k,none⟩=some (.bool ((zam m).getD k false))):=hD (fun k hk=>fo114);have HWB:Hid (Below w.heap.size w wz):=hD (hW▸zC (yn b2 _));clear hW b2 hne H0 HC HE;go_loop [3,40] (fun o i=>∃k:Nat,i= .int .i64 k∧k≤9∧o= .int .i64 (zfJ (zam m) k)) (fun _ i=>9-(intOf i).toNat)
  case atStart=>exact⟨0,rfl,by omega,rfl⟩
  case round=>
   obtain⟨k,rfl,hk,rfl⟩:=hrel;by_cases hlt:k<9
   · have hcell:=HZ.out k hlt;have i0:(0:Int)≤(k:Int):=by omega
     have i1:(k:Int) <9:=by omega
     have i2:(k:Int)≤64:=by omega
     have HS:Hid (zfJ (zam m) (k+1)=zfJ (zam m) k+if(zam m).getD k false then 2 ^ k else 0):=hD rfl;have HA:=hD (presK_lt (zam m) k);generalize hb:(zam m).getD k false=b at hcell HS;cases b
     · go_wp2_with fail;go_round
       case rel=>exact⟨k+1,by go_num,by omega,by rw[HS.out];rfl⟩
       case measure=>simp[intOf];omega
     · have HT:=hD (or_step _ k HA ja);go_wp2_with fail;go_round
       case rel=>
        refine⟨k+1,by go_num,by omega,?_⟩;rw[HS.out];rw[two_wrap k hlt,HT.out,af rfl]
       case measure=>simp[intOf];omega
   · obtain rfl:k=9:=by omega
     go_wp2_with fail;go_ret;exact ret_in rfl HWB
end Go.Proofs.YtepbbaifpckcpaaGreatDoor
namespace Go.Proofs.YtepbbaifpckcpaaGreatDoor
set_option maxRecDepth 100000
set_option maxHeartbeats 16000000
open Go.RowKit
def vTail(m:Ms):Int:=if Zz m=false then 7 else if yQ m=false then 3 else if 0<m.snapshot.chunks.l.length then 1 else 0
variable{m:Ms}
theorem vMs_kind(h:m.kind<1∨12<m.kind):vMs m=1:=by unfold vMs;rw[af h]
theorem vMs_part(h:¬(m.kind<1∨12<m.kind))(hp:zbM m=true):vMs m=7:=by unfold vMs;rw[aa h,af hp]
theorem vMs_spare(h:¬(m.kind<1∨12<m.kind))(hp:zbM m=false)(hs:Z8 m=true∨oneB m=true):vMs m=1:=by
 unfold vMs;rw[aa h,aa (by simp[hp]),af hs]
theorem vMs_tail(h:¬(m.kind<1∨12<m.kind))(hp:zbM m=false)(hs:Z8 m=false)(ho:oneB m=false):vMs m=vTail m:=by
 unfold vMs;rw[aa h,aa (by simp[hp]),aa (by simp[hs,ho])];rfl
theorem spare_val':∀(b0 b1 b2 b3 b4 b5 b6 b7 b8:Bool) (k:Fin 12),(bits BinOp.andNot IntKind.i64 (zfJ [b0,b1,b2,b3,b4,b5,b6,b7,b8] 9:Nat) (kwF (k.val+1:Nat)) != 0)=([b0,b1,b2,b3,b4,b5,b6,b7,b8].zipIdx.any fun x=>x.1 && !alw (k.val+1:Nat) x.2):=by decide +kernel
theorem spare_val(m:Ms)(h:¬(m.kind<1∨12<m.kind)):(bits BinOp.andNot IntKind.i64 (zfJ (zam m) 9:Nat) (kwF m.kind) != 0)=Z8 m:=by
 obtain⟨n,hn⟩:=bA (show 0≤m.kind- 1 by omega);have h1:m.kind=((n+1:Nat):Int):=by omega
 have:=spare_val' (m.view != 0) (m.slot != 0) (m.till != 0) (!m.value.isEmpty) (!sgZero m.signed) (decide (0<m.statuses.l.length)) (decide (0<m.entries.l.length)) (!Y3 m.snapshot) (decide (0<m.texts.l.length)) ⟨n,by omega⟩;unfold Z8;rw[h1];exact this
theorem kwS_ne{k:Int}(h:¬(k<1∨12<k)):kwS k≠ []:=fo119
theorem partB_lt(m:Ms)(h:m.src<0∨12≤m.src∨m.dst<0∨18≤m.dst):zbM m=true:=by
 unfold zbM;rcases h with h|h|h|h <;> simp[h]
theorem zgz(m:Ms)(h:¬num m.view=true):zbM m=true:=by unfold zbM;simp[h]
theorem zgj(m:Ms)(h:¬num m.slot=true):zbM m=true:=by unfold zbM;simp[h]
theorem zgb(m:Ms)(h1:num m.view=true)(h2:num m.slot=true):(decide (m.src<0) || decide (12≤m.src) || decide (m.dst<0) || decide (18≤m.dst) || decide (m.till<0))=zbM m:=by
 unfold zbM;rw[h1,h2];simp
theorem head_true(m:Ms)(h:2000<m.value.length∨12<m.statuses.l.length∨8<m.entries.l.length∨500<m.texts.l.length):true= !(zbF m && decide (tot m.texts.l≤60000)):=by
 have:zbF m=false:=by
  unfold zbF;rcases h with h|h|h|h
  · rw[av (show ¬m.value.length≤2000 by omega)];rfl
  · exact fo225
  · rw[av (show ¬m.entries.l.length≤8 by omega)];simp
  · rw[av (show ¬m.texts.l.length≤500 by omega)];simp
 rw[this];rfl
theorem head_last(m:Ms):(decide ((2000:Int) <m.value.length) || decide ((12:Int) <m.statuses.l.length) || decide ((8:Int) <m.entries.l.length) || decide ((500:Int) <m.texts.l.length) || decide ((60000:Int) <(tot m.texts.l:Nat)))= !(zbF m && decide (tot m.texts.l≤60000)):=by
 rw[show(2000:Int)=((2000:Nat):Int) from rfl,show(12:Int)=((12:Nat):Int) from rfl,show(8:Int)=((8:Nat):Int) from rfl,show(500:Int)=((500:Nat):Int) from rfl,show(60000:Int)=((60000:Nat):Int) from rfl,Zo,Zo,Zo,Zo,Zo];unfold zbF;cases decide (m.value.length≤2000) <;> cases decide (m.statuses.l.length≤12) <;> cases decide (m.entries.l.length≤8) <;> cases decide (m.texts.l.length≤500) <;> cases decide (tot m.texts.l≤60000) <;> rfl
theorem ranges_val(m:Ms):(((false || !m.statuses.l.all yo) || !m.entries.l.all (fun d=>num d.view)) || !zcJ m.snapshot)= !Zz m:=by
 unfold Zz zcJ;cases m.statuses.l.all yo <;> cases m.entries.l.all (fun d=>num d.view) <;> cases m.snapshot.chain.l.all ZJ <;> cases num m.snapshot.slot <;> rfl
theorem lengths_val(m:Ms):(((((!(zbF m && decide (tot m.texts.l≤60000))) || !z8 m.signed) || !m.statuses.l.all yB) || !m.entries.l.all zS) || !zcE m.snapshot)= !yQ m:=by
 unfold yQ zcE zfL;cases zbF m <;> cases decide (tot m.texts.l≤60000) <;> cases z8 m.signed <;> cases m.statuses.l.all yB <;> cases m.entries.l.all zS <;> cases decide (m.snapshot.root.length≤64) <;> cases decide (m.snapshot.chain.l.length≤20) <;> cases zR m.snapshot.proof.l <;> cases m.snapshot.chain.l.all (fun h=>zS h.entry) <;> rfl
structure MsFew (m:Ms):Prop where
 statuses:m.statuses.l.length≤1099511627776
 certs:∀x∈m.statuses.l,x.cert.l.length≤1099511627776
 entries:m.entries.l.length≤1099511627776
 ecerts:∀x∈m.entries.l,x.cert.l.length≤1099511627776
 chunks:m.snapshot.chunks.l.length≤1099511627776
 proof:m.snapshot.proof.l.length≤1099511627776
 chain:m.snapshot.chain.l.length≤1099511627776
 hcerts:∀x∈m.snapshot.chain.l,x.entry.cert.l.length≤1099511627776
 texts:m.texts.l.length≤1099511627776
 tot:tot m.texts.l≤1099511627776
theorem MsFew.of_sz(h:m.sz≤1099511627776):MsFew m:=by
 unfold Ms.sz Sn.sz at h;have a1:=Yg St.sz m.statuses.l 14 St.sz_ge;have a2:=Yg De.sz m.entries.l 4 De.sz_ge;have a3:=Yg szS m.snapshot.chunks.l 1 zbW;have a4:=Yg Sg.sz m.snapshot.proof.l 7 Sg.sz_ge;have a5:=Yg Ho.sz m.snapshot.chain.l 6 Ho.sz_ge;have a6:=Yg szS m.texts.l 1 zbW;have a7:=tot_strs m.texts.l;refine⟨by omega,fun x hx=> ?_,by omega,fun x hx=> ?_,by omega,by omega,by omega,fun x hx=> ?_,by omega,by omega⟩
 · have b1:=Zv St.sz _ x hx;have b2:=Yg Sg.sz x.cert.l 7 Sg.sz_ge;have:sum Sg.sz x.cert.l≤x.sz:=by unfold St.sz;omega
   omega
 · have b1:=Zv De.sz _ x hx;have b2:=Yg Sg.sz x.cert.l 7 Sg.sz_ge;have:sum Sg.sz x.cert.l≤x.sz:=by unfold De.sz;omega
   omega
 · have b1:=Zv Ho.sz _ x hx;have b2:=Yg Sg.sz x.entry.cert.l 7 Sg.sz_ge;have:sum Sg.sz x.entry.cert.l≤x.sz:=by unfold Ho.sz De.sz;omega
   omega
theorem zcz(m:Ms):(prog.info? 38).map (·.size)=some (msC m).length:=(by kernel_rfl:(prog.info? 38).map (·.size)=some 21)
theorem valid_kind(m:Ms)(w:World)(h:m.kind<1∨12<m.kind):Calls prog 61 #[.agg (msC m).toArray] w (ZN (vMs m) w):=by
 have HV:=hD (vMs_kind h);have HK:Hid (∀w1,Calls prog 95 #[m.kind] w1 fun e w'=>e= .returned (.tuple #["",()])∧w1=w'):=
  hD (fun w1=>(kind_any m.kind w1).mono fun e w' ⟨he,hw⟩=>⟨by rw[he,(kw_none _ h).1,(kw_none _ h).2];rfl,hw⟩)
 have c0:(w.alloc (.cells (msC m).toArray 38)).cell? ⟨w.heap.size,0,none⟩=some (.int .i64 m.kind):=zg (Zy w (msC m) 38) 0 _ rfl;clear h;go_in;go_wp2_with fail;refine(HK _).mono ?_;rintro e w1 ⟨rfl,rfl⟩;exact fo187
theorem valid_in(m:Ms)(w:World)(h:¬(m.kind<1∨12<m.kind))(hok:m.ok w)(hf:MsFew m):Calls prog 61 #[.agg (msC m).toArray] w (ZN (vMs m) w):=by
 have HV7:=hD (vMs_part h);have HV1:=hD (vMs_spare h);have HVT:=hD (vMs_tail h);obtain⟨pn,hpn⟩:∃pn,pn=zfJ (zam m) 9:=⟨_,rfl⟩;obtain⟨kf,hkf⟩:∃kf,kf=kwF m.kind:=⟨_,rfl⟩;obtain⟨ks,hks⟩:∃ks,ks=kwS m.kind:=⟨_,rfl⟩;have HSP:Hid ((bits BinOp.andNot IntKind.i64 (pn:Int) (kf:Int) != 0)=Z8 m):=hD (by rw[hpn,hkf];exact spare_val m h);have HN:=hD (fun n w'=>Z7 n w');have HK:Hid (∀w1,Calls prog 95 #[m.kind] w1 fun e w'=>e= .returned (.tuple #[ks,.int .i64 (kf:Int)])∧w1=w'):=hD (fun w1=>(kind_any m.kind w1).mono fun e w' ⟨he,hw⟩=>⟨by rw[he,hks,hkf],hw⟩);have hn:ks.isEmpty=false:=by have:=kwS_ne h;rw[hks];simpa using this
 have HPN:=hD hpn;clear hpn hkf hks;have HOK:=hD hok;have HF:=hD hf;clear h hok hf;go_in;go_upto_region 1 with fail;obtain⟨wb,hwb⟩:∃wb,wb=w.alloc (.cells (msC m).toArray 38):=⟨_,rfl⟩;rw[←hwb];have HB0:Hid (Bx w (msC m) 38 wb):=hD (by rw[hwb];exact Zy w (msC m) 38);clear hwb;have HRow:Hid (wb.rangeAt w.heap.size 0 (msC m)):=hD (fun j v hv=>by rw[bI];exact zg HB0 j v hv);have HG:Hid (∀W,Bx w (msC m) 38 W→∀j v,(msC m)[j]? =some v→W.cell? ⟨w.heap.size,j,none⟩=some v):=hD (fun W hb j v hv=>zg hb j v hv);have c0:wb.cell? ⟨w.heap.size,0,none⟩=some (.int .i64 m.kind):=HG.out wb HB0 0 _ rfl;have c1:wb.cell? ⟨w.heap.size,1,none⟩=some (.int .i64 m.src):=HG.out wb HB0 1 _ rfl;have c2:wb.cell? ⟨w.heap.size,2,none⟩=some (.int .i64 m.dst):=HG.out wb HB0 2 _ rfl;have c3:wb.cell? ⟨w.heap.size,3,none⟩=some (.int .i64 m.view):=HG.out wb HB0 3 _ rfl;have c4:wb.cell? ⟨w.heap.size,4,none⟩=some (.int .i64 m.slot):=HG.out wb HB0 4 _ rfl;have c6:wb.cell? ⟨w.heap.size,6,none⟩=some (.int .i64 m.till):=HG.out wb HB0 6 _ rfl;go_wp2_with fail;refine(HK _).mono ?_;rintro e w1 ⟨rfl,rfl⟩;go_upto_region 4 with fail;go_cut [56] from 22 to 56 (fun t wx=>t= .bool (zbM m)∧wb=wx)
 case first=>
  go_wp2_with (go_at_call 96;refine(HN _ _).mono ?_;rintro e w' ⟨rfl,rfl⟩);all_goals
   go_meet
   case rel=>exact⟨by first
    |exact aL Value.bool (zgb m je je)
    |exact aL Value.bool (partB_lt m ja).symm
    |exact aL Value.bool (zgz m je).symm
    |exact aL Value.bool (zgj m je).symm,rfl⟩
 case rest=>
  obtain⟨rfl,rfl⟩:=hcut;cases hp:zbM m with
  |true=>exact fo189
  |false=>
   have HVT2:=hD (HVT hp);have HV12:=hD (HV1 hp);clear hp c0 c1 c2 c3 c4 c6;have HPr:Hid (Calls prog 97 #[.agg (msC m).toArray] wb (RetInt (pn:Int) wb)):=hD (by rw[HPN.out];exact present_any m wb HF.chunks HF.proof HF.chain);go_upto_region 6 with fail;go_cut [72] from 57 to 72 (fun t wx=>t= .bool (Z8 m || oneB m)∧Bx w (msC m) 38 wx)
   case first=>
    go_wp2_with (refine ak rfl 38 _ rfl _ 0 rfl (msC m) _ HRow underlying38 rfl (zcz m) ?_);refine HPr.mono ?_;rintro e w2 ⟨rfl,b2⟩;have hb2:=zbv HB0 b2;have HB2:=hD hb2;have d0:w2.cell? ⟨w.heap.size,0,none⟩=some (.int .i64 m.kind):=HG.out w2 HB2 0 _ rfl;have d13:w2.cell? ⟨w.heap.size,13,none⟩=some (.slice m.statuses.a m.statuses.l.length m.statuses.c):=HG.out w2 HB2 13 _ rfl;clear hb2 b2;cases hsp:Z8 m with
    |true=>
     have hs:=HSP.trans hsp;have HSp:=hD hsp;clear hsp;go_wp2_with fail;go_meet
     case rel=>exact⟨aL Value.bool (by rw[HSp.out,Bool.true_or]),HB2⟩
    |false=>
     have hs:=HSP.trans hsp;have HSp:=hD hsp;clear hsp;by_cases hk2:m.kind=2
     · have hk3:(m.kind == 2)=true:=by simp[hk2]
       have HO:Hid (((m.statuses.l.length:Int) != 1)=oneB m):=hD (fo219);have HK2:=hD hk2;clear hk2;go_wp2_with fail;go_meet
       case rel=>exact⟨aL Value.bool (by rw[HSp.out,fD,HO.out]),HB2⟩
     · have hk3:(m.kind == 2)=false:=by simp[hk2]
       have HO:Hid (oneB m=false):=hD (by unfold oneB;rw[av hk2];rfl);go_wp2_with fail;go_meet
       case rel=>exact⟨aL Value.bool (by rw[HSp.out,HO.out,fD]),HB2⟩
   case rest=>
    obtain⟨rfl,hbx⟩:=hcut;have HB2:=hD hbx;clear hbx HSP HPr;cases hs:(Z8 m || oneB m) with
    |true=>
     have HV:=hD (HV12 (by simpa using hs));clear hs;go_wp2_with fail;go_ret;exact Zp HV (zC HB2)
    |false=>
     have hs2:Z8 m=false∧oneB m=false:=by simpa using hs
     have HV:=hD (HVT2 hs2.1 hs2.2);clear hs hs2 HV12 HV7 HV1 HVT HVT2 hn;rename_i wc;have HMk:=hD (HG wc HB2);go_upto_region 10 with fail;obtain⟨wk,hwk⟩:∃wk,wk=wc.alloc (.cells #[false,false] 136):=⟨_,rfl⟩;rw[←hwk];obtain⟨g,hg⟩:∃g,g=wc.heap.size:=⟨_,rfl⟩;rw[←hg];have hgs:w.heap.size+1≤g:=by rw[hg];exact ZT HB2
     have HCk:Hid (Ck wk g false false):=hD (by rw[hwk,hg];exact Ck.new _ _ _ _);have HBk:Hid (Bx w (msC m) 38 wk):=hD (by rw[hwk];exact yn HB2 _);have hwks:w.heap.size<wk.heap.size:=by have:=ZT HBk.out;omega
     have HBel:=hD (zC HBk);clear hwk hg HB2;have HRSt:Hid (RdN g wk 12 m.statuses.a m.statuses.l.length (m.statuses.l.flatMap stC)):=hD (Rd.apart HOK.2.2.1.1 HBel ja);have HISt:Hid (∀x∈m.statuses.l,RdN g wk 6 x.cert.a x.cert.l.length (x.cert.l.flatMap sgC)∧x.cert.l.length≤1099511627776):=hD (fun x hx=>⟨Rd.apart (HOK.2.2.1.2 x hx).2.1 HBel ja,HF.certs x hx⟩);have HRDe:Hid (RdN g wk 3 m.entries.a m.entries.l.length (m.entries.l.flatMap deC)):=hD (Rd.apart HOK.2.2.2.1.1 HBel ja);have HIDe:Hid (∀x∈m.entries.l,RdN g wk 6 x.cert.a x.cert.l.length (x.cert.l.flatMap sgC)∧x.cert.l.length≤1099511627776):=hD (fun x hx=>⟨Rd.apart (HOK.2.2.2.1.2 x hx).2.1 HBel ja,HF.ecerts x hx⟩);have HSn:Hid (∀o t W,CkTo wk g o t W→Calls prog 101 #[.pointer (some ⟨g,0,none⟩),.agg m.snapshot] W (zdU wk g (o || !zcJ m.snapshot) (t || !zcE m.snapshot))):=
      hD (fun o t W hc=>(zfT g o t m.snapshot W hc.2 ((Rd.apart HOK.2.2.2.2.1.2.2.1.1 HBel ja).kept hc.1) HF.proof ((Rd.apart HOK.2.2.2.2.1.2.2.2.1 HBel ja).kept hc.1) HF.chain
       (fun h hh=>⟨(Rd.apart (HOK.2.2.2.2.1.2.2.2.2 h hh).2.2.1 HBel ja).kept hc.1,HF.hcerts h hh⟩)).mono fun e w' ⟨he,hq⟩=>⟨he,hc.trans hq⟩)
     have HCell:Hid (∀o t W,CkTo wk g o t W→∀j v,(msC m)[j]? =some v→W.cell? ⟨w.heap.size,j,none⟩=some v):=hD (fun o t W hc j v hv=>box_kept hc.1 hwks ja j (zg HBk j v hv));have HTx:Hid (Rd wk 1 m.texts.a m.texts.l.length (m.texts.l.flatMap strV)):=hD (Sl.rd_below HOK.2.2.2.2.2 HBel);have HTot:=hD (zdd m.texts.l);have HTg:=hD (tot_get m.texts.l);have htt:=HF.tot;have htl:=HF.texts;have hsl:=HF.statuses;have hel:=HF.entries;have c20:wk.cell? ⟨w.heap.size,20,none⟩=some (.slice m.texts.a m.texts.l.length m.texts.c):=HG.out wk HBk 20 _ rfl;go_wp2_with fail;go_loop [6,76] (fun s i=>∃k:Nat,i= .int .i64 k∧k≤m.texts.l.length∧s= .int .i64 (tot (m.texts.l.take k):Nat)) (fun _ i=>m.texts.l.length-(intOf i).toNat)
     case atStart=>exact⟨0,rfl,by omega,by simp[tot]⟩
     case round=>
      obtain⟨k,rfl,hk,rfl⟩:=hrel;by_cases hlt:k<m.texts.l.length
      · have i0':(0:Int)≤(k:Int):=by omega
        have i1:(k:Int) <(m.texts.l.length:Int):=by omega
        obtain⟨b,off,hxa,hg2,hcc⟩:=HTx.at (fun _=>rfl) ja hlt;have HXA:=hD hxa;have hrun:Sem.run prog (Instr.indexAt 32 (.slice m.texts.a m.texts.l.length m.texts.c) (.int .i64 k)) wk= .ok (Value.pointer (some ⟨b,off+k,none⟩)) wk:=by
         rw[HXA.out];go_simp
        clear hxa;have a0:wk.cell? ⟨b,off+k,none⟩=some (.string ⟨(m.texts.l[k]).toArray⟩):=by simpa using hcc wk (ae _ _) 0 _ rfl
        exact fo76
      · obtain rfl:k=m.texts.l.length:=by omega
        have HTk:Hid (tot (m.texts.l.take m.texts.l.length)=tot m.texts.l):=hD (by rw[dN]);rw[HTk.out];clear hlt hk;have k0:=HCk.c0;have k1:=HCk.c1;have k2:=HCk.f0;have k3:=HCk.f1;have c5:wk.cell? ⟨w.heap.size,5,none⟩=some (.string ⟨m.value.toArray⟩):=HG.out wk HBk 5 _ rfl;have c13:wk.cell? ⟨w.heap.size,13,none⟩=some (.slice m.statuses.a m.statuses.l.length m.statuses.c):=HG.out wk HBk 13 _ rfl;have c14:wk.cell? ⟨w.heap.size,14,none⟩=some (.slice m.entries.a m.entries.l.length m.entries.c):=HG.out wk HBk 14 _ rfl;go_upto_region 15 with fail;go_cut [] from 85 to 111 (fun wx=>CkTo wk g false (!(zbF m && decide (tot m.texts.l≤60000))) wx)
        case first=>
         go_wp2_with fail;all_goals
          go_meet
          case rel=>exact((CkTo.refl HCk).set1 _).eq rfl (by first|exact head_last m|exact head_true m ja)
        case rest=>
         have HC1:=hD hcut;clear hcut k0 k1 k2 k3 c5 c13 c14 c20;obtain⟨w3,hw3⟩:∃w3:World,w3=wc:=⟨_,rfl⟩;subst hw3;obtain⟨t1,ht1⟩:∃q,q=(!(zbF m && decide (tot m.texts.l≤60000))):=⟨_,rfl⟩;have HT1:=hD ht1;rw[←ht1]at HC1;clear ht1;have c7:w3.cell? ⟨w.heap.size,7,none⟩=some (.int .i64 m.signed.server):=HCell.out _ _ w3 HC1 7 _ rfl;have c8:w3.cell? ⟨w.heap.size,8,none⟩=some (.int .i64 m.signed.kind):=HCell.out _ _ w3 HC1 8 _ rfl;have c9:w3.cell? ⟨w.heap.size,9,none⟩=some (.int .i64 m.signed.view):=HCell.out _ _ w3 HC1 9 _ rfl;have c10:w3.cell? ⟨w.heap.size,10,none⟩=some (.int .i64 m.signed.slot):=HCell.out _ _ w3 HC1 10 _ rfl;have c11:w3.cell? ⟨w.heap.size,11,none⟩=some (.string ⟨m.signed.digest.toArray⟩):=HCell.out _ _ w3 HC1 11 _ rfl;have c12:w3.cell? ⟨w.heap.size,12,none⟩=some (.string ⟨m.signed.sig.toArray⟩):=HCell.out _ _ w3 HC1 12 _ rfl;have HO1:Hid (∀h,w3.heap.size=h→Calls prog 98 #[.pointer (some ⟨g,0,none⟩),.slice (some ⟨h,0,none⟩) 1 1] (w3.alloc (.cells m.signed 29)) (zdU wk g false (t1 || !z8 m.signed))):=
          hD (fun h hh=>(zf5 g _ _ m.signed w3 HC1.2 hh).mono fun e w' ⟨he,hq⟩=>⟨he,HC1.trans hq⟩)
         go_wp2_with fail;refine(HO1 _ rfl).mono ?_;rintro e w4 ⟨rfl,b4⟩;have HC2:=hD b4;clear b4 c7 c8 c9 c10 c11 c12;obtain⟨t2,ht2⟩:∃q,q=(t1 || !z8 m.signed):=⟨_,rfl⟩;have HT2:=hD ht2;rw[←ht2]at HC2;clear ht2;have c13:w4.cell? ⟨w.heap.size,13,none⟩=some (.slice m.statuses.a m.statuses.l.length m.statuses.c):=HCell.out _ _ w4 HC2 13 _ rfl;go_wp2_with fail;go_loopw [119] (fun i wr=>∃k:Nat,i= .int .i64 k∧k≤m.statuses.l.length∧CkTo wk g (false || !(m.statuses.l.take k).all yo) (t2 || !(m.statuses.l.take k).all yB) wr) (fun i _=>m.statuses.l.length-(intOf i).toNat)
         case atStart=>exact⟨0,rfl,by omega,by simpa using HC2.out⟩
         case round=>
          obtain⟨k,rfl,hk,hb⟩:=hrel;have HB:=hD hb;clear hb;by_cases hlt:k<m.statuses.l.length
          · have i0':(0:Int)≤(k:Int):=by omega
            have i1:(k:Int) <(m.statuses.l.length:Int):=by omega
            obtain⟨b,off,hxa,hg2,hne,hcc⟩:=HRSt.at (fun _=>rfl) ja hlt;have HXA:=hD hxa;have hrun:Sem.run prog (Instr.indexAt 30 (.slice m.statuses.a m.statuses.l.length m.statuses.c) (.int .i64 k)) wr= .ok (Value.pointer (some ⟨b,off+k * 12,none⟩)) wr:=by
             rw[HXA.out];go_simp
            clear hxa;obtain⟨x,hx⟩:∃x,x=m.statuses.l[k]:=⟨_,rfl⟩;have HX:=hD hx.symm;have HM:=hD (hx▸aH hlt:x∈m.statuses.l);clear hx;have a0:wr.cell? ⟨b,off+k * 12,none⟩=some (.int .i64 x.server):=by simpa using hcc wr HB.1 0 _ jd
            have a1:wr.cell? ⟨b,off+k * 12+1,none⟩=some (.int .i64 x.view):=hcc wr HB.1 1 _ jd;have a2:wr.cell? ⟨b,off+k * 12+2,none⟩=some (.int .i64 x.length):=hcc wr HB.1 2 _ jd;have a3:wr.cell? ⟨b,off+k * 12+3,none⟩=some (.int .i64 x.lockView):=hcc wr HB.1 3 _ jd;have a4:wr.cell? ⟨b,off+k * 12+4,none⟩=some (.string ⟨x.lock.toArray⟩):=hcc wr HB.1 4 _ jd;have a5:wr.cell? ⟨b,off+k * 12+5,none⟩=some (.slice x.cert.a x.cert.l.length x.cert.c):=hcc wr HB.1 5 _ jd;have a6:wr.cell? ⟨b,off+k * 12+6,none⟩=some (.int .i64 x.signed.server):=hcc wr HB.1 6 _ jd;have a7:wr.cell? ⟨b,off+k * 12+7,none⟩=some (.int .i64 x.signed.kind):=hcc wr HB.1 7 _ jd;have a8:wr.cell? ⟨b,off+k * 12+8,none⟩=some (.int .i64 x.signed.view):=hcc wr HB.1 8 _ jd;have a9:wr.cell? ⟨b,off+k * 12+9,none⟩=some (.int .i64 x.signed.slot):=hcc wr HB.1 9 _ jd;have a10:wr.cell? ⟨b,off+k * 12+10,none⟩=some (.string ⟨x.signed.digest.toArray⟩):=hcc wr HB.1 10 _ jd;have a11:wr.cell? ⟨b,off+k * 12+11,none⟩=some (.string ⟨x.signed.sig.toArray⟩):=hcc wr HB.1 11 _ jd;have HT:=hD (ZK m.statuses.l yo k hlt);have HU:=hD (ZK m.statuses.l yB k hlt);have HW:Hid (Calls prog 99 #[.pointer (some ⟨g,0,none⟩),.agg x] (wr.alloc (.cells x 97)) (zdU wk g (false || !(m.statuses.l.take (k+1)).all yo) (t2 || !(m.statuses.l.take (k+1)).all yB))):=
             hD (by
              have hc:=HB.alloc (.cells x 97);refine(statusCk_any g _ _ x _ hc.2 ((HISt x HM).1.kept hc.1) (HISt x HM).2).mono fun e w' ⟨he,h⟩=>⟨he,(hc.trans h).eq ?_ ?_⟩
              · rw[HT.out,HX.out];cases false <;> cases(m.statuses.l.take k).all yo <;> cases yo x <;> rfl
              · rw[HU.out,HX.out];cases t2 <;> cases(m.statuses.l.take k).all yB <;> cases yB x <;> rfl)
            exact fo74
          · obtain rfl:k=m.statuses.l.length:=by omega
            have HNSt:Hid (CkTo wk g (false || !m.statuses.l.all yo) (t2 || !m.statuses.l.all yB) wr):=hD (by simpa using HB.out);clear HB hlt hk;obtain⟨t3,ht3⟩:∃q,q=(t2 || !m.statuses.l.all yB):=⟨_,rfl⟩;obtain⟨o3,ho3⟩:∃q,q=(false || !m.statuses.l.all yo):=⟨_,rfl⟩;have HT3:=hD ht3;have HO3:=hD ho3;rw[←ht3,←ho3]at HNSt;clear ht3 ho3;obtain⟨w5,hw5⟩:∃w5:World,w5=wr:=⟨_,rfl⟩;subst hw5;have c14:w5.cell? ⟨w.heap.size,14,none⟩=some (.slice m.entries.a m.entries.l.length m.entries.c):=HCell.out _ _ w5 HNSt 14 _ rfl;go_wp2_with fail;go_loopw [129] (fun i wr=>∃k:Nat,i= .int .i64 k∧k≤m.entries.l.length∧CkTo wk g (o3 || !(m.entries.l.take k).all (fun d=>num d.view)) (t3 || !(m.entries.l.take k).all zS) wr) (fun i _=>m.entries.l.length-(intOf i).toNat)
            case atStart=>exact⟨0,rfl,by omega,by simpa using HNSt.out⟩
            case round=>
             obtain⟨k,rfl,hk,hb⟩:=hrel;have HB:=hD hb;clear hb;by_cases hlt:k<m.entries.l.length
             · have i0':(0:Int)≤(k:Int):=by omega
               have i1:(k:Int) <(m.entries.l.length:Int):=by omega
               obtain⟨b,off,hxa,hg2,hne,hcc⟩:=HRDe.at (fun _=>rfl) ja hlt;have HXA:=hD hxa;have hrun:Sem.run prog (Instr.indexAt 31 (.slice m.entries.a m.entries.l.length m.entries.c) (.int .i64 k)) wr= .ok (Value.pointer (some ⟨b,off+k * 3,none⟩)) wr:=by
                rw[HXA.out];go_simp
               clear hxa;obtain⟨x,hx⟩:∃x,x=m.entries.l[k]:=⟨_,rfl⟩;have HX:=hD hx.symm;have HM:=hD (hx▸aH hlt:x∈m.entries.l);clear hx;have a0:wr.cell? ⟨b,off+k * 3,none⟩=some (.int .i64 x.view):=by simpa using hcc wr HB.1 0 _ jd
               have a1:wr.cell? ⟨b,off+k * 3+1,none⟩=some (.string ⟨x.value.toArray⟩):=hcc wr HB.1 1 _ jd;have a2:wr.cell? ⟨b,off+k * 3+2,none⟩=some (.slice x.cert.a x.cert.l.length x.cert.c):=hcc wr HB.1 2 _ jd;have HT:=hD (ZK m.entries.l (fun d=>num d.view) k hlt);have HU:=hD (ZK m.entries.l zS k hlt);have HW:Hid (Calls prog 100 #[.pointer (some ⟨g,0,none⟩),.agg x] (wr.alloc (.cells x 100)) (zdU wk g (o3 || !(m.entries.l.take (k+1)).all (fun d=>num d.view)) (t3 || !(m.entries.l.take (k+1)).all zS))):=
                hD (by
                 have hc:=HB.alloc (.cells x 100);refine(zfo g _ _ x _ hc.2 ((HIDe x HM).1.kept hc.1) (HIDe x HM).2).mono fun e w' ⟨he,h⟩=>⟨he,(hc.trans h).eq ?_ ?_⟩
                 · rw[HT.out,HX.out];cases o3 <;> cases(m.entries.l.take k).all (fun d=>num d.view) <;> cases num x.view <;> rfl
                 · rw[HU.out,HX.out];cases t3 <;> cases(m.entries.l.take k).all zS <;> cases zS x <;> rfl)
               exact fo74
             · obtain rfl:k=m.entries.l.length:=by omega
               have HNDe:Hid (CkTo wk g (o3 || !m.entries.l.all (fun d=>num d.view)) (t3 || !m.entries.l.all zS) wr):=hD (by simpa using HB.out);clear HB hlt hk;obtain⟨t4,ht4⟩:∃q,q=(t3 || !m.entries.l.all zS):=⟨_,rfl⟩;obtain⟨o4,ho4⟩:∃q,q=(o3 || !m.entries.l.all (fun d=>num d.view)):=⟨_,rfl⟩;have HT4:=hD ht4;have HO4:=hD ho4;rw[←ht4,←ho4]at HNDe;clear ht4 ho4;have c15:wr.cell? ⟨w.heap.size,15,none⟩=some (.int .i64 m.snapshot.slot):=HCell.out _ _ wr HNDe 15 _ rfl;have c16:wr.cell? ⟨w.heap.size,16,none⟩=some (.string ⟨m.snapshot.root.toArray⟩):=HCell.out _ _ wr HNDe 16 _ rfl;have c17:wr.cell? ⟨w.heap.size,17,none⟩=some (.slice m.snapshot.chunks.a m.snapshot.chunks.l.length m.snapshot.chunks.c):=HCell.out _ _ wr HNDe 17 _ rfl;have c18:wr.cell? ⟨w.heap.size,18,none⟩=some (.slice m.snapshot.proof.a m.snapshot.proof.l.length m.snapshot.proof.c):=HCell.out _ _ wr HNDe 18 _ rfl;have c19:wr.cell? ⟨w.heap.size,19,none⟩=some (.slice m.snapshot.chain.a m.snapshot.chain.l.length m.snapshot.chain.c):=HCell.out _ _ wr HNDe 19 _ rfl;go_wp2_with fail;refine(HSn _ _ _ HNDe).mono ?_;rintro e w6 ⟨rfl,b6⟩;have HC6:=hD b6;clear b6 c15 c16 c17 c18 c19;obtain⟨t5,ht5⟩:∃q,q=(t4 || !zcE m.snapshot):=⟨_,rfl⟩;obtain⟨o5,ho5⟩:∃q,q=(o4 || !zcJ m.snapshot):=⟨_,rfl⟩;have HR5:Hid (o5= !Zz m):=hD (by rw[ho5,HO4.out,HO3.out];exact ranges_val m);have HL5:Hid (t5= !yQ m):=hD (by rw[ht5,HT4.out,HT3.out,HT2.out,HT1.out];exact lengths_val m);rw[←ht5,←ho5]at HC6;clear ht5 ho5;have HLow:Hid (Below w.heap.size w w6):=hD (below_grown HBel ja HC6.1 (fun b hb=>by simp at hb;omega));have HE6:=hD (eCk_any g o5 t5 w6 HC6.2);have c17:w6.cell? ⟨w.heap.size,17,none⟩=some (.slice m.snapshot.chunks.a m.snapshot.chunks.l.length m.snapshot.chunks.c):=HCell.out _ _ w6 HC6 17 _ rfl;have HVt:Hid (vMs m=vTail m):=HV;cases o5 with
               |true=>
                have HZ:Hid (vMs m=7):=hD (by rw[HVt.out];unfold vTail;rw[af (by simpa using HR5.out.symm)]);exact fo108
               |false=>
                cases t5 with
                |true=>
                 have HZ:Hid (vMs m=3):=hD (by rw[HVt.out];unfold vTail;rw[aa (by have:=HR5.out;simp at this;simp[this]),af (by simpa using HL5.symm)]);exact fo108
                |false=>
                 have HZ:Hid (vMs m=if 0<m.snapshot.chunks.l.length then 1 else 0):=hD (by rw[HVt.out];unfold vTail;rw[aa (by have:=HR5.out;simp at this;simp[this]),aa (by have:=HL5.out;simp at this;simp[this])]);by_cases hch:0<m.snapshot.chunks.l.length
                 · have HZ1:Hid (vMs m=1):=hD (by rw[HZ.out,af hch]);exact fo103
                 · have HZ1:Hid (vMs m=0):=hD (by rw[HZ.out,aa hch]);exact fo103
