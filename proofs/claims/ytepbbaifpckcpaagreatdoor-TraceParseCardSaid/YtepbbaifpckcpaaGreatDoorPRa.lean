/- The contracts of the reference's small checks. -/
import Derived.Test.YtepbbaifpckcpaaGreatDoorPVb
open Go.Proofs.Tryz
namespace Go.Proofs.YtepbbaifpckcpaaGreatDoor
set_option maxRecDepth 100000
set_option maxHeartbeats 8000000
open Go.RowKit
theorem zbp(n:Int)(w:World):Calls prog 105 #[n] w fun e w'=>e= .returned (.bool (num n))∧w=w':=fo256
theorem sgC_lenW(x:Sg):(sgC x).length=6:=rfl
theorem Yj{α:Type}(l:List α)(p:α→Bool)(k:Nat)(h:k<l.length)(hp:p l[k]=false):l.all p=false:=by
 rw[Bool.eq_false_iff];intro hc;have:=bX.1 hc l[k] (aH h);rw[hp]at this;simp at this
theorem zdj(A:Option Addr)(c:Nat)(l:List Sg)(w:World)(hr:Rd w 6 A l.length (l.flatMap sgC))(hn:l.length≤1099511627776) :
    Calls prog 158 #[.slice A l.length c] w fun e w'=>e= .returned (.bool (zR l))∧w=w':=by
 have HR:=hD hr;clear hr;go_in;go_wp2_with fail;go_loop [3] (fun i=>∃k:Nat,i= .int .i64 k∧k≤l.length∧Hid ((l.take k).all z8=true)) (fun i=>l.length-(intOf i).toNat)
 case atStart=>exact⟨0,rfl,by omega,hD jc⟩
 case round=>
  obtain⟨k,rfl,hk,HA⟩:=hrel;by_cases hlt:k<l.length
  · have i0':(0:Int)≤(k:Int):=by omega
    have i1:(k:Int) <(l.length:Int):=by omega
    obtain⟨b,off,rfl,hg,hcc⟩:=HR.at sgC_lenW ja hlt;obtain⟨x,hx⟩:∃x,x=l[k]:=⟨_,rfl⟩;have HX:=hD hx.symm;clear hx;have a4:w.cell? ⟨b,off+k * 6+4,none⟩=some (.string ⟨x.digest.toArray⟩):=hcc w (ae _ _) 4 _ jd;have a5:w.cell? ⟨b,off+k * 6+5,none⟩=some (.string ⟨x.sig.toArray⟩):=hcc w (ae _ _) 5 _ jd;have HT:=hD (ZK l z8 k hlt);have HN:Hid (z8 x=false→zR l=false):=hD (fun h=>by unfold zR;rw[Yj l z8 k hlt jcx];rfl);clear hcc;by_cases h1:x.digest.length≤64
    · by_cases h2:x.sig.length≤64
      · have HZ:Hid (z8 x=true):=hD (by simp[z8,h1,h2]);go_wp2_with fail;go_round
        case rel=>exact⟨k+1,by go_num,by omega,hD (by rw[HT.out,HA.out,HX.out,HZ.out];rfl)⟩
        case measure=>simp[intOf];omega
      · have HZ:Hid (z8 x=false):=hD (by simp[z8,h1,h2]);exact fo176
    · have HZ:Hid (z8 x=false):=hD (by simp[z8,h1]);exact fo176
  · obtain rfl:k=l.length:=by omega
    have HE:Hid (decide ((l.length:Int)≤12)=zR l):=hD (by
     have:=HA.out;rw[dN]at this;unfold zR;rw[this,bS,bQ];simp;omega)
    go_wp2_with fail;go_ret;exact⟨aL (fun b=>Ending.returned (.bool b)) HE,rfl⟩
theorem short_one(x:Sg)(w w0:World)(hb:Below w0.heap.size w0 w){h:Nat}(hh:w.heap.size=h) :
    Calls prog 158 #[.slice (some ⟨h,0,none⟩) 1 1] (w.alloc (.cells x 29)) fun e w'=>e= .returned (.bool (z8 x))∧Below w0.heap.size w0 w':=by
 subst hh;have h1:=zdj (some ⟨w.heap.size,0,none⟩) 1 [x] (w.alloc (.cells (sgC x).toArray 29)) (by simpa using zdb w 6 1 (sgC x) 29 rfl) jc;refine Calls.mono h1 fun e w' ⟨he,hw⟩=>⟨?_,?_⟩
 · rw[he];simp[zR]
 · subst hw;exact hb.alloc hb.size _
theorem zb1(s:St)(w:World):Calls prog 155 #[.agg s] w (zK (yo s) w):=by
 have HN:=hD (fun n w'=>zbp n w');go_in;go_wp2_with (go_at_call 105;refine(HN _ _).mono ?_;rintro e w' ⟨rfl,rfl⟩);all_goals
  go_ret;exact yA (by first|(simp[yo, *];done)|(simp[yo, *];intros;omega)) (za _ _)
theorem zca(s:St)(w:World)(hr:Rd w 6 s.cert.a s.cert.l.length (s.cert.l.flatMap sgC))(hn:s.cert.l.length≤1099511627776):Calls prog 156 #[.agg s] w (zK (yB s) w):=by
 have HS:Hid (∀w1,Below w.heap.size w w1→Calls prog 158 #[s.cert] w1 fun e w'=>e= .returned (.bool (zR s.cert.l))∧w1=w'):=hD (fun w1 hb=>zdj _ _ _ w1 (hr.below hb) hn);have HO:=hD (fun w1 hb h hh=>short_one s.signed w1 w hb (h:=h) hh);have HB:=hD (za w (.cells s 97));clear hr;by_cases h1:s.lock.length≤2000
 · have HZ:Hid (yB s=(zR s.cert.l && z8 s.signed)):=hD (by simp[yB,h1]);cases h2:zR s.cert.l with
   |true=>
    rw[h2]at HS HZ;clear h2;go_in;go_wp2_with fail;refine(HS _ HB).mono ?_;rintro e w' ⟨rfl,rfl⟩;go_wp2_with fail;refine(HO _ HB _ jc).mono ?_;rintro e w2 ⟨rfl,b2⟩;have B2:=hD b2;clear b2;go_wp2_with fail;go_ret;exact yA (by rw[HZ.out];rfl) B2.out
   |false=>
    rw[h2]at HS HZ;clear h2;go_in;go_wp2_with fail;refine(HS _ HB).mono ?_;rintro e w' ⟨rfl,rfl⟩;go_wp2_with fail;go_ret;exact yA (by rw[HZ.out];rfl) HB
 · have HZ:Hid (yB s=false):=hD (by simp[yB,h1]);go_in;exact fo139
theorem zcA(d:De)(w:World)(hr:Rd w 6 d.cert.a d.cert.l.length (d.cert.l.flatMap sgC))(hn:d.cert.l.length≤1099511627776):Calls prog 157 #[.agg d] w (zK (zS d) w):=by
 have HS:Hid (∀w1,Below w.heap.size w w1→Calls prog 158 #[d.cert] w1 fun e w'=>e= .returned (.bool (zR d.cert.l))∧w1=w'):=hD (fun w1 hb=>zdj _ _ _ w1 (hr.below hb) hn);have HB:=hD (za w (.cells d 100));clear hr;by_cases h1:d.value.length≤2000
 · have HZ:Hid (zS d=zR d.cert.l):=hD (by simp[zS,h1]);go_in;go_wp2_with fail;refine(HS _ HB).mono ?_;rintro e w' ⟨rfl,rfl⟩;exact fo139
 · have HZ:Hid (zS d=false):=hD (by simp[zS,h1]);go_in;exact fo139
def fldS(k:Int):List UInt8:=if k=1 then [86,83] else if k=2 then [86,83,84,69] else if k=3 then [86,83,88,71,84] else if k=4 then [86,83,71] else if k=5 then [86,83,88,71] else if k=6 then [83,69] else if k=7 then [83] else if k=8 then [86] else if k=9 then [86,85] else if k=10 then [83,88,71] else if k=11 then [80,85] else if k=12 then [86,83,85,88,76] else []
def hasC(l:List UInt8)(c:UInt8):Bool:=l.contains c
def letters:List UInt8:=[86,83,85,88,71,84,69,80,76]
theorem fields_any(k:Int)(h:¬(k<1∨12<k))(w:World):Calls prog 213 #[k] w (zm (fldS k) w):=by
 have h2:k=1∨k=2∨k=3∨k=4∨k=5∨k=6∨k=7∨k=8∨k=9∨k=10∨k=11∨k=12:=by omega
 clear h;rcases h2 with rfl|rfl|rfl|rfl|rfl|rfl|rfl|rfl|rfl|rfl|rfl|rfl;all_goals
  go_in;go_wp2_with fail;go_ret;exact Z9 rfl (za _ _)
theorem contains_take(l:List UInt8)(c:UInt8)(k:Nat)(h:k<l.length):(l.take (k+1)).contains c=((l.take k).contains c || l[k] == c):=by
 rw[bq h,iF,iF,List.any_append];simp[Bool.beq_comm]
theorem has_any(k:Int)(h:¬(k<1∨12<k))(c:UInt8)(w:World):Calls prog 154 #[k,.int .u8 (c.toNat:Int)] w (zK (hasC (fldS k) c) w):=by
 have HFl:=hD (fields_any k h w);have hlen:(fldS k).length≤5:=fo119;clear h;generalize fldS k=l at HFl hlen⊢;go_in;go_wp2_with fail;refine HFl.mono ?_;rintro e w1 ⟨rfl,b1⟩;have HB:=hD b1;clear b1;go_wp2_with fail;go_loop [6] (fun i=>∃j:Nat,i= .int .i64 j∧j≤l.length∧Hid ((l.take j).contains c=false)) (fun i=>l.length-(intOf i).toNat)
 case atStart=>exact⟨0,rfl,by omega,hD jc⟩
 case round=>
  obtain⟨j,rfl,hj,HA⟩:=hrel;by_cases hlt:j<l.length
  · have i0':(0:Int)≤(j:Int):=by omega
    have i1:(j:Int) <(l.length:Int):=by omega
    have hrun:∀w',Sem.run prog (Instr.index 9 (.string ⟨l.toArray⟩) (.int .i64 j)) w'= .ok (Value.int .u8 (l[j].toNat:Int)) w':=fun w'=>by
     go_simp;rfl
    have HT:=hD (contains_take l c j hlt);generalize hx:l[j]=x at hrun HT;have HX:=hD hx;clear hx;by_cases hc:x=c
    · have he:((x.toNat:Int) ==(c.toNat:Int))=true:=by simp[hc]
      have HZ:Hid (hasC l c=true):=hD (by
       unfold hasC;rw[List.contains_iff_mem];have:l[j]∈l:=aH hlt;rw[HX.out,hc]at this;exact this)
      have HC:=hD hc;clear hc;exact fo139
    · have he:((x.toNat:Int) ==(c.toNat:Int))=false:=by
        rw[aF];intro h;exact hc (gz.1 ja)
      have HC:Hid ((x == c)=false):=hD (by simp[hc]);clear hc;go_wp2_with fail;go_round
      case rel=>exact⟨j+1,by go_num,by omega,hD (by rw[HT.out,HA.out,HC.out];rfl)⟩
      case measure=>simp[intOf];omega
  · obtain rfl:j=l.length:=by omega
    have HZ:Hid (hasC l c=false):=hD (by unfold hasC;have:=HA.out;rwa[dN]at this);exact fo139
theorem refEmpty_any(x:Sn)(w:World)(h1:x.chunks.l.length≤1099511627776)(h2:x.proof.l.length≤1099511627776)(h3:x.chain.l.length≤1099511627776) :
    Calls prog 153 #[.agg x] w (zK (Y3 x) w):=by
 by_cases c1:x.slot=0
 · exact fo49
 · exact fo271
theorem spare_fld:∀(k:Fin 12) (j:Fin 9),hasC (fldS (k.val+1:Nat)) (letters.getD j.val 0)=alw (k.val+1:Nat) j.val:=by decide +kernel
def spB(m:Ms)(j:Nat):Bool:=(zam m).getD j false && !hasC (fldS m.kind) (letters.getD j 0)
theorem spB_spare(m:Ms)(h:¬(m.kind<1∨12<m.kind)):Z8 m=(spB m 0 || spB m 1 || spB m 2 || spB m 3 || spB m 4 || spB m 5 || spB m 6 || spB m 7 || spB m 8):=by
 obtain⟨n,hn⟩:=bA (show 0≤m.kind- 1 by omega);have h1:m.kind=((n+1:Nat):Int):=by omega
 have hf:∀j (hj:j<9),spB m j=((zam m).getD j false && !alw m.kind j):=fun j hj=>by
  unfold spB;rw[h1,spare_fld ⟨n,by omega⟩ ⟨j,hj⟩]
 rw[hf 0 ja,hf 1 ja,hf 2 ja,hf 3 ja,hf 4 ja,hf 5 ja,hf 6 ja,hf 7 ja,hf 8 ja];unfold Z8 zam;simp[List.zipIdx,Bool.or_assoc]
theorem spB_no(m:Ms)(h:¬(m.kind<1∨12<m.kind))(hs:∀j,j<9→spB m j=false):Z8 m=false:=by
 rw[spB_spare m h,hs 0 ja,hs 1 ja,hs 2 ja,hs 3 ja,hs 4 ja,hs 5 ja,hs 6 ja,hs 7 ja,hs 8 ja];rfl
theorem spB_yes(m:Ms)(h:¬(m.kind<1∨12<m.kind))(j:Nat)(hj:j<9)(hs:spB m j=true):Z8 m=true:=by
 rw[spB_spare m h];have:j=0∨j=1∨j=2∨j=3∨j=4∨j=5∨j=6∨j=7∨j=8:=by omega
 rcases this with rfl|rfl|rfl|rfl|rfl|rfl|rfl|rfl|rfl <;> simp[hs]
theorem run_idx(l:List UInt8)(k:Nat)(h:k<l.length)(w:World):Sem.run prog (Instr.index 9 (.string ⟨l.toArray⟩) (.int .i64 k)) w= .ok (Value.int .u8 (l[k].toNat:Int)) w:=by
 have i0':(0:Int)≤(k:Int):=by omega
 have i1:(k:Int) <(l.length:Int):=by omega
 go_simp;rfl
theorem run_letter(k:Nat)(hk:k<9)(w:World):Sem.run prog (Instr.index 9 (.string ⟨#[86,83,85,88,71,84,69,80,76]⟩) (.int .i64 k)) w= .ok (Value.int .u8 ((letters.getD k 0).toNat:Int)) w:=by
 have h:=run_idx letters k hk w;rw[gW,aP (show k<letters.length from hk)];exact h
theorem spare_any(m:Ms)(hkd:¬(m.kind<1∨12<m.kind))(w:World)(h1:m.snapshot.chunks.l.length≤1099511627776)(h2:m.snapshot.proof.l.length≤1099511627776)(h3:m.snapshot.chain.l.length≤1099511627776) :
    Calls prog 106 #[.agg m] w (zK (Z8 m) w):=by
 have HE:Hid (∀(w1:World) (R:Prop),(Bx w (msC m) 38 w1∧R)→Calls prog 153 #[.agg m.snapshot] w1 (zeC w (msC m) 38 (Y3 m.snapshot))):=
  hD (fun w1 _ hb=>zf7 hb.1 (refEmpty_any m.snapshot w1 h1 h2 h3))
 have HC:Hid (∀w1,Bx w (msC m) 38 w1→Bx w (msC m) 38 w1∧w1.cell? ⟨w.heap.size,3,none⟩=some (.int .i64 m.view)∧w1.cell? ⟨w.heap.size,4,none⟩=some (.int .i64 m.slot)∧w1.cell? ⟨w.heap.size,5,none⟩=some (.string ⟨m.value.toArray⟩)∧w1.cell? ⟨w.heap.size,6,none⟩=some (.int .i64 m.till)∧w1.cell? ⟨w.heap.size,7,none⟩=some (.int .i64 m.signed.server)∧w1.cell? ⟨w.heap.size,8,none⟩=some (.int .i64 m.signed.kind)∧w1.cell? ⟨w.heap.size,9,none⟩=some (.int .i64 m.signed.view)∧w1.cell? ⟨w.heap.size,10,none⟩=some (.int .i64 m.signed.slot)∧w1.cell? ⟨w.heap.size,11,none⟩=some (.string ⟨m.signed.digest.toArray⟩)∧w1.cell? ⟨w.heap.size,12,none⟩=some (.string ⟨m.signed.sig.toArray⟩)∧w1.cell? ⟨w.heap.size,13,none⟩=some (.slice m.statuses.a m.statuses.l.length m.statuses.c)∧w1.cell? ⟨w.heap.size,14,none⟩=some (.slice m.entries.a m.entries.l.length m.entries.c)∧w1.cell? ⟨w.heap.size,15,none⟩=some (.int .i64 m.snapshot.slot)∧w1.cell? ⟨w.heap.size,16,none⟩=some (.string ⟨m.snapshot.root.toArray⟩)∧w1.cell? ⟨w.heap.size,17,none⟩=some (.slice m.snapshot.chunks.a m.snapshot.chunks.l.length m.snapshot.chunks.c)∧w1.cell? ⟨w.heap.size,18,none⟩=some (.slice m.snapshot.proof.a m.snapshot.proof.l.length m.snapshot.proof.c)∧w1.cell? ⟨w.heap.size,19,none⟩=some (.slice m.snapshot.chain.a m.snapshot.chain.l.length m.snapshot.chain.c)∧w1.cell? ⟨w.heap.size,20,none⟩=some (.slice m.texts.a m.texts.l.length m.texts.c)):=
  hD (fun w1 hb=>⟨hb,zg hb 3 _ rfl,zg hb 4 _ rfl,zg hb 5 _ rfl,zg hb 6 _ rfl,zg hb 7 _ rfl,zg hb 8 _ rfl,zg hb 9 _ rfl,zg hb 10 _ rfl,zg hb 11 _ rfl,zg hb 12 _ rfl,zg hb 13 _ rfl,zg hb 14 _ rfl,zg hb 15 _ rfl,zg hb 16 _ rfl,zg hb 17 _ rfl,zg hb 18 _ rfl,zg hb 19 _ rfl,zg hb 20 _ rfl⟩)
 have H0:=hD (Zy w (msC m) 38);have hne:=run_ne_sg m.signed;have HNo:=hD (spB_no m hkd);have HYes:=hD (spB_yes m hkd);have HHas:Hid (∀c w1,Calls prog 154 #[m.kind,.int .u8 ((c:UInt8).toNat:Int)] w1 (zK (hasC (fldS m.kind) c) w1)):=hD (fun c w1=>has_any m.kind hkd c w1);clear h1 h2 h3 hkd;go_in;go_wp2_with fail;go_region_held3 (fun w1=>Bx w (msC m) 38 w1∧w1.cell? ⟨w.heap.size,3,none⟩=some (.int .i64 m.view)∧w1.cell? ⟨w.heap.size,4,none⟩=some (.int .i64 m.slot)∧w1.cell? ⟨w.heap.size,5,none⟩=some (.string ⟨m.value.toArray⟩)∧w1.cell? ⟨w.heap.size,6,none⟩=some (.int .i64 m.till)∧w1.cell? ⟨w.heap.size,7,none⟩=some (.int .i64 m.signed.server)∧w1.cell? ⟨w.heap.size,8,none⟩=some (.int .i64 m.signed.kind)∧w1.cell? ⟨w.heap.size,9,none⟩=some (.int .i64 m.signed.view)∧w1.cell? ⟨w.heap.size,10,none⟩=some (.int .i64 m.signed.slot)∧w1.cell? ⟨w.heap.size,11,none⟩=some (.string ⟨m.signed.digest.toArray⟩)∧w1.cell? ⟨w.heap.size,12,none⟩=some (.string ⟨m.signed.sig.toArray⟩)∧w1.cell? ⟨w.heap.size,13,none⟩=some (.slice m.statuses.a m.statuses.l.length m.statuses.c)∧w1.cell? ⟨w.heap.size,14,none⟩=some (.slice m.entries.a m.entries.l.length m.entries.c)∧w1.cell? ⟨w.heap.size,15,none⟩=some (.int .i64 m.snapshot.slot)∧w1.cell? ⟨w.heap.size,16,none⟩=some (.string ⟨m.snapshot.root.toArray⟩)∧w1.cell? ⟨w.heap.size,17,none⟩=some (.slice m.snapshot.chunks.a m.snapshot.chunks.l.length m.snapshot.chunks.c)∧w1.cell? ⟨w.heap.size,18,none⟩=some (.slice m.snapshot.proof.a m.snapshot.proof.l.length m.snapshot.proof.c)∧w1.cell? ⟨w.heap.size,19,none⟩=some (.slice m.snapshot.chain.a m.snapshot.chain.l.length m.snapshot.chain.c)∧w1.cell? ⟨w.heap.size,20,none⟩=some (.slice m.texts.a m.texts.l.length m.texts.c))
  (first|exact HC _ (yO H0)|exact HC _ (yn (‹Bx _ _ _ _∧_›).1 _)|exact HC _ ‹Bx _ _ _ _›)
  ((go_at_call 153;refine(HE _ _ je).mono ?_;rintro e w2 ⟨rfl,b2⟩))
 all_goals
  go_wp2_with fail;generalize hW:w2.alloc _=wz;have HZ:Hid (∀k,k<9→wz.cell? ⟨w2.heap.size,k,none⟩=some (.bool ((zam m).getD k false))):=hD (fun k hk=>fo114);have HBx:Hid (Bx w (msC m) 38 wz):=hD (hW▸yn b2 _);have HZs:Hid (w2.heap.size<wz.heap.size):=hD (by rw[←hW];simp);clear hW b2 hne H0 HE;go_loopw [4] (fun i wr=>∃k:Nat,i= .int .i64 k∧k≤9∧Hid (∀j,j<k→spB m j=false)∧Below wz.heap.size wz wr) (fun i _=>9-(intOf i).toNat)
  case atStart=>exact⟨0,rfl,by omega,hD (fun j hj=>by omega),ae _ _⟩
  case round=>
   obtain⟨k,rfl,hk,HS,hb⟩:=hrel;have HB:=hD hb;clear hb;have HLow:Hid (∀w1,Below wr.heap.size wr w1→Below w.heap.size w w1):=hD (fun w1 h=>(zC HBx).trans ((bon HB h).mono (by have:=ZT HBx.out;omega)));by_cases hlt:k<9
   · have i0:(0:Int)≤(k:Int):=by omega
     have i1:(k:Int) <9:=by omega
     have hcell:wr.cell? ⟨w2.heap.size,k,none⟩=some (.bool ((zam m).getD k false)):=(HB.cell (p:=⟨w2.heap.size,k,none⟩) HZs).trans (HZ k hlt);have hk0:wr.cell? ⟨w.heap.size,0,none⟩=some (.int .i64 m.kind):=(HB.cell (p:=⟨w.heap.size,0,none⟩) (by have:=ZT HBx.out;show w.heap.size< _;omega)).trans (zg HBx 0 _ rfl);have hix:=run_letter k hlt;have HSk:Hid (spB m k=((zam m).getD k false && !hasC (fldS m.kind) (letters.getD k 0))):=hD rfl;have HHk:=hD (HHas (letters.getD k 0));generalize hq:hasC (fldS m.kind) (letters.getD k 0)=q at HSk HHk;generalize hb:(zam m).getD k false=b at hcell HSk;generalize hc:letters.getD k 0=c at hix HHk;clear hq hb hc;have HSt:Hid (∀w1,Below wr.heap.size wr w1→Below wr.heap.size wr w1∧w1.cell? ⟨w2.heap.size,k,none⟩=some (.bool b)∧w1.cell? ⟨w.heap.size,0,none⟩=some (.int .i64 m.kind)):=hD (fun w1 h=>⟨h,(h.cell (p:=⟨w2.heap.size,k,none⟩) (by have:=HZs.out;have:=HB.size;show w2.heap.size< _;omega)).trans hcell,(h.cell (p:=⟨w.heap.size,0,none⟩) (by have:=ZT HBx.out;have:=HB.size;show w.heap.size< _;omega)).trans hk0⟩);have HHr:Hid (∀(w1:World) (R:Prop),(Below wr.heap.size wr w1∧R)→Calls prog 154 #[m.kind,.int .u8 ((c:UInt8).toNat:Int)] w1 fun e w'=>e= .returned (.bool q)∧Below wr.heap.size wr w'):=hD (fun w1 _ hb=>(HHk w1).mono fun e w' ⟨he,hw⟩=>⟨he,bon hb.1 hw⟩);have HNx:Hid (spB m k=false→∀j,j<k+1→spB m j=false):=hD (fun h j hj=>by
      by_cases e:j=k
      · rw[e];exact h
      · exact HS j ja)
     cases b with
     |false=>
      go_wp2_with fail;go_quiet (fail);go_wp2_with fail;go_roundw
      case rel=>exact⟨k+1,by go_num,by omega,hD (HNx (by rw[HSk.out];rfl)),bdN HB _⟩
      case measure=>simp[intOf];omega
     |true=>
      go_wp2_with fail;go_region_held3 (fun w1=>Below wr.heap.size wr w1∧w1.cell? ⟨w2.heap.size,k,none⟩=some (.bool true)∧w1.cell? ⟨w.heap.size,0,none⟩=some (.int .i64 m.kind))
       (first|exact HSt _ (ae _ _).drew|exact HSt _ ‹Below wr.heap.size wr _›)
       ((go_at_call 154;refine(HHr _ _ je).mono ?_;rintro e w3 ⟨rfl,b3⟩))
      all_goals
       have HB3:=hD b3;clear b3;cases q with
       |true=>
        go_wp2_with fail;go_roundw
        case rel=>exact⟨k+1,by go_num,by omega,hD (HNx (by rw[HSk.out];rfl)),bon HB HB3⟩
        case measure=>simp[intOf];omega
       |false=>
        go_wp2_with fail;go_ret;exact yA (HYes k hlt (by rw[HSk.out];rfl)) (HLow _ HB3)
   · obtain rfl:k=9:=by omega
     go_wp2_with fail;go_ret;exact yA (HNo HS) (HLow _ (ae _ _))
