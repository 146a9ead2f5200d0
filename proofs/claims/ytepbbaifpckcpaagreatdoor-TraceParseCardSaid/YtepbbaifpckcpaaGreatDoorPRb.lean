/- The contracts of the reference's ranges. -/
import Derived.Test.YtepbbaifpckcpaaGreatDoorPRa
open Go.Proofs.Tryz
namespace Go.Proofs.YtepbbaifpckcpaaGreatDoor
set_option maxRecDepth 100000
set_option maxHeartbeats 16000000
open Go.RowKit
theorem ranges_any(m:Ms)(w:World)(hok:m.ok w)(hf:MsFew m):Calls prog 107 #[.agg (msC m).toArray] w (zK (Zz m) w):=by
 have HOK:=hD hok;have hsl:=hf.statuses;have hel:=hf.entries;have hcl:=hf.chain;have HRSt:Hid (Rd w 12 m.statuses.a m.statuses.l.length (m.statuses.l.flatMap stC)):=hD hok.2.2.1.1;have HRDe:Hid (Rd w 3 m.entries.a m.entries.l.length (m.entries.l.flatMap deC)):=hD hok.2.2.2.1.1;have HRHo:Hid (Rd w 4 m.snapshot.chain.a m.snapshot.chain.l.length (m.snapshot.chain.l.flatMap hoC)):=hD hok.2.2.2.2.1.2.2.2.1;have HG:Hid (∀W,Bx w (msC m) 38 W→∀j v,(msC m)[j]? =some v→W.cell? ⟨w.heap.size,j,none⟩=some v):=hD (fun W hb j v hv=>zg hb j v hv);have HNum:=hD (fun n w'=>zbp n w');have HNoSt:Hid (m.statuses.l.all yo=false→Zz m=false):=hD (fun h=>by unfold Zz;rw[h];rfl);have HNoDe:Hid (m.entries.l.all (fun d=>num d.view)=false→Zz m=false):=hD (fun h=>by unfold Zz;rw[h];cases m.statuses.l.all yo <;> rfl)
 have HNoHo:Hid (m.snapshot.chain.l.all ZJ=false→Zz m=false):=hD (fun h=>by unfold Zz;rw[h];cases m.statuses.l.all yo <;> cases m.entries.l.all (fun d=>num d.view) <;> rfl)
 have HB0:=hD (Zy w (msC m) 38);clear hok hf;go_in;go_wp2_with fail;go_loopw [3] (fun i wr=>∃k:Nat,i= .int .i64 k∧k≤m.statuses.l.length∧Hid ((m.statuses.l.take k).all yo=true)∧Bx w (msC m) 38 wr) (fun i _=>m.statuses.l.length-(intOf i).toNat)
 case atStart=>exact⟨0,rfl,by omega,hD jc,HB0⟩
 case round=>
  obtain⟨k,rfl,hk,HA,hb⟩:=hrel;have HB:=hD hb;clear hb;have c13:wr.cell? ⟨w.heap.size,13,none⟩=some (.slice m.statuses.a m.statuses.l.length m.statuses.c):=HG.out wr HB 13 _ rfl;by_cases hlt:k<m.statuses.l.length
  · have i0':(0:Int)≤(k:Int):=by omega
    have i1:(k:Int) <(m.statuses.l.length:Int):=by omega
    obtain⟨b,off,hxa,hg2,hcc⟩:=HRSt.at (fun _=>rfl) ja hlt;have HXA:=hD hxa;have hrun:∀w',Sem.run prog (Instr.indexAt 30 (.slice m.statuses.a m.statuses.l.length m.statuses.c) (.int .i64 k)) w'= .ok (Value.pointer (some ⟨b,off+k * 12,none⟩)) w':=fun w'=>by
     rw[HXA.out];go_simp
    clear hxa;obtain⟨x,hx⟩:∃x,x=m.statuses.l[k]:=⟨_,rfl⟩;have HX:=hD hx.symm;have HM:=hD (hx▸aH hlt:x∈m.statuses.l);clear hx;have HLw:=hD (zC HB);have a0:wr.cell? ⟨b,off+k * 12,none⟩=some (.int .i64 x.server):=by simpa using hcc wr HLw 0 _ jd
    have a1:wr.cell? ⟨b,off+k * 12+1,none⟩=some (.int .i64 x.view):=hcc wr HLw 1 _ jd;have a2:wr.cell? ⟨b,off+k * 12+2,none⟩=some (.int .i64 x.length):=hcc wr HLw 2 _ jd;have a3:wr.cell? ⟨b,off+k * 12+3,none⟩=some (.int .i64 x.lockView):=hcc wr HLw 3 _ jd;have a4:wr.cell? ⟨b,off+k * 12+4,none⟩=some (.string ⟨x.lock.toArray⟩):=hcc wr HLw 4 _ jd;have a5:wr.cell? ⟨b,off+k * 12+5,none⟩=some (.slice x.cert.a x.cert.l.length x.cert.c):=hcc wr HLw 5 _ jd;have a6:wr.cell? ⟨b,off+k * 12+6,none⟩=some (.int .i64 x.signed.server):=hcc wr HLw 6 _ jd;have a7:wr.cell? ⟨b,off+k * 12+7,none⟩=some (.int .i64 x.signed.kind):=hcc wr HLw 7 _ jd;have a8:wr.cell? ⟨b,off+k * 12+8,none⟩=some (.int .i64 x.signed.view):=hcc wr HLw 8 _ jd;have a9:wr.cell? ⟨b,off+k * 12+9,none⟩=some (.int .i64 x.signed.slot):=hcc wr HLw 9 _ jd;have a10:wr.cell? ⟨b,off+k * 12+10,none⟩=some (.string ⟨x.signed.digest.toArray⟩):=hcc wr HLw 10 _ jd;have a11:wr.cell? ⟨b,off+k * 12+11,none⟩=some (.string ⟨x.signed.sig.toArray⟩):=hcc wr HLw 11 _ jd;have HT:=hD (ZK m.statuses.l yo k hlt);have HN:=hD (fun h=>HNoSt.out (Yj m.statuses.l yo k hlt jcx));clear hcc;have HCall:Hid (Calls prog 155 #[.agg x] wr (zK (yo x) wr)):=hD (zb1 x wr);cases hq:yo x with
    |true=>
     have HQ:=hD hq;rw[hq]at HCall;clear hq;go_wp2_with fail;refine HCall.mono ?_;rintro e w1 ⟨rfl,b1⟩;have HB1:=hD (zbv HB b1);clear b1;go_wp2_with fail;go_roundw
     case rel=>exact⟨k+1,by go_num,by omega,hD (by rw[HT.out,HA.out,HX.out];show(true &&(yo x))=true;rw[HQ.out];rfl),HB1⟩
     case measure=>simp[intOf];omega
    |false=>
     have HQ:=hD hq;rw[hq]at HCall;clear hq;go_wp2_with fail;refine HCall.mono ?_;rintro e w1 ⟨rfl,b1⟩;have HB1:=hD (zbv HB b1);clear b1;go_wp2_with fail;go_ret;exact yA (HN HQ) (zC HB1)
  · obtain rfl:k=m.statuses.l.length:=by omega
    have HYSt:Hid (m.statuses.l.all yo=true):=hD jbc;clear HA hlt hk;go_wp2_with fail;go_loopw [4] (fun i wr=>∃k:Nat,i= .int .i64 k∧k≤m.entries.l.length∧Hid ((m.entries.l.take k).all (fun d=>num d.view)=true)∧Bx w (msC m) 38 wr) (fun i _=>m.entries.l.length-(intOf i).toNat)
    case atStart=>exact⟨0,rfl,by omega,hD jc,HB⟩
    case round=>
     obtain⟨k,rfl,hk,HA,hb⟩:=hrel;have HB:=hD hb;clear hb;have c14:wr.cell? ⟨w.heap.size,14,none⟩=some (.slice m.entries.a m.entries.l.length m.entries.c):=HG.out wr HB 14 _ rfl;by_cases hlt:k<m.entries.l.length
     · have i0':(0:Int)≤(k:Int):=by omega
       have i1:(k:Int) <(m.entries.l.length:Int):=by omega
       obtain⟨b,off,hxa,hg2,hcc⟩:=HRDe.at (fun _=>rfl) ja hlt;have HXA:=hD hxa;have hrun:∀w',Sem.run prog (Instr.indexAt 31 (.slice m.entries.a m.entries.l.length m.entries.c) (.int .i64 k)) w'= .ok (Value.pointer (some ⟨b,off+k * 3,none⟩)) w':=fun w'=>by
        rw[HXA.out];go_simp
       clear hxa;obtain⟨x,hx⟩:∃x,x=m.entries.l[k]:=⟨_,rfl⟩;have HX:=hD hx.symm;have HM:=hD (hx▸aH hlt:x∈m.entries.l);clear hx;have HLw:=hD (zC HB);have a0:wr.cell? ⟨b,off+k * 3,none⟩=some (.int .i64 x.view):=by simpa using hcc wr HLw 0 _ jd
       have HT:=hD (ZK m.entries.l (fun d=>num d.view) k hlt);have HN:=hD (fun h=>HNoDe.out (Yj m.entries.l (fun d=>num d.view) k hlt jcx));clear hcc;cases hq:num x.view with
       |true=>
        have HQ:=hD hq;clear hq;go_wp2_with fail;refine(HNum _ _).mono ?_;rintro e w1 ⟨rfl,rfl⟩;rw[HQ.out];go_wp2_with fail;go_roundw
        case rel=>exact⟨k+1,by go_num,by omega,hD (by rw[HT.out,HA.out,HX.out];show(true &&(num x.view))=true;rw[HQ.out];rfl),HB⟩
        case measure=>simp[intOf];omega
       |false=>
        have HQ:=hD hq;clear hq;go_wp2_with fail;refine(HNum _ _).mono ?_;rintro e w1 ⟨rfl,rfl⟩;rw[HQ.out];go_wp2_with fail;go_ret;exact yA (HN HQ) (zC HB)
     · obtain rfl:k=m.entries.l.length:=by omega
       have HYDe:Hid (m.entries.l.all (fun d=>num d.view)=true):=hD jbc;clear HA hlt hk;go_wp2_with fail;go_loopw [5] (fun i wr=>∃k:Nat,i= .int .i64 k∧k≤m.snapshot.chain.l.length∧Hid ((m.snapshot.chain.l.take k).all ZJ=true)∧Bx w (msC m) 38 wr) (fun i _=>m.snapshot.chain.l.length-(intOf i).toNat)
       case atStart=>exact⟨0,rfl,by omega,hD jc,HB⟩
       case round=>
        obtain⟨k,rfl,hk,HA,hb⟩:=hrel;have HB:=hD hb;clear hb;have c19:wr.cell? ⟨w.heap.size,19,none⟩=some (.slice m.snapshot.chain.a m.snapshot.chain.l.length m.snapshot.chain.c):=HG.out wr HB 19 _ rfl;have c15:wr.cell? ⟨w.heap.size,15,none⟩=some (.int .i64 m.snapshot.slot):=HG.out wr HB 15 _ rfl;by_cases hlt:k<m.snapshot.chain.l.length
        · have i0':(0:Int)≤(k:Int):=by omega
          have i1:(k:Int) <(m.snapshot.chain.l.length:Int):=by omega
          obtain⟨b,off,hxa,hg2,hcc⟩:=HRHo.at (fun _=>rfl) ja hlt;have HXA:=hD hxa;have hrun:∀w',Sem.run prog (Instr.indexAt 34 (.slice m.snapshot.chain.a m.snapshot.chain.l.length m.snapshot.chain.c) (.int .i64 k)) w'= .ok (Value.pointer (some ⟨b,off+k * 4,none⟩)) w':=fun w'=>by
           rw[HXA.out];go_simp
          clear hxa;obtain⟨x,hx⟩:∃x,x=m.snapshot.chain.l[k]:=⟨_,rfl⟩;have HX:=hD hx.symm;have HM:=hD (hx▸aH hlt:x∈m.snapshot.chain.l);clear hx;have HLw:=hD (zC HB);have a0:wr.cell? ⟨b,off+k * 4,none⟩=some (.int .i64 x.slot):=by simpa using hcc wr HLw 0 _ jd
          have a1:wr.cell? ⟨b,off+k * 4+1,none⟩=some (.int .i64 x.entry.view):=hcc wr HLw 1 _ jd;have HT:=hD (ZK m.snapshot.chain.l ZJ k hlt);have HN:=hD (fun h=>HNoHo.out (Yj m.snapshot.chain.l ZJ k hlt jcx));clear hcc;cases hq:num x.slot with
          |true=>
           have HQ:=hD hq;clear hq;cases hq2:num x.entry.view with
           |true=>
            have HQ2:=hD hq2;clear hq2;go_wp2_with fail;refine(HNum _ _).mono ?_;rintro e w1 ⟨rfl,rfl⟩;rw[HQ.out];go_wp2_with fail;refine(HNum _ _).mono ?_;rintro e w1 ⟨rfl,rfl⟩;rw[HQ2.out];go_wp2_with fail;go_roundw
            case rel=>exact⟨k+1,by go_num,by omega,hD (by rw[HT.out,HA.out,HX.out];show(true &&(num x.slot && num x.entry.view))=true;rw[HQ.out,HQ2.out];rfl),HB⟩
            case measure=>simp[intOf];omega
           |false=>
            have HQ2:=hD hq2;clear hq2;go_wp2_with fail;refine(HNum _ _).mono ?_;rintro e w1 ⟨rfl,rfl⟩;rw[HQ.out];go_wp2_with fail;refine(HNum _ _).mono ?_;rintro e w1 ⟨rfl,rfl⟩;rw[HQ2.out];go_wp2_with fail;go_ret;exact yA (HN (by show(num x.slot && num x.entry.view)=false;rw[HQ.out,HQ2.out];rfl)) (zC HB)
          |false=>
           have HQ:=hD hq;clear hq;go_wp2_with fail;refine(HNum _ _).mono ?_;rintro e w1 ⟨rfl,rfl⟩;rw[HQ.out];go_wp2_with fail;go_ret;exact yA (HN (by show(num x.slot && num x.entry.view)=false;rw[HQ.out];rfl)) (zC HB)
        · obtain rfl:k=m.snapshot.chain.l.length:=by omega
          have HYHo:Hid (m.snapshot.chain.l.all ZJ=true):=hD jbc;clear HA hlt hk;have HZ:Hid (Zz m=num m.snapshot.slot):=hD (by unfold Zz;rw[HYSt.out,HYDe.out,HYHo.out];rfl);have HB3:=hD (zC HB);go_wp2_with fail;refine(HNum _ _).mono ?_;rintro e w1 ⟨rfl,rfl⟩;go_wp2_with fail;go_ret;exact yA HZ HB3
theorem hr_true(m:Ms)(h:2000<m.value.length∨12<m.statuses.l.length∨8<m.entries.l.length∨500<m.texts.l.length∨64<m.snapshot.root.length∨20<m.snapshot.chain.l.length):true= !(zbF m && zfL m):=by
 have:(zbF m && zfL m)=false:=by
  unfold zbF zfL;rcases h with h|h|h|h|h|h
  · rw[av (show ¬m.value.length≤2000 by omega)];simp
  · exact fo225
  · rw[av (show ¬m.entries.l.length≤8 by omega)];simp
  · rw[av (show ¬m.texts.l.length≤500 by omega)];simp
  · rw[av (show ¬m.snapshot.root.length≤64 by omega)];simp
  · rw[av (show ¬m.snapshot.chain.l.length≤20 by omega)];simp
 rw[this];rfl
theorem hr_last(m:Ms):(decide ((2000:Int) <m.value.length) || decide ((12:Int) <m.statuses.l.length) || decide ((8:Int) <m.entries.l.length) || decide ((500:Int) <m.texts.l.length) || decide ((64:Int) <m.snapshot.root.length) || decide ((20:Int) <m.snapshot.chain.l.length))= !(zbF m && zfL m):=by
 rw[show(2000:Int)=((2000:Nat):Int) from rfl,show(12:Int)=((12:Nat):Int) from rfl,show(8:Int)=((8:Nat):Int) from rfl,show(500:Int)=((500:Nat):Int) from rfl,show(64:Int)=((64:Nat):Int) from rfl,show(20:Int)=((20:Nat):Int) from rfl,Zo,Zo,Zo,Zo,Zo,Zo];unfold zbF zfL;cases decide (m.value.length≤2000) <;> cases decide (m.statuses.l.length≤12) <;> cases decide (m.entries.l.length≤8) <;> cases decide (m.texts.l.length≤500) <;> cases decide (m.snapshot.root.length≤64) <;> cases decide (m.snapshot.chain.l.length≤20) <;> rfl
theorem lengths_any(m:Ms)(w:World)(hok:m.ok w)(hf:MsFew m):Calls prog 108 #[.agg (msC m).toArray] w (zK (yQ m) w):=by
 have HOK:=hD hok;have hsl:=hf.statuses;have hel:=hf.entries;have hcl:=hf.chain;have HRSt:Hid (Rd w 12 m.statuses.a m.statuses.l.length (m.statuses.l.flatMap stC)):=hD hok.2.2.1.1;have HRDe:Hid (Rd w 3 m.entries.a m.entries.l.length (m.entries.l.flatMap deC)):=hD hok.2.2.2.1.1;have HRHo:Hid (Rd w 4 m.snapshot.chain.a m.snapshot.chain.l.length (m.snapshot.chain.l.flatMap hoC)):=hD hok.2.2.2.2.1.2.2.2.1;have HG:Hid (∀W,Bx w (msC m) 38 W→∀j v,(msC m)[j]? =some v→W.cell? ⟨w.heap.size,j,none⟩=some v):=hD (fun W hb j v hv=>zg hb j v hv);have HF:=hD hf;have htl:=hf.texts;have htt0:=hf.tot;have HTot:=hD (zdd m.texts.l);have HTg:=hD (tot_get m.texts.l);have HTx0:Hid (Rd w 1 m.texts.a m.texts.l.length (m.texts.l.flatMap strV)):=hD hok.2.2.2.2.2;have HB0:=hD (Zy w (msC m) 38);have g15:(w.alloc (.cells (msC m).toArray 38)).cell? ⟨w.heap.size,15,none⟩=some (.int .i64 m.snapshot.slot):=HG.out _ HB0 15 _ rfl;have g16:(w.alloc (.cells (msC m).toArray 38)).cell? ⟨w.heap.size,16,none⟩=some (.string ⟨m.snapshot.root.toArray⟩):=HG.out _ HB0 16 _ rfl;have g17:(w.alloc (.cells (msC m).toArray 38)).cell? ⟨w.heap.size,17,none⟩=some (.slice m.snapshot.chunks.a m.snapshot.chunks.l.length m.snapshot.chunks.c):=HG.out _ HB0 17 _ rfl;have g18:(w.alloc (.cells (msC m).toArray 38)).cell? ⟨w.heap.size,18,none⟩=some (.slice m.snapshot.proof.a m.snapshot.proof.l.length m.snapshot.proof.c):=HG.out _ HB0 18 _ rfl;have g19:(w.alloc (.cells (msC m).toArray 38)).cell? ⟨w.heap.size,19,none⟩=some (.slice m.snapshot.chain.a m.snapshot.chain.l.length m.snapshot.chain.c):=HG.out _ HB0 19 _ rfl;clear hok hf;go_in;go_upto_region 2 with fail;clear g15 g16 g17 g18 g19;obtain⟨wq,hwq⟩:∃wq,wq=(w.alloc (.cells (msC m).toArray 38)).alloc (.cells m.snapshot 36):=⟨_,rfl⟩;rw[←hwq];have HBq:Hid (Bx w (msC m) 38 wq):=hD (by rw[hwq];exact yn HB0 _);have HXq:Hid (∀j v,(snC m.snapshot)[j]? =some v→wq.cell? ⟨w.heap.size+1,j,none⟩=some v):=hD (fun j v hv=>by rw[hwq];exact zdf _ (snC m.snapshot) 36 _ jc j v hv);have hqs:w.heap.size+2≤wq.heap.size:=by rw[hwq];simp
 clear hwq;have HLowq:Hid (∀W,Below wq.heap.size wq W→Below w.heap.size w W):=hD (fun W hb=>(zC HBq).trans (hb.mono ja));have HGm:Hid (∀W,Below wq.heap.size wq W→∀j v,(msC m)[j]? =some v→W.cell? ⟨w.heap.size,j,none⟩=some v):=hD (fun W hb j v hv=>(hb.cell (p:=⟨w.heap.size,j,none⟩) jw).trans (zg HBq j v hv));have HGx:Hid (∀W,Below wq.heap.size wq W→∀j v,(snC m.snapshot)[j]? =some v→W.cell? ⟨w.heap.size+1,j,none⟩=some v):=hD (fun W hb j v hv=>(hb.cell (p:=⟨w.heap.size+1,j,none⟩) (by show w.heap.size+1< _;omega)).trans (HXq j v hv));have c5:wq.cell? ⟨w.heap.size,5,none⟩=some (.string ⟨m.value.toArray⟩):=HGm.out wq (ae _ _) 5 _ rfl;have c13:wq.cell? ⟨w.heap.size,13,none⟩=some (.slice m.statuses.a m.statuses.l.length m.statuses.c):=HGm.out wq (ae _ _) 13 _ rfl;have c14:wq.cell? ⟨w.heap.size,14,none⟩=some (.slice m.entries.a m.entries.l.length m.entries.c):=HGm.out wq (ae _ _) 14 _ rfl;have c20:wq.cell? ⟨w.heap.size,20,none⟩=some (.slice m.texts.a m.texts.l.length m.texts.c):=HGm.out wq (ae _ _) 20 _ rfl;have x1:wq.cell? ⟨w.heap.size+1,1,none⟩=some (.string ⟨m.snapshot.root.toArray⟩):=HGx.out wq (ae _ _) 1 _ rfl;have x4:wq.cell? ⟨w.heap.size+1,4,none⟩=some (.slice m.snapshot.chain.a m.snapshot.chain.l.length m.snapshot.chain.c):=HGx.out wq (ae _ _) 4 _ rfl;go_cut [44] from 11 to 44 (fun t wx=>t= .bool (!(zbF m && zfL m))∧wq=wx)
 case first=>
  go_wp2_with fail;all_goals
   go_meet
   case rel=>exact⟨aL Value.bool (by first|exact hr_last m|exact hr_true m ja),rfl⟩
 case rest=>
  obtain⟨rfl,rfl⟩:=hcut;cases hh:(zbF m && zfL m) with
  |false=>
   have HZ:Hid (yQ m=false):=hD (by unfold yQ;rw[hh];rfl);clear hh;go_wp2_with fail;go_ret;exact yA HZ (HLowq _ (ae _ _))
  |true=>
   have HHd:Hid (zbF m=true∧zfL m=true):=hD (by simpa using hh);have HNoSt:Hid (m.statuses.l.all yB=false→yQ m=false):=hD (fun h=>by unfold yQ;rw[h];simp);have HNoDe:Hid (m.entries.l.all zS=false→yQ m=false):=hD (fun h=>by unfold yQ;rw[h];simp);have HNoHo:Hid (m.snapshot.chain.l.all (fun h=>zS h.entry)=false→yQ m=false):=hD (fun h=>by unfold yQ;rw[h];simp);clear hh x1 x4 c5 c13 c14;have HTx:=hD (Rd.below HTx0 (HLowq wq (ae _ _)));go_wp2_with fail;go_loop [4,5] (fun s i=>∃k:Nat,i= .int .i64 k∧k≤m.texts.l.length∧s= .int .i64 (tot (m.texts.l.take k):Nat)) (fun _ i=>m.texts.l.length-(intOf i).toNat)
   case atStart=>exact⟨0,rfl,by omega,by simp[tot]⟩
   case round=>
    obtain⟨k,rfl,hk,rfl⟩:=hrel;by_cases hlt:k<m.texts.l.length
    · have i0':(0:Int)≤(k:Int):=by omega
      have i1:(k:Int) <(m.texts.l.length:Int):=by omega
      obtain⟨b,off,hxa,hg2,hcc⟩:=HTx.at (fun _=>rfl) ja hlt;have HXA:=hD hxa;have hrun:Sem.run prog (Instr.indexAt 32 (.slice m.texts.a m.texts.l.length m.texts.c) (.int .i64 k)) wq= .ok (Value.pointer (some ⟨b,off+k,none⟩)) wq:=by
       rw[HXA.out];go_simp
      clear hxa;have a0:wq.cell? ⟨b,off+k,none⟩=some (.string ⟨(m.texts.l[k]).toArray⟩):=by simpa using hcc wq (ae _ _) 0 _ rfl
      exact fo76
    · obtain rfl:k=m.texts.l.length:=by omega
      have HTk:Hid (tot (m.texts.l.take m.texts.l.length)=tot m.texts.l):=hD (by rw[dN]);rw[HTk.out];clear hlt hk;go_wp2_with fail;clear c20;go_loopw [6] (fun i wr=>∃k:Nat,i= .int .i64 k∧k≤m.statuses.l.length∧Hid ((m.statuses.l.take k).all yB=true)∧Below wq.heap.size wq wr) (fun i _=>m.statuses.l.length-(intOf i).toNat)
      case atStart=>exact⟨0,rfl,by omega,hD jc,ae _ _⟩
      case round=>
       obtain⟨k,rfl,hk,HA,hb⟩:=hrel;have HB:=hD hb;clear hb;have c13:wr.cell? ⟨w.heap.size,13,none⟩=some (.slice m.statuses.a m.statuses.l.length m.statuses.c):=HGm.out wr HB 13 _ rfl;by_cases hlt:k<m.statuses.l.length
       · have i0':(0:Int)≤(k:Int):=by omega
         have i1:(k:Int) <(m.statuses.l.length:Int):=by omega
         obtain⟨b,off,hxa,hg2,hcc⟩:=HRSt.at (fun _=>rfl) ja hlt;have HXA:=hD hxa;have hrun:∀w',Sem.run prog (Instr.indexAt 30 (.slice m.statuses.a m.statuses.l.length m.statuses.c) (.int .i64 k)) w'= .ok (Value.pointer (some ⟨b,off+k * 12,none⟩)) w':=fun w'=>by
          rw[HXA.out];go_simp
         clear hxa;obtain⟨x,hx⟩:∃x,x=m.statuses.l[k]:=⟨_,rfl⟩;have HX:=hD hx.symm;have HM:=hD (hx▸aH hlt:x∈m.statuses.l);clear hx;have HLw:=hD (HLowq _ HB);have a0:wr.cell? ⟨b,off+k * 12,none⟩=some (.int .i64 x.server):=by simpa using hcc wr HLw 0 _ jd
         have a1:wr.cell? ⟨b,off+k * 12+1,none⟩=some (.int .i64 x.view):=hcc wr HLw 1 _ jd;have a2:wr.cell? ⟨b,off+k * 12+2,none⟩=some (.int .i64 x.length):=hcc wr HLw 2 _ jd;have a3:wr.cell? ⟨b,off+k * 12+3,none⟩=some (.int .i64 x.lockView):=hcc wr HLw 3 _ jd;have a4:wr.cell? ⟨b,off+k * 12+4,none⟩=some (.string ⟨x.lock.toArray⟩):=hcc wr HLw 4 _ jd;have a5:wr.cell? ⟨b,off+k * 12+5,none⟩=some (.slice x.cert.a x.cert.l.length x.cert.c):=hcc wr HLw 5 _ jd;have a6:wr.cell? ⟨b,off+k * 12+6,none⟩=some (.int .i64 x.signed.server):=hcc wr HLw 6 _ jd;have a7:wr.cell? ⟨b,off+k * 12+7,none⟩=some (.int .i64 x.signed.kind):=hcc wr HLw 7 _ jd;have a8:wr.cell? ⟨b,off+k * 12+8,none⟩=some (.int .i64 x.signed.view):=hcc wr HLw 8 _ jd;have a9:wr.cell? ⟨b,off+k * 12+9,none⟩=some (.int .i64 x.signed.slot):=hcc wr HLw 9 _ jd;have a10:wr.cell? ⟨b,off+k * 12+10,none⟩=some (.string ⟨x.signed.digest.toArray⟩):=hcc wr HLw 10 _ jd;have a11:wr.cell? ⟨b,off+k * 12+11,none⟩=some (.string ⟨x.signed.sig.toArray⟩):=hcc wr HLw 11 _ jd;have HT:=hD (ZK m.statuses.l yB k hlt);have HN:=hD (fun h=>HNoSt.out (Yj m.statuses.l yB k hlt jcx));clear hcc;have HCall:Hid (Calls prog 156 #[.agg x] wr (zK (yB x) wr)):=hD (zca x wr (Rd.below (HOK.2.2.1.2 x HM).2.1 HLw) (HF.certs x HM));cases hq:yB x with
         |true=>
          have HQ:=hD hq;rw[hq]at HCall;clear hq;go_wp2_with fail;refine HCall.mono ?_;rintro e w1 ⟨rfl,b1⟩;have HB1:=hD (bon HB b1);clear b1;go_wp2_with fail;go_roundw
          case rel=>exact⟨k+1,by go_num,by omega,hD (by rw[HT.out,HA.out,HX.out];show(true &&(yB x))=true;rw[HQ.out];rfl),HB1⟩
          case measure=>simp[intOf];omega
         |false=>exact fo48
       · obtain rfl:k=m.statuses.l.length:=by omega
         have HYSt:Hid (m.statuses.l.all yB=true):=hD jbc;clear HA hlt hk;go_wp2_with fail;go_loopw [7] (fun i wr=>∃k:Nat,i= .int .i64 k∧k≤m.entries.l.length∧Hid ((m.entries.l.take k).all zS=true)∧Below wq.heap.size wq wr) (fun i _=>m.entries.l.length-(intOf i).toNat)
         case atStart=>exact⟨0,rfl,by omega,hD jc,HB⟩
         case round=>
          obtain⟨k,rfl,hk,HA,hb⟩:=hrel;have HB:=hD hb;clear hb;have c14:wr.cell? ⟨w.heap.size,14,none⟩=some (.slice m.entries.a m.entries.l.length m.entries.c):=HGm.out wr HB 14 _ rfl;by_cases hlt:k<m.entries.l.length
          · have i0':(0:Int)≤(k:Int):=by omega
            have i1:(k:Int) <(m.entries.l.length:Int):=by omega
            obtain⟨b,off,hxa,hg2,hcc⟩:=HRDe.at (fun _=>rfl) ja hlt;have HXA:=hD hxa;have hrun:∀w',Sem.run prog (Instr.indexAt 31 (.slice m.entries.a m.entries.l.length m.entries.c) (.int .i64 k)) w'= .ok (Value.pointer (some ⟨b,off+k * 3,none⟩)) w':=fun w'=>by
             rw[HXA.out];go_simp
            clear hxa;obtain⟨x,hx⟩:∃x,x=m.entries.l[k]:=⟨_,rfl⟩;have HX:=hD hx.symm;have HM:=hD (hx▸aH hlt:x∈m.entries.l);clear hx;have HLw:=hD (HLowq _ HB);have a0:wr.cell? ⟨b,off+k * 3,none⟩=some (.int .i64 x.view):=by simpa using hcc wr HLw 0 _ jd
            have a1:wr.cell? ⟨b,off+k * 3+1,none⟩=some (.string ⟨x.value.toArray⟩):=hcc wr HLw 1 _ jd;have a2:wr.cell? ⟨b,off+k * 3+2,none⟩=some (.slice x.cert.a x.cert.l.length x.cert.c):=hcc wr HLw 2 _ jd;have HT:=hD (ZK m.entries.l zS k hlt);have HN:=hD (fun h=>HNoDe.out (Yj m.entries.l zS k hlt jcx));clear hcc;have HCall:Hid (Calls prog 157 #[.agg x] wr (zK (zS x) wr)):=hD (zcA x wr (Rd.below (HOK.2.2.2.1.2 x HM).2.1 HLw) (HF.ecerts x HM));cases hq:zS x with
            |true=>
             have HQ:=hD hq;rw[hq]at HCall;clear hq;go_wp2_with fail;refine HCall.mono ?_;rintro e w1 ⟨rfl,b1⟩;have HB1:=hD (bon HB b1);clear b1;go_wp2_with fail;go_roundw
             case rel=>exact⟨k+1,by go_num,by omega,hD (by rw[HT.out,HA.out,HX.out];show(true &&(zS x))=true;rw[HQ.out];rfl),HB1⟩
             case measure=>simp[intOf];omega
            |false=>exact fo48
          · obtain rfl:k=m.entries.l.length:=by omega
            have HYDe:Hid (m.entries.l.all zS=true):=hD jbc;clear HA hlt hk;go_wp2_with fail;go_loopw [8] (fun i wr=>∃k:Nat,i= .int .i64 k∧k≤m.snapshot.chain.l.length∧Hid ((m.snapshot.chain.l.take k).all (fun h=>zS h.entry)=true)∧Below wq.heap.size wq wr) (fun i _=>m.snapshot.chain.l.length-(intOf i).toNat)
            case atStart=>exact⟨0,rfl,by omega,hD jc,HB⟩
            case round=>
             obtain⟨k,rfl,hk,HA,hb⟩:=hrel;have HB:=hD hb;clear hb;have c4:wr.cell? ⟨w.heap.size+1,4,none⟩=some (.slice m.snapshot.chain.a m.snapshot.chain.l.length m.snapshot.chain.c):=HGx.out wr HB 4 _ rfl;by_cases hlt:k<m.snapshot.chain.l.length
             · have i0':(0:Int)≤(k:Int):=by omega
               have i1:(k:Int) <(m.snapshot.chain.l.length:Int):=by omega
               obtain⟨b,off,hxa,hg2,hcc⟩:=HRHo.at (fun _=>rfl) ja hlt;have HXA:=hD hxa;have hrun:∀w',Sem.run prog (Instr.indexAt 34 (.slice m.snapshot.chain.a m.snapshot.chain.l.length m.snapshot.chain.c) (.int .i64 k)) w'= .ok (Value.pointer (some ⟨b,off+k * 4,none⟩)) w':=fun w'=>by
                rw[HXA.out];go_simp
               clear hxa;obtain⟨x,hx⟩:∃x,x=m.snapshot.chain.l[k]:=⟨_,rfl⟩;have HX:=hD hx.symm;have HM:=hD (hx▸aH hlt:x∈m.snapshot.chain.l);clear hx;have HLw:=hD (HLowq _ HB);have a1:wr.cell? ⟨b,off+k * 4+1,none⟩=some (.int .i64 x.entry.view):=hcc wr HLw 1 _ jd;have a2:wr.cell? ⟨b,off+k * 4+2,none⟩=some (.string ⟨x.entry.value.toArray⟩):=hcc wr HLw 2 _ jd;have a3:wr.cell? ⟨b,off+k * 4+3,none⟩=some (.slice x.entry.cert.a x.entry.cert.l.length x.entry.cert.c):=hcc wr HLw 3 _ jd;have HT:=hD (ZK m.snapshot.chain.l (fun h=>zS h.entry) k hlt);have HN:=hD (fun h=>HNoHo.out (Yj m.snapshot.chain.l (fun h=>zS h.entry) k hlt jcx));clear hcc;have HCall:Hid (Calls prog 157 #[.agg x.entry] wr (zK (zS x.entry) wr)):=hD (zcA x.entry wr (Rd.below (HOK.2.2.2.2.1.2.2.2.2 x HM).2.2.1 HLw) (HF.hcerts x HM));cases hq:zS x.entry with
               |true=>
                have HQ:=hD hq;rw[hq]at HCall;clear hq;go_wp2_with fail;refine HCall.mono ?_;rintro e w1 ⟨rfl,b1⟩;have HB1:=hD (bon HB b1);clear b1;go_wp2_with fail;go_roundw
                case rel=>exact⟨k+1,by go_num,by omega,hD (by rw[HT.out,HA.out,HX.out];show(true &&(zS x.entry))=true;rw[HQ.out];rfl),HB1⟩
                case measure=>simp[intOf];omega
               |false=>exact fo48
             · obtain rfl:k=m.snapshot.chain.l.length:=by omega
               have HYHo:Hid (m.snapshot.chain.l.all (fun h=>zS h.entry)=true):=hD jbc;clear HA hlt hk;have HZ:Hid (yQ m=(decide (tot m.texts.l≤60000) && z8 m.signed && zR m.snapshot.proof.l)):=hD (by unfold yQ;rw[HHd.out.1,HHd.out.2,HYSt.out,HYDe.out,HYHo.out];rfl);have HLw:=hD (HLowq _ HB);have d7:wr.cell? ⟨w.heap.size,7,none⟩=some (.int .i64 m.signed.server):=HGm.out wr HB 7 _ rfl;have d8:wr.cell? ⟨w.heap.size,8,none⟩=some (.int .i64 m.signed.kind):=HGm.out wr HB 8 _ rfl;have d9:wr.cell? ⟨w.heap.size,9,none⟩=some (.int .i64 m.signed.view):=HGm.out wr HB 9 _ rfl;have d10:wr.cell? ⟨w.heap.size,10,none⟩=some (.int .i64 m.signed.slot):=HGm.out wr HB 10 _ rfl;have d11:wr.cell? ⟨w.heap.size,11,none⟩=some (.string ⟨m.signed.digest.toArray⟩):=HGm.out wr HB 11 _ rfl;have d12:wr.cell? ⟨w.heap.size,12,none⟩=some (.string ⟨m.signed.sig.toArray⟩):=HGm.out wr HB 12 _ rfl;have HO:Hid (∀h,wr.heap.size=h→Calls prog 158 #[.slice (some ⟨h,0,none⟩) 1 1] (wr.alloc (.cells m.signed 29)) fun e w'=>e= .returned (.bool (z8 m.signed))∧Below wq.heap.size wq w'):=hD (fun h hh=>short_one m.signed wr wq HB hh);have HP:Hid (∀w1,Below wq.heap.size wq w1→Calls prog 158 #[m.snapshot.proof] w1 fun e w'=>e= .returned (.bool (zR m.snapshot.proof.l))∧w1=w'):=hD (fun w1 hb=>zdj _ _ _ w1 (Rd.below HOK.2.2.2.2.1.2.2.1.1 (HLowq _ hb)) HF.proof);by_cases htt:tot m.texts.l≤60000
               · cases hq:z8 m.signed with
                 |true=>
                  have HQ:=hD hq;rw[hq]at HO;clear hq;go_wp2_with fail;refine(HO _ rfl).mono ?_;rintro e w1 ⟨rfl,b1⟩;have HB1:=hD b1;have f3:w1.cell? ⟨w.heap.size+1,3,none⟩=some (.slice m.snapshot.proof.a m.snapshot.proof.l.length m.snapshot.proof.c):=HGx.out w1 b1 3 _ rfl;clear b1;go_wp2_with fail;refine(HP _ HB1).mono ?_;rintro e w2 ⟨rfl,rfl⟩;exact fo151
                 |false=>
                  have HQ:=hD hq;rw[hq]at HO;clear hq;go_wp2_with fail;refine(HO _ rfl).mono ?_;rintro e w1 ⟨rfl,b1⟩;have HB1:=hD b1;clear b1;exact fo151
               · go_wp2_with fail;go_ret;exact yA (by rw[HZ.out,av htt];rfl) HLw
theorem zb5(m:Ms)(w:World)(hok:m.ok w)(hf:MsFew m):Calls prog 61 #[.agg (msC m).toArray] w (ZN (vMs m) w):=by
 by_cases h:m.kind<1∨12<m.kind
 · exact valid_kind m w h
 · exact valid_in m w h hok hf
theorem refValid_kind(m:Ms)(w:World)(h:m.kind<1∨12<m.kind):Calls prog 66 #[.agg (msC m).toArray] w (ZN (vMs m) w):=by
 have HV:=hD (vMs_kind h);have c0:(w.alloc (.cells (msC m).toArray 38)).cell? ⟨w.heap.size,0,none⟩=some (.int .i64 m.kind):=zg (Zy w (msC m) 38) 0 _ rfl;by_cases h1:m.kind<1
 · go_in;exact fo187
 · have h2:12<m.kind:=by omega
   go_in;exact fo187
theorem refValid_in(m:Ms)(w:World)(h:¬(m.kind<1∨12<m.kind))(hok:m.ok w)(hf:MsFew m):Calls prog 66 #[.agg (msC m).toArray] w (ZN (vMs m) w):=by
 have HV7:=hD (vMs_part h);have HV1:=hD (vMs_spare h);have HVT:=hD (vMs_tail h);have HN:=hD (fun n w'=>zbp n w');have HSp:=hD (fun w1=>spare_any m h w1 hf.chunks hf.proof hf.chain);have HRg:Hid (∀w1,Below w.heap.size w w1→Calls prog 107 #[.agg (msC m).toArray] w1 (zK (Zz m) w1)):=hD (fun w1 hb=>ranges_any m w1 (Ms.below hok hb) hf);have HLn:Hid (∀w1,Below w.heap.size w w1→Calls prog 108 #[.agg (msC m).toArray] w1 (zK (yQ m) w1)):=hD (fun w1 hb=>lengths_any m w1 (Ms.below hok hb) hf);have hk1:¬m.kind<1:=fun a=>h (.inl a)
 have hk2:¬12<m.kind:=fun a=>h (.inr a)
 have hsl:=hf.statuses;have hchl:=hf.chunks;clear h hok hf;go_in;go_upto_region 1 with fail;obtain⟨wb,hwb⟩:∃wb,wb=w.alloc (.cells (msC m).toArray 38):=⟨_,rfl⟩;rw[←hwb];have HB0:Hid (Bx w (msC m) 38 wb):=hD (by rw[hwb];exact Zy w (msC m) 38);clear hwb;have HRow:Hid (∀W,Bx w (msC m) 38 W→W.rangeAt w.heap.size 0 (msC m)):=hD (fun W hb j v hv=>by rw[bI];exact zg hb j v hv);have HG:Hid (∀W,Bx w (msC m) 38 W→∀j v,(msC m)[j]? =some v→W.cell? ⟨w.heap.size,j,none⟩=some v):=hD (fun W hb j v hv=>zg hb j v hv);have c0:wb.cell? ⟨w.heap.size,0,none⟩=some (.int .i64 m.kind):=HG.out wb HB0 0 _ rfl;have c1:wb.cell? ⟨w.heap.size,1,none⟩=some (.int .i64 m.src):=HG.out wb HB0 1 _ rfl;have c2:wb.cell? ⟨w.heap.size,2,none⟩=some (.int .i64 m.dst):=HG.out wb HB0 2 _ rfl;have c3:wb.cell? ⟨w.heap.size,3,none⟩=some (.int .i64 m.view):=HG.out wb HB0 3 _ rfl;have c4:wb.cell? ⟨w.heap.size,4,none⟩=some (.int .i64 m.slot):=HG.out wb HB0 4 _ rfl;have c6:wb.cell? ⟨w.heap.size,6,none⟩=some (.int .i64 m.till):=HG.out wb HB0 6 _ rfl;go_upto_region 3 with fail;clear hk1 hk2;go_cut [45] from 11 to 45 (fun t wx=>t= .bool (zbM m)∧wb=wx)
 case first=>
  go_wp2_with (go_at_call 105;refine(HN _ _).mono ?_;rintro e w' ⟨rfl,rfl⟩);all_goals
   go_meet
   case rel=>exact⟨by first
    |exact aL Value.bool (zgb m je je)
    |exact aL Value.bool (partB_lt m ja).symm
    |exact aL Value.bool (zgz m je).symm
    |exact aL Value.bool (zgj m je).symm,rfl⟩
 case rest=>
  obtain⟨rfl,rfl⟩:=hcut;cases hp:zbM m with
  |true=>exact fo189
  |false=>
   have HVT2:=hD (HVT hp);have HV12:=hD (HV1 hp);clear hp c0 c1 c2 c3 c4 c6;go_upto_region 5 with fail;go_cut [58] from 46 to 58 (fun t wx=>t= .bool (Z8 m || oneB m)∧Bx w (msC m) 38 wx)
   case first=>
    go_wp2_with (refine ak rfl 38 _ rfl _ 0 rfl (msC m) _ (HRow _ HB0) underlying38 rfl (zcz m) ?_);refine(HSp _).mono ?_;rintro e w2 ⟨rfl,b2⟩;have hb2:=zbv HB0 b2;have HB2:=hD hb2;have d0:w2.cell? ⟨w.heap.size,0,none⟩=some (.int .i64 m.kind):=HG.out w2 HB2 0 _ rfl;have d13:w2.cell? ⟨w.heap.size,13,none⟩=some (.slice m.statuses.a m.statuses.l.length m.statuses.c):=HG.out w2 HB2 13 _ rfl;clear hb2 b2;cases hsp:Z8 m with
    |true=>
     have HSq:=hD hsp;clear hsp;go_wp2_with fail;go_meet
     case rel=>exact⟨aL Value.bool (by rw[HSq.out,Bool.true_or]),HB2⟩
    |false=>
     have HSq:=hD hsp;clear hsp;by_cases hk2:m.kind=2
     · have hk3:(m.kind == 2)=true:=by simp[hk2]
       have HO:Hid (((m.statuses.l.length:Int) != 1)=oneB m):=hD (fo219);have HK2:=hD hk2;clear hk2;go_wp2_with fail;go_meet
       case rel=>exact⟨aL Value.bool (by rw[HSq.out,fD,HO.out]),HB2⟩
     · have hk3:(m.kind == 2)=false:=by simp[hk2]
       have HO:Hid (oneB m=false):=hD (by unfold oneB;rw[av hk2];rfl);go_wp2_with fail;go_meet
       case rel=>exact⟨aL Value.bool (by rw[HSq.out,HO.out,fD]),HB2⟩
   case rest=>
    obtain⟨rfl,hbx⟩:=hcut;obtain⟨w3,hw3⟩:∃w3:World,w3=wc:=⟨_,rfl⟩;subst hw3;have HB3:=hD hbx;clear hbx HSp;cases hs:(Z8 m || oneB m) with
    |true=>
     have HV:=hD (HV12 (by simpa using hs));clear hs;go_wp2_with fail;go_ret;exact Zp HV (zC HB3)
    |false=>
     have hs2:Z8 m=false∧oneB m=false:=by simpa using hs
     have HV:Hid (vMs m=vTail m):=hD (HVT2 hs2.1 hs2.2);clear hs hs2 HV12 HV7 HV1 HVT HVT2;have HR3:=hD (HRg w3 (zC HB3));go_wp2_with (refine ak rfl 38 _ rfl _ 0 rfl (msC m) _ (HRow _ HB3) underlying38 rfl (zcz m) ?_);refine HR3.mono ?_;rintro e w4 ⟨rfl,b4⟩;have HB4:=hD (zbv HB3 b4);clear b4 HR3;cases hr:Zz m with
     |false=>
      have HZ:Hid (vMs m=7):=hD (by rw[HV.out];unfold vTail;rw[af hr]);clear hr;go_wp2_with fail;go_ret;exact Zp HZ (zC HB4)
     |true=>
      have HR4:=hD hr;clear hr;have HL4:=hD (HLn w4 (zC HB4));go_wp2_with (refine ak rfl 38 _ rfl _ 0 rfl (msC m) _ (HRow _ HB4) underlying38 rfl (zcz m) ?_);refine HL4.mono ?_;rintro e w5 ⟨rfl,b5⟩;have HB5:=hD (zbv HB4 b5);clear b5 HL4;have c17:w5.cell? ⟨w.heap.size,17,none⟩=some (.slice m.snapshot.chunks.a m.snapshot.chunks.l.length m.snapshot.chunks.c):=HG.out w5 HB5 17 _ rfl;cases hr:yQ m with
      |false=>
       have HZ:Hid (vMs m=3):=hD (by rw[HV.out];unfold vTail;rw[aa (by rw[HR4.out];simp),af hr]);clear hr;go_wp2_with fail;go_ret;exact Zp HZ (zC HB5)
      |true=>
       have HZ:Hid (vMs m=if 0<m.snapshot.chunks.l.length then 1 else 0):=hD (by rw[HV.out];unfold vTail;rw[aa (by rw[HR4.out];simp),aa (by rw[hr];simp)]);clear hr;by_cases hch:0<m.snapshot.chunks.l.length
       · have HZ1:Hid (vMs m=1):=hD (by rw[HZ.out,af hch]);exact fo201
       · have HZ1:Hid (vMs m=0):=hD (by rw[HZ.out,aa hch]);exact fo201
theorem ZB(m:Ms)(w:World)(hok:m.ok w)(hf:MsFew m):Calls prog 66 #[.agg (msC m).toArray] w (ZN (vMs m) w):=by
 by_cases h:m.kind<1∨12<m.kind
 · exact refValid_kind m w h
 · exact refValid_in m w h hok hf
