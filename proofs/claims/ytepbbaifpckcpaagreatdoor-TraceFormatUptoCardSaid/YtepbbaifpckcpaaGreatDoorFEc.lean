/- The contracts of the reference on requests: Same, In, request, requests, Few. -/
import Derived.Laws.StructEq
import Derived.Laws.IdiomStrings
import Derived.Deep.RegionHeld3
import Derived.Test.YtepbbaifpckcpaaGreatDoorFFo
import Derived.Test.YtepbbaifpckcpaaGreatDoorFPl
import Derived.Test.YtepbbaifpckcpaaGreatDoorFEa
import Derived.Test.YtepbbaifpckcpaaGreatDoorFWa
namespace Go.Proofs.YtepbbaifpckcpaaGreatDoor.Q40
set_option maxRecDepth 100000
set_option maxHeartbeats 1000000
open Go.Proofs.YtepbbaifpckcpaaGreatDoor
open Go.RowKit
theorem zbN (a b:Rq) (w:World):Calls Tryz.prog 277 #[.agg #[.int .i64 a.client, .int .i64 a.number, .string ⟨a.op.toArray⟩], .agg #[.int .i64 b.client, .int .i64 b.number, .string ⟨b.op.toArray⟩]] w (zC (same a b) w):=fo47
theorem refIn_any (A:Option Addr) (c:Nat) (l:List Rq) (r:Rq) (w:World) (hr:Rd w 3 A l.length (l.flatMap rqC)) (hn:l.length≤9223372036854775807) :
    Calls Tryz.prog 254 #[.slice A l.length c, .agg #[.int .i64 r.client, .int .i64 r.number, .string ⟨r.op.toArray⟩]] w (zC (inB l r) w):=by
 have HR:=hD hr;have H0:=hD (Zk w (rqC r) 191);clear hr;go_in;go_wp2_with fail;go_loopw [5] (fun i wr=>∃k:Nat,i= .int .i64 k∧k≤l.length∧inB (l.take k) r=false∧Bx w (rqC r) 191 wr) (fun i _=>l.length-(intOf i).toNat)
 case atStart=>exact⟨0,rfl,by omega,rfl,H0.out⟩
 case round=>
  obtain⟨k,rfl,hk,hno,hb⟩:=hrel;have HN:=hD hno;clear hno;by_cases hlt:k<l.length
  · have i0:(0:Int)≤(k:Int):=by omega
    have i1:(k:Int) <(l.length:Int):=by omega
    obtain ⟨g, o, rfl, hg, hcc⟩ := HR.out.at zbf ja hlt; have HC : Hid (∀ W, Bx w (rqC r) 191 W → (W.cell? ⟨g, o + k * 3, none⟩ = some (.int .i64 l[k].client) ∧ W.cell? ⟨g, o + k * 3 + 1, none⟩ = some (.int .i64 l[k].number) ∧ W.cell? ⟨g, o + k * 3 + 2, none⟩ = some (.string ⟨l[k].op.toArray⟩)) ∧
        (W.cell? ⟨w.heap.size,0,none⟩=some (.int .i64 r.client)∧W.cell? ⟨w.heap.size,1,none⟩=some (.int .i64 r.number)∧W.cell? ⟨w.heap.size,2,none⟩=some (.string ⟨r.op.toArray⟩))):=
     hD (fun W hW=>⟨⟨by have:=hcc W (zu hW) 0 _ rfl;simpa using this,hcc W (zu hW) 1 _ rfl,hcc W (zu hW) 2 _ rfl⟩,ze hW 0 _ rfl,ze hW 1 _ rfl,ze hW 2 _ rfl⟩)
    have HSm:Hid (∀W,Bx w (rqC r) 191 W→Calls Tryz.prog 277 #[.agg #[.int .i64 l[k].client, .int .i64 l[k].number, .string ⟨l[k].op.toArray⟩], .agg #[.int .i64 r.client, .int .i64 r.number, .string ⟨r.op.toArray⟩]] W fun e w'=>e= .returned (.bool (same l[k] r))∧Bx w (rqC r) 191 w'):=
     hD (fun W hW=>(zbN l[k] r W).mono fun _ _ ⟨a,b⟩=>⟨a,zau hW b⟩)
    clear hcc;cases hs:same l[k] r with
    |true=>
     have HY:Hid (inB l r=true):=hD (zdX l _ (k+1) (by rw [any_take l _ k hlt,hs];simp));rw [hs] at HSm;clear hs;go_wp2_with fail;go_region_held3 (fun W=>(W.cell? ⟨g,o+k * 3,none⟩=some (.int .i64 l[k].client)∧W.cell? ⟨g,o+k * 3+1,none⟩=some (.int .i64 l[k].number)∧W.cell? ⟨g,o+k * 3+2,none⟩=some (.string ⟨l[k].op.toArray⟩))∧
      (W.cell? ⟨w.heap.size,0,none⟩=some (.int .i64 r.client)∧W.cell? ⟨w.heap.size,1,none⟩=some (.int .i64 r.number)∧W.cell? ⟨w.heap.size,2,none⟩=some (.string ⟨r.op.toArray⟩)))
      (first|exact HC.out _ (yF ‹Bx _ _ _ _›)|exact HC.out _ ‹Bx _ _ _ _›)
      (first|(go_at_call 277;refine(HSm.out _ jai).mono ?_;rintro e w2 ⟨rfl,b2⟩))
     all_goals
      go_wp2_with fail;go_ret;exact zz HY.out (zu b2)
    |false=>
     have HY:Hid (inB (l.take (k+1)) r=false):=hD jbr;rw [hs] at HSm;clear hs;go_wp2_with fail;go_region_held3 (fun W=>(W.cell? ⟨g,o+k * 3,none⟩=some (.int .i64 l[k].client)∧W.cell? ⟨g,o+k * 3+1,none⟩=some (.int .i64 l[k].number)∧W.cell? ⟨g,o+k * 3+2,none⟩=some (.string ⟨l[k].op.toArray⟩))∧
      (W.cell? ⟨w.heap.size,0,none⟩=some (.int .i64 r.client)∧W.cell? ⟨w.heap.size,1,none⟩=some (.int .i64 r.number)∧W.cell? ⟨w.heap.size,2,none⟩=some (.string ⟨r.op.toArray⟩)))
      (first|exact HC.out _ (yF ‹Bx _ _ _ _›)|exact HC.out _ ‹Bx _ _ _ _›)
      (first|(go_at_call 277;refine(HSm.out _ jai).mono ?_;rintro e w2 ⟨rfl,b2⟩))
     all_goals
      have B2:=hD b2;clear b2;go_wp2_with fail;go_roundw
      case rel=>exact⟨k+1,by go_num,by omega,HY.out,B2.out⟩
      case measure=>simp [intOf];omega
  · have HY:Hid (inB l r=false):=hD (by have:=HN.out;rwa [List.take_of_length_le ja] at this);go_wp2_with fail;go_ret;exact zz HY.out (zu hb)
def vOne (r:Rq):Int:=if r.client<0∨6≤r.client∨r.number<1∨1000000<r.number then 7 else if r.op= [] then 9 else if 200<r.op.length then 3 else 0
theorem vRq_one (done:List Rq) (r:Rq):vRq done r=if vOne r≠0 then vOne r else if inB done r=true then 5 else 0:=by
 unfold vRq vOne;split
 · simp
 · split
   · simp
   · split <;> simp
theorem ze5 (r:Rq) (w:World) (hl:r.op.length≤9223372036854775807):Calls Tryz.prog 253 #[.agg #[.int .i64 r.client, .int .i64 r.number, .string ⟨r.op.toArray⟩]] w (Zw (vOne r) w):=by
 have B0:=hD (za w (.cells #[.int .i64 r.client, .int .i64 r.number, .string ⟨r.op.toArray⟩] 191));by_cases hbad:r.client<0∨6≤r.client∨r.number<1∨1000000<r.number
 · have HY : Hid (vOne r = 7) := hD (by unfold vOne; rw [if_pos hbad]); rcases hbad with h | h | h | h; all_goals
    go_in;go_wp2_with fail;all_goals
     go_ret;exact yz HY.out B0.out
 · have q0:¬r.client<0:=by omega
   have q1:¬6≤r.client:=by omega
   have q2:¬r.number<1:=by omega
   have q3:¬1000000<r.number:=by omega
   have HY0:Hid (vOne r=if r.op= [] then 9 else if 200<r.op.length then 3 else 0):=hD (by unfold vOne;rw [if_neg hbad]);clear hbad;by_cases h2:r.op= []
   · have HY:Hid (vOne r=9):=hD (by rw [HY0.out,if_pos h2]);have hemp:r.op.isEmpty=true:=by rw [h2];rfl
     exact fo114
   · have hemp:r.op.isEmpty=false:=by simpa using h2
     by_cases h3:200<r.op.length
     · have HY:Hid (vOne r=3):=hD (by rw [HY0.out,if_neg h2,if_pos h3]);exact fo114
     · have HY:Hid (vOne r=0):=hD (by rw [HY0.out,if_neg h2,if_neg h3]);exact fo114
set_option maxRecDepth 100000
set_option maxHeartbeats 2000000
open Go.Proofs.YtepbbaifpckcpaaGreatDoor
open Go.RowKit
theorem zbs (A:Option Addr) (c:Nat) (l:List Rq) (w:World) (h:RqIn w A c l) :
    Calls Tryz.prog 211 #[.slice A l.length c] w (Zw (vRqs [] l) w):=by
 have HR:=hD h.rd;have HOp:=hD h.op;have hn:=h.few;have hc:=h.cap;have hcc:=h.big;clear h;go_in;go_wp2_with fail;go_loopw [3] (fun i wr=>∃k:Nat,i= .int .i64 k∧k≤l.length∧vRqs [] l=vRqs (l.take k) (l.drop k)∧Below w.heap.size w wr) (fun i _=>l.length-(intOf i).toNat)
 case atStart=>exact⟨0,rfl,by omega,rfl,Below.refl _ _⟩
 case round=>
  obtain⟨k,rfl,hk,hv,hb⟩:=hrel;have HB:=hD hb;have HV:=hD hv;clear hb hv;by_cases hlt:k<l.length
  · have i0:(0:Int)≤(k:Int):=by omega
    have i1:(k:Int) <(l.length:Int):=by omega
    have i2:(k:Int)≤(c:Int):=by omega
    have i3:k≤c:=by omega
    have HT:=hD (rdTk HR.out zbf (Nat.le_of_lt hlt));obtain⟨g,o,rfl,hg,hcell⟩:=HR.out.at zbf ja hlt;have HC:Hid (∀W,Below w.heap.size w W→W.cell? ⟨g,o+k * 3,none⟩=some (.int .i64 l[k].client)∧W.cell? ⟨g,o+k * 3+1,none⟩=some (.int .i64 l[k].number)∧W.cell? ⟨g,o+k * 3+2,none⟩=some (.string ⟨l[k].op.toArray⟩)):=
     hD (fun W hW=>⟨by have:=hcell W hW 0 _ rfl;simpa using this,hcell W hW 1 _ rfl,hcell W hW 2 _ rfl⟩)
    obtain⟨a0,a1,a2⟩:=HC.out wr HB.out;clear hcell;have HV1:=hD (HV.out.trans (vRqs_at l k hlt));have HQ:=hD (vRq_one (l.take k) l[k]);have hop:=HOp.out l[k] (List.getElem_mem hlt);have HO1:=hD (ze5 l[k] wr hop);by_cases h1:vOne l[k]=0
    · rw [h1] at HO1;have HI:Hid (∀W,Below w.heap.size w W→Calls Tryz.prog 254 #[.slice (some ⟨g,o,none⟩) k c, .agg #[.int .i64 l[k].client, .int .i64 l[k].number, .string ⟨l[k].op.toArray⟩]] W fun e w'=>e= .returned (.bool (inB (l.take k) l[k]))∧Below w.heap.size w w'):=hD (fun W hb=>by
       have hl:(l.take k).length=k:=by simp;omega
       have h:=refIn_any (some ⟨g,o,none⟩) c (l.take k) l[k] W (by rw [hl];exact HT.out.below hb) (by rw [hl];omega);rw [hl] at h;exact h.mono fun _ _ ⟨a,b⟩=>⟨a,bon hb b⟩)
      go_wp2_with fail;refine HO1.out.mono ?_;rintro e w2 ⟨rfl,b2⟩;have hb2:=bon HB.out b2;obtain⟨c0,c1,c2⟩:=HC.out w2 hb2;clear b2 a0 a1 a2;cases hin:inB (l.take k) l[k] with
      |true=>
       have HY:Hid (vRqs [] l=5):=hD (by rw [HV1.out,HQ.out,h1,hin];simp);rw [hin] at HI;clear hin h1;go_wp2_with fail;go_region_held3 (fun W=>W.cell? ⟨g,o+k * 3,none⟩=some (.int .i64 l[k].client)∧W.cell? ⟨g,o+k * 3+1,none⟩=some (.int .i64 l[k].number)∧W.cell? ⟨g,o+k * 3+2,none⟩=some (.string ⟨l[k].op.toArray⟩))
        (first|exact HC.out _ (Below.drew ‹Below w.heap.size w _›)|exact HC.out _ ‹Below w.heap.size w _›)
        (first|(go_at_call 254;refine(HI.out _ jas).mono ?_;rintro e w3 ⟨rfl,b3⟩))
       all_goals
        go_wp2_with fail;go_ret;exact yz HY.out b3
      |false=>
       have HY:Hid (vRqs [] l=vRqs (l.take (k+1)) (l.drop (k+1))):=hD (by
        have h0:vRq (l.take k) l[k]=0:=by rw [HQ.out,h1,hin];simp
        rw [HV1.out,if_pos h0])
       rw [hin] at HI;clear hin h1;go_wp2_with fail;go_region_held3 (fun W=>W.cell? ⟨g,o+k * 3,none⟩=some (.int .i64 l[k].client)∧W.cell? ⟨g,o+k * 3+1,none⟩=some (.int .i64 l[k].number)∧W.cell? ⟨g,o+k * 3+2,none⟩=some (.string ⟨l[k].op.toArray⟩))
        (first|exact HC.out _ (Below.drew ‹Below w.heap.size w _›)|exact HC.out _ ‹Below w.heap.size w _›)
        (first|(go_at_call 254;refine(HI.out _ jas).mono ?_;rintro e w3 ⟨rfl,b3⟩))
       all_goals
        have B3:=hD b3;clear b3 hb2 c0 c1 c2;go_wp2_with fail;go_roundw
        case rel=>exact⟨k+1,by go_num,by omega,HY.out,B3.out⟩
        case measure=>simp [intOf];omega
    · have HY:Hid (vRqs [] l=vOne l[k]):=hD (by
        have h0:vRq (l.take k) l[k]=vOne l[k]:=by rw [HQ.out,if_pos h1]
        rw [HV1.out,h0,if_neg h1])
      generalize vOne l[k]=v at HO1 HY h1;have q1:(v == 0)=false:=by simpa using h1
      have q2:(v != 0)=true:=by simpa using h1
      clear h1 HQ HV1;go_wp2_with fail;refine HO1.out.mono ?_;rintro e w2 ⟨rfl,b2⟩;go_wp2_with fail;go_ret;exact yz HY.out (bon HB.out b2)
  · exact fo125
set_option maxRecDepth 100000
set_option maxHeartbeats 2000000
open Go.Proofs.YtepbbaifpckcpaaGreatDoor
open Go.RowKit
theorem zdE {l:List UInt8} {w w':World} (x:ByteArray) (h:x=⟨l.toArray⟩) (hb:Below w.heap.size w w'):zi l w (.returned (.string x)) w':=⟨by rw [h],hb⟩
theorem bc {W w2:World} (hb:Below W.heap.size W w2):∀b o,b<W.heap.size→w2.cell? ⟨b,o,none⟩=W.cell? ⟨b,o,none⟩:=fun b o h=>hb.cell (p:=⟨b,o,none⟩) h
theorem zcl (w:World) (g:Nat) (x:Int) (c:Nat) (h0:0≤x) (h1:x<256) (hc:w.cell? ⟨g,0,none⟩=some (.int .u8 x)) :
    Sem.run Tryz.prog (convert 75 9 (.slice (some ⟨g,0,none⟩) 1 c)) w= .ok (.string ⟨#[x.toNat.toUInt8]⟩) w:=by
 have h:=run_convert_bytes_back w _ _ 5 ⟨g,0,none⟩ c [x.toNat.toUInt8] Tryz.underlying75 Tryz.underlying5 Tryz.underlying9 (fun j hj=>by
  have hj0:j=0:=by simpa using hj
  subst hj0;rw [add_plain',hc];obtain⟨n,rfl⟩:=Int.eq_ofNat_of_zero_le h0;have:n % 256=n:=Nat.mod_eq_of_lt ja;simp [this])
 simpa using h
theorem zdi (n:Nat) (hn:n<128) (w:World):Calls Tryz.prog 255 #[.int .i64 n] w (zi (varint n) w):=by
 have HY:=hD (Zh n hn);have hb:=zcl (w.alloc (.cells #[.int .u8 (n:Int)] 5)) w.heap.size n 1 ja ja jd;have hx:(n:Int) <128:=by omega
 go_in;go_wp2_with fail;go_ret;exact zdE _ (by rw [HY.out]) (za w _)
theorem refPut_big (n:Nat) (h0:128≤n) (hn:n<16384) (w:World):Calls Tryz.prog 255 #[.int .i64 n] w (zi (varint n) w):=by
 have HY:Hid (varint n= [((n:Int) % 128+128).toNat.toUInt8]++varint (n / 128)):=hD (by rw [zbw n ja,Int.add_comm]);have HP:Hid (∀W,Below w.heap.size w W→Calls Tryz.prog 255 #[.int .i64 ((n:Int) / 128)] W fun e w'=>e= .returned (.string ⟨(varint (n / 128)).toArray⟩)∧Below W.heap.size W w'∧Below w.heap.size w w'):=hD (fun W hW=>by
  have h:=zdi (n / 128) ja W;rw [Int.natCast_ediv] at h;exact h.mono fun _ _ ⟨a,b⟩=>⟨a,b,bon hW b⟩)
 have hbs:∀(W:World) (g c:Nat),W.cell? ⟨g,0,none⟩=some (.int .u8 ((n:Int) % 128+128))→Sem.run Tryz.prog (convert 75 9 (.slice (some ⟨g,0,none⟩) 1 c)) W= .ok (.string ⟨#[((n:Int) % 128+128).toNat.toUInt8]⟩) W:=fun W g c h=>zcl W g _ c ja ja h
 have hvl:=ZT 0 (n / 128) jg;have hs:¬(9223372036854775807<1+(varint (n / 128)).length):=by omega
 have hx:¬(n:Int) <128:=by omega
 have x0:(0:Int)≤(n:Int):=by omega
 have HB0:Below w.heap.size w w:=Below.refl _ _;go_in;go_wp2_with fail;have e1:(n:Int).tmod 128=(n:Int) % 128:=Int.tmod_eq_emod_of_nonneg x0;have e2:(n:Int).tdiv 128=(n:Int) / 128:=Int.tdiv_eq_ediv_of_nonneg x0;have e3:IntKind.i64.wrap ((n:Int) % 128+128)=(n:Int) % 128+128:=IntWalk.i64_in _ ja;have e4:IntKind.u8.wrap ((n:Int) % 128+128)=(n:Int) % 128+128:=by simp [IntKind.wrap,IntKind.bits,IntKind.signed];omega
 have e5:IntKind.i64.wrap ((n:Int) % 128)=(n:Int) % 128:=IntWalk.i64_in _ ja;have e6:IntKind.i64.wrap ((n:Int) / 128)=(n:Int) / 128:=IntWalk.i64_in _ ja;go_region_with (go_at_call 255;refine(HP.out _ jal).mono ?_;rintro e w2 ⟨rfl,b2,b3⟩;have hcc:=bc b2);all_goals
  clear e1 e2 e3 e4 e5 e6 hcc;go_wp2_with fail;go_ret;exact zdE _ (by rw [HY.out,←zbL]) jaw
theorem Yk (n:Nat) (hn:n<16384) (w:World):Calls Tryz.prog 255 #[.int .i64 n] w (zi (varint n) w):=by
 by_cases h:n<128
 · exact zdi n h w
 · exact refPut_big n ja hn w
theorem zdh (n:Nat) (hn:n<10) (w:World):Calls Tryz.prog 210 #[.int .i64 n] w (zi (Lib.decDigits n) w):=by
 have HY:Hid (Lib.decDigits n= [(48+(n:Int)).toNat.toUInt8]):=hD (by
  rw [Lib.decDigits_one hn,show(48+(n:Int)).toNat=48+n from by omega])
 have hb:=zcl (w.alloc (.cells #[.int .u8 (48+(n:Int))] 5)) w.heap.size (48+(n:Int)) 1 ja ja jd;have hx:(n:Int) <10:=by omega
 go_in;go_wp2_with fail;go_ret;exact zdE _ (by rw [HY.out,show(48+(n:Int)).toNat=48+n from by omega]) (za w _)
theorem digits_step (n:Nat) (h0:10≤n) (hn:n<1000000000000) (w:World) (ih:∀W,Calls Tryz.prog 210 #[.int .i64 ((n / 10:Nat):Int)] W (zi (Lib.decDigits (n / 10)) W)) :
    Calls Tryz.prog 210 #[.int .i64 n] w (zi (Lib.decDigits n) w):=by
 have HY:Hid (Lib.decDigits n=Lib.decDigits (n / 10)++ [(48+(n:Int) % 10).toNat.toUInt8]):=hD (by
  rw [dd_big n ja,show(48+(n:Int) % 10).toNat=48+n % 10 from by omega])
 have HP:Hid (∀W,Below w.heap.size w W→Calls Tryz.prog 210 #[.int .i64 ((n:Int) / 10)] W fun e w'=>e= .returned (.string ⟨(Lib.decDigits (n / 10)).toArray⟩)∧Below W.heap.size W w'∧Below w.heap.size w w'):=hD (fun W hW=>by
  have h:=ih W;rw [Int.natCast_ediv] at h;exact h.mono fun _ _ ⟨a,b⟩=>⟨a,b,bon hW b⟩)
 have hbs:∀(W:World) (g c:Nat),W.cell? ⟨g,0,none⟩=some (.int .u8 (48+(n:Int) % 10))→Sem.run Tryz.prog (convert 75 9 (.slice (some ⟨g,0,none⟩) 1 c)) W= .ok (.string ⟨#[(48+(n:Int) % 10).toNat.toUInt8]⟩) W:=fun W g c h=>zcl W g _ c ja ja h
 have hvl:=dd_len 11 (n / 10) jg;have hs:¬(9223372036854775807<(Lib.decDigits (n / 10)).length+1):=by omega
 have hx:¬(n:Int) <10:=by omega
 have x0:(0:Int)≤(n:Int):=by omega
 have HB0:Below w.heap.size w w:=Below.refl _ _;clear ih;go_in;go_wp2_with fail;have e1:(n:Int).tmod 10=(n:Int) % 10:=Int.tmod_eq_emod_of_nonneg x0;have e2:(n:Int).tdiv 10=(n:Int) / 10:=Int.tdiv_eq_ediv_of_nonneg x0;have e3:IntKind.i64.wrap (48+(n:Int) % 10)=48+(n:Int) % 10:=IntWalk.i64_in _ ja;have e4:IntKind.u8.wrap (48+(n:Int) % 10)=48+(n:Int) % 10:=by simp [IntKind.wrap,IntKind.bits,IntKind.signed];omega
 have e5:IntKind.i64.wrap ((n:Int) % 10)=(n:Int) % 10:=IntWalk.i64_in _ ja;have e6:IntKind.i64.wrap ((n:Int) / 10)=(n:Int) / 10:=IntWalk.i64_in _ ja;go_region_with (go_at_call 210;refine(HP.out _ jal).mono ?_;rintro e w2 ⟨rfl,b2,b3⟩;have hcc:=bc b2);all_goals
  clear e1 e2 e3 e4 e5 e6 hcc;go_wp2_with fail;go_ret;exact zdE _ (by rw [HY.out,←zbL]) jaw
theorem zfj:∀(f n:Nat),n≤f→n<1000000000000→∀w:World,Calls Tryz.prog 210 #[.int .i64 n] w (zi (Lib.decDigits n) w)
 |0,n,h,_,w=>zdh n ja w
 |f+1,n,h,hb,w=>by
  by_cases h0:n<10
  · exact zdh n h0 w
  · exact digits_step n ja hb w (fun W=>zfj f (n / 10) ja ja W)
theorem zdf (n:Int) (h0:0≤n) (hb:n<1000000000000) (w:World):Calls Tryz.prog 210 #[.int .i64 n] w (zi (Lib.itoa n) w):=by
 obtain⟨u,rfl⟩:=Int.eq_ofNat_of_zero_le h0;rw [Lib.itoa_nonneg];exact zfj u u (Nat.le_refl _) ja w
set_option maxRecDepth 100000
set_option maxHeartbeats 2000000
open Go.Proofs.YtepbbaifpckcpaaGreatDoor
open Go.RowKit
theorem zbV (A:Option Addr) (c:Nat) (l:List (List UInt8)) (w:World) (hr:Rd w 1 A l.length (strC l)) (hn:l.length<16384) (hx:∀x∈l,x.length<16384) :
    Calls Tryz.prog 212 #[.slice A l.length c] w (zi (zg l) w):=by
 have HR:=hD hr;have HP:=hD (Yk l.length hn w);have HX:=hD hx;have HV:=hD (yK l.length ja);clear hr hx;go_in;go_wp2_with fail;refine HP.out.mono ?_;rintro e w1 ⟨rfl,b1⟩;have B1:=hD b1;clear b1;go_wp2_with fail;go_loopw [3,4] (fun o i wr=>∃(k:Nat) (p:List UInt8),i= .int .i64 k∧k≤l.length∧o= .string ⟨p.toArray⟩∧Below w.heap.size w wr∧p=varint l.length++(l.take k).flatMap zk∧p.length≤10+17000 * k) (fun _ i _=>l.length-(intOf i).toNat)
 case atStart=>exact⟨0,varint l.length,rfl,by omega,rfl,B1.out,by simp,HV.out⟩
 case round=>
  obtain⟨k,p,rfl,hk,rfl,hb,he0,hpl⟩:=hrel;have HB:=hD hb;have HE0:=hD he0;clear hb he0;by_cases hlt:k<l.length
  · have i0:(0:Int)≤(k:Int):=by omega
    have i1:(k:Int) <(l.length:Int):=by omega
    obtain⟨g,o,rfl,hg,hcc⟩:=HR.out.cells (by simp [strC];omega);have HC:Hid (∀W,Below w.heap.size w W→W.cell? ⟨g,o+k,none⟩=some (.string ⟨(l[k]).toArray⟩)):=hD (fun W hW=>(hW.cell (p:=⟨g,o+k,none⟩) hg).trans (hcc k _ (by simp [strC,hlt])));have hxk:=HX.out l[k] (List.getElem_mem hlt);have hv2:=yK (l[k]).length ja;have hb0:=HB.out;have HPk:Hid (∀W,Below w.heap.size w W→Calls Tryz.prog 255 #[.int .i64 ((l[k]).length:Int)] W fun e w'=>e= .returned (.string ⟨(varint (l[k]).length).toArray⟩)∧Below w.heap.size w w'):=hD (fun W hW=>(Yk (l[k]).length hxk W).mono fun _ _ ⟨a,b⟩=>⟨a,bon hW b⟩);have HE:Hid (varint l.length++(l.take (k+1)).flatMap zk=varint l.length++(l.take k).flatMap zk++varint (l[k]).length++l[k]):=hD (by
     rw [List.take_succ_eq_append_getElem hlt,List.flatMap_append];simp only [List.flatMap_cons,List.flatMap_nil,List.append_nil,zk,List.append_assoc])
    have s1:¬(9223372036854775807<p.length+(varint (l[k]).length).length):=by omega
    have s2:¬(9223372036854775807<p.length+(varint (l[k]).length).length+(l[k]).length):=by omega
    clear hcc;go_wp2_with fail;go_region_held3 (fun W=>W.cell? ⟨g,o+k,none⟩=some (.string ⟨(l[k]).toArray⟩))
     (first|exact HC.out _ (Below.drew ‹Below w.heap.size w _›)|exact HC.out _ ‹Below w.heap.size w _›)
     (first|(go_at_call 255;refine(HPk.out _ jas).mono ?_;rintro e w2 ⟨rfl,b2⟩))
    all_goals
     have B2:=hD b2;clear b2 hb0 s1 s2;go_wp2_with fail;go_roundw
     case rel=>
      refine⟨k+1,p++varint (l[k]).length++l[k],by go_num,by omega,by rw [zbL,zbL],B2.out,by rw [HE.out,HE0.out], ?_⟩;simp only [List.length_append];omega
     case measure=>simp [intOf];omega
  · exact fo107
set_option maxRecDepth 100000
set_option maxHeartbeats 4000000
open Go.Proofs.YtepbbaifpckcpaaGreatDoor
open Go.RowKit
theorem ze9 (kind cfg:Int) (rs:List Rq) (A:Option Addr) (c:Nat) (w:World) (h:RqIn w A c rs) (hn:rs.length≤1000) (hok:∀r∈rs,RqB r) (h2:kind≠2) (h3:kind≠3) :
    Calls Tryz.prog 152 #[.agg #[.int .i64 kind, .int .i64 cfg, .slice A rs.length c]] w (zi (valE ⟨kind,cfg,rs⟩) w):=by
 have HY:Hid (valE ⟨kind,cfg,rs⟩=zg (yI::rs.flatMap rqS)):=hD (by unfold valE;rw [zfv kind cfg rs h2 h3]);have q2:(kind == 2)=false:=by simpa using h2
 have q3:(kind == 3)=false:=by simpa using h3
 have B0:=hD (za w (.cells #[.int .i64 kind, .int .i64 cfg, .slice A rs.length c] 129));have HV:=hD h;have HOk:=hD hok;obtain⟨i0,hi,hz0,hz1,hz2⟩:=info_parts zdx;have HI:=hD hi;have HZ0:=hD hz0;have HZ1:=hD hz1;have HZ2:=hD hz2;clear hi hz0 hz1 hz2 h h2 h3 hok;go_in;go_wp2_with fail;go_loopw [3,4] (fun o i wr=>∃(k g cp:Nat),i= .int .i64 k∧k≤rs.length∧o= .slice (some ⟨g,0,none⟩) (1+3 * k) cp∧wr.ownsRow (w.heap.size+1) 9 1 o (1+3 * k) (strC (yI::(rs.take k).flatMap rqS))∧Bx w [.int .i64 kind, .int .i64 cfg, .slice A rs.length c] 129 wr) (fun _ i _=>rs.length-(intOf i).toNat)
 case atStart=>
  refine⟨0,w.heap.size+1,1,rfl,by omega,rfl, ?_, ?_⟩
  · have h9:=World.ownsRow_lit (base:=w.heap.size+1) (e:=9) (size:=1) (w.alloc (.cells #[.int .i64 kind, .int .i64 cfg, .slice A rs.length c] 129)) #[.string ⟨#[98,97,116,99,104]⟩] 1 jd jcr rfl;simpa [strC,yI] using h9
  · exact yh (Zk w _ _) _
 case round=>
  obtain⟨k,og,cp,rfl,hk,rfl,hown,hbx⟩:=hrel;have HO:=hD hown;have HBX:=hD hbx;have HB:=hD (zu hbx);have hge:=ZN hbx;have d2:wr.cell? ⟨w.heap.size,2,none⟩=some (.slice A rs.length c):=ze hbx 2 _ rfl;clear hown hbx;by_cases hlt:k<rs.length
  · have i0':(0:Int)≤(k:Int):=by omega
    have i1:(k:Int) <(rs.length:Int):=by omega
    obtain⟨g,o,rfl,hg,hcc⟩:=HV.out.rd.at zbf ja hlt;have a0:=hcc wr HB.out 0 _ rfl;have a1:=hcc wr HB.out 1 _ rfl;have a2:=hcc wr HB.out 2 _ rfl;clear hcc;simp only [Nat.add_zero] at a0;obtain⟨o1,o2,o3,o4,o5,o6⟩:=HOk.out rs[k] (List.getElem_mem hlt);have hlo:=(HO.out.lt og rfl);have HI0:Hid (∀(n:Int) w1,0≤n→n≤1000000→Bx wr (rqC rs[k]) 191 w1→Calls Tryz.prog 210 #[.int .i64 n] w1 (Gives wr (rqC rs[k]) 191 (Lib.itoa n))):=
     hD (fun n w1 h0 h1 hb=>zW hb (zdf n h0 ja w1))
    have n1:rs[k].client≤1000000:=by omega
    have n2:0≤rs[k].number:=by omega
    have HC:Hid (∀w1,Bx wr (rqC rs[k]) 191 w1→w1.cell? ⟨wr.heap.size,0,none⟩=some (.int .i64 rs[k].client)∧w1.cell? ⟨wr.heap.size,1,none⟩=some (.int .i64 rs[k].number)∧w1.cell? ⟨wr.heap.size,2,none⟩=some (.string ⟨rs[k].op.toArray⟩)):=
     hD (fun w1 hb=>⟨ze hb 0 _ rfl,ze hb 1 _ rfl,ze hb 2 _ rfl⟩)
    have HCg:Hid (∀W w1,Bx wr (rqC rs[k]) 191 W→W.grownBy w1 (some og)→w1.cell? ⟨wr.heap.size,0,none⟩=some (.int .i64 rs[k].client)∧w1.cell? ⟨wr.heap.size,1,none⟩=some (.int .i64 rs[k].number)∧w1.cell? ⟨wr.heap.size,2,none⟩=some (.string ⟨rs[k].op.toArray⟩)):=
     hD (fun W w1 hb hg=>fo83)
    have H0:Bx wr (rqC rs[k]) 191 (wr.alloc (.cells #[.int .i64 rs[k].client, .int .i64 rs[k].number, .string ⟨rs[k].op.toArray⟩] 191)):=Zk wr (rqC rs[k]) 191;have HOW:Hid (∀w1,Bx wr (rqC rs[k]) 191 w1→w1.ownsRow (w.heap.size+1) 9 1 (.slice (some ⟨og,0,none⟩) (1+3 * k) cp) (1+3 * k) (strC (yI::(rs.take k).flatMap rqS))):=hD (fun w1 hb=>ownsRow_below HO.out (zu hb));clear o2 o3 o5 o6;go_wp2_with fail;go_region_held3 (fun w1=>w1.cell? ⟨wr.heap.size,0,none⟩=some (.int .i64 rs[k].client)∧w1.cell? ⟨wr.heap.size,1,none⟩=some (.int .i64 rs[k].number)∧w1.cell? ⟨wr.heap.size,2,none⟩=some (.string ⟨rs[k].op.toArray⟩))
     (first|exact HC.out _ (yF ‹Bx _ _ _ _›)|exact HC.out _ ‹Bx _ _ _ _› |exact HC.out _ (yF (yh ‹Bx _ _ _ _› _))|exact HC.out _ (yh ‹Bx _ _ _ _› _)|exact HCg.out _ _ (yF (yh ‹Bx _ _ _ _› _)) ‹_› |exact HCg.out _ _ (yh ‹Bx _ _ _ _› _) ‹_›)
     (first
      |(go_at_call 210;refine(HI0.out _ _ je je jai).mono ?_;rintro e w2 ⟨rfl,b2⟩)
      |(refine step_append_lies _ jq _ _ _ jq (w.heap.size+1) 9 i0 _ 1 16 Tryz.underlying32 HI.out HZ0.out HZ1.out HZ2.out rfl jf _ _ _ jq (((HOW.out _ ‹Bx _ _ _ _›).alloc _).drew) _ 3 3 [.string ⟨(Lib.itoa rs[k].client).toArray⟩, .string ⟨(Lib.itoa rs[k].number).toArray⟩, .string ⟨rs[k].op.toArray⟩] jq jq (World.news_of_block (cs:=#[.string ⟨(Lib.itoa rs[k].client).toArray⟩, .string ⟨(Lib.itoa rs[k].number).toArray⟩, .string ⟨rs[k].op.toArray⟩]) (t:=9) (fr:=(0,0)) (heap_alloc_new _ _)) jv ja jw ja (by have hz:=ZN b2;simp;omega) _ rfl ?_;intro gg cap w3 hown1 hgrow hat hlt3))
    all_goals
     have HO3:=hD hown1;have HG3:=hD hgrow;have HB2:=hD (zu b2);have HS2:=ZN b2;clear hown1 hgrow hat b2;go_wp2_with fail;go_roundw
     case rel=>
      refine⟨k+1,gg,cap,by go_num,by omega,by rw [show 1+3 *(k+1)=1+3 * k+3 from by omega], ?_,below_grown (Below.alloc (zau HBX.out HB2.out) ja _) jg HG3.out (fun g hg=>by simp [Value.ownBlock] at hg;omega)⟩
      · exact fo50
     case measure=>simp [intOf];omega
  · have hke:k=rs.length:=by omega
    have hl2:=rqs_code rs HOk.out;have HL:Hid (yI::(rs.take k).flatMap rqS=yI::rs.flatMap rqS):=hD (by rw [List.take_of_length_le ja]);have HP:Hid (Calls Tryz.prog 212 #[.slice (some ⟨og,0,none⟩) (1+3 * k) cp] wr (zi (valE ⟨kind,cfg,rs⟩) wr)):=hD (by
     have hlen:(yI::rs.flatMap rqS).length=1+3 * k:=by rw [List.length_cons,hl2.2.1];omega
     have h9:=zbV (some ⟨og,0,none⟩) cp (yI::rs.flatMap rqS) wr (by rw [hlen,←HL.out];exact Rd.own HO.out) ja (fun x hx=>by
      rcases List.mem_cons.1 hx with rfl|hx
      · simp [yI]
      · have:=hl2.2.2.2 x hx;omega)
     rw [hlen] at h9;rw [HY.out];exact h9)
    exact fo121
set_option maxRecDepth 100000
set_option maxHeartbeats 1000000
open Go.Proofs.YtepbbaifpckcpaaGreatDoor
open Go.RowKit
theorem vEn_kind (x:En) (h:vEn x=0):(x.kind=1∧x.cfg=0∧x.rs.length≤8∧∀r∈x.rs,RqB r)∨(x.kind=2∧0≤x.cfg∧x.cfg<6∧x.rs= [])∨(x.kind=3∧x.cfg=0∧x.rs= []):=by
 obtain⟨k,c,rs⟩:=x;by_cases h1:k=1
 · subst h1;rw [YY] at h;split at h
   · simp at h
   · rename_i hc;split at h
     · simp at h
     · exact .inl ⟨rfl,by simpa using hc,by show rs.length≤8;omega,za2 rs [] h⟩
 · by_cases h2:k=2
   · subst h2;rw [zcA] at h;split at h
     · simp at h
     · rename_i hc;refine .inr (.inl ⟨rfl,by show 0≤c;omega,by show c<6;omega, ?_⟩);show rs= [];by_cases hr:rs= []
       · exact hr
       · exact absurd (.inr (.inr hr)) hc
   · by_cases h3:k=3
     · subst h3;rw [YR] at h;split at h
       · simp at h
       · rename_i hc;refine .inr (.inr ⟨rfl, ?_, ?_⟩)
         · show c=0;by_cases hr:c=0
           · exact hr
           · exact absurd (.inl hr) hc
         · show rs= [];by_cases hr:rs= []
           · exact hr
           · exact absurd (.inr hr) hc
     · rw [zeF k c rs h1 h2 h3] at h;simp at h
theorem refValue_join (cfg:Int) (rs:List Rq) (A:Option Addr) (c:Nat) (w:World) (h0:0≤cfg) (h1:cfg<10000000) :
    Calls Tryz.prog 152 #[.agg #[.int .i64 2, .int .i64 cfg, .slice A rs.length c]] w (zi (valE ⟨2,cfg,rs⟩) w):=by
 have B0:=hD (za w (.cells #[.int .i64 2, .int .i64 cfg, .slice A rs.length c] 129));have HI:=hD (zdf cfg h0 ja (w.alloc (.cells #[.int .i64 2, .int .i64 cfg, .slice A rs.length c] 129)));have hl:=zaT cfg h0 h1;have HP:Hid (∀(w1:World),Calls Tryz.prog 212 #[.slice (some ⟨w1.heap.size,0,none⟩) 2 2] (w1.alloc (.cells #[.string ⟨#[106,111,105,110]⟩, .string ⟨(Lib.itoa cfg).toArray⟩] 9)) (zi (valE ⟨2,cfg,rs⟩) (w1.alloc (.cells #[.string ⟨#[106,111,105,110]⟩, .string ⟨(Lib.itoa cfg).toArray⟩] 9)))):=hD (fun w1=>by
  have h:=zbV (some ⟨w1.heap.size,0,none⟩) 2 [Ya,Lib.itoa cfg] _ (zcD w1 1 2 (strC [Ya,Lib.itoa cfg]) 9 rfl) jd (fun x hx=>fo138);unfold valE;rw [strs_join];exact h)
 clear hl;exact fo96
theorem zdT (cfg:Int) (rs:List Rq) (A:Option Addr) (c:Nat) (w:World) :
    Calls Tryz.prog 152 #[.agg #[.int .i64 3, .int .i64 cfg, .slice A rs.length c]] w (zi (valE ⟨3,cfg,rs⟩) w):=by
 have B0:=hD (za w (.cells #[.int .i64 3, .int .i64 cfg, .slice A rs.length c] 129));have HP:Hid (∀(w1:World) (g:Nat),w1.heap.size=g→Calls Tryz.prog 212 #[.slice (some ⟨g,0,none⟩) 1 1] (w1.alloc (.cells #[.string ⟨#[102,105,110,105,115,104]⟩] 9)) (zi (valE ⟨3,cfg,rs⟩) (w1.alloc (.cells #[.string ⟨#[102,105,110,105,115,104]⟩] 9)))):=hD (fun w1 g hg=>by
  subst hg;have h:=zbV (some ⟨w1.heap.size,0,none⟩) 1 [yP] _ (zcD w1 1 1 (strC [yP]) 9 rfl) jd (by simp [yP]);unfold valE;rw [zd1];exact h)
 exact fo123
theorem Yw (kind cfg:Int) (rs:List Rq) (A:Option Addr) (c:Nat) (w:World) (h:RqIn w A c rs) (hv:vEn ⟨kind,cfg,rs⟩=0) :
    Calls Tryz.prog 152 #[.agg #[.int .i64 kind, .int .i64 cfg, .slice A rs.length c]] w (zi (valE ⟨kind,cfg,rs⟩) w):=by
 rcases vEn_kind _ hv with⟨h1,h2,h3,h4⟩|⟨h1,h2,h3,h4⟩|⟨h1,h2,h3⟩
 · simp only at h1 h2 h3 h4;subst h1 h2;exact ze9 1 0 rs A c w h ja h4 jf jf
 · simp only at h1 h2 h3 h4;subst h1;exact refValue_join cfg rs A c w h2 ja
 · simp only at h1 h2 h3;subst h1 h2;exact zdT 0 rs A c w
theorem enCells (w:World) (k c:Int) (v:Value):Bx w [.int .i64 k, .int .i64 c,v] 129 (w.alloc (.cells #[.int .i64 k, .int .i64 c,v] 129)):=Zk w [.int .i64 k, .int .i64 c,v] 129
theorem refValid_bad (kind cfg:Int) (rs:List Rq) (A:Option Addr) (c:Nat) (w:World) (hlen:rs.length≤9223372036854775807) (h:vEn ⟨kind,cfg,rs⟩=1) :
    Calls Tryz.prog 151 #[.agg #[.int .i64 kind, .int .i64 cfg, .slice A rs.length c]] w (Zw 1 w):=by
 have B0:=hD (zu (enCells w kind cfg (.slice A rs.length c)));by_cases k1:kind=1
 · subst k1;have c0:cfg≠0:=by
    intro hc;subst hc;rw [YY,if_neg jf] at h;split at h
    · simp at h
    · have hw:∀(l d:List Rq),vRqs d l≠1:=by
        intro l;induction l with
        |nil=>intro d;simp [vRqs]
        |cons r t ih=>
         intro d;rw [vRqs];split
         · exact ih _
         · unfold vRq;split
           · simp
           · split
             · simp
             · split
               · simp
               · split <;> simp
      exact hw _ _ h
   have c1:(cfg == 0)=false:=by simpa using c0
   have c2:(cfg != 0)=true:=by simpa using c0
   clear c0 h;go_in;go_wp2_with fail;go_ret;exact yz rfl B0.out
 · have q1:(kind == 1)=false:=by simpa using k1
   by_cases k2:kind=2
   · subst k2;have hb:cfg<0∨6≤cfg∨(0:Int) <(rs.length:Int):=by
      rw [zcA] at h;split at h
      · rename_i hx;rcases hx with h|h|h
        · exact .inl h
        · exact .inr (.inl h)
        · exact .inr (.inr (zb9 h))
      · simp at h
     clear h k1;rcases hb with h|h|h;all_goals
      go_in;go_wp2_with fail;all_goals
       go_ret;exact yz rfl B0.out
   · have q2:(kind == 2)=false:=by simpa using k2
     by_cases k3:kind=3
     · subst k3;have hb:((cfg == 0)=false∧(cfg != 0)=true)∨(cfg=0∧(0:Int) <(rs.length:Int)):=by
        rw [YR] at h;by_cases hc:cfg=0
        · subst hc;right;refine⟨rfl, ?_⟩;split at h
          · rename_i hx;rcases hx with hx|hx
            · exact absurd rfl hx
            · exact zb9 hx
          · simp at h
        · left;exact⟨by simpa using hc,by simpa using hc⟩
       clear h k1 k2;rcases hb with⟨c1,c2⟩|⟨rfl,hp⟩;all_goals
        go_in;go_wp2_with fail;all_goals
         go_ret;exact yz rfl B0.out
     · have q3:(kind == 3)=false:=by simpa using k3
       have q4:(kind != 3)=true:=by simpa using k3
       clear h k1 k2 k3;go_in;go_wp2_with fail;go_ret;exact yz rfl B0.out
end Go.Proofs.YtepbbaifpckcpaaGreatDoor.Q40
