/- Contracts of the functions that read one token. -/
import Derived.OwnWalk
import Derived.StillTailTactics
import Derived.Test.YtepbbaifpckcpaaGreatDoorFFo
import Derived.Test.YtepbbaifpckcpaaGreatDoorFPl
import Derived.Test.YtepbbaifpckcpaaGreatDoorFQa
namespace Go.Proofs.YtepbbaifpckcpaaGreatDoor.Q06
set_option maxRecDepth 100000
set_option maxHeartbeats 1000000
open Go.Proofs.YtepbbaifpckcpaaGreatDoor
open Go.RowKit
theorem zaH (c:UInt8) (r:List UInt8):tok1 (c::r) =
    if isLet c.toNat then if 24<run isCon (c::r) then none else some (⟨1,(c::r).takeWhile (pb isCon),0, [],0⟩,run isCon (c::r))
    else if zY c.toNat then(za9 (c::r)).map fun x=>(⟨2, [],x.1, [],0⟩,x.2)
    else if(c.toNat:Int)=34 then if(litR (c::r)).2=0 then none else some (⟨3, [],0,(litR (c::r)).1,0⟩,(litR (c::r)).2.toNat)
    else if isSym c.toNat then some (⟨4, [c],0, [],0⟩,1)
    else none:=rfl
theorem tok1_at (s:ByteArray) (h:0<s.size):tok1 s.data.toList =
    if isLet s[0].toNat then if 24<run isCon s.data.toList then none else some (⟨1,s.data.toList.takeWhile (pb isCon),0, [],0⟩,run isCon s.data.toList)
    else if zY s[0].toNat then(za9 s.data.toList).map fun x=>(⟨2, [],x.1, [],0⟩,x.2)
    else if(s[0].toNat:Int)=34 then if(litR s.data.toList).2=0 then none else some (⟨3, [],0,(litR s.data.toList).1,0⟩,(litR s.data.toList).2.toNat)
    else if isSym s[0].toNat then some (⟨4, [s[0]],0, [],0⟩,1)
    else none:=by
 have:=zaH s[0] (s.data.toList.drop 1);rw [←zdO s h] at this;exact this
def tokA (t:Tok):Array Value:=#[.int .i64 t.kind, .string ⟨t.text.toArray⟩, .int .i64 t.int, .string ⟨t.str.toArray⟩, .int .i64 t.line]
def TokOk (l:List UInt8) (t:Tok) (n:Int):Prop:=match tok1 l with|none=>n=0|some (u,m)=>t=u∧n=m∧1≤m∧m≤l.length
def zfn (l:List UInt8) (w:World) (e:Ending) (w':World):Prop:=∃t n,e= .returned (.tuple #[.agg (tokA t), .int .i64 n])∧TokOk l t n∧0≤n∧Below w.heap.size w w'
theorem zeK {l:List UInt8} {w w':World} (t:Tok) (n:Int) (h:TokOk l t n) (h0:0≤n) (hb:Below w.heap.size w w'):zfn l w (.returned (.tuple #[.agg (tokA t), .int .i64 n])) w':=
 ⟨t,n,rfl,h,h0,hb⟩
theorem zfF {l:List UInt8} {t:Tok} (h:tok1 l=none):TokOk l t 0:=by unfold TokOk;rw [h]
theorem zbC {l:List UInt8} {t:Tok} {m:Nat} (h:tok1 l=some (t,m)) (h1:1≤m) (h2:m≤l.length):TokOk l t m:=by unfold TokOk;rw [h];exact⟨rfl,rfl,h1,h2⟩
theorem ext0 (s:ByteArray) (k:Nat):s.extract 0 k=⟨(s.data.toList.take k).toArray⟩:=by
 apply ByteArray.ext;apply Array.toList_inj.1;rw [Lib.extract_data];simp
theorem run_pos (p:Int→Bool) (s:ByteArray) (h:0<s.size) (hp:p s[0].toNat=true):1≤run p s.data.toList:=
 run_ge p _ 1 (by simp; omega) (fun j hj h' => by obtain rfl : j = 0 := by omega
                                                  exact hp)
theorem letter_con (n:Int) (h:isLet n=true):isCon n=true:=by simp [isCon,h]
theorem isDig_let (n:Int) (h:zY n=true):isLet n=false:=by
 simp [zY,isLet] at h⊢;omega
theorem q_let (n:Int) (h:n=34):isLet n=false∧zY n=false:=by subst h;decide
theorem next_letter (s:ByteArray) (w:World) (hs:s.size≤maxLen) (h0:0<s.size) (hl:isLet s[0].toNat=true) :
    Calls Tryz.prog 124 #[.string s] w (zfn s.data.toList w):=by
 have HC:Hid (∀w,Calls Tryz.prog 121 #[.string s, .func (.func 177) #[] #[]] w fun e w'=>e= .returned (.int .i64 (run isCon s.data.toList))∧w=w'):=hD (fun w=>zcZ s 177 isCon (fun n w _ _=>continues_any n w) plain42 w hs);unfold maxLen at hs;have HT:=hD (tok1_at s h0);have HL:=hD hl;have hle:=run_le isCon s.data.toList;have hlen:s.data.toList.length=s.size:=by simp
 rw [hlen] at hle;have HP:=hD (run_pos isCon s h0 (letter_con _ hl));have HE:=hD (ext0 s (run isCon s.data.toList));have HK:=hD (zci isCon s.data.toList);clear hl;generalize run isCon s.data.toList=k at *;by_cases h24:24<k
 · have HN:Hid (tok1 s.data.toList=none):=hD (by rw [HT.out,if_pos HL.out,if_pos h24]);clear HT hlen;go_in;go_wp2_with fail;refine(Z8 _ _).mono ?_;rw [HL.out];rintro e w1 ⟨rfl,rfl⟩;go_wp2_with fail;refine(HC.out _).mono ?_;exact fo58
 · have HN:Hid (tok1 s.data.toList=some (⟨1,s.data.toList.takeWhile (pb isCon),0, [],0⟩,k)):=hD (by rw [HT.out,if_pos HL.out,if_neg h24]);have HLen:=hD hlen;clear HT hlen;go_in;go_wp2_with fail;refine(Z8 _ _).mono ?_;rw [HL.out];rintro e w1 ⟨rfl,rfl⟩;go_wp2_with fail;refine(HC.out _).mono ?_;rintro e w1 ⟨rfl,rfl⟩;go_wp2_with fail;refine bodyPost_ret (v:= .tuple #[.agg (tokA ⟨1,s.data.toList.takeWhile (pb isCon),0, [],0⟩), .int .i64 k]) ?_ rfl (zeK _ _ (zbC HN.out HP.out (by rw [HLen.out];omega)) ja (((Below.refl _ _).alloc (Nat.le_refl _) _)));simp [results,Tryz.results124,go_sem,tokA,HE.out,HK.out]
theorem takeWhile_dig (s:ByteArray) (k:Nat) (h:k<(s.extract 0 (run zY s.data.toList)).size):zY (s.extract 0 (run zY s.data.toList))[k].toNat=true:=by
 have h1:(s.extract 0 (run zY s.data.toList)).data.toList=s.data.toList.takeWhile (pb zY):=by rw [ext0,zci]
 have h2:k<(s.extract 0 (run zY s.data.toList)).data.toList.length:=by simpa using h
 have h3:(s.extract 0 (run zY s.data.toList)).data.toList[k]∈s.data.toList.takeWhile (pb zY):=by rw [←h1];exact List.getElem_mem h2
 have h4:=List.all_takeWhile (p:=pb zY) (l:=s.data.toList);exact(List.all_eq_true.1 h4) _ h3
theorem number_tok (s:ByteArray) (h0:0<s.size) (hd:zY s[0].toNat=true) :
    za9 s.data.toList=if(number (s.data.toList.takeWhile (pb zY))).2 then some ((number (s.data.toList.takeWhile (pb zY))).1,run zY s.data.toList) else none:=by
 have hc:=zdO s h0;have ht:s.data.toList.takeWhile (pb zY)=s[0]::(s.data.toList.drop 1).takeWhile (pb zY):=by
  conv=>lhs;rw [hc]
  rw [List.takeWhile_cons_of_pos (p:=pb zY) hd]
 have hh:s.data.toList.head? =some s[0]:=head_at s h0;unfold za9 number;have hl:(s.data.toList.takeWhile (pb zY)).length=run zY s.data.toList:=rfl;rw [hh,hl];have hh2:(s.data.toList.takeWhile (pb zY)).head? =some s[0]:=by rw [ht];rfl
 have hne:(s.data.toList.takeWhile (pb zY)).isEmpty=false:=by rw [ht];rfl
 rw [hh2,hne];split
 · rfl
 · cases Yy (s.data.toList.takeWhile (pb zY)) 0 <;> rfl
theorem next_digit (s:ByteArray) (w:World) (hs:s.size≤maxLen) (h0:0<s.size) (hl:zY s[0].toNat=true) :
    Calls Tryz.prog 124 #[.string s] w (zfn s.data.toList w):=by
 have HC:Hid (∀w,Calls Tryz.prog 121 #[.string s, .func (.func 178) #[] #[]] w fun e w'=>e= .returned (.int .i64 (run zY s.data.toList))∧w=w'):=hD (fun w=>zcZ s 178 zY (fun n w _ _=>Z0 n w) plain53 w hs);have hle:=run_le zY s.data.toList;have hlen:s.data.toList.length=s.size:=by simp
 rw [hlen] at hle;have HNum:Hid (∀w,Calls Tryz.prog 179 #[.string (s.extract 0 (run zY s.data.toList))] w fun e w'=>e= .returned (.tuple #[.int .i64 (number (s.data.toList.takeWhile (pb zY))).1, .bool (number (s.data.toList.takeWhile (pb zY))).2])∧w=w'):=hD (fun w=>by
  have:=ZP (s.extract 0 (run zY s.data.toList)) w jg (takeWhile_dig s);rw [ext0,zci] at this;rw [ext0,zci];exact this)
 unfold maxLen at hs;have HT:=hD (tok1_at s h0);have HTok:=hD (number_tok s h0 hl);have HL:=hD hl;have HL2:=hD (isDig_let _ hl);have HP:=hD (run_pos zY s h0 hl);have HLen:=hD hlen;clear hl hlen;generalize run zY s.data.toList=k at *;cases hok:(number (s.data.toList.takeWhile (pb zY))).2
 · have HN:Hid (tok1 s.data.toList=none):=hD (by rw [HT.out,if_neg (by rw [HL2.out];simp),if_pos HL.out,HTok.out,hok];rfl);have HO:=hD hok;clear HT hok;go_in;go_wp2_with fail;refine(Z8 _ _).mono ?_;rw [HL2.out];rintro e w1 ⟨rfl,rfl⟩;go_wp2_with fail;refine(Z0 _ _).mono ?_;rw [HL.out];rintro e w1 ⟨rfl,rfl⟩;go_wp2_with fail;refine(HC.out _).mono ?_;rintro e w1 ⟨rfl,rfl⟩;go_wp2_with fail;refine(HNum.out _).mono ?_;rw [HO.out];exact fo58
 · have HN:Hid (tok1 s.data.toList=some (⟨2, [],(number (s.data.toList.takeWhile (pb zY))).1, [],0⟩,k)):=hD (by rw [HT.out,if_neg (by rw [HL2.out];simp),if_pos HL.out,HTok.out,hok];rfl);have HO:=hD hok;clear HT hok;go_in;go_wp2_with fail;refine(Z8 _ _).mono ?_;rw [HL2.out];rintro e w1 ⟨rfl,rfl⟩;go_wp2_with fail;refine(Z0 _ _).mono ?_;rw [HL.out];rintro e w1 ⟨rfl,rfl⟩;go_wp2_with fail;refine(HC.out _).mono ?_;rintro e w1 ⟨rfl,rfl⟩;go_wp2_with fail;refine(HNum.out _).mono ?_;rw [HO.out];rintro e w1 ⟨rfl,rfl⟩;go_wp2_with fail;refine bodyPost_ret (v:= .tuple #[.agg (tokA ⟨2, [],(number (s.data.toList.takeWhile (pb zY))).1, [],0⟩), .int .i64 k]) ?_ rfl (zeK _ _ (zbC HN.out HP.out (by rw [HLen.out];omega)) ja (((Below.refl _ _).alloc (Nat.le_refl _) _)));simp [results,Tryz.results124,go_sem,tokA]
theorem litFrom_rng (l acc:List UInt8) (i:Nat):0≤(yL l acc i).2∧(yL l acc i).2≤i+l.length∧((yL l acc i).2=0∨i<(yL l acc i).2):=by
 induction hn:l.length using Nat.strongRecOn generalizing l acc i with
 |_ n ih=>
  subst hn;match l with
  | []=>simp [yL]
  |c::r=>
   rw [yL];split
   · simp;omega
   · split
     · simp;omega
     · have hx:=chrR_rng (c::r);have:=ih (r.drop ((chrR (c::r)).2.toNat- 1)).length jg (r.drop ((chrR (c::r)).2.toNat- 1)) (acc++ [(chrR (c::r)).1.toNat.toUInt8]) (i+(chrR (c::r)).2.toNat) rfl;simp only [List.length_drop,List.length_cons] at this hx⊢;omega
theorem litR_rng (l:List UInt8):0≤(litR l).2∧(litR l).2≤l.length∧((litR l).2=0∨1≤(litR l).2):=by
 match l with
 | []=>simp [litR]
 |c::r=>
  have:=litFrom_rng r [] 1;simp only [litR];split
  · simp only [List.length_cons];omega
  · simp;omega
theorem bcell {W w1:World} (hb:Below W.heap.size W w1):(∀b o,b<W.heap.size→w1.cell? ⟨b,o,none⟩=W.cell? ⟨b,o,none⟩)∧(∀b o,b<W.heap.size→w1.frozen? ⟨b,o,none⟩=W.frozen? ⟨b,o,none⟩):=
 ⟨fun b o h=>hb.cell (p:=⟨b,o,none⟩) h,fun b o h=>hb.frozen (p:=⟨b,o,none⟩) h⟩
theorem next_quote (s:ByteArray) (w:World) (hs:s.size≤maxLen) (hr:s.size≤140737488355328) (h0:0<s.size) (hl:(s[0].toNat:Int)=34) :
    Calls Tryz.prog 124 #[.string s] w (zfn s.data.toList w):=by
 have HC:Hid (∀w,Calls Tryz.prog 180 #[.string s] w fun e w'=>e= .returned (.tuple #[.string ⟨(litR s.data.toList).1.toArray⟩, .int .i64 (litR s.data.toList).2])∧Below w.heap.size w w'):=hD (fun w=>literal_any s w hs hr);unfold maxLen at hs;have HR:=hD (litR_rng s.data.toList);have hlen:s.data.toList.length=s.size:=by simp
 have HT:=hD (tok1_at s h0);have HL1:=hD (q_let _ hl).1;have HL2:=hD (q_let _ hl).2;have HQ:=hD hl;have x1:((s[0].toNat:Int) == 34)=true:=by simp [hl]
 have HLen:=hD hlen;clear hl hlen;have HN:Hid (TokOk s.data.toList ⟨3, [],0,(litR s.data.toList).1,0⟩ (litR s.data.toList).2):=by
  refine hD ?_;have h1:=HT.out;rw [if_neg (by rw [HL1.out];simp),if_neg (by rw [HL2.out];simp),if_pos HQ.out] at h1;obtain⟨r1,r2,r3⟩:=HR.out;by_cases hz:(litR s.data.toList).2=0
  · rw [if_pos hz] at h1;rw [hz];exact zfF h1
  · rw [if_neg hz] at h1;obtain⟨m,hm⟩:=Int.eq_ofNat_of_zero_le r1;rw [hm] at h1⊢;refine zbC h1 ja ?_;rw [hm] at r2;exact_mod_cast r2
 clear HT;go_in;go_wp2_with fail;refine(Z8 _ _).mono ?_;rw [HL1.out];rintro e w1 ⟨rfl,rfl⟩;go_wp2_with fail;refine(Z0 _ _).mono ?_;rw [HL2.out];rintro e w1 ⟨rfl,rfl⟩;go_wp2_with fail;refine(HC.out _).mono ?_;rintro e w1 ⟨rfl,hb⟩;obtain⟨hc,hf⟩:=bcell hb;have HB:=hD hb;have hz:w.heap.size<w1.heap.size:=by have:=hb.size;simp at this;omega
 clear hb;go_wp2_with fail;refine bodyPost_ret (v:= .tuple #[.agg (tokA ⟨3, [],0,(litR s.data.toList).1,0⟩), .int .i64 (litR s.data.toList).2]) ?_ rfl (zeK _ _ HN.out HR.out.1 ?_)
 · simp [results,Tryz.results124,go_sem,tokA,hc]
 · exact((((((Below.refl _ _).alloc (Nat.le_refl _) _).trans (HB.out.mono jd)).setCell (Nat.le_refl _) _).setCell (Nat.le_refl _) _).setCell (Nat.le_refl _) _).setCell (Nat.le_refl _) _ |>.setCell (Nat.le_refl _) _
theorem sym_index:∀n:Fin 256,decide (0≤Lib.indexByte [123,125,40,41,91,93,44,59,58,61,47,43,45,60,62,124,38,42] (n.val:Int).toNat.toUInt8)=isSym n.val:=by decide +kernel
theorem sym_ge (c:UInt8):decide (0≤Lib.indexByte (ByteArray.mk #[123,125,40,41,91,93,44,59,58,61,47,43,45,60,62,124,38,42]).data.toList (c.toNat:Int).toNat.toUInt8)=isSym c.toNat:=sym_index ⟨c.toNat,c.toNat_lt⟩
theorem take1 (s:ByteArray) (h:0<s.size):s.extract 0 1=⟨[s[0]].toArray⟩:=by
 rw [ext0,zdO s h];rfl
theorem next_other (s:ByteArray) (w:World) (hs:s.size≤maxLen) (h0:0<s.size) (hl:isLet s[0].toNat=false) (hd:zY s[0].toNat=false) (hq:(s[0].toNat:Int)≠34) :
    Calls Tryz.prog 124 #[.string s] w (zfn s.data.toList w):=by
 unfold maxLen at hs;have HT:Hid (tok1 s.data.toList=if isSym s[0].toNat then some (⟨4, [s[0]],0, [],0⟩,1) else none):=hD (by
  rw [tok1_at s h0,if_neg (by rw [hl];simp),if_neg (by rw [hd];simp),if_neg hq])
 have HL1:=hD hl;have HL2:=hD hd;have HE:=hD (take1 s h0);have x1:((s[0].toNat:Int) == 34)=false:=by simp [hq]
 obtain⟨x,hx,hcall⟩:∃x:Int,decide (0≤x)=isSym s[0].toNat∧∀w,Calls Tryz.prog 123 #[.string ⟨#[123,125,40,41,91,93,44,59,58,61,47,43,45,60,62,124,38,42]⟩, .int .u8 s[0].toNat] w fun e w'=>e= .returned (.int .i64 x)∧w=w':=
  ⟨_,sym_ge s[0],fun w=>Y5 (Tryz.strings_IndexByte _ _ w)⟩
 have HX:=hD hcall;clear hl hd hq hcall;have hlen:1≤s.data.toList.length:=by simp;omega
 have HLen:=hD hlen;clear hlen;by_cases hx0:0≤x
 · have HN:Hid (tok1 s.data.toList=some (⟨4, [s[0]],0, [],0⟩,1)):=hD (by rw [HT.out,←hx,if_pos (by simpa using hx0)];rfl);clear hx;go_in;go_wp2_with fail;refine(Z8 _ _).mono ?_;rw [HL1.out];rintro e w1 ⟨rfl,rfl⟩;go_wp2_with fail;refine(Z0 _ _).mono ?_;rw [HL2.out];rintro e w1 ⟨rfl,rfl⟩;go_wp2_with fail;refine(HX.out _).mono ?_;rintro e w1 ⟨rfl,rfl⟩;go_wp2_with fail;refine bodyPost_ret (v:= .tuple #[.agg (tokA ⟨4, [s[0]],0, [],0⟩), .int .i64 1]) ?_ rfl (zeK _ _ (zbC (m:=1) HN.out ja HLen.out) ja (((Below.refl _ _).alloc (Nat.le_refl _) _)));simp [results,Tryz.results124,go_sem,tokA,HE.out];rfl
 · have HN:Hid (tok1 s.data.toList=none):=hD (by rw [HT.out,←hx,if_neg (by simpa using hx0)]);clear hx;go_in;go_wp2_with fail;refine(Z8 _ _).mono ?_;rw [HL1.out];rintro e w1 ⟨rfl,rfl⟩;go_wp2_with fail;refine(Z0 _ _).mono ?_;rw [HL2.out];rintro e w1 ⟨rfl,rfl⟩;go_wp2_with fail;refine(HX.out _).mono ?_;exact fo58
theorem zcH (s:ByteArray) (w:World) (hs:s.size≤maxLen) (hr:s.size≤140737488355328) (h0:0<s.size) :
    Calls Tryz.prog 124 #[.string s] w (zfn s.data.toList w):=by
 cases hl:isLet s[0].toNat
 · cases hd:zY s[0].toNat
   · by_cases hq:(s[0].toNat:Int)=34
     · exact next_quote s w hs hr h0 hq
     · exact next_other s w hs h0 hl hd hq
   · exact next_digit s w hs h0 hd
 · exact next_letter s w hs h0 hl
open Go.Proofs.YtepbbaifpckcpaaGreatDoor
open Go.RowKit
structure Rd (w:World) (k:Nat) (A:Option Addr) (n:Nat) (xs:List Value):Prop where
 len:xs.length=n * k
 cells:0<xs.length→∃b o,A=some ⟨b,o,none⟩∧b<w.heap.size∧∀j u,xs[j]? =some u→w.cell? ⟨b,o+j,none⟩=some u
theorem Rd.below {w w':World} {k n:Nat} {A:Option Addr} {xs:List Value} (h:Rd w k A n xs) (hb:Below w.heap.size w w'):Rd w' k A n xs:=
 ⟨h.len,fun hj=>by
  obtain⟨b,o,e,hl,hc⟩:=h.cells hj
  exact⟨b,o,e,Nat.lt_of_lt_of_le hl hb.size,fun j u hu=>(hb.cell (p:=⟨b,o+j,none⟩) hl).trans (hc j u hu)⟩⟩
theorem zam (g j:Nat):(⟨g,0,none⟩:Addr).add j=⟨g,0+j,none⟩:=by unfold Addr.add;split <;> simp_all
theorem Rd.own {w:World} {base e k n:Nat} {A:Option Addr} {c:Nat} {xs:List Value} (h:w.ownsRow base e k (.slice A n c) n xs):Rd w k A n xs:=fo84
theorem Rd.nil (w:World) (k:Nat) (A:Option Addr):Rd w k A 0 []:=⟨by simp,fun hj=>by simp at hj⟩
theorem ownsRow_form {w:World} {base e k n:Nat} {v:Value} {xs:List Value} (h:w.ownsRow base e k v n xs):∃A c,v= .slice A n c:=fo147
theorem ownsRow_below {w w':World} {base e k n:Nat} {v:Value} {xs:List Value} (h:w.ownsRow base e k v n xs) (hb:Below w.heap.size w w'):w'.ownsRow base e k v n xs:=fo103
theorem below_grown {B:Nat} {a w w':World} {row:Option Nat} (h:Below B a w) (hB:B≤w.heap.size) (hg:w.grownBy w' row) (hr:∀g,row=some g→B≤g):Below B a w':=
 h.trans ⟨hg.os,hg.tape,hg.output,hg.size,fun k hk=>hg.block k ja (fun e=>by have:=hr k e.symm;omega)⟩
def tokC (t:Tok):List Value:=(tokA t).toList
def toksC (l:List Tok):List Value:=l.flatMap tokC
theorem toksC_len (l:List Tok):(toksC l).length=l.length * 5:=by
 induction l with
 |nil=>rfl
 |cons t r ih=>simp only [toksC,List.flatMap_cons,List.length_append,List.length_cons] at ih⊢;rw [ih];simp [tokC,tokA];omega
theorem toksC_snoc (l:List Tok) (t:Tok):toksC (l++ [t])=toksC l++tokC t:=by simp [toksC]
def toksR (l:List UInt8):List Tok × Int × Int:=
 if 65536<l.length then([],0,3) else match toks l 1 [] with| .ok ts=>(ts,0,0)| .error n=>([],n,2)
def RetToks (l:List UInt8) (w:World) (e:Ending) (w':World):Prop:=
 ∃A c,e= .returned (.tuple #[.slice A (toksR l).1.length c, .int .i64 (toksR l).2.1, .int .i64 (toksR l).2.2])∧Rd w' 5 A (toksR l).1.length (toksC (toksR l).1)∧Below w.heap.size w w'∧(toksR l).1.length≤c∧c≤9223372036854775807
theorem beq_swap (a b:UInt8):(a == b)=(b == a):=by
 by_cases h:a=b
 · subst h;rfl
 · have h':¬b=a:=fun e=>h e.symm
   rw [beq_eq_false_iff_ne.2 h,beq_eq_false_iff_ne.2 h']
theorem prefix_cons (a:UInt8) (r:List UInt8):Lib.hasPrefix (a::r) [47,47]=(a == 47 && r.head? == some 47):=by
 cases r with
 |nil=>simp [Lib.hasPrefix,List.isPrefixOf]
 |cons c r=>
  simp only [Lib.hasPrefix,List.isPrefixOf,List.head?_cons,Bool.and_true];rw [beq_swap a,show(some c == some (47:UInt8))=(c == 47) from rfl,beq_swap c]
theorem zdQ (s:ByteArray) (h0:0<s.size):Lib.hasPrefix s.data.toList [47,47]=(s[0] == 47 &&(s.data.toList.drop 1).head? == some 47):=by
 conv=>lhs;rw [zdO s h0]
 exact prefix_cons _ _
theorem idx_nl (l:List UInt8):(Lib.indexByte l 10=-1∧l.dropWhile zc1= [])∨(∃k:Nat,Lib.indexByte l 10=k∧k<l.length∧l.dropWhile zc1=l.drop k):=by
 induction l with
 |nil=>exact .inl ⟨rfl,rfl⟩
 |cons c r ih=>
  by_cases hc:c=10
  · refine .inr ⟨0, ?_,by simp, ?_⟩
    · simp [Lib.indexByte,hc]
    · simp [zc1,hc]
  · have h1:(c == 10)=false:=by simp [hc]
    have h2:zc1 c=true:=by simp [zc1,hc]
    rcases ih with⟨h,h'⟩|⟨k,h,hk,h'⟩
    · refine .inl ⟨?_, ?_⟩
      · simp [Lib.indexByte,h1,h]
      · rw [List.dropWhile_cons_of_pos h2,h']
    · refine .inr ⟨k+1, ?_,by simp;omega, ?_⟩
      · have:(Lib.indexByte r 10 == -1)=false:=by rw [h,beq_eq_false_iff_ne];omega
        simp only [Lib.indexByte,h1,h];simp
      · rw [List.dropWhile_cons_of_pos h2,h'];rfl
theorem count_nl (l:List UInt8):Lib.countByte l 10=zar l:=by
 simp [Lib.countByte,zar,List.count_eq_countP,List.countP_eq_length_filter]
theorem countNl_le (l:List UInt8):zar l≤l.length:=List.length_filter_le _ _
theorem info33:(Tryz.prog.info? 117).map (fun i=>(i.zero,i.size,i.bytes))=some (some (.agg #[.int .i64 0, .string ⟨#[]⟩, .int .i64 0, .string ⟨#[]⟩, .int .i64 0]),5,56):=by kernel_rfl
theorem toks_at_space (s:ByteArray) (line:Int) (acc:List Tok):toks s.data.toList line acc=toks (s.data.toList.drop (run isSp s.data.toList)) (line+zar (s.data.toList.take (run isSp s.data.toList))) acc:=by
 rw [drop_run,zci];exact toks_spaces _ _ _
theorem zeT (s:ByteArray) (h0:0<s.size) (line:Int) (acc:List Tok) (h:Lib.hasPrefix s.data.toList [47,47]=true):toks s.data.toList line acc=toks (s.data.toList.dropWhile zc1) line acc:=by
 rw [zdQ s h0] at h;simp only [Bool.and_eq_true,beq_iff_eq] at h;have e:=zdO s h0;have h1:=toks_comment (s.data.toList.drop 1) line acc h.2;rw [←h.1,←e] at h1;rw [h1];have h2:s.data.toList.dropWhile zc1=(s.data.toList.drop 1).dropWhile zc1:=by
  conv=>lhs;rw [e]
  rw [List.dropWhile_cons_of_pos (by rw [h.1];rfl)]
 rw [h2]
theorem toks_at_tok (s:ByteArray) (h0:0<s.size) (line:Int) (acc:List Tok) (hs:isSp s[0].toNat=false) (h:Lib.hasPrefix s.data.toList [47,47]=false) (t:Tok) (m:Nat) (ht:TokOk s.data.toList t m) :
    (m=0∧toks s.data.toList line acc= .error line)∨(1≤m∧m≤s.size∧toks s.data.toList line acc=toks (s.data.toList.drop m) line (acc++ [{t with line:=line}])):=by
 rw [zdQ s h0] at h;have e:=zdO s h0;have h1:=toks_tok s[0] (s.data.toList.drop 1) line acc hs h;rw [←e] at h1;rw [h1];unfold TokOk at ht;cases hk:tok1 s.data.toList with
 |none=>rw [hk] at ht;exact .inl ⟨by simp only at ht;omega,rfl⟩
 |some x=>
  obtain⟨u,k⟩:=x;rw [hk] at ht;simp only at ht;obtain⟨rfl,hm,hk1,hk2⟩:=ht;have:m=k:=by omega
  subst this;refine .inr ⟨hk1,by simpa using hk2, ?_⟩;simp only [List.drop_drop];congr 2;omega
set_option maxRecDepth 100000
set_option maxHeartbeats 2000000
open Go.Proofs.YtepbbaifpckcpaaGreatDoor
open Go.RowKit
def TokRel (s:ByteArray) (w:World) (l:List UInt8) (o:Value) (ln:Int) (acc:List Tok) (wr:World):Prop:=
 0≤ln∧ln+l.length≤s.size+1∧acc.length+l.length≤s.size∧wr.ownsRow w.heap.size 117 5 o acc.length (toksC acc)∧Below w.heap.size w wr∧w.heap.size≤wr.heap.size∧toks s.data.toList 1 []=toks l ln acc
theorem toksR_ok (s:ByteArray) (hs:s.size≤65536) (ts:List Tok) (h:toks s.data.toList 1 []= .ok ts):toksR s.data.toList=(ts,0,0):=by
 unfold toksR;rw [if_neg jg,h]
theorem toksR_err (s:ByteArray) (hs:s.size≤65536) (n:Int) (h:toks s.data.toList 1 []= .error n):toksR s.data.toList=([],n,2):=by
 unfold toksR;rw [if_neg jg,h]
theorem ret_toks {l:List UInt8} {w w':World} (A:Option Addr) (c:Nat) (ts:List Tok) (line err:Int) (h:toksR l=(ts,line,err)) (hr:Rd w' 5 A ts.length (toksC ts)) (hb:Below w.heap.size w w') (hc:ts.length≤c∧c≤9223372036854775807) :
    RetToks l w (.returned (.tuple #[.slice A ts.length c, .int .i64 line, .int .i64 err])) w':=by
 refine⟨A,c, ?_, ?_,hb, ?_⟩
 · rw [h]
 · rw [h];exact hr
 · rw [h];exact hc
theorem own_capmax {w:World} {base e k n:Nat} {A:Option Addr} {c:Nat} {xs:List Value} (h:w.ownsRow base e k (.slice A n c) n xs):n≤c∧c≤9223372036854775807:=fo76
theorem cap0:([]:List Tok).length≤0∧0≤9223372036854775807:=⟨Nat.le_refl _,by decide⟩
def strLen:Value→Nat
 | .string t=>t.size
 |_=>0
theorem yu (t:ByteArray):t.data.toList.length=t.size:=by simp
theorem zbO {s:ByteArray} {w wr w1:World} {l l':List UInt8} {o:Value} {n n':Int} {acc:List Tok} (h:TokRel s w l o n acc wr) (hb:Below wr.heap.size wr w1) (hn:0≤n') (hl:n'+l'.length≤n+l.length) (hll:l'.length≤l.length)
    (hk:toks l n acc=toks l' n' acc):TokRel s w l' o n' acc w1:=by
 obtain⟨h1,h2,h3,hown,hb',hge,hf⟩:=h;exact⟨hn,by omega,by omega,ownsRow_below hown hb,hb'.trans (hb.mono hge),Nat.le_trans hge hb.size,hf.trans hk⟩
theorem lexTokens_any (s:ByteArray) (w:World) (hs:s.size≤65536) :
    Calls Tryz.prog 83 #[.string s] w (RetToks s.data.toList w):=by
 obtain⟨i0,hi,hz0,hz1,hz2⟩:=info_parts info33;have HI:=hD hi;have HZ0:=hD hz0;have HZ1:=hD hz1;have HZ2:=hD hz2;clear hi hz0 hz1 hz2;go_in;go_wp2_with fail;go_loopw [0,5,6] (fun s' o ln wr=>∃(t:ByteArray) (n:Int) (acc:List Tok),s'= .string t∧ln= .int .i64 n∧TokRel s w t.data.toList o n acc wr) (fun s' _ _ _=>strLen s')
 case atStart=>exact⟨s,1, [],rfl,rfl,by omega,by simp;omega,by simp,World.ownsRow_nil _ _ _ _,Below.refl _ _,Nat.le_refl _,rfl⟩
 case round=>
  obtain⟨t,n,acc,rfl,rfl,hrel⟩:=hrel;have HREL:=hD hrel;obtain⟨h1,h2,h3,hown,hb,hge,hf⟩:=hrel;rw [yu] at h2 h3;have HO:=hD hown;have HB:=hD hb;have HF:=hD hf;clear hown hb hf;by_cases ht0:t.size=0
  · have hq:t.toList.isEmpty=true:=by rw [Lib.toList_data,za8 t ht0];rfl
    have hne:(!t.toList.isEmpty)=false:=by rw [hq];rfl
    have HE:=hD (za8 t ht0);have hF2:toksR s.data.toList=(acc,0,0):=toksR_ok s hs acc (by rw [HF.out,HE.out];rw [toks]);have HF2:=hD hF2;obtain⟨A,c,hv⟩:=ownsRow_form HO.out;subst hv;clear hF2 ht0;go_wp2_with fail;go_ret3;exact ret_toks A c acc 0 0 HF2.out (Rd.own HO.out) HB.out (own_capmax HO.out)
  · have hq:t.toList.isEmpty=false:=by rw [Lib.toList_data];exact zeI t ja
    have ht1:0<t.size:=by omega
    cases hsp:isSp t[0].toNat
    · have HSP:=hD hsp;clear hsp;cases hcm:Lib.hasPrefix t.data.toList [47,47]
      · have HPC:Hid (∀w,Calls Tryz.prog 122 #[.string t, .string ⟨#[47,47]⟩] w fun e w'=>e= .returned (.bool false)∧w=w'):=hD (fun w=>fo116);have HTK:=hD (toks_at_tok t ht1 n acc HSP.out hcm);clear hcm;go_wp2_with (first|(go_at_call 120;refine(zbm _ _ ja (Zz _)).mono ?_;rw [HSP.out];rintro e w' ⟨rfl,rfl⟩)|(go_at_call 122;refine(HPC.out _).mono ?_;rintro e w' ⟨rfl,rfl⟩));refine(zcH _ _ jw ja ht1).mono ?_;rintro e w1 ⟨⟨kd,tx,it,st,l0⟩,m,rfl,htk,hm0,hb1⟩;simp only [tokA];obtain⟨k,rfl⟩:=Int.eq_ofNat_of_zero_le hm0;have hz1:=hb1.size;have HB1:=hD hb1;rcases HTK.out _ k htk with⟨hk0,htk1⟩|⟨hk1,hk2,htk1⟩
        · have hkz:((k:Int) == 0)=true:=by simp [hk0]
          have HT1:=hD htk1;clear htk htk1 hb1 hk0;go_wp2_with fail;go_ret3;refine ret_toks none 0 [] n 2 (toksR_err s hs n (by rw [HF.out,HT1.out])) (Rd.nil _ _ _) ?_ cap0;exact(HB.out.trans (HB1.out.mono hge)).alloc (Nat.le_trans hge hz1) _
        · have hkz:((k:Int) == 0)=false:=by rw [beq_eq_false_iff_ne];omega
          have HT1:=hD htk1;have HO1:=hD (ownsRow_below HO.out HB1.out);clear htk htk1 hb1;go_wp2_with (at_builtin;refine wpList_append_own _ rfl _ _ 110 rfl w.heap.size 117 i0 _ 5 56 Tryz.underlying110 HI.out HZ0.out HZ1.out HZ2.out rfl jf _ _ _ rfl ((HO1.out.alloc _).alloc _) ⟨w1.heap.size+1,0,none⟩ 1 1 [.int .i64 kd, .string ⟨tx.toArray⟩, .int .i64 it, .string ⟨st.toArray⟩, .int .i64 n] rfl rfl ?c1 ?c2 ?c3 ?c4 ?c5 ?_)
          case c2=>simp [Value.oneCell']
          case c3=>simp [maxLen];omega
          case c4=>omega
          case c5=>first|omega|(simp;omega)
          intro v' w2 hown' hgrow _;have HO2:=hD hown';have HG2:=hD hgrow;clear hown' hgrow;go_wp2_with fail;go_roundw
          case rel=>
           refine⟨t.extract k t.size,n,acc++ [⟨kd,tx,it,st,n⟩],rfl,rfl, ?_⟩;rw [tail_of];refine⟨h1,by simp;omega,by simp;omega, ?_, ?_, ?_, ?_⟩
           · rw [toksC_snoc,List.length_append];exact HO2.out
           · exact below_grown (((HB.out.trans (HB1.out.mono hge)).alloc (Nat.le_trans hge hz1) _).alloc jg _) jg HG2.out (fun g hg=>(HO1.out.lt g hg).1)
           · have:=HG2.out.size;simp at this;omega
           · rw [HF.out,HT1.out]
          case measure=>simp [strLen];omega
      · have HCM:=hD hcm;have HPC:Hid (∀w,Calls Tryz.prog 122 #[.string t, .string ⟨#[47,47]⟩] w fun e w'=>e= .returned (.bool true)∧w=w'):=hD (fun w=>fo116);have HTK:=hD (zeT t ht1 n acc hcm);clear hcm;rcases idx_nl t.data.toList with⟨hx,hx'⟩|⟨k,hx,hk,hx'⟩
        · have HXC:Hid (∀w,Calls Tryz.prog 123 #[.string t, .int .u8 10] w fun e w'=>e= .returned (.int .i64 (-1))∧w=w'):=hD (fun w=>fo122);have HX:=hD hx';clear hx hx';go_wp2_with (first|(go_at_call 120;refine(zbm _ _ ja (Zz _)).mono ?_;rw [HSP.out];rintro e w' ⟨rfl,rfl⟩)|(go_at_call 122;refine(HPC.out _).mono ?_;rintro e w' ⟨rfl,rfl⟩)|(go_at_call 123;refine(HXC.out _).mono ?_;rintro e w' ⟨rfl,rfl⟩));go_roundw
          case rel=>
           exact⟨ByteArray.empty,n,acc,rfl,rfl,zbO HREL.out (Below.refl _ _) h1 jg jd (by rw [HTK.out,HX.out];rfl)⟩
          case measure=>simp [strLen];omega
        · have HXC:Hid (∀w,Calls Tryz.prog 123 #[.string t, .int .u8 10] w fun e w'=>e= .returned (.int .i64 k)∧w=w'):=hD (fun w=>fo122);have HX:=hD hx';have hk0:0<k:=by
           rcases Nat.eq_zero_or_pos k with rfl|h
           · exfalso;have h5:=zdQ t ht1;rw [HCM.out] at h5;simp only [Bool.true_eq,Bool.and_eq_true,beq_iff_eq] at h5;rw [zdO t ht1,h5.1] at hx;have:Lib.indexByte (47::List.drop 1 t.data.toList) 10≠0:=by
              simp only [Lib.indexByte];have:=Lib.indexByte_ge (List.drop 1 t.data.toList) 10;rw [if_neg jf];split
              · decide
              · rename_i h6;intro h7;apply h6;rw [beq_iff_eq];omega
             exact this hx
           · exact h
          rw [yu] at hk;clear hx hx';go_wp2_with (first|(go_at_call 120;refine(zbm _ _ ja (Zz _)).mono ?_;rw [HSP.out];rintro e w' ⟨rfl,rfl⟩)|(go_at_call 122;refine(HPC.out _).mono ?_;rintro e w' ⟨rfl,rfl⟩)|(go_at_call 123;refine(HXC.out _).mono ?_;rintro e w' ⟨rfl,rfl⟩));go_roundw
          case rel=>
           refine⟨t.extract k t.size,n,acc,rfl,rfl, ?_⟩;rw [tail_of];exact zbO HREL.out (Below.refl _ _) h1 jd jd (by rw [HTK.out,HX.out])
          case measure=>simp [strLen];omega
    · have HSP:=hD hsp;have HPX:Hid (∀w,Calls Tryz.prog 121 #[.string t, .func (.func 120) #[] #[]] w fun e w'=>e= .returned (.int .i64 (run isSp t.data.toList))∧w=w'):=hD (fun w=>zcZ t 120 isSp (fun n w h0 h1=>zbm n w h0 h1) plain27 w jw);have HCT:Hid (∀w,Calls Tryz.prog 118 #[.string (t.extract 0 (run isSp t.data.toList)), .string ⟨#[10]⟩] w fun e w'=>e= .returned (.int .i64 (zar (t.data.toList.take (run isSp t.data.toList))))∧w=w'):=hD (fun w=>by
       have:=Y5 (Tryz.strings_Count_one (t.extract 0 (run isSp t.data.toList)) 10 w);rw [show(t.extract 0 (run isSp t.data.toList)).data.toList=t.data.toList.take (run isSp t.data.toList) from by rw [ext0],count_nl] at this;exact this)
      have HTK:=hD (toks_at_space t n acc);have hr1:=run_le isSp t.data.toList;have hr2:=run_pos isSp t ht1 hsp;have hc1:=countNl_le (t.data.toList.take (run isSp t.data.toList));rw [List.length_take,yu] at hc1;rw [yu] at hr1;clear hsp;generalize zar (t.data.toList.take (run isSp t.data.toList))=m at *;generalize run isSp t.data.toList=k at *;have hmk:m≤k:=by omega
      clear hc1;go_wp2_with (first|(go_at_call 120;refine(zbm _ _ ja (Zz _)).mono ?_;rw [HSP.out];rintro e w' ⟨rfl,rfl⟩)|(go_at_call 121;refine(HPX.out _).mono ?_;rintro e w' ⟨rfl,rfl⟩)|(go_at_call 118;refine(HCT.out _).mono ?_;rintro e w' ⟨rfl,rfl⟩));go_roundw
      case rel=>
       refine⟨t.extract k t.size,n+m,acc,rfl,rfl, ?_⟩;rw [tail_of];exact zbO HREL.out (Below.refl _ _) ja jg jd (by rw [HTK.out])
      case measure=>simp [strLen];omega
open Go.Proofs.YtepbbaifpckcpaaGreatDoor
open Go.RowKit
theorem z8 (W:World) (cs:List Value) (T:TypeId) (b:Nat) (hb:b=W.heap.size):∀j u,cs[j]? =some u→(W.alloc (.cells cs.toArray T)).cell? ((⟨b,0,none⟩:Addr).add j)=some u:=fo78
set_option maxRecDepth 100000
set_option maxHeartbeats 2000000
open Go.Proofs.YtepbbaifpckcpaaGreatDoor
open Go.RowKit
def hexd (n:Nat):UInt8:=if n<10 then(48+n).toUInt8 else(87+n).toUInt8
def qch (c:UInt8):List UInt8:=
 if(c.toNat:Int)=34∨(c.toNat:Int)=92 then [92,c] else if(c.toNat:Int)=10 then [92,110]
 else if(c.toNat:Int) <32∨126<(c.toNat:Int) then [92,120,hexd (c.toNat / 16),hexd (c.toNat % 16)] else [c]
def qmid (l:List UInt8):List UInt8:=l.flatMap qch
def quote (l:List UInt8):List UInt8:=34::(qmid l++ [34])
theorem qch_len (c:UInt8):(qch c).length≤4:=by
 unfold qch;repeat' split
 all_goals simp
theorem qmid_len (l:List UInt8):(qmid l).length≤4 * l.length:=by
 induction l with
 |nil=>simp [qmid]
 |cons c r ih=>have:=qch_len c;simp only [qmid,List.flatMap_cons,List.length_append,List.length_cons] at ih⊢;omega
theorem take_succ' (s:ByteArray) (k:Nat) (h:k<s.size):s.data.toList.take (k+1)=s.data.toList.take k++ [s[k]]:=by
 rw [List.take_succ_eq_append_getElem jac];rfl
theorem qmid_snoc (s:ByteArray) (k:Nat) (h:k<s.size):qmid (s.data.toList.take (k+1))=qmid (s.data.toList.take k)++qch s[k]:=by
 rw [take_succ' s k h];simp [qmid]
theorem size_lit (a b:List UInt8):(ByteArray.mk a.toArray++ByteArray.mk b.toArray).size=a.length+b.length:=by
 rw [zbL];simp [ByteArray.size]
theorem size_4 (a b c d:UInt8):(ByteArray.mk #[a,b,c,d]).size=4:=rfl
theorem cat3 (a b c d:UInt8):ByteArray.mk #[a,b]++ByteArray.mk #[c]++ByteArray.mk #[d]=ByteArray.mk #[a,b,c,d]:=by
 apply ByteArray.ext;simp
theorem ext1 (s:ByteArray) (k:Nat) (h:k<s.size):s.extract k (k+1)=⟨[s[k]].toArray⟩:=by
 apply ByteArray.ext;apply Array.toList_inj.1;rw [Lib.extract_data,drop_at s k h];simp
theorem hex_ext:∀d:Fin 16,(ByteArray.mk #[48,49,50,51,52,53,54,55,56,57,97,98,99,100,101,102]).extract d.val (d.val+1)=⟨[hexd d.val].toArray⟩:=by decide +kernel
theorem and15':∀n:Fin 256,bits BinOp.and IntKind.u8 (n.val:Int) 15=(n.val:Int) % 16:=by decide +kernel
theorem and15 (c:UInt8):bits BinOp.and IntKind.u8 (c.toNat:Int) 15=(c.toNat:Int) % 16:=and15' ⟨c.toNat,c.toNat_lt⟩
theorem zcb (d:Nat) (hd:d<16) (W:World):Sem.run Tryz.prog (Instr.slice 9 (.string ⟨#[48,49,50,51,52,53,54,55,56,57,97,98,99,100,101,102]⟩) (some (.int .u8 d)) (some (.int .u8 ((d:Int)+1))) none) W= .ok (.string ⟨[hexd d].toArray⟩) W:=by
 rw [run_slice_string_if W 9 _ .u8 .u8 _ _ Tryz.underlying9];rw [if_pos jaj,if_pos ja];rw [show(d:Int).toNat=d from by omega,show((d:Int)+1).toNat=d+1 from by omega];rw [hex_ext ⟨d,hd⟩]
def BSt (w0:World) (l:List UInt8) (w:World):Prop:=Lib.IsBuilder 77 5 w0.heap.size w0.heap.size (Lib.byteCells l) w∧Below w0.heap.size w0 w∧w0.heap.size≤w.heap.size
theorem zcQ (w:World):BSt w [] (w.alloc (.cells #[.pointer none, .slice none 0 0] 77)):=
 ⟨Lib.fresh_isBuilder 77 5 w,(Below.refl _ _).alloc (Nat.le_refl _) _,by simp⟩
theorem bst_drewN {w0 w:World} {l:List UInt8} (h:BSt w0 l w) (n:Nat):BSt w0 l (w.drewN n):=⟨h.1,Go.below_drewN h.2.1 n,h.2.2⟩
theorem zcR {w0 w:World} {l:List UInt8} (h:BSt w0 l w) (s:ByteArray) (hl:l.length+s.size≤140737488355328) :
    Calls Tryz.prog 47 #[.pointer (some ⟨w0.heap.size,0,none⟩), .string s] w fun e w'=>e= .returned (.tuple #[.int .i64 s.size, .nilIface])∧BSt w0 (l++s.data.toList) w':=
 (Tryz.Builder_WriteString _ _ _ s w h.1 jbv h.2.2).mono fun _ _ ⟨he,hI,hb⟩=>
  ⟨he, by have : Lib.byteCells l ++ Lib.strCells s = Lib.byteCells (l ++ s.data.toList) := by simp [Lib.byteCells, Lib.strCells]
          rw [this] at hI;exact .inr hI,h.2.1.trans hb,Nat.le_trans h.2.2 hb.size⟩
theorem zbD {w0 w:World} {l:List UInt8} (h:BSt w0 l w) (c:Int) (h0:0≤c) (h1:c<256) (hl:l.length+1≤140737488355328) :
    Calls Tryz.prog 114 #[.pointer (some ⟨w0.heap.size,0,none⟩), .int .u8 c] w fun e w'=>e= .returned .nilIface∧BSt w0 (l++ [c.toNat.toUInt8]) w':=
 (Tryz.Builder_WriteByte _ _ _ c w h.1 jbv h.2.2).mono fun _ _ ⟨he,hI,hb⟩=>
  ⟨he,by rw [byteCells_snoc l c h0 h1] at hI;exact .inr hI,h.2.1.trans hb,Nat.le_trans h.2.2 hb.size⟩
theorem zep {w0 w:World} {l:List UInt8} (h:BSt w0 l w) :
    Calls Tryz.prog 50 #[.pointer (some ⟨w0.heap.size,0,none⟩)] w fun e w'=>e= .returned (.string ⟨l.toArray⟩)∧Below w0.heap.size w0 w':=
 (Tryz.Builder_String_any _ _ l w h.1 h.2.2).mono fun _ _ ⟨he,hb⟩=>⟨he,h.2.1.trans hb⟩
theorem zdk {w0 w:World} {l l':List UInt8} (h:BSt w0 l w) (e:l=l'):BSt w0 l' w:=e▸h
theorem lexQuote_any (s:ByteArray) (w:World) (hs:s.size≤1100000) :
    Calls Tryz.prog 77 #[.string s] w fun e w'=>e= .returned (.string ⟨(quote s.data.toList).toArray⟩)∧Below w.heap.size w w':=by
 have H0:=hD (zcQ w);go_in;go_wp2_with fail;refine(zbD H0.out _ ja ja jd).mono ?_;rintro e w1 ⟨rfl,h1⟩;have H1:=hD h1;clear h1;go_wp2_with fail;go_loopw [9] (fun i wr=>∃k:Nat,i= .int .i64 k∧k≤s.size∧BSt w (34::qmid (s.data.toList.take k)) wr) (fun i _=>s.size-(intOf i).toNat)
 case atStart=>exact⟨0,rfl,by omega,H1.out⟩
 case round=>
  obtain⟨k,rfl,hk,hI⟩:=hrel;have HI:=hD hI;clear hI;have hql:=qmid_len (s.data.toList.take k);rw [List.length_take,yu] at hql;by_cases hlt:k<s.size
  · have HS:=hD (qmid_snoc s k hlt);have HE:=hD (ext1 s k hlt);by_cases h34:(s[k].toNat:Int)=34∨(s[k].toNat:Int)=92
    · have HQ : Hid (qch s[k] = [92, s[k]]) := hD (by unfold qch; rw [if_pos h34]); have hc : (((s[k].toNat : Int) == 34) = true) ∨ (((s[k].toNat : Int) == 34) = false ∧ ((s[k].toNat : Int) == 92) = true) := fo140; clear h34; rcases hc with hc | ⟨hc, hc2⟩; all_goals
       go_wp2_with fail;refine(zcR HI.out _ (by rw [HE.out,size_lit [92] [s[k]]];simp;omega)).mono ?_;rintro e w2 ⟨rfl,h2⟩;have H2:=hD h2;clear h2;go_wp2_with fail;go_roundw
       case rel=>
        refine⟨k+1,by go_num,by omega,zdk H2.out ?_⟩;rw [HS.out,HQ.out,HE.out];simp
       case measure=>simp [intOf];omega
    · have c1:((s[k].toNat:Int) == 34)=false:=by rw [beq_eq_false_iff_ne];omega
      have c2:((s[k].toNat:Int) == 92)=false:=by rw [beq_eq_false_iff_ne];omega
      by_cases h10:(s[k].toNat:Int)=10
      · have c3:((s[k].toNat:Int) == 10)=true:=by simp [h10]
        have HQ:Hid (qch s[k]= [92,110]):=hD (by unfold qch;rw [if_neg h34,if_pos h10]);clear h34 h10;go_wp2_with fail;refine(zcR HI.out _ jaj).mono ?_;exact fo75
      · have c3:((s[k].toNat:Int) == 10)=false:=by rw [beq_eq_false_iff_ne];exact h10
        by_cases hp:(s[k].toNat:Int) <32∨126<(s[k].toNat:Int)
        · have HQ : Hid (qch s[k] = [92, 120, hexd (s[k].toNat / 16), hexd (s[k].toNat % 16)]) := hD (by unfold qch; rw [if_neg h34, if_neg h10, if_pos hp]); have hb := Zz s[k]; clear h34 h10; rcases hp with hp | hp; all_goals
           go_wp2_with fail;have f1:=zcb (s[k].toNat / 16) ja;have f2:=zcb (s[k].toNat % 16) ja;simp only [Int.natCast_ediv,Int.natCast_emod,Int.cast_ofNat_Int] at f1 f2;have e1:IntKind.u8.wrap ((s[k].toNat:Int) / 16+1)=(s[k].toNat:Int) / 16+1:=IntWalk.u8_in _ ja;have e2:IntKind.u8.wrap ((s[k].toNat:Int) % 16+1)=(s[k].toNat:Int) % 16+1:=IntWalk.u8_in _ ja;have e3:=and15 s[k];go_still_tail 14,jc;change wpList _ _ _ _ _ wr.drew;generalize hwd:wr.drew=w2;have HI2:Hid (BSt w (34::qmid (s.data.toList.take k)) w2):=hD (by rw [←hwd];exact bst_drewN HI.out 1);clear hwd e1 e2 e3 f1 f2;go_wp2_with fail;refine(zcR HI2.out _ (by rw [cat3,size_4];simp;omega)).mono ?_;rintro e w3 ⟨rfl,h2⟩;rw [cat3] at h2;have H2:=hD h2;clear h2;go_wp2_with fail;go_roundw
           case rel=>
            refine⟨k+1,by go_num,by omega,zdk H2.out ?_⟩;rw [HS.out,HQ.out];simp
           case measure=>simp [intOf];omega
        · have HQ:Hid (qch s[k]= [s[k]]):=hD (by unfold qch;rw [if_neg h34,if_neg h10,if_neg hp]);have b1:32≤(s[k].toNat:Int):=by omega
          have b2:(s[k].toNat:Int)≤126:=by omega
          clear h34 h10 hp;go_wp2_with fail;refine(zbD HI.out _ ja (Zz _) jg).mono ?_;exact fo75
  · have HT:Hid (s.data.toList.take k=s.data.toList):=hD (List.take_of_length_le jg);go_wp2_with fail;refine(zbD HI.out _ ja ja jg).mono ?_;rintro e w2 ⟨rfl,h2⟩;have H2:=hD h2;clear h2;go_wp2_with fail;refine(zep H2.out).mono ?_;rintro e w3 ⟨rfl,hb⟩;have HB:=hD hb;clear hb;go_wp2_with fail;go_ret;refine⟨?_,HB.out⟩;rw [HT.out];rfl
theorem YF (l:List UInt8) (b:ByteArray):ByteArray.mk l.toArray++b=ByteArray.mk (l++b.data.toList).toArray:=by
 apply ByteArray.ext;simp
theorem ret_str {a b:List UInt8} (h:a=b):Ending.returned (.string ⟨a.toArray⟩)= .returned (.string ⟨b.toArray⟩):=by rw [h]
theorem refQuote_any (s:ByteArray) (w:World) (hs:s.size≤1100000) :
    Calls Tryz.prog 80 #[.string s] w fun e w'=>e= .returned (.string ⟨(quote s.data.toList).toArray⟩)∧Below w.heap.size w w':=by
 go_in;go_wp2_with fail;go_loopw [3,4] (fun o i wr=>∃k:Nat,i= .int .i64 k∧k≤s.size∧o= .string ⟨(34::qmid (s.data.toList.take k)).toArray⟩∧Below w.heap.size w wr) (fun _ i _=>s.size-(intOf i).toNat)
 case atStart=>exact⟨0,rfl,by omega,rfl,Below.refl _ _⟩
 case round=>
  obtain⟨k,rfl,hk,rfl,hb⟩:=hrel;have HB:=hD hb;clear hb;have hql:=qmid_len (s.data.toList.take k);rw [List.length_take,yu] at hql;by_cases hlt:k<s.size
  · have HS:=hD (qmid_snoc s k hlt);have HE:=hD (ext1 s k hlt);by_cases h34:(s[k].toNat:Int)=34∨(s[k].toNat:Int)=92
    · have HQ : Hid (qch s[k] = [92, s[k]]) := hD (by unfold qch; rw [if_pos h34]); have hc : (((s[k].toNat : Int) == 34) = true) ∨ (((s[k].toNat : Int) == 34) = false ∧ ((s[k].toNat : Int) == 92) = true) := fo140; clear h34; rcases hc with hc | ⟨hc, hc2⟩; all_goals
       go_wp2_with fail;go_roundw
       case rel=>
        refine⟨k+1,by go_num,by omega, ?_,HB.out⟩;rw [HS.out,HQ.out,HE.out,YF,YF];simp
       case measure=>simp [intOf];omega
    · have c1:((s[k].toNat:Int) == 34)=false:=by rw [beq_eq_false_iff_ne];omega
      have c2:((s[k].toNat:Int) == 92)=false:=by rw [beq_eq_false_iff_ne];omega
      by_cases h10:(s[k].toNat:Int)=10
      · have c3:((s[k].toNat:Int) == 10)=true:=by simp [h10]
        have HQ:Hid (qch s[k]= [92,110]):=hD (by unfold qch;rw [if_neg h34,if_pos h10]);clear h34 h10;go_wp2_with fail;go_roundw
        case rel=>
         refine⟨k+1,by go_num,by omega, ?_,HB.out⟩;rw [HS.out,HQ.out,YF];simp
        case measure=>simp [intOf];omega
      · have c3:((s[k].toNat:Int) == 10)=false:=by rw [beq_eq_false_iff_ne];exact h10
        by_cases hp:(s[k].toNat:Int) <32∨126<(s[k].toNat:Int)
        · have HQ : Hid (qch s[k] = [92, 120, hexd (s[k].toNat / 16), hexd (s[k].toNat % 16)]) := hD (by unfold qch; rw [if_neg h34, if_neg h10, if_pos hp]); have hb := Zz s[k]; have f1 := zcb (s[k].toNat / 16) (by omega); have f2 := zcb (s[k].toNat % 16) (by omega); simp only [Int.natCast_ediv, Int.natCast_emod, Int.cast_ofNat_Int] at f1 f2; have e1 : IntKind.u8.wrap ((s[k].toNat : Int) / 16 + 1) = (s[k].toNat : Int) / 16 + 1 := IntWalk.u8_in _ (by omega); have e2 : IntKind.u8.wrap ((s[k].toNat : Int) % 16 + 1) = (s[k].toNat : Int) % 16 + 1 := IntWalk.u8_in _ (by omega); have e4 : IntKind.u8.wrap ((s[k].toNat : Int) / 16) = (s[k].toNat : Int) / 16 := IntWalk.u8_in _ (by omega); have e5 : IntKind.u8.wrap ((s[k].toNat : Int) % 16) = (s[k].toNat : Int) % 16 := IntWalk.u8_in _ (by omega); have e6 : IntKind.u8.wrap ((s[k].toNat : Int).tdiv 16) = (s[k].toNat : Int) / 16 := IntWalk.u8_quo _ _ (by omega); have e7 : (s[k].toNat : Int).tmod 16 = (s[k].toNat : Int) % 16 := IntWalk.rem_in _ _ (by omega); clear h34 h10; rcases hp with hp | hp; all_goals
           go_wp2_with fail;go_quiet (fail);go_wp2_with fail;go_roundw
           case rel=>
            refine⟨k+1,by go_num,by omega, ?_,Go.below_drewN HB.out _⟩;rw [HS.out,HQ.out,YF,YF,YF];simp
           case measure=>simp [intOf];omega
        · have HQ:Hid (qch s[k]= [s[k]]):=hD (by unfold qch;rw [if_neg h34,if_neg h10,if_neg hp]);have b1:32≤(s[k].toNat:Int):=by omega
          have b2:(s[k].toNat:Int)≤126:=by omega
          clear h34 h10 hp;go_wp2_with fail;go_roundw
          case rel=>
           refine⟨k+1,by go_num,by omega, ?_,HB.out⟩;rw [HS.out,HQ.out,HE.out,YF];simp
          case measure=>simp [intOf];omega
  · have HT:Hid (s.data.toList.take k=s.data.toList):=hD (List.take_of_length_le jg);go_wp2_with fail;go_ret;refine⟨?_,HB.out⟩;rw [YF];exact ret_str (by rw [HT.out];rfl)
end Go.Proofs.YtepbbaifpckcpaaGreatDoor.Q06
