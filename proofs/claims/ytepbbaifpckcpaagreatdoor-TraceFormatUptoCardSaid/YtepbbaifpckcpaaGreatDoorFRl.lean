/- The contract of the reference's Encode. -/
import Derived.Lib.ItoaLen
import Derived.Deep.CutBlock
import Derived.Test.YtepbbaifpckcpaaGreatDoorFFo
import Derived.Test.YtepbbaifpckcpaaGreatDoorFPl
import Derived.Test.YtepbbaifpckcpaaGreatDoorFMs
import Derived.Test.YtepbbaifpckcpaaGreatDoorFTrM
import Derived.Test.YtepbbaifpckcpaaGreatDoorFTrGd
import Derived.Test.YtepbbaifpckcpaaGreatDoorFTo
import Derived.Test.YtepbbaifpckcpaaGreatDoorFTrVd
namespace Go.Proofs.YtepbbaifpckcpaaGreatDoor
set_option maxRecDepth 100000
set_option maxHeartbeats 4000000
open Go.RowKit
theorem ze7 (m:Ms) (w:World) (hok:m.ok w) (hs:m.sz≤16777216):Calls Tryz.prog 81 #[.agg (msC m).toArray] w (Zv (enc0 m) (vMs m) w):=by
 have HV:Hid (∀w1,Below w.heap.size w w1→Calls Tryz.prog 66 #[.agg (msC m).toArray] w1 (Zw (vMs m) w1)):=hD (fun w1 hb=>ZG m w1 (Ms.below hok hb) (MsFew.of_sz ja));have HE:Hid (∀w1,Below w.heap.size w w1→Calls Tryz.prog 46 #[.agg (msC m).toArray] w1 (zi (yO m) w1)):=hD (fun w1 hb=>YH m w1 (Ms.below hok hb) hs);exact fo37
set_option maxRecDepth 100000
set_option maxHeartbeats 8000000
open Go.RowKit
def headL (x:Pt):List UInt8:=Lib.itoa x.time++32::(yj x.kind++32::Lib.itoa x.who)
def zeW (ps:List (List UInt8)):List UInt8:=ps.flatMap (32::·)
theorem join_tail (a:List UInt8) (ps:List (List UInt8)):Lib.join (a::ps) [32]=a++zeW ps:=by
 induction ps generalizing a with
 |nil=>simp [Lib.join,List.intercalate,zeW]
 |cons b r ih=>
  have e:Lib.join (a::b::r) [32]=a++32::Lib.join (b::r) [32]:=by simp [Lib.join,List.intercalate]
  rw [e,ih];simp [zeW]
theorem zav (x:Pt):yw x=headL x++zeW (zq x)++ [10]:=by
 show Lib.join (Lib.itoa x.time::([yj x.kind,Lib.itoa x.who]++zq x)) [32]++ [10]=_;rw [join_tail];simp [headL,zeW]
theorem refQuoteL_any (l:List UInt8) (w:World) (h:l.length≤1100000):Calls Tryz.prog 80 #[.string ⟨l.toArray⟩] w (zi (Q06.quote l) w):=Q06.refQuote_any ⟨l.toArray⟩ w (by simpa [ByteArray.size] using h)
theorem zfO {B:ByteArray} {l:List UInt8} {w w':World} (h:B=⟨l.toArray⟩) (hb:Below w.heap.size w w'):zi l w (.returned (.string B)) w':=⟨by rw [h],hb⟩
theorem word_len (k:Int):(yj k).length≤7:=by
 unfold yj;repeat' split
 all_goals decide
theorem refLine_any (x:Pt) (w:World) (he:Env w) (hok:x.ok w) (hs:x.msg.sz≤16777216) (ht:x.text.length≤300000) (hr:x.result.length≤300000) (hm:(enc0 x.msg).length≤1100000) :
    Calls Tryz.prog 51 #[.agg (ptC x).toArray] w (zi (yw x) w):=by
 have HI:Hid (∀(n:Int) (w1:World) (R:Prop),I64 n→(Bx w (ptC x) 40 w1∧R)→Calls Tryz.prog 76 #[.int .i64 n] w1 (Gives w (ptC x) 40 (Lib.itoa n))):=hD (fun n w1 _ hn hb=>zW hb.1 (zbx n hn w1 (he.below (zu hb.1))));have HWd:Hid (∀(w1:World) (R:Prop),(Bx w (ptC x) 40 w1∧R)→Calls Tryz.prog 62 #[.int .i64 x.kind] w1 (Gives w (ptC x) 40 (yj x.kind))):=hD (fun w1 _ hb=>zW hb.1 (zcI x.kind w1));have HQ:Hid (∀(t:List UInt8) (w1:World) (R:Prop),t.length≤1100000→(Bx w (ptC x) 40 w1∧R)→Calls Tryz.prog 80 #[.string ⟨t.toArray⟩] w1 (Gives w (ptC x) 40 (Q06.quote t))):=hD (fun t w1 _ ht hb=>zW hb.1 (refQuoteL_any t w1 ht));have HE:Hid (∀w1,Bx w (ptC x) 40 w1→Calls Tryz.prog 81 #[.agg (msC x.msg).toArray] w1 (Zv (enc0 x.msg) (vMs x.msg) w1)):=hD (fun w1 hb=>ze7 x.msg w1 (Ms.below hok.2 (zu hb)) hs);have HRow:Hid (∀w1,Bx w (ptC x) 40 w1→w1.rangeAt w.heap.size 7 (msC x.msg)):=hD (fun w1 hb j u hu=>ze hb (7+j) u (by rw [ptC_msg];exact hu));have HC:Hid (∀w1,Bx w (ptC x) 40 w1→Bx w (ptC x) 40 w1∧w1.cell? ⟨w.heap.size,0,none⟩=some (.int .i64 x.time)∧w1.cell? ⟨w.heap.size,1,none⟩=some (.int .i64 x.kind)∧w1.cell? ⟨w.heap.size,2,none⟩=some (.int .i64 x.who)):=hD (fun w1 hb=>⟨hb,ze hb 0 _ rfl,ze hb 1 _ rfl,ze hb 2 _ rfl⟩);have H0:=hD (Zk w (ptC x) 40);obtain⟨⟨i_t,i_k,i_w,i_s,i_n⟩, -⟩:=hok;have a1:=Lib.itoa_length_le x.time i_t.1 i_t.2;have a2:=Lib.itoa_length_le x.who i_w.1 i_w.2;have a3:=Lib.itoa_length_le x.slot i_s.1 i_s.2;have a4:=Lib.itoa_length_le x.number i_n.1 i_n.2;have b1:=zaC x.text;have b2:=zaC x.result;have b3:=zaC (enc0 x.msg);have b4:=word_len x.kind;have s0:¬(9223372036854775807<(Lib.itoa x.time).length+1):=by omega
 have s1:¬(9223372036854775807<(Lib.itoa x.time).length+1+(yj x.kind).length):=by omega
 have s2:¬(9223372036854775807<(Lib.itoa x.time).length+1+(yj x.kind).length+1):=by omega
 have s3:¬(9223372036854775807<(Lib.itoa x.time).length+1+(yj x.kind).length+1+(Lib.itoa x.who).length):=by omega
 clear he hs;go_in;go_upto_region 1 with fail;change Code.wp _ _ _ _ (w.alloc (.cells (ptC x).toArray 40));have h0:=H0.out;generalize w.alloc (.cells (ptC x).toArray 40)=w1 at h0⊢;have e1:ByteArray.mk (Lib.itoa x.time).toArray++ByteArray.mk #[32]++ByteArray.mk (yj x.kind).toArray++ByteArray.mk #[32]++ByteArray.mk (Lib.itoa x.who).toArray=ByteArray.mk (headL x).toArray:=by
  apply ByteArray.ext;simp [headL]
 have HE1:=hD e1;clear e1;go_cut [3] from 6 to 18 (fun t wx=>t= .string ⟨(headL x).toArray⟩∧Bx w (ptC x) 40 wx)
 case first=>
  go_region_held3 (fun w1 => Bx w (ptC x) 40 w1 ∧ w1.cell? ⟨w.heap.size, 0, none⟩ = some (.int .i64 x.time) ∧ w1.cell? ⟨w.heap.size, 1, none⟩ = some (.int .i64 x.kind) ∧ w1.cell? ⟨w.heap.size, 2, none⟩ = some (.int .i64 x.who))
      (first|exact HC.out _ (yF ‹Bx _ _ _ _›)|exact HC.out _ ‹Bx _ _ _ _›)
      (first
      |(go_at_call 76;refine(HI.out _ _ _ je je).mono ?_;rintro e w2 ⟨rfl,b2⟩)
      |(go_at_call 62;refine(HWd.out _ _ je).mono ?_;rintro e w3 ⟨rfl,b3⟩)
      |(go_at_call 80;refine(HQ.out _ _ _ ja je).mono ?_;rintro e w4 ⟨rfl,b4⟩))
  all_goals
   go_wp2_with fail;go_meet
   case rel=>exact⟨by rw [HE1.out],by assumption⟩
 case rest=>
  rename World=>w2;obtain⟨ht3,hbx⟩:=hcut;subst ht3;have HBx:=hD hbx;have hhl:(headL x).length≤100:=by simp [headL];omega
  obtain⟨hl,hhe⟩:∃l,headL x=l:=⟨_,rfl⟩;rw [hhe] at hhl⊢;have HHd:=hD hhe;have c1:=(HC.out w2 HBx.out).2.2.1;have h2:=HBx.out;clear hhe hbx s0 s1 s2 s3 h0;by_cases hk:x.kind=1
  case pos=>
   have HKP:Hid (zq x= [Lib.itoa x.number,Q06.quote x.text]):=hD jay;have HCk:Hid (∀w1,Bx w (ptC x) 40 w1→Bx w (ptC x) 40 w1∧w1.cell? ⟨w.heap.size,4,none⟩=some (.int .i64 x.number)∧w1.cell? ⟨w.heap.size,5,none⟩=some (.string ⟨x.text.toArray⟩)):=hD (fun w1 hb=>⟨hb,ze hb 4 _ rfl,ze hb 5 _ rfl⟩);rw [hk] at c1;clear hk;have s0:¬(9223372036854775807<1+(Lib.itoa x.number).length):=by omega
   have s1:¬(9223372036854775807<1+(Lib.itoa x.number).length+1):=by omega
   have s2:¬(9223372036854775807<1+(Lib.itoa x.number).length+1+(Q06.quote x.text).length):=by omega
   have s3:¬(9223372036854775807<hl.length+(1+(Lib.itoa x.number).length+1+(Q06.quote x.text).length)):=by omega
   have s4:¬(9223372036854775807<hl.length+(1+(Lib.itoa x.number).length+1+(Q06.quote x.text).length)+1):=by omega
   go_wp2_with fail; go_region_held3 (fun w1 => Bx w (ptC x) 40 w1 ∧ w1.cell? ⟨w.heap.size, 4, none⟩ = some (.int .i64 x.number) ∧ w1.cell? ⟨w.heap.size, 5, none⟩ = some (.string ⟨x.text.toArray⟩))
       (first|exact HCk.out _ (yF ‹Bx _ _ _ _›)|exact HCk.out _ ‹Bx _ _ _ _›)
       (first
        |(go_at_call 76;refine(HI.out _ _ _ je je).mono ?_;rintro e w2 ⟨rfl,b2⟩)
        |(go_at_call 62;refine(HWd.out _ _ je).mono ?_;rintro e w3 ⟨rfl,b3⟩)
        |(go_at_call 80;refine(HQ.out _ _ _ ja je).mono ?_;rintro e w4 ⟨rfl,b4⟩))
   all_goals
    go_wp2_with fail;go_ret;refine zfO ?_ (zu ‹_›);rw [zav,HHd.out,HKP.out];apply ByteArray.ext;simp [zeW]
  have n1:(x.kind == 1)=false:=by simpa using hk
  have nk1:=hk;clear hk;by_cases hk:x.kind=2
  case pos=>
   have HKP:Hid (zq x= [Lib.itoa x.number,Lib.itoa x.slot,Q06.quote x.result]):=hD jay;have HCk:Hid (∀w1,Bx w (ptC x) 40 w1→Bx w (ptC x) 40 w1∧w1.cell? ⟨w.heap.size,4,none⟩=some (.int .i64 x.number)∧w1.cell? ⟨w.heap.size,3,none⟩=some (.int .i64 x.slot)∧w1.cell? ⟨w.heap.size,6,none⟩=some (.string ⟨x.result.toArray⟩)):=hD (fun w1 hb=>⟨hb,ze hb 4 _ rfl,ze hb 3 _ rfl,ze hb 6 _ rfl⟩);rw [hk] at c1;clear hk;have s0:¬(9223372036854775807<1+(Lib.itoa x.number).length):=by omega
   have s1:¬(9223372036854775807<1+(Lib.itoa x.number).length+1):=by omega
   have s2:¬(9223372036854775807<1+(Lib.itoa x.number).length+1+(Lib.itoa x.slot).length):=by omega
   have s3:¬(9223372036854775807<1+(Lib.itoa x.number).length+1+(Lib.itoa x.slot).length+1):=by omega
   have s4:¬(9223372036854775807<1+(Lib.itoa x.number).length+1+(Lib.itoa x.slot).length+1+(Q06.quote x.result).length):=by omega
   have s5:¬(9223372036854775807<hl.length+(1+(Lib.itoa x.number).length+1+(Lib.itoa x.slot).length+1+(Q06.quote x.result).length)):=by omega
   have s6:¬(9223372036854775807<hl.length+(1+(Lib.itoa x.number).length+1+(Lib.itoa x.slot).length+1+(Q06.quote x.result).length)+1):=by omega
   go_wp2_with fail; go_region_held3 (fun w1 => Bx w (ptC x) 40 w1 ∧ w1.cell? ⟨w.heap.size, 4, none⟩ = some (.int .i64 x.number) ∧ w1.cell? ⟨w.heap.size, 3, none⟩ = some (.int .i64 x.slot) ∧ w1.cell? ⟨w.heap.size, 6, none⟩ = some (.string ⟨x.result.toArray⟩))
       (first|exact HCk.out _ (yF ‹Bx _ _ _ _›)|exact HCk.out _ ‹Bx _ _ _ _›)
       (first
        |(go_at_call 76;refine(HI.out _ _ _ je je).mono ?_;rintro e w2 ⟨rfl,b2⟩)
        |(go_at_call 62;refine(HWd.out _ _ je).mono ?_;rintro e w3 ⟨rfl,b3⟩)
        |(go_at_call 80;refine(HQ.out _ _ _ ja je).mono ?_;rintro e w4 ⟨rfl,b4⟩))
   all_goals
    go_wp2_with fail;go_ret;refine zfO ?_ (zu ‹_›);rw [zav,HHd.out,HKP.out];apply ByteArray.ext;simp [zeW]
  have n2:(x.kind == 2)=false:=by simpa using hk
  have nk2:=hk;clear hk;by_cases hk:x.kind=3
  case pos=>exact fo25
  have n3:(x.kind == 3)=false:=by simpa using hk
  have nk3:=hk;clear hk;by_cases hk:x.kind=4
  case pos=>exact fo25
  have n4:(x.kind == 4)=false:=by simpa using hk
  have nk4:=hk;clear hk;by_cases hk:x.kind=5
  case pos=>
   have HKP:Hid (zq x= [Lib.itoa x.number,Q06.quote x.text,Q06.quote x.result]):=hD jay;have HCk:Hid (∀w1,Bx w (ptC x) 40 w1→Bx w (ptC x) 40 w1∧w1.cell? ⟨w.heap.size,4,none⟩=some (.int .i64 x.number)∧w1.cell? ⟨w.heap.size,5,none⟩=some (.string ⟨x.text.toArray⟩)∧w1.cell? ⟨w.heap.size,6,none⟩=some (.string ⟨x.result.toArray⟩)):=hD (fun w1 hb=>⟨hb,ze hb 4 _ rfl,ze hb 5 _ rfl,ze hb 6 _ rfl⟩);rw [hk] at c1;clear hk;have s0:¬(9223372036854775807<1+(Lib.itoa x.number).length):=by omega
   have s1:¬(9223372036854775807<1+(Lib.itoa x.number).length+1):=by omega
   have s2:¬(9223372036854775807<1+(Lib.itoa x.number).length+1+(Q06.quote x.text).length):=by omega
   have s3:¬(9223372036854775807<1+(Lib.itoa x.number).length+1+(Q06.quote x.text).length+1):=by omega
   have s4:¬(9223372036854775807<1+(Lib.itoa x.number).length+1+(Q06.quote x.text).length+1+(Q06.quote x.result).length):=by omega
   have s5:¬(9223372036854775807<hl.length+(1+(Lib.itoa x.number).length+1+(Q06.quote x.text).length+1+(Q06.quote x.result).length)):=by omega
   have s6:¬(9223372036854775807<hl.length+(1+(Lib.itoa x.number).length+1+(Q06.quote x.text).length+1+(Q06.quote x.result).length)+1):=by omega
   go_wp2_with fail; go_region_held3 (fun w1 => Bx w (ptC x) 40 w1 ∧ w1.cell? ⟨w.heap.size, 4, none⟩ = some (.int .i64 x.number) ∧ w1.cell? ⟨w.heap.size, 5, none⟩ = some (.string ⟨x.text.toArray⟩) ∧ w1.cell? ⟨w.heap.size, 6, none⟩ = some (.string ⟨x.result.toArray⟩))
       (first|exact HCk.out _ (yF ‹Bx _ _ _ _›)|exact HCk.out _ ‹Bx _ _ _ _›)
       (first
        |(go_at_call 76;refine(HI.out _ _ _ je je).mono ?_;rintro e w2 ⟨rfl,b2⟩)
        |(go_at_call 62;refine(HWd.out _ _ je).mono ?_;rintro e w3 ⟨rfl,b3⟩)
        |(go_at_call 80;refine(HQ.out _ _ _ ja je).mono ?_;rintro e w4 ⟨rfl,b4⟩))
   all_goals
    go_wp2_with fail;go_ret;refine zfO ?_ (zu ‹_›);rw [zav,HHd.out,HKP.out];apply ByteArray.ext;simp [zeW]
  have n5:(x.kind == 5)=false:=by simpa using hk
  have nk5:=hk;clear hk;by_cases hk:x.kind=6
  case pos=>
   have HKP:Hid (zq x= [Q06.quote (enc0 x.msg)]):=hD jay;rw [hk] at c1;clear hk n1 n2 n3 n4 n5 nk1 nk2 nk3 nk4 nk5;have s0:¬(9223372036854775807<1+(Q06.quote (enc0 x.msg)).length):=by omega
   have s1:¬(9223372036854775807<hl.length+(1+(Q06.quote (enc0 x.msg)).length)):=by omega
   have s2:¬(9223372036854775807<hl.length+(1+(Q06.quote (enc0 x.msg)).length)+1):=by omega
   go_wp2_with (refine wpList_load_mid rfl 38 _ rfl w.heap.size 7 rfl (msC x.msg) _ (HRow.out _ HBx.out) Tryz.underlying38 rfl (zT x.msg) ?_);refine(HE.out _ HBx.out).mono ?_;rintro e w5 ⟨rfl,hs⟩;have h5:=zau HBx.out hs;clear hs c1;go_wp2_with fail;refine(HQ.out _ _ True ja ⟨h5,trivial⟩).mono ?_;rintro e w6 ⟨rfl,h6⟩;go_wp2_with fail;go_ret;refine zfO ?_ (zu h6);rw [zav,HHd.out,HKP.out];apply ByteArray.ext;simp [zeW]
  have n6:(x.kind == 6)=false:=by simpa using hk
  have HKP:Hid (zq x= []):=hD (by simp [zq,nk1,nk2,nk3,nk4,nk5,hk]);have s0:¬(9223372036854775807<hl.length+1):=by omega
  clear hk nk1 nk2 nk3 nk4 nk5;go_wp2_with fail;go_ret;refine zfO ?_ (zu HBx.out);rw [zav,HHd.out,HKP.out];apply ByteArray.ext;simp [zeW]
set_option maxRecDepth 100000
set_option maxHeartbeats 4000000
open Go.RowKit
theorem flat_le {α:Type} (f:α→List UInt8) (B:Nat):∀l:List α,(∀x∈l,(f x).length≤B)→(l.flatMap f).length≤l.length * B
 | [],_=>by simp
 |x::r,h=>by
  have h1:=h x List.mem_cons_self
  have h2:=flat_le f B r (fun y hy=>h y (List.mem_cons_of_mem _ hy))
  rw [List.flatMap_cons,List.length_append,List.length_cons,Nat.add_mul]
  omega
theorem refFmt_any (A:Option Addr) (c:Nat) (l:List Pt) (w:World) (E:List UInt8→Bool) (hE:EntOk 65 E l w) (he:Env w) (hp:ZV w A l) (hf:fewLn l) (hn:l.length≤1000) :
    Calls Tryz.prog 32 #[.slice A l.length c] w (Zv (fmtT E l) (fmtE E l) w):=by
 have HP:=hD hp;have HEnv:=hD he;have HFew:=hD hf;have HVal:=hD (ze2 A c l w E hE hp hf.pts ja);have HLn:Hid (∀x∈l,(yw x).length≤100000001):=hD (fun x hx=>by
  obtain⟨f1,f2,f3,f4⟩:=hf x hx;have:=zdA (hp.2 x hx) f2 f3 f4;simp only [yw,List.length_append,List.length_cons,List.length_nil];omega)
 have HLt:Hid (∀k,(zX (l.take k)).length≤100000001000):=hD (fun k=>by
  have h1:=zcW l k;have h2:=flat_le yw 100000001 l HLn.out;have h3:l.length * 100000001≤1000 * 100000001:=Nat.mul_le_mul_right _ hn;unfold zX at h1⊢;omega)
 clear hp hE he hf;obtain⟨vt,hvt⟩:∃vt,vt=vTr E l:=⟨_,rfl⟩;rw [←hvt] at HVal;have HVt:=hD hvt;clear hvt;go_in;go_wp2_with fail;refine HVal.out.mono ?_;rintro e w1 ⟨rfl,b1⟩;have HB1:=hD b1;clear b1;by_cases h0:vt=0
 case neg=>exact fo72
 have HV0:Hid (vTr E l=0):=hD (HVt.out.symm.trans h0);subst h0;go_wp2_with fail;go_loopw [5,6] (fun o i wr=>∃k:Nat,i= .int .i64 k∧o= .string ⟨(zX (l.take k)).toArray⟩∧k≤l.length∧Below w.heap.size w wr) (fun _ i _=>l.length-(intOf i).toNat)
 case atStart=>exact⟨0,rfl,by simp [zX],Nat.zero_le _,HB1.out⟩
 case round=>
  obtain⟨k,rfl,rfl,hk,hb⟩:=hrel;have HB:=hD hb;clear hb;by_cases hlt:k<l.length
  · have i0':(0:Int)≤(k:Int):=by omega
    have i1:(k:Int) <(l.length:Int):=by omega
    obtain⟨b,off,hA,hg,hcc⟩:=HP.out.at hlt;subst hA;obtain⟨x,hx⟩:∃x,x=l[k]:=⟨_,rfl⟩;have HRg:=hD (hcc wr HB.out);rw [←hx] at HRg;have hm:x∈l:=hx▸List.getElem_mem hlt;have HLine:Hid (Calls Tryz.prog 51 #[.agg (ptC x).toArray] wr (zi (yw x) wr)):=hD (by
     obtain⟨f1,f2,f3,f4⟩:=HFew.out x hm;exact refLine_any x wr (HEnv.out.below HB.out) (Pt.below (HP.out.2 x hm) HB.out) f1 f2 f3 f4)
    have hl1:=HLn.out x hm;have hl2:=HLt.out k;have HTk:Hid (zX (l.take (k+1))=zX (l.take k)++yw x):=hD (by rw [zbq l k hlt,hx]);clear hcc hx hm;obtain⟨ta,hta⟩:∃t,t=zX (l.take k):=⟨_,rfl⟩;obtain⟨tb,htb⟩:∃t,t=yw x:=⟨_,rfl⟩;rw [←hta] at hl2 HTk⊢;rw [←htb] at hl1 HLine HTk;clear hta htb;have s0:¬(9223372036854775807<ta.length+tb.length):=by omega
    go_wp2_with (refine wpList_load_mid rfl 40 _ rfl b (off+k * 28) rfl (ptC x) _ HRg.out Tryz.underlying40 rfl (zw x) ?_);refine HLine.out.mono ?_;rintro e w2 ⟨rfl,hs⟩;have HB2:=hD (bon HB.out hs);clear hs;go_wp2_with fail;go_roundw
    case rel=>exact⟨k+1,by go_num,by rw [HTk.out,str_app],by omega,HB2.out⟩
    case measure=>simp [intOf];omega
  · obtain rfl:k=l.length:=by omega
    rw [List.take_length];obtain⟨tl,htl⟩:∃t,t=zX l:=⟨_,rfl⟩;have HTl:=hD htl;rw [←htl];clear htl;by_cases hbig:tl.length≤65536
    · have t1:¬((65536:Int) <(tl.length:Int)):=by omega
      have HT:Hid (fmtT E l=tl∧fmtE E l=0):=hD (by
       rw [HTl.out] at hbig⊢;exact⟨by unfold fmtT;rw [if_pos ⟨HV0.out,hbig⟩],by unfold fmtE;rw [if_pos HV0.out,if_pos hbig]⟩)
      clear hbig;go_wp2_with fail;go_ret2;exact zbI HT.out.1 HT.out.2 HB.out
    · have t1:(65536:Int) <(tl.length:Int):=by omega
      have HT:Hid (fmtT E l= []∧fmtE E l=3):=hD (by
       rw [HTl.out] at hbig;exact⟨by unfold fmtT;rw [if_neg (fun h=>hbig h.2)],by unfold fmtE;rw [if_pos HV0.out,if_neg hbig]⟩)
      clear hbig;go_wp2_with fail;go_ret2;exact zbI HT.out.1 HT.out.2 HB.out
end Go.Proofs.YtepbbaifpckcpaaGreatDoor
