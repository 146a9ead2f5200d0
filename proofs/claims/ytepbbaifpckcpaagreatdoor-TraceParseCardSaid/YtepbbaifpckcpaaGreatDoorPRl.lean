/- The contract of the reference's Encode. -/
import Derived.Test.YtepbbaifpckcpaaGreatDoorPTrM
import Derived.Test.YtepbbaifpckcpaaGreatDoorPTrGd
open Go.Proofs.Tryz
namespace Go.Proofs.YtepbbaifpckcpaaGreatDoor
set_option maxRecDepth 100000
set_option maxHeartbeats 8000000
open Go.RowKit
theorem zfR(m:Ms)(w:World)(hok:m.ok w)(hs:m.sz≤16777216):Calls prog 81 #[.agg (msC m).toArray] w (ZR (enc0 m) (vMs m) w):=by
 have HV:Hid (∀w1,Below w.heap.size w w1→Calls prog 66 #[.agg (msC m).toArray] w1 (ZN (vMs m) w1)):=hD (fun w1 hb=>ZB m w1 (Ms.below hok hb) (MsFew.of_sz ja));have HE:Hid (∀w1,Below w.heap.size w w1→Calls prog 46 #[.agg (msC m).toArray] w1 (zm (ZP m) w1)):=hD (fun w1 hb=>zbH m w1 (Ms.below hok hb) hs);exact fo41
def headL(x:Pt):List UInt8:=Lib.itoa x.time++32::(yf x.kind++32::Lib.itoa x.who)
def zey(ps:List (List UInt8)):List UInt8:=ps.flatMap (32::·)
theorem join_tail(a:List UInt8)(ps:List (List UInt8)):Lib.join (a::ps) [32]=a++zey ps:=by
 induction ps generalizing a with
 |nil=>simp[Lib.join,List.intercalate,zey]
 |cons b r ih=>
  have e:Lib.join (a::b::r) [32]=a++32::Lib.join (b::r) [32]:=by simp[Lib.join,List.intercalate]
  rw[e,ih];simp[zey]
theorem zbb(x:Pt):yU x=headL x++zey (zz x)++ [10]:=by
 show Lib.join (Lib.itoa x.time::([yf x.kind,Lib.itoa x.who]++zz x)) [32]++ [10]=_;rw[join_tail];simp[headL,zey]
theorem refQuoteL_any(l:List UInt8)(w:World)(h:l.length≤1100000):Calls prog 80 #[l] w (zm (Q06.quote l) w):=Q06.refQuote_any ⟨l.toArray⟩ w (by simpa[ByteArray.size]using h)
theorem zgy{B:ByteArray}{l:List UInt8}{w w':World}(h:B=⟨l.toArray⟩)(hb:Below w.heap.size w w'):zm l w (.returned (.string B)) w':=⟨by rw[h],hb⟩
theorem word_len(k:Int):(yf k).length≤7:=by
 unfold yf;repeat' split
 all_goals decide
theorem refLine_any(x:Pt)(w:World)(he:Env w)(hok:x.ok w)(hs:x.msg.sz≤16777216)(ht:x.text.length≤300000)(hr:x.result.length≤300000)(hm:(enc0 x.msg).length≤1100000) :
    Calls prog 51 #[.agg (ptC x).toArray] w (zm (yU x) w):=by
 have HI:Hid (∀(n:Int) (w1:World) (R:Prop),I64 n→(Bx w (ptC x) 40 w1∧R)→Calls prog 76 #[n] w1 (Gives w (ptC x) 40 (Lib.itoa n))):=hD (fun n w1 _ hn hb=>zZ hb.1 (zb4 n hn w1 (he.below (zC hb.1))));have HWd:Hid (∀(w1:World) (R:Prop),(Bx w (ptC x) 40 w1∧R)→Calls prog 62 #[x.kind] w1 (Gives w (ptC x) 40 (yf x.kind))):=hD (fun w1 _ hb=>zZ hb.1 (zbX x.kind w1));have HQ:Hid (∀(t:List UInt8) (w1:World) (R:Prop),t.length≤1100000→(Bx w (ptC x) 40 w1∧R)→Calls prog 80 #[t] w1 (Gives w (ptC x) 40 (Q06.quote t))):=hD (fun t w1 _ ht hb=>zZ hb.1 (refQuoteL_any t w1 ht));have HE:Hid (∀w1,Bx w (ptC x) 40 w1→Calls prog 81 #[.agg (msC x.msg).toArray] w1 (ZR (enc0 x.msg) (vMs x.msg) w1)):=hD (fun w1 hb=>zfR x.msg w1 (Ms.below hok.2 (zC hb)) hs);have HRow:Hid (∀w1,Bx w (ptC x) 40 w1→w1.rangeAt w.heap.size 7 (msC x.msg)):=hD (fun w1 hb j u hu=>zg hb (7+j) u (by rw[ptC_msg];exact hu));have HC:Hid (∀w1,Bx w (ptC x) 40 w1→Bx w (ptC x) 40 w1∧w1.cell? ⟨w.heap.size,0,none⟩=some (.int .i64 x.time)∧w1.cell? ⟨w.heap.size,1,none⟩=some (.int .i64 x.kind)∧w1.cell? ⟨w.heap.size,2,none⟩=some (.int .i64 x.who)):=hD (fun w1 hb=>⟨hb,zg hb 0 _ rfl,zg hb 1 _ rfl,zg hb 2 _ rfl⟩);have H0:=hD (Zy w (ptC x) 40);obtain⟨⟨i_t,i_k,i_w,i_s,i_n⟩, -⟩:=hok;have a1:=dB x.time i_t.1 i_t.2;have a2:=dB x.who i_w.1 i_w.2;have a3:=dB x.slot i_s.1 i_s.2;have a4:=dB x.number i_n.1 i_n.2;have b1:=za0 x.text;have b2:=za0 x.result;have b3:=za0 (enc0 x.msg);have b4:=word_len x.kind;have s0:¬(9223372036854775807<(Lib.itoa x.time).length+1):=by omega
 have s1:¬(9223372036854775807<(Lib.itoa x.time).length+1+(yf x.kind).length):=by omega
 have s2:¬(9223372036854775807<(Lib.itoa x.time).length+1+(yf x.kind).length+1):=by omega
 have s3:¬(9223372036854775807<(Lib.itoa x.time).length+1+(yf x.kind).length+1+(Lib.itoa x.who).length):=by omega
 clear he hs;go_in;go_upto_region 1 with fail;change Code.wp _ _ _ _ (w.alloc (.cells (ptC x).toArray 40));have h0:=H0.out;generalize w.alloc (.cells (ptC x).toArray 40)=w1 at h0⊢;have e1:ByteArray.mk (Lib.itoa x.time).toArray++ByteArray.mk #[32]++ByteArray.mk (yf x.kind).toArray++ByteArray.mk #[32]++ByteArray.mk (Lib.itoa x.who).toArray=ByteArray.mk (headL x).toArray:=by
  apply bz;simp[headL]
 have HE1:=hD e1;clear e1;go_cut [3] from 6 to 18 (fun t wx=>t= .string ⟨(headL x).toArray⟩∧Bx w (ptC x) 40 wx)
 case first=>
  go_region_held3 (fun w1 => Bx w (ptC x) 40 w1 ∧ w1.cell? ⟨w.heap.size, 0, none⟩ = some (.int .i64 x.time) ∧ w1.cell? ⟨w.heap.size, 1, none⟩ = some (.int .i64 x.kind) ∧ w1.cell? ⟨w.heap.size, 2, none⟩ = some (.int .i64 x.who))
      (first|exact HC _ (yO ‹Bx _ _ _ _›)|exact HC _ ‹Bx _ _ _ _›)
      (first
      |(go_at_call 76;refine(HI _ _ _ je je).mono ?_;rintro e w2 ⟨rfl,b2⟩)
      |(go_at_call 62;refine(HWd _ _ je).mono ?_;rintro e w3 ⟨rfl,b3⟩)
      |(go_at_call 80;refine(HQ _ _ _ ja je).mono ?_;rintro e w4 ⟨rfl,b4⟩))
  all_goals
   go_wp2_with fail;go_meet
   case rel=>exact⟨by rw[HE1.out],by assumption⟩
 case rest=>
  rename World=>w2;obtain⟨ht3,hbx⟩:=hcut;subst ht3;have HBx:=hD hbx;have hhl:(headL x).length≤100:=by simp[headL];omega
  obtain⟨hl,hhe⟩:∃l,headL x=l:=⟨_,rfl⟩;rw[hhe]at hhl⊢;have HHd:=hD hhe;have c1:=(HC.out w2 HBx).2.2.1;have h2:=HBx.out;clear hhe hbx s0 s1 s2 s3 h0;by_cases hk:x.kind=1
  case pos=>
   have HKP:Hid (zz x=[Lib.itoa x.number,Q06.quote x.text]):=hD jbs;have HCk:Hid (∀w1,Bx w (ptC x) 40 w1→Bx w (ptC x) 40 w1∧w1.cell? ⟨w.heap.size,4,none⟩=some (.int .i64 x.number)∧w1.cell? ⟨w.heap.size,5,none⟩=some (.string ⟨x.text.toArray⟩)):=hD (fun w1 hb=>⟨hb,zg hb 4 _ rfl,zg hb 5 _ rfl⟩);rw[hk]at c1;clear hk;have s0:¬(9223372036854775807<1+(Lib.itoa x.number).length):=by omega
   have s1:¬(9223372036854775807<1+(Lib.itoa x.number).length+1):=by omega
   have s2:¬(9223372036854775807<1+(Lib.itoa x.number).length+1+(Q06.quote x.text).length):=by omega
   have s3:¬(9223372036854775807<hl.length+(1+(Lib.itoa x.number).length+1+(Q06.quote x.text).length)):=by omega
   have s4:¬(9223372036854775807<hl.length+(1+(Lib.itoa x.number).length+1+(Q06.quote x.text).length)+1):=by omega
   go_wp2_with fail; go_region_held3 (fun w1 => Bx w (ptC x) 40 w1 ∧ w1.cell? ⟨w.heap.size, 4, none⟩ = some (.int .i64 x.number) ∧ w1.cell? ⟨w.heap.size, 5, none⟩ = some (.string ⟨x.text.toArray⟩))
       (first|exact HCk _ (yO ‹Bx _ _ _ _›)|exact HCk _ ‹Bx _ _ _ _›)
       (first
        |(go_at_call 76;refine(HI _ _ _ je je).mono ?_;rintro e w2 ⟨rfl,b2⟩)
        |(go_at_call 62;refine(HWd _ _ je).mono ?_;rintro e w3 ⟨rfl,b3⟩)
        |(go_at_call 80;refine(HQ _ _ _ ja je).mono ?_;rintro e w4 ⟨rfl,b4⟩))
   all_goals
    go_wp2_with fail;go_ret;refine zgy ?_ (zC ‹_›);rw[zbb,HHd.out,HKP.out];apply bz;simp[zey]
  have n1:(x.kind == 1)=false:=by simpa using hk
  have nk1:=hk;clear hk;by_cases hk:x.kind=2
  case pos=>
   have HKP:Hid (zz x=[Lib.itoa x.number,Lib.itoa x.slot,Q06.quote x.result]):=hD jbs;have HCk:Hid (∀w1,Bx w (ptC x) 40 w1→Bx w (ptC x) 40 w1∧w1.cell? ⟨w.heap.size,4,none⟩=some (.int .i64 x.number)∧w1.cell? ⟨w.heap.size,3,none⟩=some (.int .i64 x.slot)∧w1.cell? ⟨w.heap.size,6,none⟩=some (.string ⟨x.result.toArray⟩)):=hD (fun w1 hb=>⟨hb,zg hb 4 _ rfl,zg hb 3 _ rfl,zg hb 6 _ rfl⟩);rw[hk]at c1;clear hk;have s0:¬(9223372036854775807<1+(Lib.itoa x.number).length):=by omega
   have s1:¬(9223372036854775807<1+(Lib.itoa x.number).length+1):=by omega
   have s2:¬(9223372036854775807<1+(Lib.itoa x.number).length+1+(Lib.itoa x.slot).length):=by omega
   have s3:¬(9223372036854775807<1+(Lib.itoa x.number).length+1+(Lib.itoa x.slot).length+1):=by omega
   have s4:¬(9223372036854775807<1+(Lib.itoa x.number).length+1+(Lib.itoa x.slot).length+1+(Q06.quote x.result).length):=by omega
   have s5:¬(9223372036854775807<hl.length+(1+(Lib.itoa x.number).length+1+(Lib.itoa x.slot).length+1+(Q06.quote x.result).length)):=by omega
   have s6:¬(9223372036854775807<hl.length+(1+(Lib.itoa x.number).length+1+(Lib.itoa x.slot).length+1+(Q06.quote x.result).length)+1):=by omega
   go_wp2_with fail; go_region_held3 (fun w1 => Bx w (ptC x) 40 w1 ∧ w1.cell? ⟨w.heap.size, 4, none⟩ = some (.int .i64 x.number) ∧ w1.cell? ⟨w.heap.size, 3, none⟩ = some (.int .i64 x.slot) ∧ w1.cell? ⟨w.heap.size, 6, none⟩ = some (.string ⟨x.result.toArray⟩))
       (first|exact HCk _ (yO ‹Bx _ _ _ _›)|exact HCk _ ‹Bx _ _ _ _›)
       (first
        |(go_at_call 76;refine(HI _ _ _ je je).mono ?_;rintro e w2 ⟨rfl,b2⟩)
        |(go_at_call 62;refine(HWd _ _ je).mono ?_;rintro e w3 ⟨rfl,b3⟩)
        |(go_at_call 80;refine(HQ _ _ _ ja je).mono ?_;rintro e w4 ⟨rfl,b4⟩))
   all_goals
    go_wp2_with fail;go_ret;refine zgy ?_ (zC ‹_›);rw[zbb,HHd.out,HKP.out];apply bz;simp[zey]
  have n2:(x.kind == 2)=false:=by simpa using hk
  have nk2:=hk;clear hk;by_cases hk:x.kind=3
  case pos=>exact fo28
  have n3:(x.kind == 3)=false:=by simpa using hk
  have nk3:=hk;clear hk;by_cases hk:x.kind=4
  case pos=>exact fo28
  have n4:(x.kind == 4)=false:=by simpa using hk
  have nk4:=hk;clear hk;by_cases hk:x.kind=5
  case pos=>
   have HKP:Hid (zz x=[Lib.itoa x.number,Q06.quote x.text,Q06.quote x.result]):=hD jbs;have HCk:Hid (∀w1,Bx w (ptC x) 40 w1→Bx w (ptC x) 40 w1∧w1.cell? ⟨w.heap.size,4,none⟩=some (.int .i64 x.number)∧w1.cell? ⟨w.heap.size,5,none⟩=some (.string ⟨x.text.toArray⟩)∧w1.cell? ⟨w.heap.size,6,none⟩=some (.string ⟨x.result.toArray⟩)):=hD (fun w1 hb=>⟨hb,zg hb 4 _ rfl,zg hb 5 _ rfl,zg hb 6 _ rfl⟩);rw[hk]at c1;clear hk;have s0:¬(9223372036854775807<1+(Lib.itoa x.number).length):=by omega
   have s1:¬(9223372036854775807<1+(Lib.itoa x.number).length+1):=by omega
   have s2:¬(9223372036854775807<1+(Lib.itoa x.number).length+1+(Q06.quote x.text).length):=by omega
   have s3:¬(9223372036854775807<1+(Lib.itoa x.number).length+1+(Q06.quote x.text).length+1):=by omega
   have s4:¬(9223372036854775807<1+(Lib.itoa x.number).length+1+(Q06.quote x.text).length+1+(Q06.quote x.result).length):=by omega
   have s5:¬(9223372036854775807<hl.length+(1+(Lib.itoa x.number).length+1+(Q06.quote x.text).length+1+(Q06.quote x.result).length)):=by omega
   have s6:¬(9223372036854775807<hl.length+(1+(Lib.itoa x.number).length+1+(Q06.quote x.text).length+1+(Q06.quote x.result).length)+1):=by omega
   go_wp2_with fail; go_region_held3 (fun w1 => Bx w (ptC x) 40 w1 ∧ w1.cell? ⟨w.heap.size, 4, none⟩ = some (.int .i64 x.number) ∧ w1.cell? ⟨w.heap.size, 5, none⟩ = some (.string ⟨x.text.toArray⟩) ∧ w1.cell? ⟨w.heap.size, 6, none⟩ = some (.string ⟨x.result.toArray⟩))
       (first|exact HCk _ (yO ‹Bx _ _ _ _›)|exact HCk _ ‹Bx _ _ _ _›)
       (first
        |(go_at_call 76;refine(HI _ _ _ je je).mono ?_;rintro e w2 ⟨rfl,b2⟩)
        |(go_at_call 62;refine(HWd _ _ je).mono ?_;rintro e w3 ⟨rfl,b3⟩)
        |(go_at_call 80;refine(HQ _ _ _ ja je).mono ?_;rintro e w4 ⟨rfl,b4⟩))
   all_goals
    go_wp2_with fail;go_ret;refine zgy ?_ (zC ‹_›);rw[zbb,HHd.out,HKP.out];apply bz;simp[zey]
  have n5:(x.kind == 5)=false:=by simpa using hk
  have nk5:=hk;clear hk;by_cases hk:x.kind=6
  case pos=>
   have HKP:Hid (zz x=[Q06.quote (enc0 x.msg)]):=hD jbs;rw[hk]at c1;clear hk n1 n2 n3 n4 n5 nk1 nk2 nk3 nk4 nk5;have s0:¬(9223372036854775807<1+(Q06.quote (enc0 x.msg)).length):=by omega
   have s1:¬(9223372036854775807<hl.length+(1+(Q06.quote (enc0 x.msg)).length)):=by omega
   have s2:¬(9223372036854775807<hl.length+(1+(Q06.quote (enc0 x.msg)).length)+1):=by omega
   go_wp2_with (refine ak rfl 38 _ rfl w.heap.size 7 rfl (msC x.msg) _ (HRow _ HBx) underlying38 rfl (zD x.msg) ?_);refine(HE _ HBx).mono ?_;rintro e w5 ⟨rfl,hs⟩;have h5:=zbv HBx hs;clear hs c1;go_wp2_with fail;refine(HQ _ _ True ja ⟨h5,trivial⟩).mono ?_;rintro e w6 ⟨rfl,h6⟩;go_wp2_with fail;go_ret;refine zgy ?_ (zC h6);rw[zbb,HHd.out,HKP.out];apply bz;simp[zey]
  have n6:(x.kind == 6)=false:=by simpa using hk
  have HKP:Hid (zz x=[]):=hD (by simp[zz,nk1,nk2,nk3,nk4,nk5,hk]);have s0:¬(9223372036854775807<hl.length+1):=by omega
  clear hk nk1 nk2 nk3 nk4 nk5;go_wp2_with fail;go_ret;refine zgy ?_ (zC HBx);rw[zbb,HHd.out,HKP.out];apply bz;simp[zey]
