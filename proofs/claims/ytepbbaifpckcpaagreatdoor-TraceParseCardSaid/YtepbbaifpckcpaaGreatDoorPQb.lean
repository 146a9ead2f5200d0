/- Contracts of the functions that read one token. -/
import Derived.Test.YtepbbaifpckcpaaGreatDoorPQa
open Go.Proofs.Tryz
namespace Go.Proofs.YtepbbaifpckcpaaGreatDoor.Q06
set_option maxRecDepth 100000
set_option maxHeartbeats 2000000
open Go.Proofs.YtepbbaifpckcpaaGreatDoor
open Go.RowKit
theorem za9(c:UInt8)(r:List UInt8):tok1 (c::r) =
    if isLet c.toNat then if 24<run isCon (c::r) then none else some (⟨1,(c::r).takeWhile (pb isCon),0,[],0⟩,run isCon (c::r))
    else if zV c.toNat then(zaL (c::r)).map fun x=>(⟨2,[],x.1,[],0⟩,x.2)
    else if(c.toNat:Int)=34 then if(litR (c::r)).2=0 then none else some (⟨3,[],0,(litR (c::r)).1,0⟩,(litR (c::r)).2.toNat)
    else if zeg c.toNat then some (⟨4,[c],0,[],0⟩,1)
    else none:=rfl
theorem zcQ(s:ByteArray)(h:0<s.size):tok1 s.data.toList =
    if isLet s[0].toNat then if 24<run isCon s.data.toList then none else some (⟨1,s.data.toList.takeWhile (pb isCon),0,[],0⟩,run isCon s.data.toList)
    else if zV s[0].toNat then(zaL s.data.toList).map fun x=>(⟨2,[],x.1,[],0⟩,x.2)
    else if(s[0].toNat:Int)=34 then if(litR s.data.toList).2=0 then none else some (⟨3,[],0,(litR s.data.toList).1,0⟩,(litR s.data.toList).2.toNat)
    else if zeg s[0].toNat then some (⟨4,[s[0]],0,[],0⟩,1)
    else none:=by
 have:=za9 s[0] (s.data.toList.drop 1);rw[←zen s h]at this;exact this
def tokA(t:Tok):Array Value:=#[t.kind,t.text,t.int,t.str,t.line]
def zel(l:List UInt8)(t:Tok)(n:Int):Prop:=match tok1 l with|none=>n=0|some (u,m)=>t=u∧n=m∧1≤m∧m≤l.length
def zbU(l:List UInt8)(w:World)(e:Ending)(w':World):Prop:=∃t n,e= .returned (.tuple #[.agg (tokA t),.int .i64 n])∧zel l t n∧0≤n∧Below w.heap.size w w'
variable{l l':List UInt8}{xs:List Value}{base c e k n:Nat}{A:Option Addr}{t:Tok}{v:Value}{w w' w0 w1:World}
theorem zay(t:Tok)(n:Int)(h:zel l t n)(h0:0≤n)(hb:Below w.heap.size w w'):zbU l w (.returned (.tuple #[.agg (tokA t),n])) w':=
 ⟨t,n,rfl,h,h0,hb⟩
theorem zbf(h:tok1 l=none):zel l t 0:=by unfold zel;rw[h]
theorem YN{m:Nat}(h:tok1 l=some (t,m))(h1:1≤m)(h2:m≤l.length):zel l t m:=by unfold zel;rw[h];exact⟨rfl,rfl,h1,h2⟩
theorem ext0(s:ByteArray)(k:Nat):s.extract 0 k=⟨(s.data.toList.take k).toArray⟩:=by
 apply bz;apply fB.1;rw[dP];simp
theorem zdz(p:Int→Bool)(s:ByteArray)(h:0<s.size)(hp:p s[0].toNat=true):1≤run p s.data.toList:=
 run_ge p _ 1 (by simp; omega) (fun j hj h' => by obtain rfl : j = 0 := by omega
                                                  exact hp)
theorem zdN(n:Int)(h:isLet n=true):isCon n=true:=by simp[isCon,h]
theorem isDig_let(n:Int)(h:zV n=true):isLet n=false:=by
 simp[zV,isLet]at h⊢;omega
theorem q_let(n:Int)(h:n=34):isLet n=false∧zV n=false:=by subst h;decide
theorem next_letter(s:ByteArray)(w:World)(hs:s.size≤maxLen)(h0:0<s.size)(hl:isLet s[0].toNat=true) :
    Calls prog 124 #[s] w (zbU s.data.toList w):=by
 have HC:Hid (∀w,Calls prog 121 #[s,.func (.func 177) #[] #[]] w fun e w'=>e= .returned (.int .i64 (run isCon s.data.toList))∧w=w'):=hD (fun w=>zdS s 177 isCon (fun n w _ _=>continues_any n w) plain42 w hs);unfold maxLen at hs;have HT:=hD (zcQ s h0);have HL:=hD hl;have hle:=run_le isCon s.data.toList;have hlen:s.data.toList.length=s.size:=by simp
 rw[hlen]at hle;have HP:=hD (zdz isCon s h0 (zdN _ hl));have HE:=hD (ext0 s (run isCon s.data.toList));have HK:=hD (zbz isCon s.data.toList);clear hl;generalize run isCon s.data.toList=k at *;by_cases h24:24<k
 · have HN:Hid (tok1 s.data.toList=none):=hD (by rw[HT.out,af HL.out,af h24]);clear HT hlen;go_in;go_wp2_with fail;refine(Yn _ _).mono ?_;rw[HL.out];rintro e w1 ⟨rfl,rfl⟩;go_wp2_with fail;refine(HC _).mono ?_;exact fo69
 · have HN:Hid (tok1 s.data.toList=some (⟨1,s.data.toList.takeWhile (pb isCon),0,[],0⟩,k)):=hD (by rw[HT.out,af HL.out,aa h24]);have HLen:=hD hlen;clear HT hlen;go_in;go_wp2_with fail;refine(Yn _ _).mono ?_;rw[HL.out];rintro e w1 ⟨rfl,rfl⟩;go_wp2_with fail;refine(HC _).mono ?_;rintro e w1 ⟨rfl,rfl⟩;go_wp2_with fail;refine aj (v:= .tuple #[.agg (tokA ⟨1,s.data.toList.takeWhile (pb isCon),0,[],0⟩),k]) ?_ rfl (zay _ _ (YN HN HP (by rw[HLen.out];omega)) ja (((ae _ _).alloc (ag _) _)));simp[results,results124,go_sem,tokA,HE.out,HK.out]
theorem takeWhile_dig(s:ByteArray)(k:Nat)(h:k<(s.extract 0 (run zV s.data.toList)).size):zV (s.extract 0 (run zV s.data.toList))[k].toNat=true:=by
 have h1:(s.extract 0 (run zV s.data.toList)).data.toList=s.data.toList.takeWhile (pb zV):=by rw[ext0,zbz]
 have h2:k<(s.extract 0 (run zV s.data.toList)).data.toList.length:=by simpa using h
 have h3:(s.extract 0 (run zV s.data.toList)).data.toList[k]∈s.data.toList.takeWhile (pb zV):=by rw[←h1];exact aH h2
 have h4:=List.all_takeWhile (p:=pb zV) (l:=s.data.toList);exact(bX.1 h4) _ h3
theorem number_tok(s:ByteArray)(h0:0<s.size)(hd:zV s[0].toNat=true) :
    zaL s.data.toList=if(number (s.data.toList.takeWhile (pb zV))).2 then some ((number (s.data.toList.takeWhile (pb zV))).1,run zV s.data.toList) else none:=by
 have hc:=zen s h0;have ht:s.data.toList.takeWhile (pb zV)=s[0]::(s.data.toList.drop 1).takeWhile (pb zV):=by
  conv=>lhs;rw[hc]
  rw[iK (p:=pb zV) hd]
 have hh:s.data.toList.head? =some s[0]:=head_at s h0;unfold zaL number;have hl:(s.data.toList.takeWhile (pb zV)).length=run zV s.data.toList:=rfl;rw[hh,hl];have hh2:(s.data.toList.takeWhile (pb zV)).head? =some s[0]:=by rw[ht];rfl
 have hne:(s.data.toList.takeWhile (pb zV)).isEmpty=false:=by rw[ht];rfl
 rw[hh2,hne];split
 · rfl
 · cases YW (s.data.toList.takeWhile (pb zV)) 0 <;> rfl
theorem next_digit(s:ByteArray)(w:World)(hs:s.size≤maxLen)(h0:0<s.size)(hl:zV s[0].toNat=true) :
    Calls prog 124 #[s] w (zbU s.data.toList w):=by
 have HC:Hid (∀w,Calls prog 121 #[s,.func (.func 178) #[] #[]] w fun e w'=>e= .returned (.int .i64 (run zV s.data.toList))∧w=w'):=hD (fun w=>zdS s 178 zV (fun n w _ _=>Yk n w) plain53 w hs);have hle:=run_le zV s.data.toList;have hlen:s.data.toList.length=s.size:=by simp
 rw[hlen]at hle;have HNum:Hid (∀w,Calls prog 179 #[.string (s.extract 0 (run zV s.data.toList))] w fun e w'=>e= .returned (.tuple #[.int .i64 (number (s.data.toList.takeWhile (pb zV))).1,.bool (number (s.data.toList.takeWhile (pb zV))).2])∧w=w'):=hD (fun w=>by
  have:=Z7 (s.extract 0 (run zV s.data.toList)) w jg (takeWhile_dig s);rw[ext0,zbz]at this;rw[ext0,zbz];exact this)
 unfold maxLen at hs;have HT:=hD (zcQ s h0);have HTok:=hD (number_tok s h0 hl);have HL:=hD hl;have HL2:=hD (isDig_let _ hl);have HP:=hD (zdz zV s h0 hl);have HLen:=hD hlen;clear hl hlen;generalize run zV s.data.toList=k at *;cases hok:(number (s.data.toList.takeWhile (pb zV))).2
 · have HN:Hid (tok1 s.data.toList=none):=hD (by rw[HT.out,aa (by rw[HL2.out];simp),af HL.out,HTok.out,hok];rfl);have HO:=hD hok;clear HT hok;go_in;go_wp2_with fail;refine(Yn _ _).mono ?_;rw[HL2.out];rintro e w1 ⟨rfl,rfl⟩;go_wp2_with fail;refine(Yk _ _).mono ?_;rw[HL.out];rintro e w1 ⟨rfl,rfl⟩;go_wp2_with fail;refine(HC.out _).mono ?_;rintro e w1 ⟨rfl,rfl⟩;go_wp2_with fail;refine(HNum.out _).mono ?_;rw[HO.out];exact fo69
 · have HN:Hid (tok1 s.data.toList=some (⟨2,[],(number (s.data.toList.takeWhile (pb zV))).1,[],0⟩,k)):=hD (by rw[HT.out,aa (by rw[HL2.out];simp),af HL.out,HTok.out,hok];rfl);have HO:=hD hok;clear HT hok;go_in;go_wp2_with fail;refine(Yn _ _).mono ?_;rw[HL2.out];rintro e w1 ⟨rfl,rfl⟩;go_wp2_with fail;refine(Yk _ _).mono ?_;rw[HL.out];rintro e w1 ⟨rfl,rfl⟩;go_wp2_with fail;refine(HC.out _).mono ?_;rintro e w1 ⟨rfl,rfl⟩;go_wp2_with fail;refine(HNum.out _).mono ?_;rw[HO.out];rintro e w1 ⟨rfl,rfl⟩;go_wp2_with fail;refine aj (v:= .tuple #[.agg (tokA ⟨2,[],(number (s.data.toList.takeWhile (pb zV))).1,[],0⟩),k]) ?_ rfl (zay _ _ (YN HN.out HP.out (by rw[HLen.out];omega)) ja (((ae _ _).alloc (ag _) _)));simp[results,results124,go_sem,tokA]
theorem litFrom_rng(l acc:List UInt8)(i:Nat):0≤(yM l acc i).2∧(yM l acc i).2≤i+l.length∧((yM l acc i).2=0∨i<(yM l acc i).2):=by
 induction hn:l.length using Nat.strongRecOn generalizing l acc i with
 |_ n ih=>
  subst hn;match l with
  | []=>simp[yM]
  |c::r=>
   rw[yM];split
   · simp;omega
   · split
     · simp;omega
     · have hx:=chrR_rng (c::r);have:=ih (r.drop ((chrR (c::r)).2.toNat- 1)).length jg (r.drop ((chrR (c::r)).2.toNat- 1)) (acc++ [(chrR (c::r)).1.toNat.toUInt8]) (i+(chrR (c::r)).2.toNat) rfl;simp only[aK,au]at this hx⊢;omega
theorem litR_rng(l:List UInt8):0≤(litR l).2∧(litR l).2≤l.length∧((litR l).2=0∨1≤(litR l).2):=by
 match l with
 | []=>simp[litR]
 |c::r=>
  have:=litFrom_rng r [] 1;simp only[litR];split
  · simp only[au];omega
  · simp;omega
theorem bcell{W:World}(hb:Below W.heap.size W w1):(∀b o,b<W.heap.size→w1.cell? ⟨b,o,none⟩=W.cell? ⟨b,o,none⟩)∧(∀b o,b<W.heap.size→w1.frozen? ⟨b,o,none⟩=W.frozen? ⟨b,o,none⟩):=
 ⟨fun b o h=>hb.cell (p:=⟨b,o,none⟩) h,fun b o h=>hb.frozen (p:=⟨b,o,none⟩) h⟩
theorem next_quote(s:ByteArray)(w:World)(hs:s.size≤maxLen)(hr:s.size≤140737488355328)(h0:0<s.size)(hl:(s[0].toNat:Int)=34) :
    Calls prog 124 #[s] w (zbU s.data.toList w):=by
 have HC:Hid (∀w,Calls prog 180 #[s] w fun e w'=>e= .returned (.tuple #[.string ⟨(litR s.data.toList).1.toArray⟩,.int .i64 (litR s.data.toList).2])∧Below w.heap.size w w'):=hD (fun w=>literal_any s w hs hr);unfold maxLen at hs;have HR:=hD (litR_rng s.data.toList);have hlen:s.data.toList.length=s.size:=by simp
 have HT:=hD (zcQ s h0);have HL1:=hD (q_let _ hl).1;have HL2:=hD (q_let _ hl).2;have HQ:=hD hl;have x1:((s[0].toNat:Int) == 34)=true:=by simp[hl]
 have HLen:=hD hlen;clear hl hlen;have HN:Hid (zel s.data.toList ⟨3,[],0,(litR s.data.toList).1,0⟩ (litR s.data.toList).2):=fo75;clear HT;go_in;go_wp2_with fail;refine(Yn _ _).mono ?_;rw[HL1.out];rintro e w1 ⟨rfl,rfl⟩;go_wp2_with fail;refine(Yk _ _).mono ?_;rw[HL2.out];rintro e w1 ⟨rfl,rfl⟩;go_wp2_with fail;refine(HC _).mono ?_;rintro e w1 ⟨rfl,hb⟩;obtain⟨hc,hf⟩:=bcell hb;have HB:=hD hb;have hz:w.heap.size<w1.heap.size:=by have:=hb.size;simp at this;omega
 clear hb;go_wp2_with fail;refine aj (v:= .tuple #[.agg (tokA ⟨3,[],0,(litR s.data.toList).1,0⟩),.int .i64 (litR s.data.toList).2]) ?_ rfl (zay _ _ HN HR.1 ?_)
 · simp[results,results124,go_sem,tokA,hc]
 · exact fo129
theorem sym_index:∀n:Fin 256,decide (0≤Lib.indexByte [123,125,40,41,91,93,44,59,58,61,47,43,45,60,62,124,38,42] (n.val:Int).toNat.toUInt8)=zeg n.val:=by decide +kernel
theorem sym_ge(c:UInt8):decide (0≤Lib.indexByte (ByteArray.mk #[123,125,40,41,91,93,44,59,58,61,47,43,45,60,62,124,38,42]).data.toList (c.toNat:Int).toNat.toUInt8)=zeg c.toNat:=sym_index ⟨c.toNat,c.toNat_lt⟩
theorem take1(s:ByteArray)(h:0<s.size):s.extract 0 1=⟨[s[0]].toArray⟩:=by
 rw[ext0,zen s h];rfl
theorem next_other(s:ByteArray)(w:World)(hs:s.size≤maxLen)(h0:0<s.size)(hl:isLet s[0].toNat=false)(hd:zV s[0].toNat=false)(hq:(s[0].toNat:Int)≠34) :
    Calls prog 124 #[s] w (zbU s.data.toList w):=by
 unfold maxLen at hs;have HT:Hid (tok1 s.data.toList=if zeg s[0].toNat then some (⟨4,[s[0]],0,[],0⟩,1) else none):=hD (fo216);have HL1:=hD hl;have HL2:=hD hd;have HE:=hD (take1 s h0);have x1:((s[0].toNat:Int) == 34)=false:=by simp[hq]
 obtain⟨x,hx,hcall⟩:∃x:Int,decide (0≤x)=zeg s[0].toNat∧∀w,Calls prog 123 #[.string ⟨#[123,125,40,41,91,93,44,59,58,61,47,43,45,60,62,124,38,42]⟩,.int .u8 s[0].toNat] w fun e w'=>e= .returned (.int .i64 x)∧w=w':=
  ⟨_,sym_ge s[0],fun w=>zaE (Tryz.strings_IndexByte _ _ w)⟩
 have HX:=hD hcall;clear hl hd hq hcall;have hlen:1≤s.data.toList.length:=by simp;omega
 have HLen:=hD hlen;clear hlen;by_cases hx0:0≤x
 · have HN:Hid (tok1 s.data.toList=some (⟨4,[s[0]],0,[],0⟩,1)):=hD (by rw[HT.out,←hx,af (by simpa using hx0)];rfl);clear hx;go_in;go_wp2_with fail;refine(Yn _ _).mono ?_;rw[HL1.out];rintro e w1 ⟨rfl,rfl⟩;go_wp2_with fail;refine(Yk _ _).mono ?_;rw[HL2.out];rintro e w1 ⟨rfl,rfl⟩;go_wp2_with fail;refine(HX _).mono ?_;rintro e w1 ⟨rfl,rfl⟩;go_wp2_with fail;refine aj (v:= .tuple #[.agg (tokA ⟨4,[s[0]],0,[],0⟩),.int .i64 1]) ?_ rfl (zay _ _ (YN (m:=1) HN ja HLen) ja (((ae _ _).alloc (ag _) _)));simp[results,results124,go_sem,tokA,HE.out];rfl
 · have HN:Hid (tok1 s.data.toList=none):=hD (by rw[HT.out,←hx,aa (by simpa using hx0)]);clear hx;go_in;go_wp2_with fail;refine(Yn _ _).mono ?_;rw[HL1.out];rintro e w1 ⟨rfl,rfl⟩;go_wp2_with fail;refine(Yk _ _).mono ?_;rw[HL2.out];rintro e w1 ⟨rfl,rfl⟩;go_wp2_with fail;refine(HX _).mono ?_;exact fo69
theorem zdw(s:ByteArray)(w:World)(hs:s.size≤maxLen)(hr:s.size≤140737488355328)(h0:0<s.size) :
    Calls prog 124 #[s] w (zbU s.data.toList w):=by
 cases hl:isLet s[0].toNat
 · cases hd:zV s[0].toNat
   · by_cases hq:(s[0].toNat:Int)=34
     · exact next_quote s w hs hr h0 hq
     · exact next_other s w hs h0 hl hd hq
   · exact next_digit s w hs h0 hd
 · exact next_letter s w hs h0 hl
theorem token_letter(s:ByteArray)(w:World)(hs:s.size≤maxLen)(h0:0<s.size)(hl:isLet s[0].toNat=true) :
    Calls prog 128 #[s] w (zbU s.data.toList w):=by
 unfold maxLen at hs;have HT:=hD (zcQ s h0);have HL:=hD hl;have hlen:s.data.toList.length=s.size:=by simp
 have HLen:=hD hlen;clear hl hlen;go_in;go_wp2_with fail;refine(Yl _ _).mono ?_;rw[HL.out];rintro e w1 ⟨rfl,rfl⟩;go_wp2_with fail;go_loop [4] (fun i=>∃k:Nat,i= .int .i64 k∧k≤s.size∧(∀j,(h:j<s.size)→j<k→isCon s[j].toNat=true)) (fun i=>s.size-(intOf i).toNat)
 case atStart=>exact⟨0,rfl,by omega,by intro j h h';omega⟩
 case round=>
  obtain⟨k,rfl,hk,hj⟩:=hrel;have HJ:=hD hj;clear hj;have hnext:(h:k<s.size)→isCon s[k].toNat=true→∀j,(h:j<s.size)→j<k+1→isCon s[j].toNat=true:=fun hlt hd j h h'=>fo179
  have HN:=hD hnext;clear hnext;have hcc:(k<s.size→∃h:k<s.size,isLet s[k].toNat=true∨(isLet s[k].toNat=false∧zV s[k].toNat=true)∨(isLet s[k].toNat=false∧zV s[k].toNat=false)):=fun h=>⟨h,by
   cases isLet s[k].toNat <;> cases zV s[k].toNat <;> simp⟩
  have hout:(∀h:k<s.size,isCon s[k].toNat=false)→Hid (run isCon s.data.toList=k):=fun h=>hD
   (run_at isCon s.data.toList k jdw (fun j h h'=>HJ.out j jao h') (fun h'=>h (by simpa using h')))
  have HO:=hD hout;clear hout;by_cases hlt:k<s.size
  · obtain⟨_,hx⟩:=hcc hlt;clear hcc;rcases hx with hx|⟨hx,hy⟩|⟨hx,hy⟩
    · have HX:=hD hx;have HC:=hD (HN hlt (by simp[isCon,hx]));clear hx;go_wp2_with (go_at_call 192;refine(Yl _ _).mono ?_;rw[HX.out];rintro e w' ⟨rfl,rfl⟩);exact fo184
    · have HX:=hD hx;have HY:=hD hy;have HC:=hD (HN hlt (by simp[isCon,hx,hy]));clear hx hy;go_wp2_with (first|(go_at_call 192;refine(Yl _ _).mono ?_;rw[HX.out];rintro e w' ⟨rfl,rfl⟩)|(go_at_call 193;refine(Yf _ _).mono ?_;rw[HY.out];rintro e w' ⟨rfl,rfl⟩));exact fo184
    · have HX:=hD hx;have HY:=hD hy;have HR:=HO.out (fun _=>by simp[isCon,hx,hy]);clear hx hy;by_cases h24:24<k
      · have HN:Hid (tok1 s.data.toList=none):=hD (by rw[HT.out,af HL.out,HR.out,af h24]);go_wp2_with (first|(go_at_call 192;refine(Yl _ _).mono ?_;rw[HX.out];rintro e w' ⟨rfl,rfl⟩)|(go_at_call 193;refine(Yf _ _).mono ?_;rw[HY.out];rintro e w' ⟨rfl,rfl⟩));exact fo134
      · have HP:=hD (zdz isCon s h0 (zdN _ HL));have HE:=hD (ext0 s k);have HK:=hD (zbz isCon s.data.toList);have HN:Hid (tok1 s.data.toList=some (⟨1,s.data.toList.takeWhile (pb isCon),0,[],0⟩,k)):=hD (by rw[HT.out,af HL.out,HR.out,aa h24]);go_wp2_with (first|(go_at_call 192;refine(Yl _ _).mono ?_;rw[HX.out];rintro e w' ⟨rfl,rfl⟩)|(go_at_call 193;refine(Yf _ _).mono ?_;rw[HY.out];rintro e w' ⟨rfl,rfl⟩));exact fo80
  · have HR:=HO.out (fun h=>absurd h hlt);clear hcc;by_cases h24:24<k
    · have HN:Hid (tok1 s.data.toList=none):=hD (by rw[HT.out,af HL.out,HR.out,af h24]);go_wp2_with fail;exact fo134
    · have HP:=hD (zdz isCon s h0 (zdN _ HL));have HE:=hD (ext0 s k);have HK:=hD (zbz isCon s.data.toList);have HN:Hid (tok1 s.data.toList=some (⟨1,s.data.toList.takeWhile (pb isCon),0,[],0⟩,k)):=hD (by rw[HT.out,af HL.out,HR.out,aa h24]);go_wp2_with fail;exact fo80
theorem token_digit(s:ByteArray)(w:World)(hs:s.size≤maxLen)(h0:0<s.size)(hl:zV s[0].toNat=true) :
    Calls prog 128 #[s] w (zbU s.data.toList w):=by
 have HC:Hid (∀w,Calls prog 194 #[s] w fun e w'=>e= .returned (.tuple #[.int .i64 (intR s.data.toList).1,.int .i64 (intR s.data.toList).2])∧w=w'):=hD (fun w=>zbt s w hs h0);unfold maxLen at hs;have HL:=hD hl;have HL2:=hD (isDig_let _ hl);have HN:Hid (zel s.data.toList ⟨2,[],(intR s.data.toList).1,[],0⟩ (intR s.data.toList).2∧0≤(intR s.data.toList).2):=by
  have h1:=zcQ s h0;rw[aa (by rw[HL2.out];simp),af hl]at h1;have hp:=zdz zV s h0 hl;have hle:=run_le zV s.data.toList;refine hD ?_;unfold intR;cases ht:zaL s.data.toList with
  |none=>rw[ht]at h1;exact⟨zbf h1,by simp⟩
  |some x=>
   obtain⟨v,n⟩:=x;have hn:n=run zV s.data.toList:=by
    unfold zaL at ht;split at ht
    · cases ht
    · cases hg:YW (s.data.toList.takeWhile (pb zV)) 0 with
      |none=>rw[hg]at ht;cases ht
      |some m=>rw[hg]at ht;simp at ht;exact ht.2.symm
   rw[ht]at h1;exact⟨YN (t:=⟨2,[],v,[],0⟩) h1 ja ja,by simp⟩
 clear hl;go_in;go_wp2_with (first|(go_at_call 192;refine(Yl _ _).mono ?_;rw[HL2.out];rintro e w' ⟨rfl,rfl⟩)|(go_at_call 193;refine(Yf _ _).mono ?_;rw[HL.out];rintro e w' ⟨rfl,rfl⟩)|(go_at_call 194;refine(HC _).mono ?_;rintro e w' ⟨rfl,rfl⟩));refine aj (v:= .tuple #[.agg (tokA ⟨2,[],(intR s.data.toList).1,[],0⟩),.int .i64 (intR s.data.toList).2]) ?_ rfl (zay _ _ HN.1 HN.2 (((ae _ _).alloc (ag _) _)));simp[results,results128,go_sem,tokA]
theorem token_quote(s:ByteArray)(w:World)(hs:s.size≤maxLen)(hr:s.size≤140737488355328)(h0:0<s.size)(hl:(s[0].toNat:Int)=34) :
    Calls prog 128 #[s] w (zbU s.data.toList w):=by
 have HC:Hid (∀w,Calls prog 195 #[s] w fun e w'=>e= .returned (.tuple #[.string ⟨(litR s.data.toList).1.toArray⟩,.int .i64 (litR s.data.toList).2])∧Below w.heap.size w w'):=hD (fun w=>str_any s w hs hr);unfold maxLen at hs;have HR:=hD (litR_rng s.data.toList);have hlen:s.data.toList.length=s.size:=by simp
 have HT:=hD (zcQ s h0);have HL1:=hD (q_let _ hl).1;have HL2:=hD (q_let _ hl).2;have HQ:=hD hl;have x1:((s[0].toNat:Int) == 34)=true:=by simp[hl]
 have HLen:=hD hlen;clear hl hlen;have HN:Hid (zel s.data.toList ⟨3,[],0,(litR s.data.toList).1,0⟩ (litR s.data.toList).2):=fo75;clear HT;go_in;go_wp2_with (first|(go_at_call 192;refine(Yl _ _).mono ?_;rw[HL1.out];rintro e w' ⟨rfl,rfl⟩)|(go_at_call 193;refine(Yf _ _).mono ?_;rw[HL2.out];rintro e w' ⟨rfl,rfl⟩));refine(HC _).mono ?_;rintro e w1 ⟨rfl,hb⟩;obtain⟨hc,hf⟩:=bcell hb;have HB:=hD hb;have hz:w.heap.size<w1.heap.size:=by have:=hb.size;simp at this;omega
 clear hb;go_wp2_with fail;refine aj (v:= .tuple #[.agg (tokA ⟨3,[],0,(litR s.data.toList).1,0⟩),.int .i64 (litR s.data.toList).2]) ?_ rfl (zay _ _ HN HR.1 ?_)
 · simp[results,results128,go_sem,tokA,hc]
 · exact fo129
theorem sym_ex:∀n:Fin 256,zeg n.val=true↔∃k:Fin 18,(((ByteArray.mk #[123,125,40,41,91,93,44,59,58,61,47,43,45,60,62,124,38,42])[k.val]'(k.isLt)).toNat:Int)=n.val:=by decide +kernel
theorem sym_yes(c:UInt8)(k:Nat)(hk:k<18)(h:(((ByteArray.mk #[123,125,40,41,91,93,44,59,58,61,47,43,45,60,62,124,38,42])[k]'hk).toNat:Int)=c.toNat):zeg c.toNat=true:=
 (sym_ex ⟨c.toNat,c.toNat_lt⟩).2 ⟨⟨k,hk⟩,h⟩
theorem sym_no(c:UInt8)(h:∀k,(hk:k<18)→(((ByteArray.mk #[123,125,40,41,91,93,44,59,58,61,47,43,45,60,62,124,38,42])[k]'hk).toNat:Int)≠c.toNat):zeg c.toNat=false:=by
 cases hs:zeg c.toNat
 · rfl
 · obtain⟨k,hk⟩:=(sym_ex ⟨c.toNat,c.toNat_lt⟩).1 hs;exact absurd hk (h k.val k.isLt)
theorem token_other(s:ByteArray)(w:World)(hs:s.size≤maxLen)(h0:0<s.size)(hl:isLet s[0].toNat=false)(hd:zV s[0].toNat=false)(hq:(s[0].toNat:Int)≠34) :
    Calls prog 128 #[s] w (zbU s.data.toList w):=by
 unfold maxLen at hs;have HT:Hid (tok1 s.data.toList=if zeg s[0].toNat then some (⟨4,[s[0]],0,[],0⟩,1) else none):=hD (fo216);have HL1:=hD hl;have HL2:=hD hd;have HE:=hD (take1 s h0);have x1:((s[0].toNat:Int) == 34)=false:=by simp[hq]
 clear hl hd hq;have hlen:1≤s.data.toList.length:=by simp;omega
 have HLen:=hD hlen;clear hlen;go_in;go_wp2_with (first|(go_at_call 192;refine(Yl _ _).mono ?_;rw[HL1.out];rintro e w' ⟨rfl,rfl⟩)|(go_at_call 193;refine(Yf _ _).mono ?_;rw[HL2.out];rintro e w' ⟨rfl,rfl⟩));go_loopw [9] (fun i wr=>∃k n:Nat,i= .int .i64 k∧k≤18∧wr=(w.alloc (.cells #[(),"",(),"",()] 117)).drewN n∧(∀j,(hj:j<18)→j<k→(((ByteArray.mk #[123,125,40,41,91,93,44,59,58,61,47,43,45,60,62,124,38,42])[j]'hj).toNat:Int)≠s[0].toNat)) (fun i _=>18-(intOf i).toNat)
 case atStart=>exact⟨0,0,rfl,by omega,rfl,by intro j hj h;omega⟩
 case round=>
  obtain⟨k,n,rfl,hk,rfl,hj⟩:=hrel;have HJ:=hD hj;clear hj;by_cases hlt:k<18
  · have i0:(0:Int) <(s.size:Int):=by omega
    have i1:(0:Int)≤(k:Int):=by omega
    have i2:(k:Int) <18:=by omega
    go_wp2_with fail;go_quiet (fail);go_wp2_with fail
    · have hh:=aV.1 ‹(_ ==(s[0].toNat:Int))=true›;have HN:Hid (tok1 s.data.toList=some (⟨4,[s[0]],0,[],0⟩,1)):=hD (by rw[HT.out,sym_yes s[0] k hlt hh];rfl);refine aj (v:= .tuple #[.agg (tokA ⟨4,[s[0]],0,[],0⟩),.int .i64 1]) ?_ rfl (zay _ _ (YN (m:=1) HN ja HLen) ja ?_)
      · simp[results,results128,go_sem,tokA,HE.out];rfl
      · have h9:Below w.heap.size w ((w.alloc (.cells #[(),"",(),"",()] 117)).drewN (n+nq)):=ed ((ae _ _).alloc (ag _) _) _;exact fo173
    · have hh:=aF.1 ‹(_ ==(s[0].toNat:Int))=false›;go_roundw
      case rel=>
       refine⟨k+1,_,by go_num,by omega,rfl,fun j hj h=> ?_⟩;rcases dw j k with h1|h1
       · exact HJ j hj h1
       · obtain rfl:j=k:=by omega
         exact hh
      case measure=>simp[intOf];omega
  · have HN:Hid (tok1 s.data.toList=none):=hD (by rw[HT.out,sym_no s[0] (fun j hj=>HJ.out j hj ja)];rfl);go_wp2_with fail;refine aj (v:= .tuple #[.agg (tokA tok0),()]) ?_ rfl (zay _ _ (zbf HN) ja ?_)
    · simp[results,results128,go_sem,tokA,tok0]
    · have h9:Below w.heap.size w ((w.alloc (.cells #[(),"",(),"",()] 117)).drewN n):=ed ((ae _ _).alloc (ag _) _) _;exact fo173
theorem token_any(s:ByteArray)(w:World)(hs:s.size≤maxLen)(hr:s.size≤140737488355328)(h0:0<s.size) :
    Calls prog 128 #[s] w (zbU s.data.toList w):=by
 cases hl:isLet s[0].toNat
 · cases hd:zV s[0].toNat
   · by_cases hq:(s[0].toNat:Int)=34
     · exact token_quote s w hs hr h0 hq
     · exact token_other s w hs h0 hl hd hq
   · exact token_digit s w hs h0 hd
 · exact token_letter s w hs h0 hl
structure Rd (w:World) (k:Nat) (A:Option Addr) (n:Nat) (xs:List Value):Prop where
 len:xs.length=n * k
 cells:0<xs.length→∃b o,A=some ⟨b,o,none⟩∧b<w.heap.size∧∀j u,xs[j]? =some u→w.cell? ⟨b,o+j,none⟩=some u
theorem Rd.below(h:Rd w k A n xs)(hb:Below w.heap.size w w'):Rd w' k A n xs:=
 ⟨h.len,fun hj=>by
  obtain⟨b,o,e,hl,hc⟩:=h.cells hj
  exact⟨b,o,e,aN hl hb.size,fun j u hu=>(hb.cell (p:=⟨b,o+j,none⟩) hl).trans (hc j u hu)⟩⟩
theorem zaO(g j:Nat):(⟨g,0,none⟩:Addr).add j=⟨g,0+j,none⟩:=by unfold Addr.add;split <;> simp_all
theorem Rd.own(h:w.ownsRow base e k (.slice A n c) n xs):Rd w k A n xs:=fo98
theorem Rd.nil(w:World)(k:Nat)(A:Option Addr):Rd w k A 0 []:=⟨by simp,fun hj=>by simp at hj⟩
theorem ownsRow_form(h:w.ownsRow base e k v n xs):∃A c,v= .slice A n c:=fo186
theorem ownsRow_below(h:w.ownsRow base e k v n xs)(hb:Below w.heap.size w w'):w'.ownsRow base e k v n xs:=fo120
theorem below_grown{B:Nat}{a:World}{row:Option Nat}(h:Below B a w)(hB:B≤w.heap.size)(hg:w.grownBy w' row)(hr:∀g,row=some g→B≤g):Below B a w':=
 h.trans ⟨hg.os,hg.tape,hg.output,hg.size,fun k hk=>hg.block k ja (fun e=>by have:=hr k e.symm;omega)⟩
def tokC(t:Tok):List Value:=(tokA t).toList
def toksC(l:List Tok):List Value:=l.flatMap tokC
theorem toksC_len(l:List Tok):(toksC l).length=l.length * 5:=by
 induction l with
 |nil=>rfl
 |cons t r ih=>simp only[toksC,aU,aG,au]at ih⊢;rw[ih];simp[tokC,tokA];omega
theorem zgc(l:List Tok)(t:Tok):toksC (l++ [t])=toksC l++tokC t:=by simp[toksC]
def toksR(l:List UInt8):List Tok × Int × Int:=
 if 65536<l.length then([],0,3) else match toks l 1 []with| .ok ts=>(ts,0,0)| .error n=>([],n,2)
def RetToks(l:List UInt8)(w:World)(e:Ending)(w':World):Prop:=
 ∃A c,e= .returned (.tuple #[.slice A (toksR l).1.length c,.int .i64 (toksR l).2.1,.int .i64 (toksR l).2.2])∧Rd w' 5 A (toksR l).1.length (toksC (toksR l).1)∧Below w.heap.size w w'∧(toksR l).1.length≤c∧c≤9223372036854775807
theorem beq_swap(a b:UInt8):(a == b)=(b == a):=by
 by_cases h:a=b
 · subst h;rfl
 · have h':¬b=a:=fun e=>h e.symm
   rw[aF.2 h,aF.2 h']
theorem zfB(a:UInt8)(r:List UInt8):Lib.hasPrefix (a::r) [47,47]=(a == 47 && r.head? == some 47):=by
 cases r with
 |nil=>simp[Lib.hasPrefix,List.isPrefixOf]
 |cons c r=>
  simp only[Lib.hasPrefix,List.isPrefixOf,gZ,dA];rw[beq_swap a,show(some c == some (47:UInt8))=(c == 47) from rfl,beq_swap c]
theorem ze3(s:ByteArray)(h0:0<s.size):Lib.hasPrefix s.data.toList [47,47]=(s[0] == 47 &&(s.data.toList.drop 1).head? == some 47):=by
 conv=>lhs;rw[zen s h0]
 exact zfB _ _
theorem idx_nl(l:List UInt8):(Lib.indexByte l 10=-1∧l.dropWhile zaT=[])∨(∃k:Nat,Lib.indexByte l 10=k∧k<l.length∧l.dropWhile zaT=l.drop k):=by
 induction l with
 |nil=>exact .inl ⟨rfl,rfl⟩
 |cons c r ih=>
  by_cases hc:c=10
  · refine .inr ⟨0,?_,by simp,?_⟩
    · simp[Lib.indexByte,hc]
    · simp[zaT,hc]
  · have h1:(c == 10)=false:=by simp[hc]
    have h2:zaT c=true:=by simp[zaT,hc]
    rcases ih with⟨h,h'⟩|⟨k,h,hk,h'⟩
    · refine .inl ⟨?_,?_⟩
      · simp[Lib.indexByte,h1,h]
      · rw[eU h2,h']
    · refine .inr ⟨k+1,?_,by simp;omega,?_⟩
      · have:(Lib.indexByte r 10 == -1)=false:=by rw[h,aF];omega
        simp only[Lib.indexByte,h1,h];simp
      · rw[eU h2,h'];rfl
theorem count_nl(l:List UInt8):Lib.countByte l 10=zaQ l:=by
 simp[Lib.countByte,zaQ,List.count_eq_countP,List.countP_eq_length_filter]
theorem countNl_le(l:List UInt8):zaQ l≤l.length:=List.length_filter_le _ _
theorem info33:(prog.info? 117).map (fun i=>(i.zero,i.size,i.bytes))=some (some (.agg #[(),"",(),"",()]),5,56):=by kernel_rfl
theorem toks_at_space(s:ByteArray)(line:Int)(acc:List Tok):toks s.data.toList line acc=toks (s.data.toList.drop (run isSp s.data.toList)) (line+zaQ (s.data.toList.take (run isSp s.data.toList))) acc:=by
 rw[drop_run,zbz];exact toks_spaces _ _ _
theorem zeB(s:ByteArray)(h0:0<s.size)(line:Int)(acc:List Tok)(h:Lib.hasPrefix s.data.toList [47,47]=true):toks s.data.toList line acc=toks (s.data.toList.dropWhile zaT) line acc:=by
 rw[ze3 s h0]at h;simp only[aT,aV]at h;have e:=zen s h0;have h1:=zd2 (s.data.toList.drop 1) line acc h.2;rw[←h.1,←e]at h1;rw[h1];have h2:s.data.toList.dropWhile zaT=(s.data.toList.drop 1).dropWhile zaT:=by
  conv=>lhs;rw[e]
  rw[eU (by rw[h.1];rfl)]
 rw[h2]
theorem zfI(s:ByteArray)(h0:0<s.size)(line:Int)(acc:List Tok)(hs:isSp s[0].toNat=false)(h:Lib.hasPrefix s.data.toList [47,47]=false)(t:Tok)(m:Nat)(ht:zel s.data.toList t m) :
    (m=0∧toks s.data.toList line acc= .error line)∨(1≤m∧m≤s.size∧toks s.data.toList line acc=toks (s.data.toList.drop m) line (acc++ [{t with line:=line}])):=by
 rw[ze3 s h0]at h;have e:=zen s h0;have h1:=toks_tok s[0] (s.data.toList.drop 1) line acc hs h;rw[←e]at h1;rw[h1];unfold zel at ht;cases hk:tok1 s.data.toList with
 |none=>rw[hk]at ht;exact .inl ⟨by simp only at ht;omega,rfl⟩
 |some x=>
  obtain⟨u,k⟩:=x;rw[hk]at ht;simp only at ht;obtain⟨rfl,hm,hk1,hk2⟩:=ht;have:m=k:=by omega
  subst this;refine .inr ⟨hk1,by simpa using hk2,?_⟩;simp only[dC];congr 2;omega
def TokRel(s:ByteArray)(w:World)(l:List UInt8)(o:Value)(ln:Int)(acc:List Tok)(wr:World):Prop:=
 0≤ln∧ln+l.length≤s.size+1∧acc.length+l.length≤s.size∧wr.ownsRow w.heap.size 117 5 o acc.length (toksC acc)∧Below w.heap.size w wr∧w.heap.size≤wr.heap.size∧toks s.data.toList 1 []=toks l ln acc
theorem toksR_ok(s:ByteArray)(hs:s.size≤65536)(ts:List Tok)(h:toks s.data.toList 1 []= .ok ts):toksR s.data.toList=(ts,0,0):=by
 unfold toksR;rw[aa jg,h]
theorem toksR_err(s:ByteArray)(hs:s.size≤65536)(n:Int)(h:toks s.data.toList 1 []= .error n):toksR s.data.toList=([],n,2):=by
 unfold toksR;rw[aa jg,h]
theorem ret_toks(A:Option Addr)(c:Nat)(ts:List Tok)(line err:Int)(h:toksR l=(ts,line,err))(hr:Rd w' 5 A ts.length (toksC ts))(hb:Below w.heap.size w w')(hc:ts.length≤c∧c≤9223372036854775807) :
    RetToks l w (.returned (.tuple #[.slice A ts.length c,line,err])) w':=by
 refine⟨A,c,?_,?_,hb,?_⟩
 · rw[h]
 · rw[h];exact hr
 · rw[h];exact hc
theorem own_capmax(h:w.ownsRow base e k (.slice A n c) n xs):n≤c∧c≤9223372036854775807:=fo90
theorem cap0:([]:List Tok).length≤0∧0≤9223372036854775807:=⟨ag _,by decide⟩
def strLen:Value→Nat
 | .string t=>t.size
 |_=>0
theorem zU(t:ByteArray):t.data.toList.length=t.size:=by simp
theorem YB{s:ByteArray}{wr:World}{o:Value}{n n':Int}{acc:List Tok}(h:TokRel s w l o n acc wr)(hb:Below wr.heap.size wr w1)(hn:0≤n')(hl:n'+l'.length≤n+l.length)(hll:l'.length≤l.length)
    (hk:toks l n acc=toks l' n' acc):TokRel s w l' o n' acc w1:=by
 obtain⟨h1,h2,h3,hown,hb',hge,hf⟩:=h;exact⟨hn,by omega,by omega,ownsRow_below hown hb,hb'.trans (hb.mono hge),ah hge hb.size,hf.trans hk⟩
theorem lexTokens_any(s:ByteArray)(w:World)(hs:s.size≤65536) :
    Calls prog 83 #[s] w (RetToks s.data.toList w):=by
 obtain⟨i0,hi,hz0,hz1,hz2⟩:=info_parts info33;have HI:=hD hi;have HZ0:=hD hz0;have HZ1:=hD hz1;have HZ2:=hD hz2;clear hi hz0 hz1 hz2;go_in;go_wp2_with fail;go_loopw [0,5,6] (fun s' o ln wr=>∃(t:ByteArray) (n:Int) (acc:List Tok),s'= .string t∧ln= .int .i64 n∧TokRel s w t.data.toList o n acc wr) (fun s' _ _ _=>strLen s')
 case atStart=>exact⟨s,1,[],rfl,rfl,by omega,by simp;omega,by simp,aR _ _ _ _,ae _ _,ag _,rfl⟩
 case round=>
  obtain⟨t,n,acc,rfl,rfl,hrel⟩:=hrel;have HREL:=hD hrel;obtain⟨h1,h2,h3,hown,hb,hge,hf⟩:=hrel;rw[zU]at h2 h3;have HO:=hD hown;have HB:=hD hb;have HF:=hD hf;clear hown hb hf;by_cases ht0:t.size=0
  · have hq:t.toList.isEmpty=true:=by rw[aS,zaH t ht0];rfl
    have hne:(!t.toList.isEmpty)=false:=by rw[hq];rfl
    have HE:=hD (zaH t ht0);have hF2:toksR s.data.toList=(acc,0,0):=toksR_ok s hs acc (by rw[HF.out,HE.out];rw[toks]);have HF2:=hD hF2;obtain⟨A,c,hv⟩:=ownsRow_form HO.out;subst hv;clear hF2 ht0;exact fo190
  · have hq:t.toList.isEmpty=false:=by rw[aS];exact zb3 t ja
    have ht1:0<t.size:=by omega
    cases hsp:isSp t[0].toNat
    · have HSP:=hD hsp;clear hsp;cases hcm:Lib.hasPrefix t.data.toList [47,47]
      · have HPC:Hid (∀w,Calls prog 122 #[t,.string ⟨#[47,47]⟩] w fun e w'=>e= .returned (.bool false)∧w=w'):=hD (fun w=>fo144);have HTK:=hD (zfI t ht1 n acc HSP hcm);clear hcm;go_wp2_with (first|(go_at_call 120;refine(zb9 _ _ ja (Zq _)).mono ?_;rw[HSP.out];rintro e w' ⟨rfl,rfl⟩)|(go_at_call 122;refine(HPC _).mono ?_;rintro e w' ⟨rfl,rfl⟩));refine(zdw _ _ jq ja ht1).mono ?_;rintro e w1 ⟨⟨kd,tx,it,st,l0⟩,m,rfl,htk,hm0,hb1⟩;simp only[tokA];obtain⟨k,rfl⟩:=bA hm0;have hz1:=hb1.size;have HB1:=hD hb1;rcases HTK _ k htk with⟨hk0,htk1⟩|⟨hk1,hk2,htk1⟩
        · have hkz:((k:Int) == 0)=true:=by simp[hk0]
          exact fo246
        · have hkz:((k:Int) == 0)=false:=by rw[aF];omega
          have HT1:=hD htk1;have HO1:=hD (ownsRow_below HO HB1);clear htk htk1 hb1;go_wp2_with (at_builtin;refine bu _ rfl _ _ 110 rfl w.heap.size 117 i0 _ 5 56 underlying110 HI HZ0 HZ1 HZ2 rfl jf _ _ _ rfl ((HO1.alloc _).alloc _) ⟨w1.heap.size+1,0,none⟩ 1 1 [kd,tx,it,st,n] rfl rfl ?c1 ?c2 ?c3 ?c4 ?c5 ?_)
          case c2=>simp[Value.oneCell']
          case c3=>simp[maxLen];omega
          case c4=>omega
          case c5=>first|omega|(simp;omega)
          intro v' w2 hown' hgrow _;have HO2:=hD hown';have HG2:=hD hgrow;clear hown' hgrow;go_wp2_with fail;go_roundw
          case rel=>
           refine⟨t.extract k t.size,n,acc++ [⟨kd,tx,it,st,n⟩],rfl,rfl,?_⟩;rw[zbB];refine⟨h1,by simp;omega,by simp;omega,?_,?_,?_,?_⟩
           · rw[zgc,aG];exact HO2
           · exact fo260
           · exact fo59
           · rw[HF.out,HT1.out]
          case measure=>simp[strLen];omega
      · have HCM:=hD hcm;have HPC:Hid (∀w,Calls prog 122 #[t,.string ⟨#[47,47]⟩] w fun e w'=>e= .returned (.bool true)∧w=w'):=hD (fun w=>fo144);have HTK:=hD (zeB t ht1 n acc hcm);clear hcm;rcases idx_nl t.data.toList with⟨hx,hx'⟩|⟨k,hx,hk,hx'⟩
        · have HXC:Hid (∀w,Calls prog 123 #[t,.int .u8 10] w fun e w'=>e= .returned (.int .i64 (-1))∧w=w'):=hD (fun w=>fo154);have HX:=hD hx';clear hx hx';go_wp2_with (first|(go_at_call 120;refine(zb9 _ _ ja (Zq _)).mono ?_;rw[HSP.out];rintro e w' ⟨rfl,rfl⟩)|(go_at_call 122;refine(HPC _).mono ?_;rintro e w' ⟨rfl,rfl⟩)|(go_at_call 123;refine(HXC _).mono ?_;rintro e w' ⟨rfl,rfl⟩));go_roundw
          case rel=>
           exact⟨ByteArray.empty,n,acc,rfl,rfl,YB HREL (ae _ _) h1 jg jc (by rw[HTK.out,HX.out];rfl)⟩
          case measure=>simp[strLen];omega
        · have HXC:Hid (∀w,Calls prog 123 #[t,.int .u8 10] w fun e w'=>e= .returned (.int .i64 k)∧w=w'):=hD (fun w=>fo154);have HX:=hD hx';have hk0:0<k:=by
           rcases il k with rfl|h
           · exfalso;have h5:=ze3 t ht1;rw[HCM.out]at h5;simp only[Bool.true_eq,aT,aV]at h5;rw[zen t ht1,h5.1]at hx;have:Lib.indexByte (47::List.drop 1 t.data.toList) 10≠0:=by
              simp only[Lib.indexByte];have:=Lib.indexByte_ge (List.drop 1 t.data.toList) 10;rw[aa jf];split
              · decide
              · rename_i h6;intro h7;apply h6;rw[aV];omega
             exact this hx
           · exact h
          rw[zU]at hk;clear hx hx';go_wp2_with (first|(go_at_call 120;refine(zb9 _ _ ja (Zq _)).mono ?_;rw[HSP.out];rintro e w' ⟨rfl,rfl⟩)|(go_at_call 122;refine(HPC _).mono ?_;rintro e w' ⟨rfl,rfl⟩)|(go_at_call 123;refine(HXC _).mono ?_;rintro e w' ⟨rfl,rfl⟩));go_roundw
          case rel=>
           refine⟨t.extract k t.size,n,acc,rfl,rfl,?_⟩;rw[zbB];exact YB HREL (ae _ _) h1 jc jc (by rw[HTK.out,HX.out])
          case measure=>simp[strLen];omega
    · have HSP:=hD hsp;have HPX:Hid (∀w,Calls prog 121 #[t,.func (.func 120) #[] #[]] w fun e w'=>e= .returned (.int .i64 (run isSp t.data.toList))∧w=w'):=hD (fun w=>zdS t 120 isSp (fun n w h0 h1=>zb9 n w h0 h1) plain27 w jq);have HCT:Hid (∀w,Calls prog 118 #[.string (t.extract 0 (run isSp t.data.toList)),.string ⟨#[10]⟩] w fun e w'=>e= .returned (.int .i64 (zaQ (t.data.toList.take (run isSp t.data.toList))))∧w=w'):=hD (fun w=>by
       have:=zaE (Tryz.strings_Count_one (t.extract 0 (run isSp t.data.toList)) 10 w);rw[show(t.extract 0 (run isSp t.data.toList)).data.toList=t.data.toList.take (run isSp t.data.toList) from by rw[ext0],count_nl]at this;exact this)
      have HTK:=hD (toks_at_space t n acc);have hr1:=run_le isSp t.data.toList;have hr2:=zdz isSp t ht1 hsp;have hc1:=countNl_le (t.data.toList.take (run isSp t.data.toList));rw[bN,zU]at hc1;rw[zU]at hr1;clear hsp;generalize zaQ (t.data.toList.take (run isSp t.data.toList))=m at *;generalize run isSp t.data.toList=k at *;have hmk:m≤k:=by omega
      clear hc1;go_wp2_with (first|(go_at_call 120;refine(zb9 _ _ ja (Zq _)).mono ?_;rw[HSP.out];rintro e w' ⟨rfl,rfl⟩)|(go_at_call 121;refine(HPX _).mono ?_;rintro e w' ⟨rfl,rfl⟩)|(go_at_call 118;refine(HCT _).mono ?_;rintro e w' ⟨rfl,rfl⟩));go_roundw
      case rel=>
       refine⟨t.extract k t.size,n+m,acc,rfl,rfl,?_⟩;rw[zbB];exact YB HREL (ae _ _) ja jg jc (by rw[HTK.out])
      case measure=>simp[strLen];omega
theorem toks_white(s:ByteArray)(k:Nat)(hk:k<s.size)(n:Int)(acc:List Tok)(h:isSp s[k].toNat=true) :
    toks (s.data.toList.drop k) n acc=toks (s.data.toList.drop (k+1)) (if(s[k].toNat:Int)=10 then n+1 else n) acc:=by
 rw[drop_at s k hk,toks];simp only[h,aW];congr 1;have:((s[k].toNat:Int)=10)↔s[k]=10:=zbP s[k] 10 ja;by_cases hc:s[k]=10
 · rw[af (by simp[hc]),af (this.2 hc)]
 · rw[aa (by simp[hc]),aa (fun e=>hc (this.1 e))]
theorem toks_cc(s:ByteArray)(k:Nat)(hk:k+1<s.size)(n:Int)(acc:List Tok)(h:(s[k].toNat:Int)=47)(h':(s[k+1].toNat:Int)=47) :
    toks (s.data.toList.drop k) n acc=toks ((s.data.toList.drop k).dropWhile zaT) n acc:=by
 have e1:=(zbP s[k] 47 ja).1 h;have e2:=(zbP s[k+1] 47 ja).1 h';have e3:s[k]=47:=e1;rw[drop_at s k ja,e3,zd2 _ n acc (by rw[drop_at s (k+1) hk];simp;exact e2),eU ji]
theorem not_cc(s:ByteArray)(k:Nat)(hk:k<s.size)(h:(s[k].toNat:Int)≠47∨(∀h':k+1<s.size,(s[k+1].toNat:Int)≠47)):Lib.hasPrefix (s.data.toList.drop k) [47,47]=false:=by
 rw[drop_at s k hk,zfB];rcases h with h|h
 · have:(s[k] == 47)=false:=by rw[aF];exact fun e=>h ((zbP s[k] 47 ja).2 e)
   rw[this];rfl
 · have:((s.data.toList.drop (k+1)).head? == some 47)=false:=by
     by_cases h':k+1<s.size
     · rw[drop_at s (k+1) h'];have:=h h';rw[gZ,show(some s[k+1] == some (47:UInt8))=(s[k+1] == 47) from rfl,aF];exact fun e=>this ((zbP s[k+1] 47 ja).2 e)
     · exact fo206
   rw[this,fC]
theorem dropNl_step(s:ByteArray)(j:Nat)(hj:j<s.size)(h:(s[j].toNat:Int)≠10):(s.data.toList.drop j).dropWhile zaT=(s.data.toList.drop (j+1)).dropWhile zaT:=by
 rw[drop_at s j hj,eU];simp only[zaT,bO];exact fun e=>h ((zbP s[j] 10 ja).2 e)
theorem ze8(s:ByteArray)(j:Nat)(h:∀hj:j<s.size,(s[j].toNat:Int)=10):(s.data.toList.drop j).dropWhile zaT=s.data.toList.drop j:=by
 by_cases hj:j<s.size
 · rw[drop_at s j hj,List.dropWhile_cons_of_neg];have:=(zbP s[j] 10 ja).1 (h hj);have e:s[j]=10:=this;simp[zaT,e]
 · exact fo206
theorem zN(W:World)(cs:List Value)(T:TypeId)(b:Nat)(hb:b=W.heap.size):∀j u,cs[j]? =some u→(W.alloc (.cells cs.toArray T)).cell? ((⟨b,0,none⟩:Addr).add j)=some u:=fo92
theorem toks_tok_at(s:ByteArray)(k:Nat)(hk:k<s.size)(line:Int)(acc:List Tok)(hs:isSp s[k].toNat=false)(h:Lib.hasPrefix (s.data.toList.drop k) [47,47]=false)(t:Tok)(m:Nat)(ht:zel (s.data.toList.drop k) t m) :
    (m=0∧toks (s.data.toList.drop k) line acc= .error line)∨(1≤m∧k+m≤s.size∧toks (s.data.toList.drop k) line acc=toks (s.data.toList.drop (k+m)) line (acc++ [{t with line:=line}])):=by
 have h1:=zfI (s.extract k s.size) jg line acc (by simp only[iD];exact hs) (by rw[zbB];exact h) t m (by rw[zbB];exact ht);rw[zbB]at h1;rcases h1 with h1|⟨a,b,c⟩
 · exact .inl h1
 · refine .inr ⟨a,?_,?_⟩
   · simp at b;omega
   · rw[c,dC]
theorem refTokens_any(s:ByteArray)(w:World)(hs:s.size≤65536) :
    Calls prog 88 #[.string s] w (RetToks s.data.toList w):=by
 obtain⟨i0,hi,hz0,hz1,hz2⟩:=info_parts info33;have HI:=hD hi;have HZ0:=hD hz0;have HZ1:=hD hz1;have HZ2:=hD hz2;clear hi hz0 hz1 hz2;go_in;go_wp2_with fail;go_loopw [5,6,7] (fun o ln i wr=>∃(k:Nat) (n:Int) (acc:List Tok),i= .int .i64 k∧k≤s.size∧ln= .int .i64 n∧TokRel s w (s.data.toList.drop k) o n acc wr) (fun _ _ i _=>s.size-(intOf i).toNat)
 case atStart=>exact⟨0,1,[],rfl,by omega,rfl,by omega,by simp;omega,by simp,aR _ _ _ _,ae _ _,ag _,rfl⟩
 case round=>
  obtain⟨k,n,acc,rfl,hk,rfl,hrel⟩:=hrel;have HREL:=hD hrel;obtain⟨h1,h2,h3,hown,hb,hge,hf⟩:=hrel;rw[aK,zU]at h2 h3;have HO:=hD hown;have HB:=hD hb;have HF:=hD hf;clear hown hb hf;by_cases hlt:k<s.size
  · cases hsp:isSp s[k].toNat
    · have HSP:=hD hsp;by_cases hcc:∃h:k+1<s.size,(s[k].toNat:Int)=47∧(s[k+1].toNat:Int)=47
      · obtain⟨hk1,ha,hb⟩:=hcc;have HTK:=hD (toks_cc s k hk1 n acc ha hb);have x1:((s[k].toNat:Int) == 47)=true:=by simp[ha]
        have x2:((s[k+1].toNat:Int) == 47)=true:=by simp[hb]
        have HA:=hD ha;clear ha hb hsp;go_wp2_with (first|(go_at_call 127;refine(zdv _ _).mono ?_;rw[HSP.out];rintro e w' ⟨rfl,rfl⟩));obtain⟨wo,rfl⟩:∃wo:World,wo=wr:=⟨_,rfl⟩;go_loop [7] (fun i=>∃j:Nat,i= .int .i64 j∧k≤j∧j≤s.size∧(s.data.toList.drop k).dropWhile zaT=(s.data.toList.drop j).dropWhile zaT) (fun i=>s.size-(intOf i).toNat)
        case atStart=>exact⟨k,rfl,by omega,by omega,rfl⟩
        case round=>
         obtain⟨j,rfl,hkj,hjs,hd⟩:=hrel;have HD:=hD hd;clear hd;by_cases hjl:j<s.size
         · by_cases hnl:(s[j].toNat:Int)=10
           · have x3:((s[j].toNat:Int) != 10)=false:=by simp[hnl]
             have HS:=hD (ze8 s j (fun _=>hnl));have hjk:k<j:=by
              rcases dw k j with h|h
              · exact h
              · exfalso;obtain rfl:j=k:=by omega
                rw[HA.out]at hnl;omega
             clear hnl;exact fo97
           · have x3:((s[j].toNat:Int) != 10)=true:=by rw[bO];exact hnl
             have HS:=hD (dropNl_step s j hjl hnl);clear hnl;go_wp2_with fail;go_round
             case rel=>exact⟨j+1,by go_num,by omega,by omega,by rw[HD.out,HS.out]⟩
             case measure=>simp[intOf];omega
         · have HS:=hD (ze8 s j (fun h=>absurd h hjl));exact fo97
      · have hno:(s[k].toNat:Int)≠47∨((s[k].toNat:Int)=47∧s.size≤k+1)∨(∃h:k+1<s.size,(s[k].toNat:Int)=47∧(s[k+1].toNat:Int)≠47):=by
          by_cases ha:(s[k].toNat:Int)=47
          · by_cases hk1:k+1<s.size
            · exact .inr (.inr ⟨hk1,ha,fun hb=>hcc ⟨hk1,ha,hb⟩⟩)
            · exact .inr (.inl ⟨ha,by omega⟩)
          · exact .inl ha
        have hnp:Lib.hasPrefix (s.data.toList.drop k) [47,47]=false:=not_cc s k hlt (by
         rcases hno with h|⟨_,h⟩|⟨_,_,h⟩
         · exact .inl h
         · exact .inr (fun h'=>by omega)
         · exact .inr (fun _=>h))
        have HTK:=hD (toks_tok_at s k hlt n acc hsp hnp);clear hsp hnp hcc;rcases hno with ha|⟨ha,hk1⟩|⟨hk1,ha,hb⟩
        · have x1:((s[k].toNat:Int) == 47)=false:=by simp[ha]
          clear ha;exact fo9
        · have x1:((s[k].toNat:Int) == 47)=true:=by simp[ha]
          clear ha;exact fo9
        · have x1:((s[k].toNat:Int) == 47)=true:=by simp[ha]
          have x2:((s[k+1].toNat:Int) == 47)=false:=by simp[hb]
          clear ha hb;exact fo9
    · have HTK:=hD (toks_white s k hlt n acc hsp);have HSP:=hD hsp;clear hsp;by_cases hc:(s[k].toNat:Int)=10
      · have x1:((s[k].toNat:Int) == 10)=true:=by simp[hc]
        have HC:=hD hc;clear hc;go_wp2_with (first|(go_at_call 127;refine(zdv _ _).mono ?_;rw[HSP.out];rintro e w' ⟨rfl,rfl⟩));go_roundw
        case rel=>
         exact⟨k+1,n+1,acc,by go_num,by omega,rfl,YB HREL.out (ae _ _) ja jg jg (by rw[HTK.out,af HC.out])⟩
        case measure=>simp[intOf];omega
      · have x1:((s[k].toNat:Int) == 10)=false:=by simp[hc]
        have HC:=hD hc;clear hc;go_wp2_with (first|(go_at_call 127;refine(zdv _ _).mono ?_;rw[HSP.out];rintro e w' ⟨rfl,rfl⟩));go_roundw
        case rel=>
         exact⟨k+1,n,acc,by go_num,by omega,rfl,YB HREL.out (ae _ _) ja jg jg (by rw[HTK.out,aa HC.out])⟩
        case measure=>simp[intOf];omega
  · have HE:Hid (s.data.toList.drop k=[]):=hD (bJ jg);have HF2:=hD (toksR_ok s hs acc (by rw[HF.out,HE.out];rw[toks]));obtain⟨A,c,hv⟩:=ownsRow_form HO.out;subst hv;exact fo190
def hexd(n:Nat):UInt8:=if n<10 then(48+n).toUInt8 else(87+n).toUInt8
def qch(c:UInt8):List UInt8:=
 if(c.toNat:Int)=34∨(c.toNat:Int)=92 then [92,c] else if(c.toNat:Int)=10 then [92,110]
 else if(c.toNat:Int) <32∨126<(c.toNat:Int) then [92,120,hexd (c.toNat / 16),hexd (c.toNat % 16)] else [c]
def qmid(l:List UInt8):List UInt8:=l.flatMap qch
def quote(l:List UInt8):List UInt8:=34::(qmid l++ [34])
theorem qch_len(c:UInt8):(qch c).length≤4:=by
 unfold qch;repeat' split
 all_goals simp
theorem qmid_len(l:List UInt8):(qmid l).length≤4 * l.length:=by
 induction l with
 |nil=>simp[qmid]
 |cons c r ih=>have:=qch_len c;simp only[qmid,aU,aG,au]at ih⊢;omega
theorem take_succ'(s:ByteArray)(k:Nat)(h:k<s.size):s.data.toList.take (k+1)=s.data.toList.take k++ [s[k]]:=by
 rw[bq jao];rfl
theorem qmid_snoc(s:ByteArray)(k:Nat)(h:k<s.size):qmid (s.data.toList.take (k+1))=qmid (s.data.toList.take k)++qch s[k]:=by
 rw[take_succ' s k h];simp[qmid]
theorem size_lit(a b:List UInt8):(ByteArray.mk a.toArray++ByteArray.mk b.toArray).size=a.length+b.length:=by
 rw[zbS];simp[ByteArray.size]
theorem size_4(a b c d:UInt8):(ByteArray.mk #[a,b,c,d]).size=4:=rfl
theorem cat3(a b c d:UInt8):ByteArray.mk #[a,b]++ByteArray.mk #[c]++ByteArray.mk #[d]=ByteArray.mk #[a,b,c,d]:=by
 apply bz;simp
theorem ext1(s:ByteArray)(k:Nat)(h:k<s.size):s.extract k (k+1)=⟨[s[k]].toArray⟩:=by
 apply bz;apply fB.1;rw[dP,drop_at s k h];simp
theorem hex_ext:∀d:Fin 16,(ByteArray.mk #[48,49,50,51,52,53,54,55,56,57,97,98,99,100,101,102]).extract d.val (d.val+1)=⟨[hexd d.val].toArray⟩:=by decide +kernel
theorem and15':∀n:Fin 256,bits BinOp.and IntKind.u8 (n.val:Int) 15=(n.val:Int) % 16:=by decide +kernel
theorem and15(c:UInt8):bits BinOp.and IntKind.u8 (c.toNat:Int) 15=(c.toNat:Int) % 16:=and15' ⟨c.toNat,c.toNat_lt⟩
theorem zcW(d:Nat)(hd:d<16)(W:World):Sem.run prog (Instr.slice 9 (.string ⟨#[48,49,50,51,52,53,54,55,56,57,97,98,99,100,101,102]⟩) (some (.int .u8 d)) (some (.int .u8 ((d:Int)+1))) none) W= .ok (.string ⟨[hexd d].toArray⟩) W:=by
 rw[run_slice_string_if W 9 _ .u8 .u8 _ _ underlying9];rw[af jbe,af ja];rw[show(d:Int).toNat=d from by omega,show((d:Int)+1).toNat=d+1 from by omega];rw[hex_ext ⟨d,hd⟩]
def BSt(w0:World)(l:List UInt8)(w:World):Prop:=Lib.IsBuilder 77 5 w0.heap.size w0.heap.size (Lib.byteCells l) w∧Below w0.heap.size w0 w∧w0.heap.size≤w.heap.size
theorem zdJ(w:World):BSt w [] (w.alloc (.cells #[.pointer none,"s"] 77)):=
 ⟨gN 77 5 w,(ae _ _).alloc (ag _) _,by simp⟩
theorem bst_drewN(h:BSt w0 l w)(n:Nat):BSt w0 l (w.drewN n):=⟨h.1,ed h.2.1 n,h.2.2⟩
theorem zdV(h:BSt w0 l w)(s:ByteArray)(hl:l.length+s.size≤140737488355328) :
    Calls prog 47 #[.pointer (some ⟨w0.heap.size,0,none⟩),s] w fun e w'=>e= .returned (.tuple #[s.size,.nilIface])∧BSt w0 (l++s.data.toList) w':=
 (Tryz.Builder_WriteString _ _ _ s w h.1 jdv h.2.2).mono fun _ _ ⟨he,hI,hb⟩=>
  ⟨he, by have : Lib.byteCells l ++ Lib.strCells s = Lib.byteCells (l ++ s.data.toList) := by simp [Lib.byteCells, Lib.strCells]
          rw[this]at hI;exact .inr hI,h.2.1.trans hb,ah h.2.2 hb.size⟩
theorem zcm(h:BSt w0 l w)(c:Int)(h0:0≤c)(h1:c<256)(hl:l.length+1≤140737488355328) :
    Calls prog 114 #[.pointer (some ⟨w0.heap.size,0,none⟩),.int .u8 c] w fun e w'=>e= .returned .nilIface∧BSt w0 (l++ [c.toNat.toUInt8]) w':=
 (Tryz.Builder_WriteByte _ _ _ c w h.1 jdv h.2.2).mono fun _ _ ⟨he,hI,hb⟩=>
  ⟨he,by rw[byteCells_snoc l c h0 h1]at hI;exact .inr hI,h.2.1.trans hb,ah h.2.2 hb.size⟩
theorem zfF(h:BSt w0 l w) :
    Calls prog 50 #[.pointer (some ⟨w0.heap.size,0,none⟩)] w fun e w'=>e= .returned (.string ⟨l.toArray⟩)∧Below w0.heap.size w0 w':=
 (Tryz.Builder_String_any _ _ l w h.1 h.2.2).mono fun _ _ ⟨he,hb⟩=>⟨he,h.2.1.trans hb⟩
theorem zeM(h:BSt w0 l w)(e:l=l'):BSt w0 l' w:=e▸h
theorem lexQuote_any(s:ByteArray)(w:World)(hs:s.size≤1100000) :
    Calls prog 77 #[s] w fun e w'=>e= .returned (.string ⟨(quote s.data.toList).toArray⟩)∧Below w.heap.size w w':=by
 have H0:=hD (zdJ w);go_in;go_wp2_with fail;refine(zcm H0 _ ja ja jc).mono ?_;rintro e w1 ⟨rfl,h1⟩;have H1:=hD h1;clear h1;go_wp2_with fail;go_loopw [9] (fun i wr=>∃k:Nat,i= .int .i64 k∧k≤s.size∧BSt w (34::qmid (s.data.toList.take k)) wr) (fun i _=>s.size-(intOf i).toNat)
 case atStart=>exact⟨0,rfl,by omega,H1⟩
 case round=>
  obtain⟨k,rfl,hk,hI⟩:=hrel;have HI:=hD hI;clear hI;have hql:=qmid_len (s.data.toList.take k);rw[bN,zU]at hql;by_cases hlt:k<s.size
  · have HS:=hD (qmid_snoc s k hlt);have HE:=hD (ext1 s k hlt);by_cases h34:(s[k].toNat:Int)=34∨(s[k].toNat:Int)=92
    · have HQ : Hid (qch s[k] = [92, s[k]]) := hD (by unfold qch; rw [af h34]); have hc : (((s[k].toNat : Int) == 34) = true) ∨ (((s[k].toNat : Int) == 34) = false ∧ ((s[k].toNat : Int) == 92) = true) := fo177; clear h34; rcases hc with hc | ⟨hc, hc2⟩; all_goals
       go_wp2_with fail;refine(zdV HI _ (by rw[HE.out,size_lit [92] [s[k]]];simp;omega)).mono ?_;rintro e w2 ⟨rfl,h2⟩;have H2:=hD h2;clear h2;go_wp2_with fail;go_roundw
       case rel=>
        refine⟨k+1,by go_num,by omega,zeM H2 ?_⟩;rw[HS.out,HQ.out,HE.out];simp
       case measure=>simp[intOf];omega
    · have c1:((s[k].toNat:Int) == 34)=false:=by rw[aF];omega
      have c2:((s[k].toNat:Int) == 92)=false:=by rw[aF];omega
      by_cases h10:(s[k].toNat:Int)=10
      · have c3:((s[k].toNat:Int) == 10)=true:=by simp[h10]
        have HQ:Hid (qch s[k]=[92,110]):=hD (by unfold qch;rw[aa h34,af h10]);clear h34 h10;go_wp2_with fail;refine(zdV HI _ jbe).mono ?_;exact fo89
      · have c3:((s[k].toNat:Int) == 10)=false:=by rw[aF];exact h10
        by_cases hp:(s[k].toNat:Int) <32∨126<(s[k].toNat:Int)
        · have HQ : Hid (qch s[k] = [92, 120, hexd (s[k].toNat / 16), hexd (s[k].toNat % 16)]) := hD (by unfold qch; rw [aa h34, aa h10, af hp]); have hb := Zq s[k]; clear h34 h10; rcases hp with hp | hp; all_goals
           go_wp2_with fail;have f1:=zcW (s[k].toNat / 16) ja;have f2:=zcW (s[k].toNat % 16) ja;simp only[gL,Int.natCast_emod,Int.cast_ofNat_Int]at f1 f2;have e1:IntKind.u8.wrap ((s[k].toNat:Int) / 16+1)=(s[k].toNat:Int) / 16+1:=ek _ ja;have e2:IntKind.u8.wrap ((s[k].toNat:Int) % 16+1)=(s[k].toNat:Int) % 16+1:=ek _ ja;have e3:=and15 s[k];go_still_tail 14,jb;change wpList _ _ _ _ _ wr.drew;generalize hwd:wr.drew=w2;have HI2:Hid (BSt w (34::qmid (s.data.toList.take k)) w2):=hD (by rw[←hwd];exact bst_drewN HI 1);clear hwd e1 e2 e3 f1 f2;go_wp2_with fail;refine(zdV HI2 _ (by rw[cat3,size_4];simp;omega)).mono ?_;rintro e w3 ⟨rfl,h2⟩;rw[cat3]at h2;have H2:=hD h2;clear h2;go_wp2_with fail;go_roundw
           case rel=>exact fo282
           case measure=>simp[intOf];omega
        · have HQ:Hid (qch s[k]=[s[k]]):=hD (by unfold qch;rw[aa h34,aa h10,aa hp]);have b1:32≤(s[k].toNat:Int):=by omega
          have b2:(s[k].toNat:Int)≤126:=by omega
          clear h34 h10 hp;go_wp2_with fail;refine(zcm HI _ ja (Zq _) jg).mono ?_;exact fo89
  · have HT:Hid (s.data.toList.take k=s.data.toList):=hD (bi jg);go_wp2_with fail;refine(zcm HI _ ja ja jg).mono ?_;rintro e w2 ⟨rfl,h2⟩;have H2:=hD h2;clear h2;go_wp2_with fail;refine(zfF H2).mono ?_;rintro e w3 ⟨rfl,hb⟩;have HB:=hD hb;clear hb;go_wp2_with fail;go_ret;refine⟨?_,HB⟩;rw[HT.out];rfl
theorem zad(l:List UInt8)(b:ByteArray):ByteArray.mk l.toArray++b=ByteArray.mk (l++b.data.toList).toArray:=by
 apply bz;simp
theorem ret_str{a b:List UInt8}(h:a=b):Ending.returned (.string ⟨a.toArray⟩)= .returned (.string ⟨b.toArray⟩):=by rw[h]
theorem refQuote_any(s:ByteArray)(w:World)(hs:s.size≤1100000) :
    Calls prog 80 #[s] w fun e w'=>e= .returned (.string ⟨(quote s.data.toList).toArray⟩)∧Below w.heap.size w w':=by
 go_in;go_wp2_with fail;go_loopw [3,4] (fun o i wr=>∃k:Nat,i= .int .i64 k∧k≤s.size∧o= .string ⟨(34::qmid (s.data.toList.take k)).toArray⟩∧Below w.heap.size w wr) (fun _ i _=>s.size-(intOf i).toNat)
 case atStart=>exact⟨0,rfl,by omega,rfl,ae _ _⟩
 case round=>
  obtain⟨k,rfl,hk,rfl,hb⟩:=hrel;have HB:=hD hb;clear hb;have hql:=qmid_len (s.data.toList.take k);rw[bN,zU]at hql;by_cases hlt:k<s.size
  · have HS:=hD (qmid_snoc s k hlt);have HE:=hD (ext1 s k hlt);by_cases h34:(s[k].toNat:Int)=34∨(s[k].toNat:Int)=92
    · have HQ : Hid (qch s[k] = [92, s[k]]) := hD (by unfold qch; rw [af h34]); have hc : (((s[k].toNat : Int) == 34) = true) ∨ (((s[k].toNat : Int) == 34) = false ∧ ((s[k].toNat : Int) == 92) = true) := fo177; clear h34; rcases hc with hc | ⟨hc, hc2⟩; all_goals
       go_wp2_with fail;go_roundw
       case rel=>
        refine⟨k+1,by go_num,by omega,?_,HB⟩;rw[HS.out,HQ.out,HE.out,zad,zad];simp
       case measure=>simp[intOf];omega
    · have c1:((s[k].toNat:Int) == 34)=false:=by rw[aF];omega
      have c2:((s[k].toNat:Int) == 92)=false:=by rw[aF];omega
      by_cases h10:(s[k].toNat:Int)=10
      · have c3:((s[k].toNat:Int) == 10)=true:=by simp[h10]
        have HQ:Hid (qch s[k]=[92,110]):=hD (by unfold qch;rw[aa h34,af h10]);clear h34 h10;go_wp2_with fail;go_roundw
        case rel=>
         refine⟨k+1,by go_num,by omega,?_,HB⟩;rw[HS.out,HQ.out,zad];simp
        case measure=>simp[intOf];omega
      · have c3:((s[k].toNat:Int) == 10)=false:=by rw[aF];exact h10
        by_cases hp:(s[k].toNat:Int) <32∨126<(s[k].toNat:Int)
        · have HQ : Hid (qch s[k] = [92, 120, hexd (s[k].toNat / 16), hexd (s[k].toNat % 16)]) := hD (by unfold qch; rw [aa h34, aa h10, af hp]); have hb := Zq s[k]; have f1 := zcW (s[k].toNat / 16) (by omega); have f2 := zcW (s[k].toNat % 16) (by omega); simp only [gL, Int.natCast_emod, Int.cast_ofNat_Int] at f1 f2; have e1 : IntKind.u8.wrap ((s[k].toNat : Int) / 16 + 1) = (s[k].toNat : Int) / 16 + 1 := ek _ (by omega); have e2 : IntKind.u8.wrap ((s[k].toNat : Int) % 16 + 1) = (s[k].toNat : Int) % 16 + 1 := ek _ (by omega); have e4 : IntKind.u8.wrap ((s[k].toNat : Int) / 16) = (s[k].toNat : Int) / 16 := ek _ (by omega); have e5 : IntKind.u8.wrap ((s[k].toNat : Int) % 16) = (s[k].toNat : Int) % 16 := ek _ (by omega); have e6 : IntKind.u8.wrap ((s[k].toNat : Int).tdiv 16) = (s[k].toNat : Int) / 16 := IntWalk.u8_quo _ _ (by omega); have e7 : (s[k].toNat : Int).tmod 16 = (s[k].toNat : Int) % 16 := IntWalk.rem_in _ _ (by omega); clear h34 h10; rcases hp with hp | hp; all_goals
           go_wp2_with fail;go_quiet (fail);go_wp2_with fail;go_roundw
           case rel=>
            refine⟨k+1,by go_num,by omega,?_,ed HB _⟩;rw[HS.out,HQ.out,zad,zad,zad];simp
           case measure=>simp[intOf];omega
        · have HQ:Hid (qch s[k]=[s[k]]):=hD (by unfold qch;rw[aa h34,aa h10,aa hp]);have b1:32≤(s[k].toNat:Int):=by omega
          have b2:(s[k].toNat:Int)≤126:=by omega
          clear h34 h10 hp;go_wp2_with fail;go_roundw
          case rel=>
           refine⟨k+1,by go_num,by omega,?_,HB⟩;rw[HS.out,HQ.out,HE.out,zad];simp
          case measure=>simp[intOf];omega
  · have HT:Hid (s.data.toList.take k=s.data.toList):=hD (bi jg);go_wp2_with fail;go_ret;refine⟨?_,HB⟩;rw[zad];exact ret_str (by rw[HT.out];rfl)
