/- The contracts of the reference's Valid, Encode. -/
import Derived.Test.YtepbbaifpckcpaaGreatDoorFFo
import Derived.Test.YtepbbaifpckcpaaGreatDoorFPl
import Derived.Test.YtepbbaifpckcpaaGreatDoorFEc
import Derived.Test.YtepbbaifpckcpaaGreatDoorFEb
namespace Go.Proofs.YtepbbaifpckcpaaGreatDoor.Q40
set_option maxRecDepth 100000
set_option maxHeartbeats 1000000
open Go.Proofs.YtepbbaifpckcpaaGreatDoor
open Go.RowKit
theorem vEn_ways (kind cfg:Int) (rs:List Rq):vEn ⟨kind,cfg,rs⟩=1∨(kind=1∧cfg=0∧8<rs.length∧vEn ⟨kind,cfg,rs⟩=3)∨(kind=1∧cfg=0∧rs.length≤8∧vEn ⟨kind,cfg,rs⟩=vRqs [] rs∧vRqs [] rs≠0)∨vEn ⟨kind,cfg,rs⟩=0:=by
 by_cases h0:vEn ⟨kind,cfg,rs⟩=0
 · exact .inr (.inr (.inr h0))
 · by_cases h1:vEn ⟨kind,cfg,rs⟩=1
   · exact .inl h1
   · right;by_cases k1:kind=1
     · subst k1;rw [YY] at h0 h1⊢;split at h1
       · exact absurd rfl h1
       · rename_i hc;rw [if_neg hc] at h0;have hc0:cfg=0:=by simpa using hc
         split at h1
         · rename_i h8;exact .inl ⟨rfl,hc0,h8,by rw [if_neg hc,if_pos h8]⟩
         · rename_i h8;rw [if_neg h8] at h0;exact .inr (.inl ⟨rfl,hc0,by omega,by rw [if_neg hc,if_neg h8],h0⟩)
     · exfalso;by_cases k2:kind=2
       · subst k2;rw [zcA] at h0 h1;split at h0 <;> simp_all
       · by_cases k3:kind=3
         · subst k3;rw [YR] at h0 h1;split at h0 <;> simp_all
         · exact h1 (zeF kind cfg rs k1 k2 k3)
theorem refValid_big (rs:List Rq) (A:Option Addr) (c:Nat) (w:World) (h8:8<rs.length) (hlen:rs.length≤9223372036854775807) :
    Calls Tryz.prog 151 #[.agg #[.int .i64 1, .int .i64 0, .slice A rs.length c]] w (Zw 3 w):=by
 have B0:=hD (zu (enCells w 1 0 (.slice A rs.length c)));have q:(8:Int) <(rs.length:Int):=by omega
 go_in;go_wp2_with fail;go_ret;exact yz rfl B0.out
theorem refValid_reqs (rs:List Rq) (A:Option Addr) (c:Nat) (w:World) (h:RqIn w A c rs) (h8:rs.length≤8) (hv:vRqs [] rs≠0) :
    Calls Tryz.prog 151 #[.agg #[.int .i64 1, .int .i64 0, .slice A rs.length c]] w (Zw (vRqs [] rs) w):=by
 have B0:=hD (zu (enCells w 1 0 (.slice A rs.length c)));have HQ:=hD (zbs A c rs _ (h.below B0.out));have q:¬(8:Int) <(rs.length:Int):=by omega
 generalize vRqs [] rs=v at HQ hv⊢;have v1:(v == 0)=false:=by simpa using hv
 have v2:(v != 0)=true:=by simpa using hv
 clear h hv;go_in;go_wp2_with fail;refine HQ.out.mono ?_;rintro e w' ⟨rfl,hb⟩;go_wp2_with fail;go_ret;exact yz rfl (bon B0.out hb)
theorem refValid_ok (kind cfg:Int) (rs:List Rq) (A:Option Addr) (c:Nat) (w:World) (h:RqIn w A c rs) (hv:vEn ⟨kind,cfg,rs⟩=0) :
    Calls Tryz.prog 151 #[.agg #[.int .i64 kind, .int .i64 cfg, .slice A rs.length c]] w (Zw 0 w):=by
 have HB0:=hD (enCells w kind cfg (.slice A rs.length c));have hq:=zbs A c rs _ (h.below (zu HB0.out));have HX:Hid (∀W,Bx w [.int .i64 kind, .int .i64 cfg, .slice A rs.length c] 129 W→Calls Tryz.prog 152 #[.agg #[.int .i64 kind, .int .i64 cfg, .slice A rs.length c]] W (zi (valE ⟨kind,cfg,rs⟩) W)):=hD (fun W hW=>Yw kind cfg rs A c W (h.below (zu hW)) hv);have HC:Hid (∀w1,Bx w [.int .i64 kind, .int .i64 cfg, .slice A rs.length c] 129 w1→w1.cell? ⟨w.heap.size,0,none⟩=some (.int .i64 kind)∧w1.cell? ⟨w.heap.size,1,none⟩=some (.int .i64 cfg)∧w1.cell? ⟨w.heap.size,2,none⟩=some (.slice A rs.length c)):=
  hD (fun w1 hb=>⟨ze hb 0 _ rfl,ze hb 1 _ rfl,ze hb 2 _ rfl⟩)
 have hl:=(strs_ok _ hv).2.2.2;generalize valE ⟨kind,cfg,rs⟩=v at HX hl;have hl2:¬(2000:Int) <(v.length:Int):=by omega
 have hways:=vEn_kind _ hv;simp only at hways;rcases hways with⟨rfl,rfl,h3,h4⟩|⟨rfl,h2,h3,rfl⟩|⟨rfl,rfl,rfl⟩
 · have q:¬(8:Int) <(rs.length:Int):=by omega
   have h0:vRqs [] rs=0:=by rw [YY,if_neg jf,if_neg ja] at hv;exact hv
   rw [h0] at hq;have HQ:=hD hq;clear h hv h4 hq h0;exact fo45
 · have HQ:Hid (Calls Tryz.prog 211 #[.slice A 0 c] (w.alloc (.cells #[.int .i64 2, .int .i64 cfg, .slice A 0 c] 129)) (Zw 0 (w.alloc (.cells #[.int .i64 2, .int .i64 cfg, .slice A 0 c] 129)))):=hD hq;have q1:¬cfg<0:=by omega
   have q2:¬6≤cfg:=by omega
   clear h hv hq;simp only [List.length_nil] at HX HC HB0⊢;exact fo45
 · have HQ:Hid (Calls Tryz.prog 211 #[.slice A 0 c] (w.alloc (.cells #[.int .i64 3, .int .i64 0, .slice A 0 c] 129)) (Zw 0 (w.alloc (.cells #[.int .i64 3, .int .i64 0, .slice A 0 c] 129)))):=hD hq;clear h hv hq;simp only [List.length_nil] at HX HC HB0⊢;exact fo45
theorem ZG (kind cfg:Int) (rs:List Rq) (A:Option Addr) (c:Nat) (w:World) (h:RqIn w A c rs) :
    Calls Tryz.prog 151 #[.agg #[.int .i64 kind, .int .i64 cfg, .slice A rs.length c]] w (Zw (vEn ⟨kind,cfg,rs⟩) w):=by
 rcases vEn_ways kind cfg rs with h1|⟨rfl,rfl,h8,h1⟩|⟨rfl,rfl,h8,h1,h2⟩|h1
 · rw [h1];exact refValid_bad kind cfg rs A c w h.few h1
 · rw [h1];exact refValid_big rs A c w h8 h.few
 · rw [h1];exact refValid_reqs rs A c w h h8 h2
 · rw [h1];exact refValid_ok kind cfg rs A c w h h1
set_option maxRecDepth 100000
set_option maxHeartbeats 2000000
open Go.Proofs.YtepbbaifpckcpaaGreatDoor
open Go.RowKit
theorem zfu (s:ByteArray) (h0:0<s.size):s.toList.isEmpty=false:=by
 rw [Lib.toList_data];have hl:=yu s;cases hq:s.data.toList with
 |nil=>simp [hq] at hl;omega
 |cons=>rfl
theorem list_two (s:ByteArray) (h:1<s.size):∃r,s.data.toList=s[0]::s[1]::r:=⟨_,by rw [←List.drop_zero (l:=s.data.toList),drop_at s 0 ja,drop_at s 1 h]⟩
theorem list_one (s:ByteArray) (h:s.size=1):s.data.toList= [s[0]]:=by
 rw [←List.drop_zero (l:=s.data.toList),drop_at s 0 ja,List.drop_eq_nil_of_le jg]
theorem takeR_low (s:ByteArray) (m:Nat) (h:0<s.size) (hc:s[0].toNat<128):yA s.data.toList m=if m<s[0].toNat then(0,0) else(s[0].toNat,1):=by
 rw [←List.drop_zero (l:=s.data.toList),drop_at s 0 h];simp only [yA];rw [if_pos hc]
theorem takeR_short (s:ByteArray) (m:Nat) (h:s.size=1) (hc:¬s[0].toNat<128):yA s.data.toList m=(0,0):=by
 rw [list_one s h];simp only [yA];rw [if_neg hc]
theorem takeR_high (s:ByteArray) (m:Nat) (h:1<s.size) (hc:¬s[0].toNat<128):yA s.data.toList m=if s[1].toNat=0∨128≤s[1].toNat then(0,0) else if m<s[0].toNat- 128+128 * s[1].toNat then(0,0) else(s[0].toNat- 128+128 * s[1].toNat,2):=by
 obtain⟨r,hr⟩:=list_two s h;rw [hr];simp only [yA];rw [if_neg hc]
def RetTake (p:Nat × Nat) (w:World) (e:Ending) (w':World):Prop:=w=w'∧e= .returned (.tuple #[.int .i64 p.1, .int .i64 p.2])
theorem ret_tk {p:Nat × Nat} {w:World} {a b:Nat} (h:p=(a,b)) (x y:Int) (hx:x=(a:Int)) (hy:y=(b:Int)):RetTake p w (.returned (.tuple #[.int .i64 x, .int .i64 y])) w:=by
 subst h hx hy;exact⟨rfl,rfl⟩
theorem zcE (s:ByteArray) (most:Nat) (hm:most<16384) (w:World) (hs:s.size≤70368744177664) :
    Calls Tryz.prog 209 #[.string s, .int .i64 most] w (RetTake (yA s.data.toList most) w):=by
 by_cases h0:s.size=0
 · have hY:yA s.data.toList most=(0,0):=by
     have:s.data.toList= []:=List.eq_nil_of_length_eq_zero jcn;rw [this];rfl
   have he:s=⟨#[]⟩:=by
    apply ByteArray.ext;exact Array.eq_empty_of_size_eq_zero jcn
   have hq0:s.toList.isEmpty=true:=by rw [Lib.toList_data,he];rfl
   have HY:=hD hY;clear hY h0 he;go_in;go_wp2_with fail;go_ret2;exact ret_tk HY.out _ _ rfl rfl
 · have hp:0<s.size:=by omega
   have hq0:s.toList.isEmpty=false:=zfu s hp;have hc:=Zz s[0];by_cases hlow:s[0].toNat<128
   · have HY:=hD (takeR_low s most hp hlow);by_cases hq:most<s[0].toNat
     · have HZ:=hD (HY.out.trans (if_pos hq));clear HY;exact fo71
     · have HZ:=hD (HY.out.trans (if_neg hq));clear HY;go_in;go_wp2_with fail;go_ret2;exact ret_tk HZ.out _ _ (by go_num) rfl
   · by_cases h1:s.size=1
     · have HZ:=hD (takeR_short s most h1 hlow);exact fo71
     · have hp1:1<s.size:=by omega
       have hd:=Zz s[1];have HY:=hD (takeR_high s most hp1 hlow);by_cases hz:s[1].toNat=0
       · have HZ:=hD (HY.out.trans (if_pos (.inl hz)));have hz1:((s[1].toNat:Int) == 0)=true:=by simp;exact hz
         clear HY;exact fo71
       · have hz1:((s[1].toNat:Int) == 0)=false:=by simp;exact hz
         by_cases hb:128≤s[1].toNat
         · have HZ:=hD (HY.out.trans (if_pos (.inr hb)));clear HY;exact fo71
         · have HY2:=hD (HY.out.trans (if_neg ja));clear HY;by_cases hq:most<s[0].toNat- 128+128 * s[1].toNat
           · have HZ:=hD (HY2.out.trans (if_pos hq));clear HY2;have hq1:(most:Int) <(s[0].toNat:Int)- 128+128 *(s[1].toNat:Int):=by omega
             exact fo71
           · have HZ:=hD (HY2.out.trans (if_neg hq));clear HY2;have hq1:¬(most:Int) <(s[0].toNat:Int)- 128+128 *(s[1].toNat:Int):=by omega
             have hq2:((s[0].toNat- 128+128 * s[1].toNat:Nat):Int)=(s[0].toNat:Int)- 128+128 *(s[1].toNat:Int):=by omega
             go_in;go_wp2_with fail;go_ret2;exact ret_tk HZ.out _ _ ja rfl
/-! number -/
theorem zdL (c:UInt8):isDg c=true↔48≤c.toNat∧c.toNat≤57:=by simp [isDg]
theorem numR_bad (l:List UInt8) (k:Nat) (h:k<l.length) (hd:¬isDg l[k]=true):numR l=-1:=by
 unfold numR;rw [if_neg];rintro⟨_,h2,_⟩;exact hd (List.all_eq_true.1 h2 _ (List.getElem_mem h))
theorem numR_long (l:List UInt8) (h:7<l.length):numR l=-1:=by
 unfold numR;rw [if_neg];rintro⟨h1,_⟩;omega
theorem numR_nil:numR []=-1:=by
 unfold numR;rw [if_neg];rintro⟨_,_,h3,_⟩;exact h3 rfl
theorem numR_end (l:List UInt8) (h:l.length≤7) (ha:l.all isDg=true) (hn:l≠ []):numR l=if Lib.decDigits (valD l)=l then(valD l:Int) else -1:=by
 unfold numR;by_cases hq:Lib.decDigits (valD l)=l
 · rw [if_pos hq,if_pos ⟨h,ha,hn,hq⟩]
 · rw [if_neg hq,if_neg (fun x=>hq x.2.2.2)]
theorem fold_lt (l:List UInt8):∀a:Nat,l.all isDg=true→l.foldl (fun a c=>10 * a+(c.toNat- 48)) a<(a+1) * 10 ^ l.length:=by
 induction l with
 |nil=>intro a _;simp
 |cons c t ih=>
  intro a h;simp only [List.all_cons,Bool.and_eq_true] at h;have h3:=(zdL c).1 h.1;have h1:=ih (10 * a+(c.toNat- 48)) h.2;have h2:(10 * a+(c.toNat- 48)+1) * 10 ^ t.length≤(10 *(a+1)) * 10 ^ t.length:=Nat.mul_le_mul_right _ ja;rw [List.foldl_cons,List.length_cons,Nat.pow_succ,Nat.mul_comm (10 ^ t.length) 10,←Nat.mul_assoc,Nat.mul_comm (a+1) 10];omega
theorem valD_lt (l:List UInt8) (h:l.all isDg=true):valD l<10 ^ l.length:=by
 have:=fold_lt l 0 h;simpa [valD] using this
theorem take_snoc (s:ByteArray) (k:Nat) (h:k<s.size):s.data.toList.take (k+1)=s.data.toList.take k++ [s[k]]:=by
 have:=List.take_succ_eq_append_getElem (l:=s.data.toList) (i:=k) jac;exact this
theorem ZP (s:ByteArray) (w:World) (hs:s.size≤70368744177664) :
    Calls Tryz.prog 150 #[.string s] w (Zw (numR s.data.toList) w):=by
 go_in;go_wp2_with fail;go_loop [3,4] (fun n i=>∃(k v:Nat),i= .int .i64 k∧k≤s.size∧n= .int .i64 v∧v=valD (s.data.toList.take k)∧k≤7∧(s.data.toList.take k).all isDg=true∧v<10000000) (fun _ i=>s.size-(intOf i).toNat)
 case atStart=>exact⟨0,0,rfl,by omega,rfl,by simp [valD],by omega,by simp,by omega⟩
 case round=>
  obtain⟨k,v,rfl,hk,rfl,hv,h7,ha,hvl⟩:=hrel;have HV:=hD hv;have HA:=hD ha;clear hv ha;by_cases hlt:k<s.size
  · have hc:=Zz s[k];have hkl:k<s.data.toList.length:=by simpa using hlt
    have hge:s.data.toList[k]=s[k]:=by simp;rfl
    have HBad:Hid (¬isDg s[k]=true→numR s.data.toList=-1):=hD (fun h=>numR_bad _ k hkl (by rw [hge];exact h));have HLong:Hid (7<s.size→numR s.data.toList=-1):=hD (fun h=>numR_long _ jac);clear hge;by_cases h48:s[k].toNat<48
    · have HY:=hD (HBad.out (fun h=>by have:=(zdL _).1 h;omega));exact fo108
    · by_cases h57:57<s[k].toNat
      · have HY:=hD (HBad.out (fun h=>by have:=(zdL _).1 h;omega));exact fo108
      · by_cases h6:6<k
        · have HY:=hD (HLong.out ja);exact fo108
        · have HS:=hD (take_snoc s k hlt);have HD:Hid (isDg s[k]=true):=hD ((zdL _).2 ⟨by omega,by omega⟩);have HAll:Hid ((s.data.toList.take (k+1)).all isDg=true):=hD (by rw [HS.out,List.all_append,HA.out];simp [HD.out]);have HVal:Hid (10 * v+(s[k].toNat- 48)=valD (s.data.toList.take (k+1))):=hD (by rw [HS.out,valD_snoc,HV.out]);have hlt7:10 * v+(s[k].toNat- 48) <10000000:=by
           have h1:=valD_lt _ HAll.out;rw [←HVal.out,List.length_take,yu] at h1;have h2:10 ^(min (k+1) s.size)≤10 ^ 7:=Nat.pow_le_pow_right ja ja;omega
          go_wp2_with fail;go_round
          case rel=>exact⟨k+1,10 * v+(s[k].toNat- 48),by go_num,by omega,by go_num,HVal.out,by omega,HAll.out,hlt7⟩
          case measure=>simp [intOf];omega
  · have hks:k=s.size:=by omega
    subst hks;have HV2:Hid (v=valD s.data.toList):=hD (by rw [HV.out,List.take_of_length_le jd]);have HA2:Hid (s.data.toList.all isDg=true):=hD (by have:=HA.out;rwa [List.take_of_length_le jd] at this);clear HV HA;by_cases h0:s.size=0
    · have hnil:s.data.toList= []:=List.eq_nil_of_length_eq_zero jcn;have HY:Hid (numR s.data.toList=-1):=hD (by rw [hnil];exact numR_nil);have he:s=⟨#[]⟩:=by
       apply ByteArray.ext;exact Array.eq_empty_of_size_eq_zero jcn
      have hq0:s.toList.isEmpty=true:=by rw [Lib.toList_data,hnil];rfl
      clear hnil h0 HV2 HA2 he;exact fo108
    · have hq0:s.toList.isEmpty=false:=zfu s ja;have HY:=hD (numR_end s.data.toList (by simpa using h7) HA2.out (by intro h;have:=congrArg List.length h;rw [yu] at this;exact h0 this));have HD:=hD (zdf (v:Int) ja ja w);have HI:Hid (Lib.itoa (v:Int)=Lib.decDigits v):=hD (by first|rfl|simp [Lib.itoa]);rw [HI.out] at HD;by_cases hq:Lib.decDigits v=s.data.toList
      · have HZ:Hid (numR s.data.toList=v):=hD (by rw [HY.out,←HV2.out,if_pos hq]);have hq1:(s.data.toList == s.toList)=true:=by rw [Lib.toList_data];simp
        rw [hq] at HD;exact fo119
      · have HZ:Hid (numR s.data.toList=-1):=hD (by rw [HY.out,←HV2.out,if_neg hq]);have hq1:(Lib.decDigits v == s.toList)=false:=by rw [Lib.toList_data];simpa using hq
        have hq3:(Lib.decDigits v != s.toList)=true:=by rw [Lib.toList_data];simpa using hq
        exact fo119
set_option maxRecDepth 100000
set_option maxHeartbeats 4000000
open Go.Proofs.YtepbbaifpckcpaaGreatDoor
open Go.RowKit
def RetRS (o:Option (List (List UInt8))) (w:World) (e:Ending) (w':World):Prop:=Below w.heap.size w w'∧match o with
 |some xs=>∃A c,e= .returned (.tuple #[.slice A xs.length c, .bool true])∧Rd w' 1 A xs.length (strC xs)∧xs.length≤c∧c≤9223372036854775807
 |none=>∃A n c,e= .returned (.tuple #[.slice A n c, .bool false])
theorem zbY {o:Option (List (List UInt8))} {w w':World} (h:o=none) (A:Option Addr) (n c:Nat) (hb:Below w.heap.size w w'):RetRS o w (.returned (.tuple #[.slice A n c, .bool false])) w':=by
 subst h;exact⟨hb,A,n,c,rfl⟩
theorem ret_rs_some {o:Option (List (List UInt8))} {w w':World} {xs:List (List UInt8)} {n:Nat} {A:Option Addr} {c:Nat} (h:o=some xs) (hn:n=xs.length) (hr:Rd w' 1 A n (strC xs)) (hc:n≤c) (hm:c≤9223372036854775807) (hb:Below w.heap.size w w'):RetRS o w (.returned (.tuple #[.slice A n c, .bool true])) w':=by
 subst h hn;exact⟨hb,A,c,rfl,hr,hc,hm⟩
theorem take_is (s:ByteArray) (most:Nat) (hm:most<16384) (w:World) (hs:s.size≤70368744177664) (a b:Nat) (h:yA s.data.toList most=(a,b)) :
    Calls Tryz.prog 209 #[.string s, .int .i64 most] w fun e w'=>w=w'∧e= .returned (.tuple #[.int .i64 a, .int .i64 b]):=
 (zcE s most hm w hs).mono fun _ _ ⟨x,y⟩=>by rw [h] at y;exact⟨x,y⟩
theorem Yj (s:ByteArray) (w:World) (hs:s.size≤1099511627776) :
    Calls Tryz.prog 149 #[.string s] w (RetRS (yN s.data.toList) w):=by
 obtain⟨n,k,ht⟩:∃n k,yA s.data.toList 25=(n,k):=⟨_,_,rfl⟩;have HG:=hD (take_is s 25 ja w ja n k ht);have hle:=zdG s.data.toList 25;rw [ht,yu] at hle;obtain⟨k2,n2⟩:=hle;simp only [] at k2 n2;by_cases hk0:k=0
 · have HR:Hid (yN s.data.toList=none):=hD (by unfold yN;rw [ht,if_pos hk0]);subst hk0;clear ht;go_in;go_wp2_with fail;refine HG.out.mono ?_;rintro e w' ⟨rfl,rfl⟩;go_wp2_with fail;go_ret2;exact zbY HR.out _ _ _ (Below.refl _ _)
 · have HL:Hid (yN s.data.toList=match zbG n (s.data.toList.drop k) with
     |none=>none
     |some (xs,m)=>if k+m=s.size then some xs else none):=hD (by unfold yN;rw [ht,if_neg hk0,yu];rfl)
   have hk1:((k:Int) == 0)=false:=by rw [beq_eq_false_iff_ne];omega
   obtain⟨i0,hi,hz0,hz1,hz2⟩:=info_parts zdx;have HI:=hD hi;have HZ0:=hD hz0;have HZ1:=hD hz1;have HZ2:=hD hz2;clear hi hz0 hz1 hz2 ht;go_in;go_wp2_with fail;refine HG.out.mono ?_;rintro e w' ⟨rfl,rfl⟩;go_wp2_with fail;go_loopw [5,6,7] (fun a o i wr=>∃(j p:Nat) (xs:List (List UInt8)),i= .int .i64 j∧j≤n∧a= .int .i64 p∧p≤s.size∧xs.length=j∧wr.ownsRow w.heap.size 9 1 o j (strC xs)∧Below w.heap.size w wr∧w.heap.size≤wr.heap.size∧
    yN s.data.toList=(match zbG (n- j) (s.data.toList.drop p) with
    |none=>none
    |some (ys,m)=>if p+m=s.size then some (xs++ys) else none)) (fun _ _ i _=>n-(intOf i).toNat)
   case atStart=>exact⟨0,k, [],rfl,by omega,rfl,k2,rfl,World.ownsRow_nil _ _ _ _,Below.refl _ _,Nat.le_refl _,by rw [HL.out];simp⟩
   case round=>
    obtain⟨j,p,xs,rfl,hj,rfl,hp,hxs,hown,hb,hge,hL⟩:=hrel;have HO:=hD hown;have HB:=hD hb;have HX:=hD hxs;have HE:=hD hL;clear hown hb hxs hL;by_cases hlt:j<n
    · have hj':(j:Int) <(n:Int):=by omega
      have hsl:(s.extract p s.size).size=s.size- p:=by simp
      have HD:=hD (zeX s p hp);have hmany:n- j=(n-(j+1))+1:=by omega
      obtain⟨a,z,ht⟩:∃a z,yA (s.data.toList.drop p) 200=(a,z):=⟨_,_,rfl⟩;have HG1:=hD (take_is (s.extract p s.size) 200 ja wr ja a z (by rw [HD.out];exact ht));have hle:=zdG (s.data.toList.drop p) 200;rw [ht,List.length_drop,yu] at hle;obtain⟨z2,a2⟩:=hle;simp only [] at z2 a2;by_cases hz0:z=0
      · have HR:Hid (yN s.data.toList=none):=hD (by rw [HE.out,hmany,zbG,ht,if_pos (.inl hz0)]);subst hz0;exact fo80
      · have hz1:((z:Int) == 0)=false:=by rw [beq_eq_false_iff_ne];omega
        by_cases hbig:s.size<p+z+a
        · have HR:Hid (yN s.data.toList=none):=hD (by rw [HE.out,hmany,zbG,ht,if_pos (.inr (by rw [List.length_drop,yu];simp only [];omega))]);have hb1:(s.size:Int) <(p:Int)+(z:Int)+(a:Int):=by omega
          exact fo80
        · have HR:Hid (yN s.data.toList=(match zbG (n-(j+1)) (s.data.toList.drop (p+z+a)) with
            |none=>none
            |some (ys,m)=>if p+z+a+m=s.size then some (xs++ [((s.data.toList.drop p).drop z).take a]++ys) else none)):=hD (by
             rw [HE.out,hmany,zbG,ht];simp only [];rw [if_neg (by rw [List.length_drop,yu];omega),List.drop_drop,Nat.add_assoc p z a];cases zbG (n-(j+1)) (s.data.toList.drop (p+(z+a))) with
             |none=>rfl
             |some y=>obtain⟨ys,m⟩:=y;simp [Nat.add_assoc])
          have HX2:Hid (s.extract (p+z) (p+z+a)=⟨(((s.data.toList.drop p).drop z).take a).toArray⟩):=hD (by rw [ext_mid,List.drop_drop,show p+z+a-(p+z)=a from by omega]);have hb1:¬(s.size:Int) <(p:Int)+(z:Int)+(a:Int):=by omega
          clear hsl hmany ht;generalize ((s.data.toList.drop p).drop z).take a=x at HR HX2;go_wp2_with fail;refine HG1.out.mono ?_;rintro e w' ⟨rfl,rfl⟩;go_wp2_with (at_builtin;rw [HX2.out];refine wpList_append_own _ rfl _ _ 32 rfl w.heap.size 9 i0 _ 1 16 Tryz.underlying32 HI.out HZ0.out HZ1.out HZ2.out rfl jf _ _ _ rfl (HO.out.alloc _) ⟨wr.heap.size,0,none⟩ 1 1 [.string ⟨x.toArray⟩] rfl rfl (z8 _ _ _ _ rfl) jv jw ja jg ?_);intro v' w2 hown' hgrow _;have HO2:=hD hown';have HG2:=hD hgrow;clear hown' hgrow;go_wp2_with fail;go_roundw
          case rel=>
           refine⟨j+1,p+z+a,xs++ [x],by go_num,by omega,by go_num,by omega,by simp [HX.out], ?_,below_grown (HB.out.alloc hge _) jg HG2.out (fun g hg=>(HO.out.lt g hg).1), ?_,HR.out⟩
           · rw [Y1];exact HO2.out
           · have:=HG2.out.size;simp at this;omega
          case measure=>simp [intOf];omega
    · have hjn:j=n:=by omega
      obtain⟨A,c,hv⟩:=ownsRow_form HO.out;subst hv;have hj':¬(j:Int) <(n:Int):=by omega
      by_cases hps:p=s.size
      · have HR:Hid (yN s.data.toList=some xs):=hD (by rw [HE.out,hjn,Nat.sub_self,zbG];simp [hps]);have hps1:((p:Int) ==(s.size:Int))=true:=by rw [beq_iff_eq];omega
        clear hjn;go_wp2_with fail;go_ret2;exact ret_rs_some HR.out HX.out.symm (Rd.own HO.out) (zbQ HO.out) (own_max HO.out) HB.out
      · have HR:Hid (yN s.data.toList=none):=hD (by rw [HE.out,hjn,Nat.sub_self,zbG];simp [hps]);have hps1:((p:Int) ==(s.size:Int))=false:=by rw [beq_eq_false_iff_ne];omega
        clear hjn;go_wp2_with fail;go_ret2;exact zbY HR.out _ _ _ HB.out
end Go.Proofs.YtepbbaifpckcpaaGreatDoor.Q40
