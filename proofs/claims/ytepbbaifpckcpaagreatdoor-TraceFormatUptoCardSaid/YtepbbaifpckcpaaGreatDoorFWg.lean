/- The contracts of wire's readers: Get, GetString, GetList. -/
import Derived.Laws.Bits64b
import Derived.Lib.BitFns
import Derived.Test.YtepbbaifpckcpaaGreatDoorFFo
import Derived.Test.YtepbbaifpckcpaaGreatDoorFPl
import Derived.Test.YtepbbaifpckcpaaGreatDoorFWa
namespace Go.Proofs.YtepbbaifpckcpaaGreatDoor
set_option maxRecDepth 100000
set_option maxHeartbeats 2000000
open Go.RowKit
theorem and127':∀n:Fin 256,bits BinOp.and IntKind.u8 (n.val:Int) 127=(n.val:Int) % 128:=by decide +kernel
theorem and127 (n:Nat) (h:n<256):bits BinOp.and IntKind.u8 (n:Int) 127=((n % 128:Nat):Int):=by
 rw [and127' ⟨n,h⟩];rfl
theorem len_test':∀(c:Fin 128) (k:Fin 10),decide (64<Lib.bitLen c.val+7 * k.val)=decide (18446744073709551616≤c.val * 128 ^ k.val):=by decide +kernel
theorem len_test (c k:Nat) (hc:c<128) (hk:k≤9):64<Lib.bitLen c+7 * k↔18446744073709551616≤c * 128 ^ k:=by
 have:=len_test' ⟨c,hc⟩ ⟨k,by omega⟩;simpa using this
theorem bitLen_le':∀c:Fin 128,Lib.bitLen c.val≤7:=by decide +kernel
theorem or_shift (a c k:Nat) (ha:a<128 ^ k) (hb:a+c * 128 ^ k<18446744073709551616) :
    bits BinOp.or IntKind.u64 (a:Int) (IntKind.u64.wrap (IntKind.u64.wrap (c:Int) * 2 ^(7 * k)))=((a+c * 128 ^ k:Nat):Int):=by
 have e:(128:Nat) ^ k=2 ^(7 * k):=by rw [Nat.pow_mul]
 have hp:1≤128 ^ k:=Nat.pow_pos ja;have hc:c≤c * 128 ^ k:=Nat.le_mul_of_pos_right c hp;have h1:IntKind.u64.wrap (c:Int)=(c:Int):=by rw [IntKind.wrap_u64];omega
 have h2:(c:Int) * 2 ^(7 * k)=((c * 128 ^ k:Nat):Int):=by rw [e];simp
 have h3:IntKind.u64.wrap ((c * 128 ^ k:Nat):Int)=((c * 128 ^ k:Nat):Int):=by rw [IntKind.wrap_u64];omega
 rw [h1,h2,h3,bits_or_u64_nat _ _ ja ja];congr 1;rw [Nat.or_comm,e,←Nat.shiftLeft_eq,←Nat.shiftLeft_add_eq_or_of_lt (by rw [←e];exact ha),Nat.add_comm]
theorem or_shift' (a c k:Nat) (ha:a<128 ^ k) (hb:a+c * 128 ^ k<18446744073709551616) :
    bits BinOp.or IntKind.u64 (a:Int) (IntKind.u64.wrap ((c:Int) * 2 ^(7 * k)))=((a+c * 128 ^ k:Nat):Int):=by
 have hp:1≤128 ^ k:=Nat.pow_pos ja;have hc:c≤c * 128 ^ k:=Nat.le_mul_of_pos_right c hp;have h1:IntKind.u64.wrap (c:Int)=(c:Int):=by rw [IntKind.wrap_u64];omega
 have:=or_shift a c k ha hb;rwa [h1] at this
theorem zcC (s:ByteArray) (k a:Nat) (h:k<s.size) (hk:k≤9):Yh (10- k) k a (s.data.toList.drop k) =
    if 128≤s[k].toNat then Yh (10-(k+1)) (k+1) (a+(s[k].toNat- 128) * 128 ^ k) (s.data.toList.drop (k+1))
    else if 18446744073709551616≤s[k].toNat * 128 ^ k then none else if s[k].toNat=0∧0<k then none else some (a+s[k].toNat * 128 ^ k,k+1):=by
 rw [drop_at s k h,show 10- k=(10-(k+1))+1 from by omega,Yh]
theorem getVAt_end (s:ByteArray) (k a:Nat) (h:k=s.size∨k=10):Yh (10- k) k a (s.data.toList.drop k)=none:=by
 rcases h with rfl|rfl
 · rw [List.drop_eq_nil_of_le jd];cases 10- s.size <;> rfl
 · rfl
def RetV (l:List UInt8) (w:World) (e:Ending) (w':World):Prop:=w=w'∧match getV l with
 |some (n,k)=>e= .returned (.tuple #[.int .u64 n, .int .i64 k, .int .i64 0])
 |none=>∃c:Int,c≠0∧e= .returned (.tuple #[.int .u64 0, .int .i64 0, .int .i64 c])
theorem zfL {l:List UInt8} {w:World} (h:getV l=none) (c:Int) (hc:c≠0):RetV l w (.returned (.tuple #[.int .u64 0, .int .i64 0, .int .i64 c])) w:=by
 refine⟨rfl, ?_⟩;rw [h];exact⟨c,hc,rfl⟩
theorem ret_v_some {l:List UInt8} {w:World} {n k:Nat} {x y:Int} (h:getV l=some (n,k)) (hx:x=(n:Int)) (hy:Value.int .i64 y= .int .i64 (k:Int)):RetV l w (.returned (.tuple #[.int .u64 x, .int .i64 y, .int .i64 0])) w:=by
 refine⟨rfl, ?_⟩;rw [h,hx,hy]
theorem get_any (s:ByteArray) (w:World) (hs:s.size≤70368744177664) :
    Calls Tryz.prog 245 #[.string s] w (RetV s.data.toList w):=by
 obtain⟨m,hm⟩:∃m:Nat,m=min s.size 10:=⟨_,rfl⟩;have hmm:min (s.size:Int) 10=(m:Int):=by omega
 have m1:m≤10:=by omega
 have m2:m≤s.size:=by omega
 have HM:Hid (m<10→m=s.size):=hD ja;clear hm;go_in;go_wp2_with fail;clear hmm;go_loop [5,11] (fun n i=>∃(k a:Nat) (v:Int),i= .int .i64 k∧k≤m∧n= .int .u64 v∧(k≤9→v=a)∧a<128 ^ k∧getV s.data.toList=Yh (10- k) k a (s.data.toList.drop k)) (fun _ i=>m-(intOf i).toNat)
 case atStart=>exact⟨0,0,0,rfl,by omega,rfl,fun _=>rfl,by omega,rfl⟩
 case round=>
  obtain⟨k,a,v,rfl,hk,rfl,hv,ha,hg⟩:=hrel;have HG:=hD hg;clear hg;by_cases hlt:k<m
  · have hks:k<s.size:=by omega
    obtain rfl:v=a:=hv ja;clear hv;have hc:=Zz s[k];by_cases hb:128≤s[k].toNat
    · go_wp2_with fail;go_round
      case rel=>
       have hpow:128 ^(k+1)=128 ^ k * 128:=Nat.pow_succ 128 k;have hmul:(s[k].toNat- 128) * 128 ^ k≤127 * 128 ^ k:=Nat.mul_le_mul_right _ ja;refine⟨k+1,a+(s[k].toNat- 128) * 128 ^ k,_,by go_num,by omega,rfl,fun h9=> ?_,by omega, ?_⟩
       · have h8:128 ^(k+1)≤128 ^ 9:=Nat.pow_le_pow_right ja h9;rw [and127 _ hc,show s[k].toNat % 128=s[k].toNat- 128 from by omega];exact or_shift a _ k ha ja
       · rw [HG.out,zcC s k a hks ja,if_pos hb]
      case measure=>simp [intOf];omega
    · have hbl:=bitLen_le' ⟨s[k].toNat,by omega⟩;simp only [] at hbl;have HT:=hD (len_test s[k].toNat k ja ja);by_cases hq:64<Lib.bitLen s[k].toNat+7 * k
      · have hr:getV s.data.toList=none:=by rw [HG.out,zcC s k a hks ja,if_neg hb,if_pos (HT.out.1 hq)]
        have HR:=hD hr;clear hr;have hq':(64:Int) <(Lib.bitLen s[k].toNat:Int)+7 *(k:Int):=by omega
        exact fo112
      · have hq':¬(64:Int) <(Lib.bitLen s[k].toNat:Int)+7 *(k:Int):=by omega
        have hlt2:=fun h=>hq (HT.out.2 h)
        by_cases hz:s[k].toNat=0∧0<k
        · have hr:getV s.data.toList=none:=by rw [HG.out,zcC s k a hks ja,if_neg hb,if_neg hlt2,if_pos hz]
          have HR:=hD hr;have hz1:((s[k].toNat:Int) == 0)=true:=by simp;exact hz.1
          have hz2:(0:Int) <(k:Int):=by omega
          clear hr hlt2 hz;exact fo112
        · have hr:getV s.data.toList=some (a+s[k].toNat * 128 ^ k,k+1):=by rw [HG.out,zcC s k a hks ja,if_neg hb,if_neg hlt2,if_neg hz]
          have HR:=hD hr;have HO:=hD (or_shift' a s[k].toNat k ha (step_fit a _ k ja ja ha hlt2));clear hr hlt2;have hz1:((s[k].toNat:Int) == 0)=false∨(((s[k].toNat:Int) == 0)=true∧¬(0:Int) <(k:Int)):=by
           by_cases h0:s[k].toNat=0
           · right;constructor
             · simp;exact h0
             · omega
           · left;simp;exact h0
          clear hz;rcases hz1 with hz1|⟨hz1,hz2⟩;all_goals
           go_wp2_with (go_at_call 270;refine(Tryz.bits_Len8 _ _ ja ja).mono ?_;rintro e w' ⟨rfl,rfl⟩);go_ret3;exact ret_v_some HR.out (HO.out) (by go_num)
  · have hr:getV s.data.toList=none:=by
      rw [HG.out];exact getVAt_end s k a (by
       have:=HM.out;omega)
    have HR:=hD hr;clear hr;go_wp2_with fail;all_goals
     go_ret3;exact zfL HR.out _ jf
def RetS (l:List UInt8) (w:World) (e:Ending) (w':World):Prop:=w=w'∧match yJ l with
 |some (x,k)=>e= .returned (.tuple #[.string ⟨x.toArray⟩, .int .i64 k, .int .i64 0])
 |none=>∃c:Int,c≠0∧e= .returned (.tuple #[.string ⟨#[]⟩, .int .i64 0, .int .i64 c])
theorem zfH {l:List UInt8} {w:World} (h:yJ l=none) (c:Int) (hc:c≠0):RetS l w (.returned (.tuple #[.string ⟨#[]⟩, .int .i64 0, .int .i64 c])) w:=by
 refine⟨rfl, ?_⟩;rw [h];exact⟨c,hc,rfl⟩
theorem ret_s_some {l x:List UInt8} {w:World} {k:Nat} {y:Int} {z:ByteArray} (h:yJ l=some (x,k)) (hx:z=⟨x.toArray⟩) (hy:Value.int .i64 y= .int .i64 (k:Int)):RetS l w (.returned (.tuple #[.string z, .int .i64 y, .int .i64 0])) w:=by
 refine⟨rfl, ?_⟩;rw [h,hx,hy]
theorem zcu (s:ByteArray) (w:World) (hs:s.size≤70368744177664) (h:getV s.data.toList=none) :
    Calls Tryz.prog 245 #[.string s] w fun e w'=>w=w'∧∃c:Int,c≠0∧e= .returned (.tuple #[.int .u64 0, .int .i64 0, .int .i64 c]):=
 (get_any s w hs).mono fun _ _ ⟨hw,he⟩=>by rw [h] at he;exact⟨hw,he⟩
theorem zch (s:ByteArray) (w:World) (hs:s.size≤70368744177664) (n k:Nat) (h:getV s.data.toList=some (n,k)) :
    Calls Tryz.prog 245 #[.string s] w fun e w'=>w=w'∧e= .returned (.tuple #[.int .u64 n, .int .i64 k, .int .i64 0]):=
 (get_any s w hs).mono fun _ _ ⟨hw,he⟩=>by rw [h] at he;exact⟨hw,he⟩
theorem zec {l:List UInt8} {n k:Nat} (h:getV l=some (n,k)):n<18446744073709551616:=zeZ 10 0 0 l n k ja ja h
theorem zcL (s:ByteArray) (w:World) (hs:s.size≤70368744177664) :
    Calls Tryz.prog 204 #[.string s] w (RetS s.data.toList w):=by
 cases hv:getV s.data.toList with
 |none=>
  have HG:=hD (zcu s w hs hv);have HR:Hid (yJ s.data.toList=none):=hD (by unfold yJ;rw [hv]);clear hv;go_in;go_wp2_with fail;refine HG.out.mono ?_;rintro e w' ⟨rfl,c,hc,rfl⟩;have hc1:(c == 0)=false:=by simpa using hc
  have hc2:(c != 0)=true:=by simpa using hc
  go_wp2_with fail;go_ret3;exact zfH HR.out c hc
 |some x=>
  obtain⟨n,k⟩:=x;have HG:=hD (zch s w hs n k hv);have hle:=za5 hv;rw [yu] at hle;have hn:=zec hv;obtain⟨k0,k1,k2⟩:=hle;by_cases hq:s.size- k<n
  · have HR:Hid (yJ s.data.toList=none):=hD (by unfold yJ;rw [hv];simp only [];rw [yu,if_pos hq]);clear hv;have hq':(s.size:Int)-(k:Int) <(n:Int):=by omega
    go_in;go_wp2_with fail;refine HG.out.mono ?_;rintro e w' ⟨rfl,rfl⟩;go_wp2_with fail;go_ret3;exact zfH HR.out 9 jf
  · have HR:Hid (yJ s.data.toList=some ((s.data.toList.drop k).take n,k+n)):=hD (by unfold yJ;rw [hv];simp only [];rw [yu,if_neg hq]);clear hv;have hq':¬(s.size:Int)-(k:Int) <(n:Int):=by omega
    have hn2:n≤70368744177664:=by omega
    have HX:=hD (ext_mid s k (k+n));go_in;go_wp2_with fail;refine HG.out.mono ?_;rintro e w' ⟨rfl,rfl⟩;go_wp2_with fail;go_ret3;exact ret_s_some HR.out (by rw [HX.out,show k+n- k=n from by omega]) (by go_num)
set_option maxRecDepth 100000
set_option maxHeartbeats 4000000
open Go.RowKit
def RetL (l:List UInt8) (w:World) (e:Ending) (w':World):Prop:=Below w.heap.size w w'∧match zK l with
 |some (xs,k)=>∃A c,e= .returned (.tuple #[.slice A xs.length c, .int .i64 k, .int .i64 0])∧Rd w' 1 A xs.length (strC xs)∧xs.length≤c
 |none=>∃c:Int,c≠0∧e= .returned (.tuple #[.slice none 0 0, .int .i64 0, .int .i64 c])
theorem zdb {l:List UInt8} {w w':World} (h:zK l=none) (c:Int) (hc:c≠0) (hb:Below w.heap.size w w'):RetL l w (.returned (.tuple #[.slice none 0 0, .int .i64 0, .int .i64 c])) w':=by
 refine⟨hb, ?_⟩;rw [h];exact⟨c,hc,rfl⟩
theorem zfx {l:List UInt8} {w w':World} {xs:List (List UInt8)} {k n:Nat} {A:Option Addr} {c:Nat} (h:zK l=some (xs,k)) (hn:n=xs.length) (hr:Rd w' 1 A n (strC xs)) (hc:n≤c) (hb:Below w.heap.size w w'):RetL l w (.returned (.tuple #[.slice A n c, .int .i64 k, .int .i64 0])) w':=by
 refine⟨hb, ?_⟩;rw [h];subst hn;exact⟨A,c,rfl,hr,hc⟩
theorem zcm (s:ByteArray) (w:World) (hs:s.size≤70368744177664) (h:yJ s.data.toList=none) :
    Calls Tryz.prog 204 #[.string s] w fun e w'=>w=w'∧∃c:Int,c≠0∧e= .returned (.tuple #[.string ⟨#[]⟩, .int .i64 0, .int .i64 c]):=
 (zcL s w hs).mono fun _ _ ⟨hw,he⟩=>by rw [h] at he;exact⟨hw,he⟩
theorem zeE (s:ByteArray) (w:World) (hs:s.size≤70368744177664) (x:List UInt8) (k:Nat) (h:yJ s.data.toList=some (x,k)) :
    Calls Tryz.prog 204 #[.string s] w fun e w'=>w=w'∧e= .returned (.tuple #[.string ⟨x.toArray⟩, .int .i64 k, .int .i64 0]):=
 (zcL s w hs).mono fun _ _ ⟨hw,he⟩=>by rw [h] at he;exact⟨hw,he⟩
theorem zbQ {w:World} {base e k n:Nat} {A:Option Addr} {c:Nat} {xs:List Value} (h:w.ownsRow base e k (.slice A n c) n xs):n≤c:=by
 rcases h.2 with⟨h1,h2⟩|⟨g,cap,cur,hv,_,_,hrest⟩
 · omega
 · injection hv with _ _ h3;subst h3;omega
theorem zeX (s:ByteArray) (k:Nat) (_h:k≤s.size):(s.extract k s.size).data.toList=s.data.toList.drop k:=by
 rw [Lib.extract_data,List.take_of_length_le jd]
theorem listStr_any (s:ByteArray) (w:World) (hs:s.size≤1099511627776) :
    Calls Tryz.prog 203 #[.string s, .func (.func 204) #[] #[]] w (RetL s.data.toList w):=by
 cases hv:getV s.data.toList with
 |none=>
  have HG:=hD (zcu s w ja hv);have HR:Hid (zK s.data.toList=none):=hD (by unfold zK zaP;rw [hv]);clear hv;go_in;go_wp2_with fail;refine HG.out.mono ?_;rintro e w' ⟨rfl,c,hc,rfl⟩;have hc1:(c == 0)=false:=by simpa using hc
  have hc2:(c != 0)=true:=by simpa using hc
  go_wp2_with fail;go_ret3;exact zdb HR.out c hc (Below.refl _ _)
 |some x=>
  obtain⟨n,k⟩:=x;have HG:=hD (zch s w ja n k hv);have hle:=za5 hv;rw [yu] at hle;have hn:=zec hv;obtain⟨k0,k1,k2⟩:=hle;have HL:Hid (zK s.data.toList=match yt yJ n (s.data.toList.drop k) with
   |none=>none
   |some (xs,m)=>some (xs,k+m)):=hD jar
  obtain⟨i0,hi,hz0,hz1,hz2⟩:=info_parts zdx;have HI:=hD hi;have HZ0:=hD hz0;have HZ1:=hD hz1;have HZ2:=hD hz2;clear hi hz0 hz1 hz2 hv;go_in;go_wp2_with fail;refine HG.out.mono ?_;rintro e w' ⟨rfl,rfl⟩;go_wp2_with fail;go_loopw [8,10,24] (fun a o i wr=>∃(j p:Nat) (xs:List (List UInt8)),i= .int .u64 j∧j≤n∧a= .int .i64 p∧p≤s.size∧j≤p∧xs.length=j∧wr.ownsRow w.heap.size 9 1 o j (strC xs)∧Below w.heap.size w wr∧w.heap.size≤wr.heap.size∧
   zK s.data.toList=(match yt yJ (n- j) (s.data.toList.drop p) with
   |none=>none
   |some (ys,m)=>some (xs++ys,p+m))) (fun _ _ i _=>n-(intOf i).toNat)
  case atStart=>exact⟨0,k, [],rfl,by omega,rfl,k2,by omega,rfl,World.ownsRow_nil _ _ _ _,Below.refl _ _,Nat.le_refl _,by rw [HL.out];simp⟩
  case round=>
   obtain⟨j,p,xs,rfl,hj,rfl,hp,hjp,hxs,hown,hb,hge,hL⟩:=hrel;have HO:=hD hown;have HB:=hD hb;have HX:=hD hxs;have HE:=hD hL;clear hown hb hxs hL;by_cases hlt:j<n
   · have hj':(j:Int) <(n:Int):=by omega
     have hsl:(s.extract p s.size).size=s.size- p:=by simp
     have HD:=hD (zeX s p hp);have hmany:n- j=(n-(j+1))+1:=by omega
     cases hg:yJ (s.data.toList.drop p) with
     |none=>
      have HG1:=hD (zcm (s.extract p s.size) wr ja jcq);have HR:Hid (zK s.data.toList=none):=hD jcm;clear hg hsl hmany;go_wp2_with fail;refine HG1.out.mono ?_;rintro e w' ⟨rfl,c,hc,rfl⟩;have hc1:(c == 0)=false:=by simpa using hc
      have hc2:(c != 0)=true:=by simpa using hc
      go_wp2_with fail;go_ret3;exact zdb HR.out c hc HB.out
     |some x=>exact fo22
   · have hjn:j=n:=by omega
     have HR:Hid (zK s.data.toList=some (xs,p)):=hD jbm;obtain⟨A,c,hv⟩:=ownsRow_form HO.out;subst hv;have hj':¬(j:Int) <(n:Int):=by omega
     clear hjn;go_wp2_with fail;go_ret3;exact zfx HR.out HX.out.symm (Rd.own HO.out) (zbQ HO.out) HB.out
theorem retL_none {P:Program} {f:FuncId} {args:Array Value} {l:List UInt8} {w:World} (h:Calls P f args w (RetL l w)) (hl:zK l=none) :
    Calls P f args w fun e w'=>(∃c:Int,c≠0∧e= .returned (.tuple #[.slice none 0 0, .int .i64 0, .int .i64 c]))∧Below w.heap.size w w':=
 h.mono fun _ _ ⟨hw,he⟩=>by rw [hl] at he;exact⟨he,hw⟩
theorem zbn {P:Program} {f:FuncId} {args:Array Value} {l:List UInt8} {w:World} {xs:List (List UInt8)} {k:Nat} (h:Calls P f args w (RetL l w)) (hl:zK l=some (xs,k)) :
    Calls P f args w fun e w'=>(∃A c,e= .returned (.tuple #[.slice A xs.length c, .int .i64 k, .int .i64 0])∧Rd w' 1 A xs.length (strC xs)∧xs.length≤c)∧Below w.heap.size w w':=
 h.mono fun _ _ ⟨hw,he⟩=>by rw [hl] at he;exact⟨he,hw⟩
theorem YU (s:ByteArray) (w:World) (hs:s.size≤1099511627776) :
    Calls Tryz.prog 140 #[.string s] w (RetL s.data.toList w):=by
 have hL:=listStr_any s w hs;cases hl:zK s.data.toList with
 |none=>
  have HL:=hD (retL_none hL hl);have HR:=hD hl;clear hl hL;go_in;go_wp2_with fail;refine HL.out.mono ?_;rintro e w' ⟨⟨c,hc,rfl⟩,hb⟩;go_wp2_with fail;go_ret3;exact zdb HR.out c hc hb
 |some x=>
  obtain⟨xs,k⟩:=x;have HL:=hD (zbn hL hl);have HR:=hD hl;clear hl hL;go_in;go_wp2_with fail;refine HL.out.mono ?_;rintro e w' ⟨⟨A,c,rfl,hr,hc⟩,hb⟩;go_wp2_with fail;go_ret3;exact zfx HR.out rfl hr hc hb
set_option maxRecDepth 100000
set_option maxHeartbeats 4000000
open Go.RowKit
theorem xor_zero_i64 (m:Nat) (h:m<9223372036854775808):bits .xor .i64 (m:Int) 0=m:=by
 have h1:(BitVec.ofInt 64 (m:Int)).toNat=m:=by
  rw [BitVec.ofInt_natCast,BitVec.toNat_ofNat];exact Nat.mod_eq_of_lt ja
 show IntKind.i64.wrap ((BitVec.ofInt 64 (m:Int) ^^^ BitVec.ofInt 64 0).toNat:Int)=_;rw [show BitVec.ofInt 64 0=0#64 from rfl,BitVec.xor_zero,h1];exact fo132
theorem xor_ones_i64 (m:Nat) (h:m<9223372036854775808):bits .xor .i64 (m:Int) (-1)=-(m:Int)- 1:=by
 have h1:(BitVec.ofInt 64 (m:Int)).toNat=m:=by
  rw [BitVec.ofInt_natCast,BitVec.toNat_ofNat];exact Nat.mod_eq_of_lt ja
 show IntKind.i64.wrap ((BitVec.ofInt 64 (m:Int) ^^^ BitVec.ofInt 64 (-1)).toNat:Int)=_;rw [show BitVec.ofInt 64 (-1)=BitVec.allOnes 64 from by decide,BitVec.xor_allOnes,BitVec.toNat_not,h1];exact fo132
theorem unzig_bits (n:Nat) (hn:n<18446744073709551616):bits BinOp.xor IntKind.i64 ((n:Int) / 2) (wrap64 (-wrap64 (bits BinOp.and IntKind.u64 (n:Int) 1)))=unzig n:=by
 have ha:bits BinOp.and IntKind.u64 (n:Int) 1=((n % 2:Nat):Int):=by
  have:=bits_and_u64_nat n 1 hn ja;rw [Nat.and_one_is_mod] at this;exact this
 have hd:(n:Int) / 2=((n / 2:Nat):Int):=by omega
 rw [ha,hd];unfold unzig;by_cases h:n % 2=0
 · rw [if_pos h,h,show wrap64 (-wrap64 ((0:Nat):Int))=0 from by simp [wrap64]];exact xor_zero_i64 _ ja
 · rw [if_neg h,show n % 2=1 from by omega,show wrap64 (-wrap64 ((1:Nat):Int))=-1 from by simp [wrap64]];exact xor_ones_i64 _ ja
theorem infoN:(Tryz.prog.info? 3).map (fun i=>(i.zero,i.size,i.bytes))=some (some (.int .i64 0),1,8):=by kernel_rfl
theorem intC_snoc (l:List Int) (x:Int):intC (l++ [x])=intC l++ [.int .i64 x]:=by simp [intC]
theorem getInt_leW {s:List UInt8} {x:Int} {k:Nat} (h:Zp s=some (x,k)):0<k∧k≤s.length:=by
 unfold Zp at h;cases hv:getV s with
 |none=>rw [hv] at h;simp at h
 |some y=>
  rw [hv] at h;obtain⟨n,m⟩:=y;simp only [Option.map_some,Option.some.injEq,Prod.mk.injEq] at h;obtain⟨_,rfl⟩:=h;have:=za5 hv;omega
def RetI (l:List UInt8) (w:World) (e:Ending) (w':World):Prop:=w=w'∧match Zp l with
 |some (x,k)=>e= .returned (.tuple #[.int .i64 x, .int .i64 k, .int .i64 0])
 |none=>∃c:Int,c≠0∧e= .returned (.tuple #[.int .i64 0, .int .i64 0, .int .i64 c])
theorem ret_i_none {l:List UInt8} {w:World} (h:Zp l=none) (c:Int) (hc:c≠0):RetI l w (.returned (.tuple #[.int .i64 0, .int .i64 0, .int .i64 c])) w:=by
 refine⟨rfl, ?_⟩;rw [h];exact⟨c,hc,rfl⟩
theorem ret_i_some {l:List UInt8} {w:World} {x y:Int} {k:Nat} (h:Zp l=some (x,k)) (hy:y=x):RetI l w (.returned (.tuple #[.int .i64 y, .int .i64 k, .int .i64 0])) w:=by
 refine⟨rfl, ?_⟩;rw [h,hy]
theorem zbU (s:ByteArray) (w:World) (hs:s.size≤70368744177664) :
    Calls Tryz.prog 263 #[.string s] w (RetI s.data.toList w):=by
 cases hv:getV s.data.toList with
 |none=>
  have HG:=hD (zcu s w hs hv);have HR:Hid (Zp s.data.toList=none):=hD (by unfold Zp;rw [hv];rfl);clear hv;go_in;go_wp2_with fail;refine HG.out.mono ?_;rintro e w' ⟨rfl,c,hc,rfl⟩;have hc1:(c == 0)=false:=by simpa using hc
  have hc2:(c != 0)=true:=by simpa using hc
  go_wp2_with fail;go_ret3;exact ret_i_none HR.out c hc
 |some x=>
  obtain⟨n,k⟩:=x;have HG:=hD (zch s w hs n k hv);have hn:=zec hv;have HR:Hid (Zp s.data.toList=some (unzig n,k)):=hD (by unfold Zp;rw [hv];rfl);clear hv;go_in;go_wp2_with fail;refine HG.out.mono ?_;rintro e w' ⟨rfl,rfl⟩;go_wp2_with fail;go_ret3;exact ret_i_some HR.out (unzig_bits n hn)
theorem geti_none (s:ByteArray) (w:World) (hs:s.size≤70368744177664) (h:Zp s.data.toList=none) :
    Calls Tryz.prog 263 #[.string s] w fun e w'=>w=w'∧∃c:Int,c≠0∧e= .returned (.tuple #[.int .i64 0, .int .i64 0, .int .i64 c]):=
 (zbU s w hs).mono fun _ _ ⟨hw,he⟩=>by rw [h] at he;exact⟨hw,he⟩
theorem geti_some (s:ByteArray) (w:World) (hs:s.size≤70368744177664) (x:Int) (k:Nat) (h:Zp s.data.toList=some (x,k)) :
    Calls Tryz.prog 263 #[.string s] w fun e w'=>w=w'∧e= .returned (.tuple #[.int .i64 x, .int .i64 k, .int .i64 0]):=
 (zbU s w hs).mono fun _ _ ⟨hw,he⟩=>by rw [h] at he;exact⟨hw,he⟩
def RetN (l:List UInt8) (w:World) (e:Ending) (w':World):Prop:=Below w.heap.size w w'∧match zQ l with
 |some (xs,k)=>∃A c,e= .returned (.tuple #[.slice A xs.length c, .int .i64 k, .int .i64 0])∧w'.ownsRow w.heap.size 3 1 (.slice A xs.length c) xs.length (intC xs)
 |none=>∃c:Int,c≠0∧e= .returned (.tuple #[.slice none 0 0, .int .i64 0, .int .i64 c])
theorem zcO {l:List UInt8} {w w':World} (h:zQ l=none) (c:Int) (hc:c≠0) (hb:Below w.heap.size w w'):RetN l w (.returned (.tuple #[.slice none 0 0, .int .i64 0, .int .i64 c])) w':=by
 refine⟨hb, ?_⟩;rw [h];exact⟨c,hc,rfl⟩
theorem zfw {l:List UInt8} {w w':World} {xs:List Int} {k n:Nat} {A:Option Addr} {c:Nat} (h:zQ l=some (xs,k)) (hn:n=xs.length) (hr:w'.ownsRow w.heap.size 3 1 (.slice A n c) n (intC xs)) (hb:Below w.heap.size w w'):RetN l w (.returned (.tuple #[.slice A n c, .int .i64 k, .int .i64 0])) w':=by
 refine⟨hb, ?_⟩;rw [h];subst hn;exact⟨A,c,rfl,hr⟩
theorem listInt_any (s:ByteArray) (w:World) (hs:s.size≤1099511627776) :
    Calls Tryz.prog 262 #[.string s, .func (.func 263) #[] #[]] w (RetN s.data.toList w):=by
 cases hv:getV s.data.toList with
 |none=>
  have HG:=hD (zcu s w ja hv);have HR:Hid (zQ s.data.toList=none):=hD (by unfold zQ zaP;rw [hv]);clear hv;go_in;go_wp2_with fail;refine HG.out.mono ?_;rintro e w' ⟨rfl,c,hc,rfl⟩;have hc1:(c == 0)=false:=by simpa using hc
  have hc2:(c != 0)=true:=by simpa using hc
  go_wp2_with fail;go_ret3;exact zcO HR.out c hc (Below.refl _ _)
 |some x=>
  obtain⟨n,k⟩:=x;have HG:=hD (zch s w ja n k hv);have hle:=za5 hv;rw [yu] at hle;have hn:=zec hv;obtain⟨k0,k1,k2⟩:=hle;have HL:Hid (zQ s.data.toList=match yt Zp n (s.data.toList.drop k) with
   |none=>none
   |some (xs,m)=>some (xs,k+m)):=hD (by unfold zQ zaP;rw [hv];simp only [];cases yt Zp n (List.drop k s.data.toList) <;> rfl)
  obtain⟨i0,hi,hz0,hz1,hz2⟩:=info_parts infoN;have HI:=hD hi;have HZ0:=hD hz0;have HZ1:=hD hz1;have HZ2:=hD hz2;clear hi hz0 hz1 hz2 hv;go_in;go_wp2_with fail;refine HG.out.mono ?_;rintro e w' ⟨rfl,rfl⟩;go_wp2_with fail;go_loopw [8,10,24] (fun a o i wr=>∃(j p:Nat) (xs:List Int),i= .int .u64 j∧j≤n∧a= .int .i64 p∧p≤s.size∧j≤p∧xs.length=j∧wr.ownsRow w.heap.size 3 1 o j (intC xs)∧Below w.heap.size w wr∧w.heap.size≤wr.heap.size∧
   zQ s.data.toList=(match yt Zp (n- j) (s.data.toList.drop p) with
   |none=>none
   |some (ys,m)=>some (xs++ys,p+m))) (fun _ _ i _=>n-(intOf i).toNat)
  case atStart=>exact⟨0,k, [],rfl,by omega,rfl,k2,by omega,rfl,World.ownsRow_nil _ _ _ _,Below.refl _ _,Nat.le_refl _,by rw [HL.out];simp⟩
  case round=>
   obtain⟨j,p,xs,rfl,hj,rfl,hp,hjp,hxs,hown,hb,hge,hL⟩:=hrel;have HO:=hD hown;have HB:=hD hb;have HX:=hD hxs;have HE:=hD hL;clear hown hb hxs hL;by_cases hlt:j<n
   · have hj':(j:Int) <(n:Int):=by omega
     have hsl:(s.extract p s.size).size=s.size- p:=by simp
     have HD:=hD (zeX s p hp);have hmany:n- j=(n-(j+1))+1:=by omega
     cases hg:Zp (s.data.toList.drop p) with
     |none=>
      have HG1:=hD (geti_none (s.extract p s.size) wr ja jcq);have HR:Hid (zQ s.data.toList=none):=hD jcm;clear hg hsl hmany;go_wp2_with fail;refine HG1.out.mono ?_;rintro e w' ⟨rfl,c,hc,rfl⟩;have hc1:(c == 0)=false:=by simpa using hc
      have hc2:(c != 0)=true:=by simpa using hc
      go_wp2_with fail;go_ret3;exact zcO HR.out c hc HB.out
     |some x=>
      obtain⟨x,q⟩:=x;have HG1:=hD (geti_some (s.extract p s.size) wr ja x q jcq);have hq:=getInt_leW hg;simp only [List.length_drop,yu] at hq;obtain⟨q0,q1⟩:=hq;have HR:Hid (zQ s.data.toList=(match yt Zp (n-(j+1)) (s.data.toList.drop (p+q)) with
       |none=>none
       |some (ys,m)=>some (xs++ [x]++ys,p+q+m))):=hD (by
        rw [HE.out,hmany,yt,hg];simp only [List.drop_drop];cases yt Zp (n-(j+1)) (s.data.toList.drop (p+q)) with
        |none=>rfl
        |some y=>obtain⟨ys,m⟩:=y;simp [Nat.add_assoc])
      clear hg hsl hmany;go_wp2_with fail;refine HG1.out.mono ?_;rintro e w' ⟨rfl,rfl⟩;go_wp2_with (at_builtin;refine wpList_append_own _ rfl _ _ 46 rfl w.heap.size 3 i0 _ 1 8 Tryz.underlying46 HI.out HZ0.out HZ1.out HZ2.out rfl jf _ _ _ rfl (HO.out.alloc _) ⟨wr.heap.size,0,none⟩ 1 1 [.int .i64 x] rfl rfl (z8 _ _ _ _ rfl) jv jw ja jg ?_);intro v' w2 hown' hgrow _;have HO2:=hD hown';have HG2:=hD hgrow;clear hown' hgrow;go_wp2_with fail;go_roundw
      case rel=>
       refine⟨j+1,p+q,xs++ [x],by go_num,by omega,by go_num,by omega,by omega,by simp [HX.out], ?_,below_grown (HB.out.alloc hge _) jg HG2.out (fun g hg=>(HO.out.lt g hg).1), ?_,HR.out⟩
       · rw [intC_snoc];exact HO2.out
       · have:=HG2.out.size;simp at this;omega
      case measure=>simp [intOf];omega
   · have hjn:j=n:=by omega
     have HR:Hid (zQ s.data.toList=some (xs,p)):=hD jbm;obtain⟨A,c,hv⟩:=ownsRow_form HO.out;subst hv;have hj':¬(j:Int) <(n:Int):=by omega
     clear hjn;go_wp2_with fail;go_ret3;exact zfw HR.out HX.out.symm HO.out HB.out
theorem zeo {P:Program} {f:FuncId} {args:Array Value} {l:List UInt8} {w:World} (h:Calls P f args w (RetN l w)) (hl:zQ l=none) :
    Calls P f args w fun e w'=>(∃c:Int,c≠0∧e= .returned (.tuple #[.slice none 0 0, .int .i64 0, .int .i64 c]))∧Below w.heap.size w w':=
 h.mono fun _ _ ⟨hw,he⟩=>by rw [hl] at he;exact⟨he,hw⟩
theorem zcF {P:Program} {f:FuncId} {args:Array Value} {l:List UInt8} {w:World} {xs:List Int} {k:Nat} (h:Calls P f args w (RetN l w)) (hl:zQ l=some (xs,k)) :
    Calls P f args w fun e w'=>(∃A c,e= .returned (.tuple #[.slice A xs.length c, .int .i64 k, .int .i64 0])∧w'.ownsRow w.heap.size 3 1 (.slice A xs.length c) xs.length (intC xs))∧Below w.heap.size w w':=
 h.mono fun _ _ ⟨hw,he⟩=>by rw [hl] at he;exact⟨he,hw⟩
theorem zes (s:ByteArray) (w:World) (hs:s.size≤1099511627776) :
    Calls Tryz.prog 232 #[.string s] w (RetN s.data.toList w):=by
 have hL:=listInt_any s w hs;cases hl:zQ s.data.toList with
 |none=>
  have HL:=hD (zeo hL hl);have HR:=hD hl;clear hl hL;go_in;go_wp2_with fail;refine HL.out.mono ?_;rintro e w' ⟨⟨c,hc,rfl⟩,hb⟩;go_wp2_with fail;go_ret3;exact zcO HR.out c hc hb
 |some x=>
  obtain⟨xs,k⟩:=x;have HL:=hD (zcF hL hl);have HR:=hD hl;clear hl hL;go_in;go_wp2_with fail;refine HL.out.mono ?_;rintro e w' ⟨⟨A,c,rfl,hr⟩,hb⟩;go_wp2_with fail;go_ret3;exact zfw HR.out rfl hr hb
set_option maxRecDepth 100000
set_option maxHeartbeats 4000000
open Go.RowKit
def RetT (l:List UInt8) (w:World) (e:Ending) (w':World):Prop:=Below w.heap.size w w'∧match zK l with
 |some (xs,k)=>∃A c,e= .returned (.tuple #[.slice A xs.length c, .int .i64 k, .int .i64 0])∧w'.ownsRow w.heap.size 9 1 (.slice A xs.length c) xs.length (strC xs)
 |none=>∃c:Int,c≠0∧e= .returned (.tuple #[.slice none 0 0, .int .i64 0, .int .i64 c])
theorem zc8 {l:List UInt8} {w w':World} (h:zK l=none) (c:Int) (hc:c≠0) (hb:Below w.heap.size w w'):RetT l w (.returned (.tuple #[.slice none 0 0, .int .i64 0, .int .i64 c])) w':=by
 refine⟨hb, ?_⟩;rw [h];exact⟨c,hc,rfl⟩
theorem zft {l:List UInt8} {w w':World} {xs:List (List UInt8)} {k n:Nat} {A:Option Addr} {c:Nat} (h:zK l=some (xs,k)) (hn:n=xs.length) (hr:w'.ownsRow w.heap.size 9 1 (.slice A n c) n (strC xs)) (hb:Below w.heap.size w w'):RetT l w (.returned (.tuple #[.slice A n c, .int .i64 k, .int .i64 0])) w':=by
 refine⟨hb, ?_⟩;rw [h];subst hn;exact⟨A,c,rfl,hr⟩
theorem listText_any (s:ByteArray) (w:World) (hs:s.size≤1099511627776) :
    Calls Tryz.prog 203 #[.string s, .func (.func 204) #[] #[]] w (RetT s.data.toList w):=by
 cases hv:getV s.data.toList with
 |none=>
  have HG:=hD (zcu s w ja hv);have HR:Hid (zK s.data.toList=none):=hD (by unfold zK zaP;rw [hv]);clear hv;go_in;go_wp2_with fail;refine HG.out.mono ?_;rintro e w' ⟨rfl,c,hc,rfl⟩;have hc1:(c == 0)=false:=by simpa using hc
  have hc2:(c != 0)=true:=by simpa using hc
  go_wp2_with fail;go_ret3;exact zc8 HR.out c hc (Below.refl _ _)
 |some x=>
  obtain⟨n,k⟩:=x;have HG:=hD (zch s w ja n k hv);have hle:=za5 hv;rw [yu] at hle;have hn:=zec hv;obtain⟨k0,k1,k2⟩:=hle;have HL:Hid (zK s.data.toList=match yt yJ n (s.data.toList.drop k) with
   |none=>none
   |some (xs,m)=>some (xs,k+m)):=hD jar
  obtain⟨i0,hi,hz0,hz1,hz2⟩:=info_parts zdx;have HI:=hD hi;have HZ0:=hD hz0;have HZ1:=hD hz1;have HZ2:=hD hz2;clear hi hz0 hz1 hz2 hv;go_in;go_wp2_with fail;refine HG.out.mono ?_;rintro e w' ⟨rfl,rfl⟩;go_wp2_with fail;go_loopw [8,10,24] (fun a o i wr=>∃(j p:Nat) (xs:List (List UInt8)),i= .int .u64 j∧j≤n∧a= .int .i64 p∧p≤s.size∧j≤p∧xs.length=j∧wr.ownsRow w.heap.size 9 1 o j (strC xs)∧Below w.heap.size w wr∧w.heap.size≤wr.heap.size∧
   zK s.data.toList=(match yt yJ (n- j) (s.data.toList.drop p) with
   |none=>none
   |some (ys,m)=>some (xs++ys,p+m))) (fun _ _ i _=>n-(intOf i).toNat)
  case atStart=>exact⟨0,k, [],rfl,by omega,rfl,k2,by omega,rfl,World.ownsRow_nil _ _ _ _,Below.refl _ _,Nat.le_refl _,by rw [HL.out];simp⟩
  case round=>
   obtain⟨j,p,xs,rfl,hj,rfl,hp,hjp,hxs,hown,hb,hge,hL⟩:=hrel;have HO:=hD hown;have HB:=hD hb;have HX:=hD hxs;have HE:=hD hL;clear hown hb hxs hL;by_cases hlt:j<n
   · have hj':(j:Int) <(n:Int):=by omega
     have hsl:(s.extract p s.size).size=s.size- p:=by simp
     have HD:=hD (zeX s p hp);have hmany:n- j=(n-(j+1))+1:=by omega
     cases hg:yJ (s.data.toList.drop p) with
     |none=>
      have HG1:=hD (zcm (s.extract p s.size) wr ja jcq);have HR:Hid (zK s.data.toList=none):=hD jcm;clear hg hsl hmany;go_wp2_with fail;refine HG1.out.mono ?_;rintro e w' ⟨rfl,c,hc,rfl⟩;have hc1:(c == 0)=false:=by simpa using hc
      have hc2:(c != 0)=true:=by simpa using hc
      go_wp2_with fail;go_ret3;exact zc8 HR.out c hc HB.out
     |some x=>exact fo22
   · have hjn:j=n:=by omega
     have HR:Hid (zK s.data.toList=some (xs,p)):=hD jbm;obtain⟨A,c,hv⟩:=ownsRow_form HO.out;subst hv;have hj':¬(j:Int) <(n:Int):=by omega
     clear hjn;go_wp2_with fail;go_ret3;exact zft HR.out HX.out.symm HO.out HB.out
theorem retT_none {P:Program} {f:FuncId} {args:Array Value} {l:List UInt8} {w:World} (h:Calls P f args w (RetT l w)) (hl:zK l=none) :
    Calls P f args w fun e w'=>(∃c:Int,c≠0∧e= .returned (.tuple #[.slice none 0 0, .int .i64 0, .int .i64 c]))∧Below w.heap.size w w':=
 h.mono fun _ _ ⟨hw,he⟩=>by rw [hl] at he;exact⟨he,hw⟩
theorem retT_some {P:Program} {f:FuncId} {args:Array Value} {l:List UInt8} {w:World} {xs:List (List UInt8)} {k:Nat} (h:Calls P f args w (RetT l w)) (hl:zK l=some (xs,k)) :
    Calls P f args w fun e w'=>(∃A c,e= .returned (.tuple #[.slice A xs.length c, .int .i64 k, .int .i64 0])∧w'.ownsRow w.heap.size 9 1 (.slice A xs.length c) xs.length (strC xs))∧Below w.heap.size w w':=
 h.mono fun _ _ ⟨hw,he⟩=>by rw [hl] at he;exact⟨he,hw⟩
theorem getTexts_any (s:ByteArray) (w:World) (hs:s.size≤1099511627776) :
    Calls Tryz.prog 140 #[.string s] w (RetT s.data.toList w):=by
 have hL:=listText_any s w hs;cases hl:zK s.data.toList with
 |none=>
  have HL:=hD (retT_none hL hl);have HR:=hD hl;clear hl hL;go_in;go_wp2_with fail;refine HL.out.mono ?_;rintro e w' ⟨⟨c,hc,rfl⟩,hb⟩;go_wp2_with fail;go_ret3;exact zc8 HR.out c hc hb
 |some x=>
  obtain⟨xs,k⟩:=x;have HL:=hD (retT_some hL hl);have HR:=hD hl;clear hl hL;go_in;go_wp2_with fail;refine HL.out.mono ?_;rintro e w' ⟨⟨A,c,rfl,hr⟩,hb⟩;go_wp2_with fail;go_ret3;exact zft HR.out rfl hr hb
end Go.Proofs.YtepbbaifpckcpaaGreatDoor
