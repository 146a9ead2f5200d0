/- The contracts of wire's readers: Get, GetString, GetList. -/
import Derived.Test.YtepbbaifpckcpaaGreatDoorPWa
open BitVec renaming ofInt→zE
open Go renaming Ending→zc,wpList_append_own→zj
open Go.IntKind renaming u8→zr,u64→zv,wrap_u64→qA
open Go.Lib renaming bitLen→qB
open Go.Proofs.Tryz renaming prog→qC
open Go.RowKit.Below renaming refl→qD
open Go.World renaming ownsRow_nil→qE
open List renaming length_drop→qF
open Nat renaming le_mul_of_pos_right→qG,pow_succ→qH,mul_le_mul_right→qI,pow_le_pow_right→qJ,le_refl→qK
open _root_ renaming ByteArray→qL,if_pos→qM,if_neg→qN,beq_iff_eq→qO,beq_eq_false_iff_ne→qP
namespace Go.Proofs.YtepbbaifpckcpaaGreatDoor
set_option maxRecDepth 100000
set_option maxHeartbeats 4000000
open Go.RowKit
theorem and127':∀n:Fin 256,bits BinOp.and zr (n.val:Int) 127=(n.val:Int) % 128:=by decide +kernel
theorem and127(n:Nat)(h:n<256):bits BinOp.and zr (n:Int) 127=((n % 128:Nat):Int):=by
 rw[and127' ⟨n,h⟩];rfl
theorem len_test':∀(c:Fin 128) (k:Fin 10),decide (64<qB c.val+7 * k.val)=decide (18446744073709551616≤c.val * 128 ^ k.val):=by decide +kernel
theorem len_test(c k:Nat)(hc:c<128)(hk:k≤9):64<qB c+7 * k↔18446744073709551616≤c * 128 ^ k:=by
 have:=len_test' ⟨c,hc⟩ ⟨k,by omega⟩;simpa using this
theorem bitLen_le':∀c:Fin 128,qB c.val≤7:=by decide +kernel
theorem or_shift(a c k:Nat)(ha:a<128 ^ k)(hb:a+c * 128 ^ k<18446744073709551616) :
    bits BinOp.or zv (a:Int) (zv.wrap (zv.wrap (c:Int) * 2 ^(7 * k)))=((a+c * 128 ^ k:Nat):Int):=by
 have e:(128:Nat) ^ k=2 ^(7 * k):=by rw[Nat.pow_mul]
 have hp:1≤128 ^ k:=Nat.pow_pos ja;have hc:c≤c * 128 ^ k:=qG c hp;have h1:zv.wrap (c:Int)=(c:Int):=by rw[qA];omega
 have h2:(c:Int) * 2 ^(7 * k)=((c * 128 ^ k:Nat):Int):=by rw[e];simp
 have h3:zv.wrap ((c * 128 ^ k:Nat):Int)=((c * 128 ^ k:Nat):Int):=by rw[qA];omega
 rw[h1,h2,h3,bits_or_u64_nat _ _ ja ja];congr 1;rw[Nat.or_comm,e,←Nat.shiftLeft_eq,←Nat.shiftLeft_add_eq_or_of_lt (by rw[←e];exact ha),Nat.add_comm]
theorem or_shift'(a c k:Nat)(ha:a<128 ^ k)(hb:a+c * 128 ^ k<18446744073709551616) :
    bits BinOp.or zv (a:Int) (zv.wrap ((c:Int) * 2 ^(7 * k)))=((a+c * 128 ^ k:Nat):Int):=by
 have hp:1≤128 ^ k:=Nat.pow_pos ja;have hc:c≤c * 128 ^ k:=qG c hp;have h1:zv.wrap (c:Int)=(c:Int):=by rw[qA];omega
 have:=or_shift a c k ha hb;rwa[h1]at this
theorem Y0(s:qL)(k a:Nat)(h:k<s.size)(hk:k≤9):Yv (10- k) k a (s.data.toList.drop k) =
    if 128≤s[k].toNat then Yv (10-(k+1)) (k+1) (a+(s[k].toNat- 128) * 128 ^ k) (s.data.toList.drop (k+1))
    else if 18446744073709551616≤s[k].toNat * 128 ^ k then none else if s[k].toNat=0∧0<k then none else some (a+s[k].toNat * 128 ^ k,k+1):=by
 rw[drop_at s k h,show 10- k=(10-(k+1))+1 from by omega,Yv]
theorem zgu(s:qL)(k a:Nat)(h:k=s.size∨k=10):Yv (10- k) k a (s.data.toList.drop k)=none:=by
 rcases h with rfl|rfl
 · rw[List.drop_eq_nil_of_le jc];cases 10- s.size <;> rfl
 · rfl
def RetV(l:List UInt8)(w:World)(e:zc)(w':World):Prop:=w=w'∧match getV l with
 |some (n,k)=>e= .returned (.tuple #[.int .u64 n,k,()])
 |none=>∃c:Int,c≠0∧e= .returned (.tuple #[.int .u64 0,(),c])
variable{args:Array Value}{f:FuncId}{x y:Int}{l s:List UInt8}{c k n:Nat}{A:Option Addr}{P:Program}{w w':World}
theorem zdH(h:getV l=none)(c:Int)(hc:c≠0):RetV l w (.returned (.tuple #[.int .u64 0,(),c])) w:=by
 refine⟨rfl,?_⟩;rw[h];exact⟨c,hc,rfl⟩
theorem zgq(h:getV l=some (n,k))(hx:x=(n:Int))(hy:Value.int .i64 y= .int .i64 (k:Int)):RetV l w (.returned (.tuple #[.int .u64 x,y,()])) w:=by
 refine⟨rfl,?_⟩;rw[h,hx,hy]
theorem get_any(s:qL)(w:World)(hs:s.size≤70368744177664) :
    Calls qC 245 #[s] w (RetV s.data.toList w):=by
 obtain⟨m,hm⟩:∃m:Nat,m=min s.size 10:=⟨_,rfl⟩;have hmm:min (s.size:Int) 10=(m:Int):=by omega
 have m1:m≤10:=by omega
 have m2:m≤s.size:=by omega
 have HM:Hid (m<10→m=s.size):=hD ja;clear hm;go_in;go_wp2_with fail;clear hmm;go_loop [5,11] (fun n i=>∃(k a:Nat) (v:Int),i= .int .i64 k∧k≤m∧n= .int .u64 v∧(k≤9→v=a)∧a<128 ^ k∧getV s.data.toList=Yv (10- k) k a (s.data.toList.drop k)) (fun _ i=>m-(intOf i).toNat)
 case atStart=>exact⟨0,0,0,rfl,by omega,rfl,fun _=>rfl,by omega,rfl⟩
 case round=>
  obtain⟨k,a,v,rfl,hk,rfl,hv,ha,hg⟩:=hrel;have HG:=hD hg;clear hg;by_cases hlt:k<m
  · have hks:k<s.size:=by omega
    obtain rfl:v=a:=hv ja;clear hv;have hc:=Zq s[k];by_cases hb:128≤s[k].toNat
    · go_wp2_with fail;go_round
      case rel=>
       have hpow:128 ^(k+1)=128 ^ k * 128:=qH 128 k;have hmul:(s[k].toNat- 128) * 128 ^ k≤127 * 128 ^ k:=qI _ ja;refine⟨k+1,a+(s[k].toNat- 128) * 128 ^ k,_,by go_num,by omega,rfl,fun h9=> ?_,by omega,?_⟩
       · have h8:128 ^(k+1)≤128 ^ 9:=qJ ja h9;rw[and127 _ hc,show s[k].toNat % 128=s[k].toNat- 128 from by omega];exact or_shift a _ k ha ja
       · rw[HG.out,Y0 s k a hks ja,qM hb]
      case measure=>simp[intOf];omega
    · have hbl:=bitLen_le' ⟨s[k].toNat,by omega⟩;simp only[]at hbl;have HT:=hD (len_test s[k].toNat k ja ja);by_cases hq:64<qB s[k].toNat+7 * k
      · have hr:getV s.data.toList=none:=by rw[HG.out,Y0 s k a hks ja,qN hb,qM (HT.out.1 hq)]
        have HR:=hD hr;clear hr;have hq':(64:Int) <(qB s[k].toNat:Int)+7 *(k:Int):=by omega
        exact fo264
      · have hq':¬(64:Int) <(qB s[k].toNat:Int)+7 *(k:Int):=by omega
        have hlt2:=fun h=>hq (HT.2 h)
        by_cases hz:s[k].toNat=0∧0<k
        · have hr:getV s.data.toList=none:=by rw[HG.out,Y0 s k a hks ja,qN hb,qN hlt2,qM hz]
          have HR:=hD hr;have hz1:((s[k].toNat:Int) == 0)=true:=by simp;exact hz.1
          have hz2:(0:Int) <(k:Int):=by omega
          clear hr hlt2 hz;exact fo264
        · have hr:getV s.data.toList=some (a+s[k].toNat * 128 ^ k,k+1):=by rw[HG.out,Y0 s k a hks ja,qN hb,qN hlt2,qN hz]
          have HR:=hD hr;have HO:=hD (or_shift' a s[k].toNat k ha (step_fit a _ k ja ja ha hlt2));clear hr hlt2;have hz1:((s[k].toNat:Int) == 0)=false∨(((s[k].toNat:Int) == 0)=true∧¬(0:Int) <(k:Int)):=fo147;clear hz;rcases hz1 with hz1|⟨hz1,hz2⟩;all_goals
           go_wp2_with (go_at_call 270;refine(Tryz.bits_Len8 _ _ ja ja).mono ?_;rintro e w' ⟨rfl,rfl⟩);go_ret3;exact zgq HR (HO) (by go_num)
  · have hr:getV s.data.toList=none:=by
      rw[HG.out];exact zgu s k a (by
       have:=HM.out;omega)
    have HR:=hD hr;clear hr;go_wp2_with fail;all_goals
     go_ret3;exact zdH HR _ jf
def RetS(l:List UInt8)(w:World)(e:zc)(w':World):Prop:=w=w'∧match yg l with
 |some (x,k)=>e= .returned (.tuple #[x,k,()])
 |none=>∃c:Int,c≠0∧e= .returned (.tuple #["",(),c])
theorem zge(h:yg l=none)(c:Int)(hc:c≠0):RetS l w (.returned (.tuple #["",(),c])) w:=by
 refine⟨rfl,?_⟩;rw[h];exact⟨c,hc,rfl⟩
theorem ret_s_some{x:List UInt8}{z:qL}(h:yg l=some (x,k))(hx:z=⟨x.toArray⟩)(hy:Value.int .i64 y= .int .i64 (k:Int)):RetS l w (.returned (.tuple #[z,y,()])) w:=by
 refine⟨rfl,?_⟩;rw[h,hx,hy]
theorem zdm(s:qL)(w:World)(hs:s.size≤70368744177664)(h:getV s.data.toList=none) :
    Calls qC 245 #[s] w fun e w'=>w=w'∧∃c:Int,c≠0∧e= .returned (.tuple #[.int .u64 0,(),c]):=
 (get_any s w hs).mono fun _ _ ⟨hw,he⟩=>by rw[h]at he;exact⟨hw,he⟩
theorem zdj(s:qL)(w:World)(hs:s.size≤70368744177664)(n k:Nat)(h:getV s.data.toList=some (n,k)) :
    Calls qC 245 #[s] w fun e w'=>w=w'∧e= .returned (.tuple #[.int .u64 n,k,()]):=
 (get_any s w hs).mono fun _ _ ⟨hw,he⟩=>by rw[h]at he;exact⟨hw,he⟩
theorem zbR(h:getV l=some (n,k)):n<18446744073709551616:=zfD 10 0 0 l n k ja ja h
theorem zc0(s:qL)(w:World)(hs:s.size≤70368744177664) :
    Calls qC 204 #[s] w (RetS s.data.toList w):=by
 cases hv:getV s.data.toList with
 |none=>
  have HG:=hD (zdm s w hs hv);exact fo91
 |some x=>
  obtain⟨n,k⟩:=x;have HG:=hD (zdj s w hs n k hv);exact fo45
def RetL(l:List UInt8)(w:World)(e:zc)(w':World):Prop:=Below w.heap.size w w'∧match zF l with
 |some (xs,k)=>∃A c,e= .returned (.tuple #[.slice A xs.length c,k,()])∧Rd w' 1 A xs.length (strC xs)∧xs.length≤c
 |none=>∃c:Int,c≠0∧e= .returned (.tuple #["s",(),c])
theorem zdE(h:zF l=none)(c:Int)(hc:c≠0)(hb:Below w.heap.size w w'):RetL l w (.returned (.tuple #["s",(),c])) w':=fo203
theorem zgj{xs:List (List UInt8)}(h:zF l=some (xs,k))(hn:n=xs.length)(hr:Rd w' 1 A n (strC xs))(hc:n≤c)(hb:Below w.heap.size w w'):RetL l w (.returned (.tuple #[.slice A n c,k,()])) w':=by
 refine⟨hb,?_⟩;rw[h];subst hn;exact⟨A,c,rfl,hr,hc⟩
theorem zdg(s:qL)(w:World)(hs:s.size≤70368744177664)(h:yg s.data.toList=none) :
    Calls qC 204 #[s] w fun e w'=>w=w'∧∃c:Int,c≠0∧e= .returned (.tuple #["",(),c]):=
 (zc0 s w hs).mono fun _ _ ⟨hw,he⟩=>by rw[h]at he;exact⟨hw,he⟩
theorem zfa(s:qL)(w:World)(hs:s.size≤70368744177664)(x:List UInt8)(k:Nat)(h:yg s.data.toList=some (x,k)) :
    Calls qC 204 #[s] w fun e w'=>w=w'∧e= .returned (.tuple #[x,k,()]):=
 (zc0 s w hs).mono fun _ _ ⟨hw,he⟩=>by rw[h]at he;exact⟨hw,he⟩
theorem zcI{base e:Nat}{xs:List Value}(h:w.ownsRow base e k (.slice A n c) n xs):n≤c:=by
 rcases h.2 with⟨h1,h2⟩|⟨g,cap,cur,hv,_,_,hrest⟩
 · omega
 · injection hv with _ _ h3;subst h3;omega
theorem zbB(s:qL)(k:Nat)(_h:k≤s.size):(s.extract k s.size).data.toList=s.data.toList.drop k:=by
 rw[Lib.extract_data,List.take_of_length_le jc]
theorem listStr_any(s:qL)(w:World)(hs:s.size≤1099511627776) :
    Calls qC 203 #[s,.func (.func 204) #[] #[]] w (RetL s.data.toList w):=by
 cases hv:getV s.data.toList with
 |none=>
  have HG:=hD (zdm s w ja hv);have HR:Hid (zF s.data.toList=none):=hD (by unfold zF zbk;rw[hv]);clear hv;go_in;go_wp2_with fail;refine HG.mono ?_;rintro e w' ⟨rfl,c,hc,rfl⟩;have hc1:(c == 0)=false:=by simpa using hc
  have hc2:(c != 0)=true:=by simpa using hc
  go_wp2_with fail;go_ret3;exact zdE HR c hc (qD _ _)
 |some x=>
  obtain⟨n,k⟩:=x;have HG:=hD (zdj s w ja n k hv);have hle:=Y3 hv;rw[zU]at hle;have hn:=zbR hv;obtain⟨k0,k1,k2⟩:=hle;have HL:Hid (zF s.data.toList=match zY yg n (s.data.toList.drop k) with
   |none=>none
   |some (xs,m)=>some (xs,k+m)):=hD jau
  obtain⟨i0,hi,hz0,hz1,hz2⟩:=info_parts zdU;have HI:=hD hi;have HZ0:=hD hz0;have HZ1:=hD hz1;have HZ2:=hD hz2;clear hi hz0 hz1 hz2 hv;go_in;go_wp2_with fail;refine HG.mono ?_;rintro e w' ⟨rfl,rfl⟩;go_wp2_with fail;go_loopw [8,10,24] (fun a o i wr=>∃(j p:Nat) (xs:List (List UInt8)),i= .int .u64 j∧j≤n∧a= .int .i64 p∧p≤s.size∧j≤p∧xs.length=j∧wr.ownsRow w.heap.size 9 1 o j (strC xs)∧Below w.heap.size w wr∧w.heap.size≤wr.heap.size∧
   zF s.data.toList=(match zY yg (n- j) (s.data.toList.drop p) with
   |none=>none
   |some (ys,m)=>some (xs++ys,p+m))) (fun _ _ i _=>n-(intOf i).toNat)
  case atStart=>exact⟨0,k,[],rfl,by omega,rfl,k2,by omega,rfl,qE _ _ _ _,qD _ _,qK _,by rw[HL.out];simp⟩
  case round=>
   obtain⟨j,p,xs,rfl,hj,rfl,hp,hjp,hxs,hown,hb,hge,hL⟩:=hrel;have HO:=hD hown;have HB:=hD hb;have HX:=hD hxs;have HE:=hD hL;clear hown hb hxs hL;by_cases hlt:j<n
   · have hj':(j:Int) <(n:Int):=by omega
     have hsl:(s.extract p s.size).size=s.size- p:=by simp
     have HD:=hD (zbB s p hp);have hmany:n- j=(n-(j+1))+1:=by omega
     cases hg:yg (s.data.toList.drop p) with
     |none=>
      have HG1:=hD (zdg (s.extract p s.size) wr ja jbv);have HR:Hid (zF s.data.toList=none):=hD jdt;clear hg hsl hmany;go_wp2_with fail;refine HG1.mono ?_;rintro e w' ⟨rfl,c,hc,rfl⟩;have hc1:(c == 0)=false:=by simpa using hc
      have hc2:(c != 0)=true:=by simpa using hc
      go_wp2_with fail;go_ret3;exact zdE HR c hc HB
     |some x=>exact fo25
   · have hjn:j=n:=by omega
     have HR:Hid (zF s.data.toList=some (xs,p)):=hD jbn;obtain⟨A,c,hv⟩:=ownsRow_form HO.out;subst hv;have hj':¬(j:Int) <(n:Int):=by omega
     clear hjn;go_wp2_with fail;go_ret3;exact zgj HR HX.symm (Rd.own HO) (zcI HO) HB
theorem retL_none(h:Calls P f args w (RetL l w))(hl:zF l=none) :
    Calls P f args w fun e w'=>(∃c:Int,c≠0∧e= .returned (.tuple #["s",(),c]))∧Below w.heap.size w w':=
 h.mono fun _ _ ⟨hw,he⟩=>by rw[hl]at he;exact⟨he,hw⟩
theorem zcc{xs:List (List UInt8)}(h:Calls P f args w (RetL l w))(hl:zF l=some (xs,k)) :
    Calls P f args w fun e w'=>(∃A c,e= .returned (.tuple #[.slice A xs.length c,k,()])∧Rd w' 1 A xs.length (strC xs)∧xs.length≤c)∧Below w.heap.size w w':=
 h.mono fun _ _ ⟨hw,he⟩=>by rw[hl]at he;exact⟨he,hw⟩
theorem zaA(s:qL)(w:World)(hs:s.size≤1099511627776) :
    Calls qC 140 #[s] w (RetL s.data.toList w):=by
 have hL:=listStr_any s w hs;cases hl:zF s.data.toList with
 |none=>
  have HL:=hD (retL_none hL hl);have HR:=hD hl;clear hl hL;go_in;go_wp2_with fail;refine HL.mono ?_;rintro e w' ⟨⟨c,hc,rfl⟩,hb⟩;go_wp2_with fail;go_ret3;exact zdE HR c hc hb
 |some x=>
  obtain⟨xs,k⟩:=x;have HL:=hD (zcc hL hl);have HR:=hD hl;clear hl hL;go_in;go_wp2_with fail;refine HL.mono ?_;rintro e w' ⟨⟨A,c,rfl,hr,hc⟩,hb⟩;go_wp2_with fail;go_ret3;exact zgj HR rfl hr hc hb
theorem xor_zero_i64(m:Nat)(h:m<9223372036854775808):bits .xor .i64 (m:Int) 0=m:=by
 have h1:(zE 64 (m:Int)).toNat=m:=fo221;show IntKind.i64.wrap ((zE 64 (m:Int) ^^^ zE 64 0).toNat:Int)=_;rw[show zE 64 0=0#64 from rfl,BitVec.xor_zero,h1];exact fo168
theorem xor_ones_i64(m:Nat)(h:m<9223372036854775808):bits .xor .i64 (m:Int) (-1)=-(m:Int)- 1:=by
 have h1:(zE 64 (m:Int)).toNat=m:=fo221;show IntKind.i64.wrap ((zE 64 (m:Int) ^^^ zE 64 (-1)).toNat:Int)=_;rw[show zE 64 (-1)=BitVec.allOnes 64 from by decide,BitVec.xor_allOnes,BitVec.toNat_not,h1];exact fo168
theorem unzig_bits(n:Nat)(hn:n<18446744073709551616):bits BinOp.xor IntKind.i64 ((n:Int) / 2) (wrap64 (-wrap64 (bits BinOp.and zv (n:Int) 1)))=zcK n:=by
 have ha:bits BinOp.and zv (n:Int) 1=((n % 2:Nat):Int):=by
  have:=bits_and_u64_nat n 1 hn ja;rw[Nat.and_one_is_mod]at this;exact this
 have hd:(n:Int) / 2=((n / 2:Nat):Int):=by omega
 rw[ha,hd];unfold zcK;by_cases h:n % 2=0
 · rw[qM h,h,show wrap64 (-wrap64 ((0:Nat):Int))=0 from by simp[wrap64]];exact xor_zero_i64 _ ja
 · rw[qN h,show n % 2=1 from by omega,show wrap64 (-wrap64 ((1:Nat):Int))=-1 from by simp[wrap64]];exact xor_ones_i64 _ ja
theorem infoN:(qC.info? 3).map (fun i=>(i.zero,i.size,i.bytes))=some (some (.int .i64 0),1,8):=by kernel_rfl
theorem intC_snoc(l:List Int)(x:Int):intC (l++ [x])=intC l++ [.int .i64 x]:=by simp[intC]
theorem getInt_leW(h:Zc s=some (x,k)):0<k∧k≤s.length:=by
 unfold Zc at h;cases hv:getV s with
 |none=>rw[hv]at h;simp at h
 |some y=>
  rw[hv]at h;obtain⟨n,m⟩:=y;simp only[Option.map_some,Option.some.injEq,Prod.mk.injEq]at h;obtain⟨_,rfl⟩:=h;have:=Y3 hv;omega
def RetI(l:List UInt8)(w:World)(e:zc)(w':World):Prop:=w=w'∧match Zc l with
 |some (x,k)=>e= .returned (.tuple #[x,k,()])
 |none=>∃c:Int,c≠0∧e= .returned (.tuple #[(),(),c])
theorem ret_i_none(h:Zc l=none)(c:Int)(hc:c≠0):RetI l w (.returned (.tuple #[(),(),c])) w:=by
 refine⟨rfl,?_⟩;rw[h];exact⟨c,hc,rfl⟩
theorem ret_i_some(h:Zc l=some (x,k))(hy:y=x):RetI l w (.returned (.tuple #[y,k,()])) w:=by
 refine⟨rfl,?_⟩;rw[h,hy]
theorem zbD(s:qL)(w:World)(hs:s.size≤70368744177664) :
    Calls qC 263 #[s] w (RetI s.data.toList w):=by
 cases hv:getV s.data.toList with
 |none=>
  have HG:=hD (zdm s w hs hv);have HR:Hid (Zc s.data.toList=none):=hD (by unfold Zc;rw[hv];rfl);clear hv;go_in;go_wp2_with fail;refine HG.mono ?_;rintro e w' ⟨rfl,c,hc,rfl⟩;have hc1:(c == 0)=false:=by simpa using hc
  have hc2:(c != 0)=true:=by simpa using hc
  go_wp2_with fail;go_ret3;exact ret_i_none HR c hc
 |some x=>
  obtain⟨n,k⟩:=x;have HG:=hD (zdj s w hs n k hv);have hn:=zbR hv;have HR:Hid (Zc s.data.toList=some (zcK n,k)):=hD (by unfold Zc;rw[hv];rfl);clear hv;go_in;go_wp2_with fail;refine HG.mono ?_;rintro e w' ⟨rfl,rfl⟩;go_wp2_with fail;go_ret3;exact ret_i_some HR (unzig_bits n hn)
theorem geti_none(s:qL)(w:World)(hs:s.size≤70368744177664)(h:Zc s.data.toList=none) :
    Calls qC 263 #[s] w fun e w'=>w=w'∧∃c:Int,c≠0∧e= .returned (.tuple #[(),(),c]):=
 (zbD s w hs).mono fun _ _ ⟨hw,he⟩=>by rw[h]at he;exact⟨hw,he⟩
theorem geti_some(s:qL)(w:World)(hs:s.size≤70368744177664)(x:Int)(k:Nat)(h:Zc s.data.toList=some (x,k)) :
    Calls qC 263 #[s] w fun e w'=>w=w'∧e= .returned (.tuple #[x,k,()]):=
 (zbD s w hs).mono fun _ _ ⟨hw,he⟩=>by rw[h]at he;exact⟨hw,he⟩
def RetN(l:List UInt8)(w:World)(e:zc)(w':World):Prop:=Below w.heap.size w w'∧match zy l with
 |some (xs,k)=>∃A c,e= .returned (.tuple #[.slice A xs.length c,k,()])∧w'.ownsRow w.heap.size 3 1 (.slice A xs.length c) xs.length (intC xs)
 |none=>∃c:Int,c≠0∧e= .returned (.tuple #["s",(),c])
theorem zco(h:zy l=none)(c:Int)(hc:c≠0)(hb:Below w.heap.size w w'):RetN l w (.returned (.tuple #["s",(),c])) w':=fo203
theorem zgv{xs:List Int}(h:zy l=some (xs,k))(hn:n=xs.length)(hr:w'.ownsRow w.heap.size 3 1 (.slice A n c) n (intC xs))(hb:Below w.heap.size w w'):RetN l w (.returned (.tuple #[.slice A n c,k,()])) w':=by
 refine⟨hb,?_⟩;rw[h];subst hn;exact⟨A,c,rfl,hr⟩
theorem listInt_any(s:qL)(w:World)(hs:s.size≤1099511627776) :
    Calls qC 262 #[s,.func (.func 263) #[] #[]] w (RetN s.data.toList w):=by
 cases hv:getV s.data.toList with
 |none=>
  have HG:=hD (zdm s w ja hv);exact fo83
 |some x=>
  obtain⟨n,k⟩:=x;have HG:=hD (zdj s w ja n k hv);have hle:=Y3 hv;rw[zU]at hle;have hn:=zbR hv;obtain⟨k0,k1,k2⟩:=hle;have HL:Hid (zy s.data.toList=match zY Zc n (s.data.toList.drop k) with
   |none=>none
   |some (xs,m)=>some (xs,k+m)):=hD jbu
  obtain⟨i0,hi,hz0,hz1,hz2⟩:=info_parts infoN;have HI:=hD hi;have HZ0:=hD hz0;have HZ1:=hD hz1;have HZ2:=hD hz2;clear hi hz0 hz1 hz2 hv;go_in;go_wp2_with fail;refine HG.mono ?_;rintro e w' ⟨rfl,rfl⟩;go_wp2_with fail;go_loopw [8,10,24] (fun a o i wr=>∃(j p:Nat) (xs:List Int),i= .int .u64 j∧j≤n∧a= .int .i64 p∧p≤s.size∧j≤p∧xs.length=j∧wr.ownsRow w.heap.size 3 1 o j (intC xs)∧Below w.heap.size w wr∧w.heap.size≤wr.heap.size∧
   zy s.data.toList=(match zY Zc (n- j) (s.data.toList.drop p) with
   |none=>none
   |some (ys,m)=>some (xs++ys,p+m))) (fun _ _ i _=>n-(intOf i).toNat)
  case atStart=>exact⟨0,k,[],rfl,by omega,rfl,k2,by omega,rfl,qE _ _ _ _,qD _ _,qK _,by rw[HL.out];simp⟩
  case round=>
   obtain⟨j,p,xs,rfl,hj,rfl,hp,hjp,hxs,hown,hb,hge,hL⟩:=hrel;have HO:=hD hown;have HB:=hD hb;have HX:=hD hxs;have HE:=hD hL;clear hown hb hxs hL;by_cases hlt:j<n
   · have hj':(j:Int) <(n:Int):=by omega
     have hsl:(s.extract p s.size).size=s.size- p:=by simp
     have HD:=hD (zbB s p hp);have hmany:n- j=(n-(j+1))+1:=by omega
     cases hg:Zc (s.data.toList.drop p) with
     |none=>
      have HG1:=hD (geti_none (s.extract p s.size) wr ja jbv);have HR:Hid (zy s.data.toList=none):=hD jdt;clear hg hsl hmany;go_wp2_with fail;refine HG1.mono ?_;rintro e w' ⟨rfl,c,hc,rfl⟩;have hc1:(c == 0)=false:=by simpa using hc
      have hc2:(c != 0)=true:=by simpa using hc
      go_wp2_with fail;go_ret3;exact zco HR c hc HB
     |some x=>
      obtain⟨x,q⟩:=x;have HG1:=hD (geti_some (s.extract p s.size) wr ja x q jbv);have hq:=getInt_leW hg;simp only[qF,zU]at hq;obtain⟨q0,q1⟩:=hq;have HR:Hid (zy s.data.toList=(match zY Zc (n-(j+1)) (s.data.toList.drop (p+q)) with
       |none=>none
       |some (ys,m)=>some (xs++ [x]++ys,p+q+m))):=hD (by
        rw[HE.out,hmany,zY,hg];exact fo135)
      clear hg hsl hmany;go_wp2_with fail;refine HG1.mono ?_;rintro e w' ⟨rfl,rfl⟩;go_wp2_with (at_builtin;refine zj _ rfl _ _ 46 rfl w.heap.size 3 i0 _ 1 8 Tryz.underlying46 HI HZ0 HZ1 HZ2 rfl jf _ _ _ rfl (HO.alloc _) ⟨wr.heap.size,0,none⟩ 1 1 [x] rfl rfl (zN _ _ _ _ rfl) jr jq ja jg ?_);intro v' w2 hown' hgrow _;have HO2:=hD hown';have HG2:=hD hgrow;clear hown' hgrow;go_wp2_with fail;go_roundw
      case rel=>
       refine⟨j+1,p+q,xs++ [x],by go_num,by omega,by go_num,by omega,by omega,by simp[HX.out],?_,below_grown (HB.alloc hge _) jg HG2 (fun g hg=>(HO.lt g hg).1),?_,HR⟩
       · rw[intC_snoc];exact HO2
       · exact fo59
      case measure=>simp[intOf];omega
   · have hjn:j=n:=by omega
     have HR:Hid (zy s.data.toList=some (xs,p)):=hD jbn;obtain⟨A,c,hv⟩:=ownsRow_form HO.out;subst hv;exact fo157
theorem zax(h:Calls P f args w (RetN l w))(hl:zy l=none) :
    Calls P f args w fun e w'=>(∃c:Int,c≠0∧e= .returned (.tuple #["s",(),c]))∧Below w.heap.size w w':=
 h.mono fun _ _ ⟨hw,he⟩=>by rw[hl]at he;exact⟨he,hw⟩
theorem Y2{xs:List Int}(h:Calls P f args w (RetN l w))(hl:zy l=some (xs,k)) :
    Calls P f args w fun e w'=>(∃A c,e= .returned (.tuple #[.slice A xs.length c,k,()])∧w'.ownsRow w.heap.size 3 1 (.slice A xs.length c) xs.length (intC xs))∧Below w.heap.size w w':=
 h.mono fun _ _ ⟨hw,he⟩=>by rw[hl]at he;exact⟨he,hw⟩
theorem zeQ(s:qL)(w:World)(hs:s.size≤1099511627776) :
    Calls qC 232 #[s] w (RetN s.data.toList w):=by
 have hL:=listInt_any s w hs;cases hl:zy s.data.toList with
 |none=>
  have HL:=hD (zax hL hl);have HR:=hD hl;clear hl hL;go_in;go_wp2_with fail;refine HL.mono ?_;rintro e w' ⟨⟨c,hc,rfl⟩,hb⟩;go_wp2_with fail;go_ret3;exact zco HR c hc hb
 |some x=>
  obtain⟨xs,k⟩:=x;have HL:=hD (Y2 hL hl);have HR:=hD hl;clear hl hL;go_in;go_wp2_with fail;refine HL.mono ?_;rintro e w' ⟨⟨A,c,rfl,hr⟩,hb⟩;go_wp2_with fail;go_ret3;exact zgv HR rfl hr hb
def RetT(l:List UInt8)(w:World)(e:zc)(w':World):Prop:=Below w.heap.size w w'∧match zF l with
 |some (xs,k)=>∃A c,e= .returned (.tuple #[.slice A xs.length c,k,()])∧w'.ownsRow w.heap.size 9 1 (.slice A xs.length c) xs.length (strC xs)
 |none=>∃c:Int,c≠0∧e= .returned (.tuple #["s",(),c])
theorem zci(h:zF l=none)(c:Int)(hc:c≠0)(hb:Below w.heap.size w w'):RetT l w (.returned (.tuple #["s",(),c])) w':=fo203
theorem zf5{xs:List (List UInt8)}(h:zF l=some (xs,k))(hn:n=xs.length)(hr:w'.ownsRow w.heap.size 9 1 (.slice A n c) n (strC xs))(hb:Below w.heap.size w w'):RetT l w (.returned (.tuple #[.slice A n c,k,()])) w':=by
 refine⟨hb,?_⟩;rw[h];subst hn;exact⟨A,c,rfl,hr⟩
theorem listText_any(s:qL)(w:World)(hs:s.size≤1099511627776) :
    Calls qC 203 #[s,.func (.func 204) #[] #[]] w (RetT s.data.toList w):=by
 cases hv:getV s.data.toList with
 |none=>
  have HG:=hD (zdm s w ja hv);exact fo82
 |some x=>
  obtain⟨n,k⟩:=x;have HG:=hD (zdj s w ja n k hv);have hle:=Y3 hv;rw[zU]at hle;have hn:=zbR hv;obtain⟨k0,k1,k2⟩:=hle;have HL:Hid (zF s.data.toList=match zY yg n (s.data.toList.drop k) with
   |none=>none
   |some (xs,m)=>some (xs,k+m)):=hD jau
  obtain⟨i0,hi,hz0,hz1,hz2⟩:=info_parts zdU;have HI:=hD hi;have HZ0:=hD hz0;have HZ1:=hD hz1;have HZ2:=hD hz2;clear hi hz0 hz1 hz2 hv;go_in;go_wp2_with fail;refine HG.mono ?_;rintro e w' ⟨rfl,rfl⟩;go_wp2_with fail;go_loopw [8,10,24] (fun a o i wr=>∃(j p:Nat) (xs:List (List UInt8)),i= .int .u64 j∧j≤n∧a= .int .i64 p∧p≤s.size∧j≤p∧xs.length=j∧wr.ownsRow w.heap.size 9 1 o j (strC xs)∧Below w.heap.size w wr∧w.heap.size≤wr.heap.size∧
   zF s.data.toList=(match zY yg (n- j) (s.data.toList.drop p) with
   |none=>none
   |some (ys,m)=>some (xs++ys,p+m))) (fun _ _ i _=>n-(intOf i).toNat)
  case atStart=>exact⟨0,k,[],rfl,by omega,rfl,k2,by omega,rfl,qE _ _ _ _,qD _ _,qK _,by rw[HL.out];simp⟩
  case round=>
   obtain⟨j,p,xs,rfl,hj,rfl,hp,hjp,hxs,hown,hb,hge,hL⟩:=hrel;have HO:=hD hown;have HB:=hD hb;have HX:=hD hxs;have HE:=hD hL;clear hown hb hxs hL;by_cases hlt:j<n
   · have hj':(j:Int) <(n:Int):=by omega
     have hsl:(s.extract p s.size).size=s.size- p:=by simp
     have HD:=hD (zbB s p hp);have hmany:n- j=(n-(j+1))+1:=by omega
     cases hg:yg (s.data.toList.drop p) with
     |none=>
      have HG1:=hD (zdg (s.extract p s.size) wr ja jbv);have HR:Hid (zF s.data.toList=none):=hD jdt;clear hg hsl hmany;go_wp2_with fail;refine HG1.mono ?_;rintro e w' ⟨rfl,c,hc,rfl⟩;have hc1:(c == 0)=false:=by simpa using hc
      have hc2:(c != 0)=true:=by simpa using hc
      go_wp2_with fail;go_ret3;exact zci HR c hc HB
     |some x=>exact fo25
   · have hjn:j=n:=by omega
     have HR:Hid (zF s.data.toList=some (xs,p)):=hD jbn;obtain⟨A,c,hv⟩:=ownsRow_form HO.out;subst hv;exact fo156
theorem ze1(h:Calls P f args w (RetT l w))(hl:zF l=none) :
    Calls P f args w fun e w'=>(∃c:Int,c≠0∧e= .returned (.tuple #["s",(),c]))∧Below w.heap.size w w':=
 h.mono fun _ _ ⟨hw,he⟩=>by rw[hl]at he;exact⟨he,hw⟩
theorem zeZ{xs:List (List UInt8)}(h:Calls P f args w (RetT l w))(hl:zF l=some (xs,k)) :
    Calls P f args w fun e w'=>(∃A c,e= .returned (.tuple #[.slice A xs.length c,k,()])∧w'.ownsRow w.heap.size 9 1 (.slice A xs.length c) xs.length (strC xs))∧Below w.heap.size w w':=
 h.mono fun _ _ ⟨hw,he⟩=>by rw[hl]at he;exact⟨he,hw⟩
theorem getTexts_any(s:qL)(w:World)(hs:s.size≤1099511627776) :
    Calls qC 140 #[s] w (RetT s.data.toList w):=by
 have hL:=listText_any s w hs;cases hl:zF s.data.toList with
 |none=>
  have HL:=hD (ze1 hL hl);have HR:=hD hl;clear hl hL;go_in;go_wp2_with fail;refine HL.mono ?_;rintro e w' ⟨⟨c,hc,rfl⟩,hb⟩;go_wp2_with fail;go_ret3;exact zci HR c hc hb
 |some x=>
  obtain⟨xs,k⟩:=x;have HL:=hD (zeZ hL hl);have HR:=hD hl;clear hl hL;go_in;go_wp2_with fail;refine HL.mono ?_;rintro e w' ⟨⟨A,c,rfl,hr⟩,hb⟩;go_wp2_with fail;go_ret3;exact zf5 HR rfl hr hb
theorem unit_le(k:Nat)(hk:k≤9):128 ^ k≤9223372036854775808:=by
 have:=qJ (n:=128) ja hk;omega
theorem ref_test':∀(c:Fin 128) (k:Fin 10),decide (18446744073709551616≤c.val * 128 ^ k.val)=(decide (k.val=9) && decide (1<c.val)):=by decide +kernel
theorem ref_test(c k:Nat)(hc:c<128)(hk:k≤9):18446744073709551616≤c * 128 ^ k↔(k=9∧1<c):=by
 have:=ref_test' ⟨c,hc⟩ ⟨k,by omega⟩;rw[Bool.eq_iff_iff]at this;simpa using this
theorem wrap_mul(c U:Nat)(h:c * U<18446744073709551616):zv.wrap ((c:Int) *(U:Int))=((c * U:Nat):Int):=by
 rw[←Int.natCast_mul,qA];omega
theorem wrap_sub(c U:Nat)(hc:128≤c)(h:(c- 128) * U<18446744073709551616):zv.wrap (((c:Int)- 128) *(U:Int))=(((c- 128) * U:Nat):Int):=by
 rw[show((c:Int)- 128)=((c- 128:Nat):Int) from by omega];exact wrap_mul _ _ h
theorem wrap_add(a b:Nat)(h:a+b<18446744073709551616):zv.wrap ((a:Int)+(b:Int))=((a+b:Nat):Int):=by
 rw[←Int.natCast_add,qA];omega
theorem zgr(s:qL)(w:World)(hs:s.size≤70368744177664) :
    Calls qC 242 #[s] w (RetV s.data.toList w):=by
 go_in;go_wp2_with fail;go_loop [5,6,7] (fun n u i=>∃(k a:Nat) (v z:Int),i= .int .i64 k∧k≤10∧k≤s.size∧n= .int .u64 v∧u= .int .u64 z∧(k≤9→v=a∧z=((128 ^ k:Nat):Int))∧a<128 ^ k∧getV s.data.toList=Yv (10- k) k a (s.data.toList.drop k)) (fun _ _ i=>10-(intOf i).toNat)
 case atStart=>exact⟨0,0,0,1,rfl,by omega,by omega,rfl,rfl,fun _=>⟨rfl,rfl⟩,by omega,rfl⟩
 case round=>
  obtain⟨k,a,v,z,rfl,hk,hks,rfl,rfl,hv,ha,hg⟩:=hrel;have HG:=hD hg;clear hg;by_cases hlt:k<s.size∧k<10
  · obtain⟨hl1,hl2⟩:=hlt;obtain⟨rfl,rfl⟩:=hv ja;have hc:=Zq s[k];have hu:=unit_le k ja;obtain⟨U,hU⟩:∃U,U=128 ^ k:=⟨_,rfl⟩;rw[←hU]at hu ha⊢;have HU:=hD hU;clear hU;by_cases hb:128≤s[k].toNat
    · go_wp2_with fail;go_round
      case rel=>
       have hpow:128 ^(k+1)=U * 128:=by rw[HU.out];exact qH 128 k
       have hmul:(s[k].toNat- 128) * U≤127 * U:=qI _ ja;refine⟨k+1,a+(s[k].toNat- 128) * U,_,_,by go_num,by omega,by omega,rfl,rfl,fun h9=>⟨?_,?_⟩,by omega,?_⟩
       · have h8:128 ^(k+1)≤128 ^ 9:=qJ ja h9;rw[wrap_sub _ U hb ja,wrap_add _ _ ja]
       · have h8:128 ^(k+1)≤128 ^ 9:=qJ ja h9;rw[show(U:Int) * 128=(U:Int) *((128:Nat):Int) from rfl,wrap_mul _ _ ja,hpow]
       · rw[HG.out,Y0 s k a hl1 ja,qM hb,HU.out]
      case measure=>simp[intOf];omega
    · have HT:=hD (ref_test s[k].toNat k ja ja);by_cases hq:k=9∧1<s[k].toNat
      · have hr:getV s.data.toList=none:=by rw[HG.out,Y0 s k a hl1 ja,qN hb,qM (HT.out.2 hq)]
        have HR:=hD hr;obtain⟨hk9,hc1⟩:=hq;have h9:((k:Int) == 9)=true:=by rw[qO];omega
        have h1:(1:Int) <(s[k].toNat:Int):=by omega
        clear hr hk9;exact fo281
      · have hlt2:=fun h=>hq (HT.1 h)
        have hsp:(((k:Int) == 9)=false)∨(((k:Int) == 9)=true∧¬(1:Int) <(s[k].toNat:Int)):=by
         by_cases h0:k=9
         · right;constructor
           · rw[qO];omega
           · intro h;exact hq ⟨h0,by omega⟩
         · left;rw[qP];omega
        by_cases hz:s[k].toNat=0∧0<k
        · have hr:getV s.data.toList=none:=by rw[HG.out,Y0 s k a hl1 ja,qN hb,qN hlt2,qM hz]
          have HR:=hD hr;have hz1:((s[k].toNat:Int) == 0)=true:=by simp;exact hz.1
          have hz2:(0:Int) <(k:Int):=by omega
          have hz3:=hz.1;clear hr hlt2 hz hq;rcases hsp with h9|⟨h9,h1⟩;all_goals
           go_wp2_with fail;go_ret3;exact zdH HR _ jf
        · have hr:getV s.data.toList=some (a+s[k].toNat * 128 ^ k,k+1):=by rw[HG.out,Y0 s k a hl1 ja,qN hb,qN hlt2,qN hz]
          have HR:=hD hr;have hfit:=step_fit a s[k].toNat k ja ja (by rw[←HU.out];exact ha) hlt2;rw[←HU.out]at hfit;have HO:Hid (zv.wrap ((a:Int)+zv.wrap ((s[k].toNat:Int) *(U:Int)))=((a+s[k].toNat * 128 ^ k:Nat):Int)):=hD (by rw[wrap_mul _ _ ja,wrap_add _ _ hfit,HU.out]);have hz1:((s[k].toNat:Int) == 0)=false∨(((s[k].toNat:Int) == 0)=true∧¬(0:Int) <(k:Int)):=fo147;clear hr hlt2 hz hq;rcases hsp with h9|⟨h9,h1⟩;all_goals
           rcases hz1 with hz1|⟨hz1,hz2⟩;all_goals
            go_wp2_with fail;go_ret3;exact zgq HR (by first|exact HO.out|(rw[←HU.out];simp)) (by go_num)
  · have hr:getV s.data.toList=none:=by
      rw[HG.out];exact zgu s k a ja
    have HR:=hD hr;clear hr;have hsp:((k:Int) <(s.size:Int)∧¬(k:Int) <10)∨¬(k:Int) <(s.size:Int):=by omega
    clear hlt;rcases hsp with⟨h1,h2⟩|h1
    · exact fo281
    · by_cases h3:(s.size:Int) <10
      · exact fo281
      · exact fo281
theorem zcW(s:qL)(w:World)(hs:s.size≤70368744177664)(h:getV s.data.toList=none) :
    Calls qC 242 #[s] w fun e w'=>w=w'∧∃c:Int,c≠0∧e= .returned (.tuple #[.int .u64 0,(),c]):=
 (zgr s w hs).mono fun _ _ ⟨hw,he⟩=>by rw[h]at he;exact⟨hw,he⟩
theorem zc8(s:qL)(w:World)(hs:s.size≤70368744177664)(n k:Nat)(h:getV s.data.toList=some (n,k)) :
    Calls qC 242 #[s] w fun e w'=>w=w'∧e= .returned (.tuple #[.int .u64 n,k,()]):=
 (zgr s w hs).mono fun _ _ ⟨hw,he⟩=>by rw[h]at he;exact⟨hw,he⟩
theorem zdq(s:qL)(w:World)(hs:s.size≤70368744177664) :
    Calls qC 197 #[s] w (RetS s.data.toList w):=by
 cases hv:getV s.data.toList with
 |none=>
  have HG:=hD (zcW s w hs hv);exact fo91
 |some x=>
  obtain⟨n,k⟩:=x;have HG:=hD (zc8 s w hs n k hv);exact fo45
theorem zbb(s:qL)(w:World)(hs:s.size≤70368744177664)(h:yg s.data.toList=none) :
    Calls qC 197 #[s] w fun e w'=>w=w'∧∃c:Int,c≠0∧e= .returned (.tuple #["",(),c]):=
 (zdq s w hs).mono fun _ _ ⟨hw,he⟩=>by rw[h]at he;exact⟨hw,he⟩
theorem zcl(s:qL)(w:World)(hs:s.size≤70368744177664)(x:List UInt8)(k:Nat)(h:yg s.data.toList=some (x,k)) :
    Calls qC 197 #[s] w fun e w'=>w=w'∧e= .returned (.tuple #[x,k,()]):=
 (zdq s w hs).mono fun _ _ ⟨hw,he⟩=>by rw[h]at he;exact⟨hw,he⟩
theorem getInt_none(h:getV s=none):Zc s=none:=by unfold Zc;rw[h];rfl
theorem getInt_some{x q:Nat}(h:getV s=some (x,q)):Zc s=some (zcK x,q):=by unfold Zc;rw[h];rfl
def sliceLen:Value→Nat
 | .slice _ n _=>n
 |_=>0
theorem zf0(n:Nat)(w:World)(hn:n<18446744073709551616):Calls qC 243 #[.int .u64 n] w fun e w'=>e= .returned (.int .i64 (zcK n))∧w=w':=by
 by_cases h:n % 2=0
 · have H:Hid (zcK n=((n / 2:Nat):Int)):=hD (by unfold zcK;rw[qM h]);have h1:((n:Int) % 2 == 0)=true:=by rw[qO];omega
   exact fo204
 · have H:Hid (zcK n=-((n / 2:Nat):Int)- 1):=hD (by unfold zcK;rw[qN h]);have h1:((n:Int) % 2 == 0)=false:=by rw[qP];omega
   exact fo204
theorem zcz(s:qL)(w:World)(hs:s.size≤1099511627776) :
    Calls qC 199 #[s] w (RetT s.data.toList w):=by
 cases hv:getV s.data.toList with
 |none=>
  have HG:=hD (zcW s w ja hv);exact fo82
 |some x=>
  obtain⟨n,k⟩:=x;have HG:=hD (zc8 s w ja n k hv);have hle:=Y3 hv;rw[zU]at hle;have hn:=zbR hv;obtain⟨k0,k1,k2⟩:=hle;have HL:Hid (zF s.data.toList=match zY yg n (s.data.toList.drop k) with
   |none=>none
   |some (xs,m)=>some (xs,k+m)):=hD jau
  obtain⟨i0,hi,hz0,hz1,hz2⟩:=info_parts zdU;have HI:=hD hi;have HZ0:=hD hz0;have HZ1:=hD hz1;have HZ2:=hD hz2;clear hi hz0 hz1 hz2 hv;go_in;go_wp2_with fail;refine HG.mono ?_;rintro e w' ⟨rfl,rfl⟩;go_wp2_with fail;go_loopw [6,8] (fun a o wr=>∃(j p:Nat) (xs:List (List UInt8)) (A:Option Addr) (c:Nat),o= .slice A j c∧j≤n∧a= .int .i64 p∧p≤s.size∧j≤p∧xs.length=j∧wr.ownsRow w.heap.size 9 1 o j (strC xs)∧Below w.heap.size w wr∧w.heap.size≤wr.heap.size∧
   zF s.data.toList=(match zY yg (n- j) (s.data.toList.drop p) with
   |none=>none
   |some (ys,m)=>some (xs++ys,p+m))) (fun _ o _=>n- sliceLen o)
  case atStart=>exact⟨0,k,[],none,0,rfl,by omega,rfl,k2,by omega,rfl,qE _ _ _ _,qD _ _,qK _,by rw[HL.out];simp⟩
  case round=>
   obtain⟨j,p,xs,A,c,rfl,hj,rfl,hp,hjp,hxs,hown,hb,hge,hL⟩:=hrel;have HO:=hD hown;have HB:=hD hb;have HX:=hD hxs;have HE:=hD hL;clear hown hb hxs hL;by_cases hlt:j<n
   · have hj':(j:Int) <(n:Int):=by omega
     have hsl:(s.extract p s.size).size=s.size- p:=by simp
     have HD:=hD (zbB s p hp);have hmany:n- j=(n-(j+1))+1:=by omega
     cases hg:yg (s.data.toList.drop p) with
     |none=>
      have HG1:=hD (zbb (s.extract p s.size) wr ja jbv);have HR:Hid (zF s.data.toList=none):=hD jdt;clear hg hsl hmany;go_wp2_with fail;refine HG1.mono ?_;rintro e w' ⟨rfl,c',hc,rfl⟩;have hc1:(c' == 0)=false:=by simpa using hc
      have hc2:(c' != 0)=true:=by simpa using hc
      go_wp2_with fail;go_ret3;exact zci HR c' hc HB
     |some x=>
      obtain⟨x,q⟩:=x;have HG1:=hD (zcl (s.extract p s.size) wr ja x q jbv);have hq:=Zk hg;simp only[qF,zU]at hq;obtain⟨q0,q1,q2⟩:=hq;have HR:Hid (zF s.data.toList=(match zY yg (n-(j+1)) (s.data.toList.drop (p+q)) with
       |none=>none
       |some (ys,m)=>some (xs++ [x]++ys,p+q+m))):=hD (fo254)
      clear hg hsl hmany;go_wp2_with fail;refine HG1.mono ?_;rintro e w' ⟨rfl,rfl⟩;go_wp2_with (at_builtin;refine zj _ rfl _ _ 32 rfl w.heap.size 9 i0 _ 1 16 Tryz.underlying32 HI HZ0 HZ1 HZ2 rfl jf _ _ _ rfl (HO.alloc _) ⟨wr.heap.size,0,none⟩ 1 1 [x] rfl rfl (zN _ _ _ _ rfl) jr jq ja jg ?_);intro v' w2 hown' hgrow _;obtain⟨A',c',rfl⟩:=ownsRow_form hown';have HO2:=hD hown';have HG2:=hD hgrow;clear hown' hgrow;go_wp2_with fail;go_roundw
      case rel=>
       refine⟨j+1,p+q,xs++ [x],A',c',rfl,by omega,by go_num,by omega,by omega,by simp[HX.out],?_,below_grown (HB.alloc hge _) jg HG2 (fun g hg=>(HO.lt g hg).1),?_,HR⟩
       · rw[YY];exact HO2
       · exact fo59
      case measure=>simp[sliceLen];omega
   · have hjn:j=n:=by omega
     have HR:Hid (zF s.data.toList=some (xs,p)):=hD jbn;exact fo156
theorem YS(s:qL)(w:World)(hs:s.size≤1099511627776) :
    Calls qC 196 #[s] w (RetN s.data.toList w):=by
 cases hv:getV s.data.toList with
 |none=>
  have HG:=hD (zcW s w ja hv);exact fo83
 |some x=>
  obtain⟨n,k⟩:=x;have HG:=hD (zc8 s w ja n k hv);have hle:=Y3 hv;rw[zU]at hle;have hn:=zbR hv;obtain⟨k0,k1,k2⟩:=hle;have HL:Hid (zy s.data.toList=match zY Zc n (s.data.toList.drop k) with
   |none=>none
   |some (xs,m)=>some (xs,k+m)):=hD jbu
  obtain⟨i0,hi,hz0,hz1,hz2⟩:=info_parts infoN;have HI:=hD hi;have HZ0:=hD hz0;have HZ1:=hD hz1;have HZ2:=hD hz2;clear hi hz0 hz1 hz2 hv;go_in;go_wp2_with fail;refine HG.mono ?_;rintro e w' ⟨rfl,rfl⟩;go_wp2_with fail;go_loopw [6,8] (fun a o wr=>∃(j p:Nat) (xs:List Int) (A:Option Addr) (c:Nat),o= .slice A j c∧j≤n∧a= .int .i64 p∧p≤s.size∧j≤p∧xs.length=j∧wr.ownsRow w.heap.size 3 1 o j (intC xs)∧Below w.heap.size w wr∧w.heap.size≤wr.heap.size∧
   zy s.data.toList=(match zY Zc (n- j) (s.data.toList.drop p) with
   |none=>none
   |some (ys,m)=>some (xs++ys,p+m))) (fun _ o _=>n- sliceLen o)
  case atStart=>exact⟨0,k,[],none,0,rfl,by omega,rfl,k2,by omega,rfl,qE _ _ _ _,qD _ _,qK _,by rw[HL.out];simp⟩
  case round=>
   obtain⟨j,p,xs,A,c,rfl,hj,rfl,hp,hjp,hxs,hown,hb,hge,hL⟩:=hrel;have HO:=hD hown;have HB:=hD hb;have HX:=hD hxs;have HE:=hD hL;clear hown hb hxs hL;by_cases hlt:j<n
   · have hj':(j:Int) <(n:Int):=by omega
     have hsl:(s.extract p s.size).size=s.size- p:=by simp
     have HD:=hD (zbB s p hp);have hmany:n- j=(n-(j+1))+1:=by omega
     cases hg:getV (s.data.toList.drop p) with
     |none=>
      have HG1:=hD (zcW (s.extract p s.size) wr ja jbv);have HR:Hid (zy s.data.toList=none):=hD (by rw[HE.out,hmany,zY,getInt_none hg]);clear hg hsl hmany;go_wp2_with fail;refine HG1.mono ?_;rintro e w' ⟨rfl,c',hc,rfl⟩;have hc1:(c' == 0)=false:=by simpa using hc
      have hc2:(c' != 0)=true:=by simpa using hc
      go_wp2_with fail;go_ret3;exact zco HR c' hc HB
     |some x=>
      obtain⟨x,q⟩:=x;have HG1:=hD (zc8 (s.extract p s.size) wr ja x q jbv);have hq:=Y3 hg;simp only[qF,zU]at hq;obtain⟨q0,q2,q1⟩:=hq;have HI2:=hD (zf0 x wr (zbR hg));have HR:Hid (zy s.data.toList=(match zY Zc (n-(j+1)) (s.data.toList.drop (p+q)) with
       |none=>none
       |some (ys,m)=>some (xs++ [zcK x]++ys,p+q+m))):=hD (by
        rw[HE.out,hmany,zY,getInt_some hg];exact fo135)
      clear hg hsl hmany;go_wp2_with fail;refine HG1.mono ?_;rintro e w' ⟨rfl,rfl⟩;go_wp2_with fail;refine HI2.mono ?_;rintro e w' ⟨rfl,rfl⟩;go_wp2_with (at_builtin;refine zj _ rfl _ _ 46 rfl w.heap.size 3 i0 _ 1 8 Tryz.underlying46 HI HZ0 HZ1 HZ2 rfl jf _ _ _ rfl (HO.alloc _) ⟨wr.heap.size,0,none⟩ 1 1 [zcK x] rfl rfl (zN _ _ _ _ rfl) jr jq ja jg ?_);intro v' w2 hown' hgrow _;obtain⟨A',c',rfl⟩:=ownsRow_form hown';have HO2:=hD hown';have HG2:=hD hgrow;clear hown' hgrow;go_wp2_with fail;go_roundw
      case rel=>
       refine⟨j+1,p+q,xs++ [zcK x],A',c',rfl,by omega,by go_num,by omega,by omega,by simp[HX.out],?_,below_grown (HB.alloc hge _) jg HG2 (fun g hg=>(HO.lt g hg).1),?_,HR⟩
       · rw[intC_snoc];exact HO2
       · exact fo59
      case measure=>simp[sliceLen];omega
   · have hjn:j=n:=by omega
     have HR:Hid (zy s.data.toList=some (xs,p)):=hD jbn;exact fo157
