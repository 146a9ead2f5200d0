/- The contracts of wire's readers: Get, GetString, GetList. -/
import Derived.Test.YtepbbaifpckcpaaGreatDoorPWa
open Go.Proofs.Tryz
namespace Go.Proofs.YtepbbaifpckcpaaGreatDoor
set_option maxRecDepth 100000
set_option maxHeartbeats 4000000
open Go.RowKit
theorem and127':∀n:Fin 256,bits BinOp.and IntKind.u8 (n.val:Int) 127=(n.val:Int) % 128:=by decide +kernel
theorem and127(n:Nat)(h:n<256):bits BinOp.and IntKind.u8 (n:Int) 127=((n % 128:Nat):Int):=by
 rw[and127' ⟨n,h⟩];rfl
theorem len_test':∀(c:Fin 128) (k:Fin 10),decide (64<Lib.bitLen c.val+7 * k.val)=decide (18446744073709551616≤c.val * 128 ^ k.val):=by decide +kernel
theorem len_test(c k:Nat)(hc:c<128)(hk:k≤9):64<Lib.bitLen c+7 * k↔18446744073709551616≤c * 128 ^ k:=by
 have:=len_test' ⟨c,hc⟩ ⟨k,by omega⟩;simpa using this
theorem bitLen_le':∀c:Fin 128,Lib.bitLen c.val≤7:=by decide +kernel
theorem or_shift(a c k:Nat)(ha:a<128 ^ k)(hb:a+c * 128 ^ k<18446744073709551616) :
    bits BinOp.or IntKind.u64 (a:Int) (IntKind.u64.wrap (IntKind.u64.wrap (c:Int) * 2 ^(7 * k)))=((a+c * 128 ^ k:Nat):Int):=by
 have e:(128:Nat) ^ k=2 ^(7 * k):=by rw[Nat.pow_mul]
 have hp:1≤128 ^ k:=Nat.pow_pos ja;have hc:c≤c * 128 ^ k:=Nat.le_mul_of_pos_right c hp;have h1:IntKind.u64.wrap (c:Int)=(c:Int):=by rw[eQ];omega
 have h2:(c:Int) * 2 ^(7 * k)=((c * 128 ^ k:Nat):Int):=by rw[e];simp
 have h3:IntKind.u64.wrap ((c * 128 ^ k:Nat):Int)=((c * 128 ^ k:Nat):Int):=by rw[eQ];omega
 rw[h1,h2,h3,bits_or_u64_nat _ _ ja ja];congr 1;rw[Nat.or_comm,e,←Nat.shiftLeft_eq,←Nat.shiftLeft_add_eq_or_of_lt (by rw[←e];exact ha),dS]
theorem or_shift'(a c k:Nat)(ha:a<128 ^ k)(hb:a+c * 128 ^ k<18446744073709551616) :
    bits BinOp.or IntKind.u64 (a:Int) (IntKind.u64.wrap ((c:Int) * 2 ^(7 * k)))=((a+c * 128 ^ k:Nat):Int):=by
 have hp:1≤128 ^ k:=Nat.pow_pos ja;have hc:c≤c * 128 ^ k:=Nat.le_mul_of_pos_right c hp;have h1:IntKind.u64.wrap (c:Int)=(c:Int):=by rw[eQ];omega
 have:=or_shift a c k ha hb;rwa[h1]at this
theorem YV(s:ByteArray)(k a:Nat)(h:k<s.size)(hk:k≤9):Yu (10- k) k a (s.data.toList.drop k) =
    if 128≤s[k].toNat then Yu (10-(k+1)) (k+1) (a+(s[k].toNat- 128) * 128 ^ k) (s.data.toList.drop (k+1))
    else if 18446744073709551616≤s[k].toNat * 128 ^ k then none else if s[k].toNat=0∧0<k then none else some (a+s[k].toNat * 128 ^ k,k+1):=by
 rw[drop_at s k h,show 10- k=(10-(k+1))+1 from by omega,Yu]
theorem zgD(s:ByteArray)(k a:Nat)(h:k=s.size∨k=10):Yu (10- k) k a (s.data.toList.drop k)=none:=by
 rcases h with rfl|rfl
 · rw[bJ jc];cases 10- s.size <;> rfl
 · rfl
def RetV(l:List UInt8)(w:World)(e:Ending)(w':World):Prop:=w=w'∧match getV l with
 |some (n,k)=>e= .returned (.tuple #[.int .u64 n,k,()])
 |none=>∃c:Int,c≠0∧e= .returned (.tuple #[.int .u64 0,(),c])
variable{args:Array Value}{f:FuncId}{x y:Int}{l s:List UInt8}{c k n:Nat}{A:Option Addr}{P:Program}{w w':World}
theorem zdL(h:getV l=none)(c:Int)(hc:c≠0):RetV l w (.returned (.tuple #[.int .u64 0,(),c])) w:=by
 refine⟨rfl,?_⟩;rw[h];exact⟨c,hc,rfl⟩
theorem zgh(h:getV l=some (n,k))(hx:x=(n:Int))(hy:Value.int .i64 y= .int .i64 (k:Int)):RetV l w (.returned (.tuple #[.int .u64 x,y,()])) w:=by
 refine⟨rfl,?_⟩;rw[h,hx,hy]
theorem get_any(s:ByteArray)(w:World)(hs:s.size≤70368744177664) :
    Calls prog 245 #[s] w (RetV s.data.toList w):=by
 obtain⟨m,hm⟩:∃m:Nat,m=min s.size 10:=⟨_,rfl⟩;have hmm:min (s.size:Int) 10=(m:Int):=by omega
 have m1:m≤10:=by omega
 have m2:m≤s.size:=by omega
 have HM:Hid (m<10→m=s.size):=hD ja;clear hm;go_in;go_wp2_with fail;clear hmm;go_loop [5,11] (fun n i=>∃(k a:Nat) (v:Int),i= .int .i64 k∧k≤m∧n= .int .u64 v∧(k≤9→v=a)∧a<128 ^ k∧getV s.data.toList=Yu (10- k) k a (s.data.toList.drop k)) (fun _ i=>m-(intOf i).toNat)
 case atStart=>exact⟨0,0,0,rfl,by omega,rfl,fun _=>rfl,by omega,rfl⟩
 case round=>
  obtain⟨k,a,v,rfl,hk,rfl,hv,ha,hg⟩:=hrel;have HG:=hD hg;clear hg;by_cases hlt:k<m
  · have hks:k<s.size:=by omega
    obtain rfl:v=a:=hv ja;clear hv;have hc:=Zq s[k];by_cases hb:128≤s[k].toNat
    · go_wp2_with fail;go_round
      case rel=>
       have hpow:128 ^(k+1)=128 ^ k * 128:=dG 128 k;have hmul:(s[k].toNat- 128) * 128 ^ k≤127 * 128 ^ k:=fq _ ja;refine⟨k+1,a+(s[k].toNat- 128) * 128 ^ k,_,by go_num,by omega,rfl,fun h9=> ?_,by omega,?_⟩
       · have h8:128 ^(k+1)≤128 ^ 9:=dV ja h9;rw[and127 _ hc,show s[k].toNat % 128=s[k].toNat- 128 from by omega];exact or_shift a _ k ha ja
       · rw[HG.out,YV s k a hks ja,af hb]
      case measure=>simp[intOf];omega
    · have hbl:=bitLen_le' ⟨s[k].toNat,by omega⟩;simp only[]at hbl;have HT:=hD (len_test s[k].toNat k ja ja);by_cases hq:64<Lib.bitLen s[k].toNat+7 * k
      · have hr:getV s.data.toList=none:=by rw[HG.out,YV s k a hks ja,aa hb,af (HT.out.1 hq)]
        have HR:=hD hr;clear hr;have hq':(64:Int) <(Lib.bitLen s[k].toNat:Int)+7 *(k:Int):=by omega
        exact fo264
      · have hq':¬(64:Int) <(Lib.bitLen s[k].toNat:Int)+7 *(k:Int):=by omega
        have hlt2:=fun h=>hq (HT.2 h)
        by_cases hz:s[k].toNat=0∧0<k
        · have hr:getV s.data.toList=none:=by rw[HG.out,YV s k a hks ja,aa hb,aa hlt2,af hz]
          have HR:=hD hr;have hz1:((s[k].toNat:Int) == 0)=true:=by simp;exact hz.1
          have hz2:(0:Int) <(k:Int):=by omega
          clear hr hlt2 hz;exact fo264
        · have hr:getV s.data.toList=some (a+s[k].toNat * 128 ^ k,k+1):=by rw[HG.out,YV s k a hks ja,aa hb,aa hlt2,aa hz]
          have HR:=hD hr;have HO:=hD (or_shift' a s[k].toNat k ha (step_fit a _ k ja ja ha hlt2));clear hr hlt2;have hz1:((s[k].toNat:Int) == 0)=false∨(((s[k].toNat:Int) == 0)=true∧¬(0:Int) <(k:Int)):=fo147;clear hz;rcases hz1 with hz1|⟨hz1,hz2⟩;all_goals
           go_wp2_with (go_at_call 270;refine(Tryz.bits_Len8 _ _ ja ja).mono ?_;rintro e w' ⟨rfl,rfl⟩);go_ret3;exact zgh HR (HO) (by go_num)
  · have hr:getV s.data.toList=none:=by
      rw[HG.out];exact zgD s k a (by
       have:=HM.out;omega)
    have HR:=hD hr;clear hr;go_wp2_with fail;all_goals
     go_ret3;exact zdL HR _ jf
def RetS(l:List UInt8)(w:World)(e:Ending)(w':World):Prop:=w=w'∧match yg l with
 |some (x,k)=>e= .returned (.tuple #[x,k,()])
 |none=>∃c:Int,c≠0∧e= .returned (.tuple #["",(),c])
theorem zgk(h:yg l=none)(c:Int)(hc:c≠0):RetS l w (.returned (.tuple #["",(),c])) w:=by
 refine⟨rfl,?_⟩;rw[h];exact⟨c,hc,rfl⟩
theorem ret_s_some{x:List UInt8}{z:ByteArray}(h:yg l=some (x,k))(hx:z=⟨x.toArray⟩)(hy:Value.int .i64 y= .int .i64 (k:Int)):RetS l w (.returned (.tuple #[z,y,()])) w:=by
 refine⟨rfl,?_⟩;rw[h,hx,hy]
theorem zdy(s:ByteArray)(w:World)(hs:s.size≤70368744177664)(h:getV s.data.toList=none) :
    Calls prog 245 #[s] w fun e w'=>w=w'∧∃c:Int,c≠0∧e= .returned (.tuple #[.int .u64 0,(),c]):=
 (get_any s w hs).mono fun _ _ ⟨hw,he⟩=>by rw[h]at he;exact⟨hw,he⟩
theorem zc8(s:ByteArray)(w:World)(hs:s.size≤70368744177664)(n k:Nat)(h:getV s.data.toList=some (n,k)) :
    Calls prog 245 #[s] w fun e w'=>w=w'∧e= .returned (.tuple #[.int .u64 n,k,()]):=
 (get_any s w hs).mono fun _ _ ⟨hw,he⟩=>by rw[h]at he;exact⟨hw,he⟩
theorem zbT(h:getV l=some (n,k)):n<18446744073709551616:=ze1 10 0 0 l n k ja ja h
theorem zdl(s:ByteArray)(w:World)(hs:s.size≤70368744177664) :
    Calls prog 204 #[s] w (RetS s.data.toList w):=by
 cases hv:getV s.data.toList with
 |none=>
  have HG:=hD (zdy s w hs hv);exact fo91
 |some x=>
  obtain⟨n,k⟩:=x;have HG:=hD (zc8 s w hs n k hv);exact fo45
def RetL(l:List UInt8)(w:World)(e:Ending)(w':World):Prop:=Below w.heap.size w w'∧match zF l with
 |some (xs,k)=>∃A c,e= .returned (.tuple #[.slice A xs.length c,k,()])∧Rd w' 1 A xs.length (strC xs)∧xs.length≤c
 |none=>∃c:Int,c≠0∧e= .returned (.tuple #["s",(),c])
theorem zdO(h:zF l=none)(c:Int)(hc:c≠0)(hb:Below w.heap.size w w'):RetL l w (.returned (.tuple #["s",(),c])) w':=fo203
theorem zgi{xs:List (List UInt8)}(h:zF l=some (xs,k))(hn:n=xs.length)(hr:Rd w' 1 A n (strC xs))(hc:n≤c)(hb:Below w.heap.size w w'):RetL l w (.returned (.tuple #[.slice A n c,k,()])) w':=by
 refine⟨hb,?_⟩;rw[h];subst hn;exact⟨A,c,rfl,hr,hc⟩
theorem zc2(s:ByteArray)(w:World)(hs:s.size≤70368744177664)(h:yg s.data.toList=none) :
    Calls prog 204 #[s] w fun e w'=>w=w'∧∃c:Int,c≠0∧e= .returned (.tuple #["",(),c]):=
 (zdl s w hs).mono fun _ _ ⟨hw,he⟩=>by rw[h]at he;exact⟨hw,he⟩
theorem ze4(s:ByteArray)(w:World)(hs:s.size≤70368744177664)(x:List UInt8)(k:Nat)(h:yg s.data.toList=some (x,k)) :
    Calls prog 204 #[s] w fun e w'=>w=w'∧e= .returned (.tuple #[x,k,()]):=
 (zdl s w hs).mono fun _ _ ⟨hw,he⟩=>by rw[h]at he;exact⟨hw,he⟩
theorem zcF{base e:Nat}{xs:List Value}(h:w.ownsRow base e k (.slice A n c) n xs):n≤c:=by
 rcases h.2 with⟨h1,h2⟩|⟨g,cap,cur,hv,_,_,hrest⟩
 · omega
 · injection hv with _ _ h3;subst h3;omega
theorem zby(s:ByteArray)(k:Nat)(_h:k≤s.size):(s.extract k s.size).data.toList=s.data.toList.drop k:=by
 rw[dP,bi jc]
theorem listStr_any(s:ByteArray)(w:World)(hs:s.size≤1099511627776) :
    Calls prog 203 #[s,.func (.func 204) #[] #[]] w (RetL s.data.toList w):=by
 cases hv:getV s.data.toList with
 |none=>
  have HG:=hD (zdy s w ja hv);have HR:Hid (zF s.data.toList=none):=hD (by unfold zF za5;rw[hv]);clear hv;go_in;go_wp2_with fail;refine HG.mono ?_;rintro e w' ⟨rfl,c,hc,rfl⟩;have hc1:(c == 0)=false:=by simpa using hc
  have hc2:(c != 0)=true:=by simpa using hc
  go_wp2_with fail;go_ret3;exact zdO HR c hc (ae _ _)
 |some x=>
  obtain⟨n,k⟩:=x;have HG:=hD (zc8 s w ja n k hv);have hle:=Y5 hv;rw[zU]at hle;have hn:=zbT hv;obtain⟨k0,k1,k2⟩:=hle;have HL:Hid (zF s.data.toList=match zY yg n (s.data.toList.drop k) with
   |none=>none
   |some (xs,m)=>some (xs,k+m)):=hD jau
  obtain⟨i0,hi,hz0,hz1,hz2⟩:=info_parts zdC;have HI:=hD hi;have HZ0:=hD hz0;have HZ1:=hD hz1;have HZ2:=hD hz2;clear hi hz0 hz1 hz2 hv;go_in;go_wp2_with fail;refine HG.mono ?_;rintro e w' ⟨rfl,rfl⟩;go_wp2_with fail;go_loopw [8,10,24] (fun a o i wr=>∃(j p:Nat) (xs:List (List UInt8)),i= .int .u64 j∧j≤n∧a= .int .i64 p∧p≤s.size∧j≤p∧xs.length=j∧wr.ownsRow w.heap.size 9 1 o j (strC xs)∧Below w.heap.size w wr∧w.heap.size≤wr.heap.size∧
   zF s.data.toList=(match zY yg (n- j) (s.data.toList.drop p) with
   |none=>none
   |some (ys,m)=>some (xs++ys,p+m))) (fun _ _ i _=>n-(intOf i).toNat)
  case atStart=>exact⟨0,k,[],rfl,by omega,rfl,k2,by omega,rfl,aR _ _ _ _,ae _ _,ag _,by rw[HL.out];simp⟩
  case round=>
   obtain⟨j,p,xs,rfl,hj,rfl,hp,hjp,hxs,hown,hb,hge,hL⟩:=hrel;have HO:=hD hown;have HB:=hD hb;have HX:=hD hxs;have HE:=hD hL;clear hown hb hxs hL;by_cases hlt:j<n
   · have hj':(j:Int) <(n:Int):=by omega
     have hsl:(s.extract p s.size).size=s.size- p:=by simp
     have HD:=hD (zby s p hp);have hmany:n- j=(n-(j+1))+1:=by omega
     cases hg:yg (s.data.toList.drop p) with
     |none=>
      have HG1:=hD (zc2 (s.extract p s.size) wr ja jbv);have HR:Hid (zF s.data.toList=none):=hD jdt;clear hg hsl hmany;go_wp2_with fail;refine HG1.mono ?_;rintro e w' ⟨rfl,c,hc,rfl⟩;have hc1:(c == 0)=false:=by simpa using hc
      have hc2:(c != 0)=true:=by simpa using hc
      go_wp2_with fail;go_ret3;exact zdO HR c hc HB
     |some x=>exact fo25
   · have hjn:j=n:=by omega
     have HR:Hid (zF s.data.toList=some (xs,p)):=hD jbn;obtain⟨A,c,hv⟩:=ownsRow_form HO.out;subst hv;have hj':¬(j:Int) <(n:Int):=by omega
     clear hjn;go_wp2_with fail;go_ret3;exact zgi HR HX.symm (Rd.own HO) (zcF HO) HB
theorem retL_none(h:Calls P f args w (RetL l w))(hl:zF l=none) :
    Calls P f args w fun e w'=>(∃c:Int,c≠0∧e= .returned (.tuple #["s",(),c]))∧Below w.heap.size w w':=
 h.mono fun _ _ ⟨hw,he⟩=>by rw[hl]at he;exact⟨he,hw⟩
theorem zcg{xs:List (List UInt8)}(h:Calls P f args w (RetL l w))(hl:zF l=some (xs,k)) :
    Calls P f args w fun e w'=>(∃A c,e= .returned (.tuple #[.slice A xs.length c,k,()])∧Rd w' 1 A xs.length (strC xs)∧xs.length≤c)∧Below w.heap.size w w':=
 h.mono fun _ _ ⟨hw,he⟩=>by rw[hl]at he;exact⟨he,hw⟩
theorem zat(s:ByteArray)(w:World)(hs:s.size≤1099511627776) :
    Calls prog 140 #[s] w (RetL s.data.toList w):=by
 have hL:=listStr_any s w hs;cases hl:zF s.data.toList with
 |none=>
  have HL:=hD (retL_none hL hl);have HR:=hD hl;clear hl hL;go_in;go_wp2_with fail;refine HL.mono ?_;rintro e w' ⟨⟨c,hc,rfl⟩,hb⟩;go_wp2_with fail;go_ret3;exact zdO HR c hc hb
 |some x=>
  obtain⟨xs,k⟩:=x;have HL:=hD (zcg hL hl);have HR:=hD hl;clear hl hL;go_in;go_wp2_with fail;refine HL.mono ?_;rintro e w' ⟨⟨A,c,rfl,hr,hc⟩,hb⟩;go_wp2_with fail;go_ret3;exact zgi HR rfl hr hc hb
theorem xor_zero_i64(m:Nat)(h:m<9223372036854775808):bits .xor .i64 (m:Int) 0=m:=by
 have h1:(BitVec.ofInt 64 (m:Int)).toNat=m:=fo221;show IntKind.i64.wrap ((BitVec.ofInt 64 (m:Int) ^^^ BitVec.ofInt 64 0).toNat:Int)=_;rw[show BitVec.ofInt 64 0=0#64 from rfl,BitVec.xor_zero,h1];exact fo168
theorem xor_ones_i64(m:Nat)(h:m<9223372036854775808):bits .xor .i64 (m:Int) (-1)=-(m:Int)- 1:=by
 have h1:(BitVec.ofInt 64 (m:Int)).toNat=m:=fo221;show IntKind.i64.wrap ((BitVec.ofInt 64 (m:Int) ^^^ BitVec.ofInt 64 (-1)).toNat:Int)=_;rw[show BitVec.ofInt 64 (-1)=BitVec.allOnes 64 from by decide,BitVec.xor_allOnes,BitVec.toNat_not,h1];exact fo168
theorem unzig_bits(n:Nat)(hn:n<18446744073709551616):bits BinOp.xor IntKind.i64 ((n:Int) / 2) (wrap64 (-wrap64 (bits BinOp.and IntKind.u64 (n:Int) 1)))=zcR n:=by
 have ha:bits BinOp.and IntKind.u64 (n:Int) 1=((n % 2:Nat):Int):=by
  have:=bits_and_u64_nat n 1 hn ja;rw[Nat.and_one_is_mod]at this;exact this
 have hd:(n:Int) / 2=((n / 2:Nat):Int):=by omega
 rw[ha,hd];unfold zcR;by_cases h:n % 2=0
 · rw[af h,h,show wrap64 (-wrap64 ((0:Nat):Int))=0 from by simp[wrap64]];exact xor_zero_i64 _ ja
 · rw[aa h,show n % 2=1 from by omega,show wrap64 (-wrap64 ((1:Nat):Int))=-1 from by simp[wrap64]];exact xor_ones_i64 _ ja
theorem infoN:(prog.info? 3).map (fun i=>(i.zero,i.size,i.bytes))=some (some (.int .i64 0),1,8):=by kernel_rfl
theorem intC_snoc(l:List Int)(x:Int):intC (l++ [x])=intC l++ [.int .i64 x]:=by simp[intC]
theorem getInt_leW(h:Za s=some (x,k)):0<k∧k≤s.length:=by
 unfold Za at h;cases hv:getV s with
 |none=>rw[hv]at h;simp at h
 |some y=>
  rw[hv]at h;obtain⟨n,m⟩:=y;simp only[dH,ax,aI]at h;obtain⟨_,rfl⟩:=h;have:=Y5 hv;omega
def RetI(l:List UInt8)(w:World)(e:Ending)(w':World):Prop:=w=w'∧match Za l with
 |some (x,k)=>e= .returned (.tuple #[x,k,()])
 |none=>∃c:Int,c≠0∧e= .returned (.tuple #[(),(),c])
theorem ret_i_none(h:Za l=none)(c:Int)(hc:c≠0):RetI l w (.returned (.tuple #[(),(),c])) w:=by
 refine⟨rfl,?_⟩;rw[h];exact⟨c,hc,rfl⟩
theorem ret_i_some(h:Za l=some (x,k))(hy:y=x):RetI l w (.returned (.tuple #[y,k,()])) w:=by
 refine⟨rfl,?_⟩;rw[h,hy]
theorem zbt(s:ByteArray)(w:World)(hs:s.size≤70368744177664) :
    Calls prog 263 #[s] w (RetI s.data.toList w):=by
 cases hv:getV s.data.toList with
 |none=>
  have HG:=hD (zdy s w hs hv);have HR:Hid (Za s.data.toList=none):=hD (by unfold Za;rw[hv];rfl);clear hv;go_in;go_wp2_with fail;refine HG.mono ?_;rintro e w' ⟨rfl,c,hc,rfl⟩;have hc1:(c == 0)=false:=by simpa using hc
  have hc2:(c != 0)=true:=by simpa using hc
  go_wp2_with fail;go_ret3;exact ret_i_none HR c hc
 |some x=>
  obtain⟨n,k⟩:=x;have HG:=hD (zc8 s w hs n k hv);have hn:=zbT hv;have HR:Hid (Za s.data.toList=some (zcR n,k)):=hD (by unfold Za;rw[hv];rfl);clear hv;go_in;go_wp2_with fail;refine HG.mono ?_;rintro e w' ⟨rfl,rfl⟩;go_wp2_with fail;go_ret3;exact ret_i_some HR (unzig_bits n hn)
theorem geti_none(s:ByteArray)(w:World)(hs:s.size≤70368744177664)(h:Za s.data.toList=none) :
    Calls prog 263 #[s] w fun e w'=>w=w'∧∃c:Int,c≠0∧e= .returned (.tuple #[(),(),c]):=
 (zbt s w hs).mono fun _ _ ⟨hw,he⟩=>by rw[h]at he;exact⟨hw,he⟩
theorem geti_some(s:ByteArray)(w:World)(hs:s.size≤70368744177664)(x:Int)(k:Nat)(h:Za s.data.toList=some (x,k)) :
    Calls prog 263 #[s] w fun e w'=>w=w'∧e= .returned (.tuple #[x,k,()]):=
 (zbt s w hs).mono fun _ _ ⟨hw,he⟩=>by rw[h]at he;exact⟨hw,he⟩
def RetN(l:List UInt8)(w:World)(e:Ending)(w':World):Prop:=Below w.heap.size w w'∧match zy l with
 |some (xs,k)=>∃A c,e= .returned (.tuple #[.slice A xs.length c,k,()])∧w'.ownsRow w.heap.size 3 1 (.slice A xs.length c) xs.length (intC xs)
 |none=>∃c:Int,c≠0∧e= .returned (.tuple #["s",(),c])
theorem zcn(h:zy l=none)(c:Int)(hc:c≠0)(hb:Below w.heap.size w w'):RetN l w (.returned (.tuple #["s",(),c])) w':=fo203
theorem zgx{xs:List Int}(h:zy l=some (xs,k))(hn:n=xs.length)(hr:w'.ownsRow w.heap.size 3 1 (.slice A n c) n (intC xs))(hb:Below w.heap.size w w'):RetN l w (.returned (.tuple #[.slice A n c,k,()])) w':=by
 refine⟨hb,?_⟩;rw[h];subst hn;exact⟨A,c,rfl,hr⟩
theorem listInt_any(s:ByteArray)(w:World)(hs:s.size≤1099511627776) :
    Calls prog 262 #[s,.func (.func 263) #[] #[]] w (RetN s.data.toList w):=by
 cases hv:getV s.data.toList with
 |none=>
  have HG:=hD (zdy s w ja hv);exact fo83
 |some x=>
  obtain⟨n,k⟩:=x;have HG:=hD (zc8 s w ja n k hv);have hle:=Y5 hv;rw[zU]at hle;have hn:=zbT hv;obtain⟨k0,k1,k2⟩:=hle;have HL:Hid (zy s.data.toList=match zY Za n (s.data.toList.drop k) with
   |none=>none
   |some (xs,m)=>some (xs,k+m)):=hD jbu
  obtain⟨i0,hi,hz0,hz1,hz2⟩:=info_parts infoN;have HI:=hD hi;have HZ0:=hD hz0;have HZ1:=hD hz1;have HZ2:=hD hz2;clear hi hz0 hz1 hz2 hv;go_in;go_wp2_with fail;refine HG.mono ?_;rintro e w' ⟨rfl,rfl⟩;go_wp2_with fail;go_loopw [8,10,24] (fun a o i wr=>∃(j p:Nat) (xs:List Int),i= .int .u64 j∧j≤n∧a= .int .i64 p∧p≤s.size∧j≤p∧xs.length=j∧wr.ownsRow w.heap.size 3 1 o j (intC xs)∧Below w.heap.size w wr∧w.heap.size≤wr.heap.size∧
   zy s.data.toList=(match zY Za (n- j) (s.data.toList.drop p) with
   |none=>none
   |some (ys,m)=>some (xs++ys,p+m))) (fun _ _ i _=>n-(intOf i).toNat)
  case atStart=>exact⟨0,k,[],rfl,by omega,rfl,k2,by omega,rfl,aR _ _ _ _,ae _ _,ag _,by rw[HL.out];simp⟩
  case round=>
   obtain⟨j,p,xs,rfl,hj,rfl,hp,hjp,hxs,hown,hb,hge,hL⟩:=hrel;have HO:=hD hown;have HB:=hD hb;have HX:=hD hxs;have HE:=hD hL;clear hown hb hxs hL;by_cases hlt:j<n
   · have hj':(j:Int) <(n:Int):=by omega
     have hsl:(s.extract p s.size).size=s.size- p:=by simp
     have HD:=hD (zby s p hp);have hmany:n- j=(n-(j+1))+1:=by omega
     cases hg:Za (s.data.toList.drop p) with
     |none=>
      have HG1:=hD (geti_none (s.extract p s.size) wr ja jbv);have HR:Hid (zy s.data.toList=none):=hD jdt;clear hg hsl hmany;go_wp2_with fail;refine HG1.mono ?_;rintro e w' ⟨rfl,c,hc,rfl⟩;have hc1:(c == 0)=false:=by simpa using hc
      have hc2:(c != 0)=true:=by simpa using hc
      go_wp2_with fail;go_ret3;exact zcn HR c hc HB
     |some x=>
      obtain⟨x,q⟩:=x;have HG1:=hD (geti_some (s.extract p s.size) wr ja x q jbv);have hq:=getInt_leW hg;simp only[aK,zU]at hq;obtain⟨q0,q1⟩:=hq;have HR:Hid (zy s.data.toList=(match zY Za (n-(j+1)) (s.data.toList.drop (p+q)) with
       |none=>none
       |some (ys,m)=>some (xs++ [x]++ys,p+q+m))):=hD (by
        rw[HE.out,hmany,zY,hg];exact fo135)
      clear hg hsl hmany;go_wp2_with fail;refine HG1.mono ?_;rintro e w' ⟨rfl,rfl⟩;go_wp2_with (at_builtin;refine bu _ rfl _ _ 46 rfl w.heap.size 3 i0 _ 1 8 underlying46 HI HZ0 HZ1 HZ2 rfl jf _ _ _ rfl (HO.alloc _) ⟨wr.heap.size,0,none⟩ 1 1 [x] rfl rfl (zN _ _ _ _ rfl) jr jq ja jg ?_);intro v' w2 hown' hgrow _;have HO2:=hD hown';have HG2:=hD hgrow;clear hown' hgrow;go_wp2_with fail;go_roundw
      case rel=>
       refine⟨j+1,p+q,xs++ [x],by go_num,by omega,by go_num,by omega,by omega,by simp[HX.out],?_,below_grown (HB.alloc hge _) jg HG2 (fun g hg=>(HO.lt g hg).1),?_,HR⟩
       · rw[intC_snoc];exact HO2
       · exact fo59
      case measure=>simp[intOf];omega
   · have hjn:j=n:=by omega
     have HR:Hid (zy s.data.toList=some (xs,p)):=hD jbn;obtain⟨A,c,hv⟩:=ownsRow_form HO.out;subst hv;exact fo157
theorem zau(h:Calls P f args w (RetN l w))(hl:zy l=none) :
    Calls P f args w fun e w'=>(∃c:Int,c≠0∧e= .returned (.tuple #["s",(),c]))∧Below w.heap.size w w':=
 h.mono fun _ _ ⟨hw,he⟩=>by rw[hl]at he;exact⟨he,hw⟩
theorem YX{xs:List Int}(h:Calls P f args w (RetN l w))(hl:zy l=some (xs,k)) :
    Calls P f args w fun e w'=>(∃A c,e= .returned (.tuple #[.slice A xs.length c,k,()])∧w'.ownsRow w.heap.size 3 1 (.slice A xs.length c) xs.length (intC xs))∧Below w.heap.size w w':=
 h.mono fun _ _ ⟨hw,he⟩=>by rw[hl]at he;exact⟨he,hw⟩
theorem zfy(s:ByteArray)(w:World)(hs:s.size≤1099511627776) :
    Calls prog 232 #[s] w (RetN s.data.toList w):=by
 have hL:=listInt_any s w hs;cases hl:zy s.data.toList with
 |none=>
  have HL:=hD (zau hL hl);have HR:=hD hl;clear hl hL;go_in;go_wp2_with fail;refine HL.mono ?_;rintro e w' ⟨⟨c,hc,rfl⟩,hb⟩;go_wp2_with fail;go_ret3;exact zcn HR c hc hb
 |some x=>
  obtain⟨xs,k⟩:=x;have HL:=hD (YX hL hl);have HR:=hD hl;clear hl hL;go_in;go_wp2_with fail;refine HL.mono ?_;rintro e w' ⟨⟨A,c,rfl,hr⟩,hb⟩;go_wp2_with fail;go_ret3;exact zgx HR rfl hr hb
def RetT(l:List UInt8)(w:World)(e:Ending)(w':World):Prop:=Below w.heap.size w w'∧match zF l with
 |some (xs,k)=>∃A c,e= .returned (.tuple #[.slice A xs.length c,k,()])∧w'.ownsRow w.heap.size 9 1 (.slice A xs.length c) xs.length (strC xs)
 |none=>∃c:Int,c≠0∧e= .returned (.tuple #["s",(),c])
theorem zcr(h:zF l=none)(c:Int)(hc:c≠0)(hb:Below w.heap.size w w'):RetT l w (.returned (.tuple #["s",(),c])) w':=fo203
theorem zgq{xs:List (List UInt8)}(h:zF l=some (xs,k))(hn:n=xs.length)(hr:w'.ownsRow w.heap.size 9 1 (.slice A n c) n (strC xs))(hb:Below w.heap.size w w'):RetT l w (.returned (.tuple #[.slice A n c,k,()])) w':=by
 refine⟨hb,?_⟩;rw[h];subst hn;exact⟨A,c,rfl,hr⟩
theorem listText_any(s:ByteArray)(w:World)(hs:s.size≤1099511627776) :
    Calls prog 203 #[s,.func (.func 204) #[] #[]] w (RetT s.data.toList w):=by
 cases hv:getV s.data.toList with
 |none=>
  have HG:=hD (zdy s w ja hv);exact fo82
 |some x=>
  obtain⟨n,k⟩:=x;have HG:=hD (zc8 s w ja n k hv);have hle:=Y5 hv;rw[zU]at hle;have hn:=zbT hv;obtain⟨k0,k1,k2⟩:=hle;have HL:Hid (zF s.data.toList=match zY yg n (s.data.toList.drop k) with
   |none=>none
   |some (xs,m)=>some (xs,k+m)):=hD jau
  obtain⟨i0,hi,hz0,hz1,hz2⟩:=info_parts zdC;have HI:=hD hi;have HZ0:=hD hz0;have HZ1:=hD hz1;have HZ2:=hD hz2;clear hi hz0 hz1 hz2 hv;go_in;go_wp2_with fail;refine HG.mono ?_;rintro e w' ⟨rfl,rfl⟩;go_wp2_with fail;go_loopw [8,10,24] (fun a o i wr=>∃(j p:Nat) (xs:List (List UInt8)),i= .int .u64 j∧j≤n∧a= .int .i64 p∧p≤s.size∧j≤p∧xs.length=j∧wr.ownsRow w.heap.size 9 1 o j (strC xs)∧Below w.heap.size w wr∧w.heap.size≤wr.heap.size∧
   zF s.data.toList=(match zY yg (n- j) (s.data.toList.drop p) with
   |none=>none
   |some (ys,m)=>some (xs++ys,p+m))) (fun _ _ i _=>n-(intOf i).toNat)
  case atStart=>exact⟨0,k,[],rfl,by omega,rfl,k2,by omega,rfl,aR _ _ _ _,ae _ _,ag _,by rw[HL.out];simp⟩
  case round=>
   obtain⟨j,p,xs,rfl,hj,rfl,hp,hjp,hxs,hown,hb,hge,hL⟩:=hrel;have HO:=hD hown;have HB:=hD hb;have HX:=hD hxs;have HE:=hD hL;clear hown hb hxs hL;by_cases hlt:j<n
   · have hj':(j:Int) <(n:Int):=by omega
     have hsl:(s.extract p s.size).size=s.size- p:=by simp
     have HD:=hD (zby s p hp);have hmany:n- j=(n-(j+1))+1:=by omega
     cases hg:yg (s.data.toList.drop p) with
     |none=>
      have HG1:=hD (zc2 (s.extract p s.size) wr ja jbv);have HR:Hid (zF s.data.toList=none):=hD jdt;clear hg hsl hmany;go_wp2_with fail;refine HG1.mono ?_;rintro e w' ⟨rfl,c,hc,rfl⟩;have hc1:(c == 0)=false:=by simpa using hc
      have hc2:(c != 0)=true:=by simpa using hc
      go_wp2_with fail;go_ret3;exact zcr HR c hc HB
     |some x=>exact fo25
   · have hjn:j=n:=by omega
     have HR:Hid (zF s.data.toList=some (xs,p)):=hD jbn;obtain⟨A,c,hv⟩:=ownsRow_form HO.out;subst hv;exact fo156
theorem zfa(h:Calls P f args w (RetT l w))(hl:zF l=none) :
    Calls P f args w fun e w'=>(∃c:Int,c≠0∧e= .returned (.tuple #["s",(),c]))∧Below w.heap.size w w':=
 h.mono fun _ _ ⟨hw,he⟩=>by rw[hl]at he;exact⟨he,hw⟩
theorem zeF{xs:List (List UInt8)}(h:Calls P f args w (RetT l w))(hl:zF l=some (xs,k)) :
    Calls P f args w fun e w'=>(∃A c,e= .returned (.tuple #[.slice A xs.length c,k,()])∧w'.ownsRow w.heap.size 9 1 (.slice A xs.length c) xs.length (strC xs))∧Below w.heap.size w w':=
 h.mono fun _ _ ⟨hw,he⟩=>by rw[hl]at he;exact⟨he,hw⟩
theorem getTexts_any(s:ByteArray)(w:World)(hs:s.size≤1099511627776) :
    Calls prog 140 #[s] w (RetT s.data.toList w):=by
 have hL:=listText_any s w hs;cases hl:zF s.data.toList with
 |none=>
  have HL:=hD (zfa hL hl);have HR:=hD hl;clear hl hL;go_in;go_wp2_with fail;refine HL.mono ?_;rintro e w' ⟨⟨c,hc,rfl⟩,hb⟩;go_wp2_with fail;go_ret3;exact zcr HR c hc hb
 |some x=>
  obtain⟨xs,k⟩:=x;have HL:=hD (zeF hL hl);have HR:=hD hl;clear hl hL;go_in;go_wp2_with fail;refine HL.mono ?_;rintro e w' ⟨⟨A,c,rfl,hr⟩,hb⟩;go_wp2_with fail;go_ret3;exact zgq HR rfl hr hb
theorem unit_le(k:Nat)(hk:k≤9):128 ^ k≤9223372036854775808:=by
 have:=dV (n:=128) ja hk;omega
theorem ref_test':∀(c:Fin 128) (k:Fin 10),decide (18446744073709551616≤c.val * 128 ^ k.val)=(decide (k.val=9) && decide (1<c.val)):=by decide +kernel
theorem ref_test(c k:Nat)(hc:c<128)(hk:k≤9):18446744073709551616≤c * 128 ^ k↔(k=9∧1<c):=by
 have:=ref_test' ⟨c,hc⟩ ⟨k,by omega⟩;rw[bQ]at this;simpa using this
theorem wrap_mul(c U:Nat)(h:c * U<18446744073709551616):IntKind.u64.wrap ((c:Int) *(U:Int))=((c * U:Nat):Int):=by
 rw[←Int.natCast_mul,eQ];omega
theorem wrap_sub(c U:Nat)(hc:128≤c)(h:(c- 128) * U<18446744073709551616):IntKind.u64.wrap (((c:Int)- 128) *(U:Int))=(((c- 128) * U:Nat):Int):=by
 rw[show((c:Int)- 128)=((c- 128:Nat):Int) from by omega];exact wrap_mul _ _ h
theorem wrap_add(a b:Nat)(h:a+b<18446744073709551616):IntKind.u64.wrap ((a:Int)+(b:Int))=((a+b:Nat):Int):=by
 rw[←Int.natCast_add,eQ];omega
theorem zgo(s:ByteArray)(w:World)(hs:s.size≤70368744177664) :
    Calls prog 242 #[s] w (RetV s.data.toList w):=by
 go_in;go_wp2_with fail;go_loop [5,6,7] (fun n u i=>∃(k a:Nat) (v z:Int),i= .int .i64 k∧k≤10∧k≤s.size∧n= .int .u64 v∧u= .int .u64 z∧(k≤9→v=a∧z=((128 ^ k:Nat):Int))∧a<128 ^ k∧getV s.data.toList=Yu (10- k) k a (s.data.toList.drop k)) (fun _ _ i=>10-(intOf i).toNat)
 case atStart=>exact⟨0,0,0,1,rfl,by omega,by omega,rfl,rfl,fun _=>⟨rfl,rfl⟩,by omega,rfl⟩
 case round=>
  obtain⟨k,a,v,z,rfl,hk,hks,rfl,rfl,hv,ha,hg⟩:=hrel;have HG:=hD hg;clear hg;by_cases hlt:k<s.size∧k<10
  · obtain⟨hl1,hl2⟩:=hlt;obtain⟨rfl,rfl⟩:=hv ja;have hc:=Zq s[k];have hu:=unit_le k ja;obtain⟨U,hU⟩:∃U,U=128 ^ k:=⟨_,rfl⟩;rw[←hU]at hu ha⊢;have HU:=hD hU;clear hU;by_cases hb:128≤s[k].toNat
    · go_wp2_with fail;go_round
      case rel=>
       have hpow:128 ^(k+1)=U * 128:=by rw[HU.out];exact dG 128 k
       have hmul:(s[k].toNat- 128) * U≤127 * U:=fq _ ja;refine⟨k+1,a+(s[k].toNat- 128) * U,_,_,by go_num,by omega,by omega,rfl,rfl,fun h9=>⟨?_,?_⟩,by omega,?_⟩
       · have h8:128 ^(k+1)≤128 ^ 9:=dV ja h9;rw[wrap_sub _ U hb ja,wrap_add _ _ ja]
       · have h8:128 ^(k+1)≤128 ^ 9:=dV ja h9;rw[show(U:Int) * 128=(U:Int) *((128:Nat):Int) from rfl,wrap_mul _ _ ja,hpow]
       · rw[HG.out,YV s k a hl1 ja,af hb,HU.out]
      case measure=>simp[intOf];omega
    · have HT:=hD (ref_test s[k].toNat k ja ja);by_cases hq:k=9∧1<s[k].toNat
      · have hr:getV s.data.toList=none:=by rw[HG.out,YV s k a hl1 ja,aa hb,af (HT.out.2 hq)]
        have HR:=hD hr;obtain⟨hk9,hc1⟩:=hq;have h9:((k:Int) == 9)=true:=by rw[aV];omega
        have h1:(1:Int) <(s[k].toNat:Int):=by omega
        clear hr hk9;exact fo281
      · have hlt2:=fun h=>hq (HT.1 h)
        have hsp:(((k:Int) == 9)=false)∨(((k:Int) == 9)=true∧¬(1:Int) <(s[k].toNat:Int)):=by
         by_cases h0:k=9
         · right;constructor
           · rw[aV];omega
           · intro h;exact hq ⟨h0,by omega⟩
         · left;rw[aF];omega
        by_cases hz:s[k].toNat=0∧0<k
        · have hr:getV s.data.toList=none:=by rw[HG.out,YV s k a hl1 ja,aa hb,aa hlt2,af hz]
          have HR:=hD hr;have hz1:((s[k].toNat:Int) == 0)=true:=by simp;exact hz.1
          have hz2:(0:Int) <(k:Int):=by omega
          have hz3:=hz.1;clear hr hlt2 hz hq;rcases hsp with h9|⟨h9,h1⟩;all_goals
           go_wp2_with fail;go_ret3;exact zdL HR _ jf
        · have hr:getV s.data.toList=some (a+s[k].toNat * 128 ^ k,k+1):=by rw[HG.out,YV s k a hl1 ja,aa hb,aa hlt2,aa hz]
          have HR:=hD hr;have hfit:=step_fit a s[k].toNat k ja ja (by rw[←HU.out];exact ha) hlt2;rw[←HU.out]at hfit;have HO:Hid (IntKind.u64.wrap ((a:Int)+IntKind.u64.wrap ((s[k].toNat:Int) *(U:Int)))=((a+s[k].toNat * 128 ^ k:Nat):Int)):=hD (by rw[wrap_mul _ _ ja,wrap_add _ _ hfit,HU.out]);have hz1:((s[k].toNat:Int) == 0)=false∨(((s[k].toNat:Int) == 0)=true∧¬(0:Int) <(k:Int)):=fo147;clear hr hlt2 hz hq;rcases hsp with h9|⟨h9,h1⟩;all_goals
           rcases hz1 with hz1|⟨hz1,hz2⟩;all_goals
            go_wp2_with fail;go_ret3;exact zgh HR (by first|exact HO.out|(rw[←HU.out];simp)) (by go_num)
  · have hr:getV s.data.toList=none:=by
      rw[HG.out];exact zgD s k a ja
    have HR:=hD hr;clear hr;have hsp:((k:Int) <(s.size:Int)∧¬(k:Int) <10)∨¬(k:Int) <(s.size:Int):=by omega
    clear hlt;rcases hsp with⟨h1,h2⟩|h1
    · exact fo281
    · by_cases h3:(s.size:Int) <10
      · exact fo281
      · exact fo281
theorem zda(s:ByteArray)(w:World)(hs:s.size≤70368744177664)(h:getV s.data.toList=none) :
    Calls prog 242 #[s] w fun e w'=>w=w'∧∃c:Int,c≠0∧e= .returned (.tuple #[.int .u64 0,(),c]):=
 (zgo s w hs).mono fun _ _ ⟨hw,he⟩=>by rw[h]at he;exact⟨hw,he⟩
theorem zc7(s:ByteArray)(w:World)(hs:s.size≤70368744177664)(n k:Nat)(h:getV s.data.toList=some (n,k)) :
    Calls prog 242 #[s] w fun e w'=>w=w'∧e= .returned (.tuple #[.int .u64 n,k,()]):=
 (zgo s w hs).mono fun _ _ ⟨hw,he⟩=>by rw[h]at he;exact⟨hw,he⟩
theorem zdu(s:ByteArray)(w:World)(hs:s.size≤70368744177664) :
    Calls prog 197 #[s] w (RetS s.data.toList w):=by
 cases hv:getV s.data.toList with
 |none=>
  have HG:=hD (zda s w hs hv);exact fo91
 |some x=>
  obtain⟨n,k⟩:=x;have HG:=hD (zc7 s w hs n k hv);exact fo45
theorem zbd(s:ByteArray)(w:World)(hs:s.size≤70368744177664)(h:yg s.data.toList=none) :
    Calls prog 197 #[s] w fun e w'=>w=w'∧∃c:Int,c≠0∧e= .returned (.tuple #["",(),c]):=
 (zdu s w hs).mono fun _ _ ⟨hw,he⟩=>by rw[h]at he;exact⟨hw,he⟩
theorem zcs(s:ByteArray)(w:World)(hs:s.size≤70368744177664)(x:List UInt8)(k:Nat)(h:yg s.data.toList=some (x,k)) :
    Calls prog 197 #[s] w fun e w'=>w=w'∧e= .returned (.tuple #[x,k,()]):=
 (zdu s w hs).mono fun _ _ ⟨hw,he⟩=>by rw[h]at he;exact⟨hw,he⟩
theorem getInt_none(h:getV s=none):Za s=none:=by unfold Za;rw[h];rfl
theorem getInt_some{x q:Nat}(h:getV s=some (x,q)):Za s=some (zcR x,q):=by unfold Za;rw[h];rfl
def sliceLen:Value→Nat
 | .slice _ n _=>n
 |_=>0
theorem zfN(n:Nat)(w:World)(hn:n<18446744073709551616):Calls prog 243 #[.int .u64 n] w fun e w'=>e= .returned (.int .i64 (zcR n))∧w=w':=by
 by_cases h:n % 2=0
 · have H:Hid (zcR n=((n / 2:Nat):Int)):=hD (by unfold zcR;rw[af h]);have h1:((n:Int) % 2 == 0)=true:=by rw[aV];omega
   exact fo204
 · have H:Hid (zcR n=-((n / 2:Nat):Int)- 1):=hD (by unfold zcR;rw[aa h]);have h1:((n:Int) % 2 == 0)=false:=by rw[aF];omega
   exact fo204
theorem zcy(s:ByteArray)(w:World)(hs:s.size≤1099511627776) :
    Calls prog 199 #[s] w (RetT s.data.toList w):=by
 cases hv:getV s.data.toList with
 |none=>
  have HG:=hD (zda s w ja hv);exact fo82
 |some x=>
  obtain⟨n,k⟩:=x;have HG:=hD (zc7 s w ja n k hv);have hle:=Y5 hv;rw[zU]at hle;have hn:=zbT hv;obtain⟨k0,k1,k2⟩:=hle;have HL:Hid (zF s.data.toList=match zY yg n (s.data.toList.drop k) with
   |none=>none
   |some (xs,m)=>some (xs,k+m)):=hD jau
  obtain⟨i0,hi,hz0,hz1,hz2⟩:=info_parts zdC;have HI:=hD hi;have HZ0:=hD hz0;have HZ1:=hD hz1;have HZ2:=hD hz2;clear hi hz0 hz1 hz2 hv;go_in;go_wp2_with fail;refine HG.mono ?_;rintro e w' ⟨rfl,rfl⟩;go_wp2_with fail;go_loopw [6,8] (fun a o wr=>∃(j p:Nat) (xs:List (List UInt8)) (A:Option Addr) (c:Nat),o= .slice A j c∧j≤n∧a= .int .i64 p∧p≤s.size∧j≤p∧xs.length=j∧wr.ownsRow w.heap.size 9 1 o j (strC xs)∧Below w.heap.size w wr∧w.heap.size≤wr.heap.size∧
   zF s.data.toList=(match zY yg (n- j) (s.data.toList.drop p) with
   |none=>none
   |some (ys,m)=>some (xs++ys,p+m))) (fun _ o _=>n- sliceLen o)
  case atStart=>exact⟨0,k,[],none,0,rfl,by omega,rfl,k2,by omega,rfl,aR _ _ _ _,ae _ _,ag _,by rw[HL.out];simp⟩
  case round=>
   obtain⟨j,p,xs,A,c,rfl,hj,rfl,hp,hjp,hxs,hown,hb,hge,hL⟩:=hrel;have HO:=hD hown;have HB:=hD hb;have HX:=hD hxs;have HE:=hD hL;clear hown hb hxs hL;by_cases hlt:j<n
   · have hj':(j:Int) <(n:Int):=by omega
     have hsl:(s.extract p s.size).size=s.size- p:=by simp
     have HD:=hD (zby s p hp);have hmany:n- j=(n-(j+1))+1:=by omega
     cases hg:yg (s.data.toList.drop p) with
     |none=>
      have HG1:=hD (zbd (s.extract p s.size) wr ja jbv);have HR:Hid (zF s.data.toList=none):=hD jdt;clear hg hsl hmany;go_wp2_with fail;refine HG1.mono ?_;rintro e w' ⟨rfl,c',hc,rfl⟩;have hc1:(c' == 0)=false:=by simpa using hc
      have hc2:(c' != 0)=true:=by simpa using hc
      go_wp2_with fail;go_ret3;exact zcr HR c' hc HB
     |some x=>
      obtain⟨x,q⟩:=x;have HG1:=hD (zcs (s.extract p s.size) wr ja x q jbv);have hq:=Zj hg;simp only[aK,zU]at hq;obtain⟨q0,q1,q2⟩:=hq;have HR:Hid (zF s.data.toList=(match zY yg (n-(j+1)) (s.data.toList.drop (p+q)) with
       |none=>none
       |some (ys,m)=>some (xs++ [x]++ys,p+q+m))):=hD (fo254)
      clear hg hsl hmany;go_wp2_with fail;refine HG1.mono ?_;rintro e w' ⟨rfl,rfl⟩;go_wp2_with (at_builtin;refine bu _ rfl _ _ 32 rfl w.heap.size 9 i0 _ 1 16 underlying32 HI HZ0 HZ1 HZ2 rfl jf _ _ _ rfl (HO.alloc _) ⟨wr.heap.size,0,none⟩ 1 1 [x] rfl rfl (zN _ _ _ _ rfl) jr jq ja jg ?_);intro v' w2 hown' hgrow _;obtain⟨A',c',rfl⟩:=ownsRow_form hown';have HO2:=hD hown';have HG2:=hD hgrow;clear hown' hgrow;go_wp2_with fail;go_roundw
      case rel=>
       refine⟨j+1,p+q,xs++ [x],A',c',rfl,by omega,by go_num,by omega,by omega,by simp[HX.out],?_,below_grown (HB.alloc hge _) jg HG2 (fun g hg=>(HO.lt g hg).1),?_,HR⟩
       · rw[Y2];exact HO2
       · exact fo59
      case measure=>simp[sliceLen];omega
   · have hjn:j=n:=by omega
     have HR:Hid (zF s.data.toList=some (xs,p)):=hD jbn;exact fo156
theorem YU(s:ByteArray)(w:World)(hs:s.size≤1099511627776) :
    Calls prog 196 #[s] w (RetN s.data.toList w):=by
 cases hv:getV s.data.toList with
 |none=>
  have HG:=hD (zda s w ja hv);exact fo83
 |some x=>
  obtain⟨n,k⟩:=x;have HG:=hD (zc7 s w ja n k hv);have hle:=Y5 hv;rw[zU]at hle;have hn:=zbT hv;obtain⟨k0,k1,k2⟩:=hle;have HL:Hid (zy s.data.toList=match zY Za n (s.data.toList.drop k) with
   |none=>none
   |some (xs,m)=>some (xs,k+m)):=hD jbu
  obtain⟨i0,hi,hz0,hz1,hz2⟩:=info_parts infoN;have HI:=hD hi;have HZ0:=hD hz0;have HZ1:=hD hz1;have HZ2:=hD hz2;clear hi hz0 hz1 hz2 hv;go_in;go_wp2_with fail;refine HG.mono ?_;rintro e w' ⟨rfl,rfl⟩;go_wp2_with fail;go_loopw [6,8] (fun a o wr=>∃(j p:Nat) (xs:List Int) (A:Option Addr) (c:Nat),o= .slice A j c∧j≤n∧a= .int .i64 p∧p≤s.size∧j≤p∧xs.length=j∧wr.ownsRow w.heap.size 3 1 o j (intC xs)∧Below w.heap.size w wr∧w.heap.size≤wr.heap.size∧
   zy s.data.toList=(match zY Za (n- j) (s.data.toList.drop p) with
   |none=>none
   |some (ys,m)=>some (xs++ys,p+m))) (fun _ o _=>n- sliceLen o)
  case atStart=>exact⟨0,k,[],none,0,rfl,by omega,rfl,k2,by omega,rfl,aR _ _ _ _,ae _ _,ag _,by rw[HL.out];simp⟩
  case round=>
   obtain⟨j,p,xs,A,c,rfl,hj,rfl,hp,hjp,hxs,hown,hb,hge,hL⟩:=hrel;have HO:=hD hown;have HB:=hD hb;have HX:=hD hxs;have HE:=hD hL;clear hown hb hxs hL;by_cases hlt:j<n
   · have hj':(j:Int) <(n:Int):=by omega
     have hsl:(s.extract p s.size).size=s.size- p:=by simp
     have HD:=hD (zby s p hp);have hmany:n- j=(n-(j+1))+1:=by omega
     cases hg:getV (s.data.toList.drop p) with
     |none=>
      have HG1:=hD (zda (s.extract p s.size) wr ja jbv);have HR:Hid (zy s.data.toList=none):=hD (by rw[HE.out,hmany,zY,getInt_none hg]);clear hg hsl hmany;go_wp2_with fail;refine HG1.mono ?_;rintro e w' ⟨rfl,c',hc,rfl⟩;have hc1:(c' == 0)=false:=by simpa using hc
      have hc2:(c' != 0)=true:=by simpa using hc
      go_wp2_with fail;go_ret3;exact zcn HR c' hc HB
     |some x=>
      obtain⟨x,q⟩:=x;have HG1:=hD (zc7 (s.extract p s.size) wr ja x q jbv);have hq:=Y5 hg;simp only[aK,zU]at hq;obtain⟨q0,q2,q1⟩:=hq;have HI2:=hD (zfN x wr (zbT hg));have HR:Hid (zy s.data.toList=(match zY Za (n-(j+1)) (s.data.toList.drop (p+q)) with
       |none=>none
       |some (ys,m)=>some (xs++ [zcR x]++ys,p+q+m))):=hD (by
        rw[HE.out,hmany,zY,getInt_some hg];exact fo135)
      clear hg hsl hmany;go_wp2_with fail;refine HG1.mono ?_;rintro e w' ⟨rfl,rfl⟩;go_wp2_with fail;refine HI2.mono ?_;rintro e w' ⟨rfl,rfl⟩;go_wp2_with (at_builtin;refine bu _ rfl _ _ 46 rfl w.heap.size 3 i0 _ 1 8 underlying46 HI HZ0 HZ1 HZ2 rfl jf _ _ _ rfl (HO.alloc _) ⟨wr.heap.size,0,none⟩ 1 1 [zcR x] rfl rfl (zN _ _ _ _ rfl) jr jq ja jg ?_);intro v' w2 hown' hgrow _;obtain⟨A',c',rfl⟩:=ownsRow_form hown';have HO2:=hD hown';have HG2:=hD hgrow;clear hown' hgrow;go_wp2_with fail;go_roundw
      case rel=>
       refine⟨j+1,p+q,xs++ [zcR x],A',c',rfl,by omega,by go_num,by omega,by omega,by simp[HX.out],?_,below_grown (HB.alloc hge _) jg HG2 (fun g hg=>(HO.lt g hg).1),?_,HR⟩
       · rw[intC_snoc];exact HO2
       · exact fo59
      case measure=>simp[sliceLen];omega
   · have hjn:j=n:=by omega
     have HR:Hid (zy s.data.toList=some (xs,p)):=hD jbn;exact fo157
