/- Contracts of the small functions on bytes. -/
import Derived.Test.YtepbbaifpckcpaaGreatDoorRows
import Derived.Test.YtepbbaifpckcpaaGreatDoorPPl
import Derived.Test.YtepbbaifpckcpaaGreatDoorPShelf
open Go.Proofs.Tryz
namespace Go.Proofs.YtepbbaifpckcpaaGreatDoor.Q06
set_option maxHeartbeats 1000000
open Go.Proofs.YtepbbaifpckcpaaGreatDoor
open Go.RowKit
theorem YS{a b:Bool}(h:a=b):Ending.returned (.bool a)= .returned (.bool b):=by rw[h]
variable{a b c d:Int}
theorem zb0{k:IntKind}(h:a=b):Ending.returned (.int k a)= .returned (.int k b):=by rw[h]
theorem Yn(n:Int)(w:World) :
    Calls prog 176 #[.int .u8 n] w fun e w'=>e= .returned (.bool (isLet n))∧w=w':=by
 exact fo192
theorem Yk(n:Int)(w:World) :
    Calls prog 178 #[.int .u8 n] w fun e w'=>e= .returned (.bool (zV n))∧w=w':=by
 exact fo193
theorem Yl(n:Int)(w:World) :
    Calls prog 192 #[.int .u8 n] w fun e w'=>e= .returned (.bool (isLet n))∧w=w':=by
 exact fo192
theorem Yf(n:Int)(w:World) :
    Calls prog 193 #[.int .u8 n] w fun e w'=>e= .returned (.bool (zV n))∧w=w':=by
 exact fo193
theorem continues_any(n:Int)(w:World) :
    Calls prog 177 #[.int .u8 n] w fun e w'=>e= .returned (.bool (isCon n))∧w=w':=by
 go_in;go_wp2_with (first|(go_at_call 176;refine(Yn _ _).mono ?_;rintro e w' ⟨rfl,rfl⟩)|(go_at_call 178;refine(Yk _ _).mono ?_;rintro e w' ⟨rfl,rfl⟩));all_goals (go_ret;refine⟨YS ?_,rfl⟩;simp_all [isCon])
theorem sp_index:∀n:Fin 256,decide (0≤Lib.indexByte [32,9,13,10] (n.val:Int).toNat.toUInt8)=isSp n.val:=by decide +kernel
theorem sp_ge(n:Int)(h0:0≤n)(h1:n<256):decide (0≤Lib.indexByte [32,9,13,10] n.toNat.toUInt8)=isSp n:=by
 obtain⟨k,rfl⟩:=bA h0;exact sp_index ⟨k,by omega⟩
theorem zb9(n:Int)(w:World)(h0:0≤n)(h1:n<256) :
    Calls prog 120 #[.int .u8 n] w fun e w'=>e= .returned (.bool (isSp n))∧w=w':=by
 have H:=hD (sp_ge n h0 h1);go_in;go_wp2_with fail;refine(Tryz.strings_IndexByte _ _ _).mono ?_;rintro e w' ⟨rfl,rfl⟩;generalize hx:Lib.indexByte (ByteArray.mk #[32,9,13,10]).data.toList n.toNat.toUInt8=x;have HX:=hD hx;clear hx;go_wp2_with fail;go_ret;refine⟨YS ?_,rfl⟩;rw[←H.out,←HX.out]
theorem zdv(n:Int)(w:World) :
    Calls prog 127 #[.int .u8 n] w fun e w'=>e= .returned (.bool (isSp n))∧w=w':=by
 go_in;go_wp2;all_goals (go_ret;refine⟨YS ?_,rfl⟩;rw[bQ];simp[isSp];try omega)
def IsPred(g:Nat)(p:Int→Bool):Prop:=∀(n:Int) (w:World),0≤n→n<256→Calls prog g #[.int .u8 n] w fun e w'=>e= .returned (.bool (p n))∧w=w'
def Plain(g:Nat):Prop:=∀(args:Array Value) (w:World),Sem.run prog (callFunc g args) w= .ok (.enter g args) w
theorem plain27:Plain 120:=fun _ _=>by kernel_rfl
theorem plain42:Plain 177:=fun _ _=>by kernel_rfl
theorem plain53:Plain 178:=fun _ _=>by kernel_rfl
theorem Zq(c:UInt8):(c.toNat:Int) <256:=by have:=c.toNat_lt;omega
theorem zdS(s:ByteArray)(g:Nat)(p:Int→Bool)(hg:IsPred g p)(hpl:Plain g)(w:World)(hs:s.size≤maxLen) :
    Calls prog 121 #[s,.func (.func g) #[] #[]] w fun e w'=>e= .returned (.int .i64 (run p s.data.toList))∧w=w':=by
 unfold maxLen at hs;have HG:=hD hg;clear hg;unfold Plain at hpl;go_in;go_wp2_with fail;go_loop [5] (fun i=>∃k:Nat,k≤s.size∧i= .int .i64 k∧(∀j,(h:j<s.size)→j<k→p s[j].toNat=true)) (fun i=>s.size-(intOf i).toNat)
 case atStart=>exact⟨0,by omega,rfl,by intro j h h';omega⟩
 case round=>
  obtain⟨k,hk,rfl,hj⟩:=hrel;have HJ:=hD hj;clear hj;by_cases hlt:k<s.size
  · cases hp:p s[k].toNat
    all_goals
     have HP:=hD hp;clear hp;go_wp2_with fail;refine(HG _ _ ja (Zq _)).mono ?_;rw[HP.out];rintro e w' ⟨rfl,rfl⟩;go_wp2_with fail
    · go_ret;refine⟨zb0 ?_,rfl⟩;rw[run_at p s.data.toList k jdw (fun j h h'=>HJ.out j jao h') (fun h=>HP.out)]
    · go_round
      case rel=>exact⟨k+1,by omega,by go_num,fun j h h'=>by
       rcases dw j k with h1|h1
       · exact HJ j h h1
       · obtain rfl:j=k:=by omega
         exact HP⟩
      case measure=>simp[intOf];omega
  · go_wp2_with fail;go_ret;refine⟨zb0 ?_,rfl⟩;rw[run_at p s.data.toList k jdw (fun j h h'=>HJ.out j jao h') (fun h=>by simp at h;omega)]
set_option maxRecDepth 100000
theorem numGo_snoc(l:List UInt8)(c:UInt8)(n:Int) :
    YW (l++ [c]) n=(YW l n).bind fun m=>if(9223372036854775807-((c.toNat:Int)- 48)) / 10<m then none else some (10 * m+((c.toNat:Int)- 48)):=by
 induction l generalizing n with
 |nil=>simp[YW]
 |cons d r ih=>
  simp only[aZ,YW];split
  · rfl
  · exact ih _
def zaD(l:List UInt8)(k:Nat)(n:Int):Option Int:=YW (l.drop k) n
theorem numFrom_step(l:List UInt8)(k:Nat)(n:Int)(h:k<l.length) :
    zaD l k n=if(9223372036854775807-((l[k].toNat:Int)- 48)) / 10<n then none else zaD l (k+1) (10 * n+((l[k].toNat:Int)- 48)):=by
 unfold zaD;rw[bB h,YW]
theorem numFrom_end(l:List UInt8)(k:Nat)(n:Int)(h:l.length≤k):zaD l k n=some n:=by
 unfold zaD;rw[bJ h];rfl
theorem numFrom_stepS(s:ByteArray)(k:Nat)(n:Int)(h:k<s.size) :
    zaD s.data.toList k n=if(9223372036854775807-((s[k].toNat:Int)- 48)) / 10<n then none else zaD s.data.toList (k+1) (10 * n+((s[k].toNat:Int)- 48)):=
 numFrom_step s.data.toList k n jao
theorem zb3(s:ByteArray)(h0:0<s.size):s.data.toList.isEmpty=false:=by
 cases hq:s.data.toList with
 | nil => have hl : s.data.toList.length = s.size := by simp
          simp[hq]at hl;omega
 |cons=>rfl
theorem zaH(s:ByteArray)(h0:s.size=0):s.data.toList=[]:=by
 cases hq:s.data.toList with
 |nil=>rfl
 | cons => have hl : s.data.toList.length = s.size := by simp
           simp[hq]at hl;omega
theorem zen(s:ByteArray)(h:0<s.size):s.data.toList=s[0]::s.data.toList.drop 1:=by
 have h':0<s.data.toList.length:=by simpa using h
 exact(bB h':s.data.toList.drop 0=_)
theorem cons2(s:ByteArray)(h:1<s.size):s.data.toList=s[0]::s[1]::s.data.toList.drop 2:=by
 have h':1<s.data.toList.length:=by simpa using h
 have e:s.data.toList.drop 1=s[1]::s.data.toList.drop 2:=bB h';rw[←e];exact zen s ja
theorem cons3(s:ByteArray)(h:2<s.size):s.data.toList=s[0]::s[1]::s[2]::s.data.toList.drop 3:=by
 have h':2<s.data.toList.length:=by simpa using h
 have e:s.data.toList.drop 2=s[2]::s.data.toList.drop 3:=bB h';rw[←e];exact cons2 s ja
theorem head_at(s:ByteArray)(h:0<s.size):s.data.toList.head? =some s[0]:=by
 have:0<s.data.toList.length:=by simpa using h
 rw[List.head?_eq_getElem?,aP this];rfl
theorem zbP(c:UInt8)(n:Nat)(hn:n<256):((c.toNat:Int)=n)↔c=n.toUInt8:=by
 constructor
 · intro h;apply gz.1;rw[show c.toNat=n by omega,UInt8.toNat_ofNat'];omega
 · intro h;subst h;rw[UInt8.toNat_ofNat'];omega
theorem number_go(s:ByteArray)(h0:0<s.size)(h:¬(1<s.size∧(s[0].toNat:Int)=48)) :
    number s.data.toList=match zaD s.data.toList 0 0 with|none=>(0,false)|some n=>(n,true):=by
 have hl:s.data.toList.length=s.size:=by simp
 have he:s.data.toList.isEmpty=false:=by cases hq:s.data.toList with|nil=>simp[hq]at hl;omega|cons=>rfl
 unfold number zaD;rw[head_at s h0,hl,aa,he]
 · simp only[dL];rfl
 · intro hh;simp only[aT,aY,aV,ax]at hh;exact h ⟨hh.1,(zbP _ 48 ja).2 hh.2⟩
theorem number_zero(s:ByteArray)(h0:1<s.size)(h:(s[0].toNat:Int)=48):number s.data.toList=(0,false):=by
 unfold number;rw[af];simp only[aT,aY,aV];refine⟨by simpa using h0,?_⟩;rw[head_at s ja,(zbP _ 48 ja).1 h];rfl
theorem ret_ib{k:IntKind}{c d:Bool}(h:(a,c)=(b,d)):Ending.returned (.tuple #[.int k a,c])= .returned (.tuple #[.int k b,d]):=by
 cases h;rfl
theorem zaG{k l:IntKind}(h:(a,c)=(b,d)):Ending.returned (.tuple #[.int k a,.int l c])= .returned (.tuple #[.int k b,.int l d]):=by
 cases h;rfl
theorem Z7(s:ByteArray)(w:World)(hs:s.size≤maxLen)(hd:∀k,(h:k<s.size)→zV s[k].toNat=true) :
    Calls prog 179 #[s] w fun e w'=>e= .returned (.tuple #[.int .i64 (number s.data.toList).1,.bool (number s.data.toList).2])∧w=w':=by
 unfold maxLen at hs;have HD:=hD hd;clear hd;have h0:0<s.size∨s.size=0:=by omega
 rcases h0 with h0|h0
 · have hcc:(1<s.size∧(s[0].toNat:Int)=48)∨s.size≤1∨(1<s.size∧(s[0].toNat:Int)≠48):=by omega
   rcases hcc with⟨hcc,hz⟩|hcc|⟨hcc,hne⟩
   · have HN:=hD (number_zero s hcc hz);go_in;go_wp2_with fail;go_ret2;exact⟨ret_ib (by rw[HN.out]),rfl⟩
   all_goals
    have HN:=hD (number_go s h0 ja);go_in;go_wp2_with fail;go_loop [4,17] (fun n k=>∃(i:Nat) (m:Int),i≤s.size∧0≤m∧m≤9223372036854775807∧n= .int .i64 m∧k= .int .i64 i∧zaD s.data.toList 0 0=zaD s.data.toList i m) (fun _ k=>s.size-(intOf k).toNat)
    case atStart=>exact⟨0,0,by omega,by omega,by omega,rfl,rfl,rfl⟩
    case round=>
     obtain⟨i,m,hi,hm0,hm1,rfl,rfl,hf⟩:=hrel;have HF:=hD hf;clear hf;by_cases hlt:i<s.size
     · have hd0:=HD.out i hlt;simp[zV]at hd0;have hst:=hD (numFrom_stepS s i m hlt);go_wp2_with fail
       · go_ret2;refine⟨ret_ib ?_,rfl⟩;rw[HN.out,HF.out,hst.out,af je]
       · go_round
         case rel=>
          refine⟨i+1,10 * m+(s[i].toNat- 48),by omega,by omega,by omega,rfl,by go_num,?_⟩;rw[HF.out,hst.out,aa ja]
         case measure=>simp[intOf];omega
     · go_wp2_with fail;go_ret2;refine⟨ret_ib ?_,rfl⟩;rw[HN.out,HF.out,numFrom_end _ _ _ jg];simp[aS,zb3 s h0]
 · have he:=hD (zaH s h0);go_in;go_wp2_with fail;go_loop [4,17] (fun n k=>n= .int .i64 0∧k= .int .i64 0) (fun _ k=>0)
   case atStart=>exact⟨rfl,rfl⟩
   case round=>
    obtain⟨rfl,rfl⟩:=hrel;go_wp2_with fail;go_ret2;refine⟨ret_ib ?_,rfl⟩;rw[he.out];simp[aS,zaH s h0,number,YW]
theorem digits_hex:∀k:Fin 16,∀n:Fin 256,(((ByteArray.mk #[48,49,50,51,52,53,54,55,56,57,97,98,99,100,101,102])[k.val]'(k.isLt)).toNat:Int)=n.val↔hexv n.val=k.val:=by decide +kernel
theorem hexv_none:∀n:Fin 256,hexv n.val=-1∨(0≤hexv n.val∧hexv n.val<16):=by decide +kernel
theorem zco(c:UInt8):hexv c.toNat=-1∨(0≤hexv c.toNat∧hexv c.toNat<16):=hexv_none ⟨c.toNat,c.toNat_lt⟩
theorem digits_index':∀n:Fin 256,Lib.indexByte [48,49,50,51,52,53,54,55,56,57,97,98,99,100,101,102] (n.val:Int).toNat.toUInt8=hexv n.val:=by decide +kernel
theorem zd0(c:UInt8):Lib.indexByte (ByteArray.mk #[48,49,50,51,52,53,54,55,56,57,97,98,99,100,101,102]).data.toList (c.toNat:Int).toNat.toUInt8=hexv c.toNat:=digits_index' ⟨c.toNat,c.toNat_lt⟩
theorem hex_any(n:Int)(w:World)(h0:0≤n)(h1:n<256) :
    Calls prog 268 #[.int .u8 n] w fun e w'=>e= .returned (.int .i64 (hexv n))∧w'=w:=by
 obtain⟨m,rfl⟩:=bA h0;have HD:=hD (fun k (hk:k<16)=>digits_hex ⟨k,hk⟩ ⟨m,by omega⟩);have HN:=hD (hexv_none ⟨m,by omega⟩);go_in;go_wp2_with fail;go_loop [3] (fun k=>∃i:Nat,i≤16∧k= .int .i64 i∧∀j:Nat,j<i→hexv m≠j) (fun k=>16-(intOf k).toNat)
 case atStart=>exact⟨0,by omega,rfl,by intro j h;omega⟩
 case round=>
  obtain⟨i,hi,rfl,hj⟩:=hrel;have HJ:=hD hj;clear hj;by_cases hlt:i<16
  · go_wp2_with fail
    · rename_i hq _;go_ret;refine⟨zb0 ?_,rfl⟩;exact((HD i hlt).1 (aV.1 hq)).symm
    · rename_i hq;go_round
      case rel=>
       refine⟨i+1,by omega,by go_num,fun j h=> ?_⟩;rcases dw j i with h1|h1
       · exact HJ j h1
       · obtain rfl:j=i:=by omega
         intro hh;exact aF.1 hq ((HD j hlt).2 hh)
      case measure=>simp[intOf];omega
  · go_wp2_with fail;go_ret;refine⟨zb0 ?_,rfl⟩;rcases HN with h|⟨ha,hb⟩
    · exact h.symm
    · exfalso;have ha':0≤hexv (m:Int):=ha;have hb':hexv (m:Int) <16:=hb;exact HJ (hexv m).toNat ja ja
theorem or_hex':∀a b:Fin 16,bits BinOp.or IntKind.i64 ((a.val:Int) * 16) (b.val:Int) % 256=16 *(a.val:Int)+b.val:=by decide +kernel
theorem or_hex(a b:Int)(h0:0≤a)(h1:a<16)(h2:0≤b)(h3:b<16):bits BinOp.or IntKind.i64 (a * 16) b % 256=16 * a+b:=by
 obtain⟨x,rfl⟩:=bA h0;obtain⟨y,rfl⟩:=bA h2;exact or_hex' ⟨x,by omega⟩ ⟨y,by omega⟩
theorem escR_at(s:ByteArray)(h:0<s.size):escR s.data.toList=(
    if(s[0].toNat:Int)=34∨(s[0].toNat:Int)=92 then(s[0].toNat,1)
    else if(s[0].toNat:Int)=110 then(10,1)
    else if(s[0].toNat:Int)=120 then
     if h3:2<s.size then(if 0≤hexv s[1].toNat∧0≤hexv s[2].toNat then(16 * hexv s[1].toNat+hexv s[2].toNat,3) else(0,0)) else(0,0)
    else(0,0):Int × Int):=by
 by_cases h3:2<s.size
 · rw[bK h3];conv=>lhs;rw[cons3 s h3]
   rfl
 · rw[cu h3];by_cases h2:1<s.size
   · conv=>lhs;rw[cons2 s h2]
     have:s.data.toList.drop 2=[]:=bJ jg;rw[this];rfl
   · conv=>lhs;rw[zen s h]
     have:s.data.toList.drop 1=[]:=bJ jg;rw[this];rfl
theorem escape_any(s:ByteArray)(w:World)(hs:s.size≤maxLen) :
    Calls prog 230 #[s] w fun e w'=>e= .returned (.tuple #[.int .u8 (escR s.data.toList).1,.int .i64 (escR s.data.toList).2])∧∃n,w'=w.drewN n:=by
 unfold maxLen at hs;by_cases h0:s.size=0
 · exact fo133
 have hq:s.toList.isEmpty=false:=by rw[aS];exact zb3 s ja
 have HE:=hD (escR_at s ja);by_cases hx:(s[0].toNat:Int)=120∧2<s.size
 · obtain⟨hx,h3⟩:=hx;have HX:=hD hx;have x1:((s[0].toNat:Int) == 34)=false:=by simp[hx]
   have x2:((s[0].toNat:Int) == 92)=false:=by simp[hx]
   have x3:((s[0].toNat:Int) == 110)=false:=by simp[hx]
   have x4:((s[0].toNat:Int) == 120)=true:=by simp[hx]
   clear hx;have i1:1<s.size:=by omega
   have j1:(1:Int) <(s.size:Int):=by omega
   have j2:(2:Int) <(s.size:Int):=by omega
   have hr1:=zco s[1];have hr2:=zco s[2];go_in;go_wp2_with fail;go_quiet ((go_at_call 123;exact Calls.quiet_of_same (Tryz.strings_IndexByte _ _ _)));rw[zd0 s[1],zd0 s[2]];have HF:Hid (escR s.data.toList=if 0≤hexv s[1].toNat∧0≤hexv s[2].toNat then(16 * hexv s[1].toNat+hexv s[2].toNat,3) else(0,0)):=by
    have:=HE.out;rw[HX.out,aa jf,aa jf,af rfl,bK h3]at this;exact hD this
   clear HE;generalize hexv s[1].toNat=a at *;generalize hexv s[2].toNat=b at *;by_cases ha:0≤a
   · by_cases hb:0≤b
     · go_wp2_with fail;go_ret2;refine⟨zaG ?_,⟨_,rfl⟩⟩;rw[HF.out,af ⟨ha,hb⟩,or_hex a b ja ja ja ja];rfl
     · exact fo188
   · exact fo188
 · go_in;go_wp2_with fail;all_goals (first|(go_ret2;refine⟨zaG ?_,⟨0,rfl⟩⟩;rw[HE.out];simp_all;done)|(exfalso;have h9:=aV.1 (‹((s[0].toNat:Int) == 120)=true›);omega)|skip)
   all_goals
    go_ret2;refine⟨zaG ?_,⟨0,rfl⟩⟩;have h9:=aV.1 (‹((s[0].toNat:Int) == 120)=true›);rw[HE.out,h9,aa jf,aa jf,af rfl,cu ja]
theorem escR_drop(s:ByteArray)(h:1<s.size):escR (s.data.toList.drop 1)=(
    if(s[1].toNat:Int)=34∨(s[1].toNat:Int)=92 then(s[1].toNat,1)
    else if(s[1].toNat:Int)=110 then(10,1)
    else if(s[1].toNat:Int)=120 then
     if h3:3<s.size then(if 0≤hexv s[2].toNat∧0≤hexv s[3].toNat then(16 * hexv s[2].toNat+hexv s[3].toNat,3) else(0,0)) else(0,0)
    else(0,0):Int × Int):=by
 have:=escR_at (s.extract 1 s.size) jg;rw[dP,bi jc]at this;rw[this];simp only[iD,ByteArray.size_extract,Nat.min_self];split
 · rfl
 · split
   · rfl
   · split
     · by_cases h3:3<s.size
       · rw[bK h3,bK ja]
       · rw[cu h3,cu ja]
     · rfl
theorem char_any(s:ByteArray)(w:World)(hs:s.size≤maxLen) :
    Calls prog 241 #[s] w fun e w'=>e= .returned (.tuple #[.int .u8 (chrR s.data.toList).1,.int .i64 (chrR s.data.toList).2])∧∃n,w'=w.drewN n:=by
 unfold maxLen at hs;by_cases h0:s.size=0
 · exact fo133
 have hq:s.toList.isEmpty=false:=by rw[aS];exact zb3 s ja
 have i0:0<s.size:=by omega
 have HC:Hid (chrR s.data.toList=(if(s[0].toNat:Int) <32∨126<(s[0].toNat:Int)∨(s[0].toNat:Int)=34 then(0,0)
  else if(s[0].toNat:Int)≠92 then(s[0].toNat,1)
  else if(escR (s.data.toList.drop 1)).2=0 then(0,0) else((escR (s.data.toList.drop 1)).1,(escR (s.data.toList.drop 1)).2+1):Int × Int)):=by
  have h1:=zen s i0;have h2:chrR s.data.toList=chrR (s[0]::s.data.toList.drop 1):=by rw[←h1]
  exact hD h2
 by_cases hbad:(s[0].toNat:Int) <32∨126<(s[0].toNat:Int)∨(s[0].toNat:Int)=34
 · have HB:=hD hbad;rcases hbad with hbad|hbad|hbad
   · exact fo127
   · exact fo127
   · have a1:((s[0].toNat:Int) == 34)=true:=by simp[hbad]
     have b1:32≤(s[0].toNat:Int):=by omega
     have b2:(s[0].toNat:Int)≤126:=by omega
     clear hbad;exact fo127
 have HB:=hD hbad;have b1:32≤(s[0].toNat:Int):=by omega
 have b2:(s[0].toNat:Int)≤126:=by omega
 have a1:((s[0].toNat:Int) == 34)=false:=by rw[aF];omega
 by_cases h92:(s[0].toNat:Int)=92
 · have a2:((s[0].toNat:Int) != 92)=false:=by simp[h92]
   have HN:=hD h92;clear h92 hbad;by_cases h2:s.size<2
   · have HE:Hid (escR (s.data.toList.drop 1)=(0,0)):=hD (by rw[bJ jg];rfl);go_in;go_wp2_with fail;go_ret2;exact⟨zaG (by rw[HC.out,aa HB.out,aa (by simp[HN.out]),HE.out];rfl),⟨0,rfl⟩⟩
   have HE:=hD (escR_drop s ja);by_cases hx:(s[1].toNat:Int)=120∧3<s.size
   · obtain⟨hx,h3⟩:=hx;have HX:=hD hx;have x1:((s[1].toNat:Int) == 34)=false:=by simp[hx]
     have x2:((s[1].toNat:Int) == 92)=false:=by simp[hx]
     have x3:((s[1].toNat:Int) == 110)=false:=by simp[hx]
     have x4:((s[1].toNat:Int) == 120)=true:=by simp[hx]
     clear hx;have i2:2<s.size:=by omega
     have j1:(2:Int) <(s.size:Int):=by omega
     have j2:(3:Int) <(s.size:Int):=by omega
     have hr1:=zco s[2];have hr2:=zco s[3];have HF:Hid (chrR s.data.toList=if 0≤hexv s[2].toNat∧0≤hexv s[3].toNat then(16 * hexv s[2].toNat+hexv s[3].toNat,4) else(0,0)):=by
      have h1:=HE.out;rw[HX.out,aa jf,aa jf,af rfl,bK h3]at h1;have h2:=HC.out;rw[aa HB.out,aa (by simp[HN.out]),h1]at h2;refine hD (h2.trans ?_);split <;> simp
     clear HE HC;have hab:(0≤hexv s[2].toNat∧0≤hexv s[3].toNat)∨¬0≤hexv s[2].toNat∨(0≤hexv s[2].toNat∧¬0≤hexv s[3].toNat):=by omega
     rcases hab with⟨ha,hb⟩|ha|⟨ha,hb⟩
     · have e1:IntKind.i64.wrap (16 * hexv s[2].toNat)=16 * hexv s[2].toNat:=bL _ ja;have e2:IntKind.i64.wrap (16 * hexv s[2].toNat+hexv s[3].toNat)=16 * hexv s[2].toNat+hexv s[3].toNat:=bL _ ja;go_in;go_wp2_with (go_at_call 268;refine(hex_any _ _ ja (Zq _)).mono ?_;rintro e w' ⟨rfl,rfl⟩);go_quiet ((go_at_call 268;exact Calls.quiet_of_same (hex_any _ _ ja (Zq _))));go_wp2_with fail;go_ret2;refine⟨zaG ?_,⟨_,rfl⟩⟩;rw[HF.out,af ⟨ha,hb⟩];rfl
     · exact fo121
     · exact fo121
   · go_in;go_wp2_with fail;all_goals (first|(go_ret2;refine⟨zaG ?_,⟨0,rfl⟩⟩;rw[HC.out,aa HB.out,aa (by simp[HN.out]),HE.out];simp_all;done)|skip)
     all_goals first
      |(exfalso;have h9:=aV.1 (‹((s[1].toNat:Int) == 120)=true›);omega)
      | (go_ret2; refine ⟨zaG ?_, ⟨0, rfl⟩⟩
         have h9:=aV.1 (‹((s[1].toNat:Int) == 120)=true›);have hE:escR (s.data.toList.drop 1)=(0,0):=by rw[HE.out,h9,aa jf,aa jf,af rfl,cu ja]
         rw[HC.out,aa HB.out,aa (by simp[HN.out]),hE];rfl)
 · have a2:((s[0].toNat:Int) != 92)=true:=by rw[bO];omega
   go_in;go_wp2_with fail;go_ret2;exact⟨zaG (by rw[HC.out,aa HB.out,af h92]),⟨0,rfl⟩⟩
theorem drop_at(s:ByteArray)(i:Nat)(h:i<s.size):s.data.toList.drop i=s[i]::s.data.toList.drop (i+1):=fo208
theorem escR_rng(l:List UInt8):0≤(escR l).1∧(escR l).1<256∧0≤(escR l).2∧(escR l).2≤l.length∧(escR l).2≤3:=by
 match l with
 | []=>simp[escR]
 | [c]=>exact fo115
 | [c,a]=>exact fo115
 |c::a::b::r=>
  have hc:=Zq c;have ha:=zco a;have hb:=zco b;simp only[escR];by_cases h1:(c.toNat:Int)=34∨(c.toNat:Int)=92
  · rw[af h1];simp;omega
  · rw[aa h1];by_cases h2:(c.toNat:Int)=110
    · rw[af h2];simp;omega
    · rw[aa h2];by_cases h3:(c.toNat:Int)=120
      · rw[af h3];split <;> simp <;> omega
      · rw[aa h3];simp;omega
theorem chrR_rng(l:List UInt8):0≤(chrR l).1∧(chrR l).1<256∧0≤(chrR l).2∧(chrR l).2≤l.length∧(chrR l).2≤4:=by
 match l with
 | []=>simp[chrR]
 |c::r=>
  have hc:=Zq c;have he:=escR_rng r;simp only[chrR];by_cases h1:(c.toNat:Int) <32∨126<(c.toNat:Int)∨(c.toNat:Int)=34
  · rw[af h1];simp;omega
  · rw[aa h1];by_cases h2:(c.toNat:Int)=92
    · rw[aa ja];by_cases h3:(escR r).2=0
      · rw[af h3];simp;omega
      · rw[aa h3];simp;omega
    · rw[af h2];simp;omega
theorem zao(c:UInt8)(r:List UInt8):chrR (c::r)=(if(c.toNat:Int) <32∨126<(c.toNat:Int)∨(c.toNat:Int)=34 then(0,0)
    else if(c.toNat:Int)≠92 then(c.toNat,1)
    else if(escR r).2=0 then(0,0) else((escR r).1,(escR r).2+1):Int × Int):=rfl
theorem byteCells_snoc(l:List UInt8)(c:Int)(h0:0≤c)(h1:c<256):Lib.byteCells l++ [.int .u8 c]=Lib.byteCells (l++ [c.toNat.toUInt8]):=by
 obtain⟨n,rfl⟩:=bA h0;have:n % 256=n:=fe ja;simp[Lib.byteCells,this]
theorem zd1(s:ByteArray)(i:Nat)(acc:List UInt8)(h:i<s.size)(hc:(s[i].toNat:Int)=34):yM (s.data.toList.drop i) acc i=(acc,(i:Int)+1):=by
 rw[drop_at s i h,yM,af hc]
theorem zcP(s:ByteArray)(i:Nat)(acc:List UInt8)(h:i<s.size)(hc:(s[i].toNat:Int)≠34)(hn:(chrR (s.data.toList.drop i)).2=0):yM (s.data.toList.drop i) acc i=([],0):=by
 rw[drop_at s i h]at hn⊢;rw[yM,aa hc,af hn]
theorem zdX(s:ByteArray)(i k:Nat)(acc:List UInt8)(h:i<s.size)(hc:(s[i].toNat:Int)≠34)(hn:(chrR (s.data.toList.drop i)).2=(k:Int)+1) :
    yM (s.data.toList.drop i) acc i=yM (s.data.toList.drop (i+k+1)) (acc++ [(chrR (s.data.toList.drop i)).1.toNat.toUInt8]) (i+k+1):=by
 have e:i+k+1=(i+1)+k:=by omega
 rw[e,←dC];rw[drop_at s i h]at hn⊢;rw[yM,aa hc,aa ja,hn];have e1:((k:Int)+1).toNat=k+1:=by omega
 rw[e1,←e];rfl
theorem litFrom_end(s:ByteArray)(i:Nat)(acc:List UInt8)(h:s.size≤i):yM (s.data.toList.drop i) acc i=([],0):=by
 rw[bJ jao,yM]
theorem ret_si{k:IntKind}{a b:List UInt8}(h:(a,c)=(b,d)):Ending.returned (.tuple #[a,.int k c])= .returned (.tuple #[b,.int k d]):=by
 cases h;rfl
theorem zaE{P:Program}{f:FuncId}{args:Array Value}{w:World}{x:Ending}(h:Calls P f args w fun e w'=>e=x∧w'=w):Calls P f args w fun e w'=>e=x∧w=w':=
 h.mono fun _ _ ⟨a,b⟩=>⟨a,b.symm⟩
theorem zbB(s:ByteArray)(k:Nat):(s.extract k s.size).data.toList=s.data.toList.drop k:=by
 rw[dP,bi jc]
theorem litR_at(s:ByteArray)(h:0<s.size):litR s.data.toList=if(s[0].toNat:Int)=34 then yM (s.data.toList.drop 1) [] 1 else([],0):=by
 conv=>lhs;rw[zen s h]
 rfl
theorem litR_nil(s:ByteArray)(h:s.size=0):litR s.data.toList=([],0):=by
 rw[zaH s h];rfl
theorem prefix_q(s:ByteArray):Lib.hasPrefix s.data.toList [34]=(if h:0<s.size then decide ((s[0].toNat:Int)=34) else false):=by
 by_cases h:0<s.size
 · rw[bK h];conv=>lhs;rw[zen s h]
   have:=zbP s[0] 34 ja;simp only[Lib.hasPrefix,List.isPrefixOf,dA];rw[bQ];simp only[aV,aY];exact⟨fun e=>this.2 e.symm,fun e=>(this.1 e).symm⟩
 · rw[cu h,zaH s ja];rfl
theorem literal_any(s:ByteArray)(w:World)(hs:s.size≤maxLen)(hr:s.size≤140737488355328) :
    Calls prog 180 #[s] w fun e w'=>e= .returned (.tuple #[.string ⟨(litR s.data.toList).1.toArray⟩,.int .i64 (litR s.data.toList).2])∧Below w.heap.size w w':=by
 unfold maxLen at hs;have hp:=prefix_q s;by_cases h0:∃h:0<s.size,(s[0].toNat:Int)=34
 · obtain⟨h0,h1⟩:=h0;rw[bK h0,h1]at hp;have HP:=hD hp;have HL:Hid (litR s.data.toList=yM (s.data.toList.drop 1) [] 1):=hD (by rw[litR_at s h0,af h1]);have hI:=hD (gN 77 5 w);clear hp h1;go_in;go_wp2_with fail;refine(zaE (Tryz.strings_HasPrefix _ _ _)).mono ?_;rintro e w' ⟨rfl,rfl⟩;rw[HP.out];go_wp2_with fail;go_loopw [5] (fun i wr=>∃(k:Nat) (acc:List UInt8),i= .int .i64 k∧k≤s.size∧acc.length<k∧Lib.IsBuilder 77 5 w.heap.size w.heap.size (Lib.byteCells acc) wr∧Below w.heap.size w wr∧w.heap.size≤wr.heap.size∧litR s.data.toList=yM (s.data.toList.drop k) acc k) (fun i _=>s.size-(intOf i).toNat)
   case atStart=>exact⟨1,[],rfl,by omega,by simp,hI.out,(ae _ _).alloc (ag _) _,by simp,HL⟩
   case round=>
    obtain⟨k,acc,rfl,hk,hacc,hI2,hb,hz,hf⟩:=hrel;have HI:=hD hI2;have HB:=hD hb;have HF:=hD hf;clear hI hI2 hb hf HL;have hd:decide True=true:=rfl;by_cases hlt:k<s.size
    · by_cases hc:(s[k].toNat:Int)=34
      · have x1:((s[k].toNat:Int) == 34)=true:=by simp[hc]
        have HX:=hD (zd1 s k acc hlt hc);clear hc;go_wp2_with fail;refine(Tryz.Builder_String_any _ _ _ _ HI hz).mono ?_;rintro e w2 ⟨rfl,hb2⟩;go_wp2_with fail;go_ret2;exact⟨ret_si (by rw[HF.out,HX.out]),HB.trans hb2⟩
      · have x1:((s[k].toNat:Int) == 34)=false:=by simp[hc]
        by_cases hbad:(s[k].toNat:Int) <32∨126<(s[k].toNat:Int)
        · have HX:=hD (zcP s k acc hlt hc (by
            rw[drop_at s k hlt,zao,af ja]))
          clear hc;rcases hbad with hbad|hbad;all_goals
           go_wp2_with fail;go_ret2;exact⟨ret_si (by rw[HF.out,HX.out]),HB⟩
        · have b1:32≤(s[k].toNat:Int):=by omega
          have b2:(s[k].toNat:Int)≤126:=by omega
          by_cases h92:(s[k].toNat:Int)=92
          · have x2:((s[k].toNat:Int) == 92)=true:=by simp[h92]
            have hch:chrR (s.data.toList.drop k)=if(escR (s.data.toList.drop (k+1))).2=0 then(0,0) else((escR (s.data.toList.drop (k+1))).1,(escR (s.data.toList.drop (k+1))).2+1):=by
             rw[drop_at s k hlt,zao,aa ja,aa ja]
            have hx:=escR_rng (s.data.toList.drop (k+1));rw[aK]at hx;have hlen:s.data.toList.length=s.size:=by simp
            rw[hlen]at hx;have HC:=hD hch;have HN:=hD hc;clear hc h92 hch hlen hbad;go_wp2_with fail;refine(escape_any _ _ jq).mono ?_;rintro e w2 ⟨rfl,n,rfl⟩;rw[zbB];have HI:Hid (Lib.IsBuilder 77 5 w.heap.size w.heap.size (Lib.byteCells acc) (wr.drewN n)):=hD HI.out;have HB:Hid (Below w.heap.size w (wr.drewN n)):=hD (ed HB n);have hz:w.heap.size≤(wr.drewN n).heap.size:=hz;obtain⟨hx0,hx1,hx2,hx3,hx4⟩:=hx;by_cases hz0:(escR (s.data.toList.drop (k+1))).2=0
            · have HX:=hD (zcP s k acc hlt HN (by rw[HC.out,af hz0]));have HZ:=hD hz0;have x3:((escR (s.data.toList.drop (k+1))).2 == 0)=true:=by simp[hz0]
              clear hz0;exact fo137
            · have x3:((escR (s.data.toList.drop (k+1))).2 == 0)=false:=by simp[hz0]
              obtain⟨m,hm⟩:=bA hx2;have HX:=hD (zdX s k m acc hlt HN (by rw[HC.out,aa hz0,hm]));have HC1:Hid ((chrR (s.data.toList.drop k)).1=(escR (s.data.toList.drop (k+1))).1):=hD (by rw[HC.out,aa hz0]);have HM:=hD hm;clear hm hz0;go_wp2_with fail;refine(Tryz.Builder_WriteByte _ _ _ _ _ HI (by simp[Lib.byteCells];omega) hz).mono ?_;rintro e w2 ⟨rfl,hI3,hb3⟩;rw[byteCells_snoc _ _ hx0 hx1]at hI3;have HI3:=hD hI3;have HB3:=hD hb3;clear hI3 hb3;go_wp2_with fail;go_roundw
              case rel=>
               refine⟨k+m+1,acc++ [(escR (s.data.toList.drop (k+1))).1.toNat.toUInt8],?_,by have:=HM.out;omega,by simp;omega,.inr HI3,HB.trans HB3,?_,by rw[HF.out,HX.out,HC1.out]⟩
               · rw[HM.out];go_num
               · exact ah hz HB3.size
              case measure=>have:=HM.out;simp[intOf];omega
          · have x2:((s[k].toNat:Int) == 92)=false:=by simp[h92]
            have hch:chrR (s.data.toList.drop k)=((s[k].toNat:Int),(1:Int)):=by
             rw[drop_at s k hlt,zao,aa ja,af h92]
            have HX:=hD (zdX s k 0 acc hlt hc (by rw[hch];rfl));have HC1:Hid ((chrR (s.data.toList.drop k)).1=s[k].toNat):=hD (by rw[hch]);clear hc h92 hch hbad;go_wp2_with fail;refine(Tryz.Builder_WriteByte _ _ _ _ _ HI (by simp[Lib.byteCells];omega) hz).mono ?_;rintro e w2 ⟨rfl,hI3,hb3⟩;rw[byteCells_snoc _ _ ja (Zq _)]at hI3;have HI3:=hD hI3;have HB3:=hD hb3;clear hI3 hb3;go_wp2_with fail;go_roundw
            case rel=>
             refine⟨k+1,acc++ [(s[k].toNat:Int).toNat.toUInt8],by go_num,by omega,by simp;omega,.inr HI3,HB.trans HB3,ah hz HB3.size,by rw[HF.out,HX.out,HC1.out]⟩
            case measure=>simp[intOf];omega
    · exact fo183
 · have HL:Hid (litR s.data.toList=([],0)):=by
     by_cases h:0<s.size
     · exact hD (by rw[litR_at s h,aa (fun e=>h0 ⟨h,e⟩)])
     · exact hD (litR_nil s ja)
   have HP:Hid (Lib.hasPrefix s.data.toList [34]=false):=by
    by_cases h:0<s.size
    · rw[bK h]at hp;exact hD (hp.trans (av fun e=>h0 ⟨h,e⟩))
    · rw[cu h]at hp;exact hD hp
   clear hp h0;go_in;go_wp2_with fail;refine(zaE (Tryz.strings_HasPrefix _ _ _)).mono ?_;rintro e w' ⟨rfl,rfl⟩;rw[HP.out];exact fo160
theorem zbS(a b:List UInt8):ByteArray.mk a.toArray++ByteArray.mk b.toArray=ByteArray.mk (a++b).toArray:=by
 apply bz;simp
theorem zck(w:World)(a:Addr)(c:Int)(_h0:0≤c)(_h1:c<256)(h:w.cell? a=some (.int .u8 c)) :
    Sem.run prog (convert 75 9 (.slice (some a) 1 1)) w= .ok (.string ⟨#[c.toNat.toUInt8]⟩) w:=by
 rw[run_convert_bytes_string w 75 9 5 (some a) 1 1 underlying75 underlying5 underlying9]
 rw[run_bytesToString w a 1 1 [c] (by have:=run_loadCells_list (P:=prog) (w:=w) a [Value.int .u8 c] (by intro i v hi;cases i with|zero=>(simp at hi;subst hi;simpa[Addr.add]using h)|succ i=>simp at hi);simpa using this)]
 rfl
theorem str_any(s:ByteArray)(w:World)(hs:s.size≤maxLen)(hr:s.size≤140737488355328) :
    Calls prog 195 #[s] w fun e w'=>e= .returned (.tuple #[.string ⟨(litR s.data.toList).1.toArray⟩,.int .i64 (litR s.data.toList).2])∧Below w.heap.size w w':=by
 unfold maxLen at hs;by_cases h0:0<s.size
 · have hq:s.toList.isEmpty=false:=by rw[aS];exact zb3 s h0
   by_cases h1:(s[0].toNat:Int)=34
   · have x0:((s[0].toNat:Int) != 34)=false:=by simp[h1]
     have HL:Hid (litR s.data.toList=yM (s.data.toList.drop 1) [] 1):=hD (by rw[litR_at s h0,af h1]);clear h1;go_in;go_wp2_with fail;go_loopw [4,5] (fun o i wr=>∃(k:Nat) (acc:List UInt8),o= .string ⟨acc.toArray⟩∧i= .int .i64 k∧k≤s.size∧acc.length<k∧Below w.heap.size w wr∧litR s.data.toList=yM (s.data.toList.drop k) acc k) (fun _ i _=>s.size-(intOf i).toNat)
     case atStart=>exact⟨1,[],rfl,rfl,by omega,by simp,ae _ _,HL⟩
     case round=>
      obtain⟨k,acc,rfl,rfl,hk,hacc,hb,hf⟩:=hrel;have HB:=hD hb;have HF:=hD hf;clear hb hf HL;by_cases hlt:k<s.size
      · by_cases hc:(s[k].toNat:Int)=34
        · have x1:((s[k].toNat:Int) != 34)=false:=by simp[hc]
          have x2:((k:Int) ==(s.size:Int))=false:=by rw[aF];omega
          have HX:=hD (zd1 s k acc hlt hc);clear hc;exact fo137
        · have x1:((s[k].toNat:Int) != 34)=true:=by rw[bO];exact hc
          have hx:=chrR_rng (s.data.toList.drop k);rw[aK]at hx;have hlen:s.data.toList.length=s.size:=by simp
          rw[hlen]at hx;have HN:=hD hc;clear hc hlen;go_wp2_with fail;refine(char_any _ _ jq).mono ?_;rintro e w2 ⟨rfl,n,rfl⟩;rw[zbB];have HB:Hid (Below w.heap.size w (wr.drewN n)):=hD (ed HB n);obtain⟨hx0,hx1,hx2,hx3,hx4⟩:=hx;by_cases hz0:(chrR (s.data.toList.drop k)).2=0
          · have HX:=hD (zcP s k acc hlt HN hz0);have x3:((chrR (s.data.toList.drop k)).2 == 0)=true:=by simp[hz0]
            clear hz0;exact fo137
          · have x3:((chrR (s.data.toList.drop k)).2 == 0)=false:=by simp[hz0]
            obtain⟨m,hm⟩:∃m:Nat,(chrR (s.data.toList.drop k)).2=(m:Int)+1:=⟨((chrR (s.data.toList.drop k)).2- 1).toNat,by omega⟩;have HX:=hD (zdX s k m acc hlt HN hm);have HM:=hD hm;clear hm hz0;have hcv:=zck ((wr.drewN n).alloc (.cells #[.int .u8 (chrR (s.data.toList.drop k)).1] 5)) ⟨wr.heap.size,0,none⟩ _ hx0 hx1 (by simp[World.cell?,World.alloc,World.drewN]);go_wp2_with fail;go_roundw
            case rel=>
             refine⟨k+m+1,acc++ [(chrR (s.data.toList.drop k)).1.toNat.toUInt8],?_,?_,by have:=HM.out;omega,by simp;omega,HB.alloc (ah HB.size (ag _)) _,by rw[HF.out,HX.out]⟩
             · exact aL Value.string (zbS acc [(chrR (s.data.toList.drop k)).1.toNat.toUInt8])
             · rw[HM.out];go_num
            case measure=>have:=HM.out;simp[intOf];omega
      · have x2:((k:Int) ==(s.size:Int))=true:=by rw[aV];omega
        exact fo183
   · have x0:((s[0].toNat:Int) != 34)=true:=by rw[bO];exact h1
     have HL:Hid (litR s.data.toList=([],0)):=hD (by rw[litR_at s h0,aa h1]);go_in;exact fo160
 · have hq:s.toList.isEmpty=true:=by rw[aS,zaH s ja];rfl
   have HL:Hid (litR s.data.toList=([],0)):=hD (litR_nil s ja);go_in;exact fo160
theorem intTok_at(s:ByteArray)(h:0<s.size):zaL s.data.toList =
    if 1<run zV s.data.toList∧(s[0].toNat:Int)=48 then none else(YW (s.data.toList.takeWhile (pb zV)) 0).map (·,run zV s.data.toList):=by
 unfold zaL;rw[head_at s h];have:=zbP s[0] 48 ja;by_cases h1:1<run zV s.data.toList∧(s[0].toNat:Int)=48
 · rw[af h1,af (by simp[h1.1];exact this.1 h1.2)]
 · rw[aa h1,aa];intro hh;simp at hh;exact h1 ⟨hh.1,this.2 hh.2⟩
def intR(l:List UInt8):Int × Int:=match zaL l with|none=>(0,0)|some (v,n)=>(v,n)
def zb2(l:List UInt8)(k:Nat)(v:Int):Option Int:=YW ((l.drop k).takeWhile (pb zV)) v
theorem intFrom_step(s:ByteArray)(k:Nat)(v:Int)(h:k<s.size)(hd:zV s[k].toNat=true) :
    zb2 s.data.toList k v=if(9223372036854775807-((s[k].toNat:Int)- 48)) / 10<v then none else zb2 s.data.toList (k+1) (10 * v+((s[k].toNat:Int)- 48)):=by
 unfold zb2;rw[drop_at s k h,iK (p:=pb zV) hd,YW]
theorem zd9(s:ByteArray)(k:Nat)(v:Int)(h:(hk:k<s.size)→zV s[k].toNat=false):zb2 s.data.toList k v=some v:=by
 unfold zb2;by_cases hk:k<s.size
 · rw[drop_at s k hk,List.takeWhile_cons_of_neg (by have:=h hk;simp[pb,this])];rfl
 · exact fo206
theorem run_ge(p:Int→Bool)(l:List UInt8)(k:Nat)(hk:k≤l.length)(hj:∀j,(h:j<l.length)→j<k→p l[j].toNat=true):k≤run p l:=by
 induction l generalizing k with
 |nil=>simp at hk;omega
 |cons c r ih=>
  cases k with
  |zero=>omega
  |succ k=>
   have h0:=hj 0 jc ja;simp at h0;have:=ih k jdw (fun j h h'=>by have:=hj (j+1) jao ja;simpa using this);exact fo202
theorem zea(l:List UInt8):zb2 l 0 0=YW (l.takeWhile (pb zV)) 0:=rfl
theorem zbt(s:ByteArray)(w:World)(hs:s.size≤maxLen)(h0:0<s.size) :
    Calls prog 194 #[s] w fun e w'=>e= .returned (.tuple #[.int .i64 (intR s.data.toList).1,.int .i64 (intR s.data.toList).2])∧w=w':=by
 unfold maxLen at hs;have HT:=hD (intTok_at s h0);go_in;go_wp2_with fail;go_loop [4,5] (fun v i=>∃(k:Nat) (m:Int),v= .int .i64 m∧0≤m∧m≤9223372036854775807∧i= .int .i64 k∧k≤s.size∧(∀j,(h:j<s.size)→j<k→zV s[j].toNat=true)∧(1<k→(s[0].toNat:Int)≠48)∧zb2 s.data.toList 0 0=zb2 s.data.toList k m) (fun _ i=>s.size-(intOf i).toNat)
 case atStart=>exact⟨0,0,rfl,by omega,by omega,rfl,by omega,by intro j h h';omega,by omega,rfl⟩
 case round=>
  obtain⟨k,m,rfl,hm0,hm1,rfl,hk,hj,hz,hf⟩:=hrel;have HJ:=hD hj;have HZ:=hD hz;have HF:=hD hf;clear hj hz hf;by_cases hlt:k<s.size
  · cases hd:zV s[k].toNat
    · have HD:=hD hd;have HX:=hD (zd9 s k m (fun _=>hd));have HR:=hD (run_at zV s.data.toList k jdw (fun j h h'=>HJ.out j jao h') (fun _=>hd));clear hd;go_wp2_with (go_at_call 193;refine(Yf _ _).mono ?_;rw[HD.out];rintro e w' ⟨rfl,rfl⟩);exact fo145
    · have HD:=hD hd;have hst:=hD (intFrom_step s k m hlt hd);have hd1:48≤(s[k].toNat:Int)∧(s[k].toNat:Int)≤57:=by simpa[zV]using hd
      have hj':∀j,(h:j<s.size)→j<k+1→zV s[j].toNat=true:=fun j h h'=>fo179
      have HJ':=hD hj';have hge:=run_ge zV s.data.toList (k+1) jg (fun j h h'=>HJ'.out j jao h');clear hd hj';obtain⟨hd2,hd3⟩:=hd1;by_cases hbz:0<k∧(s[0].toNat:Int)=48
      · obtain⟨k0,hz0⟩:=hbz;have HX:Hid (intR s.data.toList=(0,0)):=hD (by rw[intR,HT.out,af ⟨by omega,hz0⟩]);have x1:((s[0].toNat:Int) == 48)=true:=by simp[hz0]
        have x2:decide (0<(k:Int))=true:=by simp;omega
        clear hz0;exact fo87
      · have hbb:k=0∨(0<k∧(s[0].toNat:Int)≠48):=by omega
        have HB:=hD hbz;clear hbz;by_cases hov:(9223372036854775807-((s[k].toNat:Int)- 48)) / 10<m
        · have HX:Hid (intR s.data.toList=(0,0)):=hD (by
            rw[intR,HT.out];split
            · rfl
            · rename_i heq;split at heq
              · cases heq
              · rw[←zea,HF.out,hst.out,af hov]at heq;cases heq)
          rcases hbb with rfl|⟨k0,hz0⟩
          · exact fo87
          · have x1:((s[0].toNat:Int) == 48)=false:=by simp[hz0]
            exact fo87
        · rcases hbb with rfl|⟨k0,hz0⟩
          · go_wp2_with (go_at_call 193;refine(Yf _ _).mono ?_;rw[HD.out];rintro e w' ⟨rfl,rfl⟩);go_round
            case rel=>
             exact⟨1,10 * m+(s[0].toNat- 48),by go_num,by omega,by omega,rfl,by omega,HJ'.out,by omega,by rw[HF.out,hst.out,aa ja];rfl⟩
            case measure=>simp[intOf];omega
          · have x1:((s[0].toNat:Int) == 48)=false:=by simp[hz0]
            have HZ0:=hD hz0;clear hz0;go_wp2_with (go_at_call 193;refine(Yf _ _).mono ?_;rw[HD.out];rintro e w' ⟨rfl,rfl⟩);go_round
            case rel=>
             exact⟨k+1,10 * m+(s[k].toNat- 48),by go_num,by omega,by omega,by go_num,by omega,HJ'.out,fun _=>HZ0.out,by rw[HF.out,hst.out,aa ja]⟩
            case measure=>simp[intOf];omega
  · have HX:=hD (zd9 s k m (fun h=>absurd h hlt));have HR:=hD (run_at zV s.data.toList k jdw (fun j h h'=>HJ.out j jao h') (fun h=>by simp at h;omega));go_wp2_with fail;exact fo145
