/- Contracts of the small functions on bytes. -/
import Derived.Test.YtepbbaifpckcpaaGreatDoorRows
import Derived.WalkKit
import Derived.WalkSpells
import Derived.WalkLawsBesides
import Derived.LoopTactic
import Derived.Lib.Hide
import Derived.Outline
import Derived.Deep.QuietTactic
import Derived.BigQuiet
import Derived.IntWalk
import Derived.Test.YtepbbaifpckcpaaGreatDoorFFo
import Derived.Test.YtepbbaifpckcpaaGreatDoorFPl
import Derived.Test.YtepbbaifpckcpaaGreatDoorFShelf
namespace Go.Proofs.YtepbbaifpckcpaaGreatDoor.Q06
set_option maxHeartbeats 400000
open Go.Proofs.YtepbbaifpckcpaaGreatDoor
open Go.RowKit
theorem YN {a b:Bool} (h:a=b):Ending.returned (.bool a)= .returned (.bool b):=by rw [h]
theorem zez {k:IntKind} {a b:Int} (h:a=b):Ending.returned (.int k a)= .returned (.int k b):=by rw [h]
theorem Z8 (n:Int) (w:World) :
    Calls Tryz.prog 176 #[.int .u8 n] w fun e w'=>e= .returned (.bool (isLet n))∧w=w':=by
 go_in;go_wp2;all_goals (go_ret;refine⟨YN ?_,rfl⟩;rw [Bool.eq_iff_iff];simp [isLet];try omega)
theorem Z0 (n:Int) (w:World) :
    Calls Tryz.prog 178 #[.int .u8 n] w fun e w'=>e= .returned (.bool (zY n))∧w=w':=by
 exact fo150
theorem zcq (n:Int) (w:World) :
    Calls Tryz.prog 193 #[.int .u8 n] w fun e w'=>e= .returned (.bool (zY n))∧w=w':=by
 exact fo150
theorem continues_any (n:Int) (w:World) :
    Calls Tryz.prog 177 #[.int .u8 n] w fun e w'=>e= .returned (.bool (isCon n))∧w=w':=by
 go_in;go_wp2_with (first|(go_at_call 176;refine(Z8 _ _).mono ?_;rintro e w' ⟨rfl,rfl⟩)|(go_at_call 178;refine(Z0 _ _).mono ?_;rintro e w' ⟨rfl,rfl⟩));all_goals (go_ret;refine⟨YN ?_,rfl⟩;simp_all [isCon])
theorem sp_index:∀n:Fin 256,decide (0≤Lib.indexByte [32,9,13,10] (n.val:Int).toNat.toUInt8)=isSp n.val:=by decide +kernel
theorem sp_ge (n:Int) (h0:0≤n) (h1:n<256):decide (0≤Lib.indexByte [32,9,13,10] n.toNat.toUInt8)=isSp n:=by
 obtain⟨k,rfl⟩:=Int.eq_ofNat_of_zero_le h0;exact sp_index ⟨k,by omega⟩
theorem zbm (n:Int) (w:World) (h0:0≤n) (h1:n<256) :
    Calls Tryz.prog 120 #[.int .u8 n] w fun e w'=>e= .returned (.bool (isSp n))∧w=w':=by
 have H:=hD (sp_ge n h0 h1);go_in;go_wp2_with fail;refine(Tryz.strings_IndexByte _ _ _).mono ?_;rintro e w' ⟨rfl,rfl⟩;generalize hx:Lib.indexByte (ByteArray.mk #[32,9,13,10]).data.toList n.toNat.toUInt8=x;have HX:=hD hx;clear hx;go_wp2_with fail;go_ret;refine⟨YN ?_,rfl⟩;rw [←H.out,←HX.out]
def IsPred (g:Nat) (p:Int→Bool):Prop:=∀(n:Int) (w:World),0≤n→n<256→Calls Tryz.prog g #[.int .u8 n] w fun e w'=>e= .returned (.bool (p n))∧w=w'
def Plain (g:Nat):Prop:=∀(args:Array Value) (w:World),Sem.run Tryz.prog (callFunc g args) w= .ok (.enter g args) w
theorem plain27:Plain 120:=fun _ _=>by kernel_rfl
theorem plain42:Plain 177:=fun _ _=>by kernel_rfl
theorem plain53:Plain 178:=fun _ _=>by kernel_rfl
theorem Zz (c:UInt8):(c.toNat:Int) <256:=by have:=c.toNat_lt;omega
theorem zcZ (s:ByteArray) (g:Nat) (p:Int→Bool) (hg:IsPred g p) (hpl:Plain g) (w:World) (hs:s.size≤maxLen) :
    Calls Tryz.prog 121 #[.string s, .func (.func g) #[] #[]] w fun e w'=>e= .returned (.int .i64 (run p s.data.toList))∧w=w':=by
 unfold maxLen at hs;have HG:=hD hg;clear hg;unfold Plain at hpl;go_in;go_wp2_with fail;go_loop [5] (fun i=>∃k:Nat,k≤s.size∧i= .int .i64 k∧(∀j,(h:j<s.size)→j<k→p s[j].toNat=true)) (fun i=>s.size-(intOf i).toNat)
 case atStart=>exact⟨0,by omega,rfl,by intro j h h';omega⟩
 case round=>
  obtain⟨k,hk,rfl,hj⟩:=hrel;have HJ:=hD hj;clear hj;by_cases hlt:k<s.size
  · cases hp:p s[k].toNat
    all_goals
     have HP:=hD hp;clear hp;go_wp2_with fail;refine(HG.out _ _ ja (Zz _)).mono ?_;rw [HP.out];rintro e w' ⟨rfl,rfl⟩;go_wp2_with fail
    · go_ret;refine⟨zez ?_,rfl⟩;rw [run_at p s.data.toList k jce (fun j h h'=>HJ.out j jac h') (fun h=>HP.out)]
    · go_round
      case rel=>exact⟨k+1,by omega,by go_num,fun j h h'=>by
       rcases Nat.lt_or_ge j k with h1|h1
       · exact HJ.out j h h1
       · obtain rfl:j=k:=by omega
         exact HP.out⟩
      case measure=>simp [intOf];omega
  · go_wp2_with fail;go_ret;refine⟨zez ?_,rfl⟩;rw [run_at p s.data.toList k jce (fun j h h'=>HJ.out j jac h') (fun h=>by simp at h;omega)]
set_option maxHeartbeats 400000
open Go.Proofs.YtepbbaifpckcpaaGreatDoor
open Go.RowKit
theorem numGo_snoc (l:List UInt8) (c:UInt8) (n:Int) :
    Yy (l++ [c]) n=(Yy l n).bind fun m=>if(9223372036854775807-((c.toNat:Int)- 48)) / 10<m then none else some (10 * m+((c.toNat:Int)- 48)):=by
 induction l generalizing n with
 |nil=>simp [Yy]
 |cons d r ih=>
  simp only [List.cons_append,Yy];split
  · rfl
  · exact ih _
def YS (l:List UInt8) (k:Nat) (n:Int):Option Int:=Yy (l.drop k) n
theorem numFrom_step (l:List UInt8) (k:Nat) (n:Int) (h:k<l.length) :
    YS l k n=if(9223372036854775807-((l[k].toNat:Int)- 48)) / 10<n then none else YS l (k+1) (10 * n+((l[k].toNat:Int)- 48)):=by
 unfold YS;rw [List.drop_eq_getElem_cons h,Yy]
theorem numFrom_end (l:List UInt8) (k:Nat) (n:Int) (h:l.length≤k):YS l k n=some n:=by
 unfold YS;rw [List.drop_eq_nil_of_le h];rfl
theorem numFrom_stepS (s:ByteArray) (k:Nat) (n:Int) (h:k<s.size) :
    YS s.data.toList k n=if(9223372036854775807-((s[k].toNat:Int)- 48)) / 10<n then none else YS s.data.toList (k+1) (10 * n+((s[k].toNat:Int)- 48)):=
 numFrom_step s.data.toList k n jac
theorem zeI (s:ByteArray) (h0:0<s.size):s.data.toList.isEmpty=false:=by
 cases hq:s.data.toList with
 | nil => have hl : s.data.toList.length = s.size := by simp
          simp [hq] at hl;omega
 |cons=>rfl
theorem za8 (s:ByteArray) (h0:s.size=0):s.data.toList= []:=by
 cases hq:s.data.toList with
 |nil=>rfl
 | cons => have hl : s.data.toList.length = s.size := by simp
           simp [hq] at hl;omega
theorem zdO (s:ByteArray) (h:0<s.size):s.data.toList=s[0]::s.data.toList.drop 1:=by
 have h':0<s.data.toList.length:=by simpa using h
 exact(List.drop_eq_getElem_cons h':s.data.toList.drop 0=_)
theorem cons2 (s:ByteArray) (h:1<s.size):s.data.toList=s[0]::s[1]::s.data.toList.drop 2:=by
 have h':1<s.data.toList.length:=by simpa using h
 have e:s.data.toList.drop 1=s[1]::s.data.toList.drop 2:=List.drop_eq_getElem_cons h';rw [←e];exact zdO s ja
theorem cons3 (s:ByteArray) (h:2<s.size):s.data.toList=s[0]::s[1]::s[2]::s.data.toList.drop 3:=by
 have h':2<s.data.toList.length:=by simpa using h
 have e:s.data.toList.drop 2=s[2]::s.data.toList.drop 3:=List.drop_eq_getElem_cons h';rw [←e];exact cons2 s ja
theorem head_at (s:ByteArray) (h:0<s.size):s.data.toList.head? =some s[0]:=by
 have:0<s.data.toList.length:=by simpa using h
 rw [List.head?_eq_getElem?,List.getElem?_eq_getElem this];rfl
theorem u8_int (c:UInt8) (n:Nat) (hn:n<256):((c.toNat:Int)=n)↔c=n.toUInt8:=by
 constructor
 · intro h;apply UInt8.toNat_inj.1;rw [show c.toNat=n by omega,UInt8.toNat_ofNat'];omega
 · intro h;subst h;rw [UInt8.toNat_ofNat'];omega
theorem number_go (s:ByteArray) (h0:0<s.size) (h:¬(1<s.size∧(s[0].toNat:Int)=48)) :
    number s.data.toList=match YS s.data.toList 0 0 with|none=>(0,false)|some n=>(n,true):=by
 have hl:s.data.toList.length=s.size:=by simp
 have he:s.data.toList.isEmpty=false:=by cases hq:s.data.toList with|nil=>simp [hq] at hl;omega|cons=>rfl
 unfold number YS;rw [head_at s h0,hl,if_neg,he]
 · simp only [List.drop_zero];rfl
 · intro hh;simp only [Bool.and_eq_true,decide_eq_true_eq,beq_iff_eq,Option.some.injEq] at hh;exact h ⟨hh.1,(u8_int _ 48 ja).2 hh.2⟩
theorem number_zero (s:ByteArray) (h0:1<s.size) (h:(s[0].toNat:Int)=48):number s.data.toList=(0,false):=by
 unfold number;rw [if_pos];simp only [Bool.and_eq_true,decide_eq_true_eq,beq_iff_eq];refine⟨by simpa using h0, ?_⟩;rw [head_at s ja,(u8_int _ 48 ja).1 h];rfl
theorem ret_ib {k:IntKind} {a b:Int} {c d:Bool} (h:(a,c)=(b,d)):Ending.returned (.tuple #[.int k a, .bool c])= .returned (.tuple #[.int k b, .bool d]):=by
 cases h;rfl
theorem zeN {k l:IntKind} {a b c d:Int} (h:(a,c)=(b,d)):Ending.returned (.tuple #[.int k a, .int l c])= .returned (.tuple #[.int k b, .int l d]):=by
 cases h;rfl
theorem ZP (s:ByteArray) (w:World) (hs:s.size≤maxLen) (hd:∀k,(h:k<s.size)→zY s[k].toNat=true) :
    Calls Tryz.prog 179 #[.string s] w fun e w'=>e= .returned (.tuple #[.int .i64 (number s.data.toList).1, .bool (number s.data.toList).2])∧w=w':=by
 unfold maxLen at hs;have HD:=hD hd;clear hd;have h0:0<s.size∨s.size=0:=by omega
 rcases h0 with h0|h0
 · have hcc:(1<s.size∧(s[0].toNat:Int)=48)∨s.size≤1∨(1<s.size∧(s[0].toNat:Int)≠48):=by omega
   rcases hcc with⟨hcc,hz⟩|hcc|⟨hcc,hne⟩
   · have HN:=hD (number_zero s hcc hz);go_in;go_wp2_with fail;go_ret2;exact⟨ret_ib (by rw [HN.out]),rfl⟩
   all_goals
    have HN:=hD (number_go s h0 ja);go_in;go_wp2_with fail;go_loop [4,17] (fun n k=>∃(i:Nat) (m:Int),i≤s.size∧0≤m∧m≤9223372036854775807∧n= .int .i64 m∧k= .int .i64 i∧YS s.data.toList 0 0=YS s.data.toList i m) (fun _ k=>s.size-(intOf k).toNat)
    case atStart=>exact⟨0,0,by omega,by omega,by omega,rfl,rfl,rfl⟩
    case round=>
     obtain⟨i,m,hi,hm0,hm1,rfl,rfl,hf⟩:=hrel;have HF:=hD hf;clear hf;by_cases hlt:i<s.size
     · have hd0:=HD.out i hlt;simp [zY] at hd0;have hst:=hD (numFrom_stepS s i m hlt);go_wp2_with fail
       · go_ret2;refine⟨ret_ib ?_,rfl⟩;rw [HN.out,HF.out,hst.out,if_pos je]
       · go_round
         case rel=>
          refine⟨i+1,10 * m+(s[i].toNat- 48),by omega,by omega,by omega,rfl,by go_num, ?_⟩;rw [HF.out,hst.out,if_neg ja]
         case measure=>simp [intOf];omega
     · go_wp2_with fail;go_ret2;refine⟨ret_ib ?_,rfl⟩;rw [HN.out,HF.out,numFrom_end _ _ _ jg];simp [Lib.toList_data,zeI s h0]
 · have he:=hD (za8 s h0);go_in;go_wp2_with fail;go_loop [4,17] (fun n k=>n= .int .i64 0∧k= .int .i64 0) (fun _ k=>0)
   case atStart=>exact⟨rfl,rfl⟩
   case round=>
    obtain⟨rfl,rfl⟩:=hrel;go_wp2_with fail;go_ret2;refine⟨ret_ib ?_,rfl⟩;rw [he.out];simp [Lib.toList_data,za8 s h0,number,Yy]
theorem hexv_none:∀n:Fin 256,hexv n.val=-1∨(0≤hexv n.val∧hexv n.val<16):=by decide +kernel
theorem zdD (c:UInt8):hexv c.toNat=-1∨(0≤hexv c.toNat∧hexv c.toNat<16):=hexv_none ⟨c.toNat,c.toNat_lt⟩
theorem digits_index':∀n:Fin 256,Lib.indexByte [48,49,50,51,52,53,54,55,56,57,97,98,99,100,101,102] (n.val:Int).toNat.toUInt8=hexv n.val:=by decide +kernel
theorem zdq (c:UInt8):Lib.indexByte (ByteArray.mk #[48,49,50,51,52,53,54,55,56,57,97,98,99,100,101,102]).data.toList (c.toNat:Int).toNat.toUInt8=hexv c.toNat:=digits_index' ⟨c.toNat,c.toNat_lt⟩
theorem or_hex':∀a b:Fin 16,bits BinOp.or IntKind.i64 ((a.val:Int) * 16) (b.val:Int) % 256=16 *(a.val:Int)+b.val:=by decide +kernel
theorem or_hex (a b:Int) (h0:0≤a) (h1:a<16) (h2:0≤b) (h3:b<16):bits BinOp.or IntKind.i64 (a * 16) b % 256=16 * a+b:=by
 obtain⟨x,rfl⟩:=Int.eq_ofNat_of_zero_le h0;obtain⟨y,rfl⟩:=Int.eq_ofNat_of_zero_le h2;exact or_hex' ⟨x,by omega⟩ ⟨y,by omega⟩
theorem escR_at (s:ByteArray) (h:0<s.size):escR s.data.toList=(
    if(s[0].toNat:Int)=34∨(s[0].toNat:Int)=92 then(s[0].toNat,1)
    else if(s[0].toNat:Int)=110 then(10,1)
    else if(s[0].toNat:Int)=120 then
     if h3:2<s.size then(if 0≤hexv s[1].toNat∧0≤hexv s[2].toNat then(16 * hexv s[1].toNat+hexv s[2].toNat,3) else(0,0)) else(0,0)
    else(0,0):Int × Int):=by
 by_cases h3:2<s.size
 · rw [dif_pos h3];conv=>lhs;rw [cons3 s h3]
   rfl
 · rw [dif_neg h3];by_cases h2:1<s.size
   · conv=>lhs;rw [cons2 s h2]
     have:s.data.toList.drop 2= []:=List.drop_eq_nil_of_le jg;rw [this];rfl
   · conv=>lhs;rw [zdO s h]
     have:s.data.toList.drop 1= []:=List.drop_eq_nil_of_le jg;rw [this];rfl
theorem escape_any (s:ByteArray) (w:World) (hs:s.size≤maxLen) :
    Calls Tryz.prog 230 #[.string s] w fun e w'=>e= .returned (.tuple #[.int .u8 (escR s.data.toList).1, .int .i64 (escR s.data.toList).2])∧∃n,w'=w.drewN n:=by
 unfold maxLen at hs;by_cases h0:s.size=0
 · have he:=hD (za8 s h0);have hq:s.toList.isEmpty=true:=by rw [Lib.toList_data,he.out];rfl
   go_in;go_wp2_with fail;go_ret2;refine⟨zeN (by rw [he.out];rfl),⟨0,rfl⟩⟩
 have hq:s.toList.isEmpty=false:=by rw [Lib.toList_data];exact zeI s ja
 have HE:=hD (escR_at s ja);by_cases hx:(s[0].toNat:Int)=120∧2<s.size
 · obtain⟨hx,h3⟩:=hx;have HX:=hD hx;have x1:((s[0].toNat:Int) == 34)=false:=by simp [hx]
   have x2:((s[0].toNat:Int) == 92)=false:=by simp [hx]
   have x3:((s[0].toNat:Int) == 110)=false:=by simp [hx]
   have x4:((s[0].toNat:Int) == 120)=true:=by simp [hx]
   clear hx;have i1:1<s.size:=by omega
   have j1:(1:Int) <(s.size:Int):=by omega
   have j2:(2:Int) <(s.size:Int):=by omega
   have hr1:=zdD s[1];have hr2:=zdD s[2];go_in;go_wp2_with fail;go_quiet ((go_at_call 123;exact Calls.quiet_of_same (Tryz.strings_IndexByte _ _ _)));rw [zdq s[1],zdq s[2]];have HF:Hid (escR s.data.toList=if 0≤hexv s[1].toNat∧0≤hexv s[2].toNat then(16 * hexv s[1].toNat+hexv s[2].toNat,3) else(0,0)):=by
    have:=HE.out;rw [HX.out,if_neg jf,if_neg jf,if_pos rfl,dif_pos h3] at this;exact hD this
   clear HE;generalize hexv s[1].toNat=a at *;generalize hexv s[2].toNat=b at *;by_cases ha:0≤a
   · by_cases hb:0≤b
     · go_wp2_with fail;go_ret2;refine⟨zeN ?_,⟨_,rfl⟩⟩;rw [HF.out,if_pos ⟨ha,hb⟩,or_hex a b ja ja ja ja];rfl
     · exact fo148
   · exact fo148
 · go_in;go_wp2_with fail;all_goals (first|(go_ret2;refine⟨zeN ?_,⟨0,rfl⟩⟩;rw [HE.out];simp_all;done)|(exfalso;have h9:=beq_iff_eq.1 (‹((s[0].toNat:Int) == 120)=true›);omega)|skip)
   all_goals
    go_ret2;refine⟨zeN ?_,⟨0,rfl⟩⟩;have h9:=beq_iff_eq.1 (‹((s[0].toNat:Int) == 120)=true›);rw [HE.out,h9,if_neg jf,if_neg jf,if_pos rfl,dif_neg ja]
set_option maxRecDepth 100000
set_option maxHeartbeats 1000000
open Go.Proofs.YtepbbaifpckcpaaGreatDoor
open Go.RowKit
theorem drop_at (s:ByteArray) (i:Nat) (h:i<s.size):s.data.toList.drop i=s[i]::s.data.toList.drop (i+1):=by
 have h':i<s.data.toList.length:=by simpa using h
 exact List.drop_eq_getElem_cons h'
theorem escR_rng (l:List UInt8):0≤(escR l).1∧(escR l).1<256∧0≤(escR l).2∧(escR l).2≤l.length∧(escR l).2≤3:=by
 match l with
 | []=>simp [escR]
 | [c]=>exact fo98
 | [c,a]=>exact fo98
 |c::a::b::r=>
  have hc:=Zz c;have ha:=zdD a;have hb:=zdD b;simp only [escR];by_cases h1:(c.toNat:Int)=34∨(c.toNat:Int)=92
  · rw [if_pos h1];simp;omega
  · rw [if_neg h1];by_cases h2:(c.toNat:Int)=110
    · rw [if_pos h2];simp;omega
    · rw [if_neg h2];by_cases h3:(c.toNat:Int)=120
      · rw [if_pos h3];split <;> simp <;> omega
      · rw [if_neg h3];simp;omega
theorem chrR_rng (l:List UInt8):0≤(chrR l).1∧(chrR l).1<256∧0≤(chrR l).2∧(chrR l).2≤l.length∧(chrR l).2≤4:=by
 match l with
 | []=>simp [chrR]
 |c::r=>
  have hc:=Zz c;have he:=escR_rng r;simp only [chrR];by_cases h1:(c.toNat:Int) <32∨126<(c.toNat:Int)∨(c.toNat:Int)=34
  · rw [if_pos h1];simp;omega
  · rw [if_neg h1];by_cases h2:(c.toNat:Int)=92
    · rw [if_neg ja];by_cases h3:(escR r).2=0
      · rw [if_pos h3];simp;omega
      · rw [if_neg h3];simp;omega
    · rw [if_pos h2];simp;omega
theorem YW (c:UInt8) (r:List UInt8):chrR (c::r)=(if(c.toNat:Int) <32∨126<(c.toNat:Int)∨(c.toNat:Int)=34 then(0,0)
    else if(c.toNat:Int)≠92 then(c.toNat,1)
    else if(escR r).2=0 then(0,0) else((escR r).1,(escR r).2+1):Int × Int):=rfl
theorem byteCells_snoc (l:List UInt8) (c:Int) (h0:0≤c) (h1:c<256):Lib.byteCells l++ [.int .u8 c]=Lib.byteCells (l++ [c.toNat.toUInt8]):=by
 obtain⟨n,rfl⟩:=Int.eq_ofNat_of_zero_le h0;have:n % 256=n:=Nat.mod_eq_of_lt ja;simp [Lib.byteCells,this]
theorem litFrom_stop (s:ByteArray) (i:Nat) (acc:List UInt8) (h:i<s.size) (hc:(s[i].toNat:Int)=34):yL (s.data.toList.drop i) acc i=(acc,(i:Int)+1):=by
 rw [drop_at s i h,yL,if_pos hc]
theorem zef (s:ByteArray) (i:Nat) (acc:List UInt8) (h:i<s.size) (hc:(s[i].toNat:Int)≠34) (hn:(chrR (s.data.toList.drop i)).2=0):yL (s.data.toList.drop i) acc i=([],0):=by
 rw [drop_at s i h] at hn⊢;rw [yL,if_neg hc,if_pos hn]
theorem zfJ (s:ByteArray) (i k:Nat) (acc:List UInt8) (h:i<s.size) (hc:(s[i].toNat:Int)≠34) (hn:(chrR (s.data.toList.drop i)).2=(k:Int)+1) :
    yL (s.data.toList.drop i) acc i=yL (s.data.toList.drop (i+k+1)) (acc++ [(chrR (s.data.toList.drop i)).1.toNat.toUInt8]) (i+k+1):=by
 have e:i+k+1=(i+1)+k:=by omega
 rw [e,←List.drop_drop];rw [drop_at s i h] at hn⊢;rw [yL,if_neg hc,if_neg ja,hn];have e1:((k:Int)+1).toNat=k+1:=by omega
 rw [e1,←e];rfl
theorem litFrom_end (s:ByteArray) (i:Nat) (acc:List UInt8) (h:s.size≤i):yL (s.data.toList.drop i) acc i=([],0):=by
 rw [List.drop_eq_nil_of_le jac,yL]
theorem ret_si {k:IntKind} {a b:List UInt8} {c d:Int} (h:(a,c)=(b,d)):Ending.returned (.tuple #[.string ⟨a.toArray⟩, .int k c])= .returned (.tuple #[.string ⟨b.toArray⟩, .int k d]):=by
 cases h;rfl
theorem Y5 {P:Program} {f:FuncId} {args:Array Value} {w:World} {x:Ending} (h:Calls P f args w fun e w'=>e=x∧w'=w):Calls P f args w fun e w'=>e=x∧w=w':=
 h.mono fun _ _ ⟨a,b⟩=>⟨a,b.symm⟩
theorem tail_of (s:ByteArray) (k:Nat):(s.extract k s.size).data.toList=s.data.toList.drop k:=by
 rw [Lib.extract_data,List.take_of_length_le jd]
theorem litR_at (s:ByteArray) (h:0<s.size):litR s.data.toList=if(s[0].toNat:Int)=34 then yL (s.data.toList.drop 1) [] 1 else([],0):=by
 conv=>lhs;rw [zdO s h]
 rfl
theorem litR_nil (s:ByteArray) (h:s.size=0):litR s.data.toList=([],0):=by
 rw [za8 s h];rfl
theorem prefix_q (s:ByteArray):Lib.hasPrefix s.data.toList [34]=(if h:0<s.size then decide ((s[0].toNat:Int)=34) else false):=by
 by_cases h:0<s.size
 · rw [dif_pos h];conv=>lhs;rw [zdO s h]
   have:=u8_int s[0] 34 ja;simp only [Lib.hasPrefix,List.isPrefixOf,Bool.and_true];rw [Bool.eq_iff_iff];simp only [beq_iff_eq,decide_eq_true_eq];exact⟨fun e=>this.2 e.symm,fun e=>(this.1 e).symm⟩
 · rw [dif_neg h,za8 s ja];rfl
theorem literal_any (s:ByteArray) (w:World) (hs:s.size≤maxLen) (hr:s.size≤140737488355328) :
    Calls Tryz.prog 180 #[.string s] w fun e w'=>e= .returned (.tuple #[.string ⟨(litR s.data.toList).1.toArray⟩, .int .i64 (litR s.data.toList).2])∧Below w.heap.size w w':=by
 unfold maxLen at hs;have hp:=prefix_q s;by_cases h0:∃h:0<s.size,(s[0].toNat:Int)=34
 · obtain⟨h0,h1⟩:=h0;rw [dif_pos h0,h1] at hp;have HP:=hD hp;have HL:Hid (litR s.data.toList=yL (s.data.toList.drop 1) [] 1):=hD (by rw [litR_at s h0,if_pos h1]);have hI:=hD (Lib.fresh_isBuilder 77 5 w);clear hp h1;go_in;go_wp2_with fail;refine(Y5 (Tryz.strings_HasPrefix _ _ _)).mono ?_;rintro e w' ⟨rfl,rfl⟩;rw [HP.out];go_wp2_with fail;go_loopw [5] (fun i wr=>∃(k:Nat) (acc:List UInt8),i= .int .i64 k∧k≤s.size∧acc.length<k∧Lib.IsBuilder 77 5 w.heap.size w.heap.size (Lib.byteCells acc) wr∧Below w.heap.size w wr∧w.heap.size≤wr.heap.size∧litR s.data.toList=yL (s.data.toList.drop k) acc k) (fun i _=>s.size-(intOf i).toNat)
   case atStart=>exact⟨1, [],rfl,by omega,by simp,hI.out,(Below.refl _ _).alloc (Nat.le_refl _) _,by simp,HL.out⟩
   case round=>
    obtain⟨k,acc,rfl,hk,hacc,hI2,hb,hz,hf⟩:=hrel;have HI:=hD hI2;have HB:=hD hb;have HF:=hD hf;clear hI hI2 hb hf HL;have hd:decide True=true:=rfl;by_cases hlt:k<s.size
    · by_cases hc:(s[k].toNat:Int)=34
      · have x1:((s[k].toNat:Int) == 34)=true:=by simp [hc]
        have HX:=hD (litFrom_stop s k acc hlt hc);clear hc;go_wp2_with fail;refine(Tryz.Builder_String_any _ _ _ _ HI.out hz).mono ?_;rintro e w2 ⟨rfl,hb2⟩;go_wp2_with fail;go_ret2;exact⟨ret_si (by rw [HF.out,HX.out]),HB.out.trans hb2⟩
      · have x1:((s[k].toNat:Int) == 34)=false:=by simp [hc]
        by_cases hbad:(s[k].toNat:Int) <32∨126<(s[k].toNat:Int)
        · have HX:=hD (zef s k acc hlt hc (by
            rw [drop_at s k hlt,YW,if_pos ja]))
          clear hc;rcases hbad with hbad|hbad;all_goals
           go_wp2_with fail;go_ret2;exact⟨ret_si (by rw [HF.out,HX.out]),HB.out⟩
        · have b1:32≤(s[k].toNat:Int):=by omega
          have b2:(s[k].toNat:Int)≤126:=by omega
          by_cases h92:(s[k].toNat:Int)=92
          · have x2:((s[k].toNat:Int) == 92)=true:=by simp [h92]
            have hch:chrR (s.data.toList.drop k)=if(escR (s.data.toList.drop (k+1))).2=0 then(0,0) else((escR (s.data.toList.drop (k+1))).1,(escR (s.data.toList.drop (k+1))).2+1):=by
             rw [drop_at s k hlt,YW,if_neg ja,if_neg ja]
            have hx:=escR_rng (s.data.toList.drop (k+1));rw [List.length_drop] at hx;have hlen:s.data.toList.length=s.size:=by simp
            rw [hlen] at hx;have HC:=hD hch;have HN:=hD hc;clear hc h92 hch hlen hbad;go_wp2_with fail;refine(escape_any _ _ jw).mono ?_;rintro e w2 ⟨rfl,n,rfl⟩;rw [tail_of];have HI:Hid (Lib.IsBuilder 77 5 w.heap.size w.heap.size (Lib.byteCells acc) (wr.drewN n)):=hD HI.out;have HB:Hid (Below w.heap.size w (wr.drewN n)):=hD (Go.below_drewN HB.out n);have hz:w.heap.size≤(wr.drewN n).heap.size:=hz;obtain⟨hx0,hx1,hx2,hx3,hx4⟩:=hx;by_cases hz0:(escR (s.data.toList.drop (k+1))).2=0
            · have HX:=hD (zef s k acc hlt HN.out (by rw [HC.out,if_pos hz0]));have HZ:=hD hz0;have x3:((escR (s.data.toList.drop (k+1))).2 == 0)=true:=by simp [hz0]
              clear hz0;go_wp2_with fail;go_ret2;exact⟨ret_si (by rw [HF.out,HX.out]),HB.out⟩
            · have x3:((escR (s.data.toList.drop (k+1))).2 == 0)=false:=by simp [hz0]
              obtain⟨m,hm⟩:=Int.eq_ofNat_of_zero_le hx2;have HX:=hD (zfJ s k m acc hlt HN.out (by rw [HC.out,if_neg hz0,hm]));have HC1:Hid ((chrR (s.data.toList.drop k)).1=(escR (s.data.toList.drop (k+1))).1):=hD (by rw [HC.out,if_neg hz0]);have HM:=hD hm;clear hm hz0;go_wp2_with fail;refine(Tryz.Builder_WriteByte _ _ _ _ _ HI.out (by simp [Lib.byteCells];omega) hz).mono ?_;rintro e w2 ⟨rfl,hI3,hb3⟩;rw [byteCells_snoc _ _ hx0 hx1] at hI3;have HI3:=hD hI3;have HB3:=hD hb3;clear hI3 hb3;go_wp2_with fail;go_roundw
              case rel=>
               refine⟨k+m+1,acc++ [(escR (s.data.toList.drop (k+1))).1.toNat.toUInt8], ?_,by have:=HM.out;omega,by simp;omega, .inr HI3.out,HB.out.trans HB3.out, ?_,by rw [HF.out,HX.out,HC1.out]⟩
               · rw [HM.out];go_num
               · exact Nat.le_trans hz HB3.out.size
              case measure=>have:=HM.out;simp [intOf];omega
          · have x2:((s[k].toNat:Int) == 92)=false:=by simp [h92]
            have hch:chrR (s.data.toList.drop k)=((s[k].toNat:Int),(1:Int)):=by
             rw [drop_at s k hlt,YW,if_neg ja,if_pos h92]
            have HX:=hD (zfJ s k 0 acc hlt hc (by rw [hch];rfl));have HC1:Hid ((chrR (s.data.toList.drop k)).1=s[k].toNat):=hD (by rw [hch]);clear hc h92 hch hbad;go_wp2_with fail;refine(Tryz.Builder_WriteByte _ _ _ _ _ HI.out (by simp [Lib.byteCells];omega) hz).mono ?_;rintro e w2 ⟨rfl,hI3,hb3⟩;rw [byteCells_snoc _ _ ja (Zz _)] at hI3;have HI3:=hD hI3;have HB3:=hD hb3;clear hI3 hb3;go_wp2_with fail;go_roundw
            case rel=>
             refine⟨k+1,acc++ [(s[k].toNat:Int).toNat.toUInt8],by go_num,by omega,by simp;omega, .inr HI3.out,HB.out.trans HB3.out,Nat.le_trans hz HB3.out.size,by rw [HF.out,HX.out,HC1.out]⟩
            case measure=>simp [intOf];omega
    · go_wp2_with fail;go_ret2;exact⟨ret_si (by rw [HF.out,litFrom_end _ _ _ ja]),HB.out⟩
 · have HL:Hid (litR s.data.toList=([],0)):=by
     by_cases h:0<s.size
     · exact hD (by rw [litR_at s h,if_neg (fun e=>h0 ⟨h,e⟩)])
     · exact hD (litR_nil s ja)
   have HP:Hid (Lib.hasPrefix s.data.toList [34]=false):=by
    by_cases h:0<s.size
    · rw [dif_pos h] at hp;exact hD (hp.trans (decide_eq_false fun e=>h0 ⟨h,e⟩))
    · rw [dif_neg h] at hp;exact hD hp
   clear hp h0;go_in;go_wp2_with fail;refine(Y5 (Tryz.strings_HasPrefix _ _ _)).mono ?_;rintro e w' ⟨rfl,rfl⟩;rw [HP.out];go_wp2_with fail;go_ret2;exact⟨ret_si (by rw [HL.out]),Below.refl _ _⟩
set_option maxRecDepth 100000
set_option maxHeartbeats 1000000
open Go.Proofs.YtepbbaifpckcpaaGreatDoor
open Go.RowKit
theorem zbL (a b:List UInt8):ByteArray.mk a.toArray++ByteArray.mk b.toArray=ByteArray.mk (a++b).toArray:=by
 apply ByteArray.ext;simp
theorem zcl (w:World) (a:Addr) (c:Int) (_h0:0≤c) (_h1:c<256) (h:w.cell? a=some (.int .u8 c)) :
    Sem.run Tryz.prog (convert 75 9 (.slice (some a) 1 1)) w= .ok (.string ⟨#[c.toNat.toUInt8]⟩) w:=by
 rw [run_convert_bytes_string w 75 9 5 (some a) 1 1 Tryz.underlying75 Tryz.underlying5 Tryz.underlying9]
 rw [run_bytesToString w a 1 1 [c] (by have:=run_loadCells_list (P:=Tryz.prog) (w:=w) a [Value.int .u8 c] (by intro i v hi;cases i with|zero=>(simp at hi;subst hi;simpa [Addr.add] using h)|succ i=>simp at hi);simpa using this)]
 rfl
theorem intTok_at (s:ByteArray) (h:0<s.size):za9 s.data.toList =
    if 1<run zY s.data.toList∧(s[0].toNat:Int)=48 then none else(Yy (s.data.toList.takeWhile (pb zY)) 0).map (·,run zY s.data.toList):=by
 unfold za9;rw [head_at s h];have:=u8_int s[0] 48 ja;by_cases h1:1<run zY s.data.toList∧(s[0].toNat:Int)=48
 · rw [if_pos h1,if_pos (by simp [h1.1];exact this.1 h1.2)]
 · rw [if_neg h1,if_neg];intro hh;simp at hh;exact h1 ⟨hh.1,this.2 hh.2⟩
def intR (l:List UInt8):Int × Int:=match za9 l with|none=>(0,0)|some (v,n)=>(v,n)
def zbj (l:List UInt8) (k:Nat) (v:Int):Option Int:=Yy ((l.drop k).takeWhile (pb zY)) v
theorem intFrom_step (s:ByteArray) (k:Nat) (v:Int) (h:k<s.size) (hd:zY s[k].toNat=true) :
    zbj s.data.toList k v=if(9223372036854775807-((s[k].toNat:Int)- 48)) / 10<v then none else zbj s.data.toList (k+1) (10 * v+((s[k].toNat:Int)- 48)):=by
 unfold zbj;rw [drop_at s k h,List.takeWhile_cons_of_pos (p:=pb zY) hd,Yy]
theorem zdr (s:ByteArray) (k:Nat) (v:Int) (h:(hk:k<s.size)→zY s[k].toNat=false):zbj s.data.toList k v=some v:=by
 unfold zbj;by_cases hk:k<s.size
 · rw [drop_at s k hk,List.takeWhile_cons_of_neg (by have:=h hk;simp [pb,this])];rfl
 · rw [List.drop_eq_nil_of_le jg];rfl
theorem run_ge (p:Int→Bool) (l:List UInt8) (k:Nat) (hk:k≤l.length) (hj:∀j,(h:j<l.length)→j<k→p l[j].toNat=true):k≤run p l:=by
 induction l generalizing k with
 |nil=>simp at hk;omega
 |cons c r ih=>
  cases k with
  |zero=>omega
  |succ k=>
   have h0:=hj 0 jd ja;simp at h0;have:=ih k jce (fun j h h'=>by have:=hj (j+1) jac ja;simpa using this);simp only [run,pb,List.takeWhile_cons,h0,if_true,List.length_cons] at this⊢;omega
theorem zdp (l:List UInt8):zbj l 0 0=Yy (l.takeWhile (pb zY)) 0:=rfl
theorem zbU (s:ByteArray) (w:World) (hs:s.size≤maxLen) (h0:0<s.size) :
    Calls Tryz.prog 194 #[.string s] w fun e w'=>e= .returned (.tuple #[.int .i64 (intR s.data.toList).1, .int .i64 (intR s.data.toList).2])∧w=w':=by
 unfold maxLen at hs;have HT:=hD (intTok_at s h0);go_in;go_wp2_with fail;go_loop [4,5] (fun v i=>∃(k:Nat) (m:Int),v= .int .i64 m∧0≤m∧m≤9223372036854775807∧i= .int .i64 k∧k≤s.size∧(∀j,(h:j<s.size)→j<k→zY s[j].toNat=true)∧(1<k→(s[0].toNat:Int)≠48)∧zbj s.data.toList 0 0=zbj s.data.toList k m) (fun _ i=>s.size-(intOf i).toNat)
 case atStart=>exact⟨0,0,rfl,by omega,by omega,rfl,by omega,by intro j h h';omega,by omega,rfl⟩
 case round=>
  obtain⟨k,m,rfl,hm0,hm1,rfl,hk,hj,hz,hf⟩:=hrel;have HJ:=hD hj;have HZ:=hD hz;have HF:=hD hf;clear hj hz hf;by_cases hlt:k<s.size
  · cases hd:zY s[k].toNat
    · have HD:=hD hd;have HX:=hD (zdr s k m (fun _=>hd));have HR:=hD (run_at zY s.data.toList k jce (fun j h h'=>HJ.out j jac h') (fun _=>hd));clear hd;go_wp2_with (go_at_call 193;refine(zcq _ _).mono ?_;rw [HD.out];rintro e w' ⟨rfl,rfl⟩);exact fo117
    · have HD:=hD hd;have hst:=hD (intFrom_step s k m hlt hd);have hd1:48≤(s[k].toNat:Int)∧(s[k].toNat:Int)≤57:=by simpa [zY] using hd
      have hj':∀j,(h:j<s.size)→j<k+1→zY s[j].toNat=true:=fun j h h'=>by
       rcases Nat.lt_or_ge j k with h1|h1
       · exact HJ.out j h h1
       · obtain rfl:j=k:=by omega
         exact hd
      have HJ':=hD hj';have hge:=run_ge zY s.data.toList (k+1) jg (fun j h h'=>HJ'.out j jac h');clear hd hj';obtain⟨hd2,hd3⟩:=hd1;by_cases hbz:0<k∧(s[0].toNat:Int)=48
      · obtain⟨k0,hz0⟩:=hbz;have HX:Hid (intR s.data.toList=(0,0)):=hD (by rw [intR,HT.out,if_pos ⟨by omega,hz0⟩]);have x1:((s[0].toNat:Int) == 48)=true:=by simp [hz0]
        have x2:decide (0<(k:Int))=true:=by simp;omega
        clear hz0;exact fo73
      · have hbb:k=0∨(0<k∧(s[0].toNat:Int)≠48):=by omega
        have HB:=hD hbz;clear hbz;by_cases hov:(9223372036854775807-((s[k].toNat:Int)- 48)) / 10<m
        · have HX:Hid (intR s.data.toList=(0,0)):=hD (by
            rw [intR,HT.out];split
            · rfl
            · rename_i heq;split at heq
              · cases heq
              · rw [←zdp,HF.out,hst.out,if_pos hov] at heq;cases heq)
          rcases hbb with rfl|⟨k0,hz0⟩
          · exact fo73
          · have x1:((s[0].toNat:Int) == 48)=false:=by simp [hz0]
            exact fo73
        · rcases hbb with rfl|⟨k0,hz0⟩
          · go_wp2_with (go_at_call 193;refine(zcq _ _).mono ?_;rw [HD.out];rintro e w' ⟨rfl,rfl⟩);go_round
            case rel=>
             exact⟨1,10 * m+(s[0].toNat- 48),by go_num,by omega,by omega,rfl,by omega,HJ'.out,by omega,by rw [HF.out,hst.out,if_neg ja];rfl⟩
            case measure=>simp [intOf];omega
          · have x1:((s[0].toNat:Int) == 48)=false:=by simp [hz0]
            have HZ0:=hD hz0;clear hz0;go_wp2_with (go_at_call 193;refine(zcq _ _).mono ?_;rw [HD.out];rintro e w' ⟨rfl,rfl⟩);go_round
            case rel=>
             exact⟨k+1,10 * m+(s[k].toNat- 48),by go_num,by omega,by omega,by go_num,by omega,HJ'.out,fun _=>HZ0.out,by rw [HF.out,hst.out,if_neg ja]⟩
            case measure=>simp [intOf];omega
  · have HX:=hD (zdr s k m (fun h=>absurd h hlt));have HR:=hD (run_at zY s.data.toList k jce (fun j h h'=>HJ.out j jac h') (fun h=>by simp at h;omega));go_wp2_with fail;exact fo117
end Go.Proofs.YtepbbaifpckcpaaGreatDoor.Q06
