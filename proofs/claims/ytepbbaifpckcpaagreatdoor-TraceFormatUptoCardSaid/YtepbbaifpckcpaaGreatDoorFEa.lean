/- Entries of the log in plain words: their errors, values, what a value reads as, batches, fresh requests. -/
import Derived.Lib.ItoaMem
import Derived.Lib.AtoiAll
import Derived.Lib.AtoiAllCases
import Derived.Lib.SmallJoins
import Derived.Lib.AppendIntMem
import Derived.Lib.AtoiErrMem
import Derived.Deep.RegionWith
import Derived.Deep.RegionHeld3
import Derived.Lib.ItoaLen
import Derived.Deep.AppendLies
import Derived.Laws.OwnMore
import Derived.Deep.RegionLaw
import Derived.Test.YtepbbaifpckcpaaGreatDoorFPl
import Derived.Test.YtepbbaifpckcpaaGreatDoorFFo
import Derived.Test.YtepbbaifpckcpaaGreatDoorFWg
import Derived.Test.YtepbbaifpckcpaaGreatDoorFWa
namespace Go.Proofs.YtepbbaifpckcpaaGreatDoor.Q40
open Go.Proofs.YtepbbaifpckcpaaGreatDoor
structure Rq where
 (client number:Int) (op:List UInt8)
 deriving DecidableEq
structure En where
 (kind cfg:Int) (rs:List Rq)
 deriving DecidableEq
def same (a b:Rq):Bool:=a.client == b.client && a.number == b.number
def inB (l:List Rq) (r:Rq):Bool:=l.any fun x=>same x r
def vRq (done:List Rq) (r:Rq):Int:=
 if r.client<0∨6≤r.client∨r.number<1∨1000000<r.number then 7 else if r.op= [] then 9 else if 200<r.op.length then 3 else if inB done r then 5 else 0
def vRqs:List Rq→List Rq→Int
 |_, []=>0
 |done,r::t=>if vRq done r=0 then vRqs (done++ [r]) t else vRq done r
def vEn (e:En):Int:=
 if e.kind=1 then(if e.cfg≠0 then 1 else if 8<e.rs.length then 3 else vRqs [] e.rs)
 else if e.kind=2 then(if e.cfg<0∨6≤e.cfg∨e.rs≠ [] then 1 else 0)
 else if e.kind=3 then(if e.cfg≠0∨e.rs≠ [] then 1 else 0) else 1
def yI:List UInt8:= [98,97,116,99,104]
def Ya:List UInt8:= [106,111,105,110]
def yP:List UInt8:= [102,105,110,105,115,104]
def rqS (r:Rq):List (List UInt8):= [Lib.itoa r.client,Lib.itoa r.number,r.op]
def strs (e:En):List (List UInt8):=if e.kind=2 then [Ya,Lib.itoa e.cfg] else if e.kind=3 then [yP] else yI::e.rs.flatMap rqS
def valE (e:En):List UInt8:=zg (strs e)
/-! digits -/
theorem dd_big (u:Nat) (h:¬u<10):Lib.decDigits u=Lib.decDigits (u / 10)++ [UInt8.ofNat (48+u % 10)]:=by rw [Lib.decDigits,dif_neg h]
theorem Y8 (d:Nat) (h:d<10):(UInt8.ofNat (48+d)).toNat=48+d:=by
 simp;omega
theorem parse_dd (n:Nat):∀u,u≤n→u<1000000000000000000→∀r,Lib.parseUint10 0 (Lib.decDigits u++r)=Lib.parseUint10 u r:=by
 induction n with
 |zero=>
  intro u hu _ r;obtain rfl:u=0:=by omega
  rw [Lib.decDigits_one ja];simp [Lib.parseUint10]
 |succ n ih=>
  intro u hu hb r;by_cases h:u<10
  · rw [Lib.decDigits_one h,List.cons_append,List.nil_append,Lib.parseUint10,Y8 u h];rw [if_pos ja,if_neg ja,if_neg ja];congr 1;omega
  · rw [dd_big u h,List.append_assoc,ih (u / 10) ja ja,List.cons_append,List.nil_append,Lib.parseUint10,Y8 _ ja];rw [if_pos ja,if_neg ja,if_neg ja];congr 1;omega
theorem dd_head (u:Nat):∃c t,Lib.decDigits u=c::t∧48≤c.toNat∧c.toNat≤57:=by
 induction u using Nat.strongRecOn with
 |_ u ih=>
  by_cases h:u<10
  · exact⟨_, [],Lib.decDigits_one h,by rw [Y8 u h];omega,by rw [Y8 u h];omega⟩
  · obtain⟨c,t,e,h1,h2⟩:=ih (u / 10) ja;exact⟨c,t++ [UInt8.ofNat (48+u % 10)],by rw [dd_big u h,e];rfl,h1,h2⟩
theorem dd_ne (u:Nat):Lib.decDigits u≠ []:=by
 obtain⟨c,t,e,_⟩:=dd_head u;rw [e];simp
def ZE (s:List UInt8):Int:=match Lib.atoiAll s with
 | .ok v=>v
 | .range=>Lib.atoiSat s
 |_=>0
theorem atoiAll_dd (u:Nat) (h:u<1000000000000000000):Lib.atoiAll (Lib.decDigits u)= .ok (u:Int):=by
 obtain⟨c,t,e,h1,h2⟩:=dd_head u;have hp:=parse_dd u u (Nat.le_refl _) h [];rw [List.append_nil,e] at hp;rw [e,Lib.atoiAll_plain c t ja ja];have hm:Lib.parseMag (c::t)= .ok u:=by
  unfold Lib.parseMag;rw [if_neg jd,hp,Lib.parseUint10]
 rw [hm];show(if 9223372036854775808≤u then _ else _)=_;rw [if_neg ja]
theorem zdd (n:Int) (h0:0≤n) (h1:n<1000000000000000000):ZE (Lib.itoa n)=n:=by
 obtain⟨u,rfl⟩:=Int.eq_ofNat_of_zero_le h0;rw [Lib.itoa_nonneg];simp only [ZE,atoiAll_dd u ja]
def isDg (c:UInt8):Bool:=decide (48≤c.toNat) && decide (c.toNat≤57)
def valD (s:List UInt8):Nat:=s.foldl (fun a c=>10 * a+(c.toNat- 48)) 0
def numR (s:List UInt8):Int:=if s.length≤7∧s.all isDg=true∧s≠ []∧Lib.decDigits (valD s)=s then(valD s:Int) else -1
theorem valD_snoc (s:List UInt8) (c:UInt8):valD (s++ [c])=10 * valD s+(c.toNat- 48):=by simp [valD]
theorem dd_facts (u:Nat):valD (Lib.decDigits u)=u∧(Lib.decDigits u).all isDg=true:=by
 induction u using Nat.strongRecOn with
 |_ u ih=>
  by_cases h:u<10
  · rw [Lib.decDigits_one h];have:=Y8 u h;constructor
    · simp only [valD,List.foldl_cons,List.foldl_nil,this];omega
    · simp only [List.all_cons,List.all_nil,isDg,this,Bool.and_true,Bool.and_eq_true,decide_eq_true_eq];omega
  · obtain⟨i1,i2⟩:=ih (u / 10) ja;have:=Y8 (u % 10) ja;rw [dd_big u h];constructor
    · rw [valD_snoc,i1,this];omega
    · rw [List.all_append,i2];simp only [List.all_cons,List.all_nil,isDg,this,Bool.and_true,Bool.true_and,Bool.and_eq_true,decide_eq_true_eq];omega
theorem dd_len:∀(k u:Nat),u<10 ^(k+1)→(Lib.decDigits u).length≤k+1
 |0,u,h=>by rw [Lib.decDigits_one jac];simp
 |k+1,u,h=>by
  by_cases hn:u<10
  · rw [Lib.decDigits_one hn];simp
  · rw [dd_big u hn]
    have:=dd_len k (u / 10) jcw
    simp only [List.length_append,List.length_cons,List.length_nil]
    omega
theorem zd9 (n:Int) (h0:0≤n) (h1:n<10000000):numR (Lib.itoa n)=n:=by
 obtain⟨u,rfl⟩:=Int.eq_ofNat_of_zero_le h0;rw [Lib.itoa_nonneg];obtain⟨i1,i2⟩:=dd_facts u;unfold numR;rw [if_pos ⟨dd_len 6 u (by simpa using (by omega:u<10000000)),i2,dd_ne u,by rw [i1]⟩,i1]
theorem zaT (n:Int) (h0:0≤n) (h1:n<10000000):(Lib.itoa n).length≤7:=by
 obtain⟨u,rfl⟩:=Int.eq_ofNat_of_zero_le h0;rw [Lib.itoa_nonneg];exact dd_len 6 u (by simpa using (by omega:u<10000000))
open Go.Proofs.YtepbbaifpckcpaaGreatDoor
/-! bounds of a valid entry -/
theorem za2:∀(l done:List Rq),vRqs done l=0→∀r∈l,0≤r.client∧r.client<6∧1≤r.number∧r.number≤1000000∧r.op≠ []∧r.op.length≤200
 | [],_,_,r,hr=>by simp at hr
 |x::t,done,h,r,hr=>by
  rw [vRqs] at h
  split at h
  · rename_i h0
    rcases List.mem_cons.1 hr with rfl|hr
    · unfold vRq at h0
      split at h0
      · simp at h0
      · split at h0
        · simp at h0
        · split at h0
          · simp at h0
          · refine⟨?_, ?_, ?_, ?_, ?_, ?_⟩ <;> first|omega|assumption
    · exact za2 t _ h r hr
  · rename_i h0;exact absurd h h0
def RqB (r:Rq):Prop:=0≤r.client∧r.client<6∧1≤r.number∧r.number≤1000000∧r.op≠ []∧r.op.length≤200
theorem rqS_tot (r:Rq) (h:RqB r):tot (rqS r)≤214:=by
 obtain⟨h1,h2,h3,h4,h5,h6⟩:=h;have a:=zaT r.client h1 ja;have b:=zaT r.number ja ja;simp only [rqS,ZX];simp only [tot,List.map_nil,List.sum_nil];omega
theorem rqS_mem (r:Rq) (h:RqB r):∀x∈rqS r,x.length≤200:=by
 obtain⟨h1,h2,h3,h4,h5,h6⟩:=h;have a:=zaT r.client h1 ja;have b:=zaT r.number ja ja;intro x hx;simp only [rqS,List.mem_cons,List.not_mem_nil,or_false] at hx;rcases hx with rfl|rfl|rfl <;> omega
theorem varint_short (n:Nat) (h:n<16384):(varint n).length≤2:=ZT 1 n jac
theorem itoa_one (n:Int) (h0:0≤n) (h1:n<10):(Lib.itoa n).length≤1:=by
 obtain⟨u,rfl⟩:=Int.eq_ofNat_of_zero_le h0;rw [Lib.itoa_nonneg];exact dd_len 0 u (by simpa using (by omega:u<10))
theorem rq_code (r:Rq) (h:RqB r):((rqS r).flatMap zk).length≤212:=by
 obtain⟨h1,h2,h3,h4,h5,h6⟩:=h;have a:=itoa_one r.client h1 ja;have b:=zaT r.number ja ja;have c1:=ZT 0 (Lib.itoa r.client).length jg;have c2:=ZT 0 (Lib.itoa r.number).length jg;have c3:=varint_short r.op.length ja;simp only [rqS,List.flatMap_cons,List.flatMap_nil,List.append_nil,List.length_append,zk];omega
theorem rqs_code (l:List Rq) (h:∀r∈l,RqB r):((l.flatMap rqS).flatMap zk).length≤212 * l.length∧(l.flatMap rqS).length=3 * l.length∧tot (l.flatMap rqS)≤214 * l.length∧∀x∈l.flatMap rqS,x.length≤200:=by
 induction l with
 |nil=>simp [tot]
 |cons r t ih=>
  obtain⟨i1,i2,i3,i4⟩:=ih (fun y hy=>h y jci);have h1:=rq_code r (h r jd);have h2:=rqS_tot r (h r jd);have h3:=rqS_mem r (h r jd);refine⟨?_, ?_, ?_, ?_⟩
  · simp only [List.flatMap_cons,List.flatMap_append,List.length_append,List.length_cons] at i1 h1⊢;omega
  · simp only [List.flatMap_cons,List.length_append,List.length_cons] at i2⊢;rw [i2];simp [rqS];omega
  · simp only [List.flatMap_cons,List.length_cons] at i3⊢;have ht:∀a b:List (List UInt8),tot (a++b)=tot a+tot b:=by intro a b;simp [tot]
    rw [ht];omega
  · intro x hx;simp only [List.flatMap_cons,List.mem_append] at hx;rcases hx with hx|hx
    · exact h3 x hx
    · exact i4 x hx
theorem strs_ok (e:En) (h:vEn e=0):(strs e).length≤25∧(∀x∈strs e,x.length≤200)∧tot (strs e)≤2000∧(valE e).length≤1800:=by
 unfold vEn at h;unfold valE zg;split at h
 · rename_i hk;split at h
   · simp at h
   · split at h
     · simp at h
     · rename_i h8;obtain⟨i1,i2,i3,i4⟩:=rqs_code e.rs (za2 e.rs [] h);have he:strs e=yI::e.rs.flatMap rqS:=by unfold strs;rw [if_neg ja,if_neg ja]
       rw [he];have hv:=ZT 0 (yI::e.rs.flatMap rqS).length (by simp only [List.length_cons,i2];simp;omega);refine⟨by simp only [List.length_cons,i2];omega, ?_,by rw [ZX];simp only [yI,List.length_cons,List.length_nil];omega, ?_⟩
       · intro x hx;rcases List.mem_cons.1 hx with rfl|hx
         · simp [yI]
         · exact i4 x hx
       · have hb:(zk yI).length=6:=by decide +kernel
         simp only [List.flatMap_cons,List.length_append,hb] at hv⊢;omega
 · split at h
   · rename_i h1 hk;split at h
     · simp at h
     · have hl:=zaT e.cfg ja ja;have he:strs e= [Ya,Lib.itoa e.cfg]:=by unfold strs;rw [if_pos hk]
       have hv:=ZT 0 (Lib.itoa e.cfg).length jg;have hv2:=ZT 0 [Ya,Lib.itoa e.cfg].length jd;rw [he];refine⟨by simp, ?_,by simp only [ZX,Ya,List.length_cons,List.length_nil];simp only [tot,List.map_nil,List.sum_nil];omega, ?_⟩
       · intro x hx;exact fo138
       · have hb:(zk Ya).length=5:=by decide +kernel
         simp only [List.flatMap_cons,List.flatMap_nil,List.append_nil,List.length_append,zk] at hv hv2⊢;have hb2:(varint Ya.length++Ya).length=5:=hb;simp only [List.length_append] at hb2;omega
   · split at h
     · rename_i h1 h2 hk;have he:strs e= [yP]:=by unfold strs;rw [if_neg h2,if_pos hk]
       rw [he];decide +kernel
     · simp at h
/-! the program's reading -/
def trip:List (List UInt8)→List Rq
 |a::b::c::r=>⟨ZE a,ZE b,c⟩::trip r
 |_=> []
def zcw:List (List UInt8)→En
 | []=>⟨1,0, []⟩
 |h::t=>if h=Ya∧t.length=1 then⟨2,ZE (t.headD []), []⟩ else if h=yP then⟨3,0, []⟩ else⟨1,0,trip t⟩
theorem trip_rqs (l:List Rq) (h:∀r∈l,RqB r):trip (l.flatMap rqS)=l:=by
 induction l with
 |nil=>rfl
 |cons r t ih=>
  obtain⟨h1,h2,h3,h4,_⟩:=h r jd;simp only [List.flatMap_cons,rqS,List.cons_append,List.nil_append,trip];rw [zdd r.client h1 ja,zdd r.number ja ja];exact congrArg _ (ih (fun y hy=>h y jci))
theorem en_eta (e:En) (k c:Int) (l:List Rq) (h1:e.kind=k) (h2:e.cfg=c) (h3:e.rs=l):(⟨k,c,l⟩:En)=e:=by
 cases e;simp at *;simp [*]
theorem zcY (e:En) (h:vEn e=0):zcw (strs e)=e:=by
 unfold vEn at h;split at h
 · rename_i hk;split at h
   · simp at h
   · split at h
     · simp at h
     · rename_i h0 h8;have he:strs e=yI::e.rs.flatMap rqS:=by unfold strs;rw [if_neg ja,if_neg ja]
       rw [he,zcw,if_neg jcv,if_neg jf,trip_rqs e.rs (za2 e.rs [] h)];exact en_eta e _ _ _ hk jcn rfl
 · split at h
   · rename_i h1 hk;split at h
     · simp at h
     · rename_i h2;have he:strs e= [Ya,Lib.itoa e.cfg]:=by unfold strs;rw [if_pos hk]
       rw [he,zcw,if_pos ⟨rfl,rfl⟩,List.headD_cons,zdd e.cfg ja ja];exact fo136
   · split at h
     · rename_i h1 h2 hk;split at h
       · simp at h
       · rename_i h3;have he:strs e= [yP]:=by unfold strs;rw [if_neg h2,if_pos hk]
         rw [he,zcw,if_neg jcv,if_pos rfl];exact fo95
     · simp at h
theorem strs_ne (e:En):strs e≠ []:=by
 unfold strs;split
 · simp
 · split <;> simp
/-! the entry with a value -/
def Right (s:List UInt8) (e:En):Prop:=vEn e=0∧valE e=s
theorem zaA {s:List UInt8} {e:En} (h:Right s e):zK s=some (strs e,s.length):=by
 obtain⟨h1,rfl⟩:=h;obtain⟨a,b,c,d⟩:=strs_ok e h1;have:=zeP (strs e) [] ja (fun x hx=>by have:=b x hx;omega);rw [List.append_nil] at this;exact this
theorem right_one {s:List UInt8} {e e':En} (h:Right s e) (h':Right s e'):e=e':=by
 have h1:=(zaA h).symm.trans (zaA h');simp only [Option.some.injEq,Prod.mk.injEq,and_true] at h1;rw [←zcY e h.1,←zcY e' h'.1,h1]
noncomputable def decE (s:List UInt8):Option En:= @dite _ (∃e,Right s e) (Classical.propDecidable _) (fun h=>some (Classical.choose h)) (fun _=>none)
theorem decE_some {s:List UInt8} {e:En} (h:Right s e):decE s=some e:=by
 have hx:∃e,Right s e:=⟨e,h⟩;unfold decE;rw [dif_pos hx];exact congrArg some (right_one (Classical.choose_spec hx) h)
theorem zaO {s:List UInt8} (h:∀e,¬Right s e):decE s=none:=by
 unfold decE;rw [dif_neg (fun⟨e,he⟩=>h e he)]
theorem zeH {s:List UInt8} {l:List (List UInt8)} {n:Nat} (hl:zK s=some (l,n)):decE s=if vEn (zcw l)=0∧valE (zcw l)=s then some (zcw l) else none:=by
 split
 · rename_i h;exact decE_some h
 · rename_i h;refine zaO fun e he=>h ?_
   have h1:=(zaA he).symm.trans hl;simp only [Option.some.injEq,Prod.mk.injEq] at h1;rw [←h1.1,zcY e he.1];exact he
theorem decE_bad {s:List UInt8} (hl:zK s=none):decE s=none:=zaO fun e he=>by
 have:=zaA he
 rw [hl] at this;simp at this
theorem decE_nil {s:List UInt8} {n:Nat} (hl:zK s=some ([],n)):decE s=none:=by
 refine zaO fun e he=> ?_
 have h1:=(zaA he).symm.trans hl;simp only [Option.some.injEq,Prod.mk.injEq] at h1;exact strs_ne e h1.1
/-! the reference's reading -/
def yA (s:List UInt8) (most:Nat):Nat × Nat:=
 match s with
 | []=>(0,0)
 |c::r=>
  if c.toNat<128 then(if most<c.toNat then(0,0) else(c.toNat,1))
  else match r with
   | []=>(0,0)
   |d::_=>if d.toNat=0∨128≤d.toNat then(0,0) else if most<c.toNat- 128+128 * d.toNat then(0,0) else(c.toNat- 128+128 * d.toNat,2)
def zbG:Nat→List UInt8→Option (List (List UInt8) × Nat)
 |0,_=>some ([],0)
 |k+1,s=>
  if(yA s 200).2=0∨s.length<(yA s 200).2+(yA s 200).1 then none
  else match zbG k (s.drop ((yA s 200).2+(yA s 200).1)) with
   |none=>none
   |some (xs,m)=>some ((s.drop (yA s 200).2).take (yA s 200).1::xs,(yA s 200).2+(yA s 200).1+m)
def yN (s:List UInt8):Option (List (List UInt8)):=
 if(yA s 25).2=0 then none
 else match zbG (yA s 25).1 (s.drop (yA s 25).2) with
  |none=>none
  |some (xs,m)=>if(yA s 25).2+m=s.length then some xs else none
theorem zdG (s:List UInt8) (m:Nat):(yA s m).2≤s.length∧(yA s m).1≤m:=by
 unfold yA;split
 · simp
 · split
   · split <;> simp
     omega
   · split
     · simp
     · split
       · simp
       · split <;> simp
         omega
theorem takeR_put (n most:Nat) (r:List UInt8) (h:n≤most) (hm:most<16384):yA (varint n++r) most=(n,(varint n).length):=by
 by_cases hn:n<128
 · have ht:n.toUInt8.toNat=n:=by simp;omega
   rw [Zh n hn];simp only [List.cons_append,yA,ht];rw [if_pos hn,if_neg ja];rfl
 · have ht:((128+n % 128).toUInt8).toNat=128+n % 128:=by simp;omega
   have hd:(n / 128).toUInt8.toNat=n / 128:=by simp;omega
   rw [zax n hn,Zh (n / 128) ja];simp only [List.cons_append,List.nil_append,yA,ht,hd];rw [if_neg ja,if_neg ja,if_neg ja];simp only [List.length_cons,List.length_nil,Prod.mk.injEq,and_true];omega
theorem refGo_put (l:List (List UInt8)) (h:∀x∈l,x.length≤200) (r:List UInt8):zbG l.length (l.flatMap zk++r)=some (l,(l.flatMap zk).length):=by
 induction l with
 |nil=>rfl
 |cons x t ih=>
  have hx:=takeR_put x.length 200 (x++(t.flatMap zk++r)) (h x jd) ja;have ih':=ih (fun y hy=>h y jci);have he:(x::t).flatMap zk++r=varint x.length++(x++(t.flatMap zk++r)):=by simp [zk]
  have hd:(varint x.length++(x++(t.flatMap zk++r))).drop ((varint x.length).length+x.length)=t.flatMap zk++r:=by
   rw [←List.append_assoc,List.drop_left' jd]
  have hv:=zfE x.length;rw [he,List.length_cons,zbG,hx];simp only [];rw [if_neg jbe,hd,ih',List.drop_left,List.take_left];simp [zk];omega
theorem refStrs_put (l:List (List UInt8)) (h:∀x∈l,x.length≤200) (hl:l.length≤25):yN (zg l)=some l:=by
 have ht:=takeR_put l.length 25 (l.flatMap zk) hl ja;have hg:=refGo_put l h [];have hv:=zfE l.length;rw [List.append_nil] at hg;unfold yN zg;rw [ht];simp only [];rw [if_neg ja,List.drop_left,hg];simp
def ze3:List (List UInt8)→List Rq
 |a::b::c::r=>⟨numR a,numR b,c⟩::ze3 r
 |_=> []
def zbF:List (List UInt8)→En
 | []=>⟨0,0, []⟩
 |h::t=>if h=yP then⟨3,0, []⟩ else if h=Ya∧t.length=1 then⟨2,numR (t.headD []), []⟩ else if h=yI∧t.length % 3=0 then⟨1,0,ze3 t⟩ else⟨0,0, []⟩
theorem tripR_rqs (l:List Rq) (h:∀r∈l,RqB r):ze3 (l.flatMap rqS)=l:=by
 induction l with
 |nil=>rfl
 |cons r t ih=>
  obtain⟨h1,h2,h3,h4,_⟩:=h r jd;simp only [List.flatMap_cons,rqS,List.cons_append,List.nil_append,ze3];rw [zd9 r.client h1 ja,zd9 r.number ja ja];exact congrArg _ (ih (fun y hy=>h y jci))
theorem readR_strs (e:En) (h:vEn e=0):zbF (strs e)=e:=by
 unfold vEn at h;split at h
 · rename_i hk;split at h
   · simp at h
   · split at h
     · simp at h
     · rename_i h0 h8;have he:strs e=yI::e.rs.flatMap rqS:=by unfold strs;rw [if_neg ja,if_neg ja]
       have hr:=rqs_code e.rs (za2 e.rs [] h);rw [he,zbF,if_neg jf,if_neg jcv,if_pos ⟨rfl,by rw [hr.2.1];omega⟩,tripR_rqs e.rs (za2 e.rs [] h)];exact en_eta e _ _ _ hk jcn rfl
 · split at h
   · rename_i h1 hk;split at h
     · simp at h
     · rename_i h2;have he:strs e= [Ya,Lib.itoa e.cfg]:=by unfold strs;rw [if_pos hk]
       rw [he,zbF,if_neg jf,if_pos ⟨rfl,rfl⟩,List.headD_cons,zd9 e.cfg ja ja];exact fo136
   · split at h
     · rename_i h1 h2 hk;split at h
       · simp at h
       · rename_i h3;have he:strs e= [yP]:=by unfold strs;rw [if_neg h2,if_pos hk]
         rw [he,zbF,if_pos rfl];exact fo95
     · simp at h
theorem zd3 {s:List UInt8} {e:En} (h:Right s e):yN s=some (strs e):=by
 obtain⟨h1,rfl⟩:=h;obtain⟨a,b,_,_⟩:=strs_ok e h1;exact refStrs_put (strs e) b a
theorem zdK {s:List UInt8} {l:List (List UInt8)} (hl:yN s=some l):decE s=if vEn (zbF l)=0∧valE (zbF l)=s then some (zbF l) else none:=by
 split
 · rename_i h;exact decE_some h
 · rename_i h;refine zaO fun e he=>h ?_
   have h1:=(zd3 he).symm.trans hl;simp only [Option.some.injEq] at h1;rw [←h1,readR_strs e he.1];exact he
theorem decE_refBad {s:List UInt8} (hl:yN s=none):decE s=none:=zaO fun e he=>by
 have:=zd3 he
 rw [hl] at this;simp at this
theorem decE_refNil {s:List UInt8} (hl:yN s=some []):decE s=none:=by
 refine zaO fun e he=> ?_
 have h1:=(zd3 he).symm.trans hl;simp only [Option.some.injEq] at h1;exact strs_ne e h1
open Go.Proofs.YtepbbaifpckcpaaGreatDoor
/-! the text of a value -/
/-! batches -/
def fitsB (k b:Int) (l:List Rq):Bool:=decide ((l.length:Int)≤k) && decide (((valE ⟨1,0,l⟩).length:Int)≤b)
structure BatOk (k b:Int) (pre:List Rq) (out:List (List Rq)):Prop where
 all:out.flatten=pre
 ne:∀x∈out,x≠ []
 fit:∀x∈out,fitsB k b x=true
 apart:∀(i:Nat) (h:i+1<out.length) (r:Rq) (t:List Rq),out[i+1]=r::t→fitsB k b (out[i]++ [r])=false
/-! fresh requests -/
def fresh (seen:List Rq):List Rq→List Rq→List Rq
 |out, []=>out
 |out,r::t=>if inB (seen++out) r=true then fresh seen out t else fresh seen (out++ [r]) t
set_option maxRecDepth 100000
set_option maxHeartbeats 2000000
open Go.Proofs.YtepbbaifpckcpaaGreatDoor
open Go.RowKit
structure Env (w:World):Prop where
 pow:Lib.TabIs Tryz.prog w "internal/strconv.uint64pow10" .u64 Lib.pow10Tab
 syn:∃t p,w.cell? ⟨5,0,none⟩=some (.iface t p)
 rng:∃t p,w.cell? ⟨6,0,none⟩=some (.iface t p)
theorem Env.below {w w':World} (h:Env w) (hb:Below w.heap.size w w'):Env w' where
 pow:=Go.Joins.tab_stays (g:=(Tryz.prog.globalNamed "internal/strconv.uint64pow10").getD 0) jc h.pow hb (Nat.le_refl _)
 syn:=by
  obtain⟨t,p,e⟩:=h.syn;exact⟨t,p,(hb.cell (p:=⟨5,0,none⟩) (Lib.lt_of_cell e)).trans e⟩
 rng:=by
  obtain⟨t,p,e⟩:=h.rng;exact⟨t,p,(hb.cell (p:=⟨6,0,none⟩) (Lib.lt_of_cell e)).trans e⟩
structure EnvP (w:World):Prop where
 pow:Lib.TabIs Tryz.prog w "internal/strconv.uint64pow10" .u64 Lib.pow10Tab
theorem EnvP.below {w w':World} (h:EnvP w) (hb:Below w.heap.size w w'):EnvP w' where
 pow:=Go.Joins.tab_stays (g:=(Tryz.prog.globalNamed "internal/strconv.uint64pow10").getD 0) jc h.pow hb (Nat.le_refl _)
theorem Env.p {w:World} (h:Env w):EnvP w:=⟨h.pow⟩
instance (w:World):Coe (Env w) (EnvP w):=⟨Env.p⟩
theorem itoa_any (n:Int) (h0:-9223372036854775808≤n) (h1:n≤9223372036854775807) (w:World) (he:EnvP w) :
    Calls Tryz.prog 76 #[.int .i64 n] w (zi (Lib.itoa n) w):=
 (Tryz.strconv_Itoa n h0 h1 w he.pow).mono fun _ _ ⟨he,k,os,hw⟩=>⟨he,by rw [hw];exact Lib.below_grow _ w (Nat.le_refl _) k os⟩
def RetNum (n:Int) (w:World) (e:Ending) (w':World):Prop:=(∃x,e= .returned (.tuple #[.int .i64 n,x]))∧Below w.heap.size w w'
theorem atoi_any (s:ByteArray) (hs:s.size≤281474976710656) (w:World) (he:Env w) :
    Calls Tryz.prog 141 #[.string s] w (RetNum (ZE s.data.toList) w):=by
 unfold ZE;cases h:Lib.atoiAll s.data.toList with
 |ok v=>
  refine(Tryz.strconv_Atoi_ok s ja v h w).mono ?_
  rintro e w' ⟨rfl,rfl|⟨t,rfl⟩⟩
  · exact⟨⟨_,rfl⟩,Below.refl _ _⟩
  · exact⟨⟨_,rfl⟩,Lib.bytesWorld_below _ _ _⟩
 |range=>
  obtain⟨t,p,hc⟩:=he.rng;refine(Any.strconv_Atoi_range Tryz.laysC172 s hs h _ w hc (.inr ⟨_,_,rfl⟩)).mono ?_
  rintro e w' ⟨N,rfl,_,_,hb⟩;exact⟨⟨_,rfl⟩,hb⟩
 |_=>
  obtain⟨t,p,hc⟩:=he.syn;refine(Any.strconv_Atoi_syntax Tryz.laysC172 s hs h _ w hc (.inr ⟨_,_,rfl⟩)).mono ?_
  rintro e w' ⟨N,rfl,_,_,hb⟩;exact⟨⟨_,rfl⟩,hb⟩
def rqC (r:Rq):List Value:= [.int .i64 r.client, .int .i64 r.number, .string ⟨r.op.toArray⟩]
theorem zbf (r:Rq):(rqC r).length=3:=rfl
def zC (b:Bool) (w:World) (e:Ending) (w':World):Prop:=e= .returned (.bool b)∧Below w.heap.size w w'
theorem zz {b c:Bool} {w w':World} (h:b=c) (hb:Below w.heap.size w w'):zC b w (.returned (.bool c)) w':=⟨by rw [h],hb⟩
theorem same_any (a b:Rq) (w:World):Calls Tryz.prog 276 #[.agg #[.int .i64 a.client, .int .i64 a.number, .string ⟨a.op.toArray⟩], .agg #[.int .i64 b.client, .int .i64 b.number, .string ⟨b.op.toArray⟩]] w (zC (same a b) w):=fo47
def zet (r:Rq) (b:Nat) (w:World):Prop:=b<w.heap.size∧w.cell? ⟨b,0,none⟩=some (.int .i64 r.client)∧w.cell? ⟨b,1,none⟩=some (.int .i64 r.number)∧w.cell? ⟨b,2,none⟩=some (.string ⟨r.op.toArray⟩)
theorem zet.below {r:Rq} {b:Nat} {w w':World} (h:zet r b w) (hb:Below w.heap.size w w'):zet r b w':=
 ⟨Nat.lt_of_lt_of_le h.1 hb.size,(hb.cell (p:=⟨b,0,none⟩) h.1).trans h.2.1,(hb.cell (p:=⟨b,1,none⟩) h.1).trans h.2.2.1,(hb.cell (p:=⟨b,2,none⟩) h.1).trans h.2.2.2⟩
theorem holds1_new (r:Rq) (w:World):zet r w.heap.size (w.alloc (.cells #[.int .i64 r.client, .int .i64 r.number, .string ⟨r.op.toArray⟩] 191)):=by
 have h:=fun j (v:Value) (hj:(rqC r)[j]? =some v)=>z8 w (rqC r) 191 w.heap.size rfl j v hj
 simp only [zam,Nat.zero_add] at h;exact⟨by simp,h 0 _ rfl,h 1 _ rfl,h 2 _ rfl⟩
theorem inCl_any (x r:Rq) (b:Nat) (w:World) (h:zet r b w):Calls Tryz.prog 275 #[.agg #[.int .i64 x.client, .int .i64 x.number, .string ⟨x.op.toArray⟩], .pointer (some ⟨b,0,none⟩)] w (zC (same x r) w):=by
 have B0:=hD (za w (.cells #[.int .i64 x.client, .int .i64 x.number, .string ⟨x.op.toArray⟩] 191));have HS:=hD (fun w=>same_any x r w);obtain⟨h0,h1,h2,h3⟩:=h.below B0.out;clear h;go_in;go_wp2_with fail;refine(HS.out _).mono ?_;rintro e w' ⟨rfl,hb⟩;go_wp2_with fail;go_ret;exact zz rfl (B0.out.trans (hb.mono jd))
def RetIdx (b:Bool) (n:Nat) (w:World) (e:Ending) (w':World):Prop:=(∃i:Int,e= .returned (.int .i64 i)∧-1≤i∧i≤n∧decide (0≤i)=b)∧Below w.heap.size w w'
theorem any_take {α:Type} (l:List α) (p:α→Bool) (k:Nat) (h:k<l.length):(l.take (k+1)).any p=((l.take k).any p || p l[k]):=by
 rw [List.take_succ_eq_append_getElem h,List.any_append];simp
theorem zdX {α:Type} (l:List α) (p:α→Bool) (k:Nat) (h:(l.take k).any p=true):l.any p=true:=by
 rw [List.any_eq_true] at h⊢;obtain⟨x,hx,hp⟩:=h;exact⟨x,List.mem_of_mem_take hx,hp⟩
theorem idx_any (A:Option Addr) (c:Nat) (l:List Rq) (r:Rq) (b:Nat) (w:World) (hr:Rd w 3 A l.length (l.flatMap rqC)) (hn:l.length≤9223372036854775807) (h:zet r b w) :
    Calls Tryz.prog 283 #[.slice A l.length c, .func (.func 275) #[] #[.pointer (some ⟨b,0,none⟩)]] w (RetIdx (inB l r) l.length w):=by
 have HR:=hD hr;have HH:=hD h;have hb0:=h.1;clear hr h;go_in;go_wp2_with fail;go_loopw [8] (fun i wr=>∃k:Nat,i= .int .i64 k∧k≤l.length∧inB (l.take k) r=false∧Below w.heap.size w wr) (fun i _=>l.length-(intOf i).toNat)
 case atStart=>exact⟨0,rfl,by omega,rfl,Below.refl _ _⟩
 case round=>
  obtain⟨k,rfl,hk,hno,hb⟩:=hrel;have HB:=hD hb;have HN:=hD hno;clear hb hno;by_cases hlt:k<l.length
  · have i0:(0:Int)≤(k:Int):=by omega
    have i1:(k:Int) <(l.length:Int):=by omega
    obtain⟨g,o,rfl,hg,hcc⟩:=HR.out.at zbf ja hlt;have a0:=hcc wr HB.out 0 _ rfl;have a1:=hcc wr HB.out 1 _ rfl;have a2:=hcc wr HB.out 2 _ rfl;clear hcc;simp only [Nat.add_zero] at a0;have HC:=hD (inCl_any l[k] r b wr (HH.out.below HB.out));cases hs:same l[k] r with
    |true=>
     have HY:Hid (inB l r=true):=hD (zdX l _ (k+1) (by rw [any_take l _ k hlt,hs];simp));rw [hs] at HC;clear hs;go_wp2_with fail;refine HC.out.mono ?_;rintro e w' ⟨rfl,b1⟩;go_wp2_with fail;go_ret;exact⟨⟨k,rfl,by omega,by omega,by rw [HY.out];simp⟩,bon HB.out b1⟩
    |false=>
     have HY:Hid (inB (l.take (k+1)) r=false):=hD jbr;rw [hs] at HC;clear hs;go_wp2_with fail;refine HC.out.mono ?_;rintro e w' ⟨rfl,b1⟩;have B1:=hD b1;clear b1;go_wp2_with fail;go_roundw
     case rel=>exact⟨k+1,by go_num,by omega,HY.out,bon HB.out B1.out⟩
     case measure=>simp [intOf];omega
  · have HY:Hid (inB l r=false):=hD (by have:=HN.out;rwa [List.take_of_length_le ja] at this);go_wp2_with fail;go_ret;exact⟨⟨-1,rfl,by omega,by omega,by rw [HY.out];decide⟩,HB.out⟩
theorem contains_any (A:Option Addr) (c:Nat) (l:List Rq) (r:Rq) (b:Nat) (w:World) (hr:Rd w 3 A l.length (l.flatMap rqC)) (hn:l.length≤9223372036854775807) (h:zet r b w) :
    Calls Tryz.prog 274 #[.slice A l.length c, .func (.func 275) #[] #[.pointer (some ⟨b,0,none⟩)]] w (zC (inB l r) w):=by
 have HI:=hD (idx_any A c l r b w hr hn h);clear hr h;go_in;go_wp2_with fail;refine HI.out.mono ?_;rintro e w' ⟨⟨i,rfl,h1,h2,h3⟩,hb⟩;have H3:=hD h3;have HB:=hD hb;clear h3 hb;go_wp2_with fail;all_goals
  go_ret;exact zz (by rw [←H3.out]) HB.out
theorem in_any (A:Option Addr) (c:Nat) (l:List Rq) (r:Rq) (w:World) (hr:Rd w 3 A l.length (l.flatMap rqC)) (hn:l.length≤9223372036854775807) :
    Calls Tryz.prog 251 #[.slice A l.length c, .agg #[.int .i64 r.client, .int .i64 r.number, .string ⟨r.op.toArray⟩]] w (zC (inB l r) w):=by
 have B0:=hD (za w (.cells #[.int .i64 r.client, .int .i64 r.number, .string ⟨r.op.toArray⟩] 191));have HC:=hD (contains_any A c l r w.heap.size _ (hr.below B0.out) hn (holds1_new r w));clear hr;go_in;go_wp2_with fail;refine HC.out.mono ?_;rintro e w' ⟨rfl,hb⟩;go_wp2_with fail;go_ret;exact zz rfl (B0.out.trans (hb.mono jd))
set_option maxRecDepth 100000
set_option maxHeartbeats 4000000
open Go.Proofs.YtepbbaifpckcpaaGreatDoor
open Go.RowKit
theorem flat_take {α:Type} (C:α→List Value) (m:Nat) (hC:∀x,(C x).length=m) (l:List α) (k:Nat):(l.take k).flatMap C=(l.flatMap C).take (k * m):=by
 induction l generalizing k with
 |nil=>simp
 |cons x r ih=>
  cases k with
  |zero=>simp
  |succ k=>
   rw [List.take_succ_cons,List.flatMap_cons,List.flatMap_cons,ih,List.take_append,hC,Nat.succ_mul,List.take_of_length_le (l:=C x) (by rw [hC];omega),show k * m+m- m=k * m from by omega]
theorem rdTk {α:Type} {w:World} {m:Nat} {A:Option Addr} {l:List α} {C:α→List Value} (h:Rd w m A l.length (l.flatMap C)) (hC:∀x,(C x).length=m) {k:Nat} (hk:k≤l.length):Rd w m A k ((l.take k).flatMap C):=by
 have h2:(l.take k).length=k:=by simp;omega
 refine⟨by rw [ZY C m hC,h2],fun hp=> ?_⟩;have hle:(l.take k).flatMap C=(l.flatMap C).take (k * m):=flat_take C m hC l k;rw [hle,List.length_take] at hp;obtain⟨b,o,e,hb,hc⟩:=h.cells ja;refine⟨b,o,e,hb,fun j u hu=>hc j u ?_⟩;rw [hle,List.getElem?_take] at hu;split at hu
 · exact hu
 · simp at hu
def Zw (n:Int) (w:World) (e:Ending) (w':World):Prop:=e= .returned (.int .i64 n)∧Below w.heap.size w w'
theorem yz {n m:Int} {w w':World} (h:n=m) (hb:Below w.heap.size w w'):Zw n w (.returned (.int .i64 m)) w':=⟨by rw [h],hb⟩
theorem vRqs_at (l:List Rq) (k:Nat) (h:k<l.length):vRqs (l.take k) (l.drop k)=if vRq (l.take k) l[k]=0 then vRqs (l.take (k+1)) (l.drop (k+1)) else vRq (l.take k) l[k]:=by
 rw [List.drop_eq_getElem_cons h,vRqs,List.take_succ_eq_append_getElem h]
theorem vRq_ways (done:List Rq) (r:Rq):((r.client<0∨6≤r.client∨r.number<1∨1000000<r.number)∧vRq done r=7)∨
    ((0≤r.client∧r.client<6∧1≤r.number∧r.number≤1000000)∧((r.op= []∧vRq done r=9)∨(r.op≠ []∧((200<r.op.length∧vRq done r=3)∨(r.op.length≤200∧((inB done r=true∧vRq done r=5)∨(inB done r=false∧vRq done r=0))))))):=by
 unfold vRq;by_cases h1:r.client<0∨6≤r.client∨r.number<1∨1000000<r.number
 · exact .inl ⟨h1,by rw [if_pos h1]⟩
 · rw [if_neg h1];refine .inr ⟨by omega, ?_⟩;by_cases h2:r.op= []
   · exact .inl ⟨h2,by rw [if_pos h2]⟩
   · rw [if_neg h2];refine .inr ⟨h2, ?_⟩;by_cases h3:200<r.op.length
     · exact .inl ⟨h3,by rw [if_pos h3]⟩
     · rw [if_neg h3];refine .inr ⟨by omega, ?_⟩;cases inB done r
       · exact .inr ⟨rfl,by simp⟩
       · exact .inl ⟨rfl,by simp⟩
theorem zbl (A:Option Addr) (c:Nat) (l:List Rq) (w:World) (hr:Rd w 3 A l.length (l.flatMap rqC)) (hc:l.length≤c) (_hcc:c≤9223372036854775807) (hn:l.length≤9223372036854775807) (ho:∀r∈l,r.op.length≤9223372036854775807) :
    Calls Tryz.prog 207 #[.slice A l.length c] w (Zw (vRqs [] l) w):=by
 have HR:=hD hr;have HOp:=hD ho;clear hr ho;go_in;go_wp2_with fail;go_loopw [7] (fun i wr=>∃k:Nat,i= .int .i64 k∧k≤l.length∧vRqs [] l=vRqs (l.take k) (l.drop k)∧Below w.heap.size w wr) (fun i _=>l.length-(intOf i).toNat)
 case atStart=>exact⟨0,rfl,by omega,rfl,Below.refl _ _⟩
 case round=>
  obtain⟨k,rfl,hk,hv,hb⟩:=hrel;have HB:=hD hb;have HV:=hD hv;clear hb hv;by_cases hlt:k<l.length
  · have i0:(0:Int)≤(k:Int):=by omega
    have i1:(k:Int) <(l.length:Int):=by omega
    have HT:=hD (rdTk HR.out zbf (Nat.le_of_lt hlt));obtain⟨g,o,rfl,hg,hcell⟩:=HR.out.at zbf ja hlt;have a0:=hcell wr HB.out 0 _ rfl;have a1:=hcell wr HB.out 1 _ rfl;have a2:=hcell wr HB.out 2 _ rfl;clear hcell;simp only [Nat.add_zero] at a0;have HV1:=hD (HV.out.trans (vRqs_at l k hlt));have hop:=HOp.out l[k] (List.getElem_mem hlt);rcases vRq_ways (l.take k) l[k] with⟨hbad,he⟩|⟨⟨r0,r1,r2,r3⟩,hrest⟩
    · have HY : Hid (vRqs [] l = 7) := hD (by rw [HV1.out, he, if_neg (by decide)]); clear he; rcases hbad with h | h | h | h; all_goals
       go_wp2_with fail;all_goals
        go_ret;exact yz HY.out (HB.out.alloc HB.out.size _)
    · have q0:¬l[k].client<0:=by omega
      have q1:¬6≤l[k].client:=by omega
      have q2:¬l[k].number<1:=by omega
      have q3:¬1000000<l[k].number:=by omega
      rcases hrest with⟨hop0,he⟩|⟨hop0,⟨hlen,he⟩|⟨hlen,⟨hin,he⟩|⟨hin,he⟩⟩⟩
      · have HY:Hid (vRqs [] l=9):=hD (by rw [HV1.out,he,if_neg jf]);have hemp:l[k].op.isEmpty=true:=by rw [hop0];rfl
        exact fo142
      · have HY:Hid (vRqs [] l=3):=hD (by rw [HV1.out,he,if_neg jf]);have hemp:l[k].op.isEmpty=false:=by simpa using hop0
        exact fo142
      · have HY:Hid (vRqs [] l=5):=hD (by rw [HV1.out,he,if_neg jf]);have hemp:l[k].op.isEmpty=false:=by simpa using hop0
        have HI:Hid (∀W,Below w.heap.size w W→Calls Tryz.prog 251 #[.slice (some ⟨g,o,none⟩) k c, .agg #[.int .i64 l[k].client, .int .i64 l[k].number, .string ⟨l[k].op.toArray⟩]] W fun e w'=>e= .returned (.bool true)∧Below w.heap.size w w'):=hD (fun W hb=>fo90);have hbw:Below w.heap.size w (wr.alloc (.cells #[.int .i64 l[k].client, .int .i64 l[k].number, .string ⟨l[k].op.toArray⟩] 191)):=HB.out.alloc HB.out.size _;clear he hop0 hin;go_wp2_with fail;go_region_with (go_at_call 251;refine(HI.out _ (by repeat' (first|assumption|apply Below.drew))).mono ?_;rintro e w2 ⟨rfl,b2⟩);all_goals
         go_wp2_with fail;go_ret;exact yz HY.out ‹_›
      · have HV2:Hid (vRqs [] l=vRqs (l.take (k+1)) (l.drop (k+1))):=hD (by rw [HV1.out,he,if_pos rfl]);have hemp:l[k].op.isEmpty=false:=by simpa using hop0
        have HI:Hid (∀W,Below w.heap.size w W→Calls Tryz.prog 251 #[.slice (some ⟨g,o,none⟩) k c, .agg #[.int .i64 l[k].client, .int .i64 l[k].number, .string ⟨l[k].op.toArray⟩]] W fun e w'=>e= .returned (.bool false)∧Below w.heap.size w w'):=hD (fun W hb=>fo90);have hbw:Below w.heap.size w (wr.alloc (.cells #[.int .i64 l[k].client, .int .i64 l[k].number, .string ⟨l[k].op.toArray⟩] 191)):=HB.out.alloc HB.out.size _;clear he hop0 hin;go_wp2_with fail;go_region_with (go_at_call 251;refine(HI.out _ (by repeat' (first|assumption|apply Below.drew))).mono ?_;rintro e w2 ⟨rfl,b2⟩);all_goals
         have B2:=hD b2;clear b2;go_wp2_with fail;go_roundw
         case rel=>exact⟨k+1,by go_num,by omega,HV2.out,B2.out⟩
         case measure=>simp [intOf];omega
  · exact fo125
set_option maxRecDepth 100000
set_option maxHeartbeats 4000000
open Go.Proofs.YtepbbaifpckcpaaGreatDoor
open Go.RowKit
structure RqIn (w:World) (A:Option Addr) (c:Nat) (l:List Rq):Prop where
 rd:Rd w 3 A l.length (l.flatMap rqC)
 cap:l.length≤c
 big:c≤9223372036854775807
 few:l.length≤9223372036854775807
 op:∀r∈l,r.op.length≤9223372036854775807
theorem RqIn.below {w w':World} {A:Option Addr} {c:Nat} {l:List Rq} (h:RqIn w A c l) (hb:Below w.heap.size w w'):RqIn w' A c l:={h with rd:=h.rd.below hb}
theorem zcA (cfg:Int) (rs:List Rq):vEn ⟨2,cfg,rs⟩=if cfg<0∨6≤cfg∨rs≠ [] then 1 else 0:=by
 simp only [vEn];rw [if_neg jf,if_pos trivial]
theorem YR (cfg:Int) (rs:List Rq):vEn ⟨3,cfg,rs⟩=if cfg≠0∨rs≠ [] then 1 else 0:=by
 simp only [vEn];rw [if_neg jf,if_neg jf,if_pos trivial]
theorem YY (cfg:Int) (rs:List Rq):vEn ⟨1,cfg,rs⟩=if cfg≠0 then 1 else if 8<rs.length then 3 else vRqs [] rs:=by
 simp only [vEn];rw [if_pos trivial]
theorem zeF (kind cfg:Int) (rs:List Rq) (h1:kind≠1) (h2:kind≠2) (h3:kind≠3):vEn ⟨kind,cfg,rs⟩=1:=by
 simp only [vEn];rw [if_neg h1,if_neg h2,if_neg h3]
theorem zb9 {α:Type} {l:List α} (h:l≠ []):(0:Int) <(l.length:Int):=by
 have:=List.length_pos_iff.2 h;omega
theorem zbK (kind cfg:Int) (rs:List Rq) (A:Option Addr) (c:Nat) (w:World) (h:RqIn w A c rs) :
    Calls Tryz.prog 142 #[.agg #[.int .i64 kind, .int .i64 cfg, .slice A rs.length c]] w (Zw (vEn ⟨kind,cfg,rs⟩) w):=by
 have hlen:=h.few;have B0:=hD (za w (.cells #[.int .i64 kind, .int .i64 cfg, .slice A rs.length c] 129));have HV:=hD (h.below B0.out);have HC:=hD (zbl A c rs _ HV.out.rd HV.out.cap HV.out.big HV.out.few HV.out.op);clear h;by_cases k1:kind=1
 · subst k1;by_cases c0:cfg=0
   · subst c0;by_cases l8:8<rs.length
     · have HY:Hid (vEn ⟨1,0,rs⟩=3):=hD (by rw [YY,if_neg jf,if_pos l8]);have l8':(8:Int) <(rs.length:Int):=by omega
       clear l8;go_in;go_wp2_with fail;go_ret;exact yz HY.out B0.out
     · have HY:Hid (vEn ⟨1,0,rs⟩=vRqs [] rs):=hD (by rw [YY,if_neg jf,if_neg l8]);have l8':¬(8:Int) <(rs.length:Int):=by omega
       clear l8;go_in;go_wp2_with fail;refine HC.out.mono ?_;rintro e w' ⟨rfl,hb⟩;go_wp2_with fail;go_ret;exact yz HY.out (bon B0.out hb)
   · have HY:Hid (vEn ⟨1,cfg,rs⟩=1):=hD (by rw [YY,if_pos c0]);exact fo100
 · by_cases k2:kind=2
   · subst k2;clear k1;by_cases hbad:cfg<0∨6≤cfg∨rs≠ []
     · have HY:Hid (vEn ⟨2,cfg,rs⟩=1):=hD (by rw [zcA,if_pos hbad]);have hbad':cfg<0∨6≤cfg∨(0:Int) <(rs.length:Int):=by
        rcases hbad with h|h|h
        · exact .inl h
        · exact .inr (.inl h)
        · exact .inr (.inr (zb9 h))
       clear hbad;rcases hbad' with h|h|h;all_goals
        go_in;go_wp2_with fail;all_goals
         go_ret;exact yz HY.out B0.out
     · have HY:Hid (vEn ⟨2,cfg,rs⟩=0):=hD (by rw [zcA,if_neg hbad]);have q0:¬cfg<0:=fun h=>hbad (.inl h)
       have q1:¬6≤cfg:=fun h=>hbad (.inr (.inl h))
       have q2:¬(0:Int) <(rs.length:Int):=fun h=>hbad (.inr (.inr (by intro h0;subst h0;simp at h)))
       clear hbad;go_in;go_wp2_with fail;go_ret;exact yz HY.out B0.out
   · by_cases k3:kind=3
     · subst k3;clear k1 k2;by_cases c0:cfg=0
       · subst c0;by_cases hr:rs= []
         · have HY:Hid (vEn ⟨3,0,rs⟩=0):=hD (by rw [YR,if_neg (by simp [hr])]);have q2:¬(0:Int) <(rs.length:Int):=by rw [hr];simp
           exact fo135
         · have HY:Hid (vEn ⟨3,0,rs⟩=1):=hD (by rw [YR,if_pos (.inr hr)]);have q2:=zb9 hr;exact fo135
       · have HY:Hid (vEn ⟨3,cfg,rs⟩=1):=hD (by rw [YR,if_pos (.inl c0)]);exact fo100
     · have HY:Hid (vEn ⟨kind,cfg,rs⟩=1):=hD (zeF kind cfg rs k1 k2 k3);have q1:(kind == 1)=false:=by simpa using k1
       have q2:(kind == 2)=false:=by simpa using k2
       have q3:(kind == 3)=false:=by simpa using k3
       clear k1 k2 k3;go_in;go_wp2_with fail;go_ret;exact yz HY.out B0.out
set_option maxRecDepth 100000
set_option maxHeartbeats 4000000
open Go.Proofs.YtepbbaifpckcpaaGreatDoor
open Go.RowKit
theorem strs_join (cfg:Int) (rs:List Rq):strs ⟨2,cfg,rs⟩= [Ya,Lib.itoa cfg]:=by simp [strs]
theorem zd1 (cfg:Int) (rs:List Rq):strs ⟨3,cfg,rs⟩= [yP]:=by simp [strs]
theorem zfv (kind cfg:Int) (rs:List Rq) (h2:kind≠2) (h3:kind≠3):strs ⟨kind,cfg,rs⟩=yI::rs.flatMap rqS:=by
 simp only [strs];rw [if_neg h2,if_neg h3]
def RqsOk (l:List Rq):Prop:=∀r∈l,I64 r.client∧I64 r.number∧r.op.length≤4096
theorem i64I {n:Int} (h:I64 n):(Lib.itoa n).length≤21:=Lib.itoa_length_le n h.1 h.2
theorem tot_app (a b:List (List UInt8)):tot (a++b)=tot a+tot b:=by simp [tot]
theorem rqs_tot (l:List Rq) (h:RqsOk l):tot (l.flatMap rqS)≤5000 * l.length∧(l.flatMap rqS).length=3 * l.length:=by
 induction l with
 |nil=>simp [tot]
 |cons r t ih=>
  obtain⟨i1,i2⟩:=ih (fun y hy=>h y jci);obtain⟨h1,h2,h3⟩:=h r jd;have a:=i64I h1;have b:=i64I h2;refine⟨?_, ?_⟩
  · rw [List.flatMap_cons,tot_app,List.length_cons];simp only [rqS,ZX];have:tot []=0:=rfl;omega
  · rw [List.flatMap_cons,List.length_append,i2,List.length_cons];simp [rqS];omega
theorem value_batch (kind cfg:Int) (rs:List Rq) (A:Option Addr) (c:Nat) (w:World) (he:EnvP w) (h:RqIn w A c rs) (hn:rs.length≤1000) (hok:RqsOk rs) (h2:kind≠2) (h3:kind≠3) :
    Calls Tryz.prog 143 #[.agg #[.int .i64 kind, .int .i64 cfg, .slice A rs.length c]] w (zi (valE ⟨kind,cfg,rs⟩) w):=by
 have HY:Hid (valE ⟨kind,cfg,rs⟩=zg (yI::rs.flatMap rqS)):=hD (by unfold valE;rw [zfv kind cfg rs h2 h3]);have q2:(kind == 2)=false:=by simpa using h2
 have q3:(kind == 3)=false:=by simpa using h3
 have B0:=hD (za w (.cells #[.int .i64 kind, .int .i64 cfg, .slice A rs.length c] 129));have HV:=hD h;have HE:=hD (he.below B0.out);have HOk:=hD hok;obtain⟨i0,hi,hz0,hz1,hz2⟩:=info_parts zdx;have HI:=hD hi;have HZ0:=hD hz0;have HZ1:=hD hz1;have HZ2:=hD hz2;have he0:=he;clear hi hz0 hz1 hz2 h he h2 h3 hok;go_in;go_wp2_with fail;go_loopw [3,23] (fun o i wr=>∃(k g cp:Nat),i= .int .i64 k∧k≤rs.length∧o= .slice (some ⟨g,0,none⟩) (1+3 * k) cp∧wr.ownsRow w.heap.size 9 1 o (1+3 * k) (strC (yI::(rs.take k).flatMap rqS))∧Below w.heap.size w wr∧w.heap.size+1≤wr.heap.size) (fun _ i _=>rs.length-(intOf i).toNat)
 case atStart=>
  refine⟨0,w.heap.size+1,1,rfl,by omega,rfl, ?_, ?_,by simp⟩
  · have h9:=World.ownsRow_lit (base:=w.heap.size) (e:=9) (size:=1) (w.alloc (.cells #[.int .i64 kind, .int .i64 cfg, .slice A rs.length c] 129)) #[.string ⟨#[98,97,116,99,104]⟩] 1 jd jcr rfl;simpa [strC,yI] using h9
  · exact B0.out.alloc jd _
 case round=>
  obtain⟨k,og,cp,rfl,hk,rfl,hown,hb,hge⟩:=hrel;have HO:=hD hown;have HB:=hD hb;clear hown hb;by_cases hlt:k<rs.length
  · have i0':(0:Int)≤(k:Int):=by omega
    have i1:(k:Int) <(rs.length:Int):=by omega
    obtain⟨g,o,rfl,hg,hcc⟩:=HV.out.rd.at zbf ja hlt;have a0:=hcc wr HB.out 0 _ rfl;have a1:=hcc wr HB.out 1 _ rfl;have a2:=hcc wr HB.out 2 _ rfl;clear hcc;simp only [Nat.add_zero] at a0;obtain⟨o1,o2,o3⟩:=HOk.out rs[k] (List.getElem_mem hlt);have hlo:=(HO.out.lt og rfl);have HX:Hid (∀w1,Bx wr (rqC rs[k]) 191 w1→EnvP w1):=hD (fun w1 hb=>he0.below (bon HB.out (zu hb)));have HI0:Hid (∀w1,Bx wr (rqC rs[k]) 191 w1→Calls Tryz.prog 76 #[.int .i64 rs[k].client] w1 (Gives wr (rqC rs[k]) 191 (Lib.itoa rs[k].client))):=
     hD (fun w1 hb=>zW hb (itoa_any _ o1.1 o1.2 w1 (HX.out w1 hb)))
    have HI1:Hid (∀w1,Bx wr (rqC rs[k]) 191 w1→Calls Tryz.prog 76 #[.int .i64 rs[k].number] w1 (Gives wr (rqC rs[k]) 191 (Lib.itoa rs[k].number))):=
     hD (fun w1 hb=>zW hb (itoa_any _ o2.1 o2.2 w1 (HX.out w1 hb)))
    have HC:Hid (∀w1,Bx wr (rqC rs[k]) 191 w1→w1.cell? ⟨wr.heap.size,0,none⟩=some (.int .i64 rs[k].client)∧w1.cell? ⟨wr.heap.size,1,none⟩=some (.int .i64 rs[k].number)∧w1.cell? ⟨wr.heap.size,2,none⟩=some (.string ⟨rs[k].op.toArray⟩)):=
     hD (fun w1 hb=>⟨ze hb 0 _ rfl,ze hb 1 _ rfl,ze hb 2 _ rfl⟩)
    have HCg:Hid (∀W w1,Bx wr (rqC rs[k]) 191 W→W.grownBy w1 (some og)→w1.cell? ⟨wr.heap.size,0,none⟩=some (.int .i64 rs[k].client)∧w1.cell? ⟨wr.heap.size,1,none⟩=some (.int .i64 rs[k].number)∧w1.cell? ⟨wr.heap.size,2,none⟩=some (.string ⟨rs[k].op.toArray⟩)):=
     hD (fun W w1 hb hg=>fo83)
    have H0:Bx wr (rqC rs[k]) 191 (wr.alloc (.cells #[.int .i64 rs[k].client, .int .i64 rs[k].number, .string ⟨rs[k].op.toArray⟩] 191)):=Zk wr (rqC rs[k]) 191;have HOW:Hid (∀w1,Bx wr (rqC rs[k]) 191 w1→w1.ownsRow w.heap.size 9 1 (.slice (some ⟨og,0,none⟩) (1+3 * k) cp) (1+3 * k) (strC (yI::(rs.take k).flatMap rqS))):=hD (fun w1 hb=>ownsRow_below HO.out (zu hb));clear o1 o2 o3;go_wp2_with fail;go_region_held3 (fun w1=>w1.cell? ⟨wr.heap.size,0,none⟩=some (.int .i64 rs[k].client)∧w1.cell? ⟨wr.heap.size,1,none⟩=some (.int .i64 rs[k].number)∧w1.cell? ⟨wr.heap.size,2,none⟩=some (.string ⟨rs[k].op.toArray⟩))
     (first|exact HC.out _ (yF ‹Bx _ _ _ _›)|exact HC.out _ ‹Bx _ _ _ _› |exact HC.out _ (yF (yh ‹Bx _ _ _ _› _))|exact HC.out _ (yh ‹Bx _ _ _ _› _)|exact HCg.out _ _ (yF (yh ‹Bx _ _ _ _› _)) ‹_› |exact HCg.out _ _ (yh ‹Bx _ _ _ _› _) ‹_›)
     (first
      |(go_at_call 76;refine(HI0.out _ jai).mono ?_;rintro e w2 ⟨rfl,b2⟩)
      |(go_at_call 76;refine(HI1.out _ jai).mono ?_;rintro e w2 ⟨rfl,b2⟩)
      |(refine step_append_lies _ jq _ _ _ jq w.heap.size 9 i0 _ 1 16 Tryz.underlying32 HI.out HZ0.out HZ1.out HZ2.out rfl jf _ _ _ jq (((HOW.out _ ‹Bx _ _ _ _›).alloc _).drew) _ 3 3 [.string ⟨(Lib.itoa rs[k].client).toArray⟩, .string ⟨(Lib.itoa rs[k].number).toArray⟩, .string ⟨rs[k].op.toArray⟩] jq jq (World.news_of_block (cs:=#[.string ⟨(Lib.itoa rs[k].client).toArray⟩, .string ⟨(Lib.itoa rs[k].number).toArray⟩, .string ⟨rs[k].op.toArray⟩]) (t:=9) (fr:=(0,0)) (heap_alloc_new _ _)) jv ja jw ja (by have hz:=ZN b2;simp;omega) _ rfl ?_;intro gg cap w3 hown1 hgrow hat hlt3))
    all_goals
     have HO3:=hD hown1;have HG3:=hD hgrow;have HB2:=hD (zu b2);have HS2:=ZN b2;clear hown1 hgrow hat b2;go_wp2_with fail;go_roundw
     case rel=>
      refine⟨k+1,gg,cap,by go_num,by omega,by rw [show 1+3 *(k+1)=1+3 * k+3 from by omega], ?_,below_grown ((bon HB.out HB2.out).alloc ja _) jg HG3.out (fun g hg=>by simp [Value.ownBlock] at hg;omega), ?_⟩
      · exact fo50
      · have:=HG3.out.size;simp at this;omega
     case measure=>simp [intOf];omega
  · have hke:k=rs.length:=by omega
    have hl2:=(rqs_tot rs HOk.out);have HL:Hid (yI::(rs.take k).flatMap rqS=yI::rs.flatMap rqS):=hD (by rw [List.take_of_length_le ja]);have HP:Hid (Calls Tryz.prog 168 #[.slice (some ⟨og,0,none⟩) (1+3 * k) cp] wr (zi (valE ⟨kind,cfg,rs⟩) wr)):=hD (by
     have hlen:(yI::rs.flatMap rqS).length=1+3 * k:=by rw [List.length_cons,hl2.2];omega
     have h9:=Zt (some ⟨og,0,none⟩) cp (yI::rs.flatMap rqS) wr (by rw [hlen,←HL.out];exact Rd.own HO.out) ja (by rw [ZX];simp only [yI,List.length_cons,List.length_nil];omega);rw [hlen] at h9;rw [HY.out];exact h9)
    exact fo121
set_option maxRecDepth 100000
set_option maxHeartbeats 1000000
open Go.Proofs.YtepbbaifpckcpaaGreatDoor
open Go.RowKit
theorem value_join (cfg:Int) (rs:List Rq) (A:Option Addr) (c:Nat) (w:World) (he:EnvP w) (hi:I64 cfg) :
    Calls Tryz.prog 143 #[.agg #[.int .i64 2, .int .i64 cfg, .slice A rs.length c]] w (zi (valE ⟨2,cfg,rs⟩) w):=by
 have B0:=hD (za w (.cells #[.int .i64 2, .int .i64 cfg, .slice A rs.length c] 129));have HI:=hD (itoa_any cfg hi.1 hi.2 _ (he.below B0.out));have hl:=i64I hi;have HP:Hid (∀(w1:World),Calls Tryz.prog 168 #[.slice (some ⟨w1.heap.size,0,none⟩) 2 2] (w1.alloc (.cells #[.string ⟨#[106,111,105,110]⟩, .string ⟨(Lib.itoa cfg).toArray⟩] 9)) (zi (valE ⟨2,cfg,rs⟩) (w1.alloc (.cells #[.string ⟨#[106,111,105,110]⟩, .string ⟨(Lib.itoa cfg).toArray⟩] 9)))):=hD (fun w1=>by
  have h:=Zt (some ⟨w1.heap.size,0,none⟩) 2 [Ya,Lib.itoa cfg] _ (zcD w1 1 2 (strC [Ya,Lib.itoa cfg]) 9 rfl) jd (by simp only [ZX,Ya,List.length_cons,List.length_nil];simp only [tot,List.map_nil,List.sum_nil];omega);unfold valE;rw [strs_join];exact h)
 clear he hl hi;exact fo96
theorem value_finish (cfg:Int) (rs:List Rq) (A:Option Addr) (c:Nat) (w:World) :
    Calls Tryz.prog 143 #[.agg #[.int .i64 3, .int .i64 cfg, .slice A rs.length c]] w (zi (valE ⟨3,cfg,rs⟩) w):=by
 have B0:=hD (za w (.cells #[.int .i64 3, .int .i64 cfg, .slice A rs.length c] 129));have HP:Hid (∀(w1:World) (g:Nat),w1.heap.size=g→Calls Tryz.prog 168 #[.slice (some ⟨g,0,none⟩) 1 1] (w1.alloc (.cells #[.string ⟨#[102,105,110,105,115,104]⟩] 9)) (zi (valE ⟨3,cfg,rs⟩) (w1.alloc (.cells #[.string ⟨#[102,105,110,105,115,104]⟩] 9)))):=hD (fun w1 g hg=>by
  subst hg;have h:=Zt (some ⟨w1.heap.size,0,none⟩) 1 [yP] _ (zcD w1 1 1 (strC [yP]) 9 rfl) jd (by simp [tot,yP]);unfold valE;rw [zd1];exact h)
 exact fo123
theorem zed (kind cfg:Int) (rs:List Rq) (A:Option Addr) (c:Nat) (w:World) (he:EnvP w) (h:RqIn w A c rs) (hn:rs.length≤1000) (hok:RqsOk rs) (hi:I64 cfg) :
    Calls Tryz.prog 143 #[.agg #[.int .i64 kind, .int .i64 cfg, .slice A rs.length c]] w (zi (valE ⟨kind,cfg,rs⟩) w):=by
 by_cases h2:kind=2
 · subst h2;exact value_join cfg rs A c w he hi
 · by_cases h3:kind=3
   · subst h3;exact value_finish cfg rs A c w
   · exact value_batch kind cfg rs A c w he h hn hok h2 h3
def Zv (l:List UInt8) (n:Int) (w:World) (e:Ending) (w':World):Prop:=e= .returned (.tuple #[.string ⟨l.toArray⟩, .int .i64 n])∧Below w.heap.size w w'
theorem zbI {l l':List UInt8} {n m:Int} {w w':World} (h:l=l') (hn:n=m) (hb:Below w.heap.size w w'):Zv l n w (.returned (.tuple #[.string ⟨l'.toArray⟩, .int .i64 m])) w':=⟨by rw [h,hn],hb⟩
set_option maxRecDepth 100000
set_option maxHeartbeats 1000000
open Go.Proofs.YtepbbaifpckcpaaGreatDoor
open Go.RowKit
def RetDec (o:Option En) (w:World) (e:Ending) (w':World):Prop:=Below w.heap.size w w'∧match o with
 |some x=>∃A c,e= .returned (.tuple #[.agg #[.int .i64 x.kind, .int .i64 x.cfg, .slice A x.rs.length c], .int .i64 0])∧RqIn w' A c x.rs
 |none=>e= .returned (.tuple #[.agg #[.int .i64 0, .int .i64 0, .slice none 0 0], .int .i64 2])
theorem YO {o:Option En} {w w':World} (h:o=none) (hb:Below w.heap.size w w'):RetDec o w (.returned (.tuple #[.agg #[.int .i64 0, .int .i64 0, .slice none 0 0], .int .i64 2])) w':=by
 subst h;exact⟨hb,rfl⟩
theorem Yn {o:Option En} {w w':World} {k cf:Int} {rs:List Rq} {A:Option Addr} {n c:Nat} (h:o=some ⟨k,cf,rs⟩) (hb:Below w.heap.size w w') (hn:n=rs.length) (hr:RqIn w' A c rs):RetDec o w (.returned (.tuple #[.agg #[.int .i64 k, .int .i64 cf, .slice A n c], .int .i64 0])) w':=by
 subst h hn;exact⟨hb,A,c,rfl,hr⟩
theorem zeJ (s:List UInt8):I64 (ZE s):=by
 unfold ZE;cases h:Lib.atoiAll s with
 |ok v=>exact Lib.atoiAll_bounds h
 |range=>exact Lib.atoiSat_bounds s
 |_=>
  show I64 0;exact⟨by decide,by decide⟩
theorem own3 {w w1:World} {a b c:Value} {T:TypeId} (hb:Below (w.heap.size+1) (w.alloc (.cells #[a,b,c] T)) w1) :
    (w1.cell? ⟨w.heap.size,0,none⟩=some a∧w1.cell? ⟨w.heap.size,1,none⟩=some b∧w1.cell? ⟨w.heap.size,2,none⟩=some c)∧
    (w1.frozen? ⟨w.heap.size,0,none⟩=false∧w1.frozen? ⟨w.heap.size,1,none⟩=false∧w1.frozen? ⟨w.heap.size,2,none⟩=false):=
 ⟨⟨(hb.cell (p:=⟨w.heap.size,0,none⟩) jd).trans jd,(hb.cell (p:=⟨w.heap.size,1,none⟩) jd).trans jd,(hb.cell (p:=⟨w.heap.size,2,none⟩) jd).trans jd⟩,
  (hb.frozen (p:=⟨w.heap.size,0,none⟩) jd).trans jd,(hb.frozen (p:=⟨w.heap.size,1,none⟩) jd).trans jd,(hb.frozen (p:=⟨w.heap.size,2,none⟩) jd).trans jd⟩
theorem decode_bad (s:ByteArray) (w:World) (hs:s.size≤1048576) (hg:zK s.data.toList=none):Calls Tryz.prog 94 #[.string s] w (RetDec (decE s.data.toList) w):=by
 have B0:=hD (za w (.cells #[.int .i64 0, .int .i64 0, .slice none 0 0] 129));have HL:=hD (retL_none (YU s (w.alloc (.cells #[.int .i64 0, .int .i64 0, .slice none 0 0] 129)) ja) hg);have HD:=hD (decE_bad hg);clear hg;go_in;go_wp2_with fail;refine HL.out.mono ?_;rintro e w1 ⟨⟨c,hc,rfl⟩,b1⟩;have hc1:(c == 0)=false:=by simpa using hc
 have hc2:(c != 0)=true:=by simpa using hc
 have B1:=hD (bon B0.out b1);have hz:w.heap.size<w1.heap.size:=by have:=b1.size;simp at this;omega
 obtain⟨⟨c0,c1,c2⟩,f0,f1,f2⟩:=own3 (by simpa using b1);clear b1;exact fo92
end Go.Proofs.YtepbbaifpckcpaaGreatDoor.Q40
