/- What Quote writes is read again. -/
import Derived.Test.YtepbbaifpckcpaaGreatDoorPQb
open Go.Proofs.Tryz
namespace Go.Proofs.YtepbbaifpckcpaaGreatDoor.Q06
open Go.Proofs.YtepbbaifpckcpaaGreatDoor
open Go.RowKit
theorem hexv_hexd:∀d:Fin 16,hexv ((hexd d.val).toNat:Int)=d.val:=by decide +kernel
theorem chrR_qch(c:UInt8)(rest:List UInt8):chrR (qch c++rest)=((c.toNat:Int),((qch c).length:Int))∧∃h t,qch c=h::t∧(h.toNat:Int)≠34:=by
 have hb:=Zq c;unfold qch;by_cases h1:(c.toNat:Int)=34∨(c.toNat:Int)=92
 · rw[af h1];refine⟨?_,92,[c],rfl,by decide⟩;rw[aZ,zao,aa jf,aa jf];have:escR ([c]++rest)=((c.toNat:Int),1):=by
    simp only[ik,escR];rw[af h1]
   rw[this];rfl
 · rw[aa h1];by_cases h2:(c.toNat:Int)=10
   · rw[af h2];refine⟨?_,92,[110],rfl,by decide⟩;rw[aZ,zao,aa jf,aa jf];have:escR ([110]++rest)=(10,1):=by
      simp only[ik,escR];rw[aa jf,af jf]
     rw[this,h2];rfl
   · rw[aa h2];by_cases h3:(c.toNat:Int) <32∨126<(c.toNat:Int)
     · rw[af h3];refine⟨?_,92,_,rfl,by decide⟩;rw[aZ,zao,aa jf,aa jf];have e1:hexv ((hexd (c.toNat / 16)).toNat:Int)=((c.toNat / 16:Nat):Int):=hexv_hexd ⟨c.toNat / 16,by omega⟩;have e2:hexv ((hexd (c.toNat % 16)).toNat:Int)=((c.toNat % 16:Nat):Int):=hexv_hexd ⟨c.toNat % 16,by omega⟩;have:escR ([120,hexd (c.toNat / 16),hexd (c.toNat % 16)]++rest)=((c.toNat:Int),3):=by
        simp only[aZ,dF,escR];rw[aa jf,aa jf,af jf,e1,e2,af ja];congr 1;omega
       rw[this];rfl
     · rw[aa h3];refine⟨?_,c,[],rfl,fun e=>h1 (.inl e)⟩;rw[aZ,zao,aa ja,af (fun e=>h1 (.inr e))];rfl
theorem litFrom_qmid(l rest acc:List UInt8)(i:Nat):yM (qmid l++34::rest) acc i=(acc++l,(i:Int)+(qmid l).length+1):=by
 induction l generalizing acc i with
 |nil=>simp[qmid,yM]
 |cons c r ih=>
  obtain⟨hc,h,t,hq,hh⟩:=chrR_qch c (qmid r++34::rest);have e:qmid (c::r)++34::rest=h::(t++(qmid r++34::rest)):=by
   simp only[qmid,aU,hq];simp
  have e2:qch c++(qmid r++34::rest)=h::(t++(qmid r++34::rest)):=by rw[hq];rfl
  rw[e2]at hc;rw[e,yM,aa hh,hc];have hl:(qch c).length=t.length+1:=by rw[hq];rfl
  rw[aa (by simp only;omega)];simp only[hl];rw[show((t.length+1:Nat):Int).toNat- 1=t.length from by omega,eB,ih];refine Prod.ext ?_ ?_
  · simp
  · simp only[qmid,aU,aG,hl];push_cast;omega
structure TokAs (a:List UInt8) (t:Tok):Prop where
 hd:∃h s,a=h::s∧isSp h.toNat=false∧(h == 47)=false
 tok:∀(c:UInt8) (r:List UInt8),c=32∨c=10→tok1 (a++c::r)=some (t,a.length)
variable{l:List UInt8}{n:Nat}{t:Tok}
theorem toks_one{a:List UInt8}(h:TokAs a t)(c:UInt8)(r:List UInt8)(hc:c=32∨c=10)(line:Int)(acc:List Tok) :
    toks (a++c::r) line acc=toks (c::r) line (acc++ [{t with line:=line}]):=by
 have ht:=h.tok c r hc;obtain⟨b,s,rfl,h1,h2⟩:=h.hd;rw[aZ]at ht⊢;rw[toks_tok _ _ _ _ h1 (by rw[h2];rfl),ht];simp
theorem join_two(a b:List UInt8)(l:List (List UInt8)):Lib.join (a::b::l) [32]=a++32::Lib.join (b::l) [32]:=by
 simp[Lib.join,List.intercalate]
theorem join_one(a:List UInt8):Lib.join [a] [32]=a:=by simp[Lib.join,List.intercalate]
theorem toks_parts(a:List UInt8)(t:Tok)(ps:List (List UInt8 × Tok))(ha:TokAs a t)(hp:∀p∈ps,TokAs p.1 p.2)(acc:List Tok) :
    toks (Lib.join (a::ps.map (·.1)) [32]++ [10]) 1 acc= .ok (acc++{t with line:=1}::ps.map fun p=>{p.2 with line:=1}):=by
 induction ps generalizing a t acc with
 |nil=>
  rw[dE,join_one,toks_one ha 10 [] (.inr rfl),toks];simp only[show isSp (10:UInt8).toNat=true from by decide,aW,dE];rw[toks]
 |cons p r ih=>
  rw[cO,join_two,bM,aZ,toks_one ha 32 _ (.inl rfl),toks];simp only[show isSp (32:UInt8).toNat=true from by decide,aW,show((32:UInt8) == 10)=false from by decide,bW,bU];rw[ih p.1 p.2 (hp p bY) (fun q hq=>hp q (dm _ hq))];simp
/-! numbers -/
theorem zar(d:Nat)(h:d<10):(UInt8.ofNat (48+d)).toNat=48+d:=by
 simp;omega
theorem dig_is(d:Nat)(h:d<10):zV (UInt8.ofNat (48+d)).toNat=true:=by
 rw[zar d h];simp[zV];omega
theorem dec_form(u:Nat):∃c r,Lib.decDigits u=c::r∧(10≤u→(c == 48)=false)∧(u<10→r=[])∧∀x∈c::r,zV x.toNat=true:=by
 induction u using Nat.strongRecOn with
 |_ u ih=>
  by_cases h:u<10
  · rw[Lib.decDigits,bK h];exact⟨_,_,rfl,fun h'=>by omega,fun _=>rfl,fun x hx=>by simp only[dn]at hx;subst hx;exact dig_is u h⟩
  · obtain⟨c,r,hc,h1,h2,h3⟩:=ih (u / 10) ja;rw[Lib.decDigits,cu h,hc];refine⟨c,r++ [UInt8.ofNat (48+u % 10)],rfl,fun _=> ?_,fun h'=>absurd h' h,fun x hx=> ?_⟩
    · by_cases h4:10≤u / 10
      · exact h1 h4
      · have hr:=h2 ja;have h5:Lib.decDigits (u / 10)=[UInt8.ofNat (48+u / 10)]:=by rw[Lib.decDigits,bK ja]
        rw[hc]at h5;injection h5 with h6;subst h6;have h7:=zar (u / 10) ja;simp only[aF,ne_eq];intro h8;rw[h8]at h7;have:(48:UInt8).toNat=48:=rfl;omega
    · rw[←aZ,di,dn]at hx;rcases hx with hx|hx
      · exact h3 x hx
      · subst hx;exact dig_is (u % 10) ja
theorem numGo_dec(u:Nat)(hu:u≤9223372036854775807):YW (Lib.decDigits u) 0=some (u:Int):=by
 induction u using Nat.strongRecOn with
 |_ u ih=>
  rw[Lib.decDigits];by_cases h:u<10
  · rw[bK h];simp only[YW,zar u h];rw[aa ja];congr 1;omega
  · rw[cu h,numGo_snoc,ih (u / 10) ja ja,zar (u % 10) ja];simp only[Option.bind_some];rw[aa ja];congr 1;omega
theorem zds{p:UInt8→Bool}(a:List UInt8)(c:UInt8)(r:List UInt8)(ha:∀x∈a,p x=true)(hc:p c=false):(a++c::r).takeWhile p=a:=by
 induction a with
 |nil=>simp[hc]
 |cons x s ih=>rw[aZ,eO,ha x bY,af rfl,ih (fun y hy=>ha y (dm _ hy))]
theorem let_dig{n:Int}(h:zV n=true):isLet n=false∧isSp n=false:=by
 simp only[zV,aT,aY]at h;simp only[isLet,isSp,Bool.or_eq_false_iff,dZ,dX];omega
theorem tokAs_num(n:Int)(h0:0≤n)(h1:n≤9223372036854775807):TokAs (Lib.itoa n) ⟨2,[],n,[],0⟩:=by
 have e:Lib.itoa n=Lib.decDigits n.toNat:=by unfold Lib.itoa;rw[aa ja]
 obtain⟨c,r,hc,h2,h3,h4⟩:=dec_form n.toNat;have hcd:=h4 c bY;refine⟨⟨c,r,by rw[e,hc],(let_dig hcd).2,?_⟩,fun b s hb=> ?_⟩
 · simp only[aF,ne_eq];rintro rfl;revert hcd;decide
 · have hw:(Lib.itoa n++b::s).takeWhile (pb zV)=Lib.itoa n:=zds _ _ _ (by rw[e,hc];exact h4) (by rcases hb with rfl|rfl <;> decide);have hr:run zV (Lib.itoa n++b::s)=(Lib.itoa n).length:=by unfold run;rw[hw]
   have hi:zaL (Lib.itoa n++b::s)=some (n,(Lib.itoa n).length):=by
    unfold zaL;rw[hr,hw,e,numGo_dec _ ja,hc,aZ,gZ];have:(decide (1<(c::r).length) && some c == some 48)=false:=by
     by_cases h5:10≤n.toNat
     · have:=h2 h5;simp only[dZ];right;simpa using this
     · have:=h3 ja;subst this;rfl
    simp only[this,bW,bU,dH];rw[Int.toNat_of_nonneg h0]
   have hi2:=hi;rw[e,hc,aZ]at hi⊢;rw[za9,aa (by rw[(let_dig hcd).1];decide),af hcd,hi];rfl
theorem numGo_le:∀(l:List UInt8) (n m:Int),n≤9223372036854775807→YW l n=some m→m≤9223372036854775807
 | [],n,m,h,e=>by simp only[YW,ax]at e;omega
 |c::r,n,m,h,e=>by
  rw[YW]at e
  split at e
  · cases e
  · exact numGo_le r _ m ja e
theorem tok1_int(h:tok1 l=some (t,n)):t.int≤9223372036854775807:=by
 cases l with
 |nil=>cases h
 |cons c r=>
  rw[za9]at h;split at h
  · split at h
    · cases h
    · exact fo174
  · split at h
    · unfold zaL at h;split at h
      · cases h
      · cases hg:YW ((c::r).takeWhile (pb zV)) 0 with
        |none=>rw[hg]at h;cases h
        |some v=>
         rw[hg]at h;simp only[dH,ax,aI]at h;rw[←h.1];exact numGo_le _ 0 v ja hg
    · split at h
      · split at h
        · cases h
        · exact fo174
      · split at h
        · exact fo174
        · cases h
theorem toks_int(k:Nat):∀(l:List UInt8) (line:Int) (acc ts:List Tok),l.length≤k→(∀t∈acc,t.int≤9223372036854775807)→toks l line acc= .ok ts→∀t∈ts,t.int≤9223372036854775807:=by
 induction k with
 |zero=>
  intro l line acc ts hl ha h;exact fo292
 |succ k ih=>
  intro l line acc ts hl ha h;cases l with
  |nil=>exact fo166
  |cons c r=>
   have hr:r.length≤k:=by simpa using hl
   rw[toks]at h;split at h
   · exact ih r _ acc ts hr ha h
   · split at h
     · exact ih _ _ acc ts (ah (gT zaT).length_le hr) ha h
     · split at h
       · cases h
       · next t n ht=>
         refine ih _ _ _ ts jbk (fun x hx=> ?_) h;rw[di,dn]at hx;rcases hx with hx|hx
         · exact ha x hx
         · have h9:=tok1_int ht;subst hx;exact h9
theorem toksR_int(l:List UInt8):∀t∈(toksR l).1,t.int≤9223372036854775807:=by
 unfold toksR;split
 · intro t ht;cases ht
 · cases h:toks l 1 [] with
   |error n=>intro t ht;cases ht
   |ok ts=>exact toks_int l.length l 1 [] ts (ag _) (fun t ht=>by cases ht) h
/-! literals and words -/
theorem tokAs_quote(l:List UInt8):TokAs (quote l) ⟨3,[],0,l,0⟩:=by
 refine⟨⟨34,qmid l++ [34],rfl,by decide,by decide⟩,fun c r hc=> ?_⟩;have e:litR (quote l++c::r)=(l,((quote l).length:Int)):=by
  show litR (34::(qmid l++ [34]++c::r))=_;simp only[litR];rw[af jf,bM,ik,litFrom_qmid l (c::r) [] 1];refine Prod.ext rfl ?_;simp only[quote,au,aG];push_cast;simp;omega
 show tok1 (34::(qmid l++ [34]++c::r))=_;rw[za9,aa jf,aa jf,af jf];rw[show(34::(qmid l++ [34]++c::r):List UInt8)=quote l++c::r from rfl,e,aa (by simp[quote];omega)];simp
theorem tokAs_word(a:List UInt8)(h:UInt8)(s:List UInt8)(e:a=h::s)(hl:isLet h.toNat=true)(hs:∀x∈a,isCon x.toNat=true)(hn:a.length≤24):TokAs a ⟨1,a,0,[],0⟩:=by
 have hc:∀(c:UInt8),c=32∨c=10→pb isCon c=false:=fun c hc=>by rcases hc with rfl|rfl <;> decide
 refine⟨⟨h,s,e,?_,?_⟩,fun c r hcc=> ?_⟩
 · simp only[isLet,Bool.or_eq_true,aT,aY]at hl;simp only[isSp,Bool.or_eq_false_iff,dX];omega
 · simp only[aF,ne_eq];rintro rfl;revert hl;decide
 · have hw:(a++c::r).takeWhile (pb isCon)=a:=zds _ _ _ hs (hc c hcc);have hr:run isCon (a++c::r)=a.length:=by unfold run;rw[hw]
   subst e;rw[aZ]at hw hr⊢;rw[za9,af hl,hr,hw,aa ja]
theorem litFrom_len(k:Nat):∀(l acc:List UInt8) (i:Nat),l.length≤k→(yM l acc i).1.length≤acc.length+l.length:=by
 induction k with
 |zero=>
  intro l acc i hl;obtain rfl:l=[]:=List.length_eq_zero_iff.1 ja;rw[yM];simp
 |succ k ih=>
  intro l acc i hl;cases l with
  |nil=>rw[yM];simp
  |cons c r=>
   rw[yM];simp only[au]at hl;split
   · simp
   · split
     · simp
     · refine ah (ih _ _ _ jbk) ?_;simp only[aG,aK,au,aJ];omega
theorem litR_len(l:List UInt8):(litR l).1.length≤l.length:=by
 cases l with
 |nil=>simp[litR]
 |cons c r=>
  simp only[litR];split
  · have:=litFrom_len r.length r [] 1 (ag _);simp only[aJ,au]at this⊢;omega
  · simp
theorem numGo_ge:∀(l:List UInt8) (n m:Int),0≤n→(∀c∈l,48≤c.toNat)→YW l n=some m→0≤m
 | [],n,m,h,_,e=>by simp only[YW,ax]at e;omega
 |c::r,n,m,h,hd,e=>by
  rw[YW]at e
  split at e
  · cases e
  · have:=hd c bY
    exact numGo_ge r _ m ja (fun x hx=>hd x (dm _ hx)) e
theorem zc0{p:UInt8→Bool}:∀(l:List UInt8),∀c∈l.takeWhile p,p c=true
 | [],c,h=>by cases h
 |a::r,c,h=>by
  rw[eO]at h
  split at h
  · next ha=>
    rw[bC]at h
    rcases h with rfl|h
    · exact ha
    · exact zc0 r c h
  · cases h
theorem dig_ge{c:UInt8}(h:pb zV c=true):48≤c.toNat:=by
 simp only[pb,zV,aT,aY]at h;omega
def tokFit(L:Nat)(t:Tok):Prop:=0≤t.int∧t.str.length≤L
theorem tok1_fit(h:tok1 l=some (t,n)):tokFit l.length t:=by
 cases l with
 |nil=>cases h
 |cons c r=>
  rw[za9]at h;split at h
  · split at h
    · cases h
    · exact fo207
  · split at h
    · unfold zaL at h;split at h
      · cases h
      · cases hg:YW ((c::r).takeWhile (pb zV)) 0 with
        |none=>rw[hg]at h;cases h
        |some v=>
         rw[hg]at h;simp only[dH,ax,aI]at h;rw[←h.1];exact⟨numGo_ge _ 0 v (fH _) (fun c hc=>dig_ge (zc0 _ c hc)) hg,bf _⟩
    · split at h
      · split at h
        · cases h
        · injection h with h;injection h with h;subst h;exact⟨fH _,litR_len (c::r)⟩
      · split at h
        · exact fo207
        · cases h
theorem toks_fit(L k:Nat):∀(l:List UInt8) (line:Int) (acc ts:List Tok),l.length≤k→l.length≤L→(∀t∈acc,tokFit L t)→toks l line acc= .ok ts→∀t∈ts,tokFit L t:=by
 induction k with
 |zero=>
  intro l line acc ts hl hL ha h;exact fo292
 |succ k ih=>
  intro l line acc ts hl hL ha h;cases l with
  |nil=>exact fo166
  |cons c r=>
   have hr:r.length≤k:=by simpa using hl
   have hr2:r.length≤L:=by simp at hL;omega
   rw[toks]at h;split at h
   · exact ih r _ acc ts hr hr2 ha h
   · split at h
     · have hd:=(gT zaT (l:=r)).length_le;exact ih _ _ acc ts (ah hd hr) (ah hd hr2) ha h
     · split at h
       · cases h
       · next t n ht=>
         refine ih _ _ _ ts jbk jbk (fun x hx=> ?_) h;rw[di,dn]at hx;rcases hx with hx|hx
         · exact ha x hx
         · have h9:=tok1_fit ht;subst hx;exact⟨h9.1,ah h9.2 hL⟩
theorem toksR_fit(l:List UInt8):∀t∈(toksR l).1,tokFit l.length t:=by
 unfold toksR;split
 · intro t ht;cases ht
 · cases h:toks l 1 [] with
   |error n=>intro t ht;cases ht
   |ok ts=>exact toks_fit l.length l.length l 1 [] ts (ag _) (ag _) (fun t ht=>by cases ht) h
