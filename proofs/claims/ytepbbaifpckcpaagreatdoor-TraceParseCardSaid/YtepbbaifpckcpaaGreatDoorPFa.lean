/- A line of a trace is read again: what trace.parse and the reference's Point compute, in plain words. -/
import Derived.Test.YtepbbaifpckcpaaGreatDoorPQc
import Derived.Test.YtepbbaifpckcpaaGreatDoorPTo
open Go.Proofs.Tryz
namespace Go.Proofs.YtepbbaifpckcpaaGreatDoor
open Go.RowKit
open Q06 (Tok tok0 TokAs)
def tnum(n:Int):Tok:=⟨2,[],n,[],0⟩
def tstr(l:List UInt8):Tok:=⟨3,[],0,l,0⟩
def twd(l:List UInt8):Tok:=⟨1,l,0,[],0⟩
def atL(t:Tok):Tok:={t with line:=1}
def zcX(x:Pt):List (List UInt8 × Tok):=
 if x.kind=1 then [(Lib.itoa x.number,tnum x.number),(Q06.quote x.text,tstr x.text)]
 else if x.kind=2 then [(Lib.itoa x.number,tnum x.number),(Lib.itoa x.slot,tnum x.slot),(Q06.quote x.result,tstr x.result)]
 else if x.kind=3∨x.kind=4 then [(Lib.itoa x.slot,tnum x.slot),(Q06.quote x.text,tstr x.text)]
 else if x.kind=5 then [(Lib.itoa x.number,tnum x.number),(Q06.quote x.text,tstr x.text),(Q06.quote x.result,tstr x.result)]
 else if x.kind=6 then [(Q06.quote (enc0 x.msg),tstr (enc0 x.msg))] else []
theorem kindPs_fst(x:Pt):(zcX x).map (·.1)=zz x:=by
 unfold zcX zz;repeat' split
 all_goals rfl
def Ye(x:Pt):List Tok:=(tnum x.time::twd (yf x.kind)::tnum x.who::(zcX x).map (·.2)).map atL
def wordL(k:Int):Bool:=match yf k with| []=>false|h::s=>Q06.isLet h.toNat &&(h::s).all (fun c=>Q06.isCon c.toNat) && decide ((h::s).length≤24)
variable{k n:Int}{p s:List UInt8}{E:List UInt8→Bool}{m:Ms}{x y:Pt}
theorem kind8(h1:1≤k)(h8:k≤8):k=1∨k=2∨k=3∨k=4∨k=5∨k=6∨k=7∨k=8:=by omega
theorem tokAs_kind(k:Int)(h1:1≤k)(h8:k≤8):TokAs (yf k) (twd (yf k)):=by
 have hw:wordL k=true:=by rcases kind8 h1 h8 with rfl|rfl|rfl|rfl|rfl|rfl|rfl|rfl <;> decide
 unfold wordL at hw;cases he:yf k with
 |nil=>rw[he]at hw;cases hw
 |cons h s=>
  rw[he]at hw;simp only[aT,bX,aY]at hw;exact Q06.tokAs_word _ h s rfl hw.1.1 hw.1.2 hw.2
def ptNn(x:Pt):Prop:=(0≤x.time∧x.time≤9223372036854775807)∧(1≤x.kind∧x.kind≤8)∧(0≤x.who∧x.who≤9223372036854775807)∧(0≤x.slot∧x.slot≤9223372036854775807)∧(0≤x.number∧x.number≤9223372036854775807)
theorem toks_line(x:Pt)(h:ptNn x):Q06.toks (yU x) 1 []= .ok (Ye x):=by
 obtain⟨h1,h2,h3,h4,h5⟩:=h;have e:yU x=Lib.join (Lib.itoa x.time::((yf x.kind,twd (yf x.kind))::(Lib.itoa x.who,tnum x.who)::zcX x).map (·.1)) [32]++ [10]:=by
  simp only[cO,kindPs_fst];rfl
 rw[e,Q06.toks_parts _ (tnum x.time) _ (Q06.tokAs_num _ h1.1 h1.2) (fun p hp=> ?_)]
 · simp[Ye,atL]
 · have n1:=Q06.tokAs_num _ h3.1 h3.2;have n2:=Q06.tokAs_num _ h4.1 h4.2;have n3:=Q06.tokAs_num _ h5.1 h5.2;have w1:=tokAs_kind _ h2.1 h2.2;have q:=fun l=>Q06.tokAs_quote l
   simp only[bC]at hp;rcases hp with rfl|rfl|hp
   · exact w1
   · exact n1
   · unfold zcX at hp;repeat' split at hp
     all_goals simp only[bC,eH,eP]at hp
     · rcases hp with rfl|rfl
       · exact n3
       · exact q _
     · rcases hp with rfl|rfl|rfl
       · exact n3
       · exact n2
       · exact q _
     · rcases hp with rfl|rfl
       · exact n2
       · exact q _
     · rcases hp with rfl|rfl|rfl
       · exact n3
       · exact q _
       · exact q _
     · subst hp;exact q _
/-! what is read -/
def kindOf(w:List UInt8):Int:=if w=yf 1 then 1 else if w=yf 2 then 2 else if w=yf 3 then 3 else if w=yf 4 then 4 else if w=yf 5 then 5 else if w=yf 6 then 6 else if w=yf 7 then 7 else if w=yf 8 then 8 else 0
theorem YJ(k:Int)(h1:1≤k)(h8:k≤8):kindOf (yf k)=k:=by
 rcases kind8 h1 h8 with rfl|rfl|rfl|rfl|rfl|rfl|rfl|rfl <;> decide
def nxt(k:Int)(s:List Tok × Bool):Tok × List Tok × Bool:=match s.1 with
 | []=>(tok0,[],true)
 |t::r=>if t.kind=k then(t,r,s.2) else(tok0,t::r,true)
theorem zbY(k:Int)(t:Tok)(r:List Tok)(b:Bool)(h:t.kind=k):nxt k (t::r,b)=(t,r,b):=by
 show(if t.kind=k then _ else _)=_;rw[af h]
def YG(a k o:Int)(s:List Tok × Bool):Pt × Bool:=
 if k=1 then let d:=nxt 2 s;let e:=nxt 3 d.2;(⟨a,k,o,0,d.1.int,e.1.str,[],ms0⟩,e.2.2)
 else if k=2 then let d:=nxt 2 s;let e:=nxt 2 d.2;let f:=nxt 3 e.2;(⟨a,k,o,e.1.int,d.1.int,[],f.1.str,ms0⟩,f.2.2)
 else if k=3∨k=4 then let d:=nxt 2 s;let e:=nxt 3 d.2;(⟨a,k,o,d.1.int,0,e.1.str,[],ms0⟩,e.2.2)
 else if k=5 then let d:=nxt 2 s;let e:=nxt 3 d.2;let f:=nxt 3 e.2;(⟨a,k,o,0,d.1.int,e.1.str,f.1.str,ms0⟩,f.2.2)
 else if k=6 then let d:=nxt 3 s;(⟨a,k,o,0,0,[],[],(ZI d.1.str).getD ms0⟩,d.2.2 ||(ZI d.1.str).isNone)
 else(⟨a,k,o,0,0,[],[],ms0⟩,s.2)
def pRaw(ts:List Tok):Pt × Bool:=
 let a:=nxt 2 (ts,false);let b:=nxt 1 a.2;let c:=nxt 2 b.2
 YG a.1.int (kindOf b.1.text) c.1.int c.2
def pt1(E:List UInt8→Bool)(s:List UInt8):Option Pt:=
 if(Q06.toksR s).2.2=0∧(pRaw (Q06.toksR s).1).2=false∧zA E (pRaw (Q06.toksR s).1).1=true∧yU (pRaw (Q06.toksR s).1).1=s then some (pRaw (Q06.toksR s).1).1 else none
def numR(ts:List Tok)(i:Nat):Int:=match ts[i]? with|some t=>if t.kind=2 then t.int else -1|none=>-1
def txtR(ts:List Tok)(i:Nat):List UInt8:=match ts[i]? with|some t=>if t.kind=3 then t.str else []|none=> []
def YF(ts:List Tok):Int:=match ts[1]? with|some t=>if t.kind=1 then kindOf t.text else 0|none=>0
def pRef(ts:List Tok):Option Pt:=
 if ts.length<3 then none
 else if YF ts=1 then some ⟨numR ts 0,YF ts,numR ts 2,0,numR ts 3,txtR ts 4,[],ms0⟩
 else if YF ts=2 then some ⟨numR ts 0,YF ts,numR ts 2,numR ts 4,numR ts 3,[],txtR ts 5,ms0⟩
 else if YF ts=3∨YF ts=4 then some ⟨numR ts 0,YF ts,numR ts 2,numR ts 3,0,txtR ts 4,[],ms0⟩
 else if YF ts=5 then some ⟨numR ts 0,YF ts,numR ts 2,0,numR ts 3,txtR ts 4,txtR ts 5,ms0⟩
 else if YF ts=6 then(ZI (txtR ts 3)).map fun m=>⟨numR ts 0,YF ts,numR ts 2,0,0,[],[],m⟩
 else some ⟨numR ts 0,YF ts,numR ts 2,0,0,[],[],ms0⟩
def pt2(E:List UInt8→Bool)(s:List UInt8):Option Pt:=
 if(Q06.toksR s).2.2=0 then(match pRef (Q06.toksR s).1 with
  |none=>none
  |some x=>if zA E x=true∧yU x=s then some x else none) else none
/-! a good point's line is read as this point -/
def canonM(x:Pt)(m:Ms):Pt:=⟨x.time,x.kind,x.who,x.slot,x.number,x.text,x.result,if x.kind=6 then m else ms0⟩
def Pt.er(x:Pt):Pt:={x with msg:=x.msg.er}
structure Fields (x:Pt):Prop where
 slot:x.kind=1∨4<x.kind→x.slot=0
 number:x.kind=3∨x.kind=4∨5<x.kind→x.number=0
 text:x.kind=2∨5<x.kind→x.text=[]
 result:x.kind≠2∧x.kind≠5→x.result=[]
 msg:x.kind≠6→ZP x.msg=ZP ms0
theorem fields_of(h:eqPt x (yJ x)=true)(h1:1≤x.kind)(h8:x.kind≤8):Fields x:=by
 simp only[eqPt,aT,aY,zeO,aV]at h;obtain⟨⟨⟨⟨⟨-,a⟩,b⟩,c⟩,d⟩,e⟩:=h;unfold yJ at a b c d e;constructor <;> intro hk
 · rcases(by omega:x.kind=1∨x.kind=5∨x.kind=6∨x.kind=7∨x.kind=8)with h|h|h|h|h <;> simpa[h]using a
 · rcases(by omega:x.kind=3∨x.kind=4∨x.kind=6∨x.kind=7∨x.kind=8)with h|h|h|h|h <;> simpa[h]using b
 · rcases(by omega:x.kind=2∨x.kind=6∨x.kind=7∨x.kind=8)with h|h|h|h <;> simpa[h]using c
 · rcases(by omega:x.kind=1∨x.kind=3∨x.kind=4∨x.kind=6∨x.kind=7∨x.kind=8)with h|h|h|h|h|h <;> simpa[h]using d
 · rcases(by omega:x.kind=1∨x.kind=2∨x.kind=3∨x.kind=4∨x.kind=5∨x.kind=7∨x.kind=8)with h|h|h|h|h|h|h <;> simpa[h]using e
structure Good (E:List UInt8→Bool) (x:Pt):Prop where
 head:Yp x=true
 kept:eqPt x (yJ x)=true
 who:whoOk x=true
 kind:zd3 E x=true
theorem good_iff:zA E x=true↔Good E x:=by
 unfold zA;simp only[aT];exact⟨fun h=>⟨h.1.1.1,h.1.1.2,h.1.2,h.2⟩,fun h=>⟨⟨⟨h.1,h.2⟩,h.3⟩,h.4⟩⟩
theorem zb8(h:Good E x):1≤x.kind∧x.kind≤8:=by
 have:=h.head;simp only[Yp,aT,aY]at this;omega
theorem good_nn(h:Good E x)(ht:x.time≤9223372036854775807):ptNn x:=by
 have hk:=zb8 h;have hf:=fields_of h.kept hk.1 hk.2;have h1:=h.head;have h2:=h.who;have h3:=h.kind;simp only[Yp,aT,aY]at h1;have hw:0≤x.who∧x.who<12:=by
  unfold whoOk at h2;split at h2 <;> simp only[isCl,isSv,aT,aY]at h2 <;> omega
 have hn:0≤x.number∧x.number≤1000000:=by
  unfold zd3 at h3;rcases kind8 hk.1 hk.2 with q|q|q|q|q|q|q|q
  · simp[q,zaF]at h3;omega
  · simp[q,zaF]at h3;omega
  · exact fo197
  · exact fo197
  · simp[q,isCl]at h3;omega
  · exact fo197
  · exact fo197
  · exact fo197
 exact⟨⟨by omega,ht⟩,hk,⟨hw.1,by omega⟩,⟨by omega,by omega⟩,⟨hn.1,by omega⟩⟩
theorem zgv(h:ptNn x)(hl:(yU x).length≤65536):Q06.toksR (yU x)=(Ye x,0,0):=by
 unfold Q06.toksR;rw[aa ja,toks_line x h]
theorem zc3(h:Good E x)(hd:x.kind=6→ZI (enc0 x.msg)=some m):pRaw (Ye x)=(canonM x m,false):=by
 have hk:=zb8 h;have hf:=fields_of h.kept hk.1 hk.2;unfold pRaw Ye;simp only[cO];rw[zbY 2 _ _ _ rfl,zbY 1 _ _ _ rfl,zbY 2 _ _ _ rfl];show YG x.time (kindOf (yf x.kind)) x.who _=_;rw[YJ _ hk.1 hk.2];unfold YG zcX canonM;rcases kind8 hk.1 hk.2 with q|q|q|q|q|q|q|q
 · simp[q,nxt,atL,tnum,tstr,hf.slot ja,hf.result ja]
 · simp[q,nxt,atL,tnum,tstr,hf.text ja]
 · exact fo224
 · exact fo224
 · simp[q,nxt,atL,tnum,tstr,hf.slot ja]
 · simp[q,nxt,atL,tstr,hd q,hf.slot ja,hf.number ja,hf.text ja,hf.result ja]
 · exact fo113
 · exact fo113
theorem zdr(h:Good E x)(hd:x.kind=6→ZI (enc0 x.msg)=some m):pRef (Ye x)=some (canonM x m):=by
 have hk:=zb8 h;have hf:=fields_of h.kept hk.1 hk.2;have e1:YF (Ye x)=x.kind:=by
  show(if(1:Int)=1 then kindOf (yf x.kind) else 0)=_;rw[af rfl,YJ _ hk.1 hk.2]
 have e2:numR (Ye x) 0=x.time:=rfl;have e3:numR (Ye x) 2=x.who:=rfl;have e4:¬(Ye x).length<3:=by simp[Ye]
 unfold pRef;rw[aa e4,e1,e2,e3];unfold canonM Ye zcX;rcases kind8 hk.1 hk.2 with q|q|q|q|q|q|q|q
 · simp[q,numR,txtR,atL,tnum,tstr,hf.slot ja,hf.result ja]
 · simp[q,numR,txtR,atL,tnum,tstr,hf.text ja]
 · exact fo218
 · exact fo218
 · simp[q,numR,txtR,atL,tnum,tstr,hf.slot ja]
 · simp[q,txtR,atL,tstr,hd q,hf.slot ja,hf.number ja,hf.text ja,hf.result ja]
 · exact fo113
 · exact fo113
/-! both read the same -/
theorem toksR_le(h:(Q06.toksR s).2.2=0):s.length≤65536:=by
 unfold Q06.toksR at h;split at h
 · cases h
 · omega
theorem pt1_some(h:pt1 E s=some y):(Q06.toksR s).2.2=0∧pRaw (Q06.toksR s).1=(y,false)∧zA E y=true∧yU y=s:=by
 unfold pt1 at h;split at h
 · next hc=>
   injection h with h;subst h;exact⟨hc.1,Prod.ext rfl hc.2.1,hc.2.2⟩
 · cases h
theorem pt2_some(h:pt2 E s=some y):(Q06.toksR s).2.2=0∧pRef (Q06.toksR s).1=some y∧zA E y=true∧yU y=s:=by
 unfold pt2 at h;split at h
 · next h0=>
   split at h
   · cases h
   · next x hx=>
     split at h
     · next hc=>injection h with h;subst h;exact⟨h0,hx,hc⟩
     · cases h
 · cases h
theorem pKind_time(a k o:Int)(s:List Tok × Bool):(YG a k o s).1.time=a:=by
 unfold YG;repeat' split
 all_goals rfl
theorem numR_le{ts:List Tok}(h:∀t∈ts,t.int≤9223372036854775807)(i:Nat):numR ts i≤9223372036854775807:=by
 unfold numR;split
 · next t ht=>
   split
   · exact h t (eG ht)
   · omega
 · omega
theorem nxt_le{ts:List Tok}(h:∀t∈ts,t.int≤9223372036854775807)(k:Int)(b:Bool):(nxt k (ts,b)).1.int≤9223372036854775807:=by
 unfold nxt;cases ts with
 |nil=>show(0:Int)≤_;omega
 |cons t r=>
  simp only;split
  · exact h t bY
  · show(0:Int)≤_;omega
theorem raw_time{ts:List Tok}(h:∀t∈ts,t.int≤9223372036854775807):(pRaw ts).1.time≤9223372036854775807:=by
 unfold pRaw;simp only[pKind_time];exact nxt_le h 2 false
theorem ref_time{ts:List Tok}(h:∀t∈ts,t.int≤9223372036854775807)(hy:pRef ts=some y):y.time≤9223372036854775807:=by
 have h0:=numR_le h 0;unfold pRef at hy;split at hy
 · cases hy
 · repeat' split at hy
   all_goals first
    |(injection hy with hy;subst hy;exact h0)
    |(cases hd:ZI (txtR ts 3) with
       |none=>rw[hd]at hy;cases hy
       |some m=>rw[hd]at hy;injection hy with hy;subst hy;exact h0)
theorem ref_of_raw(hg:Good E y)(h:pRaw (Ye y)=(y,false)):pRef (Ye y)=some y:=by
 have hk:=zb8 hg;cases hd:ZI (enc0 y.msg) with
 |none=>
  by_cases h6:y.kind=6
  · exfalso;unfold pRaw Ye at h;simp only[cO]at h;rw[zbY 2 _ _ _ rfl,zbY 1 _ _ _ rfl,zbY 2 _ _ _ rfl]at h;change YG y.time (kindOf (yf y.kind)) y.who _=_ at h;rw[YJ _ hk.1 hk.2]at h;simp[YG,zcX,h6,nxt,atL,tstr,hd]at h
  · have e:=zc3 hg (m:=ms0) (fun h=>absurd h h6);rw[h]at e;rw[zdr hg (m:=ms0) (fun h=>absurd h h6),←(fu e).1]
 |some m=>
  have e:=zc3 hg (fun _=>hd);rw[h]at e;rw[zdr hg (fun _=>hd),←(fu e).1]
theorem raw_of_ref(hg:Good E y)(h:pRef (Ye y)=some y):pRaw (Ye y)=(y,false):=by
 have hk:=zb8 hg;cases hd:ZI (enc0 y.msg) with
 |none=>
  by_cases h6:y.kind=6
  · exfalso;have e1:YF (Ye y)=y.kind:=by
     show(if(1:Int)=1 then kindOf (yf y.kind) else 0)=_;rw[af rfl,YJ _ hk.1 hk.2]
    have e4:¬(Ye y).length<3:=by simp[Ye]
    unfold pRef at h;rw[aa e4,e1,h6]at h;simp[Ye,zcX,h6,txtR,atL,tstr,hd]at h
  · have e:=zdr hg (m:=ms0) (fun h=>absurd h h6);rw[h]at e;rw[zc3 hg (m:=ms0) (fun h=>absurd h h6),←(dW e)]
 |some m=>
  have e:=zdr hg (fun _=>hd);rw[h]at e;rw[zc3 hg (fun _=>hd),←(dW e)]
theorem pt_same(E:List UInt8→Bool)(s:List UInt8):pt1 E s=pt2 E s:=by
 have hI:=Q06.toksR_int s;cases h1:pt1 E s with
 |some y=>
  obtain⟨a,b,c,d⟩:=pt1_some h1;have hg:=good_iff.1 c;have ht:y.time≤9223372036854775807:=by have:=raw_time hI;rw[b]at this;exact this
  have e:=zgv (good_nn hg ht) (by rw[d];exact toksR_le a);rw[d]at e;rw[e]at b;unfold pt2;rw[e];simp only;rw[ref_of_raw hg b];simp only;rw[af trivial,af ⟨c,d⟩]
 |none=>
  cases h2:pt2 E s with
  |none=>rfl
  |some y=>
   obtain⟨a,b,c,d⟩:=pt2_some h2;have hg:=good_iff.1 c;have ht:=ref_time hI b;have e:=zgv (good_nn hg ht) (by rw[d];exact toksR_le a);rw[d]at e;rw[e]at b;unfold pt1 at h1;rw[e]at h1;simp only at h1;rw[raw_of_ref hg b,af ⟨trivial,rfl,c,d⟩]at h1;cases h1
def ZZ(cur:List UInt8):List UInt8→List (List UInt8)
 | []=>if cur=[] then [] else [cur]
 |c::r=>if c=10 then(cur++ [10])::ZZ [] r else ZZ (cur++ [c]) r
theorem zf4(s cur:List UInt8):(ZZ cur s).flatten=cur++s:=by
 induction s generalizing cur with
 |nil=>unfold ZZ;split <;> simp_all
 |cons c r ih=>
  unfold ZZ;split
  · next h=>subst h;simp[ih]
  · simp[ih]
def late(acc:List Pt)(x:Pt):Bool:=match acc.getLast? with
 |none=>false
 |some y=>decide (x.time<y.time)
def yZ(pt:List UInt8→Option Pt):List (List UInt8)→List Pt→List Pt × Int × Int
 | [],acc=>(acc,0,0)
 |s::r,acc=>match pt s with
  |none=>([],(acc.length:Int)+1,2)
  |some x=>if late acc x=true then([],(acc.length:Int)+1,1) else if acc.length=5000 then([],(acc.length:Int)+1,3) else yZ pt r (acc++ [x])
def ZM(pt:List UInt8→Option Pt)(s:List UInt8):List Pt × Int × Int:=if 65536<s.length then([],0,3) else yZ pt (ZZ [] s) []
theorem parseT_same(E:List UInt8→Bool)(s:List UInt8):ZM (pt1 E) s=ZM (pt2 E) s:=by rw[show pt1 E=pt2 E from funext (pt_same E)]
def Chain(E:List UInt8→Bool)(l:List Pt):Prop:=∀k,y8 E l k=true
theorem chain_all{l:List Pt}:zan E l=true↔Chain E l:=by
 unfold zan Chain;simp only[bX,fU];refine⟨fun h k=> ?_,fun h k _=>h k⟩;by_cases hk:k<l.length
 · exact h k hk
 · unfold y8;rw[fO ja]
theorem chain_snoc{l:List Pt}(h:Chain E l)(hx:zA E x=true)(hl:late l x=false):Chain E (l++ [x]):=fun k=>by
 have hk:=h k
 unfold y8 at hk⊢
 rcases Nat.lt_trichotomy k l.length with q|q|q
 · rw[dh q,dh ja];exact hk
 · subst q
   rw[dM (ag _),gu]
   simp only[List.getElem?_cons_zero,hx,bS]
   by_cases h0:l.length=0
   · simp[h0]
   · rw[dh ja]
     unfold late at hl
     rw[iI]at hl
     rw[aP ja]at hl⊢
     simp only[dX]at hl
     simp;omega
 · rw[fO jg]
theorem vTr_zero{l:List Pt}:vTr E l=0↔l.length≤5000∧Chain E l:=by
 unfold vTr;rw[←chain_all];by_cases h1:5000<l.length
 · rw[af h1];simp;omega
 · rw[aa h1];by_cases h2:zan E l=true
   · simp[h2];omega
   · simp[h2]
theorem zdZ:∀(ls:List (List UInt8)) (acc m:List Pt) (n:Int),Chain E acc→acc.length≤5000→yZ (pt1 E) ls acc=(m,n,0)→Chain E m∧m.length≤5000∧yF m=yF acc++ls.flatten
 | [],acc,m,n,hc,hn,h=>by
  simp only[yZ,aI]at h
  obtain⟨rfl, -⟩:=h
  exact⟨hc,hn,by simp⟩
 |s::r,acc,m,n,hc,hn,h=>by
  rw[yZ]at h
  split at h
  · simp at h
  · next x hx=>
    split at h
    · simp at h
    · next h1=>
      split at h
      · simp at h
      · next h2=>
        obtain⟨-, -,g,e⟩:=pt1_some hx
        obtain⟨a,b,c⟩:=zdZ r (acc++ [x]) m n (chain_snoc hc g (by simpa using h1)) jg h
        refine⟨a,b,?_⟩
        rw[c]
        simp[yF,e]
theorem format_parse{m:List Pt}(h:ZM (pt1 E) s=(m,n,0)):vTr E m=0∧yF m=s∧s.length≤65536:=by
 unfold ZM at h;split at h
 · simp at h
 · obtain⟨a,b,c⟩:=zdZ _ [] m n (fun k=>by simp[y8]) jc h;refine⟨vTr_zero.2 ⟨b,a⟩,?_,by omega⟩;rw[c,zf4];simp[yF]
/-! addresses do not matter -/
theorem er_kept(x:Pt):yJ x.er=(yJ x).er:=by
 unfold yJ Pt.er;repeat' split
 all_goals rfl
theorem er_eq(a b:Pt):eqPt a.er b.er=eqPt a b:=by
 show(_ && zeO (ZP a.msg.er) (ZP b.msg.er))=_;rw[encMs_er,encMs_er];rfl
theorem er_good(E:List UInt8→Bool)(x:Pt):zA E x.er=zA E x:=by
 unfold zA;rw[er_kept,er_eq];show(Yp x && eqPt x (yJ x) && whoOk x && zd3 E x.er)=_;have:zd3 E x.er=zd3 E x:=by
  show(if x.kind=1 then zaF x.number && opOk x.text else if x.kind=2 then zaF x.number else if x.kind=3∨x.kind=4 then E x.text else if x.kind=5 then isCl x.number && opOk x.text else if x.kind=6 then decide (vMs x.msg.er=0) && decide (x.msg.src=x.who) else true)=_;rw[vMs_er];rfl
 rw[this]
theorem er_line(x:Pt):yU x.er=yU x:=by
 have h:zz x.er=zz x:=by
  have:enc0 x.msg.er=enc0 x.msg:=by unfold enc0;rw[vMs_er,encMs_er]
  unfold zz Pt.er;simp only[this]
 show Lib.join (yY x++zz x.er) [32]++ [10]=_;rw[h];rfl
theorem er_from(E:List UInt8→Bool)(l:List Pt)(k:Nat):y8 E (l.map Pt.er) k=y8 E l k:=by
 unfold y8;rw[bT,bT];cases l[k]? with
 |none=>rfl
 |some x=>
  simp only[dH,er_good];cases l[k- 1]? <;> rfl
theorem er_vTr(E:List UInt8→Bool)(l:List Pt):vTr E (l.map Pt.er)=vTr E l:=by
 unfold vTr zan;rw[bF];have:y8 E (l.map Pt.er)=y8 E l:=funext (er_from E l);rw[this]
theorem er_lines(l:List Pt):yF (l.map Pt.er)=yF l:=by
 unfold yF;rw[List.flatMap_map];simp only[er_line]
def cutA:List UInt8→List (List UInt8)
 | []=> [[]]
 |b::r=>if b=10 then [10]::cutA r else match cutA r with
  | []=> [[b]]
  |x::t=>(b::x)::t
theorem cutA_ne:∀s,cutA s≠ []
 | []=>by simp[cutA]
 |b::r=>by
  unfold cutA
  split
  · simp
  · split <;> simp
theorem indexA_ne{b:UInt8}{r:List UInt8}(h:b≠10):Lib.index (b::r) [10]=if Lib.index r [10] == -1 then -1 else Lib.index r [10]+1:=by
 rw[Lib.index];have:List.isPrefixOf [(10:UInt8)] (b::r)=false:=by
  simp[List.isPrefixOf];exact fun e=>h e.symm
 rw[this];rfl
theorem indexA_eq(r:List UInt8):Lib.index (10::r) [10]=0:=by
 rw[Lib.index];have:List.isPrefixOf [(10:UInt8)] (10::r)=true:=by simp[List.isPrefixOf]
 rw[this];rfl
theorem zd8:∀s:List UInt8,Lib.splitK [10] 1 (Lib.count s [10]) s=cutA s
 | []=>by
  unfold cutA
  generalize Lib.count [] [10]=k
  cases k with
  |zero=>rfl
  |succ k=>
   unfold Lib.splitK
   rw[af jf]
 |b::r=>by
  have ih:=zd8 r
  by_cases h:b=10
  · subst h
    rw[Lib.count_cons_eq,dS,Lib.splitK,indexA_eq]
    rw[aa jf]
    simp only[cutA,aW]
    rw[←ih]
    rfl
  · rw[Lib.count_cons_ne b 10 r h]
    unfold cutA
    rw[aa h,←ih]
    generalize Lib.count r [10]=k
    cases k with
    |zero=>rfl
    |succ k=>
     rw[Lib.splitK,Lib.splitK,indexA_ne h]
     have hge:=Lib.index_ge r [10]
     by_cases hi:Lib.index r [10]=-1
     · rw[hi]
       simp
     · have h1:(Lib.index r [10] == -1)=false:=by simpa using hi
       have h2:((Lib.index r [10]+1) == -1)=false:=by
        rw[aF];omega
       simp only[h1,h2,bW,bU];have h3:(Lib.index r [10]+1).toNat=(Lib.index r [10]).toNat+1:=by omega
       rw[h3];simp[]
theorem splitB_after(s:ByteArray):(Lib.splitB ⟨#[10]⟩ 1 (Lib.countB s ⟨#[10]⟩) s).map (·.data.toList)=cutA s.data.toList:=by
 rw[Lib.splitB_data];exact zd8 _
def zbN(l:List UInt8):Bool:= !l.isEmpty
def zdF(cur:List UInt8):List (List UInt8)→List (List UInt8)
 | []=> []
 |x::t=>(cur++x)::t
theorem zfv(l:List (List UInt8)):zdF [] l=l:=by cases l <;> rfl
theorem cutA_full(s cur:List UInt8):(zdF cur (cutA s)).filter zbN=ZZ cur s:=by
 induction s generalizing cur with
 |nil=>
  unfold ZZ;split
  · next h=>subst h;rfl
  · next h=>
    have:zbN cur=true:=by cases cur with|nil=>exact absurd rfl h|cons a b=>rfl
    simp[cutA,zdF,this]
 |cons c r ih=>
  unfold ZZ;split
  · next h=>
    subst h;have h1:=ih [];rw[zfv]at h1;have:zbN (cur++ [10])=true:=by cases cur <;> rfl
    simp[cutA,zdF,this,h1]
  · next h=>
    rw[←ih (cur++ [c])];have:cutA (c::r)=zdF [c] (cutA r):=by
     rw[cutA,aa h];cases hc:cutA r with
     |nil=>exact absurd hc (cutA_ne r)
     |cons x t=>rfl
    rw[this];cases cutA r with
    |nil=>rfl
    |cons x t=>simp[zdF]
theorem cutA_lines(s:List UInt8):(cutA s).filter zbN=ZZ [] s:=by rw[←cutA_full s [],zfv]
theorem cutA_len(s:List UInt8):(cutA s).length≤s.length+1:=by
 induction s with
 |nil=>simp[cutA]
 |cons b r ih=>
  unfold cutA;split
  · simp;omega
  · split
    · simp
    · next h=>rw[h]at ih;simp at ih⊢;omega
theorem cutA_flat(s:List UInt8):(cutA s).flatten=s:=by
 induction s with
 |nil=>simp[cutA]
 |cons b r ih=>
  unfold cutA;split
  · next h=>subst h;simp[ih]
  · split
    · next h=>exact absurd h (cutA_ne r)
    · next h=>rw[h]at ih;simp at ih⊢;exact ih
theorem zex{l:List (List UInt8)}(h:p∈l):p.length≤l.flatten.length:=by
 induction l with
 |nil=>cases h
 |cons x t ih=>
  rw[List.flatten_cons,aG];rw[bC]at h;rcases h with rfl|h
  · omega
  · have:=ih h;omega
theorem cutA_le(h:p∈cutA s):p.length≤s.length:=by
 have:=zex h;rwa[cutA_flat]at this
open Q06 (Tok tok0)
def zeS(x:Pt):Prop:=x.msg.sz≤16777216∧x.text.length≤300000∧x.result.length≤300000∧(enc0 x.msg).length≤1100000
structure TokF (t:Tok):Prop where
 ge:0≤t.int
 le:t.int≤9223372036854775807
 len:t.str.length≤65536
theorem toksF(s:List UInt8):∀t∈(Q06.toksR s).1,TokF t:=fun t ht=>by
 have hf:=Q06.toksR_fit s t ht
 refine⟨hf.1,Q06.toksR_int s t ht,ah hf.2 ?_⟩
 by_cases h:s.length≤65536
 · exact h
 · exfalso
   unfold Q06.toksR at ht
   rw[af ja]at ht
   cases ht
theorem tokF0:TokF tok0:=⟨fH _,by decide,bf _⟩
theorem nxtF{s:List Tok × Bool}(h:∀t∈s.1,TokF t):TokF (nxt k s).1∧∀t∈(nxt k s).2.1,TokF t:=by
 obtain⟨ts,b⟩:=s;cases ts with
 |nil=>exact⟨tokF0,fun t ht=>by cases ht⟩
 |cons t r=>
  by_cases hk:t.kind=k
  · rw[zbY k t r b hk];exact⟨h t bY,fun x hx=>h x (dm _ hx)⟩
  · have e:nxt k (t::r,b)=(tok0,t::r,true):=by
      show(if t.kind=k then _ else _)=_;rw[aa hk]
    rw[e];exact⟨tokF0,h⟩
theorem TokF.i64{t:Tok}(h:TokF t):I64 t.int:=⟨by have:=h.ge;omega,h.le⟩
theorem enc0_le(m:Ms):(enc0 m).length≤(ZP m).length:=by unfold enc0;split <;> simp
theorem decMs_len(h:ZI s=some m):m.sz≤s.length:=by
 unfold ZI at h;cases hw:whole rdMs s with
 |none=>rw[hw]at h;cases h
 |some y=>
  rw[hw]at h;simp only at h;split at h
  · injection h with h;subst h;exact zdc rdMs_sz hw
  · cases h
structure PtF (x:Pt):Prop where
 nums:I64 x.time∧I64 x.kind∧I64 x.who∧I64 x.slot∧I64 x.number
 few:x.msg.sz≤65536∧x.text.length≤65536∧x.result.length≤65536
theorem i64z:I64 0:=by simp[I64]
theorem zaz:ms0.sz≤65536:=by decide
theorem few_msg{u:List UInt8}(hu:u.length≤65536):((ZI u).getD ms0).sz≤65536:=by
 cases hd:ZI u with
 |none=>exact zaz
 |some m=>exact ah (decMs_len hd) hu
theorem kindF{a o:Int}{s:List Tok × Bool}(ha:I64 a)(hk:I64 k)(ho:I64 o)(h:∀t∈s.1,TokF t):PtF (YG a k o s).1:=by
 have z:=i64z;have d2:=nxtF (k:=2) h;have d3:=nxtF (k:=3) h;have e22:=nxtF (k:=2) d2.2;have e23:=nxtF (k:=3) d2.2;have f223:=nxtF (k:=3) e22.2;have f233:=nxtF (k:=3) e23.2;unfold YG;repeat' split
 · exact⟨⟨ha,hk,ho,z,d2.1.i64⟩,⟨zaz,e23.1.len,bf _⟩⟩
 · exact⟨⟨ha,hk,ho,e22.1.i64,d2.1.i64⟩,⟨zaz,bf _,f223.1.len⟩⟩
 · exact⟨⟨ha,hk,ho,d2.1.i64,z⟩,⟨zaz,e23.1.len,bf _⟩⟩
 · exact⟨⟨ha,hk,ho,z,d2.1.i64⟩,⟨zaz,e23.1.len,f233.1.len⟩⟩
 · exact⟨⟨ha,hk,ho,z,z⟩,⟨few_msg d3.1.len,bf _,bf _⟩⟩
 · exact⟨⟨ha,hk,ho,z,z⟩,⟨zaz,bf _,bf _⟩⟩
theorem kindOf_i64(wd:List UInt8):I64 (kindOf wd):=by
 have:0≤kindOf wd∧kindOf wd≤8:=fo205;exact⟨by omega,by omega⟩
theorem rawF{ts:List Tok}(h:∀t∈ts,TokF t):PtF (pRaw ts).1:=by
 have a:=nxtF (k:=2) (s:=(ts,false)) h;have b:=nxtF (k:=1) a.2;have c:=nxtF (k:=2) b.2;exact kindF a.1.i64 (kindOf_i64 _) c.1.i64 c.2
theorem PtF.er{w:World}(h:PtF y)(e:x.er=y)(hm:x.msg.ok w):x.ok w∧zeS x:=by
 subst e;obtain⟨h1,f1,f2,f3⟩:=h;have hz:x.er.msg.sz=x.msg.sz:=Ms.sz_er _;rw[hz]at f1;have f4:=encMs_len x.msg w hm ja;have f5:=enc0_le x.msg;exact⟨⟨h1,hm⟩,by omega,ah f2 jf,ah f3 jf,by omega⟩
theorem pt1_er{ts:List Tok}{b:Bool}(ht:Q06.toksR s=(ts,n,0))(hr:x.er=(pRaw ts).1)(hb:b=(pRaw ts).2) :
    pt1 E s=if b=false∧zA E x=true∧yU x=s then some x.er else none:=by
 unfold pt1;rw[ht];simp only;rw[←hr,←hb,er_good,er_line];by_cases hc:b=false∧zA E x=true∧yU x=s
 · rw[af hc,af ⟨trivial,hc⟩]
 · rw[aa hc,aa (fun h=>hc h.2)]
