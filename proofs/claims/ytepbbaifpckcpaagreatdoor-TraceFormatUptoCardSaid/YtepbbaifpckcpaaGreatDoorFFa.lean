/- A line of a trace is read again: what trace.parse and the reference's Point compute, in plain words. -/
import Derived.Lib.SplitLaws
import Derived.Test.YtepbbaifpckcpaaGreatDoorFPl
import Derived.Test.YtepbbaifpckcpaaGreatDoorFTrM
import Derived.Test.YtepbbaifpckcpaaGreatDoorFQc
import Derived.Test.YtepbbaifpckcpaaGreatDoorFTo
namespace Go.Proofs.YtepbbaifpckcpaaGreatDoor
open Go.RowKit
open Q06 (Tok tok0 TokAs)
def tnum (n:Int):Tok:=⟨2, [],n, [],0⟩
def tstr (l:List UInt8):Tok:=⟨3, [],0,l,0⟩
def twd (l:List UInt8):Tok:=⟨1,l,0, [],0⟩
def atL (t:Tok):Tok:={t with line:=1}
def zfD (x:Pt):List (List UInt8 × Tok):=
 if x.kind=1 then [(Lib.itoa x.number,tnum x.number),(Q06.quote x.text,tstr x.text)]
 else if x.kind=2 then [(Lib.itoa x.number,tnum x.number),(Lib.itoa x.slot,tnum x.slot),(Q06.quote x.result,tstr x.result)]
 else if x.kind=3∨x.kind=4 then [(Lib.itoa x.slot,tnum x.slot),(Q06.quote x.text,tstr x.text)]
 else if x.kind=5 then [(Lib.itoa x.number,tnum x.number),(Q06.quote x.text,tstr x.text),(Q06.quote x.result,tstr x.result)]
 else if x.kind=6 then [(Q06.quote (enc0 x.msg),tstr (enc0 x.msg))] else []
theorem kindPs_fst (x:Pt):(zfD x).map (·.1)=zq x:=by
 unfold zfD zq;repeat' split
 all_goals rfl
def zfh (x:Pt):List Tok:=(tnum x.time::twd (yj x.kind)::tnum x.who::(zfD x).map (·.2)).map atL
def wordL (k:Int):Bool:=match yj k with| []=>false|h::s=>Q06.isLet h.toNat &&(h::s).all (fun c=>Q06.isCon c.toNat) && decide ((h::s).length≤24)
theorem kind8 {k:Int} (h1:1≤k) (h8:k≤8):k=1∨k=2∨k=3∨k=4∨k=5∨k=6∨k=7∨k=8:=by omega
theorem tokAs_kind (k:Int) (h1:1≤k) (h8:k≤8):TokAs (yj k) (twd (yj k)):=by
 have hw:wordL k=true:=by rcases kind8 h1 h8 with rfl|rfl|rfl|rfl|rfl|rfl|rfl|rfl <;> decide
 unfold wordL at hw;cases he:yj k with
 |nil=>rw [he] at hw;cases hw
 |cons h s=>
  rw [he] at hw;simp only [Bool.and_eq_true,List.all_eq_true,decide_eq_true_eq] at hw;exact Q06.tokAs_word _ h s rfl hw.1.1 hw.1.2 hw.2
def ptNn (x:Pt):Prop:=(0≤x.time∧x.time≤9223372036854775807)∧(1≤x.kind∧x.kind≤8)∧(0≤x.who∧x.who≤9223372036854775807)∧(0≤x.slot∧x.slot≤9223372036854775807)∧(0≤x.number∧x.number≤9223372036854775807)
theorem toks_line (x:Pt) (h:ptNn x):Q06.toks (yw x) 1 []= .ok (zfh x):=by
 obtain⟨h1,h2,h3,h4,h5⟩:=h;have e:yw x=Lib.join (Lib.itoa x.time::((yj x.kind,twd (yj x.kind))::(Lib.itoa x.who,tnum x.who)::zfD x).map (·.1)) [32]++ [10]:=by
  simp only [List.map_cons,kindPs_fst];rfl
 rw [e,Q06.toks_parts _ (tnum x.time) _ (Q06.tokAs_num _ h1.1 h1.2) (fun p hp=> ?_)]
 · simp [zfh,atL]
 · have n1:=Q06.tokAs_num _ h3.1 h3.2;have n2:=Q06.tokAs_num _ h4.1 h4.2;have n3:=Q06.tokAs_num _ h5.1 h5.2;have w1:=tokAs_kind _ h2.1 h2.2;have q:=fun l=>Q06.tokAs_quote l
   simp only [List.mem_cons] at hp;rcases hp with rfl|rfl|hp
   · exact w1
   · exact n1
   · unfold zfD at hp;repeat' split at hp
     all_goals simp only [List.mem_cons,List.not_mem_nil,or_false] at hp
     · rcases hp with rfl|rfl
       · exact n3
       · exact q _
     · rcases hp with rfl|rfl|rfl
       · exact n3
       · exact n2
       · exact q _
     · rcases hp with rfl|rfl
       · exact n2
       · exact q _
     · rcases hp with rfl|rfl|rfl
       · exact n3
       · exact q _
       · exact q _
     · subst hp;exact q _
/-! what is read -/
def kindOf (w:List UInt8):Int:=if w=yj 1 then 1 else if w=yj 2 then 2 else if w=yj 3 then 3 else if w=yj 4 then 4 else if w=yj 5 then 5 else if w=yj 6 then 6 else if w=yj 7 then 7 else if w=yj 8 then 8 else 0
theorem zeQ (k:Int) (h1:1≤k) (h8:k≤8):kindOf (yj k)=k:=by
 rcases kind8 h1 h8 with rfl|rfl|rfl|rfl|rfl|rfl|rfl|rfl <;> decide
def nxt (k:Int) (s:List Tok × Bool):Tok × List Tok × Bool:=match s.1 with
 | []=>(tok0, [],true)
 |t::r=>if t.kind=k then(t,r,s.2) else(tok0,t::r,true)
theorem zen (k:Int) (t:Tok) (r:List Tok) (b:Bool) (h:t.kind=k):nxt k (t::r,b)=(t,r,b):=by
 show(if t.kind=k then _ else _)=_;rw [if_pos h]
def YD (a k o:Int) (s:List Tok × Bool):Pt × Bool:=
 if k=1 then let d:=nxt 2 s;let e:=nxt 3 d.2;(⟨a,k,o,0,d.1.int,e.1.str, [],ms0⟩,e.2.2)
 else if k=2 then let d:=nxt 2 s;let e:=nxt 2 d.2;let f:=nxt 3 e.2;(⟨a,k,o,e.1.int,d.1.int, [],f.1.str,ms0⟩,f.2.2)
 else if k=3∨k=4 then let d:=nxt 2 s;let e:=nxt 3 d.2;(⟨a,k,o,d.1.int,0,e.1.str, [],ms0⟩,e.2.2)
 else if k=5 then let d:=nxt 2 s;let e:=nxt 3 d.2;let f:=nxt 3 e.2;(⟨a,k,o,0,d.1.int,e.1.str,f.1.str,ms0⟩,f.2.2)
 else if k=6 then let d:=nxt 3 s;(⟨a,k,o,0,0, [], [],(zaa d.1.str).getD ms0⟩,d.2.2 ||(zaa d.1.str).isNone)
 else(⟨a,k,o,0,0, [], [],ms0⟩,s.2)
def pRaw (ts:List Tok):Pt × Bool:=
 let a:=nxt 2 (ts,false);let b:=nxt 1 a.2;let c:=nxt 2 b.2
 YD a.1.int (kindOf b.1.text) c.1.int c.2
def pt1 (E:List UInt8→Bool) (s:List UInt8):Option Pt:=
 if(Q06.toksR s).2.2=0∧(pRaw (Q06.toksR s).1).2=false∧zy E (pRaw (Q06.toksR s).1).1=true∧yw (pRaw (Q06.toksR s).1).1=s then some (pRaw (Q06.toksR s).1).1 else none
def numR (ts:List Tok) (i:Nat):Int:=match ts[i]? with|some t=>if t.kind=2 then t.int else -1|none=>-1
/-! a good point's line is read as this point -/
def zeD (x:Pt) (m:Ms):Pt:=⟨x.time,x.kind,x.who,x.slot,x.number,x.text,x.result,if x.kind=6 then m else ms0⟩
def canon (x:Pt):Pt:=zeD x x.msg.er
def Pt.er (x:Pt):Pt:={x with msg:=x.msg.er}
structure Fields (x:Pt):Prop where
 slot:x.kind=1∨4<x.kind→x.slot=0
 number:x.kind=3∨x.kind=4∨5<x.kind→x.number=0
 text:x.kind=2∨5<x.kind→x.text= []
 result:x.kind≠2∧x.kind≠5→x.result= []
 msg:x.kind≠6→yO x.msg=yO ms0
theorem fields_of {x:Pt} (h:eqPt x (yn x)=true) (h1:1≤x.kind) (h8:x.kind≤8):Fields x:=by
 simp only [eqPt,Bool.and_eq_true,decide_eq_true_eq,zcf,beq_iff_eq] at h;obtain⟨⟨⟨⟨⟨-,a⟩,b⟩,c⟩,d⟩,e⟩:=h;unfold yn at a b c d e;constructor <;> intro hk
 · rcases(by omega:x.kind=1∨x.kind=5∨x.kind=6∨x.kind=7∨x.kind=8) with h|h|h|h|h <;> simpa [h] using a
 · rcases(by omega:x.kind=3∨x.kind=4∨x.kind=6∨x.kind=7∨x.kind=8) with h|h|h|h|h <;> simpa [h] using b
 · rcases(by omega:x.kind=2∨x.kind=6∨x.kind=7∨x.kind=8) with h|h|h|h <;> simpa [h] using c
 · rcases(by omega:x.kind=1∨x.kind=3∨x.kind=4∨x.kind=6∨x.kind=7∨x.kind=8) with h|h|h|h|h|h <;> simpa [h] using d
 · rcases(by omega:x.kind=1∨x.kind=2∨x.kind=3∨x.kind=4∨x.kind=5∨x.kind=7∨x.kind=8) with h|h|h|h|h|h|h <;> simpa [h] using e
structure Good (E:List UInt8→Bool) (x:Pt):Prop where
 head:Z5 x=true
 kept:eqPt x (yn x)=true
 who:whoOk x=true
 kind:zbi E x=true
theorem zdC {E:List UInt8→Bool} {x:Pt}:zy E x=true↔Good E x:=by
 unfold zy;simp only [Bool.and_eq_true];exact⟨fun h=>⟨h.1.1.1,h.1.1.2,h.1.2,h.2⟩,fun h=>⟨⟨⟨h.1,h.2⟩,h.3⟩,h.4⟩⟩
theorem zcB {E:List UInt8→Bool} {x:Pt} (h:Good E x):1≤x.kind∧x.kind≤8:=by
 have:=h.head;simp only [Z5,Bool.and_eq_true,decide_eq_true_eq] at this;omega
theorem good_nn {E:List UInt8→Bool} {x:Pt} (h:Good E x) (ht:x.time≤9223372036854775807):ptNn x:=by
 have hk:=zcB h;have hf:=fields_of h.kept hk.1 hk.2;have h1:=h.head;have h2:=h.who;have h3:=h.kind;simp only [Z5,Bool.and_eq_true,decide_eq_true_eq] at h1;have hw:0≤x.who∧x.who<12:=by
  unfold whoOk at h2;split at h2 <;> simp only [isCl,isSv,Bool.and_eq_true,decide_eq_true_eq] at h2 <;> omega
 have hn:0≤x.number∧x.number≤1000000:=by
  unfold zbi at h3;rcases kind8 hk.1 hk.2 with q|q|q|q|q|q|q|q
  · simp [q,zab] at h3;omega
  · simp [q,zab] at h3;omega
  · rw [hf.number ja];omega
  · rw [hf.number ja];omega
  · simp [q,isCl] at h3;omega
  · rw [hf.number ja];omega
  · rw [hf.number ja];omega
  · rw [hf.number ja];omega
 exact⟨⟨by omega,ht⟩,hk,⟨hw.1,by omega⟩,⟨by omega,by omega⟩,⟨hn.1,by omega⟩⟩
theorem canon_line (x:Pt):yw (canon x)=yw x:=by
 have h:zq (canon x)=zq x:=by
  unfold zq canon zeD;by_cases h6:x.kind=6
  · simp only [h6,if_true];have:enc0 x.msg.er=enc0 x.msg:=by unfold enc0;rw [zfe,zby]
    rw [this]
  · simp only [h6,if_false]
 show Lib.join (yD x++zq (canon x)) [32]++ [10]=_;rw [h];rfl
theorem canon_eq {E:List UInt8→Bool} {x:Pt} (h:Good E x):eqPt (canon x) x=true:=by
 have hk:=zcB h;have hf:=fields_of h.kept hk.1 hk.2;have hm:yO (canon x).msg=yO x.msg:=by
  show yO (if x.kind=6 then x.msg.er else ms0)=_;split
  · exact zby _
  · next h6=>exact(hf.msg h6).symm
 simp only [eqPt,hm,zcN];simp [canon,zeD]
theorem canon_good {E:List UInt8→Bool} {x:Pt} (h:Good E x):Good E (canon x):=by
 have hk:=zcB h;have h1:=h.kept;refine⟨h.head, ?_,h.who, ?_⟩
 · have e:yn (canon x)=canon (yn x):=by
     unfold yn canon zeD;rcases kind8 hk.1 hk.2 with q|q|q|q|q|q|q|q <;> simp [q]
   simp only [eqPt,Bool.and_eq_true,decide_eq_true_eq,zcf,beq_iff_eq] at h1;obtain⟨⟨⟨⟨⟨⟨⟨a1,a2⟩,a3⟩,a4⟩,a5⟩,a6⟩,a7⟩, -⟩:=h1;have e2:(canon (yn x)).msg=(canon x).msg:=by
    show(if(yn x).kind=6 then(yn x).msg.er else ms0)=if x.kind=6 then x.msg.er else ms0
    rw [←a2];split
    · next q=>simp [yn,q]
    · rfl
   rw [e];simp only [eqPt,e2,zcN];simp [canon,zeD,←a1,←a2,←a3,←a4,←a5,←a6,←a7]
 · have h4:=h.kind;unfold zbi at h4⊢;by_cases h6:x.kind=6
   · have em:(canon x).msg=x.msg.er:=by show(if x.kind=6 then x.msg.er else ms0)=_;rw [if_pos h6]
     have ek:(canon x).kind=6:=h6;have ew:(canon x).who=x.who:=rfl;have es:x.msg.er.src=x.msg.src:=rfl;rw [ek,em,ew,zfe,es];simpa [h6] using h4
   · have ek:(canon x).kind=x.kind:=rfl;rw [ek,if_neg h6];rw [if_neg h6] at h4;exact h4
theorem toksR_line {x:Pt} (h:ptNn x) (hl:(yw x).length≤65536):Q06.toksR (yw x)=(zfh x,0,0):=by
 unfold Q06.toksR;rw [if_neg ja,toks_line x h]
theorem enc0_dec {x:Pt} {w:World} {E:List UInt8→Bool} (h:Good E x) (hok:x.ok w) (h6:x.kind=6):zaa (enc0 x.msg)=some x.msg.er:=by
 have h4:=h.kind;simp [zbi,h6] at h4;have hv:vMs x.msg=0:=h4.1;unfold enc0;rw [if_pos hv,decMs_put x.msg w hok.2 hv]
theorem raw_lineM {x:Pt} {m:Ms} {E:List UInt8→Bool} (h:Good E x) (hd:x.kind=6→zaa (enc0 x.msg)=some m):pRaw (zfh x)=(zeD x m,false):=by
 have hk:=zcB h;have hf:=fields_of h.kept hk.1 hk.2;unfold pRaw zfh;simp only [List.map_cons];rw [zen 2 _ _ _ rfl,zen 1 _ _ _ rfl,zen 2 _ _ _ rfl];show YD x.time (kindOf (yj x.kind)) x.who _=_;rw [zeQ _ hk.1 hk.2];unfold YD zfD zeD;rcases kind8 hk.1 hk.2 with q|q|q|q|q|q|q|q
 · simp [q,nxt,atL,tnum,tstr,hf.slot ja,hf.result ja]
 · simp [q,nxt,atL,tnum,tstr,hf.text ja]
 · simp [q,nxt,atL,tnum,tstr,hf.number ja,hf.result ja]
 · simp [q,nxt,atL,tnum,tstr,hf.number ja,hf.result ja]
 · simp [q,nxt,atL,tnum,tstr,hf.slot ja]
 · simp [q,nxt,atL,tstr,hd q,hf.slot ja,hf.number ja,hf.text ja,hf.result ja]
 · simp [q,hf.slot ja,hf.number ja,hf.text ja,hf.result ja]
 · simp [q,hf.slot ja,hf.number ja,hf.text ja,hf.result ja]
theorem raw_line {x:Pt} {w:World} {E:List UInt8→Bool} (h:Good E x) (hok:x.ok w):pRaw (zfh x)=(canon x,false):=raw_lineM h (fun h6=>enc0_dec h hok h6)
theorem pt1_line {x:Pt} {w:World} {E:List UInt8→Bool} (h:zy E x=true) (hok:x.ok w) (hl:(yw x).length≤65536):pt1 E (yw x)=some (canon x):=by
 have hg:=zdC.1 h;unfold pt1;rw [toksR_line (good_nn hg hok.1.1.2) hl];simp only;rw [raw_line hg hok,if_pos ⟨trivial,rfl,zdC.2 (canon_good hg),canon_line x⟩]
/-! both read the same -/
open Go.RowKit
def zc7 (cur:List UInt8):List UInt8→List (List UInt8)
 | []=>if cur= [] then [] else [cur]
 |c::r=>if c=10 then(cur++ [10])::zc7 [] r else zc7 (cur++ [c]) r
theorem cutNl_line (a s:List UInt8) (cur:List UInt8) (ha:∀c∈a,c≠10):zc7 cur (a++10::s)=(cur++a++ [10])::zc7 [] s:=by
 induction a generalizing cur with
 |nil=>rw [List.nil_append,zc7,if_pos rfl,List.append_nil]
 |cons c r ih=>
  rw [List.cons_append,zc7,if_neg (ha c List.mem_cons_self),ih _ (fun x hx=>ha x (List.mem_cons_of_mem _ hx))];simp
theorem join_mem (c:UInt8) (hc:c≠32):∀(l:List (List UInt8)),c∈Lib.join l [32]→∃p∈l,c∈p
 | [],h=>by simp [Lib.join,List.intercalate] at h
 | [a],h=>by rw [Q06.join_one] at h;exact⟨a,List.mem_cons_self,h⟩
 |a::b::l,h=>by
  rw [Q06.join_two,List.mem_append,List.mem_cons] at h
  rcases h with h|h|h
  · exact⟨a,List.mem_cons_self,h⟩
  · exact absurd h hc
  · obtain⟨p,hp,h⟩:=join_mem c hc (b::l) h
    exact⟨p,List.mem_cons_of_mem _ hp,h⟩
theorem hexd_no (n:Nat) (h:n<16):Q06.hexd n≠10:=by
 have:∀d:Fin 16,Q06.hexd d.val≠10:=by decide
 exact this ⟨n,h⟩
theorem quote_no (l:List UInt8) (c:UInt8) (h:c∈Q06.quote l):c≠10:=by
 rintro rfl;simp only [Q06.quote,Q06.qmid,List.mem_cons,List.mem_append,List.mem_flatMap,List.not_mem_nil,or_false] at h;rcases h with h|⟨x, -,h⟩|h
 · exact absurd h jf
 · have hx:=x.toNat_lt;unfold Q06.qch at h;split at h
   · next hq=>
     simp only [List.mem_cons,List.not_mem_nil,or_false] at h;rcases h with h|h
     · exact absurd h jf
     · subst h;revert hq;decide
   · split at h
     · revert h;decide
     · split at h
       · simp only [List.mem_cons,List.not_mem_nil,or_false] at h;rcases h with h|h|h|h
         · exact absurd h jf
         · exact absurd h jf
         · exact hexd_no _ ja h.symm
         · exact hexd_no _ ja h.symm
       · next h2 _=>
         simp only [List.mem_cons,List.not_mem_nil,or_false] at h;subst h;exact h2 rfl
 · exact absurd h jf
theorem itoa_no (n:Int) (h0:0≤n) (c:UInt8) (h:c∈Lib.itoa n):c≠10:=by
 rintro rfl;unfold Lib.itoa at h;rw [if_neg ja] at h;obtain⟨d,r,hd, -, -,h3⟩:=Q06.dec_form n.toNat;rw [hd] at h;exact absurd (h3 _ h) jf
theorem word_no (k:Int) (c:UInt8) (h:c∈yj k):c≠10:=by
 rintro rfl;unfold yj at h;repeat' split at h
 all_goals revert h;decide
theorem line_form (x:Pt) (h:ptNn x):∃a,yw x=a++ [10]∧∀c∈a,c≠10:=by
 refine⟨_,rfl,fun c hc h10=> ?_⟩;obtain⟨p,hp,hcp⟩:=join_mem c (by rw [h10];decide) _ hc;obtain⟨h1, -,h3,h4,h5⟩:=h;have n3:=itoa_no x.who h3.1 c;have n4:=itoa_no x.slot h4.1 c;have n5:=itoa_no x.number h5.1 c;have q:=fun l=>quote_no l c
 rw [List.mem_append] at hp;rcases hp with hp|hp
 · simp only [yD,List.mem_cons,List.not_mem_nil,or_false] at hp;rcases hp with rfl|rfl|rfl
   · exact itoa_no x.time h1.1 c hcp h10
   · exact word_no _ c hcp h10
   · exact n3 hcp h10
 · unfold zq at hp;repeat' split at hp
   all_goals simp only [List.mem_cons,List.not_mem_nil,or_false] at hp
   · rcases hp with rfl|rfl
     · exact n5 hcp h10
     · exact q _ hcp h10
   · rcases hp with rfl|rfl|rfl
     · exact n5 hcp h10
     · exact n4 hcp h10
     · exact q _ hcp h10
   · rcases hp with rfl|rfl
     · exact n4 hcp h10
     · exact q _ hcp h10
   · rcases hp with rfl|rfl|rfl
     · exact n5 hcp h10
     · exact q _ hcp h10
     · exact q _ hcp h10
   · subst hp;exact q _ hcp h10
theorem cutNl_lines (l:List Pt) (h:∀x∈l,ptNn x):zc7 [] (zX l)=l.map yw:=by
 induction l with
 |nil=>rfl
 |cons x r ih=>
  obtain⟨a,ha,hn⟩:=line_form x (h x List.mem_cons_self);show zc7 [] (yw x++zX r)=_;rw [ha,List.append_assoc,List.singleton_append,cutNl_line a _ [] hn,ih (fun y hy=>h y (List.mem_cons_of_mem _ hy)),List.nil_append,←ha];rfl
def late (acc:List Pt) (x:Pt):Bool:=match acc.getLast? with
 |none=>false
 |some y=>decide (x.time<y.time)
def ZA (pt:List UInt8→Option Pt):List (List UInt8)→List Pt→List Pt × Int × Int
 | [],acc=>(acc,0,0)
 |s::r,acc=>match pt s with
  |none=>([],(acc.length:Int)+1,2)
  |some x=>if late acc x=true then([],(acc.length:Int)+1,1) else if acc.length=5000 then([],(acc.length:Int)+1,3) else ZA pt r (acc++ [x])
def zb3 (pt:List UInt8→Option Pt) (s:List UInt8):List Pt × Int × Int:=if 65536<s.length then([],0,3) else ZA pt (zc7 [] s) []
def Chain (E:List UInt8→Bool) (l:List Pt):Prop:=∀k,Zc E l k=true
theorem chain_all {E:List UInt8→Bool} {l:List Pt}:Y2 E l=true↔Chain E l:=by
 unfold Y2 Chain;simp only [List.all_eq_true,List.mem_range];refine⟨fun h k=> ?_,fun h k _=>h k⟩;by_cases hk:k<l.length
 · exact h k hk
 · unfold Zc;rw [List.getElem?_eq_none ja]
theorem zcV {E:List UInt8→Bool} {l:List Pt} (h:Chain E l) (k:Nat) (hk:k<l.length):zy E l[k]=true∧late (l.take k) l[k]=false:=by
 have h1:=h k;unfold Zc at h1;rw [List.getElem?_eq_getElem hk] at h1;simp only [Bool.and_eq_true,Bool.or_eq_true,decide_eq_true_eq] at h1;refine⟨h1.1, ?_⟩;unfold late;rw [List.getLast?_take];split
 · rfl
 · next y hy=>
   split at hy
   · cases hy
   · next h0=>
     rw [List.getElem?_eq_getElem ja] at hy;have h2:=h1.2;rw [List.getElem?_eq_getElem ja] at h2;simp only [Option.some_or,Option.some.injEq] at hy;subst hy;rcases h2 with h2|h2
     · exact absurd h2 h0
     · simp only [decide_eq_true_eq] at h2;simp;omega
theorem late_canon (l:List Pt) (x:Pt):late (l.map canon) (canon x)=late l x:=by
 unfold late;rw [List.getLast?_map];cases l.getLast? <;> rfl
theorem zcs {E:List UInt8→Bool} {w:World} {l:List Pt} (hc:Chain E l) (hn:l.length≤5000) (hok:∀x∈l,x.ok w) (hl:(zX l).length≤65536) :
    ∀(j k:Nat),k+j=l.length→ZA (pt1 E) ((l.drop k).map yw) ((l.take k).map canon)=(l.map canon,0,0)
 |0,k,h=>by
  rw [List.drop_eq_nil_of_le ja,List.take_of_length_le ja];rfl
 |j+1,k,h=>by
  have hk:k<l.length:=by omega
  obtain⟨h1,h2⟩:=zcV hc k hk
  have hlen:(yw l[k]).length≤65536:=by
   have:=zbq l k hk;have h3:=zcW l (k+1);rw [this,List.length_append] at h3;omega
  rw [List.drop_eq_getElem_cons hk,List.map_cons,ZA,pt1_line h1 (hok _ (List.getElem_mem hk)) hlen];simp only;rw [late_canon,h2,if_neg jf,if_neg (by rw [List.length_map,List.length_take];omega)];have:=zcs hc hn hok hl j (k+1) ja;rw [List.take_succ_eq_append_getElem hk,List.map_append] at this;exact this
theorem vTr_zero {E:List UInt8→Bool} {l:List Pt}:vTr E l=0↔l.length≤5000∧Chain E l:=by
 unfold vTr;rw [←chain_all];by_cases h1:5000<l.length
 · rw [if_pos h1];simp;omega
 · rw [if_neg h1];by_cases h2:Y2 E l=true
   · simp [h2];omega
   · simp [h2]
theorem parse_format {E:List UInt8→Bool} {w:World} {l:List Pt} (hv:vTr E l=0) (hok:∀x∈l,x.ok w) (hl:(zX l).length≤65536):zb3 (pt1 E) (zX l)=(l.map canon,0,0):=by
 obtain⟨hn,hc⟩:=vTr_zero.1 hv;have hnn:∀x∈l,ptNn x:=fun x hx=>by
  obtain⟨k,hk,rfl⟩:=List.mem_iff_getElem.1 hx;exact good_nn (zdC.1 (zcV hc k hk).1) (hok _ hx).1.1.2
 unfold zb3;rw [if_neg ja,cutNl_lines l hnn];exact zcs hc hn hok hl l.length 0 ja
/-! addresses do not matter -/
theorem er_kept (x:Pt):yn x.er=(yn x).er:=by
 unfold yn Pt.er;repeat' split
 all_goals rfl
theorem er_eq (a b:Pt):eqPt a.er b.er=eqPt a b:=by
 show(_ && zcf (yO a.msg.er) (yO b.msg.er))=_;rw [zby,zby];rfl
theorem er_good (E:List UInt8→Bool) (x:Pt):zy E x.er=zy E x:=by
 unfold zy;rw [er_kept,er_eq];show(Z5 x && eqPt x (yn x) && whoOk x && zbi E x.er)=_;have:zbi E x.er=zbi E x:=by
  show(if x.kind=1 then zab x.number && opOk x.text else if x.kind=2 then zab x.number else if x.kind=3∨x.kind=4 then E x.text else if x.kind=5 then isCl x.number && opOk x.text else if x.kind=6 then decide (vMs x.msg.er=0) && decide (x.msg.src=x.who) else true)=_;rw [zfe];rfl
 rw [this]
theorem er_line (x:Pt):yw x.er=yw x:=by
 have h:zq x.er=zq x:=by
  have:enc0 x.msg.er=enc0 x.msg:=by unfold enc0;rw [zfe,zby]
  unfold zq Pt.er;simp only [this]
 show Lib.join (yD x++zq x.er) [32]++ [10]=_;rw [h];rfl
def cutA:List UInt8→List (List UInt8)
 | []=> [[]]
 |b::r=>if b=10 then [10]::cutA r else match cutA r with
  | []=> [[b]]
  |x::t=>(b::x)::t
theorem cutA_ne:∀s,cutA s≠ []
 | []=>by simp [cutA]
 |b::r=>by
  unfold cutA
  split
  · simp
  · split <;> simp
theorem indexA_ne {b:UInt8} {r:List UInt8} (h:b≠10):Lib.index (b::r) [10]=if Lib.index r [10] == -1 then -1 else Lib.index r [10]+1:=by
 rw [Lib.index];have:List.isPrefixOf [(10:UInt8)] (b::r)=false:=by
  simp [List.isPrefixOf];exact fun e=>h e.symm
 rw [this];rfl
theorem indexA_eq (r:List UInt8):Lib.index (10::r) [10]=0:=by
 rw [Lib.index];have:List.isPrefixOf [(10:UInt8)] (10::r)=true:=by simp [List.isPrefixOf]
 rw [this];rfl
theorem zdm:∀s:List UInt8,Lib.splitK [10] 1 (Lib.count s [10]) s=cutA s
 | []=>by
  unfold cutA
  generalize Lib.count [] [10]=k
  cases k with
  |zero=>rfl
  |succ k=>
   unfold Lib.splitK
   rw [if_pos jf]
 |b::r=>by
  have ih:=zdm r
  by_cases h:b=10
  · subst h
    rw [Lib.count_cons_eq,Nat.add_comm,Lib.splitK,indexA_eq]
    rw [if_neg jf]
    simp only [cutA,if_true]
    rw [←ih]
    rfl
  · rw [Lib.count_cons_ne b 10 r h]
    unfold cutA
    rw [if_neg h,←ih]
    generalize Lib.count r [10]=k
    cases k with
    |zero=>rfl
    |succ k=>
     rw [Lib.splitK,Lib.splitK,indexA_ne h]
     have hge:=Lib.index_ge r [10]
     by_cases hi:Lib.index r [10]=-1
     · rw [hi]
       simp
     · have h1:(Lib.index r [10] == -1)=false:=by simpa using hi
       have h2:((Lib.index r [10]+1) == -1)=false:=by
        rw [beq_eq_false_iff_ne];omega
       simp only [h1,h2,Bool.false_eq_true,if_false];have h3:(Lib.index r [10]+1).toNat=(Lib.index r [10]).toNat+1:=by omega
       rw [h3];simp []
theorem splitB_after (s:ByteArray):(Lib.splitB ⟨#[10]⟩ 1 (Lib.countB s ⟨#[10]⟩) s).map (·.data.toList)=cutA s.data.toList:=by
 rw [Lib.splitB_data];exact zdm _
def zbd (l:List UInt8):Bool:= !l.isEmpty
def zc6 (cur:List UInt8):List (List UInt8)→List (List UInt8)
 | []=> []
 |x::t=>(cur++x)::t
theorem zd0 (l:List (List UInt8)):zc6 [] l=l:=by cases l <;> rfl
theorem cutA_full (s cur:List UInt8):(zc6 cur (cutA s)).filter zbd=zc7 cur s:=by
 induction s generalizing cur with
 |nil=>
  unfold zc7;split
  · next h=>subst h;rfl
  · next h=>
    have:zbd cur=true:=by cases cur with|nil=>exact absurd rfl h|cons a b=>rfl
    simp [cutA,zc6,this]
 |cons c r ih=>
  unfold zc7;split
  · next h=>
    subst h;have h1:=ih [];rw [zd0] at h1;have:zbd (cur++ [10])=true:=by cases cur <;> rfl
    simp [cutA,zc6,this,h1]
  · next h=>
    rw [←ih (cur++ [c])];have:cutA (c::r)=zc6 [c] (cutA r):=by
     rw [cutA,if_neg h];cases hc:cutA r with
     |nil=>exact absurd hc (cutA_ne r)
     |cons x t=>rfl
    rw [this];cases cutA r with
    |nil=>rfl
    |cons x t=>simp [zc6]
theorem cutA_lines (s:List UInt8):(cutA s).filter zbd=zc7 [] s:=by rw [←cutA_full s [],zd0]
theorem cutA_len (s:List UInt8):(cutA s).length≤s.length+1:=by
 induction s with
 |nil=>simp [cutA]
 |cons b r ih=>
  unfold cutA;split
  · simp;omega
  · split
    · simp
    · next h=>rw [h] at ih;simp at ih⊢;omega
theorem cutA_flat (s:List UInt8):(cutA s).flatten=s:=by
 induction s with
 |nil=>simp [cutA]
 |cons b r ih=>
  unfold cutA;split
  · next h=>subst h;simp [ih]
  · split
    · next h=>exact absurd h (cutA_ne r)
    · next h=>rw [h] at ih;simp at ih⊢;exact ih
theorem flat_len_le {l:List (List UInt8)} {p:List UInt8} (h:p∈l):p.length≤l.flatten.length:=by
 induction l with
 |nil=>cases h
 |cons x t ih=>
  rw [List.flatten_cons,List.length_append];rw [List.mem_cons] at h;rcases h with rfl|h
  · omega
  · have:=ih h;omega
theorem cutA_le {s p:List UInt8} (h:p∈cutA s):p.length≤s.length:=by
 have:=flat_len_le h;rwa [cutA_flat] at this
open Go.RowKit
open Q06 (Tok tok0)
def ze6 (x:Pt):Prop:=x.msg.sz≤16777216∧x.text.length≤300000∧x.result.length≤300000∧(enc0 x.msg).length≤1100000
structure TokF (t:Tok):Prop where
 ge:0≤t.int
 le:t.int≤9223372036854775807
 len:t.str.length≤65536
theorem toksF (s:List UInt8):∀t∈(Q06.toksR s).1,TokF t:=fun t ht=>by
 have hf:=Q06.toksR_fit s t ht
 refine⟨hf.1,Q06.toksR_int s t ht,Nat.le_trans hf.2 ?_⟩
 by_cases h:s.length≤65536
 · exact h
 · exfalso
   unfold Q06.toksR at ht
   rw [if_pos ja] at ht
   cases ht
theorem tokF0:TokF tok0:=⟨Int.le_refl _,by decide,Nat.zero_le _⟩
theorem nxtF {k:Int} {s:List Tok × Bool} (h:∀t∈s.1,TokF t):TokF (nxt k s).1∧∀t∈(nxt k s).2.1,TokF t:=by
 obtain⟨ts,b⟩:=s;cases ts with
 |nil=>exact⟨tokF0,fun t ht=>by cases ht⟩
 |cons t r=>
  by_cases hk:t.kind=k
  · rw [zen k t r b hk];exact⟨h t List.mem_cons_self,fun x hx=>h x (List.mem_cons_of_mem _ hx)⟩
  · have e:nxt k (t::r,b)=(tok0,t::r,true):=by
      show(if t.kind=k then _ else _)=_;rw [if_neg hk]
    rw [e];exact⟨tokF0,h⟩
theorem TokF.i64 {t:Tok} (h:TokF t):I64 t.int:=⟨by have:=h.ge;omega,h.le⟩
theorem enc0_le (m:Ms):(enc0 m).length≤(yO m).length:=by unfold enc0;split <;> simp
theorem decMs_len {s:List UInt8} {m:Ms} (h:zaa s=some m):m.sz≤s.length:=by
 unfold zaa at h;cases hw:whole rdMs s with
 |none=>rw [hw] at h;cases h
 |some y=>
  rw [hw] at h;simp only at h;split at h
  · injection h with h;subst h;exact zdz rdMs_sz hw
  · cases h
structure PtF (x:Pt):Prop where
 nums:I64 x.time∧I64 x.kind∧I64 x.who∧I64 x.slot∧I64 x.number
 few:x.msg.sz≤65536∧x.text.length≤65536∧x.result.length≤65536
theorem i64z:I64 0:=by simp [I64]
theorem zc0:ms0.sz≤65536:=by decide
theorem few_msg {u:List UInt8} (hu:u.length≤65536):((zaa u).getD ms0).sz≤65536:=by
 cases hd:zaa u with
 |none=>exact zc0
 |some m=>exact Nat.le_trans (decMs_len hd) hu
theorem kindF {a k o:Int} {s:List Tok × Bool} (ha:I64 a) (hk:I64 k) (ho:I64 o) (h:∀t∈s.1,TokF t):PtF (YD a k o s).1:=by
 have z:=i64z;have d2:=nxtF (k:=2) h;have d3:=nxtF (k:=3) h;have e22:=nxtF (k:=2) d2.2;have e23:=nxtF (k:=3) d2.2;have f223:=nxtF (k:=3) e22.2;have f233:=nxtF (k:=3) e23.2;unfold YD;repeat' split
 · exact⟨⟨ha,hk,ho,z,d2.1.i64⟩,⟨zc0,e23.1.len,Nat.zero_le _⟩⟩
 · exact⟨⟨ha,hk,ho,e22.1.i64,d2.1.i64⟩,⟨zc0,Nat.zero_le _,f223.1.len⟩⟩
 · exact⟨⟨ha,hk,ho,d2.1.i64,z⟩,⟨zc0,e23.1.len,Nat.zero_le _⟩⟩
 · exact⟨⟨ha,hk,ho,z,d2.1.i64⟩,⟨zc0,e23.1.len,f233.1.len⟩⟩
 · exact⟨⟨ha,hk,ho,z,z⟩,⟨few_msg d3.1.len,Nat.zero_le _,Nat.zero_le _⟩⟩
 · exact⟨⟨ha,hk,ho,z,z⟩,⟨zc0,Nat.zero_le _,Nat.zero_le _⟩⟩
theorem kindOf_i64 (wd:List UInt8):I64 (kindOf wd):=by
 have:0≤kindOf wd∧kindOf wd≤8:=by
  unfold kindOf;repeat' split
  all_goals omega
 exact⟨by omega,by omega⟩
theorem rawF {ts:List Tok} (h:∀t∈ts,TokF t):PtF (pRaw ts).1:=by
 have a:=nxtF (k:=2) (s:=(ts,false)) h;have b:=nxtF (k:=1) a.2;have c:=nxtF (k:=2) b.2;exact kindF a.1.i64 (kindOf_i64 _) c.1.i64 c.2
theorem PtF.er {x y:Pt} {w:World} (h:PtF y) (e:x.er=y) (hm:x.msg.ok w):x.ok w∧ze6 x:=by
 subst e;obtain⟨h1,f1,f2,f3⟩:=h;have hz:x.er.msg.sz=x.msg.sz:=Ms.sz_er _;rw [hz] at f1;have f4:=encMs_len x.msg w hm ja;have f5:=enc0_le x.msg;exact⟨⟨h1,hm⟩,by omega,Nat.le_trans f2 jf,Nat.le_trans f3 jf,by omega⟩
theorem pt1_er {E:List UInt8→Bool} {s:List UInt8} {x:Pt} {ts:List Tok} {n:Int} {b:Bool} (ht:Q06.toksR s=(ts,n,0)) (hr:x.er=(pRaw ts).1) (hb:b=(pRaw ts).2) :
    pt1 E s=if b=false∧zy E x=true∧yw x=s then some x.er else none:=by
 unfold pt1;rw [ht];simp only;rw [←hr,←hb,er_good,er_line];by_cases hc:b=false∧zy E x=true∧yw x=s
 · rw [if_pos hc,if_pos ⟨trivial,hc⟩]
 · rw [if_neg hc,if_neg (fun h=>hc h.2)]
end Go.Proofs.YtepbbaifpckcpaaGreatDoor
