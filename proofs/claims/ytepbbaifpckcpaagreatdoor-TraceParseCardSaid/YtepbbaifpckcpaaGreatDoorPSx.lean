/- The contracts of store's small functions: graphic, field, forms, the closure of Parse. -/
import Derived.Test.YtepbbaifpckcpaaGreatDoorPTa
open Go.Proofs.Tryz
namespace Go.Proofs.YtepbbaifpckcpaaGreatDoor
set_option maxRecDepth 100000
set_option maxHeartbeats 1000000
open Go.RowKit
open Go.Maps (Keyed)
theorem graphic_to(s:ByteArray)(_n k:Nat)(h:k<s.size):(s.data.toList.take (k+1)).all (fun b=>decide (33≤b.toNat) && decide (b.toNat≤126))=((s.data.toList.take k).all (fun b=>decide (33≤b.toNat) && decide (b.toNat≤126)) &&(decide (33≤s[k].toNat) && decide (s[k].toNat≤126))):=by
 have hk:k<s.data.toList.length:=by simpa using h
 rw[bq hk,dQ];simp only[eu,fJ,dA];rfl
variable{b g n:Nat}{w w':World}
theorem zfE{s:ByteArray}{k:Nat}(h:k<s.size)(hb:(decide (33≤s[k].toNat) && decide (s[k].toNat≤126))=false):graphic s.data.toList n=false:=by
 have hm:s[k]∈s.data.toList:=by
  rw[show s[k]=s.data.toList[k]'jao from rfl];exact aH _
 unfold graphic;have:s.data.toList.all (fun b=>decide (33≤b.toNat) && decide (b.toNat≤126))=false:=by
  rw[gP];exact⟨s[k],hm,by rw[hb];simp⟩
 rw[this];rfl
theorem graphic_any(s:ByteArray)(n:Nat)(w:World)(hs:s.size≤9223372036854775807)(_hn:n≤9223372036854775807):Calls prog 269 #[s,n] w fun e w'=>e= .returned (.bool (graphic s.data.toList n))∧w'=w:=by
 go_in;go_wp2_with fail;go_loopw [8] (fun i wr=>∃k:Nat,i= .int .i64 k∧k≤s.size∧(s.data.toList.take k).all (fun b=>decide (33≤b.toNat) && decide (b.toNat≤126))=true∧wr=w) (fun i _=>s.size-(intOf i).toNat)
 case atStart=>exact⟨0,rfl,by omega,by simp,rfl⟩
 case round=>
  obtain⟨k,rfl,hk,hA,rfl⟩:=hrel;have HA:=hD hA;clear hA;by_cases hlt:k<s.size
  · exact fo37
  · obtain rfl:k=s.size:=by omega
    have hA:=HA.out;rw[bi jc]at hA;by_cases h0:s.data.toList=[]
    · exact fo257
    · have b2:s.toList.isEmpty=false:=by
        rw[aS];simpa using h0
      exact fo240
theorem zba(s:ByteArray)(t:Bool)(w:World)(hs:s.size≤9223372036854775807):Calls prog 244 #[s,t] w fun e w'=>e= .returned (.bool (zH s.data.toList t))∧w'=w:=by
 have HG:=hD (graphic_any s 64 w hs ja);cases t with
 |true=>exact fo283
 |false=>
  by_cases h0:s.data.toList=[]
  · have e0:s=⟨#[]⟩:=by rw[←ze2 s,h0]
    subst e0;go_in;exact fo138
  · have b2:s.toList.isEmpty=false:=by
      rw[aS];simpa using h0
    have HF:Hid (zH s.data.toList false=false):=hD (av h0);clear h0;go_in;exact fo50
/-! the map of forms -/
def frmV(s:ByteArray)(a b c:Bool):Value:= .agg #[s,a,b,c]
def zbj(v:Value):Option (DataW Unit × List MemPlace):=match v with
 | .agg ⟨[.string s,.bool a,.bool b,.bool c]⟩=>some (.agg [.lit (.string s.data.toList),.lit (.bool a),.lit (.bool b),.lit (.bool c)],[])
 |_=>none
theorem formR_inv{v:Value}{y:DataW Unit × List MemPlace}(h:zbj v=some y):∃x:ByteArray × Bool × Bool × Bool,v=frmV x.1 x.2.1 x.2.2.1 x.2.2.2:=by
 unfold zbj at h;split at h
 · exact⟨(_,_,_,_),rfl⟩
 · cases h
def za4:DataW Unit:= .map [(.int .i64 1,.agg [.lit (.string (zo 1)),.lit (.bool true),.lit (.bool false),.lit (.bool true)]),(.int .i64 2,.agg [.lit (.string (zo 2)),.lit (.bool true),.lit (.bool false),.lit (.bool false)]),(.int .i64 3,.agg [.lit (.string (zo 3)),.lit (.bool true),.lit (.bool false),.lit (.bool false)]),(.int .i64 4,.agg [.lit (.string (zo 4)),.lit (.bool true),.lit (.bool false),.lit (.bool true)]),(.int .i64 5,.agg [.lit (.string (zo 5)),.lit (.bool true),.lit (.bool true),.lit (.bool true)]),(.int .i64 6,.agg [.lit (.string (zo 6)),.lit (.bool false),.lit (.bool false),.lit (.bool false)])]
theorem Zg{H:Type}{P:Program}(w:World){ops:Array Oper}{rest:List Oper}{o:Oper}{a:Act}{Q:Exit→Act→World→Prop}
    (hg:o.guard=none) (m x v:Operand) (t:TypeId) (hop:o.op=Op.insert t m x v)
    (k e:TypeId) (K:Keyed P k) (ht:P.underlying t=some (.map k e)) (R:Value→Option (DataW H × List MemPlace)) (b n:Nat) (D:DataW H)
    (hm:a.eval m= .map (some b)) (hown:w.ownsMap P k R b n D) (hn:n<maxLen) (key val:Value) (kl:Lit) (hx:a.eval x=key) (hv:a.eval v=val) (hkey:keyOf P k key=some kl)
    (d:DataW H) (ps:List MemPlace) (hval:R val=some (d,ps))
    (hK:∀w',w'.ownsMap P k R b (n+1) (D.put kl d)→w.grownBy w' (some b)→wpList P ops Q rest (a.put o.dst undef) w') :
    wpList P ops Q (o::rest) a w:=by
 refine wpList_plain hg fun K' hK'=> ?_
 obtain⟨w',hrun,r1,r2⟩:=hown.update K ht hn hkey hval;unfold Oper.wp;simp[execOp,hop,hm,hx,hv,hrun,Result.andThen];exact hK' _ _ (hK w' r1 r2)
theorem zc9:Keyed prog 3:=fG underlying3
theorem zaw(k:Int)(h:(Lit.int .i64 k).wf=true):keyOf prog 3 (.int .i64 k)=some (.int .i64 k):=Go.Maps.keyOf_int_mk underlying3 h
def formsT0:DataW Unit:= .map []
def formsT1:DataW Unit:=formsT0.put (.int .i64 1) (.agg [.lit (.string (zo 1)),.lit (.bool true),.lit (.bool false),.lit (.bool true)])
def formsT2:DataW Unit:=formsT1.put (.int .i64 2) (.agg [.lit (.string (zo 2)),.lit (.bool true),.lit (.bool false),.lit (.bool false)])
def formsT3:DataW Unit:=formsT2.put (.int .i64 3) (.agg [.lit (.string (zo 3)),.lit (.bool true),.lit (.bool false),.lit (.bool false)])
def formsT4:DataW Unit:=formsT3.put (.int .i64 4) (.agg [.lit (.string (zo 4)),.lit (.bool true),.lit (.bool false),.lit (.bool true)])
def formsT5:DataW Unit:=formsT4.put (.int .i64 5) (.agg [.lit (.string (zo 5)),.lit (.bool true),.lit (.bool true),.lit (.bool true)])
def formsT6:DataW Unit:=formsT5.put (.int .i64 6) (.agg [.lit (.string (zo 6)),.lit (.bool false),.lit (.bool false),.lit (.bool false)])
theorem formsTo_all:formsT6=za4:=by rfl
theorem zfm(w:World):Calls prog 137 #[] w fun e w'=>∃b,e= .returned (.map (some b))∧w'.ownsMap prog 3 zbj b 6 za4∧Below w.heap.size w w'∧w.heap.size≤b:=by
 have hmm:= @run_makeMap prog;have own0:=World.ownsMap_made (H:=Unit) w prog 3 zbj;have g0:w.grownBy (w.alloc (.map #[] 0)) (some w.heap.size):=World.grownBy_alloc w _ _;go_in;go_wp2_with (refine Zg _ rfl _ _ _ 182 rfl 3 185 zc9 underlying182 zbj w.heap.size 0 formsT0 rfl own0 jf _ (frmV ⟨#[112,117,116]⟩ true false true) (.int .i64 1) rfl rfl (zaw 1 jf) (.agg [.lit (.string (zo 1)),.lit (.bool true),.lit (.bool false),.lit (.bool true)]) [] rfl ?_);intro w1 own1 g1';have g1:=g0.trans g1';clear own0 g0 g1';go_wp2_with (refine Zg _ rfl _ _ _ 182 rfl 3 185 zc9 underlying182 zbj w.heap.size 1 formsT1 rfl own1 jf _ (frmV ⟨#[103,101,116]⟩ true false false) (.int .i64 2) rfl rfl (zaw 2 jf) (.agg [.lit (.string (zo 2)),.lit (.bool true),.lit (.bool false),.lit (.bool false)]) [] rfl ?_);intro w2 own2 g2';have g2:=g1.trans g2';clear own1 g1 g2';go_wp2_with (refine Zg _ rfl _ _ _ 182 rfl 3 185 zc9 underlying182 zbj w.heap.size 2 formsT2 rfl own2 jf _ (frmV ⟨#[100,101,108,101,116,101]⟩ true false false) (.int .i64 3) rfl rfl (zaw 3 jf) (.agg [.lit (.string (zo 3)),.lit (.bool true),.lit (.bool false),.lit (.bool false)]) [] rfl ?_);intro w3 own3 g3';have g3:=g2.trans g3';clear own2 g2 g3';go_wp2_with (refine Zg _ rfl _ _ _ 182 rfl 3 185 zc9 underlying182 zbj w.heap.size 3 formsT3 rfl own3 jf _ (frmV ⟨#[97,112,112,101,110,100]⟩ true false true) (.int .i64 4) rfl rfl (zaw 4 jf) (.agg [.lit (.string (zo 4)),.lit (.bool true),.lit (.bool false),.lit (.bool true)]) [] rfl ?_);intro w4 own4 g4';have g4:=g3.trans g4';clear own3 g3 g4';go_wp2_with (refine Zg _ rfl _ _ _ 182 rfl 3 185 zc9 underlying182 zbj w.heap.size 4 formsT4 rfl own4 jf _ (frmV ⟨#[99,97,115]⟩ true true true) (.int .i64 5) rfl rfl (zaw 5 jf) (.agg [.lit (.string (zo 5)),.lit (.bool true),.lit (.bool true),.lit (.bool true)]) [] rfl ?_);intro w5 own5 g5';have g5:=g4.trans g5';clear own4 g4 g5';go_wp2_with (refine Zg _ rfl _ _ _ 182 rfl 3 185 zc9 underlying182 zbj w.heap.size 5 formsT5 rfl own5 jf _ (frmV ⟨#[99,111,117,110,116]⟩ false false false) (.int .i64 6) rfl rfl (zaw 6 jf) (.agg [.lit (.string (zo 6)),.lit (.bool false),.lit (.bool false),.lit (.bool false)]) [] rfl ?_);intro w6 own6 g6';have g6:=g5.trans g6';clear own5 g5 g6';go_wp2_with fail;go_ret;refine⟨_,rfl,by rw[←formsTo_all];exact own6,below_grown (ae _ _) (ag _) g6 (fun g hg=>by simp only[ax]at hg;omega),ag _⟩
structure RestAt (w:World) (g b:Nat) (r:List (List UInt8)):Prop where
 lt:g<w.heap.size
 low:b<w.heap.size
 ne:b≠g
 free:w.frozen? ⟨g,0,none⟩=false
 cell:∃o c,w.cell? ⟨g,0,none⟩=some (.slice (some ⟨b,o,none⟩) r.length c)∧r.length≤c∧c≤9223372036854775807∧∀j u,(strC r)[j]? =some u→w.cell? ⟨b,o+j,none⟩=some u
theorem RestAt.below{r:List (List UInt8)}(h:RestAt w g b r)(hb:Below w.heap.size w w'):RestAt w' g b r where
 lt:=aN h.lt hb.size
 low:=aN h.low hb.size
 ne:=h.ne
 free:=(hb.frozen (p:=⟨g,0,none⟩) h.lt).trans h.free
 cell:=by
  obtain⟨o,c,h1,h2,h3,h4⟩:=h.cell;exact⟨o,c,(hb.cell (p:=⟨g,0,none⟩) h.lt).trans h1,h2,h3,fun j u hu=>(hb.cell (p:=⟨b,o+j,none⟩) h.low).trans (h4 j u hu)⟩
theorem RestAt.grown{q:Nat}{r:List (List UInt8)}(h:RestAt w g b r)(hg:w.grownBy w' (some q))(h1:g≠q)(h2:b≠q):RestAt w' g b r where
 lt:=aN h.lt hg.size
 low:=aN h.low hg.size
 ne:=h.ne
 free:=(hg.frozen_far ⟨g,0,none⟩ h.lt (by simpa using h1)).trans h.free
 cell:=by
  obtain⟨o,c,q1,q2,q3,q4⟩:=h.cell;exact⟨o,c,(hg.cell_far ⟨g,0,none⟩ h.lt (by simpa using h1)).trans q1,q2,q3,fun j u hu=>(hg.cell_far ⟨b,o+j,none⟩ h.low (by simpa using h2)).trans (q4 j u hu)⟩
theorem slice_rest{off c:Nat}(hn:0<n)(hc:n≤c)(_hcm:c≤9223372036854775807):∃o2,∀W:World,(Instr.slice 32 (.slice (some ⟨b,off,none⟩) n c) (some (.int .i64 1)) none none).run prog W= .ok (.slice (some ⟨b,o2,none⟩) (n- 1) (c- 1)) W∧(1<n→o2=off+1):=by
 have ht:prog.underlying 32=some (.slice (prog.elem 32)):=by kernel_rfl
 have he:prog.elem 32=9:=by kernel_rfl
 refine⟨if c=1 then off else off+1,fun W=>⟨?_,fun h=>aa ja⟩⟩;rw[run_slice_l _ _ _ _ _ ht .i64 1 ja ja,he,sizeOf9];simp only[Result.andThen,sliced];by_cases h:c=1
 · simp[h]
 · simp only[h,bU,Option.map,add_plain'];simp;first|done|omega
def RetTake(t:Bool)(r:List (List UInt8))(g b:Nat)(w:World)(e:Ending)(w':World):Prop:=e= .returned (.string ⟨(YA t r).toArray⟩)∧RestAt w' g b (yH t r)∧w.grownBy w' (some g)∧w'.heap.size=w.heap.size
theorem zc1(t:Bool)(r:List (List UInt8))(g b:Nat)(w:World)(h:RestAt w g b r):Calls prog 138 #[t,.pointer (some ⟨g,0,none⟩)] w (RetTake t r g b w):=by
 have H:=hD h;have HG:Hid (w.grownBy w (some g)):=hD (Zm (ae _ _) _);obtain⟨o,c,h1,h2,h3,h4⟩:=h.cell;cases t with
 |false=>exact fo199
 |true=>
  cases r with
  |nil=>exact fo199
  |cons x rt=>
   have hf:=h.free;have hlt:=h.lt;have c0:=h4 0 _ rfl;rw[dU]at c0;have hne:(((x::rt).length:Int) == 0)=false:=by rw[aF];simp only[au];omega
   have hpos:(0:Int) <(((x::rt).length:Nat):Int):=by simp only[au];omega
   by_cases hc1:c=1
   · subst hc1;obtain rfl:rt=[]:=cK (by simp only[au]at h2;omega);have HN:Hid (RestAt (w.setCell ⟨g,0,none⟩ (.slice (some ⟨b,o,none⟩) 0 0)) g b []):=hD ⟨by simpa using h.lt,by simpa using h.low,h.ne,by simpa using h.free,o,0,by
      rw[dx _ _ _ h1];simp,by simp,by omega,fun j u hu=>by simp[strC]at hu⟩
     have HGr:=hD (ze w ⟨g,0,none⟩ (.slice (some ⟨b,o,none⟩) 0 0));exact fo185
   · have HN:Hid (RestAt (w.setCell ⟨g,0,none⟩ (.slice (some ⟨b,o+1,none⟩) rt.length (c- 1))) g b rt):=hD ⟨by simpa using h.lt,by simpa using h.low,h.ne,by simpa using h.free,o+1,c- 1,by
       rw[dx _ _ _ h1],by simp only[au]at h2;omega,by omega,fun j u hu=>by
        rw[bv _ _ _ _ (fun e=>h.ne (by injection e with e1;exact e1.symm)),bZ,dS 1 j];exact h4 (j+1) u hu⟩
     have HGr:=hD (ze w ⟨g,0,none⟩ (.slice (some ⟨b,o+1,none⟩) rt.length (c- 1)));exact fo185
