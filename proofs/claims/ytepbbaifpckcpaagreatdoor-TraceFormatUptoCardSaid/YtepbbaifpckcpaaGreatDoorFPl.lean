/- Short forms of the steps of a region that draws its order. -/
import Derived.Deep.RegionHeld
import Derived.Tactics
import Derived.Lib.Hide
import Derived.Below
import Derived.Lib.Strings
import Derived.Lib.UnsafeStr
import Derived.Deep.Draws
import Derived.OwnWalk
import Derived.Deep.MidRow
import Derived.Lib.Join
import Derived.Lib.SplitLaws
import Derived.Test.YtepbbaifpckcpaaGreatDoorFFo
namespace Go.Proofs.YtepbbaifpckcpaaGreatDoor
open Go.RowKit
section
variable {P : Program} {md : Region.Mode} {ops : Array Oper} {Q : Exit → Act → World → Prop} {S : World → Prop} {oi : Oper} {v : Value} {fuel : Nat} {listed : Array Bool} {a : Act} {w : World}
theorem tkq (i:Nat) (hi:ops[i]? =some oi) (hy:YieldsIf P ops S oi v a) (hS:S w) (h:wpAnyH P md ops Q S fuel (listed.setIfInBounds i true) (a.put oi.dst v) w)
    (hs:Region.noSelect ops=true:=by kernel_rfl) (hf:Region.free md ops listed i=true:=by kernel_rfl) (hr:(Region.ready md ops listed).contains i=true:=by kernel_rfl)
    (hQ:∀c a w,Q (.panic c) (a.put oi.dst v) w→Q (.panic c) a w:=by exact fun _ _ _ h=>h):wpAnyH P md ops Q S (fuel+1) listed a w:=wpAnyH_take hi hs hf hr hQ hy hS h
theorem tkr (i:Nat) {o:Oper} (ho:ops[i]? =some o)
    (h:∀K':Act→World→Prop,Shut (∀a w,S w→(S w→wpAnyH P md ops Q S fuel (listed.setIfInBounds i true) a w)→K' a w)→if Region.wanted o (yielded ops a.tmps)=true then Oper.wp P o a w K' Q else K' (a.put o.dst undef) w)
    (hr:Region.ready md ops listed= [i]:=by kernel_rfl):wpAnyH P md ops Q S (fuel+1) listed a w:=wpAnyH_ready hr (by simp) (AllReadyH.cons ho h AllReadyH.nil)
end
theorem hD {p:Prop} (h:p):Hid p:=Lib.hid h
theorem qk1 {α:Type} {l:List α} {i:Nat} {a:α}:l.toArray.setIfInBounds i a=(l.set i a).toArray:=List.setIfInBounds_toArray _ _ _
theorem qk2 {α:Type} {a b:α} {l:List α}:(a::l).set 0 b=b::l:=List.set_cons_zero
theorem qk3 {α:Type} {a b:α} {l:List α} {n:Nat}:(a::l).set (n+1) b=a::l.set n b:=List.set_cons_succ
theorem qk4 {α:Type} {l:List α} {i:Nat} (h:i<l.toArray.size):l.toArray[i]=l[i]'(by simpa using h):=List.getElem_toArray h
theorem qk5 {α:Type} {a:α} {l:List α} {i:Nat} (h:i+1<(a::l).length):(a::l)[i+1]=l[i]'(Nat.lt_of_succ_lt_succ h):=List.getElem_cons_succ ..
theorem qk6 {α:Type} {a:α} {l:List α} (h:0<(a::l).length):(a::l)[0]=a:=rfl
theorem qd1 {α:Type} {a:α} {l:List α} {i:Nat}:(a::l).drop (i+1)=l.drop i:=List.drop_succ_cons
theorem qd2 {α:Type} {l:List α}:l.drop 0=l:=List.drop_zero
theorem qd3 {α:Type} {a:α} {l:List α} {i:Nat}:(a::l).take (i+1)=a::l.take i:=List.take_succ_cons
theorem qd4 {α:Type} {l:List α}:l.take 0= []:=List.take_zero
theorem qd5 {α:Type} {a:α} {l:List α} {i:Nat}:(a::l)[i+1]? =l[i]?:=List.getElem?_cons_succ
theorem qd6 {α:Type} {a:α} {l:List α}:(a::l)[0]? =some a:=List.getElem?_cons_zero
theorem qk:(∀{α:Type} {l:List α} {i:Nat} {a:α},l.toArray.setIfInBounds i a=(l.set i a).toArray)∧(∀{α:Type} {a b:α} {l:List α},(a::l).set 0 b=b::l)∧(∀{α:Type} {a b:α} {l:List α} {n:Nat},(a::l).set (n+1) b=a::l.set n b)∧
    (∀{α:Type} {l:List α} {i:Nat} (h:i<l.toArray.size),l.toArray[i]=l[i]'(by simpa using h))∧(∀{α:Type} {a:α} {l:List α} {i:Nat} (h:i+1<(a::l).length),(a::l)[i+1]=l[i]'(Nat.lt_of_succ_lt_succ h))∧(∀{α:Type} {a:α} {l:List α} (h:0<(a::l).length),(a::l)[0]=a):=
 ⟨List.setIfInBounds_toArray _ _ _,List.set_cons_zero,List.set_cons_succ,List.getElem_toArray,fun _=>List.getElem_cons_succ ..,fun _=>rfl⟩
/-- Operations taken first, one after the other. -/
def Takes (P:Program) (ops:Array Oper) (S:World→Prop):List Nat→Act→Act→Prop
 | [],a,b=>a=b
 |i::is,a,b=>∃oi v,ops[i]? =some oi∧YieldsIf P ops S oi v a∧Takes P ops S is (a.put oi.dst v) b
def tkOk (md:Region.Mode) (ops:Array Oper):List Nat→Array Bool→Nat→Bool
 | [],_,_=>true
 |_::_,_,0=>false
 |i::is,l,n+1=>Region.free md ops l i &&(Region.ready md ops l).contains i && tkOk md ops is (l.setIfInBounds i true) n
def tkL:List Nat→Array Bool→Array Bool
 | [],l=>l
 |i::is,l=>tkL is (l.setIfInBounds i true)
section
variable {P : Program} {md : Region.Mode} {ops : Array Oper} {Q : Exit → Act → World → Prop} {S : World → Prop} {oi : Oper} {v : Value} {is : List Nat} {i : Nat} {a b : Act} {w : World}
theorem tkn:Takes P ops S [] a a:=rfl
theorem tkl (hi:ops[i]? =some oi) (hw:Region.wanted oi (yielded ops a.tmps)=true) (hv:∀W,S W→(execOp a.eval oi).run P W= .ok (.value v) W) (h:Takes P ops S is (a.put oi.dst v) b):Takes P ops S (i::is) a b:=
 ⟨oi,v,hi, .inl ⟨hw,hv⟩,h⟩
theorem tks (hi:ops[i]? =some oi) (hw:Region.wanted oi (yielded ops a.tmps)=false) (h:Takes P ops S is (a.put oi.dst undef) b):Takes P ops S (i::is) a b:=
 ⟨oi,undef,hi, .inr ⟨hw,rfl⟩,h⟩
theorem takes_go (hs:Region.noSelect ops=true) (hQ:∀c a t v w,Q (.panic c) (a.put t v) w→Q (.panic c) a w) (hS:S w) :
    ∀(is:List Nat) (fuel:Nat) (listed:Array Bool) (a b:Act),tkOk md ops is listed fuel=true→Takes P ops S is a b→wpAnyH P md ops Q S (fuel- is.length) (tkL is listed) b w→wpAnyH P md ops Q S fuel listed a w
 | [],_,_,_,_,_,ht,h=>by cases ht;exact h
 |_::_,0,_,_,_,hc,_,_=>by cases hc
 |i::is,n+1,l,a,b,hc,⟨oi,v,hi,hy,ht⟩,h=>by
  simp only [tkOk,Bool.and_eq_true] at hc
  exact wpAnyH_take hi hs hc.1.1 hc.1.2 (fun c a w=>hQ c a oi.dst v w) hy hS (takes_go hs hQ hS is n _ _ b hc.2 ht (by simpa [tkL] using h))
/-- The operations IS are taken first: loads and moves that the condition S decides, or that are skipped. -/
theorem takes (is:List Nat) {fuel:Nat} {listed:Array Bool} (h:wpAnyH P md ops Q S (fuel- is.length) (tkL is listed) b w)
    (ht:Takes P ops S is a b:=by
     repeat (first
      |exact tkn
      | (apply tkl
         exact rfl
         exact rfl
         (intro W h;(try dsimp only at h);go_simp;(try with_reducible rfl))
         try simp only [Act.put,qk])
      | (apply tks
         exact rfl
         exact rfl
         try simp only [Act.put,qk])))
    (hS:S w:=by assumption) (hc:tkOk md ops is listed fuel=true:=by kernel_rfl) (hs:Region.noSelect ops=true:=by kernel_rfl)
    (hQ:∀c a t v w,Q (.panic c) (a.put t v) w→Q (.panic c) a w:=by(intro c a t v w h;cases t <;> exact h)):wpAnyH P md ops Q S fuel listed a w:=takes_go hs hQ hS is fuel listed a b hc ht h
end
open Go.RowKit
theorem YN {a b:Bool} (h:a=b):Ending.returned (.bool a)= .returned (.bool b):=by rw [h]
theorem zez {k:IntKind} {a b:Int} (h:a=b):Ending.returned (.int k a)= .returned (.int k b):=by rw [h]
theorem ret_str {a b:List UInt8} (h:a=b):Ending.returned (.string ⟨a.toArray⟩)= .returned (.string ⟨b.toArray⟩):=by rw [h]
theorem Y5 {P:Program} {f:FuncId} {args:Array Value} {w:World} {x:Ending} (h:Calls P f args w fun e w'=>e=x∧w'=w):Calls P f args w fun e w'=>e=x∧w=w':=
 h.mono fun _ _ ⟨a,b⟩=>⟨a,b.symm⟩
theorem yu (t:ByteArray):t.data.toList.length=t.size:=by simp
theorem zbL (a b:List UInt8):ByteArray.mk a.toArray++ByteArray.mk b.toArray=ByteArray.mk (a++b).toArray:=by
 apply ByteArray.ext;simp
theorem YF (l:List UInt8) (b:ByteArray):ByteArray.mk l.toArray++b=ByteArray.mk (l++b.data.toList).toArray:=by
 apply ByteArray.ext;simp
theorem zad (b:ByteArray):ByteArray.mk b.data.toList.toArray=b:=by
 apply ByteArray.ext;simp
theorem size_mk (l:List UInt8):(ByteArray.mk l.toArray).size=l.length:=by simp [ByteArray.size]
theorem Zz (c:UInt8):c.toNat<256:=c.toNat_lt
theorem drop_at (s:ByteArray) (i:Nat) (h:i<s.size):s.data.toList.drop i=s[i]::s.data.toList.drop (i+1):=by
 have h':i<s.data.toList.length:=by simpa using h
 exact List.drop_eq_getElem_cons h'
theorem ext_mid (s:ByteArray) (a b:Nat):s.extract a b=⟨((s.data.toList.drop a).take (b- a)).toArray⟩:=by
 apply ByteArray.ext;apply Array.toList_inj.1;rw [Lib.extract_data]
theorem byteCells_snoc (l:List UInt8) (c:Int) (h0:0≤c) (h1:c<256):Lib.byteCells l++ [.int .u8 c]=Lib.byteCells (l++ [c.toNat.toUInt8]):=by
 obtain⟨n,rfl⟩:=Int.eq_ofNat_of_zero_le h0;have:n % 256=n:=Nat.mod_eq_of_lt ja;simp [Lib.byteCells,this]
structure Rd (w:World) (k:Nat) (A:Option Addr) (n:Nat) (xs:List Value):Prop where
 len:xs.length=n * k
 cells:0<xs.length→∃b o,A=some ⟨b,o,none⟩∧b<w.heap.size∧∀j u,xs[j]? =some u→w.cell? ⟨b,o+j,none⟩=some u
theorem Rd.below {w w':World} {k n:Nat} {A:Option Addr} {xs:List Value} (h:Rd w k A n xs) (hb:Below w.heap.size w w'):Rd w' k A n xs:=
 ⟨h.len,fun hj=>by
  obtain⟨b,o,e,hl,hc⟩:=h.cells hj
  exact⟨b,o,e,Nat.lt_of_lt_of_le hl hb.size,fun j u hu=>(hb.cell (p:=⟨b,o+j,none⟩) hl).trans (hc j u hu)⟩⟩
theorem zam (g j:Nat):(⟨g,0,none⟩:Addr).add j=⟨g,0+j,none⟩:=by unfold Addr.add;split <;> simp_all
theorem add_plain' (b o j:Nat):(⟨b,o,none⟩:Addr).add j=⟨b,o+j,none⟩:=by unfold Addr.add;split <;> simp_all
theorem Rd.own {w:World} {base e k n:Nat} {A:Option Addr} {c:Nat} {xs:List Value} (h:w.ownsRow base e k (.slice A n c) n xs):Rd w k A n xs:=fo84
theorem Rd.nil (w:World) (k:Nat) (A:Option Addr):Rd w k A 0 []:=⟨by simp,fun hj=>by simp at hj⟩
theorem ownsRow_form {w:World} {base e k n:Nat} {v:Value} {xs:List Value} (h:w.ownsRow base e k v n xs):∃A c,v= .slice A n c:=fo147
theorem ownsRow_below {w w':World} {base e k n:Nat} {v:Value} {xs:List Value} (h:w.ownsRow base e k v n xs) (hb:Below w.heap.size w w'):w'.ownsRow base e k v n xs:=fo103
theorem below_grown {B:Nat} {a w w':World} {row:Option Nat} (h:Below B a w) (hB:B≤w.heap.size) (hg:w.grownBy w' row) (hr:∀g,row=some g→B≤g):Below B a w':=
 h.trans ⟨hg.os,hg.tape,hg.output,hg.size,fun k hk=>hg.block k ja (fun e=>by have:=hr k e.symm;omega)⟩
theorem bdN {B:Nat} {a w:World} (h:Below B a w) (n:Nat):Below B a (w.drewN n):=h.trans ⟨rfl,rfl,rfl,Nat.le_refl _,fun _ _=>rfl⟩
theorem za (w:World) (o:Obj):Below w.heap.size w (w.alloc o):=(Below.refl _ _).alloc (Nat.le_refl _) _
theorem bon {w w1 w2:World} (h:Below w.heap.size w w1) (k:Below w1.heap.size w1 w2):Below w.heap.size w w2:=h.trans (k.mono h.size)
theorem z8 (W:World) (cs:List Value) (T:TypeId) (b:Nat) (hb:b=W.heap.size):∀j u,cs[j]? =some u→(W.alloc (.cells cs.toArray T)).cell? ((⟨b,0,none⟩:Addr).add j)=some u:=fo78
theorem zcD (w:World) (k n:Nat) (cs:List Value) (T:TypeId) (h:cs.length=n * k):Rd (w.alloc (.cells cs.toArray T)) k (some ⟨w.heap.size,0,none⟩) n cs:=
 ⟨h,fun _=>⟨w.heap.size,0,rfl,by simp,fun j u hu=>by rw [←zam];exact z8 w cs T _ rfl j u hu⟩⟩
def strC (l:List (List UInt8)):List Value:=l.map fun x=> .string ⟨x.toArray⟩
theorem Y1 (l:List (List UInt8)) (x:List UInt8):strC (l++ [x])=strC l++ [.string ⟨x.toArray⟩]:=by simp [strC]
theorem zaV (l:List (List UInt8)):(strC l).length=l.length:=by simp [strC]
def intC (l:List Int):List Value:=l.map fun x=> .int .i64 x
theorem intC_len (l:List Int):(intC l).length=l.length:=by simp [intC]
theorem flat_get {α:Type} (C:α→List Value) (m:Nat) (hC:∀x,(C x).length=m) (l:List α) (k:Nat) (hk:k<l.length) (j:Nat) (hj:j<m):(l.flatMap C)[k * m+j]? =(C l[k])[j]?:=by
 induction l generalizing k with
 |nil=>simp at hk
 |cons x r ih=>
  cases k with
  |zero=>simp only [List.flatMap_cons,Nat.zero_mul,Nat.zero_add,List.getElem_cons_zero];rw [List.getElem?_append_left (by rw [hC];exact hj)]
  |succ k=>
   have:=ih k jce;simp only [List.flatMap_cons,List.getElem_cons_succ];rw [List.getElem?_append_right (by rw [hC,Nat.succ_mul];omega),hC,show(k+1) * m+j- m=k * m+j from by rw [Nat.succ_mul];omega,this]
theorem ZY {α:Type} (C:α→List Value) (m:Nat) (hC:∀x,(C x).length=m) (l:List α):(l.flatMap C).length=l.length * m:=by
 induction l with
 |nil=>simp
 |cons x r ih=>simp only [List.flatMap_cons,List.length_append,List.length_cons] at ih⊢;rw [ih,hC,Nat.succ_mul];omega
theorem Rd.at {α:Type} {w:World} {m:Nat} {A:Option Addr} {l:List α} {C:α→List Value} (h:Rd w m A l.length (l.flatMap C)) (hC:∀x,(C x).length=m) (hm:0<m) {k:Nat} (hk:k<l.length) :
    ∃b o,A=some ⟨b,o,none⟩∧b<w.heap.size∧∀w',Below w.heap.size w w'→∀j v,(C l[k])[j]? =some v→w'.cell? ⟨b,o+k * m+j,none⟩=some v:=by
 have hp:0<l.length * m:=Nat.mul_pos ja hm;obtain⟨b,o,rfl,hb,hc⟩:=h.cells (by rw [ZY C m hC];exact hp);refine⟨b,o,rfl,hb,fun w' hw j v hv=> ?_⟩;rw [hw.cell (p:=⟨b,o+k * m+j,none⟩) hb];exact fo113
def za7 (l:List (List UInt8)) (w:World) (e:Ending) (w':World):Prop:=
 ∃A c,e= .returned (.slice A l.length c)∧Rd w' 1 A l.length (strC l)∧Below w.heap.size w w'
theorem ret_strs {l:List (List UInt8)} {w w':World} {n:Nat} (A:Option Addr) (c:Nat) (xs:List (List UInt8)) (h:l=xs) (hn:n=xs.length) (hr:Rd w' 1 A n (strC xs)) (hb:Below w.heap.size w w') :
    za7 l w (.returned (.slice A n c)) w':=by
 subst h hn;exact⟨A,c,rfl,hr,hb⟩
def zi (l:List UInt8) (w:World) (e:Ending) (w':World):Prop:=e= .returned (.string ⟨l.toArray⟩)∧Below w.heap.size w w'
theorem ZJ {l l':List UInt8} {w w':World} (h:l=l') (hb:Below w.heap.size w w'):zi l w (.returned (.string ⟨l'.toArray⟩)) w':=⟨by rw [h],hb⟩
def varint (n:Nat):List UInt8:=if n<128 then [n.toUInt8] else(128+n % 128).toUInt8::varint (n / 128)
termination_by n
decreasing_by omega
theorem Zh (n:Nat) (h:n<128):varint n= [n.toUInt8]:=by rw [varint,if_pos h]
theorem zax (n:Nat) (h:¬n<128):varint n=(128+n % 128).toUInt8::varint (n / 128):=by rw [varint,if_neg h]
theorem ZT:∀(k n:Nat),n<128 ^(k+1)→(varint n).length≤k+1
 |0,n,h=>by rw [Zh n jac];simp
 |k+1,n,h=>by
  by_cases hn:n<128
  · rw [Zh n hn];simp
  · rw [zax n hn]
    have:=ZT k (n / 128) jcw
    simp only [List.length_cons]
    omega
theorem yK (n:Nat) (h:n<18446744073709551616):(varint n).length≤10:=ZT 9 n ja
theorem zfE (n:Nat):1≤(varint n).length:=by
 by_cases h:n<128
 · rw [Zh n h];simp
 · rw [zax n h];simp
def zig (n:Int):Nat:=if 0≤n then(2 * n).toNat else(-2 * n- 1).toNat
theorem zig_lt (n:Int) (h0:-9223372036854775808≤n) (h1:n≤9223372036854775807):zig n<18446744073709551616:=by
 unfold zig;split <;> omega
def I64 (n:Int):Prop:=-9223372036854775808≤n∧n≤9223372036854775807
def zk (s:List UInt8):List UInt8:=varint s.length++s
def zg (l:List (List UInt8)):List UInt8:=varint l.length++l.flatMap zk
def zo (l:List Int):List UInt8:=varint l.length++l.flatMap fun n=>varint (zig n)
def tot (ls:List (List UInt8)):Nat:=(ls.map List.length).sum
theorem ZX (x:List UInt8) (r:List (List UInt8)):tot (x::r)=x.length+tot r:=by simp [tot]
theorem tot_snoc (ls:List (List UInt8)) (x:List UInt8):tot (ls++ [x])=tot ls+x.length:=by simp [tot]
theorem zcK (ls:List (List UInt8)) (k:Nat):tot (ls.take k)≤tot ls:=by
 induction ls generalizing k with
 |nil=>simp
 |cons x r ih=>
  cases k with
  |zero=>simp [tot]
  |succ k=>have:=ih k;rw [List.take_succ_cons,ZX,ZX];omega
theorem tot_get (ls:List (List UInt8)) (k:Nat) (h:k<ls.length):ls[k].length≤tot ls:=by
 have:=zcK ls (k+1);rw [List.take_succ_eq_append_getElem h,tot_snoc] at this;omega
theorem zG (s:List UInt8) (h:s.length<18446744073709551616):(zk s).length≤10+s.length:=by
 have:=yK s.length h;simp only [zk,List.length_append];omega
theorem strs_len (l:List (List UInt8)) (h:tot l<18446744073709551616):(l.flatMap zk).length≤10 * l.length+tot l:=by
 induction l with
 |nil=>simp
 |cons x r ih=>
  rw [ZX] at h⊢;have h1:=zG x ja;have h2:=ih ja;simp only [List.flatMap_cons,List.length_append,List.length_cons] at h2⊢;omega
theorem zbZ (l:List (List UInt8)) (h:tot l<18446744073709551616) (h2:l.length<18446744073709551616):(zg l).length≤10+10 * l.length+tot l:=by
 have h1:=strs_len l h;have h3:=yK l.length h2;simp only [zg,List.length_append];omega
theorem ints_len (l:List Int) (h:∀n∈l,I64 n):(l.flatMap fun n=>varint (zig n)).length≤10 * l.length:=by
 induction l with
 |nil=>simp
 |cons x r ih=>
  have h1:=yK (zig x) (zig_lt x (h x jd).1 (h x jd).2);have h2:=ih (fun n hn=>h n (by simp [hn]));simp only [List.flatMap_cons,List.length_append,List.length_cons] at h2⊢;omega
theorem yg (l:List Int) (h:∀n∈l,I64 n) (h2:l.length<18446744073709551616):(zo l).length≤10+10 * l.length:=by
 have h1:=ints_len l h;have h3:=yK l.length h2;simp only [zo,List.length_append];omega
open Go.RowKit
structure Sl (α:Type) where
 a:Option Addr
 c:Nat
 l:List α
def Sl.v {α:Type} (s:Sl α):Value:= .slice s.a s.l.length s.c
def Sl.nil {α:Type}:Sl α:=⟨none,0, []⟩
structure Sg where
 (server kind view slot:Int) (digest sig:List UInt8)
 deriving DecidableEq
structure St where
 (server view length lockView:Int) (lock:List UInt8) (cert:Sl Sg) (signed:Sg)
structure De where
 (view:Int) (value:List UInt8) (cert:Sl Sg)
structure Ho where
 (slot:Int) (entry:De)
structure Sn where
 (slot:Int) (root:List UInt8) (chunks:Sl (List UInt8)) (proof:Sl Sg) (chain:Sl Ho)
structure Ms where
 (kind src dst view slot:Int) (value:List UInt8) (till:Int) (signed:Sg) (statuses:Sl St) (entries:Sl De) (snapshot:Sn) (texts:Sl (List UInt8))
/-! the encodings -/
def zdo (x:Sg):List UInt8:=zo [x.server,x.kind,x.view,x.slot]++zk x.digest
def zM (x:Sg):List UInt8:=zdo x++zk x.sig
def Zo (s:St):List UInt8:=zo [s.server,s.view,s.length,s.lockView]++zk s.lock++zg (s.cert.l.map zM)++zk (zM s.signed)
def yQ (d:De):List UInt8:=zo [d.view]++zk d.value++zg (d.cert.l.map zM)
def ZF (h:Ho):List UInt8:=zo [h.slot]++yQ h.entry
def Y9 (x:Sn):List UInt8:=zo [x.slot]++zk x.root++zg x.chunks.l++zg (x.proof.l.map zM)++zg (x.chain.l.map ZF)
def yO (m:Ms):List UInt8:=zo [m.kind,m.src,m.dst,m.view,m.slot,m.till]++zk m.value++zk (zM m.signed)++zg (m.statuses.l.map Zo)++zg (m.entries.l.map yQ)++zk (Y9 m.snapshot)++zg m.texts.l
/-! the cells -/
def sgC (x:Sg):List Value:= [.int .i64 x.server, .int .i64 x.kind, .int .i64 x.view, .int .i64 x.slot, .string ⟨x.digest.toArray⟩, .string ⟨x.sig.toArray⟩]
def stC (s:St):List Value:= [.int .i64 s.server, .int .i64 s.view, .int .i64 s.length, .int .i64 s.lockView, .string ⟨s.lock.toArray⟩,s.cert.v,
 .int .i64 s.signed.server, .int .i64 s.signed.kind, .int .i64 s.signed.view, .int .i64 s.signed.slot, .string ⟨s.signed.digest.toArray⟩, .string ⟨s.signed.sig.toArray⟩]
def deC (d:De):List Value:= [.int .i64 d.view, .string ⟨d.value.toArray⟩,d.cert.v]
def hoC (h:Ho):List Value:= [.int .i64 h.slot, .int .i64 h.entry.view, .string ⟨h.entry.value.toArray⟩,h.entry.cert.v]
def snC (x:Sn):List Value:= [.int .i64 x.slot, .string ⟨x.root.toArray⟩,x.chunks.v,x.proof.v,x.chain.v]
def msC (m:Ms):List Value:= [.int .i64 m.kind, .int .i64 m.src, .int .i64 m.dst, .int .i64 m.view, .int .i64 m.slot, .string ⟨m.value.toArray⟩, .int .i64 m.till,
 .int .i64 m.signed.server, .int .i64 m.signed.kind, .int .i64 m.signed.view, .int .i64 m.signed.slot, .string ⟨m.signed.digest.toArray⟩, .string ⟨m.signed.sig.toArray⟩,
 m.statuses.v,m.entries.v, .int .i64 m.snapshot.slot, .string ⟨m.snapshot.root.toArray⟩,m.snapshot.chunks.v,m.snapshot.proof.v,m.snapshot.chain.v,m.texts.v]
def strV (x:List UInt8):List Value:= [.string ⟨x.toArray⟩]
/-! what stands in memory, and the ranges -/
def Sl.rd {α:Type} (k:Nat) (C:α→List Value) (s:Sl α) (w:World):Prop:=Rd w k s.a s.l.length (s.l.flatMap C)
def Sg.ok (x:Sg):Prop:=I64 x.server∧I64 x.kind∧I64 x.view∧I64 x.slot
def St.ok (s:St) (w:World):Prop:=(I64 s.server∧I64 s.view∧I64 s.length∧I64 s.lockView)∧s.cert.rd 6 sgC w∧(∀x∈s.cert.l,x.ok)∧s.signed.ok
def De.ok (d:De) (w:World):Prop:=I64 d.view∧d.cert.rd 6 sgC w∧∀x∈d.cert.l,x.ok
def Ho.ok (h:Ho) (w:World):Prop:=I64 h.slot∧h.entry.ok w
def Sn.ok (x:Sn) (w:World):Prop:=I64 x.slot∧x.chunks.rd 1 strV w∧(x.proof.rd 6 sgC w∧∀y∈x.proof.l,y.ok)∧x.chain.rd 4 hoC w∧∀h∈x.chain.l,h.ok w
def Ms.ok (m:Ms) (w:World):Prop:=(I64 m.kind∧I64 m.src∧I64 m.dst∧I64 m.view∧I64 m.slot∧I64 m.till)∧m.signed.ok∧(m.statuses.rd 12 stC w∧∀s∈m.statuses.l,s.ok w)∧
 (m.entries.rd 3 deC w∧∀d∈m.entries.l,d.ok w)∧m.snapshot.ok w∧m.texts.rd 1 strV w
theorem Sl.rd_below {α:Type} {k:Nat} {C:α→List Value} {s:Sl α} {w w':World} (h:s.rd k C w) (hb:Below w.heap.size w w'):s.rd k C w':=Rd.below h hb
theorem St.below {s:St} {w w':World} (h:s.ok w) (hb:Below w.heap.size w w'):s.ok w':=⟨h.1,Sl.rd_below h.2.1 hb,h.2.2⟩
theorem De.below {s:De} {w w':World} (h:s.ok w) (hb:Below w.heap.size w w'):s.ok w':=⟨h.1,Sl.rd_below h.2.1 hb,h.2.2⟩
theorem Ho.below {s:Ho} {w w':World} (h:s.ok w) (hb:Below w.heap.size w w'):s.ok w':=⟨h.1,De.below h.2 hb⟩
theorem Sn.below {x:Sn} {w w':World} (h:x.ok w) (hb:Below w.heap.size w w'):x.ok w':=
 ⟨h.1,Sl.rd_below h.2.1 hb,⟨Sl.rd_below h.2.2.1.1 hb,h.2.2.1.2⟩,Sl.rd_below h.2.2.2.1 hb,fun y hy=>Ho.below (h.2.2.2.2 y hy) hb⟩
theorem Ms.below {m:Ms} {w w':World} (h:m.ok w) (hb:Below w.heap.size w w'):m.ok w':=
 ⟨h.1,h.2.1,⟨Sl.rd_below h.2.2.1.1 hb,fun y hy=>St.below (h.2.2.1.2 y hy) hb⟩,⟨Sl.rd_below h.2.2.2.1.1 hb,fun y hy=>De.below (h.2.2.2.1.2 y hy) hb⟩,Sn.below h.2.2.2.2.1 hb,Sl.rd_below h.2.2.2.2.2 hb⟩
theorem zcd (l:List (List UInt8)):l.flatMap strV=strC l:=by
 induction l with
 |nil=>rfl
 |cons x r ih=>simp only [List.flatMap_cons,strV,strC,List.map_cons,List.cons_append,List.nil_append] at ih⊢;rw [ih]
/-! the sizes: no more than what the reading holds -/
def sum {α:Type} (f:α→Nat) (l:List α):Nat:=(l.map f).sum
theorem sum_cons {α:Type} (f:α→Nat) (x:α) (r:List α):sum f (x::r)=f x+sum f r:=by simp [sum]
theorem sum_nil {α:Type} (f:α→Nat):sum f []=0:=rfl
theorem Zb {α:Type} (f:α→Nat) (l:List α) (x:α) (h:x∈l):f x≤sum f l:=by
 induction l with
 |nil=>simp at h
 |cons y r ih=>
  rw [sum_cons];rcases List.mem_cons.1 h with rfl|h
  · omega
  · have:=ih h;omega
theorem Z9 {α:Type} (f:α→Nat) (l:List α) (k:Nat) (h:∀x,k≤f x):k * l.length≤sum f l:=by
 induction l with
 |nil=>simp
 |cons y r ih=>rw [sum_cons,List.length_cons,Nat.mul_succ];have:=h y;omega
def Sg.sz (x:Sg):Nat:=x.digest.length+x.sig.length+7
def szS (x:List UInt8):Nat:=x.length+1
def St.sz (s:St):Nat:=s.lock.length+sum Sg.sz s.cert.l+s.signed.sz+7
def De.sz (d:De):Nat:=d.value.length+sum Sg.sz d.cert.l+4
def Ho.sz (h:Ho):Nat:=h.entry.sz+2
def Sn.sz (x:Sn):Nat:=x.root.length+sum szS x.chunks.l+sum Sg.sz x.proof.l+sum Ho.sz x.chain.l+6
def Ms.sz (m:Ms):Nat:=m.value.length+m.signed.sz+sum St.sz m.statuses.l+sum De.sz m.entries.l+m.snapshot.sz+sum szS m.texts.l+11
theorem Sg.sz_ge (x:Sg):7≤x.sz:=by unfold Sg.sz;omega
theorem zeV (x:List UInt8):1≤szS x:=by unfold szS;omega
theorem St.sz_ge (x:St):14≤x.sz:=by have:=x.signed.sz_ge;unfold St.sz;omega
theorem De.sz_ge (x:De):4≤x.sz:=by unfold De.sz;omega
theorem Ho.sz_ge (x:Ho):6≤x.sz:=by have:=x.entry.sz_ge;unfold Ho.sz;omega
theorem tot_map {α:Type} (enc:α→List UInt8) (f:α→Nat) (c:Nat) (l:List α) (h:∀x∈l,(enc x).length≤c * f x):tot (l.map enc)≤c * sum f l:=by
 induction l with
 |nil=>simp [tot]
 |cons x r ih=>
  have h1:=h x jd;have h2:=ih (fun y hy=>h y jci);rw [List.map_cons,ZX,sum_cons,Nat.mul_add];omega
theorem tot_strs (l:List (List UInt8)):tot l≤sum szS l:=by
 induction l with
 |nil=>simp [tot,sum]
 |cons x r ih=>rw [ZX,sum_cons];unfold szS at ih⊢;omega
theorem Yf (x:Sg) (h:x.ok) (hs:x.sz≤16777216):(zM x).length≤10 * x.sz:=by
 have h1:=yg [x.server,x.kind,x.view,x.slot] (by simpa [List.forall_mem_cons,Sg.ok] using h) jd;unfold Sg.sz at hs⊢;have h2:=zG x.digest ja;have h3:=zG x.sig ja;simp only [zM,zdo,List.length_append,List.length_cons,List.length_nil] at h1⊢;omega
theorem ZC (l:List Sg) (h:∀x∈l,x.ok) (hs:sum Sg.sz l≤16777216):(zg (l.map zM)).length≤10+12 * sum Sg.sz l∧tot (l.map zM)≤10 * sum Sg.sz l∧7 * l.length≤sum Sg.sz l:=by
 have h0:=Z9 Sg.sz l 7 Sg.sz_ge;have h1:=tot_map zM Sg.sz 10 l (fun x hx=>Yf x (h x hx) jbk);have h2:=zbZ (l.map zM) ja jg;simp only [List.length_map] at h2;exact⟨by omega,h1,h0⟩
theorem zbo (s:St) (w:World) (h:s.ok w) (hs:s.sz≤16777216):(Zo s).length≤12 * s.sz:=by
 have h1:=yg [s.server,s.view,s.length,s.lockView] jaa jd;unfold St.sz at hs⊢;have h2:=zG s.lock ja;have h3:=(ZC s.cert.l h.2.2.1 ja).1;have h4:=Yf s.signed h.2.2.2 ja;have h5:=zG (zM s.signed) ja;simp only [Zo,List.length_append,List.length_cons,List.length_nil] at h1⊢;omega
theorem Y7 (d:De) (w:World) (h:d.ok w) (hs:d.sz≤16777216):(yQ d).length≤12 * d.sz:=by
 have h1:=yg [d.view] jaa jd;unfold De.sz at hs⊢;have h2:=zG d.value ja;have h3:=(ZC d.cert.l h.2.2 ja).1;simp only [yQ,List.length_append,List.length_cons,List.length_nil] at h1⊢;omega
theorem zaM (x:Ho) (w:World) (h:x.ok w) (hs:x.sz≤16777216):(ZF x).length≤12 * x.sz:=by
 have h1:=yg [x.slot] jaa jd;unfold Ho.sz at hs⊢;have h2:=Y7 x.entry w h.2 ja;simp only [ZF,List.length_append,List.length_cons,List.length_nil] at h1⊢;omega
theorem ZW {α:Type} (enc:α→List UInt8) (f:α→Nat) (l:List α) (h:∀x∈l,(enc x).length≤12 * f x) (hf:∀x,4≤f x) (hs:sum f l≤16777216) :
    (zg (l.map enc)).length≤10+15 * sum f l∧tot (l.map enc)≤12 * sum f l∧4 * l.length≤sum f l:=by
 have h0:=Z9 f l 4 hf;have h1:=tot_map enc f 12 l h;have h2:=zbZ (l.map enc) ja jg;simp only [List.length_map] at h2;exact⟨by omega,h1,h0⟩
theorem zai (l:List (List UInt8)) (hs:sum szS l≤16777216):(zg l).length≤10+11 * sum szS l∧tot l≤sum szS l∧l.length≤sum szS l:=by
 have h0:=Z9 szS l 1 zeV;have h1:=tot_strs l;have h2:=zbZ l ja ja;exact⟨by omega,h1,by omega⟩
theorem zcc (x:Sn) (w:World) (h:x.ok w) (hs:x.sz≤16777216):(Y9 x).length≤15 * x.sz:=by
 have h1:=yg [x.slot] jaa jd;unfold Sn.sz at hs⊢;have h2:=zG x.root ja;have h3:=(zai x.chunks.l ja).1;have h4:=(ZC x.proof.l h.2.2.1.2 ja).1;have h5:=(ZW ZF Ho.sz x.chain.l (fun y hy=>zaM y w (h.2.2.2.2 y hy) jch) (fun y=>by have:=y.sz_ge;omega) ja).1;simp only [Y9,List.length_append,List.length_cons,List.length_nil] at h1⊢;omega
theorem encMs_len (m:Ms) (w:World) (h:m.ok w) (hs:m.sz≤16777216):(yO m).length≤16 * m.sz:=by
 have h1:=yg [m.kind,m.src,m.dst,m.view,m.slot,m.till] jaa jd;unfold Ms.sz at hs⊢;have h2:=zG m.value ja;have h3:=Yf m.signed h.2.1 ja;have h4:=zG (zM m.signed) ja;have h5:=(ZW Zo St.sz m.statuses.l (fun y hy=>zbo y w (h.2.2.1.2 y hy) jcf) (fun y=>by have:=y.sz_ge;omega) ja).1;have h6:=(ZW yQ De.sz m.entries.l (fun y hy=>Y7 y w (h.2.2.2.1.2 y hy) jcg) (fun y=>y.sz_ge) ja).1;have h7:=zcc m.snapshot w h.2.2.2.2.1 ja;have h8:=zG (Y9 m.snapshot) ja;have h9:=(zai m.texts.l ja).1;simp only [yO,List.length_append,List.length_cons,List.length_nil] at h1⊢;omega
def num (n:Int):Bool:=decide (0≤n) && decide (n≤2147483647)
def zR (x:Sg):Bool:=decide (x.digest.length≤64) && decide (x.sig.length≤64)
def zL (l:List Sg):Bool:=l.all zR && decide (l.length≤12)
def yB (s:St):Bool:=decide (0≤s.server) && decide (s.server<12) && num s.view && num s.length && num s.lockView
def yH (s:St):Bool:=decide (s.lock.length≤2000) && zL s.cert.l && zR s.signed
def zP (d:De):Bool:=decide (d.value.length≤2000) && zL d.cert.l
def ZB (h:Ho):Bool:=num h.slot && num h.entry.view
def Zu (m:Ms):Bool:=m.statuses.l.all yB && m.entries.l.all (fun d=>num d.view) && m.snapshot.chain.l.all ZB && num m.snapshot.slot
def zaF (m:Ms):Bool:=decide (m.value.length≤2000) && decide (m.statuses.l.length≤12) && decide (m.entries.l.length≤8) && decide (m.texts.l.length≤500)
def zdv (m:Ms):Bool:=decide (m.snapshot.root.length≤64) && decide (m.snapshot.chain.l.length≤20)
def yC (m:Ms):Bool:=zaF m && zdv m && m.statuses.l.all yH && m.entries.l.all zP && m.snapshot.chain.l.all (fun h=>zP h.entry) && decide (tot m.texts.l≤60000) && zR m.signed && zL m.snapshot.proof.l
def Yz (x:Sn):Bool:=decide (x.slot=0) && decide (x.root= []) && decide (x.chunks.l.length+x.proof.l.length+x.chain.l.length=0)
def sgZero (x:Sg):Bool:=decide (x=⟨0,0,0,0, [], []⟩)
def YT (m:Ms):List Bool:= [m.view != 0,m.slot != 0,m.till != 0, !m.value.isEmpty, !sgZero m.signed,decide (0<m.statuses.l.length),decide (0<m.entries.l.length), !Yz m.snapshot,decide (0<m.texts.l.length)]
def kwF (k:Int):Nat:=if k=1 then 3 else if k=2 then 99 else if k=3 then 59 else if k=4 then 19 else if k=5 then 27 else if k=6 then 66 else if k=7 then 2 else if k=8 then 1 else if k=9 then 5 else if k=10 then 26 else if k=11 then 132 else if k=12 then 271 else 0
def kwS (k:Int):List UInt8:=if k=1 then [97,115,107] else if k=2 then [115,116,97,116,117,115] else if k=3 then [112,114,111,112,111,115,101] else if k=4 then [112,114,101,112,97,114,101] else if k=5 then [99,111,109,109,105,116] else if k=6 then [108,101,97,114,110] else if k=7 then [102,101,116,99,104] else if k=8 then [108,101,97,115,101] else if k=9 then [103,114,97,110,116] else if k=10 then [115,116,97,98,108,101] else if k=11 then [115,110,97,112,115,104,111,116] else if k=12 then [99,104,117,110,107] else []
def alw (k:Int) (i:Nat):Bool:=(kwF k).testBit i
def ZU (m:Ms):Bool:=(YT m).zipIdx.any fun x=>x.1 && !alw m.kind x.2
def zbc (m:Ms):Bool:=decide (m.src<0) || decide (12≤m.src) || decide (m.dst<0) || decide (18≤m.dst) || !num m.view || !num m.slot || decide (m.till<0)
def oneB (m:Ms):Bool:=decide (m.kind=2) && decide (m.statuses.l.length≠1)
def vMs (m:Ms):Int:=
 if m.kind<1∨12<m.kind then 1 else if zbc m=true then 7 else if ZU m=true∨oneB m=true then 1
 else if Zu m=false then 7 else if yC m=false then 3 else if 0<m.snapshot.chunks.l.length then 1 else 0
theorem zc9 {l:List Sg} (h:zL l=true):sum Sg.sz l≤2000:=by
 simp only [zL,Bool.and_eq_true,decide_eq_true_eq,List.all_eq_true] at h;have h1:∀l:List Sg,(∀x∈l,zR x=true)→sum Sg.sz l≤135 * l.length:=by
  intro l;induction l with
  |nil=>intro _;simp [sum]
  |cons x r ih=>
   intro hx;have h1:=hx x jd;have h2:=ih (fun y hy=>hx y jci);simp only [zR,Bool.and_eq_true,decide_eq_true_eq] at h1;rw [sum_cons,List.length_cons];unfold Sg.sz at *;omega
 have:=h1 l h.1;omega
theorem st_short {s:St} (h:yH s=true):s.sz≤4200:=by
 simp only [yH,zR,Bool.and_eq_true,decide_eq_true_eq] at h;have:=zc9 h.1.2;unfold St.sz Sg.sz;unfold Sg.sz at this;omega
theorem de_short {d:De} (h:zP d=true):d.sz≤4100:=by
 simp only [zP,Bool.and_eq_true,decide_eq_true_eq] at h;have:=zc9 h.2;unfold De.sz;omega
theorem zc2 {α:Type} (f:α→Nat) (c:Nat) (l:List α) (h:∀x∈l,f x≤c):sum f l≤c * l.length:=by
 induction l with
 |nil=>simp [sum]
 |cons x r ih=>
  have h1:=h x jd;have h2:=ih (fun y hy=>h y jci);rw [sum_cons,List.length_cons,Nat.mul_succ];omega
theorem szS_tot (l:List (List UInt8)):sum szS l=tot l+l.length:=by
 induction l with
 |nil=>rfl
 |cons x r ih=>rw [sum_cons,ZX,List.length_cons,ih];unfold szS;omega
theorem ms_short {m:Ms} (h:vMs m=0):m.sz≤300000∧m.snapshot.chunks.l= []:=by
 unfold vMs at h;split at h
 · simp at h
 split at h
 · simp at h
 split at h
 · simp at h
 split at h
 · simp at h
 split at h
 · simp at h
 rename_i hL;split at h
 · simp at h
 rename_i hC;have hL':yC m=true:=by simpa using hL
 simp only [yC,zaF,zdv,zR,Bool.and_eq_true,decide_eq_true_eq,List.all_eq_true] at hL';obtain⟨⟨⟨⟨⟨⟨⟨⟨⟨⟨h1,h2⟩,h3⟩,h4⟩,h5,h6⟩,h7⟩,h8⟩,h9⟩,h10⟩,h11⟩,h12⟩:=hL';have a1:=zc2 St.sz 4200 m.statuses.l (fun x hx=>st_short (h7 x hx));have a2:=zc2 De.sz 4100 m.entries.l (fun x hx=>de_short (h8 x hx));have a3:=zc2 Ho.sz 4102 m.snapshot.chain.l (fun x hx=>by have:=de_short (h9 x hx);unfold Ho.sz;omega);have a4:=zc9 h12;have a5:=szS_tot m.texts.l;have a6:m.snapshot.chunks.l= []:=by
  cases hc:m.snapshot.chunks.l with
  |nil=>rfl
  |cons x r=>rw [hc] at hC;simp at hC
 refine⟨?_,a6⟩;have a7:sum szS m.snapshot.chunks.l=0:=by rw [a6];rfl
 unfold Ms.sz Sn.sz Sg.sz;unfold Sg.sz at a4;omega
def Yh:Nat→Nat→Nat→List UInt8→Option (Nat × Nat)
 |0,_,_,_=>none
 |_+1,_,_, []=>none
 |f+1,k,a,c::r=>
  if 128≤c.toNat then Yh f (k+1) (a+(c.toNat- 128) * 128 ^ k) r
  else if 18446744073709551616≤c.toNat * 128 ^ k then none
  else if c.toNat=0∧0<k then none
  else some (a+c.toNat * 128 ^ k,k+1)
def getV (s:List UInt8):Option (Nat × Nat):=Yh 10 0 0 s
def yJ (s:List UInt8):Option (List UInt8 × Nat):=
 match getV s with
 |none=>none
 |some (n,k)=>if s.length- k<n then none else some ((s.drop k).take n,k+n)
def yt {α:Type} (g:List UInt8→Option (α × Nat)):Nat→List UInt8→Option (List α × Nat)
 |0,_=>some ([],0)
 |n+1,s=>match g s with
  |none=>none
  |some (x,k)=>match yt g n (s.drop k) with
   |none=>none
   |some (xs,m)=>some (x::xs,k+m)
def zaP {α:Type} (g:List UInt8→Option (α × Nat)) (s:List UInt8):Option (List α × Nat):=
 match getV s with
 |none=>none
 |some (n,k)=>match yt g n (s.drop k) with
  |none=>none
  |some (xs,m)=>some (xs,k+m)
def zK (s:List UInt8):Option (List (List UInt8) × Nat):=zaP yJ s
def unzig (n:Nat):Int:=if n % 2=0 then(n / 2:Nat) else -((n / 2:Nat):Int)- 1
def Zp (s:List UInt8):Option (Int × Nat):=(getV s).map fun x=>(unzig x.1,x.2)
def zQ (s:List UInt8):Option (List Int × Nat):=zaP Zp s
theorem step_fit':∀(c:Fin 128) (k:Fin 10),c.val * 128 ^ k.val<18446744073709551616→(c.val+1) * 128 ^ k.val≤18446744073709551616:=by decide +kernel
theorem step_fit (a c k:Nat) (hc:c<128) (hk:k≤9) (ha:a<128 ^ k) (h:¬18446744073709551616≤c * 128 ^ k):a+c * 128 ^ k<18446744073709551616:=by
 have:=step_fit' ⟨c,hc⟩ ⟨k,by omega⟩ jac;simp only [Nat.add_mul] at this;omega
theorem getVAt_le:∀(f k a:Nat) (s:List UInt8) (n m:Nat),Yh f k a s=some (n,m)→k<m∧m≤k+f∧m≤k+s.length
 |0,_,_,_,_,_,h=>by simp [Yh] at h
 |_+1,_,_, [],_,_,h=>by simp [Yh] at h
 |f+1,k,a,c::r,n,m,h=>by
  rw [Yh] at h
  split at h
  · have:=getVAt_le f (k+1) _ r n m h
    simp only [List.length_cons];omega
  · split at h
    · simp at h
    · split at h
      · simp at h
      · simp only [Option.some.injEq,Prod.mk.injEq] at h
        simp only [List.length_cons];omega
theorem za5 {s:List UInt8} {n k:Nat} (h:getV s=some (n,k)):0<k∧k≤10∧k≤s.length:=by
 have:=getVAt_le 10 0 0 s n k h;omega
theorem zeZ:∀(f k a:Nat) (s:List UInt8) (n m:Nat),f+k=10→a<128 ^ k→Yh f k a s=some (n,m)→n<18446744073709551616
 |0,_,_,_,_,_,_,_,h=>by simp [Yh] at h
 |_+1,_,_, [],_,_,_,_,h=>by simp [Yh] at h
 |f+1,k,a,c::r,n,m,hk,ha,h=>by
  have hpow:128 ^(k+1)=128 ^ k * 128:=Nat.pow_succ 128 k
  rw [Yh] at h
  split at h
  · have hc:=c.toNat_lt
    have hmul:(c.toNat- 128) * 128 ^ k≤127 * 128 ^ k:=Nat.mul_le_mul_right _ ja
    exact zeZ f (k+1) _ r n m ja ja h
  · rename_i hc
    split at h
    · simp at h
    · rename_i hb
      split at h
      · simp at h
      · simp only [Option.some.injEq,Prod.mk.injEq] at h
        obtain⟨rfl,rfl⟩:=h
        exact step_fit a _ k ja ja ha hb
theorem Yb {s x:List UInt8} {k:Nat} (h:yJ s=some (x,k)):0<k∧k≤s.length∧x.length<k:=by
 unfold yJ at h;split at h
 · simp at h
 · rename_i n m hv;have hl:=za5 hv;split at h
   · simp at h
   · simp only [Option.some.injEq,Prod.mk.injEq] at h;obtain⟨rfl,rfl⟩:=h;simp only [List.length_take,List.length_drop];omega
theorem zfi:∀(f n k a:Nat) (r:List UInt8),n<128 ^ f→0<f→n * 128 ^ k<18446744073709551616→(0<k→0<n)→Yh f k a (varint n++r)=some (a+n * 128 ^ k,k+(varint n).length)
 |0,_,_,_,_,_,h0,_,_=>by omega
 |f+1,n,k,a,r,hn,_,hb,hp=>by
  have hpos:0<128 ^ k:=Nat.pow_pos ja
  by_cases h:n<128
  · have ht:n.toUInt8.toNat=n:=by simp;omega
    rw [Zh n h]
    simp only [List.cons_append,List.nil_append,List.length_cons,List.length_nil]
    rw [Yh,ht,if_neg ja,if_neg ja,if_neg ja]
  · have ht:((128+n % 128).toUInt8).toNat=128+n % 128:=by simp;omega
    rw [zax n h]
    simp only [List.cons_append,List.length_cons]
    have hdm:n=128 *(n / 128)+n % 128:=(Nat.div_add_mod n 128).symm
    have hb2:n / 128 * 128 ^(k+1)≤n * 128 ^ k:=by
     rw [Nat.pow_succ,Nat.mul_comm (128 ^ k) 128,←Nat.mul_assoc];exact Nat.mul_le_mul_right _ ja
    have hf:n / 128<128 ^ f:=by rw [Nat.div_lt_iff_lt_mul ja];rw [Nat.pow_succ] at hn;omega
    have hf0:0<f:=by
     rcases Nat.eq_zero_or_pos f with h0|h0
     · subst h0;simp at hn;omega
     · exact h0
    rw [Yh,ht,if_pos ja,zfi f (n / 128) (k+1) _ r hf hf0 ja ja];congr 1;congr 1
    · rw [show 128+n % 128- 128=n % 128 from by omega,Nat.pow_succ,Nat.add_assoc];congr 1;rw [Nat.mul_comm (128 ^ k) 128,←Nat.mul_assoc,←Nat.add_mul];congr 1;omega
    · omega
theorem getV_put (n:Nat) (r:List UInt8) (h:n<18446744073709551616):getV (varint n++r)=some (n,(varint n).length):=by
 have:=zfi 10 n 0 0 r ja ja ja ja;simpa [getV] using this
theorem zfG (x r:List UInt8) (h:x.length<18446744073709551616):yJ (zk x++r)=some (x,(zk x).length):=by
 unfold yJ zk;rw [List.append_assoc,getV_put x.length (x++r) h];simp only [];rw [if_neg jd];simp
theorem getMany_put {α:Type} (g:List UInt8→Option (α × Nat)) (put:α→List UInt8) (l:List α) (hg:∀x∈l,∀r,g (put x++r)=some (x,(put x).length)) (r:List UInt8) :
    yt g l.length (l.flatMap put++r)=some (l,(l.flatMap put).length):=by
 induction l with
 |nil=>rfl
 |cons x t ih=>
  simp only [List.flatMap_cons,List.length_cons,yt,List.append_assoc];rw [hg x jd];simp only [List.drop_left];rw [ih (fun y hy=>hg y jci)];simp
theorem zfI {α:Type} (g:List UInt8→Option (α × Nat)) (put:α→List UInt8) (l:List α) (hl:l.length<18446744073709551616) (hg:∀x∈l,∀r,g (put x++r)=some (x,(put x).length)) (r:List UInt8) :
    zaP g ((varint l.length++l.flatMap put)++r)=some (l,(varint l.length++l.flatMap put).length):=by
 unfold zaP;rw [List.append_assoc,getV_put _ _ hl];simp only [List.drop_left];rw [getMany_put g put l hg];simp
theorem zeP (l:List (List UInt8)) (r:List UInt8) (hl:l.length<18446744073709551616) (hx:∀x∈l,x.length<18446744073709551616):zK (zg l++r)=some (l,(zg l).length):=
 zfI yJ zk l hl (fun x h r=>zfG x r (hx x h)) r
theorem unzig_zig (n:Int):unzig (zig n)=n:=by
 unfold unzig zig;split <;> split <;> omega
theorem getInts_put (l:List Int) (r:List UInt8) (hl:l.length<18446744073709551616) (hx:∀x∈l,I64 x):zQ (zo l++r)=some (l,(zo l).length):=
 zfI Zp (fun n=>varint (zig n)) l hl (fun x h r=>by
  unfold Zp
  rw [getV_put _ _ (zig_lt x (hx x h).1 (hx x h).2)]
  simp [unzig_zig]) r
/-! without addresses -/
def Sl.er {α:Type} (s:Sl α):Sl α:=⟨none,0,s.l⟩
def Sl.of {α:Type} (l:List α):Sl α:=⟨none,0,l⟩
def St.er (s:St):St:={s with cert:=s.cert.er}
def De.er (d:De):De:={d with cert:=d.cert.er}
def Ho.er (h:Ho):Ho:={h with entry:=h.entry.er}
def Sn.er (x:Sn):Sn:={x with chunks:=x.chunks.er,proof:=x.proof.er,chain:=Sl.of (x.chain.l.map Ho.er)}
def Ms.er (m:Ms):Ms:={m with statuses:=Sl.of (m.statuses.l.map St.er),entries:=Sl.of (m.entries.l.map De.er),snapshot:=m.snapshot.er,texts:=m.texts.er}
theorem encSn_er (x:Sn):Y9 x.er=Y9 x:=by
 show zo _++zk _++zg _++zg _++zg ((x.chain.l.map Ho.er).map ZF)=_;rw [List.map_map];rfl
theorem zby (m:Ms):yO m.er=yO m:=by
 show zo _++zk _++zk _++zg ((m.statuses.l.map St.er).map Zo)++zg ((m.entries.l.map De.er).map yQ)++zk (Y9 m.snapshot.er)++zg _=_;rw [List.map_map,List.map_map,encSn_er];rfl
theorem zfe (m:Ms):vMs m.er=vMs m:=by
 have h1:(m.er.statuses.l).length=m.statuses.l.length:=by simp [Ms.er,Sl.of]
 have h2:(m.er.entries.l).length=m.entries.l.length:=by simp [Ms.er,Sl.of]
 have h3:(m.er.snapshot.chain.l).length=m.snapshot.chain.l.length:=by simp [Ms.er,Sn.er,Sl.of]
 have a1:∀(f:St→Bool),(∀s,f s.er=f s)→m.er.statuses.l.all f=m.statuses.l.all f:=fun f hf=>by
  simp only [Ms.er,Sl.of,List.all_map];congr 1;funext s;exact hf s
 have a2:∀(f:De→Bool),(∀s,f s.er=f s)→m.er.entries.l.all f=m.entries.l.all f:=fun f hf=>by
  simp only [Ms.er,Sl.of,List.all_map];congr 1;funext s;exact hf s
 have a3:∀(f:Ho→Bool),(∀s,f s.er=f s)→m.er.snapshot.chain.l.all f=m.snapshot.chain.l.all f:=fun f hf=>by
  simp only [Ms.er,Sn.er,Sl.of,List.all_map];congr 1;funext s;exact hf s
 have r1:Zu m.er=Zu m:=by
  unfold Zu;rw [a1 _ (fun _=>rfl),a2 _ (fun _=>rfl),a3 _ (fun _=>rfl)];rfl
 have r2:yC m.er=yC m:=by
  unfold yC zaF zdv;rw [a1 _ (fun _=>rfl),a2 _ (fun _=>rfl),a3 _ (fun _=>rfl),h1,h2,h3];rfl
 have r3:ZU m.er=ZU m:=by
  have:YT m.er=YT m:=by
   unfold YT Yz;rw [h1,h2,h3];rfl
  unfold ZU;rw [this];rfl
 have r4:oneB m.er=oneB m:=by unfold oneB;rw [h1];rfl
 have r5:zbc m.er=zbc m:=rfl;unfold vMs;rw [r1,r2,r3,r4,r5];rfl
theorem sz_er {α:Type} (f:α→Nat) (e:α→α) (h:∀x,f (e x)=f x) (l:List α):sum f (l.map e)=sum f l:=by
 induction l with
 |nil=>rfl
 |cons x r ih=>rw [List.map_cons,sum_cons,sum_cons,ih,h]
theorem Sn.sz_er (x:Sn):x.er.sz=x.sz:=by
 show _+_+_+sum Ho.sz (x.chain.l.map Ho.er)+6=_;rw [Go.Proofs.YtepbbaifpckcpaaGreatDoor.sz_er Ho.sz Ho.er (fun _=>rfl)];rfl
theorem Ms.sz_er (m:Ms):m.er.sz=m.sz:=by
 show _+_+sum St.sz (m.statuses.l.map St.er)+sum De.sz (m.entries.l.map De.er)+m.snapshot.er.sz+_+11=_;rw [Go.Proofs.YtepbbaifpckcpaaGreatDoor.sz_er St.sz St.er (fun _=>rfl),Go.Proofs.YtepbbaifpckcpaaGreatDoor.sz_er De.sz De.er (fun _=>rfl),Sn.sz_er];rfl
/-! the readers: what is read, and what remains -/
@[reducible] def Pr (α:Type):Type:=List UInt8→Option (α × List UInt8)
def Pr.then {α β:Type} (p:Pr α) (f:α→Pr β):Pr β:=fun s=>match p s with
 |none=>none
 |some (x,r)=>f x r
def Pr.ret {α:Type} (x:α):Pr α:=fun s=>some (x,s)
def off {α:Type} (g:List UInt8→Option (α × Nat)):Pr α:=fun s=>match g s with
 |none=>none
 |some (x,k)=>some (x,s.drop k)
def Z6 (n:Nat):Pr (List Int):=fun s=>match off zQ s with
 |none=>none
 |some (l,r)=>if l.length=n then some (l,r) else none
def ZL:Pr (List UInt8):=off yJ
def Y4:Pr (List (List UInt8)):=off zK
def whole {α:Type} (p:Pr α) (s:List UInt8):Option α:=match p s with
 |none=>none
 |some (x,r)=>if r= [] then some x else none
def many {α:Type} (p:Pr α):List (List UInt8)→Option (List α)
 | []=>some []
 |s::r=>match whole p s with
  |none=>none
  |some x=>match many p r with
   |none=>none
   |some l=>some (x::l)
def Yc {α:Type} (p:Pr α):Pr (List α):=fun s=>match Y4 s with
 |none=>none
 |some (l,r)=>match many p l with
  |none=>none
  |some xs=>some (xs,r)
def zbu {α:Type} (p:Pr α):Pr α:=fun s=>match ZL s with
 |none=>none
 |some (t,r)=>match whole p t with
  |none=>none
  |some x=>some (x,r)
def rdSg:Pr Sg:=fun s=>match Z6 4 s with
 |none=>none
 |some (l,r)=>match ZL r with
  |none=>none
  |some (d,r)=>match ZL r with
   |none=>none
   |some (g,r)=>if r= [] then some (⟨l.getD 0 0,l.getD 1 0,l.getD 2 0,l.getD 3 0,d,g⟩, []) else none
def rdSt:Pr St:=(Z6 4).then fun n=>ZL.then fun a=>(Yc rdSg).then fun c=>(zbu rdSg).then fun g=>Pr.ret ⟨n.getD 0 0,n.getD 1 0,n.getD 2 0,n.getD 3 0,a,Sl.of c,g⟩
def rdDe:Pr De:=(Z6 1).then fun n=>ZL.then fun a=>(Yc rdSg).then fun c=>Pr.ret ⟨n.getD 0 0,a,Sl.of c⟩
def rdHo:Pr Ho:=(Z6 1).then fun n=>rdDe.then fun e=>Pr.ret ⟨n.getD 0 0,e⟩
def rdSn:Pr Sn:=(Z6 1).then fun n=>ZL.then fun a=>Y4.then fun ch=>(Yc rdSg).then fun p=>(Yc rdHo).then fun c=>Pr.ret ⟨n.getD 0 0,a,Sl.of ch,Sl.of p,Sl.of c⟩
def rdMs:Pr Ms:=(Z6 6).then fun n=>ZL.then fun a=>(zbu rdSg).then fun g=>(Yc rdSt).then fun ss=>(Yc rdDe).then fun es=>(zbu rdSn).then fun x=>Y4.then fun t=>
 Pr.ret ⟨n.getD 0 0,n.getD 1 0,n.getD 2 0,n.getD 3 0,n.getD 4 0,a,n.getD 5 0,g,Sl.of ss,Sl.of es,x,Sl.of t⟩
def zaa (s:List UInt8):Option Ms:=match whole rdMs s with
 |none=>none
 |some m=>if vMs m=0 then some m else none
/-! what was put is read again -/
theorem YQ (n:Nat) (l:List Int) (r:List UInt8) (hn:l.length=n) (hl:l.length<18446744073709551616) (hx:∀x∈l,I64 x):Z6 n (zo l++r)=some (l,r):=by
 unfold Z6 off;rw [getInts_put l r hl hx];simp [hn]
theorem Yl (x r:List UInt8) (h:x.length<18446744073709551616):ZL (zk x++r)=some (x,r):=by
 unfold ZL off;rw [zfG x r h];simp
theorem zbT (l:List (List UInt8)) (r:List UInt8) (hl:l.length<18446744073709551616) (hx:∀x∈l,x.length<18446744073709551616):Y4 (zg l++r)=some (l,r):=by
 unfold Y4 off;rw [zeP l r hl hx];simp
theorem many_put {α β:Type} (p:Pr β) (enc:α→List UInt8) (e:α→β) (l:List α) (h:∀x∈l,whole p (enc x)=some (e x)):many p (l.map enc)=some (l.map e):=by
 induction l with
 |nil=>rfl
 |cons x r ih=>
  rw [List.map_cons,many];simp only [h x jd,ih (fun y hy=>h y jci),List.map_cons]
theorem za6 {α β:Type} (p:Pr β) (enc:α→List UInt8) (e:α→β) (l:List α) (r:List UInt8) (hl:l.length<18446744073709551616) (hs:∀x∈l,(enc x).length<18446744073709551616) (h:∀x∈l,whole p (enc x)=some (e x)) :
    Yc p (zg (l.map enc)++r)=some (l.map e,r):=by
 unfold Yc;simp only [zbT (l.map enc) r (by simpa using hl) (by simpa using hs),many_put p enc e l h]
theorem zfk {α:Type} (p:Pr α) (x:List UInt8) (y:α) (r:List UInt8) (hs:x.length<18446744073709551616) (h:whole p x=some y):zbu p (zk x++r)=some (y,r):=by
 unfold zbu;simp only [Yl x r hs,h]
theorem rdSg_put (x:Sg) (h:x.ok) (hs:x.sz≤16777216):rdSg (zM x)=some (x, []):=by
 have h1:=YQ 4 [x.server,x.kind,x.view,x.slot] (zk x.digest++zk x.sig) rfl jd (by simpa [List.forall_mem_cons,Sg.ok] using h);unfold Sg.sz at hs;have h2:=Yl x.digest (zk x.sig) ja;have h3:=Yl x.sig [] ja;rw [List.append_nil] at h3;unfold rdSg zM zdo;rw [List.append_assoc];simp only [h1,h2,h3];rfl
theorem zaj {α:Type} {p:Pr α} {s:List UInt8} {x:α} (h:p s=some (x, [])):whole p s=some x:=by
 unfold whole;rw [h];rfl
theorem Zi {α β:Type} {p:Pr α} {f:α→Pr β} {a r:List UInt8} {x:α} (h:p (a++r)=some (x,r)):(p.then f) (a++r)=f x r:=by
 unfold Pr.then;rw [h]
theorem zdF {α β:Type} {p:Pr α} {f:α→Pr β} {a:List UInt8} {x:α} (h:p a=some (x, [])):(p.then f) a=f x []:=by
 unfold Pr.then;rw [h]
theorem parts_sg (l:List Sg) (r:List UInt8) (h:∀x∈l,x.ok) (hs:sum Sg.sz l≤16777216):Yc rdSg (zg (l.map zM)++r)=some (l,r):=by
 have h0:=Z9 Sg.sz l 7 Sg.sz_ge;have:=za6 rdSg zM id l r ja (fun x hx=>by have h1:=Zb Sg.sz l x hx;have:=Yf x (h x hx) ja;omega)
  (fun x hx=>zaj (rdSg_put x (h x hx) jbk))
 simpa using this
theorem part_sg (x:Sg) (r:List UInt8) (h:x.ok) (hs:x.sz≤16777216):zbu rdSg (zk (zM x)++r)=some (x,r):=
 zfk rdSg (zM x) x r (by have:=Yf x h hs;omega) (zaj (rdSg_put x h hs))
theorem rdSt_put (s:St) (w:World) (h:s.ok w) (hs:s.sz≤16777216):rdSt (Zo s)=some (s.er, []):=by
 have hz:=hs;unfold St.sz at hz;unfold rdSt Zo;rw [List.append_assoc,List.append_assoc,Zi (YQ 4 [s.server,s.view,s.length,s.lockView] _ rfl jd jaa),
  Zi (Yl s.lock _ ja),Zi (parts_sg s.cert.l _ h.2.2.1 ja),zdF (x:=s.signed) (by have:=part_sg s.signed [] h.2.2.2 ja;rwa [List.append_nil] at this)]
 rfl
theorem rdDe_put (d:De) (w:World) (h:d.ok w) (hs:d.sz≤16777216) (r:List UInt8):rdDe (yQ d++r)=some (d.er,r):=by
 have hz:=hs;unfold De.sz at hz;unfold rdDe yQ;rw [List.append_assoc,List.append_assoc,Zi (YQ 1 [d.view] _ rfl jd jaa),
  Zi (Yl d.value _ ja),Zi (parts_sg d.cert.l _ h.2.2 ja)]
 rfl
theorem rdHo_put (x:Ho) (w:World) (h:x.ok w) (hs:x.sz≤16777216):rdHo (ZF x)=some (x.er, []):=by
 have hz:=hs;unfold Ho.sz at hz;unfold rdHo ZF;rw [Zi (YQ 1 [x.slot] _ rfl jd jaa),zdF (x:=x.entry.er) (by have:=rdDe_put x.entry w h.2 ja [];rwa [List.append_nil] at this)];rfl
theorem rdSn_put (x:Sn) (w:World) (h:x.ok w) (hs:x.sz≤16777216):rdSn (Y9 x)=some (x.er, []):=by
 have hz:=hs;unfold Sn.sz at hz;have h0:=Z9 Ho.sz x.chain.l 6 Ho.sz_ge;have h1:=zai x.chunks.l ja;have hc:∀y∈x.chain.l,y.sz≤16777216:=fun y hy=>by have:=Zb Ho.sz _ y hy;omega
 unfold rdSn Y9;rw [List.append_assoc,List.append_assoc,List.append_assoc,Zi (YQ 1 [x.slot] _ rfl jd jaa),
  Zi (Yl x.root _ ja),Zi (zbT x.chunks.l _ ja (fun y hy=>by have:=Zb szS _ y hy;unfold szS at this hz;omega)),Zi (parts_sg x.proof.l _ h.2.2.1.2 ja),
  zdF (x:=x.chain.l.map Ho.er) (by
   have:=za6 rdHo ZF Ho.er x.chain.l [] ja (fun y hy=>by have:=zaM y w (h.2.2.2.2 y hy) (hc y hy);have:=hc y hy;omega) (fun y hy=>zaj (rdHo_put y w (h.2.2.2.2 y hy) (hc y hy)));rwa [List.append_nil] at this)]
 rfl
theorem rdMs_put (m:Ms) (w:World) (h:m.ok w) (hs:m.sz≤16777216):rdMs (yO m)=some (m.er, []):=by
 have hz:=hs;unfold Ms.sz at hz;have h0:=Z9 St.sz m.statuses.l 14 St.sz_ge;have h1:=Z9 De.sz m.entries.l 4 De.sz_ge;have h2:=zai m.texts.l ja;have hc:∀y∈m.statuses.l,y.sz≤16777216:=fun y hy=>by have:=Zb St.sz _ y hy;omega
 have hd:∀y∈m.entries.l,y.sz≤16777216:=fun y hy=>by have:=Zb De.sz _ y hy;omega
 have hn:=zcc m.snapshot w h.2.2.2.2.1 ja;unfold rdMs yO;simp only [List.append_assoc];rw [Zi (YQ 6 [m.kind,m.src,m.dst,m.view,m.slot,m.till] _ rfl jd jaa),Zi (Yl m.value _ ja),
  Zi (part_sg m.signed _ h.2.1 ja),
  Zi (za6 rdSt Zo St.er m.statuses.l _ ja (fun y hy=>by have:=zbo y w (h.2.2.1.2 y hy) (hc y hy);have:=hc y hy;omega) (fun y hy=>zaj (rdSt_put y w (h.2.2.1.2 y hy) (hc y hy)))),
  Zi (za6 rdDe yQ De.er m.entries.l _ ja (fun y hy=>by have:=Y7 y w (h.2.2.2.1.2 y hy) (hd y hy);have:=hd y hy;omega) (fun y hy=>zaj (by have:=rdDe_put y w (h.2.2.2.1.2 y hy) (hd y hy) [];rwa [List.append_nil] at this))),
  Zi (zfk rdSn (Y9 m.snapshot) m.snapshot.er _ ja (zaj (rdSn_put m.snapshot w h.2.2.2.2.1 ja))),
  zdF (x:=m.texts.l) (by have:=zbT m.texts.l [] ja (fun y hy=>by have:=Zb szS _ y hy;unfold szS at this hz;omega);rwa [List.append_nil] at this)]
 rfl
theorem decMs_put (m:Ms) (w:World) (h:m.ok w) (hv:vMs m=0):zaa (yO m)=some m.er:=by
 unfold zaa;rw [zaj (rdMs_put m w h (by have:=(ms_short hv).1;omega))];simp only [zfe,hv,if_pos]
/-! the sizes of what is read -/
theorem zeG {α:Type} (g:List UInt8→Option (α × Nat)) (f:α→Nat) (hg:∀s x k,g s=some (x,k)→f x≤k∧k≤s.length):∀(n:Nat) (s:List UInt8) (xs:List α) (m:Nat),yt g n s=some (xs,m)→xs.length=n∧sum f xs≤m∧m≤s.length
 |0,s,xs,m,h=>by
  simp only [yt,Option.some.injEq,Prod.mk.injEq] at h
  obtain⟨rfl,rfl⟩:=h
  simp [sum]
 |n+1,s,xs,m,h=>by
  rw [yt] at h
  cases hx:g s with
  |none=>rw [hx] at h;simp at h
  |some y=>
   obtain⟨x,k⟩:=y
   rw [hx] at h
   simp only at h
   cases hy:yt g n (s.drop k) with
   |none=>rw [hy] at h;simp at h
   |some z=>
    obtain⟨ys,j⟩:=z
    rw [hy] at h
    simp only [Option.some.injEq,Prod.mk.injEq] at h
    obtain⟨rfl,rfl⟩:=h
    have h1:=hg s x k hx
    have h2:=zeG g f hg n _ ys j hy
    rw [List.length_drop] at h2
    rw [sum_cons,List.length_cons]
    omega
theorem zaQ {α:Type} (g:List UInt8→Option (α × Nat)) (f:α→Nat) (hg:∀s x k,g s=some (x,k)→f x≤k∧k≤s.length) {s:List UInt8} {xs:List α} {k:Nat} (h:zaP g s=some (xs,k)):sum f xs+1≤k∧k≤s.length:=by
 unfold zaP at h;cases hv:getV s with
 |none=>rw [hv] at h;simp at h
 |some y=>
  obtain⟨n,j⟩:=y;rw [hv] at h;simp only at h;cases hy:yt g n (s.drop j) with
  |none=>rw [hy] at h;simp at h
  |some z=>
   obtain⟨ys,i⟩:=z;rw [hy] at h;simp only [Option.some.injEq,Prod.mk.injEq] at h;obtain⟨rfl,rfl⟩:=h;have h1:=za5 hv;have h2:=zeG g f hg n _ ys i hy;rw [List.length_drop] at h2;omega
theorem getInt_le (s:List UInt8) (x:Int) (k:Nat) (h:Zp s=some (x,k)):1≤k∧k≤s.length:=by
 unfold Zp at h;cases hv:getV s with
 |none=>rw [hv] at h;simp at h
 |some y=>
  rw [hv] at h;simp only [Option.map_some,Option.some.injEq,Prod.mk.injEq] at h;have:=za5 (n:=y.1) (k:=y.2) (by rw [hv]);omega
theorem sum_one {α:Type} (l:List α):sum (fun _=>1) l=l.length:=by
 induction l with
 |nil=>rfl
 |cons x r ih=>rw [sum_cons,ih,List.length_cons];omega
theorem zaD {n:Nat} {s r:List UInt8} {l:List Int} (h:Z6 n s=some (l,r)):l.length=n∧n+1+r.length≤s.length:=by
 unfold Z6 off at h;cases hg:zQ s with
 |none=>rw [hg] at h;simp at h
 |some y=>
  obtain⟨xs,k⟩:=y;rw [hg] at h;simp only at h;split at h
  · rename_i hl;simp only [Option.some.injEq,Prod.mk.injEq] at h;obtain⟨rfl,rfl⟩:=h;have:=zaQ Zp (fun _=>1) (fun s x k h=>getInt_le s x k h) hg;rw [sum_one] at this;rw [List.length_drop];omega
  · simp at h
theorem YV {s r x:List UInt8} (h:ZL s=some (x,r)):x.length+1+r.length≤s.length:=by
 unfold ZL off at h;cases hg:yJ s with
 |none=>rw [hg] at h;simp at h
 |some y=>
  obtain⟨xs,k⟩:=y;rw [hg] at h;simp only [Option.some.injEq,Prod.mk.injEq] at h;obtain⟨rfl,rfl⟩:=h;have:=Yb hg;rw [List.length_drop];omega
theorem zcT {s r:List UInt8} {l:List (List UInt8)} (h:Y4 s=some (l,r)):sum szS l+1+r.length≤s.length:=by
 unfold Y4 off at h;cases hg:zK s with
 |none=>rw [hg] at h;simp at h
 |some y=>
  obtain⟨xs,k⟩:=y;rw [hg] at h;simp only [Option.some.injEq,Prod.mk.injEq] at h;obtain⟨rfl,rfl⟩:=h;have:=zaQ yJ szS (fun s x k h=>by have:=Yb h;unfold szS;omega) hg;rw [List.length_drop];omega
def Fits {α:Type} (p:Pr α) (f:α→Nat):Prop:=∀s x r,p s=some (x,r)→f x+r.length≤s.length
theorem zdz {α:Type} {p:Pr α} {f:α→Nat} (hp:Fits p f) {s:List UInt8} {x:α} (h:whole p s=some x):f x≤s.length:=by
 unfold whole at h;cases hg:p s with
 |none=>rw [hg] at h;simp at h
 |some y=>
  obtain⟨z,r⟩:=y;rw [hg] at h;simp only at h;split at h
  · simp only [Option.some.injEq] at h;subst h;have:=hp s z r hg;omega
  · simp at h
theorem many_sz {α:Type} {p:Pr α} {f:α→Nat} (hp:Fits p f):∀{ls:List (List UInt8)} {xs:List α},many p ls=some xs→xs.length=ls.length∧sum f xs+ls.length≤sum szS ls
 | [],xs,h=>by simp only [many,Option.some.injEq] at h;subst h;simp [sum]
 |s::r,xs,h=>by
  rw [many] at h
  cases hx:whole p s with
  |none=>rw [hx] at h;simp at h
  |some x=>
   rw [hx] at h
   simp only at h
   cases hy:many p r with
   |none=>rw [hy] at h;simp at h
   |some l=>
    rw [hy] at h
    simp only [Option.some.injEq] at h
    subst h
    have h1:=zdz hp hx
    have h2:=many_sz hp hy
    simp only [sum_cons,List.length_cons]
    unfold szS at h2⊢
    omega
theorem YP {α:Type} {p:Pr α} {f:α→Nat} (hp:Fits p f) {s r:List UInt8} {xs:List α} (h:Yc p s=some (xs,r)):sum f xs+xs.length+1+r.length≤s.length:=by
 unfold Yc at h;cases hg:Y4 s with
 |none=>rw [hg] at h;simp at h
 |some y=>
  obtain⟨ls,q⟩:=y;rw [hg] at h;simp only at h;cases hm:many p ls with
  |none=>rw [hm] at h;simp at h
  |some zs=>
   rw [hm] at h;simp only [Option.some.injEq,Prod.mk.injEq] at h;obtain⟨rfl,rfl⟩:=h;have h1:=zcT hg;have h2:=many_sz hp hm;omega
theorem zer {α:Type} {p:Pr α} {f:α→Nat} (hp:Fits p f) {s r:List UInt8} {x:α} (h:zbu p s=some (x,r)):f x+1+r.length≤s.length:=by
 unfold zbu at h;cases hg:ZL s with
 |none=>rw [hg] at h;simp at h
 |some y=>
  obtain⟨t,q⟩:=y;rw [hg] at h;simp only at h;cases hm:whole p t with
  |none=>rw [hm] at h;simp at h
  |some z=>
   rw [hm] at h;simp only [Option.some.injEq,Prod.mk.injEq] at h;obtain⟨rfl,rfl⟩:=h;have h1:=YV hg;have h2:=zdz hp hm;omega
theorem Zm {α β:Type} {p:Pr α} {f:α→Pr β} {s r:List UInt8} {y:β} (h:(p.then f) s=some (y,r)):∃x q,p s=some (x,q)∧f x q=some (y,r):=by
 unfold Pr.then at h;cases hg:p s with
 |none=>rw [hg] at h;simp at h
 |some z=>rw [hg] at h;exact⟨z.1,z.2,rfl,h⟩
theorem ret_sz {α:Type} {x y:α} {s r:List UInt8} (h:Pr.ret x s=some (y,r)):x=y∧s=r:=by
 simpa [Pr.ret] using h
theorem zeO:Fits rdSg Sg.sz:=by
 intro s x r h;unfold rdSg at h;cases h1:Z6 4 s with
 |none=>rw [h1] at h;simp at h
 |some y=>
  obtain⟨l,q⟩:=y;rw [h1] at h;simp only at h;cases h2:ZL q with
  |none=>rw [h2] at h;simp at h
  |some y=>
   obtain⟨d,q2⟩:=y;rw [h2] at h;simp only at h;cases h3:ZL q2 with
   |none=>rw [h3] at h;simp at h
   |some y=>
    obtain⟨g,q3⟩:=y;rw [h3] at h;simp only at h;split at h
    · simp only [Option.some.injEq,Prod.mk.injEq] at h;obtain⟨rfl,rfl⟩:=h;have a1:=(zaD h1).2;have a2:=YV h2;have a3:=YV h3;unfold Sg.sz;simp only [List.length_nil];omega
    · simp at h
theorem rdSt_sz:Fits rdSt St.sz:=by
 intro s x r h;obtain⟨n,q1,h1,h⟩:=Zm h;obtain⟨a,q2,h2,h⟩:=Zm h;obtain⟨c,q3,h3,h⟩:=Zm h;obtain⟨g,q4,h4,h⟩:=Zm h;obtain⟨rfl,rfl⟩:=ret_sz h;have a1:=(zaD h1).2;have a2:=YV h2;have a3:=YP zeO h3;have a4:=zer zeO h4;unfold St.sz Sl.of;simp only;omega
theorem rdDe_sz:Fits rdDe De.sz:=by
 intro s x r h;obtain⟨n,q1,h1,h⟩:=Zm h;obtain⟨a,q2,h2,h⟩:=Zm h;obtain⟨c,q3,h3,h⟩:=Zm h;obtain⟨rfl,rfl⟩:=ret_sz h;have a1:=(zaD h1).2;have a2:=YV h2;have a3:=YP zeO h3;unfold De.sz Sl.of;simp only;omega
theorem rdHo_sz:Fits rdHo Ho.sz:=by
 intro s x r h;obtain⟨n,q1,h1,h⟩:=Zm h;obtain⟨a,q2,h2,h⟩:=Zm h;obtain⟨rfl,rfl⟩:=ret_sz h;have a1:=(zaD h1).2;have a2:=rdDe_sz _ _ _ h2;unfold Ho.sz;simp only;omega
theorem rdSn_sz:Fits rdSn Sn.sz:=by
 intro s x r h;obtain⟨n,q1,h1,h⟩:=Zm h;obtain⟨a,q2,h2,h⟩:=Zm h;obtain⟨b,q3,h3,h⟩:=Zm h;obtain⟨c,q4,h4,h⟩:=Zm h;obtain⟨d,q5,h5,h⟩:=Zm h;obtain⟨rfl,rfl⟩:=ret_sz h;have a1:=(zaD h1).2;have a2:=YV h2;have a3:=zcT h3;have a4:=YP zeO h4;have a5:=YP rdHo_sz h5;unfold Sn.sz Sl.of;simp only;omega
theorem rdMs_sz:Fits rdMs Ms.sz:=by
 intro s x r h;obtain⟨n,q1,h1,h⟩:=Zm h;obtain⟨a,q2,h2,h⟩:=Zm h;obtain⟨b,q3,h3,h⟩:=Zm h;obtain⟨c,q4,h4,h⟩:=Zm h;obtain⟨d,q5,h5,h⟩:=Zm h;obtain⟨e,q6,h6,h⟩:=Zm h;obtain⟨f,q7,h7,h⟩:=Zm h;obtain⟨rfl,rfl⟩:=ret_sz h;have a1:=(zaD h1).2;have a2:=YV h2;have a3:=zer zeO h3;have a4:=YP rdSt_sz h4;have a5:=YP rdDe_sz h5;have a6:=zer rdSn_sz h6;have a7:=zcT h7;unfold Ms.sz Sl.of;simp only;omega
structure Sc where
 rest:List UInt8
 bad:Bool
def tkR {α:Type} (g:List UInt8→Option (α × Nat)) (none:α) (s:Sc):α × Sc:=
 if s.bad then(none,⟨s.rest,true⟩) else match g s.rest with
 |Option.none=>(none,⟨s.rest,true⟩)
 |some (x,k)=>(x,⟨s.rest.drop k,false⟩)
def yM (n:Nat) (s:Sc):List Int × Sc:=
 if(tkR zQ [] s).1.length=n then tkR zQ [] s else(List.replicate n 0,⟨(tkR zQ [] s).2.rest,true⟩)
def ym (s:Sc):List UInt8 × Sc:=tkR yJ [] s
def ZK (s:Sc):List (List UInt8) × Sc:=tkR zK [] s
def yl {α:Type} (rd:Sc→α × Sc) (t:List UInt8) (s:Sc):α × Sc:=
 ((rd ⟨t,false⟩).1,⟨s.rest,s.bad ||(rd ⟨t,false⟩).2.bad || !(rd ⟨t,false⟩).2.rest.isEmpty⟩)
def zan {α:Type} (rd:Sc→α × Sc):List (List UInt8)→Sc→List α × Sc
 | [],s=>([],s)
 |t::l,s=>((yl rd t s).1::(zan rd l (yl rd t s).2).1,(zan rd l (yl rd t s).2).2)
def yx {α:Type} (rd:Sc→α × Sc) (s:Sc):List α × Sc:=zan rd (ZK s).1 (ZK s).2
def yS {α β:Type} (a:Sc→α × Sc) (f:α→Sc→β × Sc) (s:Sc):β × Sc:=f (a s).1 (a s).2
def zem {α:Type} (x:α) (s:Sc):α × Sc:=(x,s)
def tkOne {α:Type} (rd:Sc→α × Sc):Sc→α × Sc:=yS ym fun t=>yl rd t
def sg0:Sg:=⟨0,0,0,0, [], []⟩
def tkSg (s:Sc):Sg × Sc:=match whole rdSg s.rest with
 |none=>(sg0,⟨[],true⟩)
 |some x=>(x,⟨[],s.bad⟩)
def tkSt:Sc→St × Sc:=yS (yM 4) fun n=>yS ym fun a=>yS (yx tkSg) fun c=>yS (tkOne tkSg) fun g=>zem ⟨n.getD 0 0,n.getD 1 0,n.getD 2 0,n.getD 3 0,a,Sl.of c,g⟩
def tkDe:Sc→De × Sc:=yS (yM 1) fun n=>yS ym fun a=>yS (yx tkSg) fun c=>zem ⟨n.getD 0 0,a,Sl.of c⟩
def tkHo:Sc→Ho × Sc:=yS (yM 1) fun n=>yS tkDe fun e=>zem ⟨n.getD 0 0,e⟩
def tkSn:Sc→Sn × Sc:=yS (yM 1) fun n=>yS ym fun a=>yS ZK fun ch=>yS (yx tkSg) fun p=>yS (yx tkHo) fun c=>zem ⟨n.getD 0 0,a,Sl.of ch,Sl.of p,Sl.of c⟩
def tkMs:Sc→Ms × Sc:=yS (yM 6) fun n=>yS ym fun a=>yS (tkOne tkSg) fun g=>yS (yx tkSt) fun ss=>yS (yx tkDe) fun es=>yS (tkOne tkSn) fun x=>yS ZK fun t=>
 zem ⟨n.getD 0 0,n.getD 1 0,n.getD 2 0,n.getD 3 0,n.getD 4 0,a,n.getD 5 0,g,Sl.of ss,Sl.of es,x,Sl.of t⟩
structure Ag {α:Type} (p:Pr α) (tk:Sc→α × Sc):Prop where
 bad:∀s:Sc,s.bad=true→(tk s).2.bad=true
 len:∀s:Sc,(tk s).2.rest.length≤s.rest.length
 none:∀s:Sc,s.bad=false→p s.rest=none→(tk s).2.bad=true
 some:∀(s:Sc) (x:α) (r:List UInt8),s.bad=false→p s.rest=some (x,r)→tk s=(x,⟨r,false⟩)
theorem ag_ret {α:Type} (x:α):Ag (Pr.ret x) (zem x) where
 bad _ h:=h
 len _:=Nat.le_refl _
 none _ _ h:=by simp [Pr.ret] at h
 some s y r hb h:=by
  simp only [Pr.ret,Option.some.injEq,Prod.mk.injEq] at h;obtain⟨rfl,rfl⟩:=h;obtain⟨r,b⟩:=s;simp only at hb;subst hb;rfl
theorem Zn {α β:Type} {p:Pr α} {a:Sc→α × Sc} {q:α→Pr β} {f:α→Sc→β × Sc} (h:Ag p a) (k:∀x,Ag (q x) (f x)):Ag (p.then q) (yS a f) where
 bad s hs:=(k _).bad _ (h.bad s hs)
 len s:=Nat.le_trans ((k _).len _) (h.len s)
 none s hb hn:=by
  unfold Pr.then at hn;cases hp:p s.rest with
  |none=>exact(k _).bad _ (h.none s hb hp)
  |some y=>
   obtain⟨x,r⟩:=y;rw [hp] at hn;simp only at hn;unfold yS;rw [h.some s x r hb hp];exact(k x).none ⟨r,false⟩ rfl hn
 some s y r hb hn:=by
  unfold Pr.then at hn;cases hp:p s.rest with
  |none=>rw [hp] at hn;simp at hn
  |some z=>
   obtain⟨x,q'⟩:=z;rw [hp] at hn;simp only at hn;unfold yS;rw [h.some s x q' hb hp];exact(k x).some ⟨q',false⟩ y r rfl hn
theorem zdU {α:Type} (g:List UInt8→Option (α × Nat)) (d:α):Ag (off g) (tkR g d) where
 bad s h:=by unfold tkR;rw [if_pos h]
 len s:=by
  unfold tkR;split
  · exact Nat.le_refl _
  · split
    · exact Nat.le_refl _
    · simp
 none s hb h:=by
  unfold off at h;unfold tkR;rw [if_neg (by simp [hb])];cases hg:g s.rest with
  |none=>rfl
  |some y=>rw [hg] at h;simp at h
 some s x r hb h:=by
  unfold off at h;unfold tkR;rw [if_neg (by simp [hb])];cases hg:g s.rest with
  |none=>rw [hg] at h;simp at h
  |some y=>
   rw [hg] at h;simp only [Option.some.injEq,Prod.mk.injEq] at h;obtain⟨rfl,rfl⟩:=h;rfl
theorem zbS (n:Nat):Ag (Z6 n) (yM n) where
 bad s h:=by
  have:=(zdU zQ []).bad s h;unfold yM;split
  · exact this
  · rfl
 len s:=by
  have:=(zdU zQ []).len s;unfold yM;split <;> exact this
 none s hb h:=by
  unfold Z6 at h;unfold yM;cases hg:off zQ s.rest with
  |none=>
   have:=(zdU zQ []).none s hb hg;split
   · exact this
   · rfl
  |some y=>
   obtain⟨x,r⟩:=y;rw [hg] at h;simp only at h;have:=(zdU zQ []).some s x r hb hg;rw [this];split at h
   · simp at h
   · rename_i hl;rw [if_neg hl]
 some s x r hb h:=by
  unfold Z6 at h;unfold yM;cases hg:off zQ s.rest with
  |none=>rw [hg] at h;simp at h
  |some y=>
   obtain⟨x',r'⟩:=y;rw [hg] at h;simp only at h;have:=(zdU zQ []).some s x' r' hb hg;rw [this];split at h
   · rename_i hl;simp only [Option.some.injEq,Prod.mk.injEq] at h;obtain⟨rfl,rfl⟩:=h;rw [if_pos hl]
   · simp at h
theorem Zq:Ag ZL ym:=zdU yJ []
theorem YL:Ag Y4 ZK:=zdU zK []
theorem zee {α:Type} {p:Pr α} {tk:Sc→α × Sc} (h:Ag p tk) (t:List UInt8) (s:Sc) (hn:whole p t=none):(yl tk t s).2.bad=true:=by
 unfold whole at hn;unfold yl;cases hp:p t with
 |none=>
  have:=h.none ⟨t,false⟩ rfl hp;simp [this]
 |some y=>
  obtain⟨x,r⟩:=y;rw [hp] at hn;simp only at hn;rw [h.some ⟨t,false⟩ x r rfl hp];split at hn
  · simp at hn
  · rename_i hr;cases r with
    |nil=>simp at hr
    |cons a b=>simp
theorem zdW {α:Type} {p:Pr α} {tk:Sc→α × Sc} (h:Ag p tk) (t:List UInt8) (s:Sc) (x:α) (hs:whole p t=some x):yl tk t s=(x,s):=by
 unfold whole at hs;unfold yl;cases hp:p t with
 |none=>rw [hp] at hs;simp at hs
 |some y=>
  obtain⟨x',r⟩:=y;rw [hp] at hs;simp only at hs;rw [h.some ⟨t,false⟩ x' r rfl hp];split at hs
  · rename_i hr;subst hr;simp only [Option.some.injEq] at hs;subst hs;simp
  · simp at hs
theorem part_bad {α:Type} (tk:Sc→α × Sc) (t:List UInt8) (s:Sc) (h:s.bad=true):(yl tk t s).2.bad=true:=by
 unfold yl;simp [h]
theorem all_bad {α:Type} (tk:Sc→α × Sc):∀(l:List (List UInt8)) (s:Sc),s.bad=true→(zan tk l s).2.bad=true
 | [],_,h=>h
 |t::l,s,h=>by rw [zan];exact all_bad tk l _ (part_bad tk t s h)
theorem all_rest {α:Type} (tk:Sc→α × Sc):∀(l:List (List UInt8)) (s:Sc),(zan tk l s).2.rest=s.rest
 | [],_=>rfl
 |t::l,s=>by rw [zan];exact all_rest tk l _
theorem all_none {α:Type} {p:Pr α} {tk:Sc→α × Sc} (h:Ag p tk):∀(l:List (List UInt8)) (s:Sc),many p l=none→(zan tk l s).2.bad=true
 | [],_,hn=>by simp [many] at hn
 |t::l,s,hn=>by
  rw [many] at hn
  rw [zan]
  cases hw:whole p t with
  |none=>exact all_bad tk l _ (zee h t s hw)
  |some x=>
   rw [hw] at hn
   simp only at hn
   cases hm:many p l with
   |none=>exact all_none h l _ hm
   |some xs=>rw [hm] at hn;simp at hn
theorem all_some {α:Type} {p:Pr α} {tk:Sc→α × Sc} (h:Ag p tk):∀(l:List (List UInt8)) (s:Sc) (xs:List α),many p l=some xs→zan tk l s=(xs,s)
 | [],s,xs,hn=>by simp only [many,Option.some.injEq] at hn;subst hn;rfl
 |t::l,s,xs,hn=>by
  rw [many] at hn
  rw [zan]
  cases hw:whole p t with
  |none=>rw [hw] at hn;simp at hn
  |some x=>
   rw [hw] at hn
   simp only at hn
   cases hm:many p l with
   |none=>rw [hm] at hn;simp at hn
   |some ys=>
    rw [hm] at hn
    simp only [Option.some.injEq] at hn
    subst hn
    rw [zdW h t s x hw,all_some h l s ys hm]
theorem Yd {α:Type} {p:Pr α} {tk:Sc→α × Sc} (h:Ag p tk):Ag (Yc p) (yx tk) where
 bad s hs:=all_bad tk _ _ (YL.bad s hs)
 len s:=by
  unfold yx;rw [all_rest];exact YL.len s
 none s hb hn:=by
  unfold Yc at hn;unfold yx;cases hp:Y4 s.rest with
  |none=>exact all_bad tk _ _ (YL.none s hb hp)
  |some y=>
   obtain⟨l,r⟩:=y;rw [hp] at hn;simp only at hn;rw [YL.some s l r hb hp];cases hm:many p l with
   |none=>exact all_none h l _ hm
   |some xs=>rw [hm] at hn;simp at hn
 some s xs r hb hn:=by
  unfold Yc at hn;unfold yx;cases hp:Y4 s.rest with
  |none=>rw [hp] at hn;simp at hn
  |some y=>
   obtain⟨l,r'⟩:=y;rw [hp] at hn;simp only at hn;rw [YL.some s l r' hb hp];cases hm:many p l with
   |none=>rw [hm] at hn;simp at hn
   |some ys=>
    rw [hm] at hn;simp only [Option.some.injEq,Prod.mk.injEq] at hn;obtain⟨rfl,rfl⟩:=hn;exact all_some h l _ ys hm
theorem ag_one {α:Type} {p:Pr α} {tk:Sc→α × Sc} (h:Ag p tk):Ag (zbu p) (tkOne tk) where
 bad s hs:=part_bad tk _ _ (Zq.bad s hs)
 len s:=Zq.len s
 none s hb hn:=by
  unfold zbu at hn;unfold tkOne yS;cases hp:ZL s.rest with
  |none=>exact part_bad tk _ _ (Zq.none s hb hp)
  |some y=>
   obtain⟨t,r⟩:=y;rw [hp] at hn;simp only at hn;rw [Zq.some s t r hb hp];cases hm:whole p t with
   |none=>exact zee h t _ hm
   |some x=>rw [hm] at hn;simp at hn
 some s x r hb hn:=by
  unfold zbu at hn;unfold tkOne yS;cases hp:ZL s.rest with
  |none=>rw [hp] at hn;simp at hn
  |some y=>
   obtain⟨t,r'⟩:=y;rw [hp] at hn;simp only at hn;rw [Zq.some s t r' hb hp];cases hm:whole p t with
   |none=>rw [hm] at hn;simp at hn
   |some z=>
    rw [hm] at hn;simp only [Option.some.injEq,Prod.mk.injEq] at hn;obtain⟨rfl,rfl⟩:=hn;exact zdW h t _ z hm
theorem rdSg_rest {s r:List UInt8} {x:Sg} (h:rdSg s=some (x,r)):r= []:=by
 unfold rdSg at h;cases h1:Z6 4 s with
 |none=>rw [h1] at h;simp at h
 |some y=>
  rw [h1] at h;simp only at h;cases h2:ZL y.2 with
  |none=>rw [h2] at h;simp at h
  |some y2=>
   rw [h2] at h;simp only at h;cases h3:ZL y2.2 with
   |none=>rw [h3] at h;simp at h
   |some y3=>
    rw [h3] at h;simp only at h;split at h
    · simp only [Option.some.injEq,Prod.mk.injEq] at h;exact h.2.symm
    · simp at h
theorem ag_sg:Ag rdSg tkSg where
 bad s hs:=by unfold tkSg;split <;> simp [hs]
 len s:=by unfold tkSg;split <;> simp
 none s hb hn:=by
  unfold tkSg whole;rw [hn]
 some s x r hb hn:=by
  have hr:=rdSg_rest hn;subst hr;unfold tkSg;rw [zaj hn];simp only [hb]
theorem ag_st:Ag rdSt tkSt:=Zn (zbS 4) fun _=>Zn Zq fun _=>Zn (Yd ag_sg) fun _=>Zn (ag_one ag_sg) fun _=>ag_ret _
theorem ag_de:Ag rdDe tkDe:=Zn (zbS 1) fun _=>Zn Zq fun _=>Zn (Yd ag_sg) fun _=>ag_ret _
theorem ag_ho:Ag rdHo tkHo:=Zn (zbS 1) fun _=>Zn ag_de fun _=>ag_ret _
theorem ag_sn:Ag rdSn tkSn:=Zn (zbS 1) fun _=>Zn Zq fun _=>Zn YL fun _=>Zn (Yd ag_sg) fun _=>Zn (Yd ag_ho) fun _=>ag_ret _
theorem ag_ms:Ag rdMs tkMs:=Zn (zbS 6) fun _=>Zn Zq fun _=>Zn (ag_one ag_sg) fun _=>Zn (Yd ag_st) fun _=>Zn (Yd ag_de) fun _=>Zn (ag_one ag_sn) fun _=>Zn YL fun _=>ag_ret _
/-! what is read is in range -/
theorem unzig_i64 (n:Nat) (h:n<18446744073709551616):I64 (unzig n):=by
 unfold unzig I64;split <;> omega
theorem zdN {α:Type} (g:List UInt8→Option (α × Nat)) (P:α→Prop) (hg:∀s x k,g s=some (x,k)→P x):∀(n:Nat) (s:List UInt8) (xs:List α) (m:Nat),yt g n s=some (xs,m)→∀x∈xs,P x
 |0,s,xs,m,h=>by
  simp only [yt,Option.some.injEq,Prod.mk.injEq] at h
  obtain⟨rfl,rfl⟩:=h
  simp
 |n+1,s,xs,m,h=>by
  rw [yt] at h
  cases hx:g s with
  |none=>rw [hx] at h;simp at h
  |some y=>
   obtain⟨x,k⟩:=y
   rw [hx] at h
   simp only at h
   cases hy:yt g n (s.drop k) with
   |none=>rw [hy] at h;simp at h
   |some z=>
    obtain⟨ys,j⟩:=z
    rw [hy] at h
    simp only [Option.some.injEq,Prod.mk.injEq] at h
    obtain⟨rfl,rfl⟩:=h
    intro z hz
    rcases List.mem_cons.1 hz with rfl|hz
    · exact hg s _ k hx
    · exact zdN g P hg n _ ys j hy z hz
theorem getInts_i64 {s:List UInt8} {xs:List Int} {k:Nat} (h:zQ s=some (xs,k)):∀x∈xs,I64 x:=by
 unfold zQ zaP at h;cases hv:getV s with
 |none=>rw [hv] at h;simp at h
 |some y=>
  obtain⟨n,j⟩:=y;rw [hv] at h;simp only at h;cases hy:yt Zp n (s.drop j) with
  |none=>rw [hy] at h;simp at h
  |some z=>
   obtain⟨ys,i⟩:=z;rw [hy] at h;simp only [Option.some.injEq,Prod.mk.injEq] at h;obtain⟨rfl,rfl⟩:=h;refine zdN Zp I64 (fun s x k h=> ?_) n _ ys i hy;unfold Zp at h;cases hq:getV s with
   |none=>rw [hq] at h;simp at h
   |some y=>
    rw [hq] at h;simp only [Option.map_some,Option.some.injEq,Prod.mk.injEq] at h;obtain⟨rfl,_⟩:=h;exact unzig_i64 _ (zeZ 10 0 0 s y.1 y.2 ja ja hq)
theorem zaJ (n:Nat) (s:Sc):(yM n s).1.length=n∧∀x∈(yM n s).1,I64 x:=by
 unfold yM;split
 · rename_i h;refine⟨h, ?_⟩;unfold tkR;split
   · simp
   · cases hg:zQ s.rest with
     |none=>simp
     |some y=>exact getInts_i64 (k:=y.2) hg
 · refine⟨by simp,fun x hx=> ?_⟩;rw [List.mem_replicate] at hx;rw [hx.2];exact⟨by decide,by decide⟩
theorem tkInts_at (n:Nat) (s:Sc) (k:Nat) (h:k<n):I64 ((yM n s).1.getD k 0):=by
 have h1:=zaJ n s;rw [List.getD_eq_getElem?_getD,List.getElem?_eq_getElem ja];exact h1.2 _ (List.getElem_mem _)
theorem rdSg_ok {s r:List UInt8} {x:Sg} (h:rdSg s=some (x,r)):x.ok:=by
 unfold rdSg at h;cases h1:Z6 4 s with
 |none=>rw [h1] at h;simp at h
 |some y=>
  have hi:∀k,k<4→I64 (y.1.getD k 0):=fun k hk=>by
   have:=(zbS 4).some ⟨s,false⟩ y.1 y.2 rfl h1;have h2:=tkInts_at 4 ⟨s,false⟩ k hk;rw [this] at h2;exact h2
  rw [h1] at h;simp only at h;cases h2:ZL y.2 with
  |none=>rw [h2] at h;simp at h
  |some y2=>
   rw [h2] at h;simp only at h;cases h3:ZL y2.2 with
   |none=>rw [h3] at h;simp at h
   |some y3=>
    rw [h3] at h;simp only at h;split at h
    · simp only [Option.some.injEq,Prod.mk.injEq] at h;rw [←h.1];exact⟨hi 0 ja,hi 1 ja,hi 2 ja,hi 3 ja⟩
    · simp at h
theorem tkSg_ok (s:Sc):(tkSg s).1.ok:=by
 unfold tkSg;split
 · exact⟨⟨by decide,by decide⟩,⟨by decide,by decide⟩,⟨by decide,by decide⟩,⟨by decide,by decide⟩⟩
 · rename_i x hx;unfold whole at hx;cases hp:rdSg s.rest with
   |none=>rw [hp] at hx;simp at hx
   |some y=>
    rw [hp] at hx;simp only at hx;split at hx
    · simp only [Option.some.injEq] at hx;subst hx;exact rdSg_ok (r:=y.2) hp
    · simp at hx
/-! the sizes of whatever is read -/
theorem zcr (s:Sc):(ym s).1.length+(ym s).2.rest.length≤s.rest.length:=by
 unfold ym tkR;split
 · simp
 · cases hg:yJ s.rest with
   |none=>simp
   |some y=>
    have:=Yb (x:=y.1) (k:=y.2) hg;simp only [List.length_drop];omega
theorem zbz (s:Sc):sum szS (ZK s).1+(ZK s).2.rest.length≤s.rest.length:=by
 unfold ZK tkR;split
 · simp [sum]
 · cases hg:zK s.rest with
   |none=>simp [sum]
   |some y=>
    have:=zaQ yJ szS (fun s x k h=>by have:=Yb h;unfold szS;omega) (s:=s.rest) (xs:=y.1) (k:=y.2) hg;simp only [List.length_drop];omega
theorem zbM (n:Nat) (s:Sc):(yM n s).2.rest.length≤s.rest.length:=(zbS n).len s
open Go.RowKit
structure Pt where
 (time kind who slot number:Int) (text result:List UInt8) (msg:Ms)
def ptH (x:Pt):List Value:= [.int .i64 x.time, .int .i64 x.kind, .int .i64 x.who, .int .i64 x.slot, .int .i64 x.number, .string ⟨x.text.toArray⟩, .string ⟨x.result.toArray⟩]
def ptC (x:Pt):List Value:=ptH x++msC x.msg
theorem Ye (x:Pt):(ptC x).length=28:=rfl
theorem ptC_msg (x:Pt) (j:Nat):(ptC x)[7+j]? =(msC x.msg)[j]?:=by
 unfold ptC;rw [List.getElem?_append_right (by show 7≤7+j;omega)];show(msC x.msg)[7+j- 7]? =_;rw [show 7+j- 7=j from by omega]
def Pt.ok (x:Pt) (w:World):Prop:=(I64 x.time∧I64 x.kind∧I64 x.who∧I64 x.slot∧I64 x.number)∧x.msg.ok w
theorem Pt.below {x:Pt} {w w':World} (h:x.ok w) (hb:Below w.heap.size w w'):x.ok w':=⟨h.1,Ms.below h.2 hb⟩
def Pt.sz (x:Pt):Nat:=x.text.length+x.result.length+x.msg.sz+7
def ZV (w:World) (A:Option Addr) (l:List Pt):Prop:=Rd w 28 A l.length (l.flatMap ptC)∧∀x∈l,x.ok w
theorem ZV.below {w w':World} {A:Option Addr} {l:List Pt} (h:ZV w A l) (hb:Below w.heap.size w w'):ZV w' A l:=⟨Rd.below h.1 hb,fun x hx=>Pt.below (h.2 x hx) hb⟩
theorem ZV.at {w:World} {A:Option Addr} {l:List Pt} (h:ZV w A l) {k:Nat} (hk:k<l.length) :
    ∃b o,A=some ⟨b,o,none⟩∧b<w.heap.size∧∀w',Below w.heap.size w w'→w'.rangeAt b (o+k * 28) (ptC l[k]):=by
 obtain⟨b,o,hA,hb,hc⟩:=h.1.at Ye ja hk;exact⟨b,o,hA,hb,fun w' hw j v hv=>hc w' hw j v hv⟩
/-! few points -/
def zeY (m:Ms):Bool:=decide ((yO m).length≤80000) && decide (m.texts.l.length≤600)
def zde (x:Pt):Bool:=decide (x.text.length≤2100) && decide (x.result.length≤500) && zeY x.msg
def zbb (l:List Pt):Bool:=l.all zde && decide (l.length≤40)
/-! operations -/
structure Opn where
 (client first last:Int) (op result:List UInt8)
 deriving DecidableEq
def opC (x:Opn):List Value:= [.int .i64 x.client, .int .i64 x.first, .int .i64 x.last, .string ⟨x.op.toArray⟩, .string ⟨x.result.toArray⟩]
theorem opC_len (x:Opn):(opC x).length=5:=rfl
def isCl (n:Int):Bool:=decide (0≤n) && decide (n<6)
def isSv (n:Int):Bool:=decide (0≤n) && decide (n<12)
def za3 (x:Pt):Bool:=decide (x.kind=1) && isCl x.who
def zcU (x y:Pt):Bool:=decide (y.kind=2) && decide (y.who=x.who) && decide (y.number=x.number)
def opOf (x:Pt) (i:Nat) (r:List Pt):Opn:=match r.findIdx? (zcU x) with
 |none=>⟨x.who,i, -1,x.text, []⟩
 |some k=>⟨x.who,i,i+1+k,x.text,(r[k]?.map Pt.result).getD []⟩
def YA (i:Nat):List Pt→List Opn
 | []=> []
 |x::r=>if za3 x then opOf x i r::YA (i+1) r else YA (i+1) r
def ze8 (l:List Pt) (k:Nat):List Opn:=if h:k<l.length then(if za3 l[k] then [opOf l[k] k (l.drop (k+1))] else []) else []
theorem opsFrom_at (l:List Pt) (k:Nat):YA k (l.drop k)=ze8 l k++YA (k+1) (l.drop (k+1)):=by
 unfold ze8;by_cases h:k<l.length
 · rw [dif_pos h,List.drop_eq_getElem_cons h,YA];split <;> simp
 · rw [dif_neg h,List.drop_eq_nil_of_le ja,List.drop_eq_nil_of_le ja];rfl
def cut:List UInt8→List (List UInt8)
 | []=> [[]]
 |b::r=>if b=32 then []::cut r else match cut r with
  | []=> [[b]]
  |x::t=>(b::x)::t
theorem cut_ne:∀s,cut s≠ []
 | []=>by simp [cut]
 |b::r=>by
  unfold cut
  split
  · simp
  · split <;> simp
theorem zdH (s:List UInt8):∃x t,cut s=x::t:=by
 cases h:cut s with
 |nil=>exact absurd h (cut_ne s)
 |cons x t=>exact⟨x,t,rfl⟩
theorem index_cons_ne {b:UInt8} {r:List UInt8} (h:b≠32):Lib.index (b::r) [32]=if Lib.index r [32] == -1 then -1 else Lib.index r [32]+1:=by
 rw [Lib.index];have:List.isPrefixOf [(32:UInt8)] (b::r)=false:=by
  simp [List.isPrefixOf];exact fun e=>h e.symm
 rw [this];rfl
theorem index_cons_eq (r:List UInt8):Lib.index (32::r) [32]=0:=by
 rw [Lib.index];have:List.isPrefixOf [(32:UInt8)] (32::r)=true:=by simp [List.isPrefixOf]
 rw [this];rfl
theorem zfy:∀s:List UInt8,Lib.splitK [32] 0 (Lib.count s [32]) s=cut s
 | []=>by
  unfold cut
  generalize Lib.count [] [32]=k
  cases k with
  |zero=>rfl
  |succ k=>
   unfold Lib.splitK
   rw [if_pos jf]
 |b::r=>by
  have ih:=zfy r
  by_cases h:b=32
  · subst h
    rw [Lib.count_cons_eq,Nat.add_comm,Lib.splitK,index_cons_eq]
    rw [if_neg jf]
    simp only [cut,if_true]
    rw [←ih]
    rfl
  · rw [Lib.count_cons_ne b 32 r h]
    unfold cut
    rw [if_neg h,←ih]
    generalize Lib.count r [32]=k
    cases k with
    |zero=>rfl
    |succ k=>
     rw [Lib.splitK,Lib.splitK,index_cons_ne h]
     have hge:=Lib.index_ge r [32]
     by_cases hi:Lib.index r [32]=-1
     · rw [hi]
       simp
     · have h1:(Lib.index r [32] == -1)=false:=by simpa using hi
       have h2:((Lib.index r [32]+1) == -1)=false:=by
        rw [beq_eq_false_iff_ne];omega
       simp only [h1,h2,Bool.false_eq_true,if_false];have h3:(Lib.index r [32]+1).toNat=(Lib.index r [32]).toNat+1:=by omega
       rw [h3];simp []
theorem splitB_cut (s:ByteArray):(Lib.splitB ⟨#[32]⟩ 0 (Lib.countB s ⟨#[32]⟩) s).map (·.data.toList)=cut s.data.toList:=by
 rw [Lib.splitB_data];exact zfy _
theorem zck (x:List UInt8) (r:List (List UInt8)):Lib.joinTail [32] (x::r)=32::Lib.join (x::r) [32]:=by
 rw [Lib.join_cons];simp [Lib.joinTail]
theorem join_cut:∀s,Lib.join (cut s) [32]=s
 | []=>by simp [cut,Lib.join_one]
 |b::r=>by
  have ih:=join_cut r
  obtain⟨x,t,hc⟩:=zdH r
  rw [hc] at ih
  unfold cut
  by_cases h:b=32
  · rw [if_pos h,Lib.join_cons,hc,zck,ih,h]
    rfl
  · rw [if_neg h,hc]
    rw [Lib.join_cons] at ih⊢
    show b::(x++Lib.joinTail [32] t)=_
    rw [ih]
theorem cut_one:∀x:List UInt8,(32:UInt8)∉x→cut x= [x]
 | [],_=>rfl
 |b::r,h=>by
  have hb:b≠32:=fun e=>h (by rw [e];exact List.mem_cons_self ..)
  have hr:(32:UInt8)∉r:=fun hm=>h (List.mem_cons_of_mem _ hm)
  unfold cut
  rw [if_neg hb,cut_one r hr]
theorem cut_app:∀x:List UInt8,(32:UInt8)∉x→∀t,cut (x++32::t)=x::cut t
 | [],_,t=>by simp [cut]
 |b::r,h,t=>by
  have hb:b≠32:=fun e=>h (by rw [e];exact List.mem_cons_self ..)
  have hr:(32:UInt8)∉r:=fun hm=>h (List.mem_cons_of_mem _ hm)
  rw [List.cons_append,cut,if_neg hb,cut_app r hr t]
theorem cut_join:∀(l:List (List UInt8)),l≠ []→(∀x∈l,(32:UInt8)∉x)→cut (Lib.join l [32])=l
 | [],h,_=>absurd rfl h
 | [x],_,h=>by rw [Lib.join_one];exact cut_one x (h x (List.mem_cons_self ..))
 |x::y::r,_,h=>by
  rw [Lib.join_cons,zck,cut_app x (h x (List.mem_cons_self ..)),cut_join (y::r) jd (fun z hz=>h z (List.mem_cons_of_mem _ hz))]
theorem join_is (s:List UInt8) (l:List (List UInt8)) (hl:l≠ []) (hf:∀x∈l,(32:UInt8)∉x):Lib.join l [32]=s↔l=cut s:=
 ⟨fun h=>by rw [←h,cut_join l hl hf],fun h=>by rw [h,join_cut]⟩
/-! kinds of operations -/
def zn (k:Nat):List UInt8:=match k with
 |1=> [112,117,116]
 |2=> [103,101,116]
 |3=> [100,101,108,101,116,101]
 |4=> [97,112,112,101,110,100]
 |5=> [99,97,115]
 |6=> [99,111,117,110,116]
 |_=> []
def graphic (s:List UInt8) (n:Nat):Bool:=s.all (fun b=>decide (33≤b.toNat) && decide (b.toNat≤126)) && decide (s≠ []) && decide (s.length≤n)
def zB (s:List UInt8) (there:Bool):Bool:=if there then graphic s 64 else decide (s= [])
def zt (k:Nat):Bool:=decide (1≤k) && decide (k≤5)
def zx (k:Nat):Bool:=decide (k=5)
def zD (k:Nat):Bool:=decide (k=1) || decide (k=4) || decide (k=5)
theorem graphic_free {s:List UInt8} {n:Nat} (h:graphic s n=true):(32:UInt8)∉s:=fun hm=>by
 simp only [graphic,Bool.and_eq_true,List.all_eq_true,decide_eq_true_eq] at h
 have:=(h.1.1 _ hm).1
 exact absurd this jf
theorem yE {s:List UInt8} {n:Nat} (h:graphic s n=true):s≠ []:=by
 simp only [graphic,Bool.and_eq_true,decide_eq_true_eq] at h;exact h.1.2
theorem opWord_free (k:Nat):(32:UInt8)∉zn k:=by
 unfold zn;split <;> decide
def zO (k:Nat) (key old new:List UInt8):Bool:=zB key (zt k) && zB old (zx k) && zB new (zD k)
def zas (k:Nat) (key old new:List UInt8):List (List UInt8):=zn k:: [key,old,new].filter (fun s=>decide (s≠ []))
def yo (k:Nat) (key old new:List UInt8):List UInt8:=Lib.join (zas k key old new) [32]
def opN (k:Nat):Nat:=match k with
 |1=>2
 |2=>1
 |3=>1
 |4=>2
 |5=>3
 |_=>0
def YB (k:Nat) (r:List (List UInt8)):Bool:=decide (r.length=opN k) && r.all (fun x=>graphic x 64)
def kindOk (k:Nat) (s:List UInt8):Bool:=match cut s with
 | []=>false
 |x::r=>decide (x=zn k) && YB k r
def opOk (s:List UInt8):Bool:=kindOk 1 s || kindOk 2 s || kindOk 3 s || kindOk 4 s || kindOk 5 s || kindOk 6 s
theorem zda {s x:List UInt8} {r:List (List UInt8)} (h:cut s=x::r) (k:Nat):kindOk k s=(decide (x=zn k) && YB k r):=by
 unfold kindOk;rw [h]
def Yg (t:Bool) (r:List (List UInt8)):List UInt8:=if t then r.headD [] else []
def yA (t:Bool) (r:List (List UInt8)):List (List UInt8):=if t then r.tail else r
theorem zaz {s:List UInt8}:zB s false=decide (s= []):=rfl
theorem zb1 {s:List UInt8}:zB s true=graphic s 64:=rfl
theorem Yi (n:Nat):graphic [] n=false:=by simp [graphic]
theorem yV {s:List UInt8} {n:Nat} (h:graphic s n=true):decide (s≠ [])=true:=decide_eq_true (yE h)
theorem zcv {s:List UInt8} {r:List (List UInt8)} {k:Nat} (h:cut s=zn k::r) (fs:List (List UInt8)) (hf:∀x∈fs,graphic x 64=true) :
    (Lib.join (zn k::fs) [32]=s)↔fs=r:=by
 rw [join_is s (zn k::fs) jd (fun x hx=>by
  rcases List.mem_cons.1 hx with rfl|hx
  · exact opWord_free k
  · exact graphic_free (hf x hx)),h]
 simp
def YC (k:Nat) (s:List UInt8) (r:List (List UInt8)):Bool:=
 zO k (Yg (zt k) r) (Yg (zx k) (yA (zt k) r)) (Yg (zD k) (yA (zx k) (yA (zt k) r))) &&
 (yo k (Yg (zt k) r) (Yg (zx k) (yA (zt k) r)) (Yg (zD k) (yA (zx k) (yA (zt k) r))) == s)
theorem prog_one {s:List UInt8} {r:List (List UInt8)} {k:Nat} (h:cut s=zn k::r) (hk:zt k=true∧zx k=false∧zD k=false∧opN k=1):YC k s r=YB k r:=by
 obtain⟨h1,h2,h3,h4⟩:=hk;unfold YC zO YB;simp only [h1,h2,h3,h4,Yg,yA,if_true,Bool.false_eq_true,if_false,zaz,zb1,decide_true,Bool.and_true];cases r with
 |nil=>simp [Yi]
 |cons a t=>
  simp only [List.headD_cons];by_cases ha:graphic a 64=true
  · have hx:=zcv h [a] (by simp [ha]);have he:yo k a [] []=Lib.join (zn k:: [a]) [32]:=by simp [yo,zas,yE ha]
    rw [Bool.eq_iff_iff];simp only [ha,Bool.true_and,beq_iff_eq];rw [he,hx];constructor
    · intro e;obtain rfl:t= []:=by simpa using e.symm
      simp [ha]
    · exact fo70
  · exact fo141
theorem prog_two {s:List UInt8} {r:List (List UInt8)} {k:Nat} (h:cut s=zn k::r) (hk:zt k=true∧zx k=false∧zD k=true∧opN k=2):YC k s r=YB k r:=by
 obtain⟨h1,h2,h3,h4⟩:=hk;unfold YC zO YB;simp only [h1,h2,h3,h4,Yg,yA,if_true,Bool.false_eq_true,if_false,zaz,zb1,decide_true,Bool.and_true];rcases r with _|⟨a,_|⟨b,t⟩⟩
 · simp [Yi]
 · simp [Yi]
 · simp only [List.headD_cons,List.tail_cons];by_cases ha:graphic a 64=true
   · by_cases hb:graphic b 64=true
     · have hx:=zcv h [a,b] (by simp [ha,hb]);have he:yo k a [] b=Lib.join (zn k:: [a,b]) [32]:=by simp [yo,zas,yE ha,yE hb]
       rw [Bool.eq_iff_iff];simp only [ha,hb,Bool.true_and,beq_iff_eq];rw [he,hx];constructor
       · intro e;obtain rfl:t= []:=by simpa using e.symm
         simp [ha,hb]
       · exact fo70
     · have hb':graphic b 64=false:=by simpa using hb
       simp [hb']
   · exact fo141
theorem prog_three {s:List UInt8} {r:List (List UInt8)} {k:Nat} (h:cut s=zn k::r) (hk:zt k=true∧zx k=true∧zD k=true∧opN k=3):YC k s r=YB k r:=by
 obtain⟨h1,h2,h3,h4⟩:=hk;unfold YC zO YB;simp only [h1,h2,h3,h4,Yg,yA,if_true,zb1];rcases r with _|⟨a,_|⟨b,_|⟨c,t⟩⟩⟩
 · simp [Yi]
 · simp [Yi]
 · simp [Yi]
 · simp only [List.headD_cons,List.tail_cons];by_cases ha:graphic a 64=true
   · by_cases hb:graphic b 64=true
     · by_cases hc:graphic c 64=true
       · have hx:=zcv h [a,b,c] (by simp [ha,hb,hc]);have he:yo k a b c=Lib.join (zn k:: [a,b,c]) [32]:=by simp [yo,zas,yE ha,yE hb,yE hc]
         rw [Bool.eq_iff_iff];simp only [ha,hb,hc,Bool.true_and,beq_iff_eq];rw [he,hx];constructor
         · intro e;obtain rfl:t= []:=by simpa using e.symm
           simp [ha,hb,hc]
         · exact fo70
       · have hc':graphic c 64=false:=by simpa using hc
         simp [hc']
     · have hb':graphic b 64=false:=by simpa using hb
       simp [hb']
   · exact fo141
theorem prog_none {s:List UInt8} {r:List (List UInt8)} {k:Nat} (h:cut s=zn k::r) (hk:zt k=false∧zx k=false∧zD k=false∧opN k=0):YC k s r=YB k r:=by
 obtain⟨h1,h2,h3,h4⟩:=hk;unfold YC zO YB;simp only [h1,h2,h3,h4,Yg,yA,Bool.false_eq_true,if_false,zaz,decide_true,Bool.true_and];have hx:=zcv h [] jd;have he:yo k [] [] []=Lib.join (zn k:: []) [32]:=by simp [yo,zas]
 rw [Bool.eq_iff_iff];simp only [beq_iff_eq];rw [he,hx];cases r with
 |nil=>simp
 |cons a t=>simp
theorem prog_kind {s:List UInt8} {r:List (List UInt8)} {k:Nat} (h1:1≤k) (h6:k≤6) (h:cut s=zn k::r):YC k s r=kindOk k s:=by
 rw [zda h k,decide_eq_true rfl,Bool.true_and];have:k=1∨k=2∨k=3∨k=4∨k=5∨k=6:=by omega
 rcases this with rfl|rfl|rfl|rfl|rfl|rfl
 · exact prog_two h ⟨rfl,rfl,rfl,rfl⟩
 · exact prog_one h ⟨rfl,rfl,rfl,rfl⟩
 · exact prog_one h ⟨rfl,rfl,rfl,rfl⟩
 · exact prog_two h ⟨rfl,rfl,rfl,rfl⟩
 · exact prog_three h ⟨rfl,rfl,rfl,rfl⟩
 · exact prog_none h ⟨rfl,rfl,rfl,rfl⟩
theorem kind_no {s x:List UInt8} {r:List (List UInt8)} {k:Nat} (h:cut s=x::r) (hx:x≠zn k):kindOk k s=false:=by
 rw [zda h k,decide_eq_false hx];rfl
theorem zd5 {s:List UInt8} {k:Nat} (h1:1≤k) (h6:k≤6) (h:kindOk k s=true):opOk s=true:=by
 have:k=1∨k=2∨k=3∨k=4∨k=5∨k=6:=by omega
 unfold opOk;rcases this with rfl|rfl|rfl|rfl|rfl|rfl <;> simp [h]
theorem opOk_no {s:List UInt8} (h:∀k,1≤k→k≤6→kindOk k s=false):opOk s=false:=by
 unfold opOk;rw [h 1,h 2,h 3,h 4,h 5,h 6] <;> first|rfl|omega
/-! the reference's test -/
def zH (r:List (List UInt8)):List UInt8:=r.headD []
def zI (k:Nat) (r:List (List UInt8)):List UInt8:=if k=5 then r.tail.headD [] else []
def zA (k:Nat) (r:List (List UInt8)):List UInt8:=if k=5 then r.tail.tail.headD [] else r.tail.headD []
def refOk (k:Nat) (s:List UInt8) (r:List (List UInt8)):Bool:=
 zO k (zH r) (zI k r) (zA k r) &&(yo k (zH r) (zI k r) (zA k r) == s)
theorem ref_kind {s:List UInt8} {r:List (List UInt8)} {k:Nat} (h1:1≤k) (h6:k≤6) (h:cut s=zn k::r):refOk k s r=kindOk k s:=by
 have hp:=prog_kind h1 h6 h;rw [←hp];have:k=1∨k=2∨k=3∨k=4∨k=5∨k=6:=by omega
 have hn2:∀k,zD k=false→opN k≤1→k≤6→cut s=zn k::r→YC k s r=YB k r→r.tail.headD []≠ []→zA k r=r.tail.headD []→refOk k s r=YC k s r:=by
  intro k hk hN _ _ hq hne hr;rw [hq];have e1:refOk k s r=false:=by
   unfold refOk zO;rw [hr,hk,zaz,decide_eq_false hne];simp
  have e2:YB k r=false:=by
   unfold YB;rcases r with _|⟨a,_|⟨b,t⟩⟩
   · simp at hne
   · simp at hne
   · rw [decide_eq_false (by simp only [List.length_cons];omega)];rfl
  rw [e1,e2]
 have hr:YC k s r=YB k r:=by rw [hp,zda h k,decide_eq_true rfl,Bool.true_and]
 rcases this with rfl|rfl|rfl|rfl|rfl|rfl
 · rfl
 · by_cases hn:r.tail.headD []= []
   · unfold refOk YC;rw [show zA 2 r= [] from hn];rfl
   · exact hn2 2 rfl jf jf h hr hn rfl
 · by_cases hn:r.tail.headD []= []
   · unfold refOk YC;rw [show zA 3 r= [] from hn];rfl
   · exact hn2 3 rfl jf jf h hr hn rfl
 · rfl
 · rfl
 · by_cases hn:r.tail.headD []= []
   · by_cases hk:r.headD []= []
     · unfold refOk YC;rw [show zA 6 r= [] from hn,show zH r= [] from hk];rfl
     · rw [hr];have e1:refOk 6 s r=false:=by
        unfold refOk zO;rw [show zt 6=false from rfl,zaz,decide_eq_false (show ¬(zH r= []) from hk)];simp
       have e2:YB 6 r=false:=by
        unfold YB;cases r with
        |nil=>simp at hk
        |cons a t=>rw [decide_eq_false (by simp [opN])];rfl
       rw [e1,e2]
   · exact hn2 6 rfl jf jf h hr hn rfl
end Go.Proofs.YtepbbaifpckcpaaGreatDoor
namespace Go.Proofs.YtepbbaifpckcpaaGreatDoor.Q06
open Go.Proofs.YtepbbaifpckcpaaGreatDoor
def isLet (n:Int):Bool:=decide (n=95) ||(decide (65≤n) && decide (n≤90)) ||(decide (97≤n) && decide (n≤122))
def zY (n:Int):Bool:=decide (48≤n) && decide (n≤57)
def isCon (n:Int):Bool:=isLet n || zY n
def isSp (n:Int):Bool:=decide (n=32) || decide (n=9) || decide (n=13) || decide (n=10)
def symbols:List UInt8:= [123,125,40,41,91,93,44,59,58,61,47,43,45,60,62,124,38,42]
def isSym (n:Int):Bool:=symbols.any fun c=>decide ((c.toNat:Int)=n)
def hexv (n:Int):Int:=if 48≤n∧n≤57 then n- 48 else if 97≤n∧n≤102 then n- 87 else -1
def pb (p:Int→Bool) (c:UInt8):Bool:=p c.toNat
def run (p:Int→Bool) (l:List UInt8):Nat:=(l.takeWhile (pb p)).length
theorem run_at (p:Int→Bool) (l:List UInt8) (k:Nat) (hk:k≤l.length) (hj:∀j,(h:j<l.length)→j<k→p l[j].toNat=true)
    (hn:(h:k<l.length)→p l[k].toNat=false):run p l=k:=by
 induction l generalizing k with
 |nil=>simp at hk;subst hk;rfl
 |cons c r ih=>
  cases k with
  |zero=>have:=hn jd;simp at this;simp [run,pb,this]
  |succ k=>
   have h0:=hj 0 jd ja;simp at h0;have:=ih k jce (fun j h h'=>by have:=hj (j+1) jac ja;simpa using this) (fun h=>by have:=hn jac;simpa using this);simp only [run,pb,List.takeWhile_cons,h0,if_true,List.length_cons] at this⊢;omega
theorem run_le (p:Int→Bool) (l:List UInt8):run p l≤l.length:=by
 unfold run;exact(List.takeWhile_sublist _).length_le
theorem zci (p:Int→Bool) (l:List UInt8):l.take (run p l)=l.takeWhile (pb p):=by
 induction l with
 |nil=>rfl
 |cons c r ih=>
  cases h:pb p c
  · simp [run,h]
  · simp only [run,List.takeWhile_cons,h,if_true,List.length_cons,List.take_succ_cons] at ih⊢;rw [ih]
theorem drop_run (p:Int→Bool) (l:List UInt8):l.drop (run p l)=l.dropWhile (pb p):=by
 induction l with
 |nil=>rfl
 |cons c r ih=>
  cases h:pb p c
  · simp [run,h]
  · simp only [run,List.takeWhile_cons,List.dropWhile_cons,h,if_true,List.length_cons,List.drop_succ_cons] at ih⊢;rw [ih]
def Yy:List UInt8→Int→Option Int
 | [],n=>some n
 |c::r,n=>if(9223372036854775807-((c.toNat:Int)- 48)) / 10<n then none else Yy r (10 * n+((c.toNat:Int)- 48))
def number (l:List UInt8):Int × Bool:=
 if 1<l.length && l.head? == some 48 then(0,false) else
 match Yy l 0 with
 |none=>(0,false)
 |some n=>(n, !l.isEmpty)
def za9 (l:List UInt8):Option (Int × Nat):=
 if 1<run zY l && l.head? == some 48 then none else(Yy (l.takeWhile (pb zY)) 0).map (·,run zY l)
def escR (l:List UInt8):Int × Int:=
 match l with
 | []=>(0,0)
 |c::r=>
  if(c.toNat:Int)=34∨(c.toNat:Int)=92 then(c.toNat,1)
  else if(c.toNat:Int)=110 then(10,1)
  else if(c.toNat:Int)=120 then
   match r with
   |a::b::_=>if 0≤hexv a.toNat∧0≤hexv b.toNat then(16 * hexv a.toNat+hexv b.toNat,3) else(0,0)
   |_=>(0,0)
  else(0,0)
def chrR (l:List UInt8):Int × Int:=
 match l with
 | []=>(0,0)
 |c::r=>
  if(c.toNat:Int) <32∨126<(c.toNat:Int)∨(c.toNat:Int)=34 then(0,0)
  else if(c.toNat:Int)≠92 then(c.toNat,1)
  else if(escR r).2=0 then(0,0) else((escR r).1,(escR r).2+1)
def yL (l acc:List UInt8) (i:Nat):List UInt8 × Int:=
 match l with
 | []=>([],0)
 |c::r=>if(c.toNat:Int)=34 then(acc,i+1) else
  if(chrR (c::r)).2=0 then([],0) else yL (r.drop ((chrR (c::r)).2.toNat- 1)) (acc++ [(chrR (c::r)).1.toNat.toUInt8]) (i+(chrR (c::r)).2.toNat)
termination_by l.length
decreasing_by simp;omega
def litR (l:List UInt8):List UInt8 × Int:=
 match l with
 | []=>([],0)
 |c::r=>if(c.toNat:Int)=34 then yL r [] 1 else([],0)
structure Tok where
 kind:Int
 text:List UInt8
 int:Int
 str:List UInt8
 line:Int
 deriving DecidableEq
def tok0:Tok:=⟨0, [],0, [],0⟩
def tok1 (l:List UInt8):Option (Tok × Nat):=
 match l with
 | []=>none
 |c::r=>
  if isLet c.toNat then if 24<run isCon (c::r) then none else some (⟨1,(c::r).takeWhile (pb isCon),0, [],0⟩,run isCon (c::r))
  else if zY c.toNat then(za9 (c::r)).map fun x=>(⟨2, [],x.1, [],0⟩,x.2)
  else if(c.toNat:Int)=34 then if(litR (c::r)).2=0 then none else some (⟨3, [],0,(litR (c::r)).1,0⟩,(litR (c::r)).2.toNat)
  else if isSym c.toNat then some (⟨4, [c],0, [],0⟩,1)
  else none
def zc1 (c:UInt8):Bool:=c != 10
def toks (l:List UInt8) (line:Int) (acc:List Tok):Except Int (List Tok):=
 match l with
 | []=> .ok acc
 |c::r=>
  if isSp c.toNat then toks r (if c == 10 then line+1 else line) acc
  else if c == 47 && r.head? == some 47 then toks (r.dropWhile zc1) line acc
  else
   match tok1 (c::r) with
   |none=> .error line
   |some (t,n)=>toks (r.drop (n- 1)) line (acc++ [{t with line:=line}])
termination_by l.length
decreasing_by
 · simp
 · have:=(List.dropWhile_sublist zc1 (l:=r)).length_le;simp;omega
 · simp;omega
def zar (l:List UInt8):Nat:=(l.filter (· == 10)).length
theorem toks_spaces (l:List UInt8) (line:Int) (acc:List Tok) :
    toks l line acc=toks (l.dropWhile (pb isSp)) (line+zar (l.takeWhile (pb isSp))) acc:=by
 induction l generalizing line with
 |nil=>simp [zar]
 |cons c r ih=>
  cases h:pb isSp c
  · simp [h,zar]
  · have h':isSp c.toNat=true:=h;rw [toks];simp only [h',if_true,List.dropWhile_cons,List.takeWhile_cons,h];rw [ih];congr 1;simp only [zar,List.filter_cons];by_cases hc:c=10 <;> simp [hc] <;> omega
theorem toks_comment (r:List UInt8) (line:Int) (acc:List Tok) (h:r.head? =some 47) :
    toks (47::r) line acc=toks (r.dropWhile zc1) line acc:=by
 rw [toks];simp [isSp,h]
theorem toks_tok (c:UInt8) (r:List UInt8) (line:Int) (acc:List Tok) (hs:isSp c.toNat=false) (hc:(c == 47 && r.head? == some 47)=false) :
    toks (c::r) line acc=match tok1 (c::r) with|none=> .error line|some (t,n)=>toks (r.drop (n- 1)) line (acc++ [{t with line:=line}]):=by
 rw [toks];simp [hs,hc]
end Go.Proofs.YtepbbaifpckcpaaGreatDoor.Q06
