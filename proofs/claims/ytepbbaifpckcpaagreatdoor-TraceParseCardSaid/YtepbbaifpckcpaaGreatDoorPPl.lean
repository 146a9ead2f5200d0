/- Short forms of the steps of a region that draws its order. -/
import Derived.Test.YtepbbaifpckcpaaGreatDoorPFo
namespace Go.Proofs.YtepbbaifpckcpaaGreatDoor
open Go.RowKit
section
variable {P : Program} {md : Region.Mode} {ops : Array Oper} {Q : Exit → Act → World → Prop} {S : World → Prop} {oi : Oper} {v : Value} {fuel : Nat} {listed : Array Bool} {a : Act} {w : World}
theorem tkq(i:Nat)(hi:ops[i]? =some oi)(hy:YieldsIf P ops S oi v a)(hS:S w)(h:wpAnyH P md ops Q S fuel (listed.setIfInBounds i true) (a.put oi.dst v) w)
    (hs:Region.noSelect ops=true:=by kernel_rfl) (hf:Region.free md ops listed i=true:=by kernel_rfl) (hr:(Region.ready md ops listed).contains i=true:=by kernel_rfl)
    (hQ:∀c a w,Q (.panic c) (a.put oi.dst v) w→Q (.panic c) a w:=by exact fun _ _ _ h=>h):wpAnyH P md ops Q S (fuel+1) listed a w:=wpAnyH_take hi hs hf hr hQ hy hS h
theorem tkr(i:Nat){o:Oper}(ho:ops[i]? =some o)
    (h:∀K':Act→World→Prop,Shut (∀a w,S w→(S w→wpAnyH P md ops Q S fuel (listed.setIfInBounds i true) a w)→K' a w)→if Region.wanted o (yielded ops a.tmps)=true then Oper.wp P o a w K' Q else K' (a.put o.dst undef) w)
    (hr:Region.ready md ops listed=[i]:=by kernel_rfl):wpAnyH P md ops Q S (fuel+1) listed a w:=bG hr (by simp) (aX ho h bD)
end
theorem hD{p:Prop}(h:p):Hid p:=Lib.hid h
variable{α:Type}{l:List α}
theorem qk1{i:Nat}{a:α}:l.toArray.setIfInBounds i a=(l.set i a).toArray:=iJ _ _ _
theorem qk2{a b:α}:(a::l).set 0 b=b::l:=List.set_cons_zero
theorem qk3{a b:α}{n:Nat}:(a::l).set (n+1) b=a::l.set n b:=List.set_cons_succ
theorem qk4{i:Nat}(h:i<l.toArray.size):l.toArray[i]=l[i]'(by simpa using h):=List.getElem_toArray h
theorem qk5{a:α}{i:Nat}(h:i+1<(a::l).length):(a::l)[i+1]=l[i]'(Nat.lt_of_succ_lt_succ h):=gX ..
theorem qk6{a:α}(h:0<(a::l).length):(a::l)[0]=a:=rfl
theorem qd1{a:α}{i:Nat}:(a::l).drop (i+1)=l.drop i:=List.drop_succ_cons
theorem qd2:l.drop 0=l:=dL
theorem qd3{a:α}{i:Nat}:(a::l).take (i+1)=a::l.take i:=gm
theorem qd4:l.take 0=[]:=List.take_zero
theorem qd5{a:α}{i:Nat}:(a::l)[i+1]? =l[i]?:=List.getElem?_cons_succ
theorem qd6{a:α}:(a::l)[0]? =some a:=List.getElem?_cons_zero
theorem qk:(∀{α:Type} {l:List α} {i:Nat} {a:α},l.toArray.setIfInBounds i a=(l.set i a).toArray)∧(∀{α:Type} {a b:α} {l:List α},(a::l).set 0 b=b::l)∧(∀{α:Type} {a b:α} {l:List α} {n:Nat},(a::l).set (n+1) b=a::l.set n b)∧
    (∀{α:Type} {l:List α} {i:Nat} (h:i<l.toArray.size),l.toArray[i]=l[i]'(by simpa using h))∧(∀{α:Type} {a:α} {l:List α} {i:Nat} (h:i+1<(a::l).length),(a::l)[i+1]=l[i]'(Nat.lt_of_succ_lt_succ h))∧(∀{α:Type} {a:α} {l:List α} (h:0<(a::l).length),(a::l)[0]=a):=
 ⟨iJ _ _ _,List.set_cons_zero,List.set_cons_succ,List.getElem_toArray,fun _=>gX ..,fun _=>rfl⟩
/-- Operations taken first, one after the other. -/
def Takes(P:Program)(ops:Array Oper)(S:World→Prop):List Nat→Act→Act→Prop
 | [],a,b=>a=b
 |i::is,a,b=>∃oi v,ops[i]? =some oi∧YieldsIf P ops S oi v a∧Takes P ops S is (a.put oi.dst v) b
def tkOk(md:Region.Mode)(ops:Array Oper):List Nat→Array Bool→Nat→Bool
 | [],_,_=>true
 |_::_,_,0=>false
 |i::is,l,n+1=>Region.free md ops l i &&(Region.ready md ops l).contains i && tkOk md ops is (l.setIfInBounds i true) n
def tkL:List Nat→Array Bool→Array Bool
 | [],l=>l
 |i::is,l=>tkL is (l.setIfInBounds i true)
section
variable {P : Program} {md : Region.Mode} {ops : Array Oper} {Q : Exit → Act → World → Prop} {S : World → Prop} {oi : Oper} {v : Value} {is : List Nat} {i : Nat} {a b : Act} {w : World}
theorem tkn:Takes P ops S [] a a:=rfl
theorem tkl(hi:ops[i]? =some oi)(hw:Region.wanted oi (yielded ops a.tmps)=true)(hv:∀W,S W→(execOp a.eval oi).run P W= .ok (.value v) W)(h:Takes P ops S is (a.put oi.dst v) b):Takes P ops S (i::is) a b:=
 ⟨oi,v,hi,.inl ⟨hw,hv⟩,h⟩
theorem tks(hi:ops[i]? =some oi)(hw:Region.wanted oi (yielded ops a.tmps)=false)(h:Takes P ops S is (a.put oi.dst undef) b):Takes P ops S (i::is) a b:=
 ⟨oi,undef,hi,.inr ⟨hw,rfl⟩,h⟩
theorem takes_go(hs:Region.noSelect ops=true)(hQ:∀c a t v w,Q (.panic c) (a.put t v) w→Q (.panic c) a w)(hS:S w) :
    ∀(is:List Nat) (fuel:Nat) (listed:Array Bool) (a b:Act),tkOk md ops is listed fuel=true→Takes P ops S is a b→wpAnyH P md ops Q S (fuel- is.length) (tkL is listed) b w→wpAnyH P md ops Q S fuel listed a w
 | [],_,_,_,_,_,ht,h=>by cases ht;exact h
 |_::_,0,_,_,_,hc,_,_=>by cases hc
 |i::is,n+1,l,a,b,hc,⟨oi,v,hi,hy,ht⟩,h=>by
  simp only[tkOk,aT]at hc
  exact wpAnyH_take hi hs hc.1.1 hc.1.2 (fun c a w=>hQ c a oi.dst v w) hy hS (takes_go hs hQ hS is n _ _ b hc.2 ht (by simpa[tkL]using h))
/-- The operations IS are taken first: loads and moves that the condition S decides, or that are skipped. -/
theorem takes(is:List Nat){fuel:Nat}{listed:Array Bool}(h:wpAnyH P md ops Q S (fuel- is.length) (tkL is listed) b w)
    (ht:Takes P ops S is a b:=by
     repeat (first
      |exact tkn
      | (apply tkl
         exact rfl
         exact rfl
         (intro W h;(try dsimp only at h);go_simp;(try with_reducible rfl))
         try simp only[Act.put,qk])
      | (apply tks
         exact rfl
         exact rfl
         try simp only[Act.put,qk])))
    (hS:S w:=by assumption) (hc:tkOk md ops is listed fuel=true:=by kernel_rfl) (hs:Region.noSelect ops=true:=by kernel_rfl)
    (hQ:∀c a t v w,Q (.panic c) (a.put t v) w→Q (.panic c) a w:=by(intro c a t v w h;cases t <;> exact h)):wpAnyH P md ops Q S fuel listed a w:=takes_go hs hQ hS is fuel listed a b hc ht h
end
theorem YS{a b:Bool}(h:a=b):Ending.returned (.bool a)= .returned (.bool b):=by rw[h]
theorem zb0{k:IntKind}{a b:Int}(h:a=b):Ending.returned (.int k a)= .returned (.int k b):=by rw[h]
theorem ret_str{a b:List UInt8}(h:a=b):Ending.returned (.string ⟨a.toArray⟩)= .returned (.string ⟨b.toArray⟩):=by rw[h]
theorem zaE{P:Program}{f:FuncId}{args:Array Value}{w:World}{x:Ending}(h:Calls P f args w fun e w'=>e=x∧w'=w):Calls P f args w fun e w'=>e=x∧w=w':=
 h.mono fun _ _ ⟨a,b⟩=>⟨a,b.symm⟩
theorem zU(t:ByteArray):t.data.toList.length=t.size:=by simp
theorem zbS(a b:List UInt8):ByteArray.mk a.toArray++ByteArray.mk b.toArray=ByteArray.mk (a++b).toArray:=by
 apply bz;simp
theorem zad(l:List UInt8)(b:ByteArray):ByteArray.mk l.toArray++b=ByteArray.mk (l++b.data.toList).toArray:=by
 apply bz;simp
theorem ze2(b:ByteArray):ByteArray.mk b.data.toList.toArray=b:=by
 apply bz;simp
theorem size_mk(l:List UInt8):(ByteArray.mk l.toArray).size=l.length:=by simp[ByteArray.size]
theorem Zq(c:UInt8):c.toNat<256:=c.toNat_lt
theorem drop_at(s:ByteArray)(i:Nat)(h:i<s.size):s.data.toList.drop i=s[i]::s.data.toList.drop (i+1):=fo208
theorem zeN(s:ByteArray)(a b:Nat):s.extract a b=⟨((s.data.toList.drop a).take (b- a)).toArray⟩:=by
 apply bz;apply fB.1;rw[dP]
theorem byteCells_snoc(l:List UInt8)(c:Int)(h0:0≤c)(h1:c<256):Lib.byteCells l++ [.int .u8 c]=Lib.byteCells (l++ [c.toNat.toUInt8]):=by
 obtain⟨n,rfl⟩:=bA h0;have:n % 256=n:=fe ja;simp[Lib.byteCells,this]
structure Rd (w:World) (k:Nat) (A:Option Addr) (n:Nat) (xs:List Value):Prop where
 len:xs.length=n * k
 cells:0<xs.length→∃b o,A=some ⟨b,o,none⟩∧b<w.heap.size∧∀j u,xs[j]? =some u→w.cell? ⟨b,o+j,none⟩=some u
variable{α β:Type}{r s x:List UInt8}{xs:List Value}{B base e k n:Nat}{A:Option Addr}{w':World}
theorem Rd.below{w:World}(h:Rd w k A n xs)(hb:Below w.heap.size w w'):Rd w' k A n xs:=
 ⟨h.len,fun hj=>by
  obtain⟨b,o,e,hl,hc⟩:=h.cells hj
  exact⟨b,o,e,aN hl hb.size,fun j u hu=>(hb.cell (p:=⟨b,o+j,none⟩) hl).trans (hc j u hu)⟩⟩
theorem zaO(g j:Nat):(⟨g,0,none⟩:Addr).add j=⟨g,0+j,none⟩:=by unfold Addr.add;split <;> simp_all
theorem add_plain'(b o j:Nat):(⟨b,o,none⟩:Addr).add j=⟨b,o+j,none⟩:=by unfold Addr.add;split <;> simp_all
theorem Rd.own{w:World}{c:Nat}(h:w.ownsRow base e k (.slice A n c) n xs):Rd w k A n xs:=fo98
theorem Rd.nil(w:World)(k:Nat)(A:Option Addr):Rd w k A 0 []:=⟨by simp,fun hj=>by simp at hj⟩
theorem ownsRow_form{w:World}{v:Value}(h:w.ownsRow base e k v n xs):∃A c,v= .slice A n c:=fo186
theorem ownsRow_below{w:World}{v:Value}(h:w.ownsRow base e k v n xs)(hb:Below w.heap.size w w'):w'.ownsRow base e k v n xs:=fo120
theorem below_grown{a w:World}{row:Option Nat}(h:Below B a w)(hB:B≤w.heap.size)(hg:w.grownBy w' row)(hr:∀g,row=some g→B≤g):Below B a w':=
 h.trans ⟨hg.os,hg.tape,hg.output,hg.size,fun k hk=>hg.block k ja (fun e=>by have:=hr k e.symm;omega)⟩
theorem bdN{a w:World}(h:Below B a w)(n:Nat):Below B a (w.drewN n):=h.trans ⟨rfl,rfl,rfl,ag _,fun _ _=>rfl⟩
theorem za(w:World)(o:Obj):Below w.heap.size w (w.alloc o):=(ae _ _).alloc (ag _) _
theorem bon{w w1 w2:World}(h:Below w.heap.size w w1)(k:Below w1.heap.size w1 w2):Below w.heap.size w w2:=h.trans (k.mono h.size)
theorem zN(W:World)(cs:List Value)(T:TypeId)(b:Nat)(hb:b=W.heap.size):∀j u,cs[j]? =some u→(W.alloc (.cells cs.toArray T)).cell? ((⟨b,0,none⟩:Addr).add j)=some u:=fo92
theorem zdb(w:World)(k n:Nat)(cs:List Value)(T:TypeId)(h:cs.length=n * k):Rd (w.alloc (.cells cs.toArray T)) k (some ⟨w.heap.size,0,none⟩) n cs:=
 ⟨h,fun _=>⟨w.heap.size,0,rfl,by simp,fun j u hu=>by rw[←zaO];exact zN w cs T _ rfl j u hu⟩⟩
def strC(l:List (List UInt8)):List Value:=l.map fun x=> .string ⟨x.toArray⟩
theorem Y2(l:List (List UInt8))(x:List UInt8):strC (l++ [x])=strC l++ [.string ⟨x.toArray⟩]:=by simp[strC]
theorem zbu(l:List (List UInt8)):(strC l).length=l.length:=by simp[strC]
def intC(l:List Int):List Value:=l.map fun x=> .int .i64 x
theorem intC_len(l:List Int):(intC l).length=l.length:=by simp[intC]
theorem flat_get(C:α→List Value)(m:Nat)(hC:∀x,(C x).length=m)(l:List α)(k:Nat)(hk:k<l.length)(j:Nat)(hj:j<m):(l.flatMap C)[k * m+j]? =(C l[k])[j]?:=by
 induction l generalizing k with
 |nil=>simp at hk
 |cons x r ih=>
  cases k with
  |zero=>simp only[aU,Nat.zero_mul,bI,gY];rw[dh (by rw[hC];exact hj)]
  |succ k=>
   have:=ih k jdw;simp only[aU,gX];rw[dM (by rw[hC,gy];omega),hC,show(k+1) * m+j- m=k * m+j from by rw[gy];omega,this]
theorem zaf(C:α→List Value)(m:Nat)(hC:∀x,(C x).length=m)(l:List α):(l.flatMap C).length=l.length * m:=by
 induction l with
 |nil=>simp
 |cons x r ih=>simp only[aU,aG,au]at ih⊢;rw[ih,hC,gy];omega
theorem Rd.at{w:World}{m:Nat}{l:List α}{C:α→List Value}(h:Rd w m A l.length (l.flatMap C))(hC:∀x,(C x).length=m)(hm:0<m)(hk:k<l.length) :
    ∃b o,A=some ⟨b,o,none⟩∧b<w.heap.size∧∀w',Below w.heap.size w w'→∀j v,(C l[k])[j]? =some v→w'.cell? ⟨b,o+k * m+j,none⟩=some v:=by
 have hp:0<l.length * m:=Nat.mul_pos ja hm;obtain⟨b,o,rfl,hb,hc⟩:=h.cells (by rw[zaf C m hC];exact hp);refine⟨b,o,rfl,hb,fun w' hw j v hv=> ?_⟩;rw[hw.cell (p:=⟨b,o+k * m+j,none⟩) hb];exact fo141
def zbA(l:List (List UInt8))(w:World)(e:Ending)(w':World):Prop:=
 ∃A c,e= .returned (.slice A l.length c)∧Rd w' 1 A l.length (strC l)∧Below w.heap.size w w'
theorem ret_strs{l:List (List UInt8)}{w:World}(A:Option Addr)(c:Nat)(xs:List (List UInt8))(h:l=xs)(hn:n=xs.length)(hr:Rd w' 1 A n (strC xs))(hb:Below w.heap.size w w') :
    zbA l w (.returned (.slice A n c)) w':=by
 subst h hn;exact⟨A,c,rfl,hr,hb⟩
def zm(l:List UInt8)(w:World)(e:Ending)(w':World):Prop:=e= .returned (.string ⟨l.toArray⟩)∧Below w.heap.size w w'
theorem Z9{l l':List UInt8}{w:World}(h:l=l')(hb:Below w.heap.size w w'):zm l w (.returned (.string ⟨l'.toArray⟩)) w':=⟨by rw[h],hb⟩
def varint(n:Nat):List UInt8:=if n<128 then [n.toUInt8] else(128+n % 128).toUInt8::varint (n / 128)
termination_by n
decreasing_by omega
theorem Zu(n:Nat)(h:n<128):varint n=[n.toUInt8]:=by rw[varint,af h]
theorem zbl(n:Nat)(h:¬n<128):varint n=(128+n % 128).toUInt8::varint (n / 128):=by rw[varint,aa h]
theorem Z5:∀(k n:Nat),n<128 ^(k+1)→(varint n).length≤k+1
 |0,n,h=>by rw[Zu n jao];simp
 |k+1,n,h=>by
  by_cases hn:n<128
  · rw[Zu n hn];simp
  · rw[zbl n hn]
    have:=Z5 k (n / 128) jfh
    simp only[au]
    omega
theorem yS(n:Nat)(h:n<18446744073709551616):(varint n).length≤10:=Z5 9 n ja
theorem zgl(n:Nat):1≤(varint n).length:=by
 by_cases h:n<128
 · rw[Zu n h];simp
 · rw[zbl n h];simp
def zig(n:Int):Nat:=if 0≤n then(2 * n).toNat else(-2 * n- 1).toNat
theorem zig_lt(n:Int)(h0:-9223372036854775808≤n)(h1:n≤9223372036854775807):zig n<18446744073709551616:=by
 unfold zig;split <;> omega
def I64(n:Int):Prop:=-9223372036854775808≤n∧n≤9223372036854775807
def zn(s:List UInt8):List UInt8:=varint s.length++s
def zk(l:List (List UInt8)):List UInt8:=varint l.length++l.flatMap zn
def zu(l:List Int):List UInt8:=varint l.length++l.flatMap fun n=>varint (zig n)
def tot(ls:List (List UInt8)):Nat:=(ls.map List.length).sum
theorem Yw(x:List UInt8)(r:List (List UInt8)):tot (x::r)=x.length+tot r:=by simp[tot]
theorem tot_snoc(ls:List (List UInt8))(x:List UInt8):tot (ls++ [x])=tot ls+x.length:=by simp[tot]
theorem zdd(ls:List (List UInt8))(k:Nat):tot (ls.take k)≤tot ls:=by
 induction ls generalizing k with
 |nil=>simp
 |cons x r ih=>
  cases k with
  |zero=>simp[tot]
  |succ k=>have:=ih k;rw[gm,Yw,Yw];omega
theorem tot_get(ls:List (List UInt8))(k:Nat)(h:k<ls.length):ls[k].length≤tot ls:=by
 have:=zdd ls (k+1);rw[bq h,tot_snoc]at this;omega
theorem zJ(s:List UInt8)(h:s.length<18446744073709551616):(zn s).length≤10+s.length:=by
 have:=yS s.length h;simp only[zn,aG];omega
theorem strs_len(l:List (List UInt8))(h:tot l<18446744073709551616):(l.flatMap zn).length≤10 * l.length+tot l:=by
 induction l with
 |nil=>simp
 |cons x r ih=>
  rw[Yw]at h⊢;have h1:=zJ x ja;have h2:=ih ja;exact fo213
theorem zcH(l:List (List UInt8))(h:tot l<18446744073709551616)(h2:l.length<18446744073709551616):(zk l).length≤10+10 * l.length+tot l:=by
 have h1:=strs_len l h;have h3:=yS l.length h2;simp only[zk,aG];omega
theorem ints_len(l:List Int)(h:∀n∈l,I64 n):(l.flatMap fun n=>varint (zig n)).length≤10 * l.length:=by
 induction l with
 |nil=>simp
 |cons x r ih=>
  have h1:=yS (zig x) (zig_lt x (h x jc).1 (h x jc).2);have h2:=ih (fun n hn=>h n (by simp[hn]));exact fo213
theorem ym(l:List Int)(h:∀n∈l,I64 n)(h2:l.length<18446744073709551616):(zu l).length≤10+10 * l.length:=by
 have h1:=ints_len l h;have h3:=yS l.length h2;simp only[zu,aG];omega
structure Sl (α:Type) where
 a:Option Addr
 c:Nat
 l:List α
instance{α}:CoeOut (Sl α) Value:=⟨fun s=>.slice s.a s.l.length s.c⟩
def Sl.v{α:Type}(s:Sl α):Value:= .slice s.a s.l.length s.c
def Sl.nil{α:Type}:Sl α:=⟨none,0,[]⟩
structure Sg where
 (server kind view slot:Int) (digest sig:List UInt8)
 deriving DecidableEq
structure St where
 (server view length lockView:Int) (lock:List UInt8) (cert:Sl Sg) (signed:Sg)
structure De where
 (view:Int) (value:List UInt8) (cert:Sl Sg)
structure Ho where
 (slot:Int) (entry:De)
structure Sn where
 (slot:Int) (root:List UInt8) (chunks:Sl (List UInt8)) (proof:Sl Sg) (chain:Sl Ho)
structure Ms where
 (kind src dst view slot:Int) (value:List UInt8) (till:Int) (signed:Sg) (statuses:Sl St) (entries:Sl De) (snapshot:Sn) (texts:Sl (List UInt8))
instance:Coe Ms (Array Value):=⟨fun x=>#[x.kind,x.src,x.dst,x.view,x.slot,x.value,x.till,x.signed.server,x.signed.kind,x.signed.view,x.signed.slot,x.signed.digest,x.signed.sig,x.statuses,x.entries,x.snapshot.slot,x.snapshot.root,x.snapshot.chunks,x.snapshot.proof,x.snapshot.chain,x.texts]⟩
instance:Coe St (Array Value):=⟨fun x=>#[x.server,x.view,x.length,x.lockView,x.lock,x.cert,x.signed.server,x.signed.kind,x.signed.view,x.signed.slot,x.signed.digest,x.signed.sig]⟩
instance:Coe Sg (Array Value):=⟨fun x=>#[x.server,x.kind,x.view,x.slot,x.digest,x.sig]⟩
instance:Coe Sn (Array Value):=⟨fun x=>#[x.slot,x.root,x.chunks,x.proof,x.chain]⟩
instance:Coe De (Array Value):=⟨fun x=>#[x.view,x.value,x.cert]⟩
instance:Coe Ho (Array Value):=⟨fun x=>#[x.slot,x.entry.view,x.entry.value,x.entry.cert]⟩
/-! the encodings -/
def zeV(x:Sg):List UInt8:=zu [x.server,x.kind,x.view,x.slot]++zn x.digest
def zQ(x:Sg):List UInt8:=zeV x++zn x.sig
def ZA(s:St):List UInt8:=zu [s.server,s.view,s.length,s.lockView]++zn s.lock++zk (s.cert.l.map zQ)++zn (zQ s.signed)
def Zi(d:De):List UInt8:=zu [d.view]++zn d.value++zk (d.cert.l.map zQ)
def Yc(h:Ho):List UInt8:=zu [h.slot]++Zi h.entry
def zbm(x:Sn):List UInt8:=zu [x.slot]++zn x.root++zk x.chunks.l++zk (x.proof.l.map zQ)++zk (x.chain.l.map Yc)
def ZP(m:Ms):List UInt8:=zu [m.kind,m.src,m.dst,m.view,m.slot,m.till]++zn m.value++zn (zQ m.signed)++zk (m.statuses.l.map ZA)++zk (m.entries.l.map Zi)++zn (zbm m.snapshot)++zk m.texts.l
/-! the cells -/
def sgC(x:Sg):List Value:=[x.server,x.kind,x.view,x.slot,x.digest,x.sig]
def stC(s:St):List Value:=[s.server,s.view,s.length,s.lockView,s.lock,s.cert.v,
 s.signed.server,s.signed.kind,s.signed.view,s.signed.slot,s.signed.digest,s.signed.sig]
def deC(d:De):List Value:=[d.view,d.value,d.cert.v]
def hoC(h:Ho):List Value:=[h.slot,h.entry.view,h.entry.value,h.entry.cert.v]
def snC(x:Sn):List Value:=[x.slot,x.root,x.chunks.v,x.proof.v,x.chain.v]
def msC(m:Ms):List Value:=[m.kind,m.src,m.dst,m.view,m.slot,m.value,m.till,
 m.signed.server,m.signed.kind,m.signed.view,m.signed.slot,m.signed.digest,m.signed.sig,
 m.statuses.v,m.entries.v,m.snapshot.slot,m.snapshot.root,m.snapshot.chunks.v,m.snapshot.proof.v,m.snapshot.chain.v,m.texts.v]
def strV(x:List UInt8):List Value:=[x]
/-! what stands in memory, and the ranges -/
def Sl.rd{α:Type}(k:Nat)(C:α→List Value)(s:Sl α)(w:World):Prop:=Rd w k s.a s.l.length (s.l.flatMap C)
def Sg.ok(x:Sg):Prop:=I64 x.server∧I64 x.kind∧I64 x.view∧I64 x.slot
def St.ok(s:St)(w:World):Prop:=(I64 s.server∧I64 s.view∧I64 s.length∧I64 s.lockView)∧s.cert.rd 6 sgC w∧(∀x∈s.cert.l,x.ok)∧s.signed.ok
def De.ok(d:De)(w:World):Prop:=I64 d.view∧d.cert.rd 6 sgC w∧∀x∈d.cert.l,x.ok
def Ho.ok(h:Ho)(w:World):Prop:=I64 h.slot∧h.entry.ok w
def Sn.ok(x:Sn)(w:World):Prop:=I64 x.slot∧x.chunks.rd 1 strV w∧(x.proof.rd 6 sgC w∧∀y∈x.proof.l,y.ok)∧x.chain.rd 4 hoC w∧∀h∈x.chain.l,h.ok w
def Ms.ok(m:Ms)(w:World):Prop:=(I64 m.kind∧I64 m.src∧I64 m.dst∧I64 m.view∧I64 m.slot∧I64 m.till)∧m.signed.ok∧(m.statuses.rd 12 stC w∧∀s∈m.statuses.l,s.ok w)∧
 (m.entries.rd 3 deC w∧∀d∈m.entries.l,d.ok w)∧m.snapshot.ok w∧m.texts.rd 1 strV w
theorem Sl.rd_below{C:α→List Value}{s:Sl α}{w:World}(h:s.rd k C w)(hb:Below w.heap.size w w'):s.rd k C w':=Rd.below h hb
theorem St.below{s:St}{w:World}(h:s.ok w)(hb:Below w.heap.size w w'):s.ok w':=⟨h.1,Sl.rd_below h.2.1 hb,h.2.2⟩
theorem De.below{s:De}{w:World}(h:s.ok w)(hb:Below w.heap.size w w'):s.ok w':=⟨h.1,Sl.rd_below h.2.1 hb,h.2.2⟩
theorem Ho.below{s:Ho}{w:World}(h:s.ok w)(hb:Below w.heap.size w w'):s.ok w':=⟨h.1,De.below h.2 hb⟩
theorem Sn.below{x:Sn}{w:World}(h:x.ok w)(hb:Below w.heap.size w w'):x.ok w':=
 ⟨h.1,Sl.rd_below h.2.1 hb,⟨Sl.rd_below h.2.2.1.1 hb,h.2.2.1.2⟩,Sl.rd_below h.2.2.2.1 hb,fun y hy=>Ho.below (h.2.2.2.2 y hy) hb⟩
theorem Ms.below{m:Ms}{w:World}(h:m.ok w)(hb:Below w.heap.size w w'):m.ok w':=
 ⟨h.1,h.2.1,⟨Sl.rd_below h.2.2.1.1 hb,fun y hy=>St.below (h.2.2.1.2 y hy) hb⟩,⟨Sl.rd_below h.2.2.2.1.1 hb,fun y hy=>De.below (h.2.2.2.1.2 y hy) hb⟩,Sn.below h.2.2.2.2.1 hb,Sl.rd_below h.2.2.2.2.2 hb⟩
theorem zbg(l:List (List UInt8)):l.flatMap strV=strC l:=by
 induction l with
 |nil=>rfl
 |cons x r ih=>simp only[aU,strV,strC,cO,aZ,dF]at ih⊢;rw[ih]
/-! the sizes: no more than what the reading holds -/
def sum{α:Type}(f:α→Nat)(l:List α):Nat:=(l.map f).sum
theorem sum_cons(f:α→Nat)(x:α)(r:List α):sum f (x::r)=f x+sum f r:=by simp[sum]
theorem sum_nil(f:α→Nat):sum f []=0:=rfl
theorem Zv(f:α→Nat)(l:List α)(x:α)(h:x∈l):f x≤sum f l:=by
 induction l with
 |nil=>simp at h
 |cons y r ih=>
  rw[sum_cons];rcases bC.1 h with rfl|h
  · omega
  · have:=ih h;omega
theorem Yg(f:α→Nat)(l:List α)(k:Nat)(h:∀x,k≤f x):k * l.length≤sum f l:=by
 induction l with
 |nil=>simp
 |cons y r ih=>rw[sum_cons,au,Nat.mul_succ];have:=h y;omega
def Sg.sz(x:Sg):Nat:=x.digest.length+x.sig.length+7
def szS(x:List UInt8):Nat:=x.length+1
def St.sz(s:St):Nat:=s.lock.length+sum Sg.sz s.cert.l+s.signed.sz+7
def De.sz(d:De):Nat:=d.value.length+sum Sg.sz d.cert.l+4
def Ho.sz(h:Ho):Nat:=h.entry.sz+2
def Sn.sz(x:Sn):Nat:=x.root.length+sum szS x.chunks.l+sum Sg.sz x.proof.l+sum Ho.sz x.chain.l+6
def Ms.sz(m:Ms):Nat:=m.value.length+m.signed.sz+sum St.sz m.statuses.l+sum De.sz m.entries.l+m.snapshot.sz+sum szS m.texts.l+11
theorem Sg.sz_ge(x:Sg):7≤x.sz:=by unfold Sg.sz;omega
theorem zbW(x:List UInt8):1≤szS x:=by unfold szS;omega
theorem St.sz_ge(x:St):14≤x.sz:=by have:=x.signed.sz_ge;unfold St.sz;omega
theorem De.sz_ge(x:De):4≤x.sz:=by unfold De.sz;omega
theorem Ho.sz_ge(x:Ho):6≤x.sz:=by have:=x.entry.sz_ge;unfold Ho.sz;omega
theorem tot_map(enc:α→List UInt8)(f:α→Nat)(c:Nat)(l:List α)(h:∀x∈l,(enc x).length≤c * f x):tot (l.map enc)≤c * sum f l:=by
 induction l with
 |nil=>simp[tot]
 |cons x r ih=>
  have h1:=h x jc;have h2:=ih (fun y hy=>h y jfc);rw[cO,Yw,sum_cons,Nat.mul_add];omega
theorem tot_strs(l:List (List UInt8)):tot l≤sum szS l:=by
 induction l with
 |nil=>simp[tot,sum]
 |cons x r ih=>rw[Yw,sum_cons];unfold szS at ih⊢;omega
theorem zas(x:Sg)(h:x.ok)(hs:x.sz≤16777216):(zQ x).length≤10 * x.sz:=by
 have h1:=ym [x.server,x.kind,x.view,x.slot] (by simpa[dR,Sg.ok]using h) jc;unfold Sg.sz at hs⊢;have h2:=zJ x.digest ja;have h3:=zJ x.sig ja;simp only[zQ,zeV,aG,au,aJ]at h1⊢;omega
theorem ZL(l:List Sg)(h:∀x∈l,x.ok)(hs:sum Sg.sz l≤16777216):(zk (l.map zQ)).length≤10+12 * sum Sg.sz l∧tot (l.map zQ)≤10 * sum Sg.sz l∧7 * l.length≤sum Sg.sz l:=by
 have h0:=Yg Sg.sz l 7 Sg.sz_ge;have h1:=tot_map zQ Sg.sz 10 l (fun x hx=>zas x (h x hx) jen);have h2:=zcH (l.map zQ) ja jg;simp only[bF]at h2;exact⟨by omega,h1,h0⟩
theorem zcT(s:St)(w:World)(h:s.ok w)(hs:s.sz≤16777216):(ZA s).length≤12 * s.sz:=by
 have h1:=ym [s.server,s.view,s.length,s.lockView] jbz jc;unfold St.sz at hs⊢;have h2:=zJ s.lock ja;have h3:=(ZL s.cert.l h.2.2.1 ja).1;have h4:=zas s.signed h.2.2.2 ja;have h5:=zJ (zQ s.signed) ja;simp only[ZA,aG,au,aJ]at h1⊢;omega
theorem za8(d:De)(w:World)(h:d.ok w)(hs:d.sz≤16777216):(Zi d).length≤12 * d.sz:=by
 have h1:=ym [d.view] jbz jc;unfold De.sz at hs⊢;have h2:=zJ d.value ja;have h3:=(ZL d.cert.l h.2.2 ja).1;simp only[Zi,aG,au,aJ]at h1⊢;omega
theorem zbZ(x:Ho)(w:World)(h:x.ok w)(hs:x.sz≤16777216):(Yc x).length≤12 * x.sz:=by
 have h1:=ym [x.slot] jbz jc;unfold Ho.sz at hs⊢;have h2:=za8 x.entry w h.2 ja;simp only[Yc,aG,au,aJ]at h1⊢;omega
theorem Yh(enc:α→List UInt8)(f:α→Nat)(l:List α)(h:∀x∈l,(enc x).length≤12 * f x)(hf:∀x,4≤f x)(hs:sum f l≤16777216) :
    (zk (l.map enc)).length≤10+15 * sum f l∧tot (l.map enc)≤12 * sum f l∧4 * l.length≤sum f l:=by
 have h0:=Yg f l 4 hf;have h1:=tot_map enc f 12 l h;have h2:=zcH (l.map enc) ja jg;simp only[bF]at h2;exact⟨by omega,h1,h0⟩
theorem zcl(l:List (List UInt8))(hs:sum szS l≤16777216):(zk l).length≤10+11 * sum szS l∧tot l≤sum szS l∧l.length≤sum szS l:=by
 have h0:=Yg szS l 1 zbW;have h1:=tot_strs l;have h2:=zcH l ja ja;exact⟨by omega,h1,by omega⟩
theorem zez(x:Sn)(w:World)(h:x.ok w)(hs:x.sz≤16777216):(zbm x).length≤15 * x.sz:=by
 have h1:=ym [x.slot] jbz jc;unfold Sn.sz at hs⊢;have h2:=zJ x.root ja;have h3:=(zcl x.chunks.l ja).1;have h4:=(ZL x.proof.l h.2.2.1.2 ja).1;have h5:=(Yh Yc Ho.sz x.chain.l (fun y hy=>zbZ y w (h.2.2.2.2 y hy) jem) (fun y=>by have:=y.sz_ge;omega) ja).1;simp only[zbm,aG,au,aJ]at h1⊢;omega
theorem encMs_len(m:Ms)(w:World)(h:m.ok w)(hs:m.sz≤16777216):(ZP m).length≤16 * m.sz:=by
 have h1:=ym [m.kind,m.src,m.dst,m.view,m.slot,m.till] jbz jc;unfold Ms.sz at hs⊢;have h2:=zJ m.value ja;have h3:=zas m.signed h.2.1 ja;have h4:=zJ (zQ m.signed) ja;have h5:=(Yh ZA St.sz m.statuses.l (fun y hy=>zcT y w (h.2.2.1.2 y hy) jek) (fun y=>by have:=y.sz_ge;omega) ja).1;have h6:=(Yh Zi De.sz m.entries.l (fun y hy=>za8 y w (h.2.2.2.1.2 y hy) jel) (fun y=>y.sz_ge) ja).1;have h7:=zez m.snapshot w h.2.2.2.2.1 ja;have h8:=zJ (zbm m.snapshot) ja;have h9:=(zcl m.texts.l ja).1;simp only[ZP,aG,au,aJ]at h1⊢;omega
def num(n:Int):Bool:=decide (0≤n) && decide (n≤2147483647)
def z8(x:Sg):Bool:=decide (x.digest.length≤64) && decide (x.sig.length≤64)
def zR(l:List Sg):Bool:=l.all z8 && decide (l.length≤12)
def yo(s:St):Bool:=decide (0≤s.server) && decide (s.server<12) && num s.view && num s.length && num s.lockView
def yB(s:St):Bool:=decide (s.lock.length≤2000) && zR s.cert.l && z8 s.signed
def zS(d:De):Bool:=decide (d.value.length≤2000) && zR d.cert.l
def ZJ(h:Ho):Bool:=num h.slot && num h.entry.view
def Zz(m:Ms):Bool:=m.statuses.l.all yo && m.entries.l.all (fun d=>num d.view) && m.snapshot.chain.l.all ZJ && num m.snapshot.slot
def zbF(m:Ms):Bool:=decide (m.value.length≤2000) && decide (m.statuses.l.length≤12) && decide (m.entries.l.length≤8) && decide (m.texts.l.length≤500)
def zfL(m:Ms):Bool:=decide (m.snapshot.root.length≤64) && decide (m.snapshot.chain.l.length≤20)
def yQ(m:Ms):Bool:=zbF m && zfL m && m.statuses.l.all yB && m.entries.l.all zS && m.snapshot.chain.l.all (fun h=>zS h.entry) && decide (tot m.texts.l≤60000) && z8 m.signed && zR m.snapshot.proof.l
def Y3(x:Sn):Bool:=decide (x.slot=0) && decide (x.root=[]) && decide (x.chunks.l.length+x.proof.l.length+x.chain.l.length=0)
def sgZero(x:Sg):Bool:=decide (x=⟨0,0,0,0,[],[]⟩)
def zam(m:Ms):List Bool:=[m.view != 0,m.slot != 0,m.till != 0, !m.value.isEmpty, !sgZero m.signed,decide (0<m.statuses.l.length),decide (0<m.entries.l.length), !Y3 m.snapshot,decide (0<m.texts.l.length)]
def kwF(k:Int):Nat:=if k=1 then 3 else if k=2 then 99 else if k=3 then 59 else if k=4 then 19 else if k=5 then 27 else if k=6 then 66 else if k=7 then 2 else if k=8 then 1 else if k=9 then 5 else if k=10 then 26 else if k=11 then 132 else if k=12 then 271 else 0
def kwS(k:Int):List UInt8:=if k=1 then [97,115,107] else if k=2 then [115,116,97,116,117,115] else if k=3 then [112,114,111,112,111,115,101] else if k=4 then [112,114,101,112,97,114,101] else if k=5 then [99,111,109,109,105,116] else if k=6 then [108,101,97,114,110] else if k=7 then [102,101,116,99,104] else if k=8 then [108,101,97,115,101] else if k=9 then [103,114,97,110,116] else if k=10 then [115,116,97,98,108,101] else if k=11 then [115,110,97,112,115,104,111,116] else if k=12 then [99,104,117,110,107] else []
def alw(k:Int)(i:Nat):Bool:=(kwF k).testBit i
def Z8(m:Ms):Bool:=(zam m).zipIdx.any fun x=>x.1 && !alw m.kind x.2
def zbM(m:Ms):Bool:=decide (m.src<0) || decide (12≤m.src) || decide (m.dst<0) || decide (18≤m.dst) || !num m.view || !num m.slot || decide (m.till<0)
def oneB(m:Ms):Bool:=decide (m.kind=2) && decide (m.statuses.l.length≠1)
def vMs(m:Ms):Int:=
 if m.kind<1∨12<m.kind then 1 else if zbM m=true then 7 else if Z8 m=true∨oneB m=true then 1
 else if Zz m=false then 7 else if yQ m=false then 3 else if 0<m.snapshot.chunks.l.length then 1 else 0
def vSt(s:St):Int:=if yo s=false then 7 else if yB s=false then 3 else 0
def Yu:Nat→Nat→Nat→List UInt8→Option (Nat × Nat)
 |0,_,_,_=>none
 |_+1,_,_,[]=>none
 |f+1,k,a,c::r=>
  if 128≤c.toNat then Yu f (k+1) (a+(c.toNat- 128) * 128 ^ k) r
  else if 18446744073709551616≤c.toNat * 128 ^ k then none
  else if c.toNat=0∧0<k then none
  else some (a+c.toNat * 128 ^ k,k+1)
def getV(s:List UInt8):Option (Nat × Nat):=Yu 10 0 0 s
def yg(s:List UInt8):Option (List UInt8 × Nat):=
 match getV s with
 |none=>none
 |some (n,k)=>if s.length- k<n then none else some ((s.drop k).take n,k+n)
def zY{α:Type}(g:List UInt8→Option (α × Nat)):Nat→List UInt8→Option (List α × Nat)
 |0,_=>some ([],0)
 |n+1,s=>match g s with
  |none=>none
  |some (x,k)=>match zY g n (s.drop k) with
   |none=>none
   |some (xs,m)=>some (x::xs,k+m)
def za5{α:Type}(g:List UInt8→Option (α × Nat))(s:List UInt8):Option (List α × Nat):=
 match getV s with
 |none=>none
 |some (n,k)=>match zY g n (s.drop k) with
  |none=>none
  |some (xs,m)=>some (xs,k+m)
def zF(s:List UInt8):Option (List (List UInt8) × Nat):=za5 yg s
def zcR(n:Nat):Int:=if n % 2=0 then(n / 2:Nat) else -((n / 2:Nat):Int)- 1
def Za(s:List UInt8):Option (Int × Nat):=(getV s).map fun x=>(zcR x.1,x.2)
def zy(s:List UInt8):Option (List Int × Nat):=za5 Za s
theorem step_fit':∀(c:Fin 128) (k:Fin 10),c.val * 128 ^ k.val<18446744073709551616→(c.val+1) * 128 ^ k.val≤18446744073709551616:=by decide +kernel
theorem step_fit(a c k:Nat)(hc:c<128)(hk:k≤9)(ha:a<128 ^ k)(h:¬18446744073709551616≤c * 128 ^ k):a+c * 128 ^ k<18446744073709551616:=by
 have:=step_fit' ⟨c,hc⟩ ⟨k,by omega⟩ jao;simp only[Nat.add_mul]at this;omega
theorem getVAt_le:∀(f k a:Nat) (s:List UInt8) (n m:Nat),Yu f k a s=some (n,m)→k<m∧m≤k+f∧m≤k+s.length
 |0,_,_,_,_,_,h=>by simp[Yu]at h
 |_+1,_,_,[],_,_,h=>by simp[Yu]at h
 |f+1,k,a,c::r,n,m,h=>by
  rw[Yu]at h
  split at h
  · have:=getVAt_le f (k+1) _ r n m h
    simp only[au];omega
  · split at h
    · simp at h
    · split at h
      · simp at h
      · simp only[ax,aI]at h
        simp only[au];omega
theorem Y5(h:getV s=some (n,k)):0<k∧k≤10∧k≤s.length:=by
 have:=getVAt_le 10 0 0 s n k h;omega
theorem ze1:∀(f k a:Nat) (s:List UInt8) (n m:Nat),f+k=10→a<128 ^ k→Yu f k a s=some (n,m)→n<18446744073709551616
 |0,_,_,_,_,_,_,_,h=>by simp[Yu]at h
 |_+1,_,_,[],_,_,_,_,h=>by simp[Yu]at h
 |f+1,k,a,c::r,n,m,hk,ha,h=>by
  have hpow:128 ^(k+1)=128 ^ k * 128:=dG 128 k
  rw[Yu]at h
  split at h
  · have hc:=c.toNat_lt
    have hmul:(c.toNat- 128) * 128 ^ k≤127 * 128 ^ k:=fq _ ja
    exact ze1 f (k+1) _ r n m ja ja h
  · rename_i hc
    split at h
    · simp at h
    · rename_i hb
      split at h
      · simp at h
      · simp only[ax,aI]at h
        obtain⟨rfl,rfl⟩:=h
        exact step_fit a _ k ja ja ha hb
theorem Zj(h:yg s=some (x,k)):0<k∧k≤s.length∧x.length<k:=by
 unfold yg at h;split at h
 · simp at h
 · rename_i n m hv;have hl:=Y5 hv;split at h
   · simp at h
   · simp only[ax,aI]at h;obtain⟨rfl,rfl⟩:=h;simp only[bN,aK];omega
theorem zgm:∀(f n k a:Nat) (r:List UInt8),n<128 ^ f→0<f→n * 128 ^ k<18446744073709551616→(0<k→0<n)→Yu f k a (varint n++r)=some (a+n * 128 ^ k,k+(varint n).length)
 |0,_,_,_,_,_,h0,_,_=>by omega
 |f+1,n,k,a,r,hn,_,hb,hp=>by
  have hpos:0<128 ^ k:=Nat.pow_pos ja
  by_cases h:n<128
  · have ht:n.toUInt8.toNat=n:=by simp;omega
    rw[Zu n h]
    simp only[aZ,dF,au,aJ]
    rw[Yu,ht,aa ja,aa ja,aa ja]
  · have ht:((128+n % 128).toUInt8).toNat=128+n % 128:=by simp;omega
    rw[zbl n h]
    simp only[aZ,au]
    have hdm:n=128 *(n / 128)+n % 128:=(Nat.div_add_mod n 128).symm
    have hb2:n / 128 * 128 ^(k+1)≤n * 128 ^ k:=by
     rw[dG,gq (128 ^ k) 128,←iw];exact fq _ ja
    have hf:n / 128<128 ^ f:=by rw[Nat.div_lt_iff_lt_mul ja];rw[dG]at hn;omega
    have hf0:0<f:=by
     rcases il f with h0|h0
     · subst h0;simp at hn;omega
     · exact h0
    rw[Yu,ht,af ja,zgm f (n / 128) (k+1) _ r hf hf0 ja ja];congr 1;congr 1
    · rw[show 128+n % 128- 128=n % 128 from by omega,dG,bZ];congr 1;rw[gq (128 ^ k) 128,←iw,←Nat.add_mul];congr 1;omega
    · omega
theorem getV_put(n:Nat)(r:List UInt8)(h:n<18446744073709551616):getV (varint n++r)=some (n,(varint n).length):=by
 have:=zgm 10 n 0 0 r ja ja ja ja;simpa[getV]using this
theorem getStr_put(x r:List UInt8)(h:x.length<18446744073709551616):yg (zn x++r)=some (x,(zn x).length):=by
 unfold yg zn;rw[bM,getV_put x.length (x++r) h];simp only[];rw[aa jc];simp
theorem getMany_put(g:List UInt8→Option (α × Nat))(put:α→List UInt8)(l:List α)(hg:∀x∈l,∀r,g (put x++r)=some (x,(put x).length))(r:List UInt8) :
    zY g l.length (l.flatMap put++r)=some (l,(l.flatMap put).length):=by
 induction l with
 |nil=>rfl
 |cons x t ih=>
  simp only[aU,au,zY,bM];rw[hg x jc];simp only[eB];rw[ih (fun y hy=>hg y jfc)];simp
theorem getAll_put(g:List UInt8→Option (α × Nat))(put:α→List UInt8)(l:List α)(hl:l.length<18446744073709551616)(hg:∀x∈l,∀r,g (put x++r)=some (x,(put x).length))(r:List UInt8) :
    za5 g ((varint l.length++l.flatMap put)++r)=some (l,(varint l.length++l.flatMap put).length):=by
 unfold za5;rw[bM,getV_put _ _ hl];simp only[eB];rw[getMany_put g put l hg];simp
theorem getList_put(l:List (List UInt8))(r:List UInt8)(hl:l.length<18446744073709551616)(hx:∀x∈l,x.length<18446744073709551616):zF (zk l++r)=some (l,(zk l).length):=
 getAll_put yg zn l hl (fun x h r=>getStr_put x r (hx x h)) r
/-! without addresses -/
def Sl.er{α:Type}(s:Sl α):Sl α:=⟨none,0,s.l⟩
def Sl.of{α:Type}(l:List α):Sl α:=⟨none,0,l⟩
def St.er(s:St):St:={s with cert:=s.cert.er}
def De.er(d:De):De:={d with cert:=d.cert.er}
def Ho.er(h:Ho):Ho:={h with entry:=h.entry.er}
def Sn.er(x:Sn):Sn:={x with chunks:=x.chunks.er,proof:=x.proof.er,chain:=Sl.of (x.chain.l.map Ho.er)}
def Ms.er(m:Ms):Ms:={m with statuses:=Sl.of (m.statuses.l.map St.er),entries:=Sl.of (m.entries.l.map De.er),snapshot:=m.snapshot.er,texts:=m.texts.er}
theorem encSn_er(x:Sn):zbm x.er=zbm x:=by
 show zu _++zn _++zk _++zk _++zk ((x.chain.l.map Ho.er).map Yc)=_;rw[eZ];rfl
theorem encMs_er(m:Ms):ZP m.er=ZP m:=by
 show zu _++zn _++zn _++zk ((m.statuses.l.map St.er).map ZA)++zk ((m.entries.l.map De.er).map Zi)++zn (zbm m.snapshot.er)++zk _=_;rw[eZ,eZ,encSn_er];rfl
theorem vMs_er(m:Ms):vMs m.er=vMs m:=by
 have h1:(m.er.statuses.l).length=m.statuses.l.length:=by simp[Ms.er,Sl.of]
 have h2:(m.er.entries.l).length=m.entries.l.length:=by simp[Ms.er,Sl.of]
 have h3:(m.er.snapshot.chain.l).length=m.snapshot.chain.l.length:=by simp[Ms.er,Sn.er,Sl.of]
 have a1:∀(f:St→Bool),(∀s,f s.er=f s)→m.er.statuses.l.all f=m.statuses.l.all f:=fun f hf=>by
  simp only[Ms.er,Sl.of,List.all_map];congr 1;funext s;exact hf s
 have a2:∀(f:De→Bool),(∀s,f s.er=f s)→m.er.entries.l.all f=m.entries.l.all f:=fun f hf=>by
  simp only[Ms.er,Sl.of,List.all_map];congr 1;funext s;exact hf s
 have a3:∀(f:Ho→Bool),(∀s,f s.er=f s)→m.er.snapshot.chain.l.all f=m.snapshot.chain.l.all f:=fun f hf=>by
  simp only[Ms.er,Sn.er,Sl.of,List.all_map];congr 1;funext s;exact hf s
 have r1:Zz m.er=Zz m:=by
  unfold Zz;rw[a1 _ (fun _=>rfl),a2 _ (fun _=>rfl),a3 _ (fun _=>rfl)];rfl
 have r2:yQ m.er=yQ m:=by
  unfold yQ zbF zfL;rw[a1 _ (fun _=>rfl),a2 _ (fun _=>rfl),a3 _ (fun _=>rfl),h1,h2,h3];rfl
 have r3:Z8 m.er=Z8 m:=by
  have:zam m.er=zam m:=by
   unfold zam Y3;rw[h1,h2,h3];rfl
  unfold Z8;rw[this];rfl
 have r4:oneB m.er=oneB m:=by unfold oneB;rw[h1];rfl
 have r5:zbM m.er=zbM m:=rfl;unfold vMs;rw[r1,r2,r3,r4,r5];rfl
theorem sz_er(f:α→Nat)(e:α→α)(h:∀x,f (e x)=f x)(l:List α):sum f (l.map e)=sum f l:=by
 induction l with
 |nil=>rfl
 |cons x r ih=>rw[cO,sum_cons,sum_cons,ih,h]
theorem Sn.sz_er(x:Sn):x.er.sz=x.sz:=by
 show _+_+_+sum Ho.sz (x.chain.l.map Ho.er)+6=_;rw[Go.Proofs.YtepbbaifpckcpaaGreatDoor.sz_er Ho.sz Ho.er (fun _=>rfl)];rfl
theorem Ms.sz_er(m:Ms):m.er.sz=m.sz:=by
 show _+_+sum St.sz (m.statuses.l.map St.er)+sum De.sz (m.entries.l.map De.er)+m.snapshot.er.sz+_+11=_;rw[Go.Proofs.YtepbbaifpckcpaaGreatDoor.sz_er St.sz St.er (fun _=>rfl),Go.Proofs.YtepbbaifpckcpaaGreatDoor.sz_er De.sz De.er (fun _=>rfl),Sn.sz_er];rfl
/-! the readers: what is read, and what remains -/
@[reducible] def Pr (α:Type):Type:=List UInt8→Option (α × List UInt8)
def Pr.then{α β:Type}(p:Pr α)(f:α→Pr β):Pr β:=fun s=>match p s with
 |none=>none
 |some (x,r)=>f x r
def Pr.ret{α:Type}(x:α):Pr α:=fun s=>some (x,s)
def off{α:Type}(g:List UInt8→Option (α × Nat)):Pr α:=fun s=>match g s with
 |none=>none
 |some (x,k)=>some (x,s.drop k)
def Zc(n:Nat):Pr (List Int):=fun s=>match off zy s with
 |none=>none
 |some (l,r)=>if l.length=n then some (l,r) else none
def Zb:Pr (List UInt8):=off yg
def Zn:Pr (List (List UInt8)):=off zF
def whole{α:Type}(p:Pr α)(s:List UInt8):Option α:=match p s with
 |none=>none
 |some (x,r)=>if r=[] then some x else none
def many{α:Type}(p:Pr α):List (List UInt8)→Option (List α)
 | []=>some []
 |s::r=>match whole p s with
  |none=>none
  |some x=>match many p r with
   |none=>none
   |some l=>some (x::l)
def Ya{α:Type}(p:Pr α):Pr (List α):=fun s=>match Zn s with
 |none=>none
 |some (l,r)=>match many p l with
  |none=>none
  |some xs=>some (xs,r)
def za7{α:Type}(p:Pr α):Pr α:=fun s=>match Zb s with
 |none=>none
 |some (t,r)=>match whole p t with
  |none=>none
  |some x=>some (x,r)
def rdSg:Pr Sg:=fun s=>match Zc 4 s with
 |none=>none
 |some (l,r)=>match Zb r with
  |none=>none
  |some (d,r)=>match Zb r with
   |none=>none
   |some (g,r)=>if r=[] then some (⟨l.getD 0 0,l.getD 1 0,l.getD 2 0,l.getD 3 0,d,g⟩,[]) else none
def rdSt:Pr St:=(Zc 4).then fun n=>Zb.then fun a=>(Ya rdSg).then fun c=>(za7 rdSg).then fun g=>Pr.ret ⟨n.getD 0 0,n.getD 1 0,n.getD 2 0,n.getD 3 0,a,Sl.of c,g⟩
def rdDe:Pr De:=(Zc 1).then fun n=>Zb.then fun a=>(Ya rdSg).then fun c=>Pr.ret ⟨n.getD 0 0,a,Sl.of c⟩
def rdHo:Pr Ho:=(Zc 1).then fun n=>rdDe.then fun e=>Pr.ret ⟨n.getD 0 0,e⟩
def rdSn:Pr Sn:=(Zc 1).then fun n=>Zb.then fun a=>Zn.then fun ch=>(Ya rdSg).then fun p=>(Ya rdHo).then fun c=>Pr.ret ⟨n.getD 0 0,a,Sl.of ch,Sl.of p,Sl.of c⟩
def rdMs:Pr Ms:=(Zc 6).then fun n=>Zb.then fun a=>(za7 rdSg).then fun g=>(Ya rdSt).then fun ss=>(Ya rdDe).then fun es=>(za7 rdSn).then fun x=>Zn.then fun t=>
 Pr.ret ⟨n.getD 0 0,n.getD 1 0,n.getD 2 0,n.getD 3 0,n.getD 4 0,a,n.getD 5 0,g,Sl.of ss,Sl.of es,x,Sl.of t⟩
def ZI(s:List UInt8):Option Ms:=match whole rdMs s with
 |none=>none
 |some m=>if vMs m=0 then some m else none
def zcv(s:List UInt8):Option St:=match whole rdSt s with
 |none=>none
 |some x=>if vSt x=0 then some x else none
/-! what was put is read again -/
theorem whole_of{p:Pr α}{x:α}(h:p s=some (x,[])):whole p s=some x:=by
 unfold whole;rw[h];rfl
/-! the sizes of what is read -/
theorem zfM(g:List UInt8→Option (α × Nat))(f:α→Nat)(hg:∀s x k,g s=some (x,k)→f x≤k∧k≤s.length):∀(n:Nat) (s:List UInt8) (xs:List α) (m:Nat),zY g n s=some (xs,m)→xs.length=n∧sum f xs≤m∧m≤s.length
 |0,s,xs,m,h=>by
  simp only[zY,ax,aI]at h
  obtain⟨rfl,rfl⟩:=h
  simp[sum]
 |n+1,s,xs,m,h=>by
  rw[zY]at h
  cases hx:g s with
  |none=>rw[hx]at h;simp at h
  |some y=>
   obtain⟨x,k⟩:=y
   rw[hx]at h
   simp only at h
   cases hy:zY g n (s.drop k) with
   |none=>rw[hy]at h;simp at h
   |some z=>
    obtain⟨ys,j⟩:=z
    rw[hy]at h
    simp only[ax,aI]at h
    obtain⟨rfl,rfl⟩:=h
    have h1:=hg s x k hx
    have h2:=zfM g f hg n _ ys j hy
    rw[aK]at h2
    rw[sum_cons,au]
    omega
theorem zbk(g:List UInt8→Option (α × Nat))(f:α→Nat)(hg:∀s x k,g s=some (x,k)→f x≤k∧k≤s.length){xs:List α}(h:za5 g s=some (xs,k)):sum f xs+1≤k∧k≤s.length:=by
 unfold za5 at h;cases hv:getV s with
 |none=>rw[hv]at h;simp at h
 |some y=>
  obtain⟨n,j⟩:=y;rw[hv]at h;simp only at h;cases hy:zY g n (s.drop j) with
  |none=>rw[hy]at h;simp at h
  |some z=>
   obtain⟨ys,i⟩:=z;rw[hy]at h;simp only[ax,aI]at h;obtain⟨rfl,rfl⟩:=h;have h1:=Y5 hv;have h2:=zfM g f hg n _ ys i hy;rw[aK]at h2;omega
theorem getInt_le(s:List UInt8)(x:Int)(k:Nat)(h:Za s=some (x,k)):1≤k∧k≤s.length:=by
 unfold Za at h;cases hv:getV s with
 |none=>rw[hv]at h;simp at h
 |some y=>
  rw[hv]at h;simp only[dH,ax,aI]at h;have:=Y5 (n:=y.1) (k:=y.2) (by rw[hv]);omega
theorem sum_one(l:List α):sum (fun _=>1) l=l.length:=by
 induction l with
 |nil=>rfl
 |cons x r ih=>rw[sum_cons,ih,au];omega
theorem zaA{l:List Int}(h:Zc n s=some (l,r)):l.length=n∧n+1+r.length≤s.length:=by
 unfold Zc off at h;cases hg:zy s with
 |none=>rw[hg]at h;simp at h
 |some y=>
  obtain⟨xs,k⟩:=y;rw[hg]at h;simp only at h;split at h
  · rename_i hl;simp only[ax,aI]at h;obtain⟨rfl,rfl⟩:=h;have:=zbk Za (fun _=>1) (fun s x k h=>getInt_le s x k h) hg;rw[sum_one]at this;rw[aK];omega
  · simp at h
theorem YZ(h:Zb s=some (x,r)):x.length+1+r.length≤s.length:=by
 unfold Zb off at h;cases hg:yg s with
 |none=>rw[hg]at h;simp at h
 |some y=>
  obtain⟨xs,k⟩:=y;rw[hg]at h;simp only[ax,aI]at h;obtain⟨rfl,rfl⟩:=h;have:=Zj hg;rw[aK];omega
theorem zct{l:List (List UInt8)}(h:Zn s=some (l,r)):sum szS l+1+r.length≤s.length:=by
 unfold Zn off at h;cases hg:zF s with
 |none=>rw[hg]at h;simp at h
 |some y=>
  obtain⟨xs,k⟩:=y;rw[hg]at h;simp only[ax,aI]at h;obtain⟨rfl,rfl⟩:=h;have:=zbk yg szS (fun s x k h=>by have:=Zj h;unfold szS;omega) hg;rw[aK];omega
def Fits{α:Type}(p:Pr α)(f:α→Nat):Prop:=∀s x r,p s=some (x,r)→f x+r.length≤s.length
theorem zdc{p:Pr α}{f:α→Nat}(hp:Fits p f){x:α}(h:whole p s=some x):f x≤s.length:=by
 unfold whole at h;cases hg:p s with
 |none=>rw[hg]at h;simp at h
 |some y=>
  obtain⟨z,r⟩:=y;rw[hg]at h;simp only at h;split at h
  · simp only[ax]at h;subst h;have:=hp s z r hg;omega
  · simp at h
theorem many_sz{p:Pr α}{f:α→Nat}(hp:Fits p f):∀{ls:List (List UInt8)} {xs:List α},many p ls=some xs→xs.length=ls.length∧sum f xs+ls.length≤sum szS ls
 | [],xs,h=>by simp only[many,ax]at h;subst h;simp[sum]
 |s::r,xs,h=>by
  rw[many]at h
  cases hx:whole p s with
  |none=>rw[hx]at h;simp at h
  |some x=>
   rw[hx]at h
   simp only at h
   cases hy:many p r with
   |none=>rw[hy]at h;simp at h
   |some l=>
    rw[hy]at h
    simp only[ax]at h
    subst h
    have h1:=zdc hp hx
    have h2:=many_sz hp hy
    simp only[sum_cons,au]
    unfold szS at h2⊢
    omega
theorem YM{p:Pr α}{f:α→Nat}(hp:Fits p f){xs:List α}(h:Ya p s=some (xs,r)):sum f xs+xs.length+1+r.length≤s.length:=by
 unfold Ya at h;cases hg:Zn s with
 |none=>rw[hg]at h;simp at h
 |some y=>
  obtain⟨ls,q⟩:=y;rw[hg]at h;simp only at h;cases hm:many p ls with
  |none=>rw[hm]at h;simp at h
  |some zs=>
   rw[hm]at h;simp only[ax,aI]at h;obtain⟨rfl,rfl⟩:=h;have h1:=zct hg;have h2:=many_sz hp hm;omega
theorem zc5{p:Pr α}{f:α→Nat}(hp:Fits p f){x:α}(h:za7 p s=some (x,r)):f x+1+r.length≤s.length:=by
 unfold za7 at h;cases hg:Zb s with
 |none=>rw[hg]at h;simp at h
 |some y=>
  obtain⟨t,q⟩:=y;rw[hg]at h;simp only at h;cases hm:whole p t with
  |none=>rw[hm]at h;simp at h
  |some z=>
   rw[hm]at h;simp only[ax,aI]at h;obtain⟨rfl,rfl⟩:=h;have h1:=YZ hg;have h2:=zdc hp hm;omega
theorem Zx{p:Pr α}{f:α→Pr β}{y:β}(h:(p.then f) s=some (y,r)):∃x q,p s=some (x,q)∧f x q=some (y,r):=by
 unfold Pr.then at h;cases hg:p s with
 |none=>rw[hg]at h;simp at h
 |some z=>rw[hg]at h;exact⟨z.1,z.2,rfl,h⟩
theorem ret_sz{x y:α}(h:Pr.ret x s=some (y,r)):x=y∧s=r:=by
 simpa[Pr.ret]using h
theorem zcC:Fits rdSg Sg.sz:=by
 intro s x r h;unfold rdSg at h;cases h1:Zc 4 s with
 |none=>rw[h1]at h;simp at h
 |some y=>
  obtain⟨l,q⟩:=y;rw[h1]at h;simp only at h;cases h2:Zb q with
  |none=>rw[h2]at h;simp at h
  |some y=>
   obtain⟨d,q2⟩:=y;rw[h2]at h;simp only at h;cases h3:Zb q2 with
   |none=>rw[h3]at h;simp at h
   |some y=>
    obtain⟨g,q3⟩:=y;rw[h3]at h;simp only at h;split at h
    · simp only[ax,aI]at h;obtain⟨rfl,rfl⟩:=h;have a1:=(zaA h1).2;have a2:=YZ h2;have a3:=YZ h3;unfold Sg.sz;simp only[aJ];omega
    · simp at h
theorem rdSt_sz:Fits rdSt St.sz:=by
 intro s x r h;obtain⟨n,q1,h1,h⟩:=Zx h;obtain⟨a,q2,h2,h⟩:=Zx h;obtain⟨c,q3,h3,h⟩:=Zx h;obtain⟨g,q4,h4,h⟩:=Zx h;obtain⟨rfl,rfl⟩:=ret_sz h;have a1:=(zaA h1).2;have a2:=YZ h2;have a3:=YM zcC h3;have a4:=zc5 zcC h4;unfold St.sz Sl.of;simp only;omega
theorem rdDe_sz:Fits rdDe De.sz:=by
 intro s x r h;obtain⟨n,q1,h1,h⟩:=Zx h;obtain⟨a,q2,h2,h⟩:=Zx h;obtain⟨c,q3,h3,h⟩:=Zx h;obtain⟨rfl,rfl⟩:=ret_sz h;have a1:=(zaA h1).2;have a2:=YZ h2;have a3:=YM zcC h3;unfold De.sz Sl.of;simp only;omega
theorem rdHo_sz:Fits rdHo Ho.sz:=by
 intro s x r h;obtain⟨n,q1,h1,h⟩:=Zx h;obtain⟨a,q2,h2,h⟩:=Zx h;obtain⟨rfl,rfl⟩:=ret_sz h;have a1:=(zaA h1).2;have a2:=rdDe_sz _ _ _ h2;unfold Ho.sz;simp only;omega
theorem rdSn_sz:Fits rdSn Sn.sz:=by
 intro s x r h;obtain⟨n,q1,h1,h⟩:=Zx h;obtain⟨a,q2,h2,h⟩:=Zx h;obtain⟨b,q3,h3,h⟩:=Zx h;obtain⟨c,q4,h4,h⟩:=Zx h;obtain⟨d,q5,h5,h⟩:=Zx h;obtain⟨rfl,rfl⟩:=ret_sz h;have a1:=(zaA h1).2;have a2:=YZ h2;have a3:=zct h3;have a4:=YM zcC h4;have a5:=YM rdHo_sz h5;unfold Sn.sz Sl.of;simp only;omega
theorem rdMs_sz:Fits rdMs Ms.sz:=by
 intro s x r h;obtain⟨n,q1,h1,h⟩:=Zx h;obtain⟨a,q2,h2,h⟩:=Zx h;obtain⟨b,q3,h3,h⟩:=Zx h;obtain⟨c,q4,h4,h⟩:=Zx h;obtain⟨d,q5,h5,h⟩:=Zx h;obtain⟨e,q6,h6,h⟩:=Zx h;obtain⟨f,q7,h7,h⟩:=Zx h;obtain⟨rfl,rfl⟩:=ret_sz h;have a1:=(zaA h1).2;have a2:=YZ h2;have a3:=zc5 zcC h3;have a4:=YM rdSt_sz h4;have a5:=YM rdDe_sz h5;have a6:=zc5 rdSn_sz h6;have a7:=zct h7;unfold Ms.sz Sl.of;simp only;omega
structure Sc where
 rest:List UInt8
 bad:Bool
def tkR{α:Type}(g:List UInt8→Option (α × Nat))(none:α)(s:Sc):α × Sc:=
 if s.bad then(none,⟨s.rest,true⟩) else match g s.rest with
 |Option.none=>(none,⟨s.rest,true⟩)
 |some (x,k)=>(x,⟨s.rest.drop k,false⟩)
def yT(n:Nat)(s:Sc):List Int × Sc:=
 if(tkR zy [] s).1.length=n then tkR zy [] s else(List.replicate n 0,⟨(tkR zy [] s).2.rest,true⟩)
def yx(s:Sc):List UInt8 × Sc:=tkR yg [] s
def ZW(s:Sc):List (List UInt8) × Sc:=tkR zF [] s
def yt{α:Type}(rd:Sc→α × Sc)(t:List UInt8)(s:Sc):α × Sc:=
 ((rd ⟨t,false⟩).1,⟨s.rest,s.bad ||(rd ⟨t,false⟩).2.bad || !(rd ⟨t,false⟩).2.rest.isEmpty⟩)
def zaR{α:Type}(rd:Sc→α × Sc):List (List UInt8)→Sc→List α × Sc
 | [],s=>([],s)
 |t::l,s=>((yt rd t s).1::(zaR rd l (yt rd t s).2).1,(zaR rd l (yt rd t s).2).2)
def yE{α:Type}(rd:Sc→α × Sc)(s:Sc):List α × Sc:=zaR rd (ZW s).1 (ZW s).2
def Zd{α β:Type}(a:Sc→α × Sc)(f:α→Sc→β × Sc)(s:Sc):β × Sc:=f (a s).1 (a s).2
def zeL{α:Type}(x:α)(s:Sc):α × Sc:=(x,s)
def tkOne{α:Type}(rd:Sc→α × Sc):Sc→α × Sc:=Zd yx fun t=>yt rd t
def sg0:Sg:=⟨0,0,0,0,[],[]⟩
def tkSg(s:Sc):Sg × Sc:=match whole rdSg s.rest with
 |none=>(sg0,⟨[],true⟩)
 |some x=>(x,⟨[],s.bad⟩)
def tkSt:Sc→St × Sc:=Zd (yT 4) fun n=>Zd yx fun a=>Zd (yE tkSg) fun c=>Zd (tkOne tkSg) fun g=>zeL ⟨n.getD 0 0,n.getD 1 0,n.getD 2 0,n.getD 3 0,a,Sl.of c,g⟩
def tkDe:Sc→De × Sc:=Zd (yT 1) fun n=>Zd yx fun a=>Zd (yE tkSg) fun c=>zeL ⟨n.getD 0 0,a,Sl.of c⟩
def tkHo:Sc→Ho × Sc:=Zd (yT 1) fun n=>Zd tkDe fun e=>zeL ⟨n.getD 0 0,e⟩
def tkSn:Sc→Sn × Sc:=Zd (yT 1) fun n=>Zd yx fun a=>Zd ZW fun ch=>Zd (yE tkSg) fun p=>Zd (yE tkHo) fun c=>zeL ⟨n.getD 0 0,a,Sl.of ch,Sl.of p,Sl.of c⟩
def tkMs:Sc→Ms × Sc:=Zd (yT 6) fun n=>Zd yx fun a=>Zd (tkOne tkSg) fun g=>Zd (yE tkSt) fun ss=>Zd (yE tkDe) fun es=>Zd (tkOne tkSn) fun x=>Zd ZW fun t=>
 zeL ⟨n.getD 0 0,n.getD 1 0,n.getD 2 0,n.getD 3 0,n.getD 4 0,a,n.getD 5 0,g,Sl.of ss,Sl.of es,x,Sl.of t⟩
structure Ag {α:Type} (p:Pr α) (tk:Sc→α × Sc):Prop where
 bad:∀s:Sc,s.bad=true→(tk s).2.bad=true
 len:∀s:Sc,(tk s).2.rest.length≤s.rest.length
 none:∀s:Sc,s.bad=false→p s.rest=none→(tk s).2.bad=true
 some:∀(s:Sc) (x:α) (r:List UInt8),s.bad=false→p s.rest=some (x,r)→tk s=(x,⟨r,false⟩)
theorem ag_ret(x:α):Ag (Pr.ret x) (zeL x) where
 bad _ h:=h
 len _:=ag _
 none _ _ h:=by simp[Pr.ret]at h
 some s y r hb h:=by
  simp only[Pr.ret,ax,aI]at h;obtain⟨rfl,rfl⟩:=h;obtain⟨r,b⟩:=s;simp only at hb;subst hb;rfl
theorem Zw{p:Pr α}{a:Sc→α × Sc}{q:α→Pr β}{f:α→Sc→β × Sc}(h:Ag p a)(k:∀x,Ag (q x) (f x)):Ag (p.then q) (Zd a f) where
 bad s hs:=(k _).bad _ (h.bad s hs)
 len s:=ah ((k _).len _) (h.len s)
 none s hb hn:=by
  unfold Pr.then at hn;cases hp:p s.rest with
  |none=>exact(k _).bad _ (h.none s hb hp)
  |some y=>
   obtain⟨x,r⟩:=y;rw[hp]at hn;simp only at hn;unfold Zd;rw[h.some s x r hb hp];exact(k x).none ⟨r,false⟩ rfl hn
 some s y r hb hn:=by
  unfold Pr.then at hn;cases hp:p s.rest with
  |none=>rw[hp]at hn;simp at hn
  |some z=>
   obtain⟨x,q'⟩:=z;rw[hp]at hn;simp only at hn;unfold Zd;rw[h.some s x q' hb hp];exact(k x).some ⟨q',false⟩ y r rfl hn
theorem zfK(g:List UInt8→Option (α × Nat))(d:α):Ag (off g) (tkR g d) where
 bad s h:=by unfold tkR;rw[af h]
 len s:=by
  unfold tkR;split
  · exact ag _
  · split
    · exact ag _
    · simp
 none s hb h:=by
  unfold off at h;unfold tkR;rw[aa (by simp[hb])];cases hg:g s.rest with
  |none=>rfl
  |some y=>rw[hg]at h;simp at h
 some s x r hb h:=by
  unfold off at h;unfold tkR;rw[aa (by simp[hb])];cases hg:g s.rest with
  |none=>rw[hg]at h;simp at h
  |some y=>
   rw[hg]at h;simp only[ax,aI]at h;obtain⟨rfl,rfl⟩:=h;rfl
theorem zb7(n:Nat):Ag (Zc n) (yT n) where
 bad s h:=by
  have:=(zfK zy []).bad s h;unfold yT;split
  · exact this
  · rfl
 len s:=by
  have:=(zfK zy []).len s;unfold yT;split <;> exact this
 none s hb h:=by
  unfold Zc at h;unfold yT;cases hg:off zy s.rest with
  |none=>
   have:=(zfK zy []).none s hb hg;split
   · exact this
   · rfl
  |some y=>
   obtain⟨x,r⟩:=y;rw[hg]at h;simp only at h;have:=(zfK zy []).some s x r hb hg;rw[this];split at h
   · simp at h
   · rename_i hl;rw[aa hl]
 some s x r hb h:=by
  unfold Zc at h;unfold yT;cases hg:off zy s.rest with
  |none=>rw[hg]at h;simp at h
  |some y=>
   obtain⟨x',r'⟩:=y;rw[hg]at h;simp only at h;have:=(zfK zy []).some s x' r' hb hg;rw[this];split at h
   · rename_i hl;simp only[ax,aI]at h;obtain⟨rfl,rfl⟩:=h;rw[af hl]
   · simp at h
theorem ZE:Ag Zb yx:=zfK yg []
theorem Y8:Ag Zn ZW:=zfK zF []
theorem zeP{p:Pr α}{tk:Sc→α × Sc}(h:Ag p tk)(t:List UInt8)(s:Sc)(hn:whole p t=none):(yt tk t s).2.bad=true:=by
 unfold whole at hn;unfold yt;cases hp:p t with
 |none=>
  have:=h.none ⟨t,false⟩ rfl hp;simp[this]
 |some y=>
  obtain⟨x,r⟩:=y;rw[hp]at hn;simp only at hn;rw[h.some ⟨t,false⟩ x r rfl hp];split at hn
  · simp at hn
  · rename_i hr;cases r with
    |nil=>simp at hr
    |cons a b=>simp
theorem zfc{p:Pr α}{tk:Sc→α × Sc}(h:Ag p tk)(t:List UInt8)(s:Sc)(x:α)(hs:whole p t=some x):yt tk t s=(x,s):=by
 unfold whole at hs;unfold yt;cases hp:p t with
 |none=>rw[hp]at hs;simp at hs
 |some y=>
  obtain⟨x',r⟩:=y;rw[hp]at hs;simp only at hs;rw[h.some ⟨t,false⟩ x' r rfl hp];split at hs
  · rename_i hr;subst hr;simp only[ax]at hs;subst hs;simp
  · simp at hs
theorem part_bad(tk:Sc→α × Sc)(t:List UInt8)(s:Sc)(h:s.bad=true):(yt tk t s).2.bad=true:=by
 unfold yt;simp[h]
theorem all_bad(tk:Sc→α × Sc):∀(l:List (List UInt8)) (s:Sc),s.bad=true→(zaR tk l s).2.bad=true
 | [],_,h=>h
 |t::l,s,h=>by rw[zaR];exact all_bad tk l _ (part_bad tk t s h)
theorem all_rest(tk:Sc→α × Sc):∀(l:List (List UInt8)) (s:Sc),(zaR tk l s).2.rest=s.rest
 | [],_=>rfl
 |t::l,s=>by rw[zaR];exact all_rest tk l _
theorem all_none{p:Pr α}{tk:Sc→α × Sc}(h:Ag p tk):∀(l:List (List UInt8)) (s:Sc),many p l=none→(zaR tk l s).2.bad=true
 | [],_,hn=>by simp[many]at hn
 |t::l,s,hn=>by
  rw[many]at hn
  rw[zaR]
  cases hw:whole p t with
  |none=>exact all_bad tk l _ (zeP h t s hw)
  |some x=>
   rw[hw]at hn
   simp only at hn
   cases hm:many p l with
   |none=>exact all_none h l _ hm
   |some xs=>rw[hm]at hn;simp at hn
theorem all_some{p:Pr α}{tk:Sc→α × Sc}(h:Ag p tk):∀(l:List (List UInt8)) (s:Sc) (xs:List α),many p l=some xs→zaR tk l s=(xs,s)
 | [],s,xs,hn=>by simp only[many,ax]at hn;subst hn;rfl
 |t::l,s,xs,hn=>by
  rw[many]at hn
  rw[zaR]
  cases hw:whole p t with
  |none=>rw[hw]at hn;simp at hn
  |some x=>
   rw[hw]at hn
   simp only at hn
   cases hm:many p l with
   |none=>rw[hm]at hn;simp at hn
   |some ys=>
    rw[hm]at hn
    simp only[ax]at hn
    subst hn
    rw[zfc h t s x hw,all_some h l s ys hm]
theorem Yv{p:Pr α}{tk:Sc→α × Sc}(h:Ag p tk):Ag (Ya p) (yE tk) where
 bad s hs:=all_bad tk _ _ (Y8.bad s hs)
 len s:=by
  unfold yE;rw[all_rest];exact Y8.len s
 none s hb hn:=by
  unfold Ya at hn;unfold yE;cases hp:Zn s.rest with
  |none=>exact all_bad tk _ _ (Y8.none s hb hp)
  |some y=>
   obtain⟨l,r⟩:=y;rw[hp]at hn;simp only at hn;rw[Y8.some s l r hb hp];cases hm:many p l with
   |none=>exact all_none h l _ hm
   |some xs=>rw[hm]at hn;simp at hn
 some s xs r hb hn:=by
  unfold Ya at hn;unfold yE;cases hp:Zn s.rest with
  |none=>rw[hp]at hn;simp at hn
  |some y=>
   obtain⟨l,r'⟩:=y;rw[hp]at hn;simp only at hn;rw[Y8.some s l r' hb hp];cases hm:many p l with
   |none=>rw[hm]at hn;simp at hn
   |some ys=>
    rw[hm]at hn;simp only[ax,aI]at hn;obtain⟨rfl,rfl⟩:=hn;exact all_some h l _ ys hm
theorem ag_one{p:Pr α}{tk:Sc→α × Sc}(h:Ag p tk):Ag (za7 p) (tkOne tk) where
 bad s hs:=part_bad tk _ _ (ZE.bad s hs)
 len s:=ZE.len s
 none s hb hn:=by
  unfold za7 at hn;unfold tkOne Zd;cases hp:Zb s.rest with
  |none=>exact part_bad tk _ _ (ZE.none s hb hp)
  |some y=>
   obtain⟨t,r⟩:=y;rw[hp]at hn;simp only at hn;rw[ZE.some s t r hb hp];cases hm:whole p t with
   |none=>exact zeP h t _ hm
   |some x=>rw[hm]at hn;simp at hn
 some s x r hb hn:=by
  unfold za7 at hn;unfold tkOne Zd;cases hp:Zb s.rest with
  |none=>rw[hp]at hn;simp at hn
  |some y=>
   obtain⟨t,r'⟩:=y;rw[hp]at hn;simp only at hn;rw[ZE.some s t r' hb hp];cases hm:whole p t with
   |none=>rw[hm]at hn;simp at hn
   |some z=>
    rw[hm]at hn;simp only[ax,aI]at hn;obtain⟨rfl,rfl⟩:=hn;exact zfc h t _ z hm
theorem rdSg_rest{x:Sg}(h:rdSg s=some (x,r)):r=[]:=by
 unfold rdSg at h;cases h1:Zc 4 s with
 |none=>rw[h1]at h;simp at h
 |some y=>
  rw[h1]at h;simp only at h;cases h2:Zb y.2 with
  |none=>rw[h2]at h;simp at h
  |some y2=>
   rw[h2]at h;simp only at h;cases h3:Zb y2.2 with
   |none=>rw[h3]at h;simp at h
   |some y3=>
    rw[h3]at h;simp only at h;split at h
    · simp only[ax,aI]at h;exact h.2.symm
    · simp at h
theorem ag_sg:Ag rdSg tkSg where
 bad s hs:=by unfold tkSg;split <;> simp[hs]
 len s:=by unfold tkSg;split <;> simp
 none s hb hn:=by
  unfold tkSg whole;rw[hn]
 some s x r hb hn:=by
  have hr:=rdSg_rest hn;subst hr;unfold tkSg;rw[whole_of hn];simp only[hb]
theorem ag_st:Ag rdSt tkSt:=Zw (zb7 4) fun _=>Zw ZE fun _=>Zw (Yv ag_sg) fun _=>Zw (ag_one ag_sg) fun _=>ag_ret _
theorem ag_de:Ag rdDe tkDe:=Zw (zb7 1) fun _=>Zw ZE fun _=>Zw (Yv ag_sg) fun _=>ag_ret _
theorem ag_ho:Ag rdHo tkHo:=Zw (zb7 1) fun _=>Zw ag_de fun _=>ag_ret _
theorem ag_sn:Ag rdSn tkSn:=Zw (zb7 1) fun _=>Zw ZE fun _=>Zw Y8 fun _=>Zw (Yv ag_sg) fun _=>Zw (Yv ag_ho) fun _=>ag_ret _
theorem ag_ms:Ag rdMs tkMs:=Zw (zb7 6) fun _=>Zw ZE fun _=>Zw (ag_one ag_sg) fun _=>Zw (Yv ag_st) fun _=>Zw (Yv ag_de) fun _=>Zw (ag_one ag_sn) fun _=>Zw Y8 fun _=>ag_ret _
/-! what is read is in range -/
theorem unzig_i64(n:Nat)(h:n<18446744073709551616):I64 (zcR n):=by
 unfold zcR I64;split <;> omega
theorem zff(g:List UInt8→Option (α × Nat))(P:α→Prop)(hg:∀s x k,g s=some (x,k)→P x):∀(n:Nat) (s:List UInt8) (xs:List α) (m:Nat),zY g n s=some (xs,m)→∀x∈xs,P x
 |0,s,xs,m,h=>by
  simp only[zY,ax,aI]at h
  obtain⟨rfl,rfl⟩:=h
  simp
 |n+1,s,xs,m,h=>by
  rw[zY]at h
  cases hx:g s with
  |none=>rw[hx]at h;simp at h
  |some y=>
   obtain⟨x,k⟩:=y
   rw[hx]at h
   simp only at h
   cases hy:zY g n (s.drop k) with
   |none=>rw[hy]at h;simp at h
   |some z=>
    obtain⟨ys,j⟩:=z
    rw[hy]at h
    simp only[ax,aI]at h
    obtain⟨rfl,rfl⟩:=h
    intro z hz
    rcases bC.1 hz with rfl|hz
    · exact hg s _ k hx
    · exact zff g P hg n _ ys j hy z hz
theorem getInts_i64{xs:List Int}(h:zy s=some (xs,k)):∀x∈xs,I64 x:=by
 unfold zy za5 at h;cases hv:getV s with
 |none=>rw[hv]at h;simp at h
 |some y=>
  obtain⟨n,j⟩:=y;rw[hv]at h;simp only at h;cases hy:zY Za n (s.drop j) with
  |none=>rw[hy]at h;simp at h
  |some z=>
   obtain⟨ys,i⟩:=z;rw[hy]at h;simp only[ax,aI]at h;obtain⟨rfl,rfl⟩:=h;refine zff Za I64 (fun s x k h=> ?_) n _ ys i hy;unfold Za at h;cases hq:getV s with
   |none=>rw[hq]at h;simp at h
   |some y=>
    rw[hq]at h;simp only[dH,ax,aI]at h;obtain⟨rfl,_⟩:=h;exact unzig_i64 _ (ze1 10 0 0 s y.1 y.2 ja ja hq)
theorem zaq(n:Nat)(s:Sc):(yT n s).1.length=n∧∀x∈(yT n s).1,I64 x:=by
 unfold yT;split
 · rename_i h;refine⟨h,?_⟩;unfold tkR;split
   · simp
   · cases hg:zy s.rest with
     |none=>simp
     |some y=>exact getInts_i64 (k:=y.2) hg
 · refine⟨by simp,fun x hx=> ?_⟩;rw[List.mem_replicate]at hx;rw[hx.2];exact fo198
theorem tkInts_at(n:Nat)(s:Sc)(k:Nat)(h:k<n):I64 ((yT n s).1.getD k 0):=by
 have h1:=zaq n s;rw[gW,aP ja];exact h1.2 _ (aH _)
theorem rdSg_ok{x:Sg}(h:rdSg s=some (x,r)):x.ok:=by
 unfold rdSg at h;cases h1:Zc 4 s with
 |none=>rw[h1]at h;simp at h
 |some y=>
  have hi:∀k,k<4→I64 (y.1.getD k 0):=fun k hk=>by
   have:=(zb7 4).some ⟨s,false⟩ y.1 y.2 rfl h1;have h2:=tkInts_at 4 ⟨s,false⟩ k hk;rw[this]at h2;exact h2
  rw[h1]at h;simp only at h;cases h2:Zb y.2 with
  |none=>rw[h2]at h;simp at h
  |some y2=>
   rw[h2]at h;simp only at h;cases h3:Zb y2.2 with
   |none=>rw[h3]at h;simp at h
   |some y3=>
    rw[h3]at h;simp only at h;split at h
    · simp only[ax,aI]at h;rw[←h.1];exact⟨hi 0 ja,hi 1 ja,hi 2 ja,hi 3 ja⟩
    · simp at h
theorem tkSg_ok(s:Sc):(tkSg s).1.ok:=by
 unfold tkSg;split
 · exact⟨⟨by decide,by decide⟩,⟨by decide,by decide⟩,⟨by decide,by decide⟩,⟨by decide,by decide⟩⟩
 · rename_i x hx;unfold whole at hx;cases hp:rdSg s.rest with
   |none=>rw[hp]at hx;simp at hx
   |some y=>
    rw[hp]at hx;simp only at hx;split at hx
    · simp only[ax]at hx;subst hx;exact rdSg_ok (r:=y.2) hp
    · simp at hx
/-! the sizes of whatever is read -/
theorem zdn(s:Sc):(yx s).1.length+(yx s).2.rest.length≤s.rest.length:=by
 unfold yx tkR;split
 · simp
 · cases hg:yg s.rest with
   |none=>simp
   |some y=>
    have:=Zj (x:=y.1) (k:=y.2) hg;simp only[aK];omega
theorem zcq(s:Sc):sum szS (ZW s).1+(ZW s).2.rest.length≤s.rest.length:=by
 unfold ZW tkR;split
 · simp[sum]
 · cases hg:zF s.rest with
   |none=>simp[sum]
   |some y=>
    have:=zbk yg szS (fun s x k h=>by have:=Zj h;unfold szS;omega) (s:=s.rest) (xs:=y.1) (k:=y.2) hg;simp only[aK];omega
theorem zcI(n:Nat)(s:Sc):(yT n s).2.rest.length≤s.rest.length:=(zb7 n).len s
structure Pt where
 (time kind who slot number:Int) (text result:List UInt8) (msg:Ms)
def ptH(x:Pt):List Value:=[x.time,x.kind,x.who,x.slot,x.number,x.text,x.result]
def ptC(x:Pt):List Value:=ptH x++msC x.msg
theorem Yy(x:Pt):(ptC x).length=28:=rfl
theorem ptC_msg(x:Pt)(j:Nat):(ptC x)[7+j]? =(msC x.msg)[j]?:=by
 unfold ptC;rw[dM (by show 7≤7+j;omega)];show(msC x.msg)[7+j- 7]? =_;rw[show 7+j- 7=j from by omega]
def Pt.ok(x:Pt)(w:World):Prop:=(I64 x.time∧I64 x.kind∧I64 x.who∧I64 x.slot∧I64 x.number)∧x.msg.ok w
theorem Pt.below{x:Pt}{w:World}(h:x.ok w)(hb:Below w.heap.size w w'):x.ok w':=⟨h.1,Ms.below h.2 hb⟩
def Pt.sz(x:Pt):Nat:=x.text.length+x.result.length+x.msg.sz+7
def Yz(w:World)(A:Option Addr)(l:List Pt):Prop:=Rd w 28 A l.length (l.flatMap ptC)∧∀x∈l,x.ok w
theorem Yz.below{w:World}{l:List Pt}(h:Yz w A l)(hb:Below w.heap.size w w'):Yz w' A l:=⟨Rd.below h.1 hb,fun x hx=>Pt.below (h.2 x hx) hb⟩
theorem Yz.at{w:World}{l:List Pt}(h:Yz w A l)(hk:k<l.length) :
    ∃b o,A=some ⟨b,o,none⟩∧b<w.heap.size∧∀w',Below w.heap.size w w'→w'.rangeAt b (o+k * 28) (ptC l[k]):=by
 obtain⟨b,o,hA,hb,hc⟩:=h.1.at Yy ja hk;exact⟨b,o,hA,hb,fun w' hw j v hv=>hc w' hw j v hv⟩
/-! few points -/
/-! operations -/
structure Opn where
 (client first last:Int) (op result:List UInt8)
 deriving DecidableEq
def opC(x:Opn):List Value:=[x.client,x.first,x.last,x.op,x.result]
theorem opC_len(x:Opn):(opC x).length=5:=rfl
def isCl(n:Int):Bool:=decide (0≤n) && decide (n<6)
def isSv(n:Int):Bool:=decide (0≤n) && decide (n<12)
def zbx(x:Pt):Bool:=decide (x.kind=1) && isCl x.who
def zdY(x y:Pt):Bool:=decide (y.kind=2) && decide (y.who=x.who) && decide (y.number=x.number)
def opOf(x:Pt)(i:Nat)(r:List Pt):Opn:=match r.findIdx? (zdY x) with
 |none=>⟨x.who,i, -1,x.text,[]⟩
 |some k=>⟨x.who,i,i+1+k,x.text,(r[k]?.map Pt.result).getD []⟩
def Y4(i:Nat):List Pt→List Opn
 | []=> []
 |x::r=>if zbx x then opOf x i r::Y4 (i+1) r else Y4 (i+1) r
def zfS(l:List Pt)(k:Nat):List Opn:=if h:k<l.length then(if zbx l[k] then [opOf l[k] k (l.drop (k+1))] else []) else []
theorem opsFrom_at(l:List Pt)(k:Nat):Y4 k (l.drop k)=zfS l k++Y4 (k+1) (l.drop (k+1)):=by
 unfold zfS;by_cases h:k<l.length
 · rw[bK h,bB h,Y4];split <;> simp
 · rw[cu h,bJ ja,bJ ja];rfl
def cut:List UInt8→List (List UInt8)
 | []=> [[]]
 |b::r=>if b=32 then []::cut r else match cut r with
  | []=> [[b]]
  |x::t=>(b::x)::t
theorem cut_ne:∀s,cut s≠ []
 | []=>by simp[cut]
 |b::r=>by
  unfold cut
  split
  · simp
  · split <;> simp
theorem zer(s:List UInt8):∃x t,cut s=x::t:=by
 cases h:cut s with
 |nil=>exact absurd h (cut_ne s)
 |cons x t=>exact⟨x,t,rfl⟩
theorem index_cons_ne{b:UInt8}(h:b≠32):Lib.index (b::r) [32]=if Lib.index r [32] == -1 then -1 else Lib.index r [32]+1:=by
 rw[Lib.index];have:List.isPrefixOf [(32:UInt8)] (b::r)=false:=by
  simp[List.isPrefixOf];exact fun e=>h e.symm
 rw[this];rfl
theorem index_cons_eq(r:List UInt8):Lib.index (32::r) [32]=0:=by
 rw[Lib.index];have:List.isPrefixOf [(32:UInt8)] (32::r)=true:=by simp[List.isPrefixOf]
 rw[this];rfl
theorem zgp:∀s:List UInt8,Lib.splitK [32] 0 (Lib.count s [32]) s=cut s
 | []=>by
  unfold cut
  generalize Lib.count [] [32]=k
  cases k with
  |zero=>rfl
  |succ k=>
   unfold Lib.splitK
   rw[af jf]
 |b::r=>by
  have ih:=zgp r
  by_cases h:b=32
  · subst h
    rw[Lib.count_cons_eq,dS,Lib.splitK,index_cons_eq]
    rw[aa jf]
    simp only[cut,aW]
    rw[←ih]
    rfl
  · rw[Lib.count_cons_ne b 32 r h]
    unfold cut
    rw[aa h,←ih]
    generalize Lib.count r [32]=k
    cases k with
    |zero=>rfl
    |succ k=>
     rw[Lib.splitK,Lib.splitK,index_cons_ne h]
     have hge:=Lib.index_ge r [32]
     by_cases hi:Lib.index r [32]=-1
     · rw[hi]
       simp
     · have h1:(Lib.index r [32] == -1)=false:=by simpa using hi
       have h2:((Lib.index r [32]+1) == -1)=false:=by
        rw[aF];omega
       simp only[h1,h2,bW,bU];have h3:(Lib.index r [32]+1).toNat=(Lib.index r [32]).toNat+1:=by omega
       rw[h3];simp[]
theorem splitB_cut(s:ByteArray):(Lib.splitB ⟨#[32]⟩ 0 (Lib.countB s ⟨#[32]⟩) s).map (·.data.toList)=cut s.data.toList:=by
 rw[Lib.splitB_data];exact zgp _
theorem zdk(x:List UInt8)(r:List (List UInt8)):Lib.joinTail [32] (x::r)=32::Lib.join (x::r) [32]:=by
 rw[fI];simp[Lib.joinTail]
theorem join_cut:∀s,Lib.join (cut s) [32]=s
 | []=>by simp[cut,Lib.join_one]
 |b::r=>by
  have ih:=join_cut r
  obtain⟨x,t,hc⟩:=zer r
  rw[hc]at ih
  unfold cut
  by_cases h:b=32
  · rw[af h,fI,hc,zdk,ih,h]
    rfl
  · rw[aa h,hc]
    rw[fI]at ih⊢
    show b::(x++Lib.joinTail [32] t)=_
    rw[ih]
theorem cut_one:∀x:List UInt8,(32:UInt8)∉x→cut x=[x]
 | [],_=>rfl
 |b::r,h=>by
  have hb:b≠32:=fun e=>h (by rw[e];exact bY ..)
  have hr:(32:UInt8)∉r:=fun hm=>h (dm _ hm)
  unfold cut
  rw[aa hb,cut_one r hr]
theorem cut_app:∀x:List UInt8,(32:UInt8)∉x→∀t,cut (x++32::t)=x::cut t
 | [],_,t=>by simp[cut]
 |b::r,h,t=>by
  have hb:b≠32:=fun e=>h (by rw[e];exact bY ..)
  have hr:(32:UInt8)∉r:=fun hm=>h (dm _ hm)
  rw[aZ,cut,aa hb,cut_app r hr t]
theorem cut_join:∀(l:List (List UInt8)),l≠ []→(∀x∈l,(32:UInt8)∉x)→cut (Lib.join l [32])=l
 | [],h,_=>absurd rfl h
 | [x],_,h=>by rw[Lib.join_one];exact cut_one x (h x (bY ..))
 |x::y::r,_,h=>by
  rw[fI,zdk,cut_app x (h x (bY ..)),cut_join (y::r) jc (fun z hz=>h z (dm _ hz))]
theorem join_is(s:List UInt8)(l:List (List UInt8))(hl:l≠ [])(hf:∀x∈l,(32:UInt8)∉x):Lib.join l [32]=s↔l=cut s:=
 ⟨fun h=>by rw[←h,cut_join l hl hf],fun h=>by rw[h,join_cut]⟩
/-! kinds of operations -/
def zo(k:Nat):List UInt8:=match k with
 |1=> [112,117,116]
 |2=> [103,101,116]
 |3=> [100,101,108,101,116,101]
 |4=> [97,112,112,101,110,100]
 |5=> [99,97,115]
 |6=> [99,111,117,110,116]
 |_=> []
def graphic(s:List UInt8)(n:Nat):Bool:=s.all (fun b=>decide (33≤b.toNat) && decide (b.toNat≤126)) && decide (s≠ []) && decide (s.length≤n)
def zH(s:List UInt8)(there:Bool):Bool:=if there then graphic s 64 else decide (s=[])
def zx(k:Nat):Bool:=decide (1≤k) && decide (k≤5)
def zB(k:Nat):Bool:=decide (k=5)
def zI(k:Nat):Bool:=decide (k=1) || decide (k=4) || decide (k=5)
theorem graphic_free(h:graphic s n=true):(32:UInt8)∉s:=fun hm=>by
 simp only[graphic,aT,bX,aY]at h
 have:=(h.1.1 _ hm).1
 exact absurd this jf
theorem yN(h:graphic s n=true):s≠ []:=by
 simp only[graphic,aT,aY]at h;exact h.1.2
theorem opWord_free(k:Nat):(32:UInt8)∉zo k:=by
 unfold zo;split <;> decide
def zP(k:Nat)(key old new:List UInt8):Bool:=zH key (zx k) && zH old (zB k) && zH new (zI k)
def zaP(k:Nat)(key old new:List UInt8):List (List UInt8):=zo k:: [key,old,new].filter (fun s=>decide (s≠ []))
def yw(k:Nat)(key old new:List UInt8):List UInt8:=Lib.join (zaP k key old new) [32]
def opN(k:Nat):Nat:=match k with
 |1=>2
 |2=>1
 |3=>1
 |4=>2
 |5=>3
 |_=>0
def Y7(k:Nat)(r:List (List UInt8)):Bool:=decide (r.length=opN k) && r.all (fun x=>graphic x 64)
def kindOk(k:Nat)(s:List UInt8):Bool:=match cut s with
 | []=>false
 |x::r=>decide (x=zo k) && Y7 k r
def opOk(s:List UInt8):Bool:=kindOk 1 s || kindOk 2 s || kindOk 3 s || kindOk 4 s || kindOk 5 s || kindOk 6 s
theorem zdA{r:List (List UInt8)}(h:cut s=x::r)(k:Nat):kindOk k s=(decide (x=zo k) && Y7 k r):=by
 unfold kindOk;rw[h]
def YA(t:Bool)(r:List (List UInt8)):List UInt8:=if t then r.headD [] else []
def yH(t:Bool)(r:List (List UInt8)):List (List UInt8):=if t then r.tail else r
theorem za1:zH s false=decide (s=[]):=rfl
theorem zcB:zH s true=graphic s 64:=rfl
theorem YK(n:Nat):graphic [] n=false:=by simp[graphic]
theorem Zh(h:graphic s n=true):decide (s≠ [])=true:=aO (yN h)
theorem zde{r:List (List UInt8)}(h:cut s=zo k::r)(fs:List (List UInt8))(hf:∀x∈fs,graphic x 64=true) :
    (Lib.join (zo k::fs) [32]=s)↔fs=r:=by
 rw[join_is s (zo k::fs) jc (fun x hx=>by
  rcases bC.1 hx with rfl|hx
  · exact opWord_free k
  · exact graphic_free (hf x hx)),h]
 simp
def Y6(k:Nat)(s:List UInt8)(r:List (List UInt8)):Bool:=
 zP k (YA (zx k) r) (YA (zB k) (yH (zx k) r)) (YA (zI k) (yH (zB k) (yH (zx k) r))) &&
 (yw k (YA (zx k) r) (YA (zB k) (yH (zx k) r)) (YA (zI k) (yH (zB k) (yH (zx k) r))) == s)
theorem prog_one{r:List (List UInt8)}(h:cut s=zo k::r)(hk:zx k=true∧zB k=false∧zI k=false∧opN k=1):Y6 k s r=Y7 k r:=by
 obtain⟨h1,h2,h3,h4⟩:=hk;unfold Y6 zP Y7;simp only[h1,h2,h3,h4,YA,yH,aW,bW,bU,za1,zcB,gF,dA];cases r with
 |nil=>simp[YK]
 |cons a t=>
  simp only[eY];by_cases ha:graphic a 64=true
  · have hx:=zde h [a] (by simp[ha]);have he:yw k a [] []=Lib.join (zo k:: [a]) [32]:=by simp[yw,zaP,yN ha]
    rw[bQ];simp only[ha,bS,aV];rw[he,hx];constructor
    · intro e;obtain rfl:t=[]:=by simpa using e.symm
      simp[ha]
    · exact fo85
  · exact fo178
theorem prog_two{r:List (List UInt8)}(h:cut s=zo k::r)(hk:zx k=true∧zB k=false∧zI k=true∧opN k=2):Y6 k s r=Y7 k r:=by
 obtain⟨h1,h2,h3,h4⟩:=hk;unfold Y6 zP Y7;simp only[h1,h2,h3,h4,YA,yH,aW,bW,bU,za1,zcB,gF,dA];rcases r with _|⟨a,_|⟨b,t⟩⟩
 · simp[YK]
 · simp[YK]
 · simp only[eY,List.tail_cons];by_cases ha:graphic a 64=true
   · by_cases hb:graphic b 64=true
     · have hx:=zde h [a,b] (by simp[ha,hb]);have he:yw k a [] b=Lib.join (zo k:: [a,b]) [32]:=by simp[yw,zaP,yN ha,yN hb]
       rw[bQ];simp only[ha,hb,bS,aV];rw[he,hx];constructor
       · intro e;obtain rfl:t=[]:=by simpa using e.symm
         simp[ha,hb]
       · exact fo85
     · exact fo223
   · exact fo178
theorem prog_three{r:List (List UInt8)}(h:cut s=zo k::r)(hk:zx k=true∧zB k=true∧zI k=true∧opN k=3):Y6 k s r=Y7 k r:=by
 obtain⟨h1,h2,h3,h4⟩:=hk;unfold Y6 zP Y7;simp only[h1,h2,h3,h4,YA,yH,aW,zcB];rcases r with _|⟨a,_|⟨b,_|⟨c,t⟩⟩⟩
 · simp[YK]
 · simp[YK]
 · simp[YK]
 · simp only[eY,List.tail_cons];by_cases ha:graphic a 64=true
   · by_cases hb:graphic b 64=true
     · by_cases hc:graphic c 64=true
       · have hx:=zde h [a,b,c] (by simp[ha,hb,hc]);have he:yw k a b c=Lib.join (zo k:: [a,b,c]) [32]:=by simp[yw,zaP,yN ha,yN hb,yN hc]
         rw[bQ];simp only[ha,hb,hc,bS,aV];rw[he,hx];constructor
         · intro e;obtain rfl:t=[]:=by simpa using e.symm
           simp[ha,hb,hc]
         · exact fo85
       · have hc':graphic c 64=false:=by simpa using hc
         simp[hc']
     · exact fo223
   · exact fo178
theorem prog_none{r:List (List UInt8)}(h:cut s=zo k::r)(hk:zx k=false∧zB k=false∧zI k=false∧opN k=0):Y6 k s r=Y7 k r:=by
 obtain⟨h1,h2,h3,h4⟩:=hk;unfold Y6 zP Y7;simp only[h1,h2,h3,h4,YA,yH,bW,bU,za1,gF,bS];have hx:=zde h [] jc;have he:yw k [] [] []=Lib.join (zo k:: []) [32]:=by simp[yw,zaP]
 rw[bQ];simp only[aV];rw[he,hx];cases r with
 |nil=>simp
 |cons a t=>simp
theorem prog_kind{r:List (List UInt8)}(h1:1≤k)(h6:k≤6)(h:cut s=zo k::r):Y6 k s r=kindOk k s:=by
 rw[zdA h k,aO rfl,bS];have:k=1∨k=2∨k=3∨k=4∨k=5∨k=6:=by omega
 rcases this with rfl|rfl|rfl|rfl|rfl|rfl
 · exact prog_two h ⟨rfl,rfl,rfl,rfl⟩
 · exact prog_one h ⟨rfl,rfl,rfl,rfl⟩
 · exact prog_one h ⟨rfl,rfl,rfl,rfl⟩
 · exact prog_two h ⟨rfl,rfl,rfl,rfl⟩
 · exact prog_three h ⟨rfl,rfl,rfl,rfl⟩
 · exact prog_none h ⟨rfl,rfl,rfl,rfl⟩
theorem kind_no{r:List (List UInt8)}(h:cut s=x::r)(hx:x≠zo k):kindOk k s=false:=by
 rw[zdA h k,av hx];rfl
theorem zeQ(h1:1≤k)(h6:k≤6)(h:kindOk k s=true):opOk s=true:=by
 have:k=1∨k=2∨k=3∨k=4∨k=5∨k=6:=by omega
 unfold opOk;rcases this with rfl|rfl|rfl|rfl|rfl|rfl <;> simp[h]
theorem opOk_no(h:∀k,1≤k→k≤6→kindOk k s=false):opOk s=false:=by
 unfold opOk;rw[h 1,h 2,h 3,h 4,h 5,h 6] <;> first|rfl|omega
/-! the reference's test -/
def zL(r:List (List UInt8)):List UInt8:=r.headD []
def zM(k:Nat)(r:List (List UInt8)):List UInt8:=if k=5 then r.tail.headD [] else []
def zG(k:Nat)(r:List (List UInt8)):List UInt8:=if k=5 then r.tail.tail.headD [] else r.tail.headD []
def refOk(k:Nat)(s:List UInt8)(r:List (List UInt8)):Bool:=
 zP k (zL r) (zM k r) (zG k r) &&(yw k (zL r) (zM k r) (zG k r) == s)
theorem ref_kind{r:List (List UInt8)}(h1:1≤k)(h6:k≤6)(h:cut s=zo k::r):refOk k s r=kindOk k s:=by
 have hp:=prog_kind h1 h6 h;rw[←hp];have:k=1∨k=2∨k=3∨k=4∨k=5∨k=6:=by omega
 have hn2:∀k,zI k=false→opN k≤1→k≤6→cut s=zo k::r→Y6 k s r=Y7 k r→r.tail.headD []≠ []→zG k r=r.tail.headD []→refOk k s r=Y6 k s r:=by
  intro k hk hN _ _ hq hne hr;rw[hq];have e1:refOk k s r=false:=by
   unfold refOk zP;rw[hr,hk,za1,av hne];simp
  have e2:Y7 k r=false:=by
   unfold Y7;rcases r with _|⟨a,_|⟨b,t⟩⟩
   · simp at hne
   · simp at hne
   · rw[av (by simp only[au];omega)];rfl
  rw[e1,e2]
 have hr:Y6 k s r=Y7 k r:=by rw[hp,zdA h k,aO rfl,bS]
 rcases this with rfl|rfl|rfl|rfl|rfl|rfl
 · rfl
 · by_cases hn:r.tail.headD []=[]
   · unfold refOk Y6;rw[show zG 2 r=[] from hn];rfl
   · exact hn2 2 rfl jf jf h hr hn rfl
 · by_cases hn:r.tail.headD []=[]
   · unfold refOk Y6;rw[show zG 3 r=[] from hn];rfl
   · exact hn2 3 rfl jf jf h hr hn rfl
 · rfl
 · rfl
 · by_cases hn:r.tail.headD []=[]
   · by_cases hk:r.headD []=[]
     · unfold refOk Y6;rw[show zG 6 r=[] from hn,show zL r=[] from hk];rfl
     · rw[hr];have e1:refOk 6 s r=false:=by
        unfold refOk zP;rw[show zx 6=false from rfl,za1,av (show ¬(zL r=[]) from hk)];simp
       have e2:Y7 6 r=false:=by
        unfold Y7;cases r with
        |nil=>simp at hk
        |cons a t=>rw[av (by simp[opN])];rfl
       rw[e1,e2]
   · exact hn2 6 rfl jf jf h hr hn rfl
end Go.Proofs.YtepbbaifpckcpaaGreatDoor
namespace Go.Proofs.YtepbbaifpckcpaaGreatDoor.Q06
open Go.Proofs.YtepbbaifpckcpaaGreatDoor
def isLet(n:Int):Bool:=decide (n=95) ||(decide (65≤n) && decide (n≤90)) ||(decide (97≤n) && decide (n≤122))
def zV(n:Int):Bool:=decide (48≤n) && decide (n≤57)
def isCon(n:Int):Bool:=isLet n || zV n
def isSp(n:Int):Bool:=decide (n=32) || decide (n=9) || decide (n=13) || decide (n=10)
def symbols:List UInt8:=[123,125,40,41,91,93,44,59,58,61,47,43,45,60,62,124,38,42]
def zeg(n:Int):Bool:=symbols.any fun c=>decide ((c.toNat:Int)=n)
def hexv(n:Int):Int:=if 48≤n∧n≤57 then n- 48 else if 97≤n∧n≤102 then n- 87 else -1
def pb(p:Int→Bool)(c:UInt8):Bool:=p c.toNat
def run(p:Int→Bool)(l:List UInt8):Nat:=(l.takeWhile (pb p)).length
theorem run_at(p:Int→Bool)(l:List UInt8)(k:Nat)(hk:k≤l.length)(hj:∀j,(h:j<l.length)→j<k→p l[j].toNat=true)
    (hn:(h:k<l.length)→p l[k].toNat=false):run p l=k:=by
 induction l generalizing k with
 |nil=>simp at hk;subst hk;rfl
 |cons c r ih=>
  cases k with
  |zero=>have:=hn jc;simp at this;simp[run,pb,this]
  |succ k=>
   have h0:=hj 0 jc ja;simp at h0;have:=ih k jdw (fun j h h'=>by have:=hj (j+1) jao ja;simpa using this) (fun h=>by have:=hn jao;simpa using this);exact fo202
theorem run_le(p:Int→Bool)(l:List UInt8):run p l≤l.length:=by
 unfold run;exact(List.takeWhile_sublist _).length_le
theorem zbz(p:Int→Bool)(l:List UInt8):l.take (run p l)=l.takeWhile (pb p):=by
 induction l with
 |nil=>rfl
 |cons c r ih=>
  cases h:pb p c
  · simp[run,h]
  · simp only[run,eO,h,aW,au,gm]at ih⊢;rw[ih]
theorem drop_run(p:Int→Bool)(l:List UInt8):l.drop (run p l)=l.dropWhile (pb p):=by
 induction l with
 |nil=>rfl
 |cons c r ih=>
  cases h:pb p c
  · simp[run,h]
  · simp only[run,eO,List.dropWhile_cons,h,aW,au,List.drop_succ_cons]at ih⊢;rw[ih]
def YW:List UInt8→Int→Option Int
 | [],n=>some n
 |c::r,n=>if(9223372036854775807-((c.toNat:Int)- 48)) / 10<n then none else YW r (10 * n+((c.toNat:Int)- 48))
def number(l:List UInt8):Int × Bool:=
 if 1<l.length && l.head? == some 48 then(0,false) else
 match YW l 0 with
 |none=>(0,false)
 |some n=>(n, !l.isEmpty)
def zaL(l:List UInt8):Option (Int × Nat):=
 if 1<run zV l && l.head? == some 48 then none else(YW (l.takeWhile (pb zV)) 0).map (·,run zV l)
def escR(l:List UInt8):Int × Int:=
 match l with
 | []=>(0,0)
 |c::r=>
  if(c.toNat:Int)=34∨(c.toNat:Int)=92 then(c.toNat,1)
  else if(c.toNat:Int)=110 then(10,1)
  else if(c.toNat:Int)=120 then
   match r with
   |a::b::_=>if 0≤hexv a.toNat∧0≤hexv b.toNat then(16 * hexv a.toNat+hexv b.toNat,3) else(0,0)
   |_=>(0,0)
  else(0,0)
def chrR(l:List UInt8):Int × Int:=
 match l with
 | []=>(0,0)
 |c::r=>
  if(c.toNat:Int) <32∨126<(c.toNat:Int)∨(c.toNat:Int)=34 then(0,0)
  else if(c.toNat:Int)≠92 then(c.toNat,1)
  else if(escR r).2=0 then(0,0) else((escR r).1,(escR r).2+1)
def yM(l acc:List UInt8)(i:Nat):List UInt8 × Int:=
 match l with
 | []=>([],0)
 |c::r=>if(c.toNat:Int)=34 then(acc,i+1) else
  if(chrR (c::r)).2=0 then([],0) else yM (r.drop ((chrR (c::r)).2.toNat- 1)) (acc++ [(chrR (c::r)).1.toNat.toUInt8]) (i+(chrR (c::r)).2.toNat)
termination_by l.length
decreasing_by simp;omega
def litR(l:List UInt8):List UInt8 × Int:=
 match l with
 | []=>([],0)
 |c::r=>if(c.toNat:Int)=34 then yM r [] 1 else([],0)
structure Tok where
 kind:Int
 text:List UInt8
 int:Int
 str:List UInt8
 line:Int
 deriving DecidableEq
def tok0:Tok:=⟨0,[],0,[],0⟩
def tok1(l:List UInt8):Option (Tok × Nat):=
 match l with
 | []=>none
 |c::r=>
  if isLet c.toNat then if 24<run isCon (c::r) then none else some (⟨1,(c::r).takeWhile (pb isCon),0,[],0⟩,run isCon (c::r))
  else if zV c.toNat then(zaL (c::r)).map fun x=>(⟨2,[],x.1,[],0⟩,x.2)
  else if(c.toNat:Int)=34 then if(litR (c::r)).2=0 then none else some (⟨3,[],0,(litR (c::r)).1,0⟩,(litR (c::r)).2.toNat)
  else if zeg c.toNat then some (⟨4,[c],0,[],0⟩,1)
  else none
def zaT(c:UInt8):Bool:=c != 10
def toks(l:List UInt8)(line:Int)(acc:List Tok):Except Int (List Tok):=
 match l with
 | []=> .ok acc
 |c::r=>
  if isSp c.toNat then toks r (if c == 10 then line+1 else line) acc
  else if c == 47 && r.head? == some 47 then toks (r.dropWhile zaT) line acc
  else
   match tok1 (c::r) with
   |none=> .error line
   |some (t,n)=>toks (r.drop (n- 1)) line (acc++ [{t with line:=line}])
termination_by l.length
decreasing_by
 · simp
 · have:=(gT zaT (l:=r)).length_le;simp;omega
 · simp;omega
def zaQ(l:List UInt8):Nat:=(l.filter (· == 10)).length
theorem toks_spaces(l:List UInt8)(line:Int)(acc:List Tok) :
    toks l line acc=toks (l.dropWhile (pb isSp)) (line+zaQ (l.takeWhile (pb isSp))) acc:=by
 induction l generalizing line with
 |nil=>simp[zaQ]
 |cons c r ih=>
  cases h:pb isSp c
  · simp[h,zaQ]
  · have h':isSp c.toNat=true:=h;rw[toks];simp only[h',aW,List.dropWhile_cons,eO,h];rw[ih];congr 1;simp only[zaQ,eX];by_cases hc:c=10 <;> simp[hc] <;> omega
theorem zd2(r:List UInt8)(line:Int)(acc:List Tok)(h:r.head? =some 47) :
    toks (47::r) line acc=toks (r.dropWhile zaT) line acc:=by
 rw[toks];simp[isSp,h]
theorem toks_tok(c:UInt8)(r:List UInt8)(line:Int)(acc:List Tok)(hs:isSp c.toNat=false)(hc:(c == 47 && r.head? == some 47)=false) :
    toks (c::r) line acc=match tok1 (c::r)with|none=> .error line|some (t,n)=>toks (r.drop (n- 1)) line (acc++ [{t with line:=line}]):=by
 rw[toks];simp[hs,hc]
end Go.Proofs.YtepbbaifpckcpaaGreatDoor.Q06
namespace Go.Proofs.YtepbbaifpckcpaaGreatDoor
structure Rc where
 s:List UInt8
 ok:Bool
def Rc.fail:Rc:=⟨[],false⟩
def rk{α:Type}(p:Pr α)(d:α)(r:Rc):α × Rc:=
 if r.ok then match p r.s with
  |none=>(d,Rc.fail)
  |some (x,q)=>(x,⟨q,true⟩)
 else(d,Rc.fail)
def Zl{α β:Type}(a:Rc→α × Rc)(f:α→Rc→β × Rc)(s:Rc):β × Rc:=f (a s).1 (a s).2
def zej{α:Type}(x:α)(s:Rc):α × Rc:=(x,s)
def yK(n:Nat):Rc→List Int × Rc:=rk (Zc n) (List.replicate n 0)
def Zf:Rc→List UInt8 × Rc:=rk Zb []
def yc:Rc→List (List UInt8) × Rc:=rk Zn []
def zcD:Rc→List Sg × Rc:=rk (Ya rdSg) []
def zdI:Rc→Sg × Rc:=rk (za7 rdSg) sg0
def rkSt:Rc→St × Rc:=Zl (yK 4) fun n=>Zl Zf fun a=>Zl zcD fun c=>Zl zdI fun g=>zej ⟨n.getD 0 0,n.getD 1 0,n.getD 2 0,n.getD 3 0,a,Sl.of c,g⟩
def rkDe:Rc→De × Rc:=Zl (yK 1) fun n=>Zl Zf fun a=>Zl zcD fun c=>zej ⟨n.getD 0 0,a,Sl.of c⟩
structure Al {α:Type} (p:Pr α) (f:Rc→α × Rc):Prop where
 bad:∀s:Rc,s.ok=false→(f s).2=Rc.fail
 none:∀s:Rc,s.ok=true→p s.s=none→(f s).2=Rc.fail
 some:∀(s:Rc) (x:α) (r:List UInt8),s.ok=true→p s.s=some (x,r)→f s=(x,⟨r,true⟩)
structure Al2 {α:Type} (p:Pr α) (f:Rc→α × Rc):Prop where
 bad:(f Rc.fail).2=Rc.fail
 none:∀s:List UInt8,p s=none→(f ⟨s,true⟩).2=Rc.fail
 some:∀(s:List UInt8) (x:α) (r:List UInt8),p s=some (x,r)→f ⟨s,true⟩=(x,⟨r,true⟩)
variable{α:Type}
theorem Ym(p:Pr α)(d:α):Al2 p (rk p d) where
 bad:=rfl
 none s hn:=by unfold rk;rw[af rfl,hn]
 some s x r hn:=by unfold rk;rw[af rfl,hn]
theorem zfq(x:α):Al2 (Pr.ret x) (zej x) where
 bad:=rfl
 none s h:=by simp[Pr.ret]at h
 some s y r h:=by
  simp only[Pr.ret,ax,aI]at h;obtain⟨rfl,rfl⟩:=h;rfl
theorem yX{β:Type}{p:Pr α}{a:Rc→α × Rc}{q:α→Pr β}{f:α→Rc→β × Rc}(h:Al2 p a)(k:∀x,Al2 (q x) (f x)):Al2 (p.then q) (Zl a f) where
 bad:=by unfold Zl;rw[h.bad];exact(k _).bad
 none s hn:=by
  unfold Pr.then at hn;unfold Zl;cases hp:p s with
  |none=>rw[h.none s hp];exact(k _).bad
  |some y=>
   obtain⟨x,r⟩:=y;rw[hp]at hn;simp only at hn;rw[h.some s x r hp];exact(k x).none r hn
 some s y r hn:=by
  unfold Pr.then at hn;unfold Zl;cases hp:p s with
  |none=>rw[hp]at hn;simp at hn
  |some z=>
   obtain⟨x,q'⟩:=z;rw[hp]at hn;simp only at hn;rw[h.some s x q' hp];exact(k x).some q' y r hn
theorem al2_st:Al2 rdSt rkSt:=yX (Ym _ _) fun _=>yX (Ym _ _) fun _=>yX (Ym _ _) fun _=>yX (Ym _ _) fun _=>zfq _
theorem al2_de:Al2 rdDe rkDe:=yX (Ym _ _) fun _=>yX (Ym _ _) fun _=>yX (Ym _ _) fun _=>zfq _
def rkSn(s:Rc):Sn × Rc:=
 let n:=yK 1 s
 let a:=Zf n.2
 let c:=yc a.2
 let p:=zcD c.2
 let l:=yc p.2
 match many rdHo l.1 with
 |none=>(⟨0,[],Sl.nil,Sl.nil,Sl.nil⟩,Rc.fail)
 |some hs=>(⟨n.1.getD 0 0,a.1,Sl.of c.1,Sl.of p.1,Sl.of hs⟩,l.2)
