/- The contracts of the checks: numbers, signatures, lists of them. -/
import Derived.Test.YtepbbaifpckcpaaGreatDoorPWa
open Go.Proofs.Tryz
namespace Go.Proofs.YtepbbaifpckcpaaGreatDoor
set_option maxRecDepth 100000
set_option maxHeartbeats 16000000
open Go.RowKit
def zK(b:Bool)(w:World)(e:Ending)(w':World):Prop:=e= .returned (.bool b)∧Below w.heap.size w w'
variable{α:Type}{o o' t t':Bool}{n:Int}{xs:List Value}{g k:Nat}{A:Option Addr}{w w' w1 w2:World}
theorem yA{b c:Bool}(h:b=c)(hb:Below w.heap.size w w'):zK b w (.returned (.bool c)) w':=⟨by rw[h],hb⟩
def ZN(n:Int)(w:World)(e:Ending)(w':World):Prop:=e= .returned (.int .i64 n)∧Below w.heap.size w w'
theorem Zp{m:Int}(h:n=m)(hb:Below w.heap.size w w'):ZN n w (.returned (.int .i64 m)) w':=⟨by rw[h],hb⟩
theorem ze(w:World)(a:Addr)(u:Value):w.grownBy (w.setCell a u) (some a.block):=
 ⟨rfl,rfl,rfl,by simp,fun k _ hk=>iC w a k u (fun e=>hk (by rw[e]))⟩
theorem Zm(h:Below w.heap.size w w')(row:Option Nat):w.grownBy w' row:=
 ⟨h.os,h.tape,h.output,h.size,fun k hk _=>h.block k hk⟩
structure Ck (w:World) (g:Nat) (o t:Bool):Prop where
 lt:g<w.heap.size
 c0:w.cell? ⟨g,0,none⟩=some (.bool o)
 c1:w.cell? ⟨g,1,none⟩=some (.bool t)
 f0:w.frozen? ⟨g,0,none⟩=false
 f1:w.frozen? ⟨g,1,none⟩=false
theorem Ck.below(h:Ck w g o t)(hb:Below w.heap.size w w'):Ck w' g o t where
 lt:=aN h.lt hb.size
 c0:=(hb.cell (p:=⟨g,0,none⟩) h.lt).trans h.c0
 c1:=(hb.cell (p:=⟨g,1,none⟩) h.lt).trans h.c1
 f0:=(hb.frozen (p:=⟨g,0,none⟩) h.lt).trans h.f0
 f1:=(hb.frozen (p:=⟨g,1,none⟩) h.lt).trans h.f1
theorem Ck.new(w:World)(o t:Bool)(T:TypeId):Ck (w.alloc (.cells #[o,t] T)) w.heap.size o t where
 lt:=by simp
 c0:=by simp
 c1:=by simp
 f0:=by simp
 f1:=by simp
theorem zbr(w:World)(p q:Addr)(v:Value):(w.setCell p v).frozen? q=w.frozen? q:=by simp
theorem Ck.set0(h:Ck w g o t)(b:Bool):Ck (w.setCell ⟨g,0,none⟩ (.bool b)) g b t where
 lt:=by simpa using h.lt
 c0:=dx _ _ _ h.c0
 c1:=(bv _ _ _ _ jc).trans h.c1
 f0:=(zbr _ _ _ _).trans h.f0
 f1:=(zbr _ _ _ _).trans h.f1
theorem Ck.set1(h:Ck w g o t)(b:Bool):Ck (w.setCell ⟨g,1,none⟩ (.bool b)) g o b where
 lt:=by simpa using h.lt
 c0:=(bv _ _ _ _ jc).trans h.c0
 c1:=dx _ _ _ h.c1
 f0:=(zbr _ _ _ _).trans h.f0
 f1:=(zbr _ _ _ _).trans h.f1
def CkTo(w:World)(g:Nat)(o t:Bool)(w':World):Prop:=w.grownBy w' (some g)∧Ck w' g o t
theorem CkTo.refl(h:Ck w g o t):CkTo w g o t w:=⟨Zm (ae _ _) _,h⟩
theorem CkTo.trans(h:CkTo w g o t w1)(k:CkTo w1 g o' t' w2):CkTo w g o' t' w2:=⟨h.1.trans k.1,k.2⟩
theorem CkTo.below(h:CkTo w g o t w1)(k:Below w1.heap.size w1 w2):CkTo w g o t w2:=⟨h.1.trans (Zm k _),h.2.below k⟩
theorem CkTo.alloc(h:CkTo w g o t w1)(x:Obj):CkTo w g o t (w1.alloc x):=h.below (za _ _)
theorem CkTo.set0(h:CkTo w g o t w1)(b:Bool):CkTo w g b t (w1.setCell ⟨g,0,none⟩ (.bool b)):=⟨h.1.trans (ze _ _ _),h.2.set0 b⟩
theorem CkTo.set1(h:CkTo w g o t w1)(b:Bool):CkTo w g o b (w1.setCell ⟨g,1,none⟩ (.bool b)):=⟨h.1.trans (ze _ _ _),h.2.set1 b⟩
theorem CkTo.eq(h:CkTo w g o t w1)(ho:o=o')(ht:t=t'):CkTo w g o' t' w1:=ho▸ht▸h
def zdU(w:World)(g:Nat)(o t:Bool)(e:Ending)(w':World):Prop:=e= .returned (.tuple #[])∧CkTo w g o t w'
structure RdN (g:Nat) (w:World) (k:Nat) (A:Option Addr) (n:Nat) (xs:List Value):Prop where
 len:xs.length=n * k
 cells:0<xs.length→∃b o,A=some ⟨b,o,none⟩∧b<w.heap.size∧b≠g∧∀j u,xs[j]? =some u→w.cell? ⟨b,o+j,none⟩=some u
theorem Rd.apart{w0:World}{n:Nat}(h:Rd w0 k A n xs)(hb:Below w0.heap.size w0 w)(hg:w0.heap.size≤g):RdN g w k A n xs:=
 ⟨h.len,fun hj=>by
  obtain⟨b,o,e,hl,hc⟩:=h.cells hj
  exact⟨b,o,e,aN hl hb.size,by omega,fun j u hu=>(hb.cell (p:=⟨b,o+j,none⟩) hl).trans (hc j u hu)⟩⟩
theorem RdN.at{m:Nat}{l:List α}{C:α→List Value}(h:RdN g w m A l.length (l.flatMap C))(hC:∀x,(C x).length=m)(hm:0<m)(hk:k<l.length) :
    ∃b o,A=some ⟨b,o,none⟩∧b<w.heap.size∧b≠g∧∀w',w.grownBy w' (some g)→∀j v,(C l[k])[j]? =some v→w'.cell? ⟨b,o+k * m+j,none⟩=some v:=by
 have hp:0<l.length * m:=Nat.mul_pos ja hm;obtain⟨b,o,rfl,hb,hne,hc⟩:=h.cells (by rw[zaf C m hC];exact hp);refine⟨b,o,rfl,hb,hne,fun w' hw j v hv=> ?_⟩;rw[hw.cell_far ⟨b,o+k * m+j,none⟩ hb jg];exact fo141
theorem ZK(l:List α)(p:α→Bool)(k:Nat)(h:k<l.length):(l.take (k+1)).all p=((l.take k).all p && p l[k]):=by
 rw[bq h,dQ];simp
theorem num_yes(h0:0≤n)(h1:n≤2147483647):num n=true:=by simp[num,h0,h1]
theorem num_no(h:¬(0≤n∧n≤2147483647)):num n=false:=by
 unfold num;by_cases h0:0≤n
 · have:¬n≤2147483647:=fun h1=>h ⟨h0,h1⟩
   simp[this]
 · simp[h0]
theorem Z7(n:Int)(w:World):Calls prog 96 #[n] w fun e w'=>e= .returned (.bool (num n))∧w=w':=fo256
theorem Zo(a b:Nat):decide ((b:Int) <(a:Int))= !decide (a≤b):=by
 by_cases h:a≤b
 · have:¬(b:Int) <(a:Int):=by omega
   simp[h]
 · have:(b:Int) <(a:Int):=by omega
   simp[h,this]
theorem short_val'(x:Sg):(false || !z8 x)=(decide ((64:Int) <x.digest.length) || decide ((64:Int) <x.sig.length)):=by
 rw[show(64:Int)=((64:Nat):Int) from rfl,Zo,Zo];unfold z8;cases decide (x.digest.length≤64) <;> cases decide (x.sig.length≤64) <;> rfl
theorem zf9(g:Nat)(o t:Bool)(A:Option Addr)(c:Nat)(l:List Sg)(w:World)(hk:Ck w g o t)(hr:RdN g w 6 A l.length (l.flatMap sgC))(hn:l.length≤1099511627776) :
    Calls prog 98 #[.pointer (some ⟨g,0,none⟩),.slice A l.length c] w (zdU w g o (t || !l.all z8)):=by
 have HR:=hD hr;have HK:=hD hk;clear hr hk;go_in;go_wp2_with fail;go_loopw [8] (fun i wr=>∃k:Nat,i= .int .i64 k∧k≤l.length∧CkTo w g o (t || !(l.take k).all z8) wr) (fun i _=>l.length-(intOf i).toNat)
 case atStart=>exact⟨0,rfl,by omega,by simpa using CkTo.refl HK⟩
 case round=>
  obtain⟨k,rfl,hk,hb⟩:=hrel;have HB:=hD hb;clear hb;by_cases hlt:k<l.length
  · have i0':(0:Int)≤(k:Int):=by omega
    have i1:(k:Int) <(l.length:Int):=by omega
    obtain⟨b,off,rfl,hg,hne,hcc⟩:=HR.at (fun _=>rfl) ja hlt;obtain⟨x,hx⟩:∃x,x=l[k]:=⟨_,rfl⟩;have HX:=hD hx.symm;clear hx;have a0:wr.cell? ⟨b,off+k * 6,none⟩=some (.int .i64 x.server):=by simpa using hcc wr HB.1 0 _ jd
    have a1:wr.cell? ⟨b,off+k * 6+1,none⟩=some (.int .i64 x.kind):=hcc wr HB.1 1 _ jd;have a2:wr.cell? ⟨b,off+k * 6+2,none⟩=some (.int .i64 x.view):=hcc wr HB.1 2 _ jd;have a3:wr.cell? ⟨b,off+k * 6+3,none⟩=some (.int .i64 x.slot):=hcc wr HB.1 3 _ jd;have a4:wr.cell? ⟨b,off+k * 6+4,none⟩=some (.string ⟨x.digest.toArray⟩):=hcc wr HB.1 4 _ jd;have a5:wr.cell? ⟨b,off+k * 6+5,none⟩=some (.string ⟨x.sig.toArray⟩):=hcc wr HB.1 5 _ jd;have k0:=HB.2.c1;have k1:=HB.2.f1;have hgl:=HB.2.lt;have HT:=hD (ZK l z8 k hlt);have HS:Hid (∀q:Bool,q=(t || !(l.take k).all z8 || !z8 x)→CkTo w g o (t || !(l.take (k+1)).all z8) ((wr.setCell ⟨g,1,none⟩ (.bool q)).alloc (.cells x 29))):=
     hD (fun q hq=>((HB.set1 q).alloc _).eq rfl (by rw[hq,HT.out,HX.out];cases t <;> cases(l.take k).all z8 <;> cases z8 x <;> rfl))
    clear hcc;cases hq:(t || !(l.take k).all z8) with
    |true=>
     rw[hq]at k0;have HQ:=hD hq;clear hq;go_wp2_with fail;go_roundw
     case rel=>exact⟨k+1,by go_num,by omega,HS _ (by rw[HQ.out];first|done|rfl)⟩
     case measure=>simp[intOf];omega
    |false=>
     rw[hq]at k0;have HQ:=hD hq;clear hq;by_cases h1:x.digest.length≤64
     all_goals
      go_wp2_with fail;go_roundw
      case rel=>exact⟨k+1,by go_num,by omega,HS _ (by rw[HQ.out,short_val' x];first|done|(simp;omega))⟩
      case measure=>simp[intOf];omega
  · obtain rfl:k=l.length:=by omega
    have HE:Hid (CkTo w g o (t || !l.all z8) wr):=hD (by simpa using HB.out);go_wp2_with fail;go_end0;exact⟨rfl,HE⟩
theorem cert_any(g:Nat)(o t:Bool)(A:Option Addr)(c:Nat)(l:List Sg)(w:World)(hk:Ck w g o t)(hr:RdN g w 6 A l.length (l.flatMap sgC))(hn:l.length≤1099511627776) :
    Calls prog 145 #[.pointer (some ⟨g,0,none⟩),.slice A l.length c] w (zdU w g o (t || !zR l)):=by
 have HS:Hid (∀q:Bool,Calls prog 98 #[.pointer (some ⟨g,0,none⟩),.slice A l.length c] (w.setCell ⟨g,1,none⟩ (.bool q)) (zdU (w.setCell ⟨g,1,none⟩ (.bool q)) g o (q || !l.all z8))):=
  hD (fun q=>zf9 g o q A c l _ (hk.set1 q) ⟨hr.len,fun hj=>by
   obtain⟨b,off,e,hl,hne,hc⟩:=hr.cells hj;exact⟨b,off,e,by simpa using hl,hne,fun j u hu=>(bv _ _ _ _ (by first|(simp;done)|(simp;omega))).trans (hc j u hu)⟩⟩ hn)
 have k0:=hk.c1;have k1:=hk.f1;have hgl:=hk.lt;have HK:=hD hk;have HE:Hid (∀(q:Bool) (w':World),q=(t || !decide (l.length≤12))→CkTo (w.setCell ⟨g,1,none⟩ (.bool q)) g o (q || !l.all z8) w'→CkTo w g o (t || !zR l) w'):=
  hD (fun q w' hq h=>(((CkTo.refl hk).set1 q).trans h).eq rfl (by rw[hq];unfold zR;cases t <;> cases l.all z8 <;> cases decide (l.length≤12) <;> rfl))
 clear hk hr;cases t with
 |true=>
  go_in;go_wp2_with fail;refine(HS _).mono ?_;rintro e w1 ⟨rfl,b1⟩;have B1:=hD b1;clear b1;go_wp2_with fail;go_end0;exact⟨rfl,HE _ _ rfl B1.out⟩
 |false=>
  go_in;go_wp2_with fail;refine(HS _).mono ?_;rintro e w1 ⟨rfl,b1⟩;have B1:=hD b1;clear b1;go_wp2_with fail;go_end0;exact⟨rfl,HE _ _ (Zo _ 12) B1.out⟩
theorem rdN_new(w:World)(g k n:Nat)(cs:List Value)(T:TypeId)(h:cs.length=n * k)(hg:g<w.heap.size):RdN g (w.alloc (.cells cs.toArray T)) k (some ⟨w.heap.size,0,none⟩) n cs:=
 ⟨h,fun _=>⟨w.heap.size,0,rfl,by simp,by omega,fun j u hu=>by rw[←zaO];exact zN w cs T _ rfl j u hu⟩⟩
theorem RdN.kept{n:Nat}(h:RdN g w k A n xs)(hg:w.grownBy w' (some g)):RdN g w' k A n xs:=
 ⟨h.len,fun hj=>by
  obtain⟨b,o,e,hl,hne,hc⟩:=h.cells hj
  exact⟨b,o,e,aN hl hg.size,hne,fun j u hu=>(hg.cell_far ⟨b,o+j,none⟩ hl jg).trans (hc j u hu)⟩⟩
theorem zf5(g:Nat)(o t:Bool)(x:Sg)(w:World)(hk:Ck w g o t){h:Nat}(hh:w.heap.size=h) :
    Calls prog 98 #[.pointer (some ⟨g,0,none⟩),.slice (some ⟨h,0,none⟩) 1 1] (w.alloc (.cells x 29))
     fun e w'=>e= .returned (.tuple #[])∧CkTo w g o (t || !z8 x) w':=by
 subst hh;have h1:=zf9 g o t (some ⟨w.heap.size,0,none⟩) 1 [x] _ (hk.below (za w (.cells (sgC x).toArray 29))) (by simpa using rdN_new w g 6 1 (sgC x) 29 rfl hk.lt) jc;refine Calls.mono h1 fun e w' ⟨he,hc⟩=>⟨he,⟨(World.grownBy_alloc w _ _).trans hc.1,?_⟩⟩
 have:=hc.2;simpa using this
theorem box_kept{b:Nat}(hg:w.grownBy w' (some g))(hb:b<w.heap.size)(hne:b≠g)(j:Nat){v:Value}(h:w.cell? ⟨b,j,none⟩=some v):w'.cell? ⟨b,j,none⟩=some v:=
 (hg.cell_far ⟨b,j,none⟩ hb jg).trans h
theorem zdf(W:World)(cs:List Value)(T:TypeId)(b:Nat)(hb:b=W.heap.size)(j:Nat)(v:Value)(h:cs[j]? =some v):(W.alloc (.cells cs.toArray T)).cell? ⟨b,j,none⟩=some v:=by
 have:=zN W cs T b hb j v h;rwa[zaO,bI]at this
theorem zfo(g:Nat)(o t:Bool)(d:De)(w:World)(hk:Ck w g o t)(hr:RdN g w 6 d.cert.a d.cert.l.length (d.cert.l.flatMap sgC))(hn:d.cert.l.length≤1099511627776) :
    Calls prog 100 #[.pointer (some ⟨g,0,none⟩),.agg d] w (zdU w g (o || !num d.view) (t || !zS d)):=by
 have HN:=hD (fun w'=>Z7 d.view w');have HS:Hid (∀q1 q2:Bool,q1=(o || !num d.view)→q2=(t || !decide (d.value.length≤2000))→Calls prog 145 #[.pointer (some ⟨g,0,none⟩),d.cert] (((w.setCell ⟨g,0,none⟩ (.bool q1)).setCell ⟨g,1,none⟩ (.bool q2)).alloc (.cells d 100)) (zdU w g (o || !num d.view) (t || !zS d))):=
  hD (fun q1 q2 h1 h2=>by
   have hc:=(((CkTo.refl hk).set0 q1).set1 q2).alloc (.cells d 100);refine(cert_any g q1 q2 d.cert.a d.cert.c d.cert.l _ hc.2 (hr.kept hc.1) hn).mono fun e w' ⟨he,h⟩=>⟨he,(hc.trans h).eq h1 ?_⟩
   rw[h2];unfold zS;cases t <;> cases decide (d.value.length≤2000) <;> cases zR d.cert.l <;> rfl)
 have k0:=hk.c0;have k1:=hk.c1;have k2:=hk.f0;have k3:=hk.f1;have hgl:=hk.lt;clear hk hr;cases o <;> cases t
 all_goals
  go_in;go_wp2_with (go_at_call 96;refine(HN _).mono ?_;rintro e w' ⟨rfl,rfl⟩);refine(HS _ _ (by first|rfl|simp) (by first|rfl|exact Zo _ 2000|simp)).mono ?_;rintro e w1 ⟨rfl,b1⟩;have B1:=hD b1;clear b1;go_wp2_with fail;go_end0;exact⟨rfl,B1.out⟩
theorem statusCk_any(g:Nat)(o t:Bool)(s:St)(w:World)(hk:Ck w g o t)(hr:RdN g w 6 s.cert.a s.cert.l.length (s.cert.l.flatMap sgC))(hn:s.cert.l.length≤1099511627776) :
    Calls prog 99 #[.pointer (some ⟨g,0,none⟩),.agg s] w (zdU w g (o || !yo s) (t || !yB s)):=by
 have HN := hD (fun n w' => Z7 n w'); have HS : Hid (∀ q1 q2 : Bool, q1 = (o || !yo s) → q2 = (t || !decide (s.lock.length ≤ 2000)) → Calls prog 145 #[.pointer (some ⟨g, 0, none⟩), s.cert] (((w.setCell ⟨g, 0, none⟩ (.bool q1)).setCell ⟨g, 1, none⟩ (.bool q2)).alloc (.cells s 97)) fun e w1 => e = .returned (.tuple #[]) ∧ CkTo w g (o || !yo s) (t || !(decide (s.lock.length ≤ 2000) && zR s.cert.l)) w1 ∧ w.heap.size < w1.heap.size ∧
     (w1.cell? ⟨w.heap.size,6,none⟩=some (.int .i64 s.signed.server)∧w1.cell? ⟨w.heap.size,7,none⟩=some (.int .i64 s.signed.kind)∧w1.cell? ⟨w.heap.size,8,none⟩=some (.int .i64 s.signed.view)∧w1.cell? ⟨w.heap.size,9,none⟩=some (.int .i64 s.signed.slot)∧w1.cell? ⟨w.heap.size,10,none⟩=some (.string ⟨s.signed.digest.toArray⟩)∧w1.cell? ⟨w.heap.size,11,none⟩=some (.string ⟨s.signed.sig.toArray⟩))):=
  hD (fun q1 q2 h1 h2=>by
   have hc:=(((CkTo.refl hk).set0 q1).set1 q2).alloc (.cells s 97);refine(cert_any g q1 q2 s.cert.a s.cert.c s.cert.l _ hc.2 (hr.kept hc.1) hn).mono fun e w' ⟨he,h⟩=>⟨he,(hc.trans h).eq h1 ?_,?_,?_⟩
   · rw[h2];cases t <;> cases decide (s.lock.length≤2000) <;> cases zR s.cert.l <;> rfl
   · have:=h.1.size;simp at this;omega
   · have hgl:=hk.lt;refine⟨?_,?_,?_,?_,?_,?_⟩ <;> exact box_kept h.1 jc ja _ (zdf _ (stC s) _ _ jc _ _ rfl))
 have HO:Hid (∀w1,CkTo w g (o || !yo s) (t || !(decide (s.lock.length≤2000) && zR s.cert.l)) w1→∀h,w1.heap.size=h→Calls prog 98 #[.pointer (some ⟨g,0,none⟩),.slice (some ⟨h,0,none⟩) 1 1] (w1.alloc (.cells s.signed 29)) (zdU w g (o || !yo s) (t || !yB s))):=
  hD (fun w1 hc h hh=>(zf5 g _ _ s.signed w1 hc.2 hh).mono fun e w' ⟨he,hq⟩=>⟨he,(hc.trans hq).eq rfl (by unfold yB;cases t <;> cases decide (s.lock.length≤2000) <;> cases zR s.cert.l <;> cases z8 s.signed <;> rfl)⟩)
 have k0:=hk.c0;have k1:=hk.c1;have k2:=hk.f0;have k3:=hk.f1;have hgl:=hk.lt;clear hk hr;cases o <;> cases t
 all_goals
  go_in;go_wp2_with (go_at_call 96;refine(HN _ _).mono ?_;rintro e w' ⟨rfl,rfl⟩)
 all_goals
  refine(HS _ _ (by first|rfl|(simp[yo, *];done)|(simp[yo, *];omega)) (by first|rfl|exact Zo _ 2000|simp)).mono ?_;rintro e w1 ⟨rfl,b1,hz,a6,a7,a8,a9,a10,a11⟩;have B1:=hD b1;clear b1;go_wp2_with fail;refine(HO _ B1.out _ rfl).mono ?_;rintro e w2 ⟨rfl,b2⟩;have B2:=hD b2;clear b2;go_wp2_with fail;go_end0;exact⟨rfl,B2.out⟩
theorem eCk_any(g:Nat)(o t:Bool)(w:World)(hk:Ck w g o t):Calls prog 102 #[.pointer (some ⟨g,0,none⟩)] w fun e w'=>e= .returned (.int .i64 (if o then 7 else if t then 3 else 0))∧w=w':=by
 have k0:=hk.c0;have k1:=hk.c1;clear hk;cases o <;> cases t
 all_goals
  go_in;go_wp2_with fail;go_ret;exact⟨rfl,rfl⟩
def RetKind(k:Int)(w:World)(e:Ending)(w':World):Prop:=e= .returned (.tuple #[kwS k,kwF k])∧w=w'
theorem kw_none(k:Int)(h:k<1∨12<k):kwS k=[]∧kwF k=0:=by
 unfold kwS kwF;refine⟨?_,?_⟩ <;>(repeat rw[aa ja])
theorem kind_any(k:Int)(w:World):Calls prog 95 #[k] w (RetKind k w):=by
 by_cases h:k<1∨12<k
 · have HK:=hD (kw_none k h);have n1:(k == 1)=false:=by simp;omega
   have n2:(k == 2)=false:=by simp;omega
   have n3:(k == 3)=false:=by simp;omega
   have n4:(k == 4)=false:=by simp;omega
   have n5:(k == 5)=false:=by simp;omega
   have n6:(k == 6)=false:=by simp;omega
   have n7:(k == 7)=false:=by simp;omega
   have n8:(k == 8)=false:=by simp;omega
   have n9:(k == 9)=false:=by simp;omega
   have n10:(k == 10)=false:=by simp;omega
   have n11:(k == 11)=false:=by simp;omega
   have n12:(k == 12)=false:=by simp;omega
   clear h;go_in;go_wp2_with fail;go_ret2;exact⟨by rw[HK.out.1,HK.out.2];rfl,rfl⟩
 · have h2:k=1∨k=2∨k=3∨k=4∨k=5∨k=6∨k=7∨k=8∨k=9∨k=10∨k=11∨k=12:=by omega
   clear h;rcases h2 with rfl|rfl|rfl|rfl|rfl|rfl|rfl|rfl|rfl|rfl|rfl|rfl;all_goals
    go_in;go_wp2_with fail;go_ret2;exact⟨rfl,rfl⟩
theorem empty_any(x:Sn)(w:World)(h1:x.chunks.l.length≤1099511627776)(h2:x.proof.l.length≤1099511627776)(h3:x.chain.l.length≤1099511627776) :
    Calls prog 144 #[.agg x] w (zK (Y3 x) w):=by
 by_cases c1:x.slot=0
 · exact fo49
 · exact fo271
theorem root_val(x:Sn):(decide ((64:Int) <x.root.length) || decide ((20:Int) <x.chain.l.length))=(false || !(decide (x.root.length≤64) && decide (x.chain.l.length≤20))):=by
 rw[show(20:Int)=((20:Nat):Int) from rfl,show(64:Int)=((64:Nat):Int) from rfl,Zo,Zo];cases decide (x.root.length≤64) <;> cases decide (x.chain.l.length≤20) <;> rfl
theorem root_no(x:Sn)(h:¬x.root.length≤64):true=(false || !(decide (x.root.length≤64) && decide (x.chain.l.length≤20))):=by simp[h]
def zcJ(x:Sn):Bool:=num x.slot && x.chain.l.all ZJ
def zcE(x:Sn):Bool:=decide (x.root.length≤64) && decide (x.chain.l.length≤20) && zR x.proof.l && x.chain.l.all fun h=>zS h.entry
theorem hoC_lenV(x:Ho):(hoC x).length=4:=rfl
theorem zfT(g:Nat)(o t:Bool)(x:Sn)(w:World)(hk:Ck w g o t)(hr:RdN g w 6 x.proof.a x.proof.l.length (x.proof.l.flatMap sgC))(hn:x.proof.l.length≤1099511627776)
    (hc:RdN g w 4 x.chain.a x.chain.l.length (x.chain.l.flatMap hoC)) (hm:x.chain.l.length≤1099511627776) (he:∀h∈x.chain.l,RdN g w 6 h.entry.cert.a h.entry.cert.l.length (h.entry.cert.l.flatMap sgC)∧h.entry.cert.l.length≤1099511627776) :
    Calls prog 101 #[.pointer (some ⟨g,0,none⟩),.agg x] w (zdU w g (o || !zcJ x) (t || !zcE x)):=by
 have HN := hD (fun n w' => Z7 n w'); have HR := hD hc; have HI := hD he; have HS : Hid (∀ q1 q2 : Bool, q1 = (o || !num x.slot) → q2 = (t || !(decide (x.root.length ≤ 64) && decide (x.chain.l.length ≤ 20))) → Calls prog 145 #[.pointer (some ⟨g, 0, none⟩), x.proof] (((w.setCell ⟨g, 0, none⟩ (.bool q1)).setCell ⟨g, 1, none⟩ (.bool q2)).alloc (.cells x 36)) fun e w1 => e = .returned (.tuple #[]) ∧ ∃ o1 t1, Hid (o1 = (o || !num x.slot) ∧ t1 = (t || !(decide (x.root.length ≤ 64) && decide (x.chain.l.length ≤ 20) && zR x.proof.l))) ∧ CkTo w g o1 t1 w1 ∧ w.heap.size < w1.heap.size ∧
     w1.cell? ⟨w.heap.size,4,none⟩=some (.slice x.chain.a x.chain.l.length x.chain.c)):=
  hD (fun q1 q2 h1 h2=>by
   have hc:=(((CkTo.refl hk).set0 q1).set1 q2).alloc (.cells x 36);refine(cert_any g q1 q2 x.proof.a x.proof.c x.proof.l _ hc.2 (hr.kept hc.1) hn).mono fun e w' ⟨he,h⟩=>⟨he,_,_,hD ⟨rfl,rfl⟩,(hc.trans h).eq h1 ?_,?_,?_⟩
   · rw[h2];cases t <;> cases decide (x.root.length≤64) <;> cases decide (x.chain.l.length≤20) <;> cases zR x.proof.l <;> rfl
   · have:=h.1.size;simp at this;omega
   · have hgl:=hk.lt;exact box_kept h.1 jc ja _ (zdf _ (snC x) _ _ jc _ _ rfl))
 have HE:Hid (∀o1 t1 w',(o1=(o || !num x.slot)∧t1=(t || !(decide (x.root.length≤64) && decide (x.chain.l.length≤20) && zR x.proof.l)))→CkTo w g (o1 || !x.chain.l.all ZJ) (t1 || !x.chain.l.all fun h=>zS h.entry) w'→CkTo w g (o || !zcJ x) (t || !zcE x) w'):=
  hD (fun o1 t1 w' he h=>h.eq (by rw[he.1];unfold zcJ;cases o <;> cases num x.slot <;> cases x.chain.l.all ZJ <;> rfl) (by
   rw[he.2];unfold zcE;cases t <;> cases decide (x.root.length≤64) <;> cases decide (x.chain.l.length≤20) <;> cases zR x.proof.l <;> cases(x.chain.l.all fun h=>zS h.entry) <;> rfl))
 have k0:=hk.c0;have k1:=hk.c1;have k2:=hk.f0;have k3:=hk.f1;have hgl:=hk.lt;clear hk hr hc he;cases o <;> cases t
 all_goals
  go_in;go_wp2_with (go_at_call 96;refine(HN _ _).mono ?_;rintro e w' ⟨rfl,rfl⟩)
 all_goals
  refine(HS _ _ (by first|rfl|simp) (by first|rfl|(simp[*];done)|exact root_val x|exact root_no x ja)).mono ?_;rintro e w1 ⟨rfl,o1,t1,HQ1,b1,hz,a4⟩;have B1:=hD b1;clear b1 k0 k1 k2 k3;go_wp2_with fail;go_loopw [45] (fun i wr=>∃k:Nat,i= .int .i64 k∧k≤x.chain.l.length∧CkTo w g (o1 || !(x.chain.l.take k).all ZJ) (t1 || !(x.chain.l.take k).all fun h=>zS h.entry) wr) (fun i _=>x.chain.l.length-(intOf i).toNat)
  case atStart=>exact⟨0,rfl,by omega,by simpa using B1.out⟩
  case round=>
   clear a4;obtain⟨k,rfl,hk,hb⟩:=hrel;have HB:=hD hb;clear hb;by_cases hlt:k<x.chain.l.length
   · have i0':(0:Int)≤(k:Int):=by omega
     have i1:(k:Int) <(x.chain.l.length:Int):=by omega
     obtain⟨b,off,hxa,hg,hne,hcc⟩:=HR.at hoC_lenV ja hlt;have HXA:=hD hxa;have hrun:Sem.run prog (Instr.indexAt 34 (.slice x.chain.a x.chain.l.length x.chain.c) (.int .i64 k)) wr= .ok (Value.pointer (some ⟨b,off+k * 4,none⟩)) wr:=by
      rw[HXA.out];go_simp
     clear hxa;obtain⟨y,hy⟩:∃y,y=x.chain.l[k]:=⟨_,rfl⟩;have HY:=hD hy.symm;have HM:=hD (hy▸aH hlt:y∈x.chain.l);clear hy;have a0:wr.cell? ⟨b,off+k * 4,none⟩=some (.int .i64 y.slot):=by simpa using hcc wr HB.1 0 _ jdf
     have a1:wr.cell? ⟨b,off+k * 4+1,none⟩=some (.int .i64 y.entry.view):=hcc wr HB.1 1 _ jdf;have a2:wr.cell? ⟨b,off+k * 4+2,none⟩=some (.string ⟨y.entry.value.toArray⟩):=hcc wr HB.1 2 _ jdf;have a3:wr.cell? ⟨b,off+k * 4+3,none⟩=some (.slice y.entry.cert.a y.entry.cert.l.length y.entry.cert.c):=hcc wr HB.1 3 _ jdf;have k0:=HB.2.c0;have k1:=HB.2.c1;have k2:=HB.2.f0;have k3:=HB.2.f1;have hgl:=HB.2.lt;have HT:=hD (ZK x.chain.l ZJ k hlt);have HU:=hD (ZK x.chain.l (fun h=>zS h.entry) k hlt);have HW:Hid (∀q:Bool,q=(o1 || !(x.chain.l.take k).all ZJ || !num y.slot)→Calls prog 100 #[.pointer (some ⟨g,0,none⟩),.agg y.entry] ((wr.setCell ⟨g,0,none⟩ (.bool q)).alloc (.cells y 147)) (zdU w g (o1 || !(x.chain.l.take (k+1)).all ZJ) (t1 || !(x.chain.l.take (k+1)).all fun h=>zS h.entry))):=
      hD (fun q hq=>by
       have hc:=((HB.set0 q).alloc (.cells y 147));refine(zfo g q _ y.entry _ hc.2 ((HI y HM).1.kept hc.1) (HI y HM).2).mono fun e w' ⟨he,h⟩=>⟨he,(hc.trans h).eq ?_ ?_⟩
       · rw[hq,HT.out,HY.out,show ZJ y=(num y.slot && num y.entry.view) from rfl];cases o1 <;> cases(x.chain.l.take k).all ZJ <;> cases num y.slot <;> cases num y.entry.view <;> rfl
       · rw[HU.out,HY.out];cases t1 <;> cases(x.chain.l.take k).all (fun h=>zS h.entry) <;> cases zS y.entry <;> rfl)
     clear hcc;cases hq:(o1 || !(x.chain.l.take k).all ZJ)
     all_goals
      rw[hq]at k0;have HQ:=hD hq;clear hq;go_wp2_with (go_at_call 96;refine(HN _ _).mono ?_;rintro e w' ⟨rfl,rfl⟩);refine(HW _ (by rw[HQ.out];first|done|rfl|simp)).mono ?_
      rintro e w2 ⟨rfl,b2⟩;have B2:=hD b2;clear b2;go_wp2_with fail;go_roundw
      case rel=>exact⟨k+1,by go_num,by omega,B2.out⟩
      case measure=>simp[intOf];omega
   · obtain rfl:k=x.chain.l.length:=by omega
     have HF:Hid (CkTo w g (o1 || !x.chain.l.all ZJ) (t1 || !x.chain.l.all fun h=>zS h.entry) wr):=hD (by simpa using HB.out);go_wp2_with fail;go_end0;exact⟨rfl,HE _ _ _ HQ1 HF⟩
