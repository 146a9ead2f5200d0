/- The contracts of Messages. -/
import Derived.Test.YtepbbaifpckcpaaGreatDoorPTb
import Derived.Test.YtepbbaifpckcpaaGreatDoorPTrJ
open Go.Proofs.Tryz
namespace Go.Proofs.YtepbbaifpckcpaaGreatDoor
open Go.RowKit
structure GrSt {α:Type} (e k:Nat) (C:α→List Value) (F:Nat→List α) (w:World) (n j:Nat) (o:Value) (wr:World):Prop where
 le:j≤n
 own:wr.ownsRow w.heap.size e k o (F j).length ((F j).flatMap C)
 low:Below w.heap.size w wr
section
variable {α : Type} {e k : Nat} {C : α → List Value} {F : Nat → List α} {w wr w3 w4 : World} {n j : Nat} {o v' : Value} {x : α}
theorem GrSt.skip(h:GrSt e k C F w n j o wr)(hb:Below wr.heap.size wr w3)(hj:j<n)(hF:F (j+1)=F j):GrSt e k C F w n (j+1) o w3:=
 ⟨hj,by rw[hF];exact ownsRow_below h.own hb,bon h.low hb⟩
theorem GrSt.on(h:GrSt e k C F w n j o wr)(hb:Below wr.heap.size wr w3):GrSt e k C F w n j o w3:=
 ⟨h.le,ownsRow_below h.own hb,bon h.low hb⟩
theorem GrSt.more(h:GrSt e k C F w n j o wr)(hb:Below wr.heap.size wr w3)(hj:j<n)(hF:F (j+1)=F j++ [x])
    (hown:w4.ownsRow w.heap.size e k v' ((F j).length+1) ((F j).flatMap C++C x)) (hgr:w3.grownBy w4 o.ownBlock):GrSt e k C F w n (j+1) v' w4:=
 ⟨hj,by rw[hF,aG,bH];simpa using hown,below_grown (bon h.low hb) (bon h.low hb).size hgr (fun g hg=>(h.own.lt g hg).1)⟩
theorem GrSt.start(F:Nat→List α)(w:World)(n:Nat)(h0:F 0=[]):GrSt e k C F w n 0 (.slice none 0 0) w:=
 ⟨bf _,by rw[h0];exact aR _ _ _ _,ae _ _⟩
end
set_option maxRecDepth 100000
set_option maxHeartbeats 4000000
theorem ptC_ones(x:Pt):∀u∈ptC x,u.oneCell'=true:=fun u hu=>by
 have h:=yz x
 rw[gQ]at h
 exact bX.1 h u hu
def sameAt(a b:List Pt)(i:Nat):Bool:=match a[i]?,b[i]? with
 |some x,some y=>eqPt x y
 |_,_=>false
def zaB(a b:List Pt):Bool:=decide (a.length=b.length) &&(List.range a.length).all (sameAt a b)
theorem eqPt_self(x:Pt):eqPt x x=true:=by simp[eqPt,zf2]
theorem sameAt_is{a b:List Pt}{i:Nat}(h1:i<a.length)(h2:i<b.length):sameAt a b i=eqPt a[i] b[i]:=by
 unfold sameAt;rw[aP h1,aP h2]
theorem samePts_no{a b:List Pt}{i:Nat}(h1:i<a.length)(h:sameAt a b i=false):zaB a b=false:=by
 unfold zaB;rw[dZ];right;rw[gP];exact⟨i,fU.2 h1,by rw[h];simp⟩
theorem range_all(f:Nat→Bool)(k:Nat):(List.range (k+1)).all f=((List.range k).all f && f k):=by
 rw[ig,dQ];simp
theorem zcO(A B:Option Addr)(c d:Nat)(a b:List Pt)(w:World)(hp:Yz w A a)(hp2:Yz w B b)(hs:∀x∈a,x.msg.sz≤16777216)(hs2:∀x∈b,x.msg.sz≤16777216)(hn:a.length≤1099511627776)(_hn2:b.length≤1099511627776) :
    Calls prog 21 #[.slice A a.length c,.slice B b.length d] w (zK (zaB a b) w):=by
 have HP:=hD hp;have HP2:=hD hp2;have HSz:=hD hs;have HSz2:=hD hs2;have HB0:=hD (ae w.heap.size w);clear hp hp2 hs hs2;by_cases hlen:a.length=b.length
 · have hlb:((a.length:Int) ==(b.length:Int))=true:=by rw[aV];omega
   have hlb2:((a.length:Int) !=(b.length:Int))=false:=by simp;omega
   have HLen:=hD hlen;clear hlen;go_in;go_wp2_with fail;go_loopw [5] (fun i wr=>∃k:Nat,i= .int .i64 k∧k≤a.length∧(List.range k).all (sameAt a b)=true∧Below w.heap.size w wr) (fun i _=>a.length-(intOf i).toNat)
   case atStart=>exact⟨0,rfl,by omega,by simp,HB0⟩
   case round=>
    obtain⟨k,rfl,hk,hA,hB0⟩:=hrel;have HAl:=hD hA;have HB:=hD hB0;clear hA hB0;have hle:=HLen.out;by_cases hlt:k<a.length
    · have i0':(0:Int)≤(k:Int):=by omega
      have i1:(k:Int) <(a.length:Int):=by omega
      have hlt2:k<b.length:=by omega
      have i2:(k:Int) <(b.length:Int):=by omega
      obtain⟨ba,oa,hA,hg,hcc⟩:=HP.at hlt;subst hA;obtain⟨bb,ob,hA,hg2,hcc2⟩:=HP2.at hlt2;subst hA;obtain⟨x,hx⟩:∃x,x=a[k]:=⟨_,rfl⟩;obtain⟨y,hy⟩:∃y,y=b[k]:=⟨_,rfl⟩;have HAt:Hid (sameAt a b k=eqPt x y):=hD (by rw[sameAt_is hlt hlt2,hx,hy]);have HS:Hid (∀W,Below w.heap.size w W→World.rangeAt W ba (oa+k * 28) (ptC x)∧World.rangeAt W bb (ob+k * 28) (ptC y)):=hD (fun W hW=>⟨by rw[hx];exact hcc W hW,by rw[hy];exact hcc2 W hW⟩);have HEq:Hid (∀W,Below w.heap.size w W→Calls prog 45 #[.agg (ptC x).toArray,.agg (ptC y).toArray] W (zK (eqPt x y) W)):=hD (fun W hW=>by
       have m1:x∈a:=hx▸aH hlt;have m2:y∈b:=hy▸aH hlt2;exact zaS x y W (Pt.below (HP.2 x m1) hW) (Pt.below (HP2.2 y m2) hW) (HSz x m1) (HSz2 y m2))
      clear hcc hcc2 hx hy hg hg2 hle;cases hq:eqPt x y with
      |true=>
       have HN:Hid ((List.range (k+1)).all (sameAt a b)=true):=hD (by rw[range_all,HAl.out,HAt.out,hq];rfl);rw[hq]at HEq;clear hq;go_wp2_with fail;refine aD ?_;have HBr:=hD (HB.drew);generalize hv:wr.drew=v0 at HBr;refine aC (S:=fun W=>World.rangeAt W ba (oa+k * 28) (ptC x)∧World.rangeAt W bb (ob+k * 28) (ptC y)) jb (by rw[hv];exact(HS _ HBr)) (fun hHeld=> ?_);rw[hv]at hHeld⊢;clear hv;refine takes [0,1,2] ?_;refine tkq 3 rfl (aM ji 40 _ ji _ _ ji (ptC x) _ (fun W h=>h.1) underlying40 rfl (zw x)) je ?_;try simp only[Act.put,qk1,qk2,qk3,qk4,qk5,qk6]
       refine takes [4,5,6] ?_;refine tkq 7 rfl (aM ji 40 _ ji _ _ ji (ptC y) _ (fun W h=>h.2) underlying40 rfl (zw y)) je ?_;try simp only[Act.put,qk1,qk2,qk3,qk4,qk5,qk6]
       refine tkr 8 rfl (fun K hK=> ?_);go_simp;go_at_call 45;refine(HEq _ HBr).mono ?_;rintro e v1 ⟨rfl,hs⟩;have HBr:=hD (bon HBr hs);clear hs;go_wp2_with fail;refine hK.out _ _ (HS _ HBr) (fun hHeld=> ?_);clear hK K;try simp only[Act.put,qk1,qk2,qk3,qk4,qk5,qk6]
       refine takes [9] ?_;refine aB jb ?_ _;refine aA ?_;go_wp2_with fail;go_roundw
       case rel=>exact⟨k+1,by go_num,by omega,HN,HBr⟩
       case measure=>simp[intOf];omega
      |false=>
       have HN:Hid (zaB a b=false):=hD (samePts_no hlt (by rw[HAt.out,hq]));rw[hq]at HEq;clear hq;go_wp2_with fail;refine aD ?_;have HBr:=hD (HB.drew);generalize hv:wr.drew=v0 at HBr;refine aC (S:=fun W=>World.rangeAt W ba (oa+k * 28) (ptC x)∧World.rangeAt W bb (ob+k * 28) (ptC y)) jb (by rw[hv];exact(HS _ HBr)) (fun hHeld=> ?_);rw[hv]at hHeld⊢;clear hv;refine takes [0,1,2] ?_;refine tkq 3 rfl (aM ji 40 _ ji _ _ ji (ptC x) _ (fun W h=>h.1) underlying40 rfl (zw x)) je ?_;try simp only[Act.put,qk1,qk2,qk3,qk4,qk5,qk6]
       refine takes [4,5,6] ?_;refine tkq 7 rfl (aM ji 40 _ ji _ _ ji (ptC y) _ (fun W h=>h.2) underlying40 rfl (zw y)) je ?_;try simp only[Act.put,qk1,qk2,qk3,qk4,qk5,qk6]
       refine tkr 8 rfl (fun K hK=> ?_);go_simp;go_at_call 45;refine(HEq _ HBr).mono ?_;rintro e v1 ⟨rfl,hs⟩;have HBr:=hD (bon HBr hs);clear hs;go_wp2_with fail;refine hK.out _ _ (HS _ HBr) (fun hHeld=> ?_);clear hK K;try simp only[Act.put,qk1,qk2,qk3,qk4,qk5,qk6]
       refine takes [9] ?_;refine aB jb ?_ _;refine aA ?_;go_wp2_with fail;go_ret;exact yA HN HBr
    · obtain rfl:k=a.length:=by omega
      have HN:Hid (zaB a b=true):=hD (by unfold zaB;rw[HAl.out,aO hle];rfl);clear hle;go_wp2_with fail;go_ret;exact yA HN HB
 · have hlb:((a.length:Int) ==(b.length:Int))=false:=by rw[aF];omega
   have hlb2:((a.length:Int) !=(b.length:Int))=true:=by simp;omega
   have HN:Hid (zaB a b=false):=hD (by unfold zaB;rw[av hlen];rfl);clear hlen;go_in;go_wp2_with fail;go_ret;exact yA HN HB0
