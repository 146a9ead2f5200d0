/- The contracts of Reads. -/
import Derived.Test.YtepbbaifpckcpaaGreatDoorPTa
open Go.Proofs.Tryz
namespace Go.Proofs.YtepbbaifpckcpaaGreatDoor
open Go.RowKit
def RetOps(l:List Opn)(w:World)(e:Ending)(w':World):Prop:=∃A c,e= .returned (.slice A l.length c)∧Rd w' 5 A l.length (l.flatMap opC)∧Below w.heap.size w w'
variable{b base c j k n:Nat}{A:Option Addr}{o:Value}{w w' w3 wr:World}
theorem ret_ops{l:List Opn}(hn:n=l.length)(h:w'.ownsRow w.heap.size 44 5 (.slice A n c) n (l.flatMap opC))(hb:Below w.heap.size w w'):RetOps l w (.returned (.slice A n c)) w':=by
 subst hn;exact⟨A,c,rfl,Rd.own h,hb⟩
theorem infoOpr:(prog.info? 44).map (fun i=>(i.zero,i.size,i.bytes))=some (some (.agg #[(),(),(),"",""]),5,56):=by kernel_rfl
theorem infoOp(x:Opn):(prog.info? 44).map (·.size)=some (opC x).length:=by
 have:(prog.info? 44).map (·.size)=some 5:=by kernel_rfl
 exact this
structure OpSt (F:Nat→List Opn) (w:World) (n j:Nat) (o:Value) (wr:World):Prop where
 le:j≤n
 own:wr.ownsRow w.heap.size 44 5 o (F j).length ((F j).flatMap opC)
 low:Below w.heap.size w wr
theorem OpSt.skip{F:Nat→List Opn}(h:OpSt F w n j o wr)(hb:Below wr.heap.size wr w3)(hj:j<n)(hF:F (j+1)=F j):OpSt F w n (j+1) o w3:=
 ⟨hj,by rw[hF];exact ownsRow_below h.own hb,bon h.low hb⟩
theorem OpSt.more{F:Nat→List Opn}{w4:World}{v':Value}{x:Opn}(h:OpSt F w n j o wr)(hb:Below wr.heap.size wr w3)(hj:j<n)(hF:F (j+1)=F j++ [x])
    (hown:w4.ownsRow w.heap.size 44 5 v' ((F j).length+1) ((F j).flatMap opC++opC x)) (hgr:w3.grownBy w4 o.ownBlock):OpSt F w n (j+1) v' w4:=
 ⟨hj,by rw[hF,aG,bH];simpa using hown,below_grown (bon h.low hb) (bon h.low hb).size hgr (fun g hg=>(h.own.lt g hg).1)⟩
theorem OpSt.start(F:Nat→List Opn)(w:World)(n:Nat)(h0:F 0=[]):OpSt F w n 0 (.slice none 0 0) w:=
 ⟨bf _,by rw[h0];exact aR _ _ _ _,ae _ _⟩
set_option maxRecDepth 100000
set_option maxHeartbeats 2000000
theorem row_max{e:Nat}{xs:List Value}(h:w.ownsRow base e k (.slice A n c) n xs):c≤9223372036854775807:=fo90
theorem infoPtr:(prog.info? 40).map (fun i=>(i.zero,i.size,i.bytes))=some (some (.agg (ptC pt0).toArray),28,368):=by kernel_rfl
theorem ptsC_one(l:List Pt):∀u∈l.flatMap ptC,u.oneCell'=true:=by
 intro u hu;obtain⟨x,_,hx⟩:=List.mem_flatMap.1 hu;have h:=yz x;rw[gQ]at h;exact bX.1 h u hx
def RetPts(l:List Pt)(w:World)(e:Ending)(w':World):Prop:=∃A c,e= .returned (.slice A l.length c)∧w'.ownsRow w.heap.size 40 28 (.slice A l.length c) l.length (l.flatMap ptC)∧Below w.heap.size w w'
theorem RetPts.ret{l:List Pt}(hn:n=l.length)(h:w'.ownsRow w.heap.size 40 28 (.slice A n c) n (l.flatMap ptC))(hb:Below w.heap.size w w'):RetPts l w (.returned (.slice A n c)) w':=by
 subst hn;exact⟨A,c,rfl,h,hb⟩
theorem clonePt_any(A:Option Addr)(c:Nat)(l:List Pt)(w:World)(h:Rd w 28 A l.length (l.flatMap ptC))(hn:l.length≤1048576) :
    Calls prog 13 #[.slice A l.length c] w (RetPts l w):=by
 obtain⟨i0,hi,hz0,hz1,hz2⟩:=info_parts infoPtr;have HI:=hD hi;have HZ0:=hD hz0;have HZ1:=hD hz1;have HZ2:=hD hz2;have HR:=hD h;have HOne:=hD (ptsC_one l);have q22:∀(w:World) (a:Option Addr) (n c n' c':Nat),(binOp .eql 22 (.slice a n c) (.slice none n' c')).run prog w= .ok (.bool a.isNone) w:=fun w a n c n' c'=>Lib.run_eql_slice_nil w _ _ a n c n' c' underlying22
 clear hi hz0 hz1 hz2 h;cases A with
 |none=>
  have hl:l.length=0:=by
   by_cases hp:0<l.length
   · obtain⟨b,o,e,_⟩:=HR.cells (by rw[zaf ptC 28 Yy];omega);simp at e
   · omega
  obtain rfl:l=[]:=cK hl;clear hl;go_in;go_wp2_with fail;go_ret;exact RetPts.ret rfl (aR _ _ _ _) (ae _ _)
 |some a=>
  have HO:=hD (fw (base:=w.heap.size) (e:=40) (size:=28) w #[] 0 (ag _) jc rfl);have hnews:∀j u,(l.flatMap ptC)[j]? =some u→(w.alloc (.cells #[] 40)).cell? (a.add j)=some u:=fun j u hu=>by
   have hj:j<(l.flatMap ptC).length:=(dD.1 hu).1;obtain⟨b,o,e,hb,hc⟩:=HR.cells ja;simp only[ax]at e;subst e;rw[add_plain'];exact((za w _).cell (p:=⟨b,o+j,none⟩) hb).trans (hc j u hu)
  have HN:=hD hnews;have HLen:=hD (zaf ptC 28 Yy l);clear hnews;go_in;go_wp2_with (at_builtin;refine bu _ rfl _ _ 22 rfl w.heap.size 40 i0 _ 28 368 underlying22 HI HZ0 HZ1 HZ2 rfl jf _ 0 [] rfl HO a l.length c (l.flatMap ptC) rfl HLen HN HOne jq ja jc ?_);intro v' w2 hown' hgrow _;obtain⟨A,c2,hv⟩:=ownsRow_form hown';subst hv;have HO2:=hD hown';have HG2:=hD hgrow;clear hown' hgrow;go_wp2_with fail;go_ret;exact RetPts.ret rfl HO2 (below_grown (za w _) jc HG2 (fun g hg=>by simp[Value.ownBlock]at hg;omega))
theorem pts_own{l:List Pt}(h:w'.ownsRow base 40 28 (.slice A l.length c) l.length (l.flatMap ptC))(hok:∀x∈l,x.ok w)(hb:Below w.heap.size w w'):Yz w' A l∧l.length≤c∧c≤9223372036854775807:=
 ⟨⟨Rd.own h,fun x hx=>Pt.below (hok x hx) hb⟩,zcF h,row_max h⟩
theorem draw_two(w:World)(a b:Nat):(w.drewN a).drewN b=w.drewN (a+b):=by
 first|rfl|simp[World.drewN,bZ]
theorem draws_below(w:World)(q:Nat):Below w.heap.size w (w.drewN q):=bdN (ae _ _) q
theorem eqInOpn(x y:Opn)(w:World):(Op.equalIn 10000 44 (.agg #[x.client,x.first,x.last,x.op,x.result]) (.agg #[y.client,y.first,y.last,y.op,y.result])).run prog w= .ok (decide (x=y)) w:=by
 have u3:=underlying3;have u9:=underlying9;have a3:=isAgg3;have z3:=sizeOf3;have a9:=isAgg9;have z9:=sizeOf9;have hp:prog.stoodInHeld 44=false:=by kernel_rfl
 rw[show(10000:Nat)=9999+1 from rfl,run_equalIn_struct w 9999 44 _ _ jb hp];simp only[Program.fieldsOf,underlying44];go_simp;obtain⟨a0,a1,a2,a3,a4⟩:=x;obtain⟨b0,b1,b2,b3,b4⟩:=y;by_cases h0:a0=b0 <;> by_cases h1:a1=b1 <;> by_cases h2:a2=b2 <;> by_cases h3:a3=b3 <;> by_cases h4:a4=b4 <;> simp[h0,h1,h2,h3,h4]
theorem neqOpn(x y:Opn)(w:World):(binOp .neq 44 (.agg #[x.client,x.first,x.last,x.op,x.result]) (.agg #[y.client,y.first,y.last,y.op,y.result])).run prog w= .ok (.bool (!decide (x=y))) w:=by
 have h:=eqInOpn x y w;simp only[binOp];simp[Op.equal,Op.maxDepth,h]
theorem sameOps_any(A B:Option Addr)(c d:Nat)(l m:List Opn)(w:World)(h:Rd w 5 A l.length (l.flatMap opC))(h2:Rd w 5 B m.length (m.flatMap opC))(hf:l.length≤1099511627776)(hf2:m.length≤1099511627776) :
    Calls prog 17 #[.slice A l.length c,.slice B m.length d] w fun e w'=>e= .returned (.bool (decide (l=m)))∧∃q,w'=w.drewN q:=by
 have HR:=hD h;have HS:=hD h2;clear h h2;by_cases hlen:l.length=m.length
 · have hlb:((l.length:Int) ==(m.length:Int))=true:=by rw[aV];omega
   have hlb2:((l.length:Int) !=(m.length:Int))=false:=by simp;omega
   have HLen:=hD hlen;clear hlen;go_in;go_wp2_with fail;go_loopw [5] (fun i wr=>∃k q:Nat,i= .int .i64 k∧k≤l.length∧l.take k=m.take k∧wr=w.drewN q) (fun i _=>l.length-(intOf i).toNat)
   case atStart=>exact⟨0,0,rfl,by omega,rfl,rfl⟩
   case round=>
    obtain⟨k,q,rfl,hk,htk,rfl⟩:=hrel;have HT:=hD htk;clear htk;have hle:=HLen.out;by_cases hlt:k<l.length
    · have i0:(0:Int)≤(k:Int):=by omega
      have i1:(k:Int) <(l.length:Int):=by omega
      have hlt2:k<m.length:=by omega
      have i2:(k:Int) <(m.length:Int):=by omega
      obtain⟨g,o,rfl,hg,hcc⟩:=HR.at opC_len ja hlt;obtain⟨g2,o2,rfl,hg2,hcc2⟩:=HS.at opC_len ja hlt2;have a0:=hcc w (ae _ _) 0 _ rfl;have a1:=hcc w (ae _ _) 1 _ rfl;have a2:=hcc w (ae _ _) 2 _ rfl;have a3:=hcc w (ae _ _) 3 _ rfl;have a4:=hcc w (ae _ _) 4 _ rfl;have b0:=hcc2 w (ae _ _) 0 _ rfl;have b1:=hcc2 w (ae _ _) 1 _ rfl;have b2:=hcc2 w (ae _ _) 2 _ rfl;have b3:=hcc2 w (ae _ _) 3 _ rfl;have b4:=hcc2 w (ae _ _) 4 _ rfl;simp only[dU]at a0 b0;have hn:=neqOpn l[k] m[k];clear hcc hcc2 hle;by_cases hx:l[k]=m[k]
      · have HY : Hid (l.take (k + 1) = m.take (k + 1)) := hD (by rw [bq hlt, bq hlt2, HT.out, hx]); rw [aO hx] at hn; clear hx; go_wp2_with fail; go_quiet (fail); all_goals
         go_wp2_with fail;go_roundw
         case rel=>exact⟨k+1,q+nq,by go_num,by omega,HY,by first|rfl|exact draw_two _ _ _⟩
         case measure=>simp[intOf];omega
      · have HY:Hid (decide (l=m)=false):=hD (by
          rw[dX];rintro rfl;exact hx rfl)
        rw[av hx]at hn;clear hx;go_wp2_with fail;go_quiet (fail);all_goals
         go_wp2_with fail;go_ret;exact⟨YS HY.symm,q+nq,by first|rfl|exact draw_two _ _ _⟩
    · have HY:Hid (decide (l=m)=true):=hD (by
        rw[aY];have:=HT.out;rwa[bi ja,bi ja]at this)
      go_wp2_with fail;go_ret;exact⟨YS HY.symm,q,rfl⟩
 · have hlb:((l.length:Int) ==(m.length:Int))=false:=by rw[aF];omega
   have hlb2:((l.length:Int) !=(m.length:Int))=true:=by simp;omega
   have HY:Hid (decide (l=m)=false):=hD (by
    rw[dX];rintro rfl;exact hlen rfl)
   clear hlen;go_in;go_wp2_with fail;go_ret;exact⟨YS HY.symm,0,rfl⟩
theorem flat_drop{α:Type}(C:α→List Value)(m:Nat)(hC:∀x,(C x).length=m)(l:List α)(k:Nat)(hk:k≤l.length):(l.flatMap C).drop (k * m)=(l.drop k).flatMap C:=by
 have h1:l.flatMap C=(l.take k).flatMap C++(l.drop k).flatMap C:=by rw[←bH,fZ]
 have h2:((l.take k).flatMap C).length=k * m:=by rw[zaf C m hC,bN,iq hk]
 rw[h1,←h2,eB]
theorem Yz.drop{o:Nat}{l:List Pt}(h:Yz w (some ⟨b,o,none⟩) l)(k:Nat)(hk:k≤l.length):Yz w (some ⟨b,o+k * 28,none⟩) (l.drop k):=by
 refine⟨⟨zaf ptC 28 Yy _,fun hj=> ?_⟩,fun x hx=>h.2 x (List.mem_of_mem_drop hx)⟩;have hl:0<(l.flatMap ptC).length:=by
  rw[←flat_drop ptC 28 Yy l k hk,aK]at hj;omega
 obtain⟨b',o',e,hb,hc⟩:=h.1.cells hl;simp only[ax,cZ]at e;obtain⟨rfl,rfl,_⟩:=e;refine⟨b,o+k * 28,rfl,hb,fun j u hu=> ?_⟩;rw[←flat_drop ptC 28 Yy l k hk,fM]at hu;rw[bZ];exact hc _ u hu
theorem slice_pts{off:Nat}{l:List Pt}(j:Nat)(hj:j<l.length)(hc:l.length≤c):∃A2:Option Addr,(∀W:World,(Instr.slice 22 (.slice (some ⟨b,off,none⟩) l.length c) (some (.int .i64 ((j:Int)+1))) none none).run prog W= .ok (.slice A2 (l.drop (j+1)).length (c-(j+1))) W)∧
    ∀W,Yz W (some ⟨b,off,none⟩) l→Yz W A2 (l.drop (j+1)):=by
 have ht:prog.underlying 22=some (.slice (prog.elem 22)):=by kernel_rfl
 have he:prog.elem 22=40:=by kernel_rfl
 have hn:((j:Int)+1).toNat=j+1:=by omega
 refine⟨if c=j+1 then some ⟨b,off,none⟩ else some ⟨b,off+(j+1) * 28,none⟩,fun W=> ?_,fun W h=> ?_⟩
 · rw[run_slice_l _ _ _ _ _ ht .i64 ((j:Int)+1) ja ja,he,sizeOf40];simp only[Result.andThen,sliced,hn,aK];split
   · rfl
   · simp only[Option.map,add_plain']
 · split
   · next h1=>
     have:l.drop (j+1)=[]:=bJ ja;rw[this];exact⟨Rd.nil _ _ _,by simp⟩
   · exact h.drop (j+1) hj
def zbw(l:List Pt)(j:Nat):List Opn:=(List.range j).flatMap (zfS l)
theorem zaY(l:List Pt)(j:Nat):zbw l (j+1)=zbw l j++zfS l j:=by
 unfold zbw;rw[ig,bH];simp
theorem opsTo_from(l:List Pt)(j:Nat):zbw l j++Y4 j (l.drop j)=Y4 0 l:=by
 induction j with
 |zero=>simp[zbw]
 |succ j ih=>rw[zaY,bM,←opsFrom_at,ih]
theorem opsTo_all(l:List Pt):zbw l l.length=Y4 0 l:=by
 have h:=opsTo_from l l.length;rw[df]at h;simpa[Y4]using h
theorem opsTo_len(l:List Pt)(j:Nat):(zbw l j).length≤j:=by
 induction j with
 |zero=>simp[zbw]
 |succ j ih=>
  rw[zaY,aG];have:(zfS l j).length≤1:=by
   unfold zfS;split
   · split <;> simp
   · simp
  omega
theorem opsAt_no(l:List Pt)(j:Nat)(h:j<l.length)(hq:zbx l[j]=false):zfS l j=[]:=by
 unfold zfS;rw[bK h,hq];rfl
theorem opsAt_yes(l:List Pt)(j:Nat)(h:j<l.length)(hq:zbx l[j]=true):zfS l j=[opOf l[j] j (l.drop (j+1))]:=by
 unfold zfS;rw[bK h,hq];rfl
def ixOf:Option Nat→Int
 |none=>-1
 |some k=>k
theorem ack_any(y x:Pt)(g:Nat)(w:World)(hx:Vr w g (ptC x)):Calls prog 40 #[.agg (ptC y).toArray,.pointer (some ⟨g,0,none⟩)] w (zK (zdY x y) w):=by
 have HY:=hD (Vr.new w (ptC y) 40);have HX:=hD (hx.below (za w (.cells (ptC y).toArray 40)));have HB:=hD (za w (.cells (ptC y).toArray 40));clear hx;go_in;go_upto_region 1 with fail;change Code.wp _ _ _ _ (w.alloc (.cells (ptC y).toArray 40));generalize w.alloc (.cells (ptC y).toArray 40)=w1 at HY HX HB⊢;have d1:=HY.cells 1 _ rfl;have d2:=HY.cells 2 _ rfl;have d4:=HY.cells 4 _ rfl;have dl:=HY.lt;have e2:=HX.cells 2 _ rfl;have e4:=HX.cells 4 _ rfl;have el:=HX.lt;by_cases h1:y.kind=2
 · have h1':(y.kind == 2)=true:=by simpa using h1
   by_cases h2:y.who=x.who
   · have h2':(y.who == x.who)=true:=by simpa using h2
     by_cases h3:y.number=x.number
     · have h3':(y.number == x.number)=true:=by simpa using h3
       go_wp2_with fail;go_ret;exact yA (by simp[zdY,h1,h2,h3]) HB
     · have h3':(y.number == x.number)=false:=by simpa using h3
       go_wp2_with fail;go_ret;exact yA (by simp[zdY,h3]) HB
   · have h2':(y.who == x.who)=false:=by simpa using h2
     go_wp2_with fail;go_ret;exact yA (by simp[zdY,h2]) HB
 · have h1':(y.kind == 2)=false:=by simpa using h1
   go_wp2_with fail;go_ret;exact yA (by simp[zdY,h1]) HB
theorem ix_none{l:List Pt}{p:Pt→Bool}(h:∀j,(hj:j<l.length)→p l[j]=false):l.findIdx? p=none:=by
 rw[List.findIdx?_eq_none_iff];intro x hx;obtain⟨j,hj,rfl⟩:=List.mem_iff_getElem.1 hx;exact h j hj
theorem ix_some{l:List Pt}{p:Pt→Bool}(hk:k<l.length)(h:∀j,(hj:j<k)→p (l[j]'(Nat.lt_trans hj hk))=false)(hp:p l[k]=true):l.findIdx? p=some k:=by
 rw[iG];exact⟨hk,hp,fun j hj=>by rw[h j hj];simp⟩
theorem idxPt_any(A:Option Addr)(c:Nat)(l:List Pt)(x:Pt)(g:Nat)(w:World)(hp:Yz w A l)(hx:Vr w g (ptC x))(hn:l.length≤1099511627776) :
    Calls prog 39 #[.slice A l.length c,.func (.func 40) #[] #[.pointer (some ⟨g,0,none⟩)]] w (fun e w'=>e= .returned (.int .i64 (ixOf (l.findIdx? (zdY x))))∧Below w.heap.size w w'):=by
 have HP:=hD hp;have HX:=hD hx;clear hp hx;have HB0:=hD (ae w.heap.size w);go_in;go_wp2_with fail;go_loopw [8] (fun i wr=>∃k:Nat,i= .int .i64 k∧k≤l.length∧(∀j,(hj:j<k)→(hl:j<l.length)→zdY x l[j]=false)∧Below w.heap.size w wr) (fun i _=>l.length-(intOf i).toNat)
 case atStart=>exact⟨0,rfl,by omega,fun j hj=>by omega,HB0⟩
 case round=>
  obtain⟨k,rfl,hk,hA,hB0⟩:=hrel;have HA:=hD hA;have HB:=hD hB0;clear hA hB0;by_cases hlt:k<l.length
  · have i0':(0:Int)≤(k:Int):=by omega
    have i1:(k:Int) <(l.length:Int):=by omega
    obtain⟨b,off,hA,hg,hcc⟩:=HP.at hlt;subst hA;obtain⟨y,hy⟩:∃y,y=l[k]:=⟨_,rfl⟩;have HRg:=hD (hcc wr HB);rw[←hy]at HRg;have HYe:=hD hy;clear hcc hy;go_wp2_with (refine ak rfl 40 _ rfl b (off+k * 28) rfl (ptC y) _ HRg underlying40 rfl (zw y) ?_);refine(ack_any y x g wr (HX.below HB)).mono ?_;rintro e w2 ⟨rfl,b2⟩;have HB2:=hD (bon HB b2);clear b2;cases hq:zdY x y with
    |true=>
     have HF:Hid (ixOf (l.findIdx? (zdY x))=k):=hD (by rw[ix_some hlt (fun j hj=>HA.out j hj _) (by rw[←HYe.out];exact hq)];rfl);clear hq;go_wp2_with fail;go_ret;exact⟨by rw[HF.out];rfl,HB2⟩
    |false=>
     have HN:Hid (∀j,(hj:j<k+1)→(hl:j<l.length)→zdY x l[j]=false):=hD (fun j hj hl=>by
      rcases dw j k with h|h
      · exact HA j h hl
      · obtain rfl:j=k:=by omega
        rw[←HYe.out];exact hq)
     clear hq;go_wp2_with fail;go_roundw
     case rel=>exact⟨k+1,by go_num,by omega,HN,HB2⟩
     case measure=>simp[intOf];omega
  · obtain rfl:k=l.length:=by omega
    have HF:Hid (ixOf (l.findIdx? (zdY x))=-1):=hD (by rw[ix_none (fun j hj=>HA.out j hj hj)];rfl);go_wp2_with fail;go_ret;exact⟨by rw[HF.out];rfl,HB⟩
theorem zeh(A:Option Addr)(c:Nat)(l:List Pt)(w:World)(hp:Yz w A l)(hn:l.length≤1099511627776)(hc:l.length≤c)(hc2:c≤9223372036854775807) :
    Calls prog 15 #[.slice A l.length c] w (RetOps (Y4 0 l) w):=by
 have HP:=hD hp;clear hp;obtain⟨i0,hi,hz0,hz1,hz2⟩:=info_parts infoOpr;have HI:=hD hi;have HZ0:=hD hz0;have HZ1:=hD hz1;have HZ2:=hD hz2;clear hi hz0 hz1 hz2;go_in;go_wp2_with fail;go_loopw [3,10] (fun o i wr=>∃(j:Nat) (q:Value),i= .int .i64 j∧q=o∧OpSt (zbw l) w l.length j q wr) (fun _ i _=>l.length-(intOf i).toNat)
 case atStart=>exact⟨0,_,rfl,rfl,OpSt.start _ w l.length rfl⟩
 case round=>
  obtain⟨j,o,rfl,rfl,hst⟩:=hrel;have hj:=hst.le;have HJ:=hD hst;clear hst;by_cases hlt:j<l.length
  · have i0':(0:Int)≤(j:Int):=by omega
    have i1:(j:Int) <(l.length:Int):=by omega
    obtain⟨b,off,hA,hg,hcc⟩:=HP.at hlt;subst hA;obtain⟨x,hx⟩:∃x,x=l[j]:=⟨_,rfl⟩;have HRg:=hD (hcc wr HJ.low);rw[←hx]at HRg;have HXe:=hD hx;clear hcc hx;have HX0:=hD (Vr.new wr (ptC pt0) 40);have HX:=hD (HX0.sets (ptC x) rfl);have HBr:=hD (zf (za wr (.cells (ptC pt0).toArray 40)) (zb (b:=wr.heap.size) (ptC x)) (ag _));go_upto_region 5 with(first
     |(refine ak rfl 40 _ rfl b (off+j * 28) rfl (ptC x) _ HRg underlying40 rfl (zw x) ?_)
     |(refine ai rfl 40 _ _ rfl wr.heap.size 0 (ptC x).toArray rfl rfl ?_ (zw x) (yz x) ?_;· exact HX0.there rfl))
    try simp only[ay]
    clear HX0 HRg;change Code.wp _ _ _ _ ((wr.alloc (.cells (ptC pt0).toArray 40)).setCells wr.heap.size 0 (ptC x));generalize (wr.alloc (.cells (ptC pt0).toArray 40)).setCells wr.heap.size 0 (ptC x)=w3 at HX HBr⊢;generalize wr.heap.size=b3 at HX⊢;have c1:=HX.cells 1 _ rfl;have c2:=HX.cells 2 _ rfl;have c5:=HX.cells 5 _ rfl;have l3:=HX.lt;by_cases h1:x.kind=1
    · have h1':(x.kind == 1)=true:=by simpa using h1
      have h1n:(x.kind != 1)=false:=by simpa using h1
      go_wp2_with fail;refine(Y0 x.who w3).mono ?_;rintro e w4 ⟨rfl,hw4⟩;subst hw4;cases h2:isCl x.who with
      |false=>
       have HN:Hid (OpSt (zbw l) w l.length (j+1) o w4):=hD (HJ.skip HBr hlt (by rw[zaY,opsAt_no l j hlt (by rw[←HXe.out];simp[zbx,h2]),bE]));exact fo53
      |true=>
       have HInv:Hid (zbw l (j+1)=zbw l j++ [opOf x j (l.drop (j+1))]):=hD (by rw[zaY,opsAt_yes l j hlt (by rw[←HXe.out];simp[zbx,h1,h2]),←HXe.out]);have HV:=hD (Vr.new w4 (opC ⟨x.who,(j:Int), -1,x.text,[]⟩) 44);have HX4:=hD (HX.below (za w4 (.cells (opC ⟨x.who,(j:Int), -1,x.text,[]⟩).toArray 44)));have hb6:=HBr.size;have HBr:=hD (bon HBr (za w4 (.cells (opC ⟨x.who,(j:Int), -1,x.text,[]⟩).toArray 44)));go_upto_region 7 with fail;change Code.wp _ _ _ _ (w4.alloc (.cells (opC ⟨x.who,(j:Int), -1,x.text,[]⟩).toArray 44));generalize w4.alloc (.cells (opC ⟨x.who,(j:Int), -1,x.text,[]⟩).toArray 44)=w5 at HV HX4 HBr⊢;generalize w4.heap.size=b6 at HV hb6⊢;obtain⟨A2,hSl,hP2⟩:=slice_pts (b:=b) (off:=off) j hlt hc;have HP2:=hD (hP2 w5 (HP.below (bon HJ.low HBr)));have HIx:=hD (idxPt_any A2 (c-(j+1)) (l.drop (j+1)) x b3 w5 HP2 HX4 jbk);clear c1 c2 c5 l3 h1' h1n hP2;rw[aK]at HIx;go_wp2_with fail;refine HIx.mono ?_;rintro e w6 ⟨rfl,b6'⟩;have HV:=hD (HV.below b6');have HBr:=hD (bon HBr b6');clear b6' hSl HIx HP2;cases hix:(l.drop (j+1)).findIdx? (zdY x) with
       |none=>
        have HFx:Hid (zbw l (j+1)=zbw l j++ [⟨x.who,(j:Int), -1,x.text,[]⟩]):=hD (by rw[HInv.out];unfold opOf;rw[hix]);have hm:¬((0:Int)≤-1):=by decide
        rw[show ixOf none=-1 from rfl];clear hix;have HO3:=hD (ownsRow_below HJ.own HBr);have hlen:=opsTo_len l j;have hz:=HJ.low.size;have hz3:=HBr.size;go_wp2_with (first
         |(refine ak rfl 44 _ rfl b6 0 rfl [x.who,.int .i64 (j:Int),.int .i64 (-1),x.text,""] _ HV.range underlying44 rfl (infoOp ⟨x.who,(j:Int), -1,x.text,[]⟩) ?_)
         |(at_builtin;refine cB _ rfl _ _ 41 rfl w.heap.size 44 i0 _ 5 56 underlying41 HI HZ0 HZ1 HZ2 rfl jf _ _ _ rfl (HO3.alloc _) ⟨w6.heap.size,0,none⟩ 1 1 [x.who,.int .i64 (j:Int),.int .i64 (-1),x.text,""] rfl rfl (zN _ _ _ _ rfl) jr jq ja jg ?_))
        intro v' w9 hown' hgrow _ hat;have HN:Hid (OpSt (zbw l) w l.length (j+1) v' w9):=hD (HJ.more (bon HBr (za w6 (.cells #[x.who,.int .i64 (j:Int),.int .i64 (-1),x.text,""] 44))) hlt HFx hown' hgrow);exact fo291
       |some k=>
        obtain⟨hk, -, -⟩:=iG.1 hix;rw[aK]at hk;have hk2:j+1+k<l.length:=by omega
        obtain⟨y,hy⟩:∃y,y=l[j+1+k]:=⟨_,rfl⟩;have HFx:Hid (zbw l (j+1)=zbw l j++ [⟨x.who,(j:Int),(j:Int)+1+(k:Int),x.text,y.result⟩]):=hD (by
         rw[HInv.out];unfold opOf;rw[hix];simp only[fM,aP hk2,dH,Option.getD_some,←hy])
        rw[show ixOf (some k)=(k:Int) from rfl];obtain⟨b',off',hA',hg',hcc'⟩:=HP.at hk2;simp only[ax,cZ]at hA';obtain⟨rfl,rfl,_⟩:=hA';have HCC:Hid (∀W,Below wr.heap.size wr W→W.cell? ⟨b,off+(j+1+k) * 28+6,none⟩=some (.string ⟨y.result.toArray⟩)):=hD (fun W hW=>hcc' W (bon HJ.low hW) 6 _ (by rw[←hy];rfl));have hm:(0:Int)≤(k:Int):=by omega
        have e0:((j:Int)+1+(k:Int)).toNat=j+1+k:=by omega
        have e1:(0:Int)≤(j:Int)+1+(k:Int):=by omega
        have e2:(j:Int)+1+(k:Int) <(l.length:Int):=by omega
        have e3:IntKind.i64.wrap ((j:Int)+1)=(j:Int)+1:=bL _ ja;have e4:IntKind.i64.wrap ((j:Int)+1+(k:Int))=(j:Int)+1+(k:Int):=bL _ ja;clear hix hcc' hg' hy hk;go_wp2_with fail;refine aD ?_;have HV:=hD (HV.below (ae _ _).drew);have HBr:=hD (HBr.drew);generalize hv:w6.drew=v at HV HBr;have hC:=HCC.out v HBr.out;refine aC (S:=fun W=>W.cell? ⟨b,off+(j+1+k) * 28+6,none⟩=some (.string ⟨y.result.toArray⟩)) jb jar (fun hHeld=> ?_);rw[hv]at hHeld⊢;clear hv;refine takes [0,1,2,3,4,5,6,7,8,9,10,11,12] ?_;have cz:=HV.cells 2 _ rfl;have fz:=HV.free 2 (az rfl);have lz:=HV.lt;refine tkr 13 rfl (fun K hK=> ?_);go_simp;have HV:=hD (HV.set 2 (.int .i64 ((j:Int)+1+(k:Int))));have HBr:=hD (zf HBr (ze v ⟨b6,2,none⟩ (.int .i64 ((j:Int)+1+(k:Int)))) (by show wr.heap.size≤b6;omega));clear cz fz lz;generalize v.setCell ⟨b6,2,none⟩ (.int .i64 ((j:Int)+1+(k:Int)))=v1 at HV HBr⊢;have hC0:=HCC.out v1 HBr.out;refine hK.out _ _ hC0 (fun hHeld=> ?_);clear hK K;try simp only[Act.put,qk1,qk2,qk3,qk4,qk5,qk6]
        refine takes [14] ?_;have cz:=HV.cells 4 _ rfl;have fz:=HV.free 4 (az rfl);have lz:=HV.lt;refine tkr 15 rfl (fun K hK=> ?_);go_simp;have HV:=hD (HV.set 4 (.string ⟨y.result.toArray⟩));have HBr:=hD (zf HBr (ze v1 ⟨b6,4,none⟩ (.string ⟨y.result.toArray⟩)) (by show wr.heap.size≤b6;omega));clear cz fz lz;generalize v1.setCell ⟨b6,4,none⟩ (.string ⟨y.result.toArray⟩)=v2 at HV HBr⊢;have hC1:=HCC.out v2 HBr.out;refine hK.out _ _ hC1 (fun hHeld=> ?_);clear hK K;try simp only[Act.put,qk1,qk2,qk3,qk4,qk5,qk6]
        refine aB jb ?_ _;refine aA ?_;have HV:=hD (HV.eq (cs':=[x.who,.int .i64 (j:Int),.int .i64 ((j:Int)+1+(k:Int)),x.text,y.result]) rfl);clear hC hC0 hC1 HCC hm e0 e1 e2 e3 e4;have HO3:=hD (ownsRow_below HJ.own HBr);have hlen:=opsTo_len l j;have hz:=HJ.low.size;have hz3:=HBr.size;go_wp2_with (first
         |(refine ak rfl 44 _ rfl b6 0 rfl [x.who,.int .i64 (j:Int),.int .i64 ((j:Int)+1+(k:Int)),x.text,y.result] _ HV.range underlying44 rfl (infoOp ⟨x.who,(j:Int),(j:Int)+1+(k:Int),x.text,y.result⟩) ?_)
         |(at_builtin;refine cB _ rfl _ _ 41 rfl w.heap.size 44 i0 _ 5 56 underlying41 HI HZ0 HZ1 HZ2 rfl jf _ _ _ rfl (HO3.alloc _) ⟨v2.heap.size,0,none⟩ 1 1 [x.who,.int .i64 (j:Int),.int .i64 ((j:Int)+1+(k:Int)),x.text,y.result] rfl rfl (zN _ _ _ _ rfl) jr jq ja jg ?_))
        intro v' w9 hown' hgrow _ hat;have HN:Hid (OpSt (zbw l) w l.length (j+1) v' w9):=hD (HJ.more (bon HBr (za v2 (.cells #[x.who,.int .i64 (j:Int),.int .i64 ((j:Int)+1+(k:Int)),x.text,y.result] 44))) hlt HFx hown' hgrow);exact fo291
    · have h1':(x.kind == 1)=false:=by simpa using h1
      have h1n:(x.kind != 1)=true:=by simpa using h1
      have HN:Hid (OpSt (zbw l) w l.length (j+1) o w3):=hD (HJ.skip HBr hlt (by rw[zaY,opsAt_no l j hlt (by rw[←HXe.out];simp[zbx,h1]),bE]));exact fo53
  · obtain rfl:j=l.length:=by omega
    have hown:=HJ.own;simp only[opsTo_all]at hown;obtain⟨a,c',rfl⟩:=ownsRow_form hown;have HOw:=hD hown;clear hown;go_wp2_with fail;go_ret;exact ret_ops rfl HOw HJ.low
