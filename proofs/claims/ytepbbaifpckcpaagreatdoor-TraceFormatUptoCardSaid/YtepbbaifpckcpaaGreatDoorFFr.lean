/- The frame of the laws: from the walk to the row; messages and points that came in. -/
import Derived.ProofKit
import Derived.OpenShut
import Derived.Below
import Derived.ChangeSame
import Derived.Deep.DeepHandedRow
import Derived.Deep.Slices
import Derived.Deep.Fields
import Derived.Lib.LaidTab
import Derived.ReadAgain
import Derived.LaidSub
import Derived.MakeChecks
import Derived.Lib.SmallJoins
import Derived.Stop.LaidErr
import Derived.Shelf.Strings.Shaped
import Derived.ChangeMaps5
import Derived.Maps.OwnSet
import Derived.Maps.StringElems
import Derived.Test.YtepbbaifpckcpaaGreatDoorFFo
import Derived.Test.YtepbbaifpckcpaaGreatDoorFPl
import Derived.Test.YtepbbaifpckcpaaGreatDoorFTa
namespace Go.Proofs.YtepbbaifpckcpaaGreatDoor.frame
set_option maxRecDepth 100000
set_option maxHeartbeats 2000000
open Go.Joins Go.ChangeShapes Go.WideShapes Go.ChangeAt Go.RowKit Go.Deep
open Go.ChangeMaps (open_string shut_string)
theorem own:ownKnob Tryz.prog.godebug=none:=by kernel_rfl
section
variable {H : Type} {enc : TypeId × Value → H} {P : Program}
theorem post_of_below {f:Func} {s:ChangeSpec} {apart fresh handsOn again:Bool} {W W':World} {args:Array Value} {v:Value} {ds gs:List (DataW H)} {before pa pv:List MemPlace}
    (hW:DataW.Whole enc P f.params.toList s.vars apart W args.toList ds gs before)
    (hres:∀(b:Nat) (sp:Nat→Bool) (hd:Bool),DataW.TrodAll enc P W' b sp hd f.resultTypes.toList (v.resultList f.resultTypes.size) (s.fn H (ds++gs)).results [])
    (hargs:∀sp:Nat→Bool,(∀p∈before,sp p.block=true)→DataW.TrodAll enc P W' 0 sp true f.params.toList args.toList (s.fn H (ds++gs)).args pa)
    (hvars:∀sp:Nat→Bool,(∀p∈before,sp p.block=true)→DataW.TrodVars enc P W' sp s.vars (s.fn H (ds++gs)).vars pv)
    (hps:before=pa++pv) (hb:Below W.heap.size W W')
    (hok:∀(j:Nat) (t:TypeId) (r:Value),f.resultTypes[j]? =some t→(v.resultList f.resultTypes.size)[j]? =some r→Value.okWide P W' .any 0 t r) :
    s.post enc P f apart fresh handsOn again W args v W':=by
 have low:∀p∈before,p.block<W.heap.size:=fun p hp=>hW.lt p hp
 have old:∀p∈before,(fun b=>decide (b<W.heap.size)) p.block=true:=fun p hp=>by simpa using low p hp
 refine⟨ds,gs,before, [],pa,pv,hW,hres _ _ _,hargs _ old,hvars _ old,World.keptBut_mono (fun p hp=>⟨hp, .inr (by rw [hps,List.mem_append] at hp;exact hp)⟩) (hb.frame (· ∈before)),fun _=> ?_⟩;obtain⟨_,_,_,_,_,hz,hn⟩:=hW;refine⟨hok,_,_,([]++pa)++pv,⟨[]++pa,pv,trodAll_append (hargs _ (fun _ _=>rfl)) (hres _ _ _),hvars _ (fun _ _=>rfl),rfl, ?_, ?_⟩, ?_⟩
 · intro b off hp;have hin:MemPlace.cell b off∈before:=by rw [hps];simpa using hp
   rw [hb.frozen (low _ hin)];exact hz b off hin
 · intro ha;have:=hn ha;rw [hps] at this;simpa using this
 · intro p hp _;rw [hps];simpa using hp
end
section
variable {H : Type} {enc : TypeId × Value → H} {P : Program} {w w' : World} {base : Nat} {spare : Nat → Bool} {held : Bool}
theorem zb7:∀{ts:List TypeId} {vs:List Value} {ds:List (DataW H)} {ps:List MemPlace},DataW.TrodAll enc P w base spare held ts vs ds ps→(∀p∈ps,w.sameAt w' p)→DataW.TrodAll enc P w' base spare held ts vs ds ps
 | [],vs,ds,ps,h,_=>by
  obtain⟨rfl,rfl,rfl⟩:=trodAll_nil h
  exact trodAll_mk0
 |t::ts,vs,ds,ps,h,hs=>by
  obtain⟨v,vs',d,ds',p,p',rfl,rfl,rfl,h1,h2⟩:=trodAll_cons h
  obtain⟨n,hn⟩:=h1
  exact trodAll_cons_mk ⟨n,DataW.trod_carry n _ _ _ hn (fun q hq=>hs q (List.mem_append_left _ hq))⟩ (zb7 h2 (fun q hq=>hs q (List.mem_append_right _ hq)))
end
section
variable {H : Type} {enc : TypeId × Value → H} {P : Program} {T : TypeId → Prop}
theorem post_true {f:Func} {s:ChangeSpec} {W W':World} {args:Array Value} {ds:List (DataW H)} {before:List MemPlace} (K:Kids P T) (hz:∀t e,T t→P.underlying t=some (.slice e)→0<P.cellsOf e)
    (hv:s.vars= []) (hT:∀t∈f.params.toList,T t) (hr:f.resultTypes=#[4]) (hbool:P.underlying 4=some .bool) (hs:s.fn H (ds++ [])={results:= [.lit (.bool true)],args:=ds})
    (hW:DataW.Whole enc P f.params.toList s.vars false W args.toList ds [] before) (hb:Below W.heap.size W W') :
    s.post enc P f false true false false W args (.bool true) W':=by
 have hW':=hW;obtain⟨p,q,hA,hV,rfl,hfz,hnd⟩:=hW;rw [hv] at hV;obtain⟨-,rfl⟩:=trodVars_none hV;simp only [List.append_nil] at hW';have hlt:∀x∈p,x.block<W.heap.size:=fun x hx=>hW'.lt x hx
 have hA':DataW.TrodAll enc P W' 0 (fun _=>true) true f.params.toList args.toList ds p:=zb7 hA (fun x hx=>hb.same (hlt x hx));refine post_of_below (pa:=p) (pv:= []) hW' (fun _ _ _=> ?_) (fun sp hsp=> ?_) (fun _ _=> ?_) jd hb ?_
 · rw [hs,hr];exact trodAll_cons_mk (shut_bool hbool _) trodAll_mk0
 · rw [hs];exact DataW.TrodAll.respare K hz hT hA' hsp
 · rw [hv,hs];rfl
 · exact ok_one (t:=4) hr rfl (okWide_bool_mk hbool _)
end
theorem kids:Kids Tryz.prog (· <Tryz.prog.types.size):=kids_rows jc jc
theorem full:∀t e,t<Tryz.prog.types.size→Tryz.prog.underlying t=some (.slice e)→0<Tryz.prog.cellsOf e:=slices_full_of Tryz.prog jc
theorem list_of {α:Type} (P:Nat→α→Prop):∀n:Nat,(∀i,i<n→∃x,P i x)→∃l:List α,l.length=n∧∀(i:Nat) (hi:i<l.length),P i l[i]
 |0,_=>⟨[],rfl,fun i hi=>by simp at hi⟩
 |n+1,h=>by
  obtain⟨l,h1,h2⟩:=list_of P n (fun i hi=>h i ja)
  obtain⟨x,hx⟩:=h n ja
  refine⟨l++ [x],by simp [h1],fun i hi=> ?_⟩
  by_cases hlt:i<l.length
  · rw [List.getElem_append_left hlt];exact h2 i hlt
  · have hi2:i=n:=by simp at hi;omega
    subst hi2
    rw [List.getElem_append_right ja]
    simpa [h1] using hx
theorem wf_i64 {n:Int} (h:(Lit.int .i64 n).wf=true):I64 n:=by
 simp only [Lit.wf,IntKind.min,IntKind.max,IntKind.signed,IntKind.bits,decide_eq_true_eq,Bool.and_eq_true] at h;unfold I64;simp at h;omega
theorem cells_int:Tryz.prog.cellsOf 3=1:=by kernel_rfl
theorem cells_int64:Tryz.prog.cellsOf 2=1:=by kernel_rfl
theorem zbp:Tryz.prog.cellsOf 9=1:=by kernel_rfl
theorem zbJ:Tryz.prog.cellsOf 32=1:=by kernel_rfl
theorem zcG:Tryz.prog.cellsOf 33=1:=by kernel_rfl
theorem zce:Tryz.prog.cellsOf 30=1:=by kernel_rfl
theorem zb2:Tryz.prog.cellsOf 31=1:=by kernel_rfl
theorem zbE:Tryz.prog.cellsOf 34=1:=by kernel_rfl
theorem Ze:Tryz.prog.cellsOf 29=6:=by kernel_rfl
theorem zba:Tryz.prog.cellsOf 97=12:=by kernel_rfl
theorem Yo:Tryz.prog.cellsOf 100=3:=by kernel_rfl
theorem zak:Tryz.prog.cellsOf 147=4:=by kernel_rfl
theorem zaf:Tryz.prog.cellsOf 36=5:=by kernel_rfl
theorem zaR:Tryz.prog.cellsOf 38=21:=by kernel_rfl
section
variable {H : Type} {enc : TypeId × Value → H} {W : World}
theorem zl {α:Type} {l:List α} {n:Nat} (h:l.length=n+1):∃a r,l=a::r∧r.length=n:=by
 cases l with
 |nil=>simp at h
 |cons a r=>exact⟨a,r,rfl,by simpa using h⟩
theorem sum_bulk {α:Type} (sz:α→Nat):∀(l:List α) (ds:List (DataW H)),l.length=ds.length→(∀(i:Nat) (h1:i<l.length) (h2:i<ds.length),sz l[i]≤Rows.uptoBulk ds[i])→sum sz l≤Rows.uptoBulkAll ds
 | [], [],_,_=>by simp [sum]
 |x::r,d::s,h,hi=>by
  have h0:=hi 0 jd jd
  have h1:=sum_bulk sz r s jac (fun i a b=>hi (i+1) (by simpa using a) (by simpa using b))
  rw [sum_cons]
  simp only [Rows.uptoBulkAll]
  simp only [List.getElem_cons_zero] at h0
  omega
theorem YJ {α:Type} {t e:TypeId} {k:Nat} {C:α→List Value} {sz:α→Nat} {ok:α→Prop} (hC:∀a,(C a).length=k) (hk:0<k) (ht:Tryz.prog.underlying t=some (.slice e)) (hcells:Tryz.prog.cellsOf e=k)
    (hel:∀(n:Nat) (cs:List Value) (x:DataW H × List MemPlace),DataW.trod enc Tryz.prog W 0 (fun _=>true) true n e cs=some x→∃a,cs=C a∧ok a∧sz a≤Rows.uptoBulk x.1)
    {fuel:Nat} {v:Value} {x:DataW H × List MemPlace} (h:DataW.trod enc Tryz.prog W 0 (fun _=>true) true fuel t [v]=some x) :
    ∃s:Sl α,v=s.v∧s.rd k C W∧(∀a∈s.l,ok a)∧sum sz s.l+1≤Rows.uptoBulk x.1:=by
 rcases open_slice ht h with⟨hv,hx⟩|⟨a,len,cap,m,n,D,Pl,hv,_,hlc,hcm,hm,hx,hi⟩
 · simp only [List.cons.injEq,and_true] at hv;refine⟨Sl.nil,hv,⟨by simp [Sl.nil],fun h0=>by simp [Sl.nil] at h0⟩,fun a ha=>by simp [Sl.nil] at ha, ?_⟩;rw [hx];simp [Sl.nil,sum,Rows.uptoBulk]
 · simp only [List.cons.injEq,and_true] at hv;simp only [if_pos] at hm;rw [hcells] at hi;obtain⟨l,hl,hp⟩:=list_of (fun i (r:α)=>(∀(j:Nat) (u:Value),(C r)[j]? =some u→W.cell? (a.add (i * k+j))=some u)∧ok r∧sz r≤Rows.uptoBulk (D i)) len (fun i hlt=>by
    obtain⟨cs',hc,ht'⟩:=hi i ja;obtain⟨r,hr,hok,hsz⟩:=hel n cs' _ ht';obtain⟨_,hcl,hat⟩:=World.cells?_some hc;refine⟨r,fun j u hu=> ?_,hok,hsz⟩;have hj:j<k:=by
     have:=(List.getElem?_eq_some_iff.1 hu).1;rwa [hC] at this
    rw [←Go.Deep.add_add,hat j hj,hr];exact hu)
   refine⟨⟨some a,cap,l⟩,by rw [hv];show _=Value.slice (some a) l.length cap;rw [hl],⟨ZY C k hC l,fun h0=> ?_⟩,fun r hr=> ?_, ?_⟩
   · have hpos:0<l.length:=by
       show 0<l.length;have h1:0<(l.flatMap C).length:=h0;rw [ZY C k hC l] at h1;exact Nat.pos_of_ne_zero (fun h=>by rw [h] at h1;simp at h1)
     obtain⟨b,o,sp⟩:=a;have hfirst:∃u,(C l[0])[0]? =some u:=⟨_,List.getElem?_eq_getElem (by rw [hC];exact hk)⟩;obtain⟨u0,hu0⟩:=hfirst;have hcell0:=(hp 0 hpos).1 0 u0 hu0;have hsp:sp=none:=by simpa [Addr.add] using World.cell?_spot hcell0
     subst hsp;refine⟨b,o,rfl,(by have h9:=World.block_lt_of_cell? W _ hcell0;rw [add_plain'] at h9;exact h9),fun j u hu=> ?_⟩;have hu':(l.flatMap C)[j]? =some u:=hu;have hj:j<(l.flatMap C).length:=(List.getElem?_eq_some_iff.1 hu').1;rw [ZY C k hC l] at hj;have hq:j / k<l.length:=(Nat.div_lt_iff_lt_mul hk).2 hj;have hj2:j / k * k+j % k=j:=by rw [Nat.mul_comm];exact Nat.div_add_mod j k
     have h1:=flat_get C k hC l (j / k) hq (j % k) (Nat.mod_lt _ hk);rw [hj2,hu'] at h1;have:=(hp (j / k) hq).1 (j % k) u h1.symm;rw [hj2,add_plain'] at this;exact this
   · obtain⟨i,hi2,rfl⟩:=List.getElem_of_mem hr;exact(hp i hi2).2.1
   · rw [hx];have h1:=sum_bulk (H:=H) sz l ((List.range len).map D) (by simpa using hl) (fun i a1 a2=>by
      simp only [List.getElem_map,List.getElem_range];exact(hp i a1).2.2)
     simp only [Rows.uptoBulk];omega
theorem str_in (n:Nat) (cs:List Value) (x:DataW H × List MemPlace) (h:DataW.trod enc Tryz.prog W 0 (fun _=>true) true n 9 cs=some x):∃a:List UInt8,cs=strV a∧True∧szS a≤Rows.uptoBulk x.1:=by
 obtain⟨s,e,hx,_⟩:=DataW.trod_string Tryz.underlying9 h;refine⟨s.data.toList,by rw [e];simp [strV],trivial, ?_⟩;rw [hx];simp [Rows.uptoBulk,szS]
theorem Sg_in (n:Nat) (cs:List Value) (x:DataW H × List MemPlace) (h:DataW.trod enc Tryz.prog W 0 (fun _=>true) true n 29 cs=some x):∃a:Sg,cs=sgC a∧a.ok∧a.sz≤Rows.uptoBulk x.1:=by
 obtain⟨ys,n',_,rfl,hl,hyl,hf⟩:=DataW.trod_struct Tryz.underlying29 h;rw [Ze] at hl;obtain⟨c0,r0,rfl,hl0⟩:=zl hl;obtain⟨c1,r1,rfl,hl1⟩:=zl hl0;obtain⟨c2,r2,rfl,hl2⟩:=zl hl1;obtain⟨c3,r3,rfl,hl3⟩:=zl hl2;obtain⟨c4,r4,rfl,hl4⟩:=zl hl3;obtain⟨c5,r5,rfl,hl5⟩:=zl hl4;obtain rfl:=List.length_eq_zero_iff.1 hl5;obtain⟨y0,q0,rfl,hyl0⟩:=zl (n:=5) hyl;obtain⟨y1,q1,rfl,hyl1⟩:=zl (n:=4) hyl0;obtain⟨y2,q2,rfl,hyl2⟩:=zl (n:=3) hyl1;obtain⟨y3,q3,rfl,hyl3⟩:=zl (n:=2) hyl2;obtain⟨y4,q4,rfl,hyl4⟩:=zl (n:=1) hyl3;obtain⟨y5,q5,rfl,hyl5⟩:=zl (n:=0) hyl4;obtain rfl:=List.length_eq_zero_iff.1 hyl5;have t0:DataW.trod enc Tryz.prog W 0 (fun _=>true) true n' 3 [c0]=some y0:=by
  have h9:=hf 0 _ rfl;exact fo35
 obtain⟨a0,e0,x0,w0⟩:=DataW.trod_int Tryz.underlying3 t0;obtain rfl:c0=_:=by simpa using e0
 have t1:DataW.trod enc Tryz.prog W 0 (fun _=>true) true n' 3 [c1]=some y1:=by
  have h9:=hf 1 _ rfl;exact fo35
 obtain⟨a1,e1,x1,w1⟩:=DataW.trod_int Tryz.underlying3 t1;obtain rfl:c1=_:=by simpa using e1
 have t2:DataW.trod enc Tryz.prog W 0 (fun _=>true) true n' 3 [c2]=some y2:=by
  have h9:=hf 2 _ rfl;exact fo35
 obtain⟨a2,e2,x2,w2⟩:=DataW.trod_int Tryz.underlying3 t2;obtain rfl:c2=_:=by simpa using e2
 have t3:DataW.trod enc Tryz.prog W 0 (fun _=>true) true n' 3 [c3]=some y3:=by
  have h9:=hf 3 _ rfl;exact fo35
 obtain⟨a3,e3,x3,w3⟩:=DataW.trod_int Tryz.underlying3 t3;obtain rfl:c3=_:=by simpa using e3
 have t4:DataW.trod enc Tryz.prog W 0 (fun _=>true) true n' 9 [c4]=some y4:=by
  have h9:=hf 4 _ rfl;exact fo62
 obtain⟨a4,e4,x4,w4⟩:=DataW.trod_string Tryz.underlying9 t4;obtain rfl:c4=_:=by simpa using e4
 have t5:DataW.trod enc Tryz.prog W 0 (fun _=>true) true n' 9 [c5]=some y5:=by
  have h9:=hf 5 _ rfl;exact fo62
 obtain⟨a5,e5,x5,w5⟩:=DataW.trod_string Tryz.underlying9 t5;obtain rfl:c5=_:=by simpa using e5
 refine⟨⟨a0,a1,a2,a3,a4.data.toList,a5.data.toList⟩, ?_,⟨wf_i64 w0,wf_i64 w1,wf_i64 w2,wf_i64 w3⟩, ?_⟩
 · simp [sgC]
 · simp only [List.map_cons,List.map_nil,Rows.uptoBulk,Rows.uptoBulkAll,x0,x1,x2,x3,x4,x5];show Sg.sz _≤_;unfold Sg.sz;simp only;omega
theorem St_in (n:Nat) (cs:List Value) (x:DataW H × List MemPlace) (h:DataW.trod enc Tryz.prog W 0 (fun _=>true) true n 97 cs=some x):∃a:St,cs=stC a∧a.ok W∧a.sz≤Rows.uptoBulk x.1:=by
 obtain⟨ys,n',_,rfl,hl,hyl,hf⟩:=DataW.trod_struct Tryz.underlying97 h;rw [zba] at hl;obtain⟨c0,r0,rfl,hl0⟩:=zl hl;obtain⟨c1,r1,rfl,hl1⟩:=zl hl0;obtain⟨c2,r2,rfl,hl2⟩:=zl hl1;obtain⟨c3,r3,rfl,hl3⟩:=zl hl2;obtain⟨c4,r4,rfl,hl4⟩:=zl hl3;obtain⟨c5,r5,rfl,hl5⟩:=zl hl4;obtain⟨c6,r6,rfl,hl6⟩:=zl hl5;obtain⟨c7,r7,rfl,hl7⟩:=zl hl6;obtain⟨c8,r8,rfl,hl8⟩:=zl hl7;obtain⟨c9,r9,rfl,hl9⟩:=zl hl8;obtain⟨c10,r10,rfl,hl10⟩:=zl hl9;obtain⟨c11,r11,rfl,hl11⟩:=zl hl10;obtain rfl:=List.length_eq_zero_iff.1 hl11;obtain⟨y0,q0,rfl,hyl0⟩:=zl (n:=6) hyl;obtain⟨y1,q1,rfl,hyl1⟩:=zl (n:=5) hyl0;obtain⟨y2,q2,rfl,hyl2⟩:=zl (n:=4) hyl1;obtain⟨y3,q3,rfl,hyl3⟩:=zl (n:=3) hyl2;obtain⟨y4,q4,rfl,hyl4⟩:=zl (n:=2) hyl3;obtain⟨y5,q5,rfl,hyl5⟩:=zl (n:=1) hyl4;obtain⟨y6,q6,rfl,hyl6⟩:=zl (n:=0) hyl5;obtain rfl:=List.length_eq_zero_iff.1 hyl6;have t0:DataW.trod enc Tryz.prog W 0 (fun _=>true) true n' 3 [c0]=some y0:=by
  have h9:=hf 0 _ rfl;exact fo35
 obtain⟨a0,e0,x0,w0⟩:=DataW.trod_int Tryz.underlying3 t0;obtain rfl:c0=_:=by simpa using e0
 have t1:DataW.trod enc Tryz.prog W 0 (fun _=>true) true n' 3 [c1]=some y1:=by
  have h9:=hf 1 _ rfl;exact fo35
 obtain⟨a1,e1,x1,w1⟩:=DataW.trod_int Tryz.underlying3 t1;obtain rfl:c1=_:=by simpa using e1
 have t2:DataW.trod enc Tryz.prog W 0 (fun _=>true) true n' 3 [c2]=some y2:=by
  have h9:=hf 2 _ rfl;exact fo35
 obtain⟨a2,e2,x2,w2⟩:=DataW.trod_int Tryz.underlying3 t2;obtain rfl:c2=_:=by simpa using e2
 have t3:DataW.trod enc Tryz.prog W 0 (fun _=>true) true n' 3 [c3]=some y3:=by
  have h9:=hf 3 _ rfl;exact fo35
 obtain⟨a3,e3,x3,w3⟩:=DataW.trod_int Tryz.underlying3 t3;obtain rfl:c3=_:=by simpa using e3
 have t4:DataW.trod enc Tryz.prog W 0 (fun _=>true) true n' 9 [c4]=some y4:=by
  have h9:=hf 4 _ rfl;exact fo62
 obtain⟨a4,e4,x4,w4⟩:=DataW.trod_string Tryz.underlying9 t4;obtain rfl:c4=_:=by simpa using e4
 have t5:DataW.trod enc Tryz.prog W 0 (fun _=>true) true n' 33 [c5]=some y5:=by
  have h9:=hf 5 _ rfl;exact fo130
 obtain⟨a5,e5,rd5,ok5,x5⟩:=YJ (C:=sgC) (sz:=Sg.sz) (ok:=(fun a=>a.ok)) (k:=6) (fun _=>rfl) jf Tryz.underlying33 Ze (fun n cs x h=>Sg_in n cs x h) t5;obtain rfl:c5=_:=e5;have t6:DataW.trod enc Tryz.prog W 0 (fun _=>true) true n' 29 [c6,c7,c8,c9,c10,c11]=some y6:=by
  have h9:=hf 6 _ rfl;simp only [qk4,qk5,qk6,Ze,qd1,qd2,qd3,qd4,qd5,qd6] at h9;exact h9
 obtain⟨a6,e6,ok6,x6⟩:=Sg_in n' _ _ t6;simp only [sgC,List.cons.injEq,and_true] at e6;obtain⟨rfl,rfl,rfl,rfl,rfl,rfl⟩:=e6;refine⟨⟨a0,a1,a2,a3,a4.data.toList,a5,a6⟩, ?_,⟨⟨wf_i64 w0,wf_i64 w1,wf_i64 w2,wf_i64 w3⟩,rd5,ok5,ok6⟩, ?_⟩
 · simp [stC]
 · simp only [List.map_cons,List.map_nil,Rows.uptoBulk,Rows.uptoBulkAll,x0,x1,x2,x3,x4];show St.sz _≤_;unfold St.sz;simp only;omega
theorem De_in (n:Nat) (cs:List Value) (x:DataW H × List MemPlace) (h:DataW.trod enc Tryz.prog W 0 (fun _=>true) true n 100 cs=some x):∃a:De,cs=deC a∧a.ok W∧a.sz≤Rows.uptoBulk x.1:=by
 obtain⟨ys,n',_,rfl,hl,hyl,hf⟩:=DataW.trod_struct Tryz.underlying100 h;rw [Yo] at hl;obtain⟨c0,r0,rfl,hl0⟩:=zl hl;obtain⟨c1,r1,rfl,hl1⟩:=zl hl0;obtain⟨c2,r2,rfl,hl2⟩:=zl hl1;obtain rfl:=List.length_eq_zero_iff.1 hl2;obtain⟨y0,q0,rfl,hyl0⟩:=zl (n:=2) hyl;obtain⟨y1,q1,rfl,hyl1⟩:=zl (n:=1) hyl0;obtain⟨y2,q2,rfl,hyl2⟩:=zl (n:=0) hyl1;obtain rfl:=List.length_eq_zero_iff.1 hyl2;have t0:DataW.trod enc Tryz.prog W 0 (fun _=>true) true n' 3 [c0]=some y0:=by
  have h9:=hf 0 _ rfl;exact fo35
 obtain⟨a0,e0,x0,w0⟩:=DataW.trod_int Tryz.underlying3 t0;obtain rfl:c0=_:=by simpa using e0
 have t1:DataW.trod enc Tryz.prog W 0 (fun _=>true) true n' 9 [c1]=some y1:=by
  have h9:=hf 1 _ rfl;exact fo62
 obtain⟨a1,e1,x1,w1⟩:=DataW.trod_string Tryz.underlying9 t1;obtain rfl:c1=_:=by simpa using e1
 have t2:DataW.trod enc Tryz.prog W 0 (fun _=>true) true n' 33 [c2]=some y2:=by
  have h9:=hf 2 _ rfl;exact fo130
 obtain⟨a2,e2,rd2,ok2,x2⟩:=YJ (C:=sgC) (sz:=Sg.sz) (ok:=(fun a=>a.ok)) (k:=6) (fun _=>rfl) jf Tryz.underlying33 Ze (fun n cs x h=>Sg_in n cs x h) t2;obtain rfl:c2=_:=e2;refine⟨⟨a0,a1.data.toList,a2⟩, ?_,⟨wf_i64 w0,rd2,ok2⟩, ?_⟩
 · simp [deC]
 · simp only [List.map_cons,List.map_nil,Rows.uptoBulk,Rows.uptoBulkAll,x0,x1];show De.sz _≤_;unfold De.sz;simp only;omega
theorem Ho_in (n:Nat) (cs:List Value) (x:DataW H × List MemPlace) (h:DataW.trod enc Tryz.prog W 0 (fun _=>true) true n 147 cs=some x):∃a:Ho,cs=hoC a∧a.ok W∧a.sz≤Rows.uptoBulk x.1:=by
 obtain⟨ys,n',_,rfl,hl,hyl,hf⟩:=DataW.trod_struct Tryz.underlying147 h;rw [zak] at hl;obtain⟨c0,r0,rfl,hl0⟩:=zl hl;obtain⟨c1,r1,rfl,hl1⟩:=zl hl0;obtain⟨c2,r2,rfl,hl2⟩:=zl hl1;obtain⟨c3,r3,rfl,hl3⟩:=zl hl2;obtain rfl:=List.length_eq_zero_iff.1 hl3;obtain⟨y0,q0,rfl,hyl0⟩:=zl (n:=1) hyl;obtain⟨y1,q1,rfl,hyl1⟩:=zl (n:=0) hyl0;obtain rfl:=List.length_eq_zero_iff.1 hyl1;have t0:DataW.trod enc Tryz.prog W 0 (fun _=>true) true n' 3 [c0]=some y0:=by
  have h9:=hf 0 _ rfl;exact fo35
 obtain⟨a0,e0,x0,w0⟩:=DataW.trod_int Tryz.underlying3 t0;obtain rfl:c0=_:=by simpa using e0
 have t1:DataW.trod enc Tryz.prog W 0 (fun _=>true) true n' 100 [c1,c2,c3]=some y1:=by
  have h9:=hf 1 _ rfl;simp only [qk4,qk5,qk6,Yo,qd1,qd2,qd3,qd4,qd5,qd6] at h9;exact h9
 obtain⟨a1,e1,ok1,x1⟩:=De_in n' _ _ t1;simp only [deC,List.cons.injEq,and_true] at e1;obtain⟨rfl,rfl,rfl⟩:=e1;refine⟨⟨a0,a1⟩, ?_,⟨wf_i64 w0,ok1⟩, ?_⟩
 · simp [hoC]
 · simp only [List.map_cons,List.map_nil,Rows.uptoBulk,Rows.uptoBulkAll,x0];show Ho.sz _≤_;unfold Ho.sz;simp only;omega
theorem Sn_in (n:Nat) (cs:List Value) (x:DataW H × List MemPlace) (h:DataW.trod enc Tryz.prog W 0 (fun _=>true) true n 36 cs=some x):∃a:Sn,cs=snC a∧a.ok W∧a.sz≤Rows.uptoBulk x.1:=by
 obtain⟨ys,n',_,rfl,hl,hyl,hf⟩:=DataW.trod_struct Tryz.underlying36 h;rw [zaf] at hl;obtain⟨c0,r0,rfl,hl0⟩:=zl hl;obtain⟨c1,r1,rfl,hl1⟩:=zl hl0;obtain⟨c2,r2,rfl,hl2⟩:=zl hl1;obtain⟨c3,r3,rfl,hl3⟩:=zl hl2;obtain⟨c4,r4,rfl,hl4⟩:=zl hl3;obtain rfl:=List.length_eq_zero_iff.1 hl4;obtain⟨y0,q0,rfl,hyl0⟩:=zl (n:=4) hyl;obtain⟨y1,q1,rfl,hyl1⟩:=zl (n:=3) hyl0;obtain⟨y2,q2,rfl,hyl2⟩:=zl (n:=2) hyl1;obtain⟨y3,q3,rfl,hyl3⟩:=zl (n:=1) hyl2;obtain⟨y4,q4,rfl,hyl4⟩:=zl (n:=0) hyl3;obtain rfl:=List.length_eq_zero_iff.1 hyl4;have t0:DataW.trod enc Tryz.prog W 0 (fun _=>true) true n' 3 [c0]=some y0:=by
  have h9:=hf 0 _ rfl;exact fo35
 obtain⟨a0,e0,x0,w0⟩:=DataW.trod_int Tryz.underlying3 t0;obtain rfl:c0=_:=by simpa using e0
 have t1:DataW.trod enc Tryz.prog W 0 (fun _=>true) true n' 9 [c1]=some y1:=by
  have h9:=hf 1 _ rfl;exact fo62
 obtain⟨a1,e1,x1,w1⟩:=DataW.trod_string Tryz.underlying9 t1;obtain rfl:c1=_:=by simpa using e1
 have t2:DataW.trod enc Tryz.prog W 0 (fun _=>true) true n' 32 [c2]=some y2:=by
  have h9:=hf 2 _ rfl;simp only [qk4,qk5,qk6,zbJ,qd1,qd2,qd3,qd4,qd5,qd6] at h9;exact h9
 obtain⟨a2,e2,rd2,ok2,x2⟩:=YJ (C:=strV) (sz:=szS) (ok:=(fun a=>True)) (k:=1) (fun _=>rfl) jf Tryz.underlying32 zbp (fun n cs x h=>str_in n cs x h) t2;obtain rfl:c2=_:=e2;have t3:DataW.trod enc Tryz.prog W 0 (fun _=>true) true n' 33 [c3]=some y3:=by
  have h9:=hf 3 _ rfl;exact fo130
 obtain⟨a3,e3,rd3,ok3,x3⟩:=YJ (C:=sgC) (sz:=Sg.sz) (ok:=(fun a=>a.ok)) (k:=6) (fun _=>rfl) jf Tryz.underlying33 Ze (fun n cs x h=>Sg_in n cs x h) t3;obtain rfl:c3=_:=e3;have t4:DataW.trod enc Tryz.prog W 0 (fun _=>true) true n' 34 [c4]=some y4:=by
  have h9:=hf 4 _ rfl;simp only [qk4,qk5,qk6,zbE,qd1,qd2,qd3,qd4,qd5,qd6] at h9;exact h9
 obtain⟨a4,e4,rd4,ok4,x4⟩:=YJ (C:=hoC) (sz:=Ho.sz) (ok:=(fun a=>a.ok W)) (k:=4) (fun _=>rfl) jf Tryz.underlying34 zak (fun n cs x h=>Ho_in n cs x h) t4;obtain rfl:c4=_:=e4;refine⟨⟨a0,a1.data.toList,a2,a3,a4⟩, ?_,⟨wf_i64 w0,rd2,⟨rd3,ok3⟩,rd4,ok4⟩, ?_⟩
 · simp [snC]
 · simp only [List.map_cons,List.map_nil,Rows.uptoBulk,Rows.uptoBulkAll,x0,x1];show Sn.sz _≤_;unfold Sn.sz;simp only;omega
theorem Ms_in (n:Nat) (cs:List Value) (x:DataW H × List MemPlace) (h:DataW.trod enc Tryz.prog W 0 (fun _=>true) true n 38 cs=some x):∃a:Ms,cs=msC a∧a.ok W∧a.sz≤Rows.uptoBulk x.1:=by
 obtain⟨ys,n',_,rfl,hl,hyl,hf⟩:=DataW.trod_struct Tryz.underlying38 h;rw [zaR] at hl;obtain⟨c0,r0,rfl,hl0⟩:=zl hl;obtain⟨c1,r1,rfl,hl1⟩:=zl hl0;obtain⟨c2,r2,rfl,hl2⟩:=zl hl1;obtain⟨c3,r3,rfl,hl3⟩:=zl hl2;obtain⟨c4,r4,rfl,hl4⟩:=zl hl3;obtain⟨c5,r5,rfl,hl5⟩:=zl hl4;obtain⟨c6,r6,rfl,hl6⟩:=zl hl5;obtain⟨c7,r7,rfl,hl7⟩:=zl hl6;obtain⟨c8,r8,rfl,hl8⟩:=zl hl7;obtain⟨c9,r9,rfl,hl9⟩:=zl hl8;obtain⟨c10,r10,rfl,hl10⟩:=zl hl9;obtain⟨c11,r11,rfl,hl11⟩:=zl hl10;obtain⟨c12,r12,rfl,hl12⟩:=zl hl11;obtain⟨c13,r13,rfl,hl13⟩:=zl hl12;obtain⟨c14,r14,rfl,hl14⟩:=zl hl13;obtain⟨c15,r15,rfl,hl15⟩:=zl hl14;obtain⟨c16,r16,rfl,hl16⟩:=zl hl15;obtain⟨c17,r17,rfl,hl17⟩:=zl hl16;obtain⟨c18,r18,rfl,hl18⟩:=zl hl17;obtain⟨c19,r19,rfl,hl19⟩:=zl hl18;obtain⟨c20,r20,rfl,hl20⟩:=zl hl19;obtain rfl:=List.length_eq_zero_iff.1 hl20;obtain⟨y0,q0,rfl,hyl0⟩:=zl (n:=11) hyl;obtain⟨y1,q1,rfl,hyl1⟩:=zl (n:=10) hyl0;obtain⟨y2,q2,rfl,hyl2⟩:=zl (n:=9) hyl1;obtain⟨y3,q3,rfl,hyl3⟩:=zl (n:=8) hyl2;obtain⟨y4,q4,rfl,hyl4⟩:=zl (n:=7) hyl3;obtain⟨y5,q5,rfl,hyl5⟩:=zl (n:=6) hyl4;obtain⟨y6,q6,rfl,hyl6⟩:=zl (n:=5) hyl5;obtain⟨y7,q7,rfl,hyl7⟩:=zl (n:=4) hyl6;obtain⟨y8,q8,rfl,hyl8⟩:=zl (n:=3) hyl7;obtain⟨y9,q9,rfl,hyl9⟩:=zl (n:=2) hyl8;obtain⟨y10,q10,rfl,hyl10⟩:=zl (n:=1) hyl9;obtain⟨y11,q11,rfl,hyl11⟩:=zl (n:=0) hyl10;obtain rfl:=List.length_eq_zero_iff.1 hyl11;have t0:DataW.trod enc Tryz.prog W 0 (fun _=>true) true n' 3 [c0]=some y0:=by
  have h9:=hf 0 _ rfl;exact fo35
 obtain⟨a0,e0,x0,w0⟩:=DataW.trod_int Tryz.underlying3 t0;obtain rfl:c0=_:=by simpa using e0
 have t1:DataW.trod enc Tryz.prog W 0 (fun _=>true) true n' 3 [c1]=some y1:=by
  have h9:=hf 1 _ rfl;exact fo35
 obtain⟨a1,e1,x1,w1⟩:=DataW.trod_int Tryz.underlying3 t1;obtain rfl:c1=_:=by simpa using e1
 have t2:DataW.trod enc Tryz.prog W 0 (fun _=>true) true n' 3 [c2]=some y2:=by
  have h9:=hf 2 _ rfl;exact fo35
 obtain⟨a2,e2,x2,w2⟩:=DataW.trod_int Tryz.underlying3 t2;obtain rfl:c2=_:=by simpa using e2
 have t3:DataW.trod enc Tryz.prog W 0 (fun _=>true) true n' 3 [c3]=some y3:=by
  have h9:=hf 3 _ rfl;exact fo35
 obtain⟨a3,e3,x3,w3⟩:=DataW.trod_int Tryz.underlying3 t3;obtain rfl:c3=_:=by simpa using e3
 have t4:DataW.trod enc Tryz.prog W 0 (fun _=>true) true n' 3 [c4]=some y4:=by
  have h9:=hf 4 _ rfl;exact fo35
 obtain⟨a4,e4,x4,w4⟩:=DataW.trod_int Tryz.underlying3 t4;obtain rfl:c4=_:=by simpa using e4
 have t5:DataW.trod enc Tryz.prog W 0 (fun _=>true) true n' 9 [c5]=some y5:=by
  have h9:=hf 5 _ rfl;exact fo62
 obtain⟨a5,e5,x5,w5⟩:=DataW.trod_string Tryz.underlying9 t5;obtain rfl:c5=_:=by simpa using e5
 have t6:DataW.trod enc Tryz.prog W 0 (fun _=>true) true n' 2 [c6]=some y6:=by
  have h9:=hf 6 _ rfl;simp only [qk4,qk5,qk6,cells_int64,qd1,qd2,qd3,qd4,qd5,qd6] at h9;exact h9
 obtain⟨a6,e6,x6,w6⟩:=DataW.trod_int Tryz.underlying2 t6;obtain rfl:c6=_:=by simpa using e6
 have t7:DataW.trod enc Tryz.prog W 0 (fun _=>true) true n' 29 [c7,c8,c9,c10,c11,c12]=some y7:=by
  have h9:=hf 7 _ rfl;simp only [qk4,qk5,qk6,Ze,qd1,qd2,qd3,qd4,qd5,qd6] at h9;exact h9
 obtain⟨a7,e7,ok7,x7⟩:=Sg_in n' _ _ t7;simp only [sgC,List.cons.injEq,and_true] at e7;obtain⟨rfl,rfl,rfl,rfl,rfl,rfl⟩:=e7;have t8:DataW.trod enc Tryz.prog W 0 (fun _=>true) true n' 30 [c13]=some y8:=by
  have h9:=hf 8 _ rfl;simp only [qk4,qk5,qk6,zce,qd1,qd2,qd3,qd4,qd5,qd6] at h9;exact h9
 obtain⟨a8,e8,rd8,ok8,x8⟩:=YJ (C:=stC) (sz:=St.sz) (ok:=(fun a=>a.ok W)) (k:=12) (fun _=>rfl) jf Tryz.underlying30 zba (fun n cs x h=>St_in n cs x h) t8;obtain rfl:c13=_:=e8;have t9:DataW.trod enc Tryz.prog W 0 (fun _=>true) true n' 31 [c14]=some y9:=by
  have h9:=hf 9 _ rfl;simp only [qk4,qk5,qk6,zb2,qd1,qd2,qd3,qd4,qd5,qd6] at h9;exact h9
 obtain⟨a9,e9,rd9,ok9,x9⟩:=YJ (C:=deC) (sz:=De.sz) (ok:=(fun a=>a.ok W)) (k:=3) (fun _=>rfl) jf Tryz.underlying31 Yo (fun n cs x h=>De_in n cs x h) t9;obtain rfl:c14=_:=e9;have t10:DataW.trod enc Tryz.prog W 0 (fun _=>true) true n' 36 [c15,c16,c17,c18,c19]=some y10:=by
  have h9:=hf 10 _ rfl;simp only [qk4,qk5,qk6,zaf,qd1,qd2,qd3,qd4,qd5,qd6] at h9;exact h9
 obtain⟨a10,e10,ok10,x10⟩:=Sn_in n' _ _ t10;simp only [snC,List.cons.injEq,and_true] at e10;obtain⟨rfl,rfl,rfl,rfl,rfl⟩:=e10;have t11:DataW.trod enc Tryz.prog W 0 (fun _=>true) true n' 32 [c20]=some y11:=by
  have h9:=hf 11 _ rfl;simp only [qk4,qk5,qk6,zbJ,qd1,qd2,qd3,qd4,qd5,qd6] at h9;exact h9
 obtain⟨a11,e11,rd11,ok11,x11⟩:=YJ (C:=strV) (sz:=szS) (ok:=(fun a=>True)) (k:=1) (fun _=>rfl) jf Tryz.underlying32 zbp (fun n cs x h=>str_in n cs x h) t11;obtain rfl:c20=_:=e11;refine⟨⟨a0,a1,a2,a3,a4,a5.data.toList,a6,a7,a8,a9,a10,a11⟩, ?_,⟨⟨wf_i64 w0,wf_i64 w1,wf_i64 w2,wf_i64 w3,wf_i64 w4,wf_i64 w6⟩,ok7,⟨rd8,ok8⟩,⟨rd9,ok9⟩,ok10,rd11⟩, ?_⟩
 · simp [msC]
 · simp only [List.map_cons,List.map_nil,Rows.uptoBulk,Rows.uptoBulkAll,x0,x1,x2,x3,x4,x5,x6];show Ms.sz _≤_;unfold Ms.sz;simp only;omega
end
section
variable {H : Type} {enc : TypeId × Value → H} {W : World}
end
theorem zbr:Tryz.prog.cellsOf 40=28:=by kernel_rfl
section
variable {H : Type} {enc : TypeId × Value → H} {W : World}
theorem Pt_in (n:Nat) (cs:List Value) (x:DataW H × List MemPlace) (h:DataW.trod enc Tryz.prog W 0 (fun _=>true) true n 40 cs=some x):∃a:Pt,cs=ptC a∧a.ok W∧a.sz≤Rows.uptoBulk x.1:=by
 obtain⟨ys,n',_,rfl,hl,hyl,hf⟩:=DataW.trod_struct Tryz.underlying40 h;rw [zbr] at hl;obtain⟨c0,r0,rfl,hl0⟩:=zl hl;obtain⟨c1,r1,rfl,hl1⟩:=zl hl0;obtain⟨c2,r2,rfl,hl2⟩:=zl hl1;obtain⟨c3,r3,rfl,hl3⟩:=zl hl2;obtain⟨c4,r4,rfl,hl4⟩:=zl hl3;obtain⟨c5,r5,rfl,hl5⟩:=zl hl4;obtain⟨c6,r6,rfl,hl6⟩:=zl hl5;obtain⟨c7,r7,rfl,hl7⟩:=zl hl6;obtain⟨c8,r8,rfl,hl8⟩:=zl hl7;obtain⟨c9,r9,rfl,hl9⟩:=zl hl8;obtain⟨c10,r10,rfl,hl10⟩:=zl hl9;obtain⟨c11,r11,rfl,hl11⟩:=zl hl10;obtain⟨c12,r12,rfl,hl12⟩:=zl hl11;obtain⟨c13,r13,rfl,hl13⟩:=zl hl12;obtain⟨c14,r14,rfl,hl14⟩:=zl hl13;obtain⟨c15,r15,rfl,hl15⟩:=zl hl14;obtain⟨c16,r16,rfl,hl16⟩:=zl hl15;obtain⟨c17,r17,rfl,hl17⟩:=zl hl16;obtain⟨c18,r18,rfl,hl18⟩:=zl hl17;obtain⟨c19,r19,rfl,hl19⟩:=zl hl18;obtain⟨c20,r20,rfl,hl20⟩:=zl hl19;obtain⟨c21,r21,rfl,hl21⟩:=zl hl20;obtain⟨c22,r22,rfl,hl22⟩:=zl hl21;obtain⟨c23,r23,rfl,hl23⟩:=zl hl22;obtain⟨c24,r24,rfl,hl24⟩:=zl hl23;obtain⟨c25,r25,rfl,hl25⟩:=zl hl24;obtain⟨c26,r26,rfl,hl26⟩:=zl hl25;obtain⟨c27,r27,rfl,hl27⟩:=zl hl26;obtain rfl:=List.length_eq_zero_iff.1 hl27;obtain⟨y0,q0,rfl,hyl0⟩:=zl (n:=7) hyl;obtain⟨y1,q1,rfl,hyl1⟩:=zl (n:=6) hyl0;obtain⟨y2,q2,rfl,hyl2⟩:=zl (n:=5) hyl1;obtain⟨y3,q3,rfl,hyl3⟩:=zl (n:=4) hyl2;obtain⟨y4,q4,rfl,hyl4⟩:=zl (n:=3) hyl3;obtain⟨y5,q5,rfl,hyl5⟩:=zl (n:=2) hyl4;obtain⟨y6,q6,rfl,hyl6⟩:=zl (n:=1) hyl5;obtain⟨y7,q7,rfl,hyl7⟩:=zl (n:=0) hyl6;obtain rfl:=List.length_eq_zero_iff.1 hyl7;have t0:DataW.trod enc Tryz.prog W 0 (fun _=>true) true n' 3 [c0]=some y0:=by
  have h9:=hf 0 _ rfl;exact fo35
 obtain⟨a0,e0,x0,w0⟩:=DataW.trod_int Tryz.underlying3 t0;obtain rfl:c0=_:=by simpa using e0
 have t1:DataW.trod enc Tryz.prog W 0 (fun _=>true) true n' 3 [c1]=some y1:=by
  have h9:=hf 1 _ rfl;exact fo35
 obtain⟨a1,e1,x1,w1⟩:=DataW.trod_int Tryz.underlying3 t1;obtain rfl:c1=_:=by simpa using e1
 have t2:DataW.trod enc Tryz.prog W 0 (fun _=>true) true n' 3 [c2]=some y2:=by
  have h9:=hf 2 _ rfl;exact fo35
 obtain⟨a2,e2,x2,w2⟩:=DataW.trod_int Tryz.underlying3 t2;obtain rfl:c2=_:=by simpa using e2
 have t3:DataW.trod enc Tryz.prog W 0 (fun _=>true) true n' 3 [c3]=some y3:=by
  have h9:=hf 3 _ rfl;exact fo35
 obtain⟨a3,e3,x3,w3⟩:=DataW.trod_int Tryz.underlying3 t3;obtain rfl:c3=_:=by simpa using e3
 have t4:DataW.trod enc Tryz.prog W 0 (fun _=>true) true n' 3 [c4]=some y4:=by
  have h9:=hf 4 _ rfl;exact fo35
 obtain⟨a4,e4,x4,w4⟩:=DataW.trod_int Tryz.underlying3 t4;obtain rfl:c4=_:=by simpa using e4
 have t5:DataW.trod enc Tryz.prog W 0 (fun _=>true) true n' 9 [c5]=some y5:=by
  have h9:=hf 5 _ rfl;exact fo62
 obtain⟨a5,e5,x5,w5⟩:=DataW.trod_string Tryz.underlying9 t5;obtain rfl:c5=_:=by simpa using e5
 have t6:DataW.trod enc Tryz.prog W 0 (fun _=>true) true n' 9 [c6]=some y6:=by
  have h9:=hf 6 _ rfl;exact fo62
 obtain⟨a6,e6,x6,w6⟩:=DataW.trod_string Tryz.underlying9 t6;obtain rfl:c6=_:=by simpa using e6
 have t7:DataW.trod enc Tryz.prog W 0 (fun _=>true) true n' 38 [c7,c8,c9,c10,c11,c12,c13,c14,c15,c16,c17,c18,c19,c20,c21,c22,c23,c24,c25,c26,c27]=some y7:=by
  have h9:=hf 7 _ rfl;simp only [qk4,qk5,qk6,zaR,qd1,qd2,qd3,qd4,qd5,qd6] at h9;exact h9
 obtain⟨a7,e7,ok7,x7⟩:=Ms_in n' _ _ t7;refine⟨⟨a0,a1,a2,a3,a4,a5.data.toList,a6.data.toList,a7⟩, ?_,⟨⟨wf_i64 w0,wf_i64 w1,wf_i64 w2,wf_i64 w3,wf_i64 w4⟩,ok7⟩, ?_⟩
 · rw [e7];simp [ptC,ptH]
 · simp only [List.map_cons,List.map_nil,Rows.uptoBulk,Rows.uptoBulkAll,x0,x1,x2,x3,x4,x5,x6];show Pt.sz _≤_;unfold Pt.sz;simp only;omega
theorem one_cell {t e:TypeId} {base:Nat} {v:Value} (ht:Tryz.prog.underlying t=some (.slice e)) (hv:Value.okWide Tryz.prog W .any base t v):v.cells.toList= [v]:=by
 obtain⟨a,n,c,rfl⟩:=okWide_slice ht hv;rfl
theorem pts_in {v:Value} {d:DataW H} {p:List MemPlace} {base:Nat} (hv:Value.okWide Tryz.prog W .any base 22 v) (h:DataW.Trod enc Tryz.prog W 0 (fun _=>true) true 22 v d p) :
    ∃(A:Option Addr) (c:Nat) (l:List Pt),v= .slice A l.length c∧ZV W A l∧sum Pt.sz l+1≤Rows.uptoBulk d:=by
 obtain⟨n,hn⟩:=h;rw [one_cell Tryz.underlying22 hv] at hn;obtain⟨s,e,rd,ok,sz⟩:=YJ (C:=ptC) (sz:=Pt.sz) (ok:=fun a=>a.ok W) (k:=28) Ye jf Tryz.underlying22 zbr (fun n cs x h=>Pt_in n cs x h) hn;exact⟨s.a,s.c,s.l,e,⟨rd,ok⟩,sz⟩
end
end Go.Proofs.YtepbbaifpckcpaaGreatDoor.frame
namespace Go.Proofs.YtepbbaifpckcpaaGreatDoor.frame
set_option maxRecDepth 100000
open Go.Joins Go.ChangeShapes Go.WideShapes Go.ChangeAt Go.RowKit Go.Deep
theorem star: "*"++ "errors.errorString"= "*errors.errorString":=by decide
theorem rowErr (u:TypeId) (h:Tryz.prog.typeName? 3 u=some "*errors.errorString"):u=306:=
 typeName_ptr_named (nm:= "errors.errorString") (by rw [star];kernel_rfl) jc jf u (by rw [star];exact h)
section
open Go.WideElems
theorem words_of_laid {W:World} (h:laidMet Tryz.prog [("sederunt/trace.words",Rows.laid_sederunt_trace_words)] W):∃b n,W.cell? ⟨0,0,none⟩=some (.map (some b))∧W.ownsMap Tryz.prog 3 (plainElem Tryz.prog 9) b n zah:=by
 obtain⟨ps,⟨g',t',cs,fuel,p,q,hg',ht',hvar,hd,_,_⟩,_⟩:=h;have hg:Tryz.prog.globalNamed "sederunt/trace.words"=some 0:=by kernel_rfl
 have hty:(Tryz.prog.globals[0]?).map (·.type)=some 90:=by kernel_rfl
 obtain rfl:=Option.some.inj (hg.symm.trans hg');obtain rfl:=Option.some.inj (hty.symm.trans ht');rcases open_map Tryz.underlying90 hd with⟨_,hx⟩|⟨b,es,clock,n,_,hcs,hb,_,F,hx⟩
 · simp only [Prod.mk.injEq] at hx;exact absurd hx.1 (by simp [Rows.laid_sederunt_trace_words])
 · simp only [Prod.mk.injEq] at hx;have hown:=World.ownsMap_of_fit (R:=plainElem Tryz.prog 9) hb F (fun x _ z hz=>elemAt_plainElem_string Tryz.underlying9 hz);rw [←hx.1] at hown;have hl:(Rows.laid_sederunt_trace_words:DataW Unit)=zah:=rfl;rw [hl] at hown;refine⟨b,es.size, ?_,hown⟩;have h0:=World.var?_cell hg hvar 0;rw [←Array.getElem?_toList,hcs] at h0;simpa using h0
end
theorem env_of_laid {W:World} (h:laidMetH Tryz.prog Rows.traceValidUptoRow.laid W) (hsh:W.ShapedOpen Tryz.prog):Env W where
 pow:=by
  have h2:=h.filter (fun x=>x.1 == "internal/strconv.uint64pow10")
  rw [Go.MakeChecks.laidMetH_plain _ _ _ jc] at h2;exact Lib.tabIs_of_head (rest:= []) (t:=276) (e:=144) (n:=20) (g:=2) jc jc jc jc jc jc h2
 syn:=by
  have h2:=h.filter (fun x=>x.1 == "strconv.ErrSyntax")
  rw [Go.MakeChecks.laidMetH_plain _ _ _ jc] at h2;have hg:Tryz.prog.globalNamed "strconv.ErrSyntax"=some 5:=by kernel_rfl
  obtain⟨a0,s0,hv0,_⟩:=laid_sentinel (r:= []) h2 hg jc Tryz.underlying79 rowErr Tryz.underlying306 Tryz.underlying308 rfl rfl Tryz.underlying9 jc jc;exact⟨_,_,by have h0:=World.var?_cell hg hv0 0;simpa using h0⟩
 rng:=by
  have h2:=h.filter (fun x=>x.1 == "strconv.ErrRange")
  rw [Go.MakeChecks.laidMetH_plain _ _ _ jc] at h2;have hg:Tryz.prog.globalNamed "strconv.ErrRange"=some 6:=by kernel_rfl
  obtain⟨a0,s0,hv0,_⟩:=laid_sentinel (r:= []) h2 hg jc Tryz.underlying79 rowErr Tryz.underlying306 Tryz.underlying308 rfl rfl Tryz.underlying9 jc jc;exact⟨_,_,by have h0:=World.var?_cell hg hv0 0;simpa using h0⟩
 mx:=Go.Proofs.cell_of_shapedOpen_int (zero:=#[.int .i64 0]) (t:=3) hsh (of_decide_eq_true jc) jc rfl jc jc Tryz.underlying3;words:=by
  have h2:=h.filter (fun x=>x.1 == "sederunt/trace.words");rw [Go.MakeChecks.laidMetH_plain _ _ _ jc] at h2;exact words_of_laid h2
def lay (cs:Array Value):Obj→Obj
 | .cells _ t frozen=> .cells cs t frozen
 |o=>o
def intsOf:DataW Unit→Array Value
 | .agg l=>(l.map fun| .lit (.int k z)=>Value.int k z|_=>Value.bool false).toArray
 |_=>#[]
def pairsOf:DataW Unit→Array Value
 | .agg l=>(l.flatMap fun| .agg m=>m.map (fun| .lit (.int k z)=>Value.int k z|_=>Value.bool false)|_=> []).toArray
 |_=>#[]
def entsOf:DataW Unit→Array MapEntry
 | .map l=>(l.zipIdx.map fun|((.int k z, .lit (.string s)),i)=>(⟨.int k z, .string ⟨s.toArray⟩,i⟩:MapEntry)|_=>⟨.bool false, .bool false,0⟩).toArray
 |_=>#[]
def synS:ByteArray:={data:=#[105,110,118,97,108,105,100,32,115,121,110,116,97,120]}
def rngS:ByteArray:={data:=#[118,97,108,117,101,32,111,117,116,32,111,102,32,114,97,110,103,101]}
noncomputable def low:Nat:=(World.holding Tryz.prog default ⟨#[],#[], []⟩).heap.size
noncomputable def base0 (os:Os):World:=World.holding Tryz.prog os ⟨#[.cells #[.string synS] 308, .cells #[.string rngS] 308, .map (entsOf Rows.laid_sederunt_trace_words) 8],#[], []⟩
noncomputable def zeh (os:Os):World:=
 { base0 os with heap := ((((((((base0 os).heap.modify 5 (lay #[.iface 306 (.pointer (some ⟨low, 0, none⟩))])).modify 6 (lay #[.iface 306 (.pointer (some ⟨low + 1, 0, none⟩))])).modify
     0 (lay #[.map (some (low+2))])).modify 2 (lay (intsOf Rows.laid_internal_strconv_uint64pow10))).modify 7 (lay (intsOf Rows.laid_math_bits_deBruijn32tab))).modify 8 (lay (intsOf Rows.laid_math_bits_deBruijn64tab))).modify
     4 (lay (pairsOf Rows.laid_unicode_utf8_acceptRanges))).modify 3 (lay (intsOf Rows.laid_unicode_utf8_first))}
theorem laid_met (os:Os) (args:Array Value):laidMet Tryz.prog Rows.traceValidUptoRow.laid ((zeh os).forCall (fun _ _=>0) ⟨#[],args, []⟩).memory:=
 laidMet_of_run' 8 jc jc
section
variable {H : Type} {enc : TypeId × Value → H} {W : World}
end
end Go.Proofs.YtepbbaifpckcpaaGreatDoor.frame
