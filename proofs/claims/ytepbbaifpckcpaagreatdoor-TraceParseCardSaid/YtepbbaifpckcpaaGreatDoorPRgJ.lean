/- The reference's EncodeStatus, DecodeStatus. -/
import Derived.Test.YtepbbaifpckcpaaGreatDoorPR3
open Go.Proofs.Tryz
namespace Go.Proofs.YtepbbaifpckcpaaGreatDoor
set_option maxRecDepth 100000
set_option maxHeartbeats 2000000
open Go.RowKit
def zdm(o:Option St)(w:World)(e:Ending)(w':World):Prop:=Below w.heap.size w w'∧match o with
 |some m=>∃x,x.er=m∧e= .returned (.tuple #[.agg (stC x).toArray,()])∧yG w.heap.size (x.ok) w'
 |none=>e= .returned (.tuple #[.agg (stC st0).toArray,.int .i64 2])
variable{w w':World}
theorem zaV{o:Option St}(h:o=none)(hb:Below w.heap.size w w'):zdm o w (.returned (.tuple #[.agg (stC st0).toArray,.int .i64 2])) w':=by
 subst h;exact⟨hb,rfl⟩
theorem zfQ{o:Option St}{x:St}(h:o=some x.er)(hb:Below w.heap.size w w')(hk:yG w.heap.size (x.ok) w'):zdm o w (.returned (.tuple #[.agg (stC x).toArray,()])) w':=by
 subst h;exact⟨hb,x,rfl,rfl,hk⟩
theorem decSt_ref(s:List UInt8):zcv s=if(rkSt ⟨s,true⟩).2.ok=true∧(rkSt ⟨s,true⟩).2.s=[]∧yo (rkSt ⟨s,true⟩).1=true∧yB (rkSt ⟨s,true⟩).1=true then some (rkSt ⟨s,true⟩).1 else none:=by
 unfold zcv whole;cases h:rdSt s with
 |none=>
  have:=al2_st.none s h;rw[this];rfl
 |some y=>
  obtain⟨x,q⟩:=y;rw[al2_st.some s x q h];simp only;by_cases hq:q=[]
  · rw[af hq];simp only;unfold vSt;cases yo x <;> cases yB x <;> simp[hq]
  · rw[aa hq,aa (fun hh=>hq hh.2.1)]
theorem zcw(s:List UInt8)(w:World)(hs:s.length≤16777216):Calls prog 133 #[s] w (zdm (zcv s) w):=by
 have HV0:=hD (Vr.new w (stC st0) 97);have HB0:=hD (za w (.cells (stC st0).toArray 97));have HZ0:Hid ((w.alloc (.cells (stC st0).toArray 97)).heap.size=w.heap.size+1):=hD jc;have HP:=hD (zdB ⟨s,true⟩ (w.alloc (.cells (stC st0).toArray 97)) (ah hs jf));have HD:=hD (decSt_ref s);obtain⟨p,hp⟩:∃p,p=rkSt ⟨s,true⟩:=⟨_,rfl⟩;have hsz:p.2.ok=true→p.2.s=[]→p.1.sz≤16777216:=by
  intro h1 h2;cases h:rdSt s with
  |none=>rw[hp,al2_st.none s h]at h1;cases h1
  |some y=>
   have h3:=al2_st.some s y.1 y.2 h;rw[←hp]at h3;rw[h3];have:=rdSt_sz s y.1 y.2 h;simp only;omega
 have HSz:=hD hsz;rw[←hp]at HP HD;obtain⟨y,s2,b2⟩:=p;simp only at HD HP HSz;clear hp hsz;go_in;go_wp2_with fail;refine HP.mono ?_;rintro e w2 ⟨x,he,hx,hst,hb⟩;obtain rfl:e= .returned (.tuple #[.agg (stC x).toArray,.agg (rcC ⟨s2,b2⟩).toArray]):=he;simp only at hx;rw[HZ0.out]at hst;have h2:=hb.size;rw[HZ0.out]at h2;obtain⟨wb,hwb⟩:∃wb,wb=(w2.alloc (.cells (stC st0).toArray 97)).alloc (.cells (rcC Rc.fail).toArray 167):=⟨_,rfl⟩;have HV:Hid (Vr wb w.heap.size (stC st0)):=hD (by rw[hwb];exact((HV0.below hb).below (za _ _)).below (za _ _));have HB:Hid (Below w.heap.size w wb):=hD (by rw[hwb];exact bon (bon (bon HB0 hb) (za _ _)) (za _ _));have HX:Hid (Vr wb w2.heap.size (stC st0)):=hD (by rw[hwb];exact(Vr.new w2 (stC st0) 97).below (za _ _));have HR:Hid (Vr wb (w2.heap.size+1) (rcC Rc.fail)):=hD (by rw[hwb];exact Vr.new' _ (rcC Rc.fail) 167 jc);have HT:Hid (Held (w.heap.size+1) w2.heap.size (x.ok) wb):=hD (by rw[hwb];exact((yI hst (ag _) (Or.inr (ag _))).below (za _ _)).below (za _ _));have HT':Hid (yG (w.heap.size+1) (x.ok) w2):=hD hst;have HXe:=hD hx;have hwb2:(w2.alloc (.cells (stC st0).toArray 97)).alloc (.cells (rcC Rc.fail).toArray 167)=wb:=hwb.symm;have HW:=hD hwb2
 -- the worlds behind the two stores
 obtain⟨wc,hwc⟩:∃wc,wc=(wb.setCells w2.heap.size 0 (stC x)).setCells (w2.heap.size+1) 0 (rcC ⟨s2,b2⟩):=⟨_,rfl⟩;have HVc:Hid (Vr wc w.heap.size (stC st0)):=hD (by rw[hwc];exact(HV.grown (zb (b:=w2.heap.size) (stC x)) ja).grown (zb (b:=w2.heap.size+1) (rcC ⟨s2,b2⟩)) ja);have HBc:Hid (Below w.heap.size w wc):=hD (by rw[hwc];exact zf (zf HB (zb (b:=w2.heap.size) (stC x)) ja) (zb (b:=w2.heap.size+1) (rcC ⟨s2,b2⟩)) ja);have HXc:Hid (Vr wc w2.heap.size (stC x)):=hD (by rw[hwc];exact(HX.sets (stC x) rfl).grown (zb (b:=w2.heap.size+1) (rcC ⟨s2,b2⟩)) ja);have HR1:Hid (Vr (wb.setCells w2.heap.size 0 (stC x)) (w2.heap.size+1) (rcC Rc.fail)):=hD (HR.grown (zb (b:=w2.heap.size) (stC x)) ja);have HRc:Hid (Vr wc (w2.heap.size+1) (rcC ⟨s2,b2⟩)):=hD (by rw[hwc];exact HR1.sets (rcC ⟨s2,b2⟩) rfl);have HTc:Hid (Held (w.heap.size+1) w2.heap.size (x.ok) wc):=hD (by
  rw[hwc,hwb];obtain⟨F,f1,f2⟩:Held (w.heap.size+1) w2.heap.size (x.ok) w2:=yI HT'.out (ag _) (Or.inr (ag _));have g1:=za w2 (.cells (stC st0).toArray 97);have g2:=za (w2.alloc (.cells (stC st0).toArray 97)) (.cells (rcC Rc.fail).toArray 167);have hsz1:(w2.alloc (.cells (stC st0).toArray 97)).heap.size=w2.heap.size+1:=by simp
  have hsz2:((w2.alloc (.cells (stC st0).toArray 97)).alloc (.cells (rcC Rc.fail).toArray 167)).heap.size=w2.heap.size+2:=by simp
  have g3:=zb (w:=(w2.alloc (.cells (stC st0).toArray 97)).alloc (.cells (rcC Rc.fail).toArray 167)) (b:=w2.heap.size) (stC x);have g4:=zb (w:=((w2.alloc (.cells (stC st0).toArray 97)).alloc (.cells (rcC Rc.fail).toArray 167)).setCells w2.heap.size 0 (stC x)) (b:=w2.heap.size+1) (rcC ⟨s2,b2⟩);have z3:=g3.size;have z4:=g4.size;refine⟨F,f1.on ja (fun k hk=> ?_),fun k hk=>⟨(f2 k hk).1,by have:=(f2 k hk).2.1;omega,(f2 k hk).2.2⟩⟩;have h9:=(f2 k hk).2.1;rw[g4.block k ja jg,g3.block k ja jg,g2.block k ja,g1.block k h9])
 have hwc2:(wb.setCells w2.heap.size 0 (stC x)).setCells (w2.heap.size+1) 0 (rcC ⟨s2,b2⟩)=wc:=hwc.symm;have HWc:=hD hwc2;clear hx hst hb hwb hwb2 hwc hwc2 HP HZ0;go_upto_region 2 with(first
  |(refine ai rfl 97 _ _ rfl w2.heap.size 0 (stC x).toArray rfl rfl ?_ (yL x) (Yi x) ?_;· (have h9:=HX.there (n:=12) rfl;rw[←HW.out]at h9;exact h9))
  |(refine ai rfl 167 _ _ rfl (w2.heap.size+1) 0 (rcC ⟨s2,b2⟩).toArray rfl rfl ?_ (zt ⟨s2,b2⟩) (zO ⟨s2,b2⟩) ?_;· (have h9:=HR1.there (n:=2) rfl;rw[←HW.out]at h9;exact h9)))
 try simp only[ay]
 change Code.wp _ _ _ _ ((((w2.alloc (.cells (stC st0).toArray 97)).alloc (.cells (rcC Rc.fail).toArray 167)).setCells w2.heap.size 0 (stC x)).setCells (w2.heap.size+1) 0 (rcC ⟨s2,b2⟩));rw[HW.out,HWc.out];have c0:=HRc.cells 0 _ rfl;have c1:=HRc.cells 1 _ rfl;have lc:=HRc.lt;simp only[]at c0 c1;clear HX HR HR1 HV HB HT HW HWc;cases b2 with
 |false=>exact fo62
 |true=>
  cases s2 with
  |cons q0 qs=>exact fo62
  |nil=>
   have hz:=HSz.out rfl rfl;have hxs:x.sz≤16777216:=by have:x.er.sz=x.sz:=rfl;rw[←this,HXe.out];exact hz
   have hz2:=Yg Sg.sz x.cert.l 7 Sg.sz_ge;have hn:x.cert.l.length≤1099511627776:=by unfold St.sz at hxs;omega
   have HRg:=hD (zb1 x wc);have HSh:Hid (∀W,Below wc.heap.size wc W→Calls prog 156 #[.agg (stC x).toArray] W (zK (yB x) W)):=hD (fun W hb=>zca x W ((HTc.below hb).stays.out).2.1 hn);have E1:Hid (yo y=yo x):=hD (by rw[←HXe.out];rfl);have E2:Hid (yB y=yB x):=hD (by rw[←HXe.out];rfl);clear hz hxs hz2 hn;go_wp2_with (refine yC ji 97 _ rfl w2.heap.size 0 rfl (stC x) _ HXc.range underlying97 rfl (yL x) ?_);refine HRg.mono ?_;rintro e w4 ⟨rfl,hb⟩;have HV4:=hD (HVc.below hb);have HB4:=hD (bon HBc hb);have HX4:=hD (HXc.below hb);have HT4:=hD (HTc.below hb);have HSh4:=hD (HSh w4 hb);clear hb c0 c1 lc HRg;cases h1:yo x with
   |false=>
    have HY:Hid (zcv s=none):=hD (by rw[HD.out,E1.out,h1];simp);clear h1;go_wp2_with (refine ai rfl 97 _ _ rfl w.heap.size 0 (stC st0).toArray rfl rfl (HV4.there (n:=12) rfl) (yL st0) (Yi st0) ?_);refine aj (v:= .tuple #[.agg (stC st0).toArray,.int .i64 2]) ?_ rfl (zaV HY (zf HB4 (zb (b:=w.heap.size) (stC st0)) (ag _)));exact zi results133 _ _ w.heap.size (stC st0) _ _ rfl rfl (HV4.sets (stC st0) rfl).range underlying97 rfl (yL st0)
   |true=>
    have H1:=hD h1;clear h1;go_wp2_with (refine yC ji 97 _ rfl w2.heap.size 0 rfl (stC x) _ HX4.range underlying97 rfl (yL x) ?_);refine HSh4.mono ?_;rintro e w5 ⟨rfl,hb⟩;have HV5:=hD (HV4.below hb);have HB5:=hD (bon HB4 hb);have HX5:=hD (HX4.below hb);have HT5:=hD (HT4.below hb);clear hb;cases h2:yB x with
    |false=>
     have HY:Hid (zcv s=none):=hD (by rw[HD.out,E2.out,h2];simp);clear h2;go_wp2_with (refine ai rfl 97 _ _ rfl w.heap.size 0 (stC st0).toArray rfl rfl (HV5.there (n:=12) rfl) (yL st0) (Yi st0) ?_);refine aj (v:= .tuple #[.agg (stC st0).toArray,.int .i64 2]) ?_ rfl (zaV HY (zf HB5 (zb (b:=w.heap.size) (stC st0)) (ag _)));exact zi results133 _ _ w.heap.size (stC st0) _ _ rfl rfl (HV5.sets (stC st0) rfl).range underlying97 rfl (yL st0)
    |true=>
     have HY:Hid (zcv s=some x.er):=hD (by rw[HD.out,E1.out,E2.out,H1.out,h2,HXe.out];simp);clear h2;go_wp2_with (first
      |(refine ak rfl 97 _ rfl w2.heap.size 0 rfl (stC x) _ HX5.range underlying97 rfl (yL x) ?_)
      |(refine ai rfl 97 _ _ rfl w.heap.size 0 (stC x).toArray rfl rfl (HV5.there (n:=12) rfl) (yL x) (Yi x) ?_))
     refine aj (v:= .tuple #[.agg (stC x).toArray,()]) ?_ rfl (zfQ HY (zf HB5 (zb (b:=w.heap.size) (stC x)) (ag _)) ((HT5.row (zb (b:=w.heap.size) (stC x)) (Or.inl ja)).stays.low ja));exact zi results133 _ _ w.heap.size (stC x) _ _ rfl rfl (HV5.sets (stC x) rfl).range underlying97 rfl (yL x)
