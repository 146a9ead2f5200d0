/- The reference's readSnapshot, in plain words. -/
import Derived.Test.YtepbbaifpckcpaaGreatDoorPR3
open Go.Proofs.Tryz
namespace Go.Proofs.YtepbbaifpckcpaaGreatDoor
open Go.RowKit
def rkHo:Rc→Ho × Rc:=Zl (yK 1) fun n=>Zl rkDe fun e=>zej ⟨n.getD 0 0,e⟩
theorem al2_ho:Al2 rdHo rkHo:=yX (Ym _ _) fun _=>yX al2_de fun _=>zfq _
def Rc.fine(r:Rc):Bool:=r.ok && r.s.isEmpty
theorem ho_whole(t:List UInt8):whole rdHo t=if(rkHo ⟨t,true⟩).2.fine then some (rkHo ⟨t,true⟩).1 else none:=by
 unfold whole;cases h:rdHo t with
 |none=>rw[al2_ho.none t h];rfl
 |some y=>
  obtain⟨x,q⟩:=y;rw[al2_ho.some t x q h];cases q with
  |nil=>rfl
  |cons a b=>rfl
theorem rkTexts_bad(r:Rc)(h:(yc r).2.ok=false):(yc r).1=[]:=by
 obtain⟨s,b⟩:=r;cases b
 · rfl
 · unfold yc rk at h⊢;simp only[aW]at h⊢;cases hh:Zn s with
   |none=>rfl
   |some y=>rw[hh]at h;simp at h
structure ChSt (w:World) (b5:Nat) (W0:World→Prop) (l:List (List UInt8)) (j:Nat) (o:Value) (xs:List Ho) (B:Nat) (F:Nat→Prop) (wr:World):Prop where
 len:xs.length=j
 own:wr.ownsRow B 147 4 o j (xs.flatMap hoC)
 size:B≤wr.heap.size
 foot:Foot F (fun W=>W0 W∧∀y∈xs,y.ok W) wr
 fin:∀i,F i→w.heap.size+3≤i∧i<wr.heap.size∧i≠b5∧o.ownBlock≠some i
 all:many rdHo l=match many rdHo (l.drop j) with
  |none=>none
  |some ys=>some (xs.map Ho.er++ys)
variable{B b4 j:Nat}{F:Nat→Prop}{r0 r1 r2 r3 r4:Rc}{o v':Value}{W w w2 wa wr:World}{P:World→Prop}
theorem ChSt.start{u:World}{b5:Nat}{W0:World→Prop}{l:List (List UInt8)}(h:Held (w.heap.size+3) b5 W0 u)(_hm:many rdHo l=many rdHo l):∃F,ChSt w b5 W0 l 0 (.slice none 0 0) [] u.heap.size F u:=by
 obtain⟨F,h1,h2⟩:=h;refine⟨F,rfl,aR _ _ _ _,ag _,fun w' a b=>⟨h1 w' a b,by simp⟩,fun i hi=>⟨(h2 i hi).1,(h2 i hi).2.1,(h2 i hi).2.2,by simp[Value.ownBlock]⟩,?_⟩;rw[dL];cases many rdHo l <;> rfl
theorem Held.and{a:Nat}{Q:World→Prop}(h:Held a b4 P W)(k:Held a b4 Q W):Held a b4 (fun w=>P w∧Q w) W:=by
 obtain⟨F,f1,f2⟩:=h;obtain⟨G,g1,g2⟩:=k;exact⟨fun i=>F i∨G i,(f1.mono (fun _ hi=>Or.inl hi)).imp2 (g1.mono (fun _ hi=>Or.inr hi)) (fun _ a b=>⟨a,b⟩),fun i hi=>by
  rcases hi with hi|hi
  · exact f2 i hi
  · exact g2 i hi⟩
theorem ChSt.step{b5:Nat}{W0:World→Prop}{l:List (List UInt8)}{xs:List Ho}{u:Nat}{x:Ho}
    (h:ChSt w b5 W0 l j o xs B F wr) (hB:b5<B) (hw:w.heap.size+3≤B) (hb:Below wr.heap.size wr wa) (hj:j<l.length) (hx:whole rdHo l[j]=some x.er) (hu:wr.heap.size≤u) (hst:yG u (x.ok) wa)
    (hown:w2.ownsRow B 147 4 v' (j+1) (xs.flatMap hoC++hoC x)) (hgr:wa.grownBy w2 o.ownBlock) (hat:v'.ownBlock=o.ownBlock∨v'.ownBlock=some wa.heap.size) :
    ChSt w b5 W0 l (j+1) v' (xs++ [x]) B (fun i=>F i∨(u≤i∧i<wa.heap.size)) (w2.setCell ⟨b5,4,none⟩ v'):=by
 have z1:=hb.size;have z2:=hgr.size;have z3:=h.size;have hok:∀b,o.ownBlock=some b→B≤b∧b<wr.heap.size:=fun b hb=>h.own.lt b hb
 have hset:∀k,k≠b5→(w2.setCell ⟨b5,4,none⟩ v').heap[k]? =w2.heap[k]?:=fun k hk=>iC w2 ⟨b5,4,none⟩ k v' (fun e=>by first|exact hk e|exact hk e.symm)
 have hsz:(w2.setCell ⟨b5,4,none⟩ v').heap.size=w2.heap.size:=by simp
 have h23:∀k,k<wa.heap.size→o.ownBlock≠some k→k≠b5→(w2.setCell ⟨b5,4,none⟩ v').heap[k]? =wa.heap[k]?:=fun k hk hne hn5=>(hset k hn5).trans (hgr.block k hk (fun e=>hne e.symm))
 have hF:∀i,F i→(w2.setCell ⟨b5,4,none⟩ v').heap[i]? =wr.heap[i]?:=fun i hi=>fo200
 refine⟨by simp[h.len],?_,by omega,?_,?_,?_⟩
 · rw[bH,show [x].flatMap hoC=hoC x from by simp];refine hown.kept (ze w2 ⟨b5,4,none⟩ v') ?_;exact fo152
 · refine((h.foot.on ja hF).mono (fun i hi=>Or.inl hi)).imp2 (Q:=x.ok) (((zai hst).on ja (fun i hi=>h23 i hi.2 (fun e=>by have:=(hok i e).2;have:=hi.1;omega) (by have:=hi.1;omega))).mono (fun i hi=>Or.inr hi)) (fun w' a b=>⟨a.1,fun y hy=> ?_⟩);exact fo125
 · exact fo72
 · rw[h.all,bB hj,many,hx];simp only;cases many rdHo (l.drop (j+1)) with
   |none=>rfl
   |some ys=>simp
theorem ChSt.vr{b5 b:Nat}{W0:World→Prop}{l:List (List UInt8)}{xs:List Ho}{cs:List Value}
    (h:ChSt w b5 W0 l j o xs B F wr) (hb:Below wr.heap.size wr wa) (hgr:wa.grownBy w2 o.ownBlock) (hv:Vr wr b cs) (hbB:b<B):Vr w2 b cs:=by
 exact fo112
theorem ChSt.low{b5:Nat}{W0:World→Prop}{l:List (List UInt8)}{xs:List Ho}
    (h:ChSt w b5 W0 l j o xs B F wr) (hB:b5<B) (h5:w.heap.size≤b5) (hw:Below w.heap.size w wr) (hb:Below wr.heap.size wr wa) (hgr:wa.grownBy w2 o.ownBlock):Below w.heap.size w (w2.setCell ⟨b5,4,none⟩ v'):=by
 have h1:=bon hw hb;have h2:Below w.heap.size w w2:=below_grown h1 h1.size hgr (fun g hg=>by have:=(h.own.lt g hg).1;omega);exact zf h2 (ze w2 ⟨b5,4,none⟩ v') h5
theorem held_row{a k n:Nat}{A:Option Addr}{c:Nat}{xs:List Value}(h:W.ownsRow B 147 k (.slice A n c) n xs)(ha:a≤B)(hb:b4<B):Held a b4 (fun W=>Rd W k A n xs) W:=by
 refine⟨fun i=>Value.ownBlock (.slice A n c)=some i,fun w' hs hk=> ?_,fun i hi=>⟨by have:=(h.lt i hi).1;omega,(h.lt i hi).2,by have:=(h.lt i hi).1;omega⟩⟩;refine Rd.own (base:=B) (e:=147) (c:=c) ⟨h.1,?_⟩;exact fo163
theorem ChSt.held{b5:Nat}{W0:World→Prop}{l:List (List UInt8)}{xs:List Ho}(h:ChSt w b5 W0 l j o xs B F wr):Held (w.heap.size+3) b5 (fun W=>W0 W∧∀y∈xs,y.ok W) wr:=
 ⟨F,h.foot,fun i hi=>⟨(h.fin i hi).1,(h.fin i hi).2.1,(h.fin i hi).2.2.1⟩⟩
theorem Held.rowO{a:Nat}{row:Option Nat}{W':World}(h:Held a b4 P W)(hg:W.grownBy W' row)(hq:∀q,row=some q→q<a∨q=b4):Held a b4 P W':=by
 cases row with
 |none=>exact h.below ⟨hg.os,hg.tape,hg.output,hg.size,fun i hi=>hg.block i hi jc⟩
 |some q=>exact h.row hg (hq q rfl)
theorem rkSn_eq(r:Rc){n0:Int}{t1:List UInt8}{t2 t4:List (List UInt8)}{t3:List Sg}(h0:yK 1 r=([n0],r0))(h1:Zf r0=(t1,r1))(h2:yc r1=(t2,r2))(h3:zcD r2=(t3,r3))(h4:yc r3=(t4,r4)) :
    rkSn r=match many rdHo t4 with
     |none=>(⟨0,[],Sl.nil,Sl.nil,Sl.nil⟩,Rc.fail)
     |some hs=>(⟨n0,t1,Sl.of t2,Sl.of t3,Sl.of hs⟩,r4):=by
 unfold rkSn;simp only[h0,h1,h2,h3,h4];rfl
set_option maxRecDepth 100000
set_option maxHeartbeats 8000000
theorem zcN(r:Rc)(w:World)(hl:r.s.length≤268435456) :
    Calls prog 135 #[.agg #[r.s,r.ok]] w (RetRX snC Sn.er Sn.ok (rkSn r) w):=by
 have HTn:=zb6 1 r;obtain⟨n0,hn⟩:=zge _ HTn.1;obtain⟨r0,hr0⟩:∃r0,r0=(yK 1 r).2:=⟨_,rfl⟩;have HT0:Hid (yK 1 r=([n0],r0)):=hD (by rw[hr0,←hn]);have HN64:Hid (∀x∈ [n0],I64 x):=hD jbp;have HL0:Hid (r0.s.length≤268435456):=hD (by rw[hr0];exact ah (zaZ 1 r) hl);clear HTn hn hr0;obtain⟨t1,r1,ht1⟩:∃t s',Zf r0=(t,s'):=⟨_,_,rfl⟩;have HL1:Hid (r1.s.length≤268435456):=hD jba;have HTL1:Hid (t1.length≤268435456):=hD jaw;have HT1:=hD ht1;clear ht1;obtain⟨t2,r2,ht2⟩:∃t s',yc r1=(t,s'):=⟨_,_,rfl⟩;have HL2:Hid (r2.s.length≤268435456):=hD (by have h9:=zaJ r1;rw[ht2]at h9;exact ah h9 HL1);have HTL2:Hid (sum szS t2≤268435456):=hD (by have h9:=(YE r1).1;rw[ht2]at h9;exact ah h9 HL1);have HT2:=hD ht2;clear ht2;obtain⟨t3,r3,ht3⟩:∃t s',zcD r2=(t,s'):=⟨_,_,rfl⟩;have HL3:Hid (r3.s.length≤268435456):=hD (by have h9:=rkSgs_len r2;rw[ht3]at h9;exact ah h9 HL2);have HT3:=hD ht3;clear ht3;obtain⟨t4,r4,ht4⟩:∃t s',yc r3=(t,s'):=⟨_,_,rfl⟩;have HL4:Hid (r4.s.length≤268435456):=hD jdc;have HTL4:Hid (sum szS t4≤268435456):=hD jcv;have HT4:=hD ht4;clear ht4;have HSpec:=hD (rkSn_eq r HT0 HT1 HT2 HT3 HT4);have ht4:t4.length≤268435456:=by have h8:=Yg szS t4 1 zbW;have h9:=HTL4.out;omega
 obtain⟨i0,hi,hz0,hz1,hz2⟩:=info_parts infoHor;have HI:=hD hi;have HZ0:=hD hz0;have HZ1:=hD hz1;have HZ2:=hD hz2;clear hi hz0 hz1 hz2;obtain⟨wa,hwa⟩:∃wa,wa=((w.alloc (.cells (rcC r).toArray 167)).alloc (.cells #[(),"","s","s","s"] 36)).alloc (.cells (rcC Rc.fail).toArray 167):=⟨_,rfl⟩;have HR:Hid (Vr wa w.heap.size (rcC r)):=hD jaq;have HV:Hid (Vr wa (w.heap.size+1) [(),"","s","s","s"]):=hD (by rw[hwa];exact(Vr.new' _ [(),"","s","s","s"] 36 jc).below (za _ _));have HQ:Hid (Vr wa (w.heap.size+2) (rcC Rc.fail)):=hD jfd;have HB:Hid (Below w.heap.size w wa):=hD jaz;have HZa:Hid (wa.heap.size=w.heap.size+3):=hD (by rw[hwa];simp);have hwa2:((w.alloc (.cells #[r.s,r.ok] 167)).alloc (.cells #[(),"","s","s","s"] 36)).alloc (.cells #["",false] 167)=wa:=hwa.symm;have HW:=hD hwa2;clear hwa hwa2;go_in;go_upto_region 1 with fail;rw[HW.out];go_wp2_with (refine ak rfl 167 _ rfl w.heap.size 0 rfl (rcC r) _ HR.range underlying167 rfl (zt r) ?_);refine(zaM r wa hl).mono ?_;rintro e u1 ⟨A,c,he,hst0,hb⟩;rw[HT0.out]at he hst0;obtain rfl:e= .returned (.tuple #[.slice A 1 c,.agg (rcC r0).toArray]):=he;rw[HZa.out]at hst0;have h3:=hb.size;rw[HZa.out]at h3;have HR:=hD (HR.below hb);have HV:=hD (HV.below hb);have HQ:=hD (HQ.below hb);have HB:=hD (bon HB hb);have HRo:=HR;have HV:=hD (HV.grown (zb (b:=w.heap.size) (rcC r0)) ja);have HQ:=hD (HQ.grown (zb (b:=w.heap.size) (rcC r0)) ja);have HB:=hD (zf HB (zb (b:=w.heap.size) (rcC r0)) (ag _));have HN:=hD (hst0.on (zh (zb (b:=w.heap.size) (rcC r0)) ja));have HR:=hD (HR.sets (rcC r0) rfl);clear hb hst0;go_upto_region 2 with(refine ai rfl 167 _ _ rfl w.heap.size 0 (rcC r0).toArray rfl rfl ?_ (zt r0) (zO r0) ?_;· exact HRo.there (n:=2) rfl)
 try simp only[ay]
 clear HRo;generalize u1.setCells w.heap.size 0 (rcC r0)=u2 at HR HV HQ HB HN⊢;have h5:w.heap.size+2<u2.heap.size:=HQ.lt;obtain⟨b,off,hA,hbl,hcc⟩:=yD HN.out.out jc;subst hA;have a0:u2.cell? ⟨b,off,none⟩=some (.int .i64 n0):=hcc 0 _ rfl;have HX:=hD (Vr.new u2 (snC ⟨n0,[],Sl.nil,Sl.nil,Sl.nil⟩) 36);have HR:=hD (HR.below (za u2 (.cells (snC ⟨n0,[],Sl.nil,Sl.nil,Sl.nil⟩).toArray 36)));have HV:=hD (HV.below (za u2 (.cells (snC ⟨n0,[],Sl.nil,Sl.nil,Sl.nil⟩).toArray 36)));have HQ:=hD (HQ.below (za u2 (.cells (snC ⟨n0,[],Sl.nil,Sl.nil,Sl.nil⟩).toArray 36)));have HB:=hD (bon HB (za u2 (.cells (snC ⟨n0,[],Sl.nil,Sl.nil,Sl.nil⟩).toArray 36)));clear hcc hbl HN;go_upto_region 3 with fail;obtain⟨u3,hu3⟩:∃u3,u3=u2.alloc (.cells (snC ⟨n0,[],Sl.nil,Sl.nil,Sl.nil⟩).toArray 36):=⟨_,rfl⟩;rw[←hu3]at HX HR HV HQ HB;change Code.wp _ _ _ _ (u2.alloc (.cells (snC ⟨n0,[],Sl.nil,Sl.nil,Sl.nil⟩).toArray 36));rw[←hu3];generalize u2.heap.size=b5 at HX h5⊢;clear hu3 a0;go_wp2_with (refine ak rfl 167 _ rfl w.heap.size 0 rfl (rcC r0) _ HR.range underlying167 rfl (zt r0) ?_);refine(YD r0 _ HL0).mono ?_;rintro e u4 ⟨he,hb⟩;rw[HT1.out]at he;obtain rfl:e= .returned (.tuple #[t1,.agg (rcC r1).toArray]):=he;have HR:=hD (HR.below hb);have HX:=hD (HX.below hb);have HV:=hD (HV.below hb);have HQ:=hD (HQ.below hb);have HB:=hD (bon HB hb);clear hb;have cx:=HX.cells 1 _ rfl;have fx:=HX.free 1 (az rfl);have lx:=HX.lt;have HR:=hD (HR.grown (ze u4 ⟨b5,1,none⟩ (.string ⟨t1.toArray⟩)) jad);have HX:=hD ((HX.set 1 (.string ⟨t1.toArray⟩)).eq (cs':=snC ⟨n0,t1,Sl.nil,Sl.nil,Sl.nil⟩) rfl);have HV:=hD (HV.grown (ze u4 ⟨b5,1,none⟩ (.string ⟨t1.toArray⟩)) jax);have HQ:=hD (HQ.grown (ze u4 ⟨b5,1,none⟩ (.string ⟨t1.toArray⟩)) jay);have HB:=hD (zf HB (ze u4 ⟨b5,1,none⟩ (.string ⟨t1.toArray⟩)) jaj);have HRo:=HR;have HR:=hD (HR.sets (rcC r1) rfl);have HX:=hD (HX.grown (zb (w:=(u4.setCell ⟨b5,1,none⟩ (.string ⟨t1.toArray⟩))) (b:=w.heap.size) (rcC r1)) jbd);have HV:=hD (HV.grown (zb (w:=(u4.setCell ⟨b5,1,none⟩ (.string ⟨t1.toArray⟩))) (b:=w.heap.size) (rcC r1)) jag);have HQ:=hD (HQ.grown (zb (w:=(u4.setCell ⟨b5,1,none⟩ (.string ⟨t1.toArray⟩))) (b:=w.heap.size) (rcC r1)) jah);have HB:=hD (zf HB (zb (w:=(u4.setCell ⟨b5,1,none⟩ (.string ⟨t1.toArray⟩))) (b:=w.heap.size) (rcC r1)) jan);go_upto_region 4 with(first|(refine ai rfl 167 _ _ rfl w.heap.size 0 (rcC r1).toArray rfl rfl ?_ (zt r1) (zO r1) ?_;· exact HRo.there (n:=2) rfl))
 try simp only[ay]
 clear HRo cx fx lx;generalize ((u4.setCell ⟨b5,1,none⟩ (.string ⟨t1.toArray⟩)).setCells w.heap.size 0 (rcC r1))=u5 at HR HX HV HQ HB⊢;go_wp2_with (refine ak rfl 167 _ rfl w.heap.size 0 rfl (rcC r1) _ HR.range underlying167 rfl (zt r1) ?_);refine(Yo r1 _ HL1).mono ?_;rintro e u6 ⟨a2,c2,he,hst,hb⟩;rw[HT2.out]at he hst;obtain rfl:e= .returned (.tuple #[.slice a2 t2.length c2,.agg (rcC r2).toArray]):=he;have HR2:=hD (yI (a:=w.heap.size+3) (b4:=b5) hst jbf (Or.inl HX.lt));have HR:=hD (HR.below hb);have HX:=hD (HX.below hb);have HV:=hD (HV.below hb);have HQ:=hD (HQ.below hb);have HB:=hD (bon HB hb);clear hst;clear hb;have cx:=HX.cells 2 _ rfl;have fx:=HX.free 2 (az rfl);have lx:=HX.lt;have HR:=hD (HR.grown (ze u6 ⟨b5,2,none⟩ (.slice a2 t2.length c2)) jad);have HX:=hD ((HX.set 2 (.slice a2 t2.length c2)).eq (cs':=snC ⟨n0,t1,⟨a2,c2,t2⟩,Sl.nil,Sl.nil⟩) rfl);have HV:=hD (HV.grown (ze u6 ⟨b5,2,none⟩ (.slice a2 t2.length c2)) jax);have HQ:=hD (HQ.grown (ze u6 ⟨b5,2,none⟩ (.slice a2 t2.length c2)) jay);have HB:=hD (zf HB (ze u6 ⟨b5,2,none⟩ (.slice a2 t2.length c2)) jaj);have HR2:=hD (HR2.row (ze u6 ⟨b5,2,none⟩ (.slice a2 t2.length c2)) jas);have HRo:=HR;have HR:=hD (HR.sets (rcC r2) rfl);have HX:=hD (HX.grown (zb (w:=(u6.setCell ⟨b5,2,none⟩ (.slice a2 t2.length c2))) (b:=w.heap.size) (rcC r2)) jbd);have HV:=hD (HV.grown (zb (w:=(u6.setCell ⟨b5,2,none⟩ (.slice a2 t2.length c2))) (b:=w.heap.size) (rcC r2)) jag);have HQ:=hD (HQ.grown (zb (w:=(u6.setCell ⟨b5,2,none⟩ (.slice a2 t2.length c2))) (b:=w.heap.size) (rcC r2)) jah);have HB:=hD (zf HB (zb (w:=(u6.setCell ⟨b5,2,none⟩ (.slice a2 t2.length c2))) (b:=w.heap.size) (rcC r2)) jan);have HR2:=hD (HR2.row (zb (w:=(u6.setCell ⟨b5,2,none⟩ (.slice a2 t2.length c2))) (b:=w.heap.size) (rcC r2)) jaa);go_upto_region 5 with(first|(refine ai rfl 167 _ _ rfl w.heap.size 0 (rcC r2).toArray rfl rfl ?_ (zt r2) (zO r2) ?_;· exact HRo.there (n:=2) rfl))
 try simp only[ay]
 clear HRo cx fx lx;generalize ((u6.setCell ⟨b5,2,none⟩ (.slice a2 t2.length c2)).setCells w.heap.size 0 (rcC r2))=u7 at HR HX HV HQ HB HR2⊢;go_wp2_with (refine ak rfl 167 _ rfl w.heap.size 0 rfl (rcC r2) _ HR.range underlying167 rfl (zt r2) ?_);refine(zbn r2 _ HL2).mono ?_;rintro e u8 ⟨a3,c3,he,hst,hb⟩;rw[HT3.out]at he hst;obtain rfl:e= .returned (.tuple #[.slice a3 t3.length c3,.agg (rcC r3).toArray]):=he;have HR3:=hD (yI (a:=w.heap.size+3) (b4:=b5) hst jbf (Or.inl HX.lt));have HR:=hD (HR.below hb);have HX:=hD (HX.below hb);have HV:=hD (HV.below hb);have HQ:=hD (HQ.below hb);have HB:=hD (bon HB hb);have HR2:=hD (HR2.below hb);clear hst;clear hb;have cx:=HX.cells 3 _ rfl;have fx:=HX.free 3 (az rfl);have lx:=HX.lt;have HR:=hD (HR.grown (ze u8 ⟨b5,3,none⟩ (.slice a3 t3.length c3)) jad);have HX:=hD ((HX.set 3 (.slice a3 t3.length c3)).eq (cs':=snC ⟨n0,t1,⟨a2,c2,t2⟩,⟨a3,c3,t3⟩,Sl.nil⟩) rfl);have HV:=hD (HV.grown (ze u8 ⟨b5,3,none⟩ (.slice a3 t3.length c3)) jax);have HQ:=hD (HQ.grown (ze u8 ⟨b5,3,none⟩ (.slice a3 t3.length c3)) jay);have HB:=hD (zf HB (ze u8 ⟨b5,3,none⟩ (.slice a3 t3.length c3)) jaj);have HR2:=hD (HR2.row (ze u8 ⟨b5,3,none⟩ (.slice a3 t3.length c3)) jas);have HR3:=hD (HR3.row (ze u8 ⟨b5,3,none⟩ (.slice a3 t3.length c3)) jas);have HRo:=HR;have HR:=hD (HR.sets (rcC r3) rfl);have HX:=hD (HX.grown (zb (w:=(u8.setCell ⟨b5,3,none⟩ (.slice a3 t3.length c3))) (b:=w.heap.size) (rcC r3)) jbd);have HV:=hD (HV.grown (zb (w:=(u8.setCell ⟨b5,3,none⟩ (.slice a3 t3.length c3))) (b:=w.heap.size) (rcC r3)) jag);have HQ:=hD (HQ.grown (zb (w:=(u8.setCell ⟨b5,3,none⟩ (.slice a3 t3.length c3))) (b:=w.heap.size) (rcC r3)) jah);have HB:=hD (zf HB (zb (w:=(u8.setCell ⟨b5,3,none⟩ (.slice a3 t3.length c3))) (b:=w.heap.size) (rcC r3)) jan);have HR2:=hD (HR2.row (zb (w:=(u8.setCell ⟨b5,3,none⟩ (.slice a3 t3.length c3))) (b:=w.heap.size) (rcC r3)) jaa);have HR3:=hD (HR3.row (zb (w:=(u8.setCell ⟨b5,3,none⟩ (.slice a3 t3.length c3))) (b:=w.heap.size) (rcC r3)) jaa);go_upto_region 6 with(first|(refine ai rfl 167 _ _ rfl w.heap.size 0 (rcC r3).toArray rfl rfl ?_ (zt r3) (zO r3) ?_;· exact HRo.there (n:=2) rfl))
 try simp only[ay]
 clear HRo cx fx lx;generalize ((u8.setCell ⟨b5,3,none⟩ (.slice a3 t3.length c3)).setCells w.heap.size 0 (rcC r3))=u9 at HR HX HV HQ HB HR2 HR3⊢;go_wp2_with (refine ak rfl 167 _ rfl w.heap.size 0 rfl (rcC r3) _ HR.range underlying167 rfl (zt r3) ?_);refine(Yo r3 _ HL3).mono ?_;rintro e u10 ⟨a4,c4,he,hst,hb⟩;rw[HT4.out]at he hst;obtain rfl:e= .returned (.tuple #[.slice a4 t4.length c4,.agg (rcC r4).toArray]):=he;have HR4:=hD (yI (a:=w.heap.size+3) (b4:=b5) hst jbf (Or.inl HX.lt));have HR:=hD (HR.below hb);have HX:=hD (HX.below hb);have HV:=hD (HV.below hb);have HQ:=hD (HQ.below hb);have HB:=hD (bon HB hb);have HR2:=hD (HR2.below hb);have HR3:=hD (HR3.below hb);clear hst hb;have HRo:=HR;have HR:=hD (HR.sets (rcC r4) rfl);have HX:=hD (HX.grown (zb (w:=u10) (b:=w.heap.size) (rcC r4)) jbd);have HV:=hD (HV.grown (zb (w:=u10) (b:=w.heap.size) (rcC r4)) jag);have HQ:=hD (HQ.grown (zb (w:=u10) (b:=w.heap.size) (rcC r4)) jah);have HB:=hD (zf HB (zb (w:=u10) (b:=w.heap.size) (rcC r4)) jan);have HR2:=hD (HR2.row (zb (w:=u10) (b:=w.heap.size) (rcC r4)) jaa);have HR3:=hD (HR3.row (zb (w:=u10) (b:=w.heap.size) (rcC r4)) jaa);have HR4:=hD (HR4.row (zb (w:=u10) (b:=w.heap.size) (rcC r4)) jaa);go_upto_region 7 with(refine ai rfl 167 _ _ rfl w.heap.size 0 (rcC r4).toArray rfl rfl ?_ (zt r4) (zO r4) ?_;· exact HRo.there (n:=2) rfl)
 try simp only[ay]
 clear HRo;generalize (u10.setCells w.heap.size 0 (rcC r4))=u11 at HR HX HV HQ HB HR2 HR3 HR4⊢;have hStart:=ChSt.start (l:=t4) (W0:=(fun W=>(Rd W 1 a2 t2.length (strC t2)∧(Rd W 6 a3 t3.length (t3.flatMap sgC)∧∀y∈t3,y.ok))∧Rd W 1 a4 t4.length (strC t4))) ((HR2.and HR3).and HR4) rfl;obtain⟨F0,hF0⟩:=hStart;have hB5:=HX.lt;have hB3:w.heap.size+3≤u11.heap.size:=by have:=HQ.lt;omega
 have HX:=hD (HX.eq (cs':=[n0,t1,.slice a2 t2.length c2,.slice a3 t3.length c3,(.slice none 0 0)]) rfl);generalize hBe:u11.heap.size=B at hF0 hB5 hB3;clear hBe HR2 HR3 HR4;have HF0:=hD hF0;clear hF0;have h5a:w.heap.size+3≤b5:=by omega
 go_wp2_with fail;go_loopw [7] (fun i wr=>∃(j:Nat) (o:Value) (xs:List Ho) (F:Nat→Prop),i= .int .i64 j∧j≤t4.length∧ChSt w b5 (fun W=>(Rd W 1 a2 t2.length (strC t2)∧(Rd W 6 a3 t3.length (t3.flatMap sgC)∧∀y∈t3,y.ok))∧Rd W 1 a4 t4.length (strC t4)) t4 j o xs B F wr∧Vr wr w.heap.size (rcC r4)∧Vr wr b5 [n0,t1,.slice a2 t2.length c2,.slice a3 t3.length c3,o]∧Vr wr (w.heap.size+1) [(),"","s","s","s"]∧Vr wr (w.heap.size+2) (rcC Rc.fail)∧Below w.heap.size w wr) (fun i _=>t4.length-(intOf i).toNat)
 case atStart=>exact⟨0,_,_,_,rfl,by omega,HF0,HR,HX,HV,HQ,HB⟩
 case round=>
  obtain⟨j,o,xs,F,rfl,hj,hCh,hR,hX,hV,hQ,hB0⟩:=hrel;have HCh:=hD hCh;have HR:=hD hR;have HX:=hD hX;have HV:=hD hV;have HQ:=hD hQ;have HB:=hD hB0;clear hCh hR hX hV hQ hB0;by_cases hlt1:j<t4.length
  · have hok4:r4.ok=true:=by
      cases h:r4.ok with
      |true=>rfl
      |false=>
       have h9:=rkTexts_bad r3 (by rw[HT4.out];exact h);rw[HT4.out]at h9;have h8:t4=[]:=h9;rw[h8]at hlt1;simp at hlt1
    have i0':(0:Int)≤(j:Int):=by omega
    have i1:(j:Int) <(t4.length:Int):=by omega
    obtain⟨b,off,hA,hbl,hcc⟩:=(HCh.foot.out.1.2).cells jcl;subst hA;obtain⟨t,ht⟩:∃t,t=t4[j]:=⟨_,rfl⟩;have a0:wr.cell? ⟨b,off+j,none⟩=some (.string ⟨t.toArray⟩):=hcc j _ (by unfold strC;rw[bT,aP hlt1,ht];rfl);have cR:wr.cell? ⟨w.heap.size,1,none⟩=some (.bool true):=by have h9:=HR.cells 1 _ rfl;rw[hok4]at h9;exact h9
    have lR:=HR.lt;have HCC:Hid (∀W,Below wr.heap.size wr W→W.cell? ⟨b,off+j,none⟩=some (.string ⟨t.toArray⟩)∧W.cell? ⟨w.heap.size,1,none⟩=some (.bool true)):=hD (fun W hW=>⟨(hW.cell (p:=⟨b,off+j,none⟩) hbl).trans a0,(hW.cell (p:=⟨w.heap.size,1,none⟩) lR).trans cR⟩);have htl:t.length≤268435456:=by have h8:=Zv szS t4 t (ht▸aH hlt1);have h9:=HTL4.out;unfold szS at h8 h9;omega
    have HTn:=zb6 1 ⟨t,true⟩;obtain⟨k0,hk⟩:=zge _ HTn.1;obtain⟨q1,hq1⟩:∃q,q=(yK 1 ⟨t,true⟩).2:=⟨_,rfl⟩;have HTi:Hid (yK 1 ⟨t,true⟩=([k0],q1)):=hD (by rw[hq1,←hk]);have HK64:Hid (I64 k0):=hD (by have h9:=HTn.2;rw[hk]at h9;exact h9 k0 jc);have HLq:Hid (q1.s.length≤268435456):=hD (by rw[hq1];exact ah (zaZ 1 ⟨t,true⟩) htl);obtain⟨d,q2,hy2⟩:∃d q2,rkDe q1=(d,q2):=⟨_,_,rfl⟩;have HTy:=hD hy2;have HTq:Hid (rkHo ⟨t,true⟩=(⟨k0,d⟩,q2)):=hD (by
     unfold rkHo Zl zej;simp only[HTi.out,HTy.out];rfl)
    have HTt:=hD ht;have HDr:Hid (t4.drop j=t::t4.drop (j+1)):=hD jeb;clear ht hcc hbl hq1 hk HTn hy2 hok4;go_wp2_with fail;refine aD ?_;have HBr:Hid (Below wr.heap.size wr wr.drew):=hD (ae _ _).drew;generalize hv:wr.drew=v at HBr;have hC:=HCC.out v HBr.out;have hsz:wr.heap.size≤v.heap.size:=HBr.size;refine aC (S:=fun W=>W.cell? ⟨b,off+j,none⟩=some (.string ⟨t.toArray⟩)∧W.cell? ⟨w.heap.size,1,none⟩=some (.bool true)) jb jar (fun hHeld=> ?_);rw[hv]at hHeld⊢;clear hv;refine takes [0,1,2,3,4,5,6] ?_;refine bG (rs:=[7,11]) jb jc ?_;refine aX (o:=_) rfl (fun K hK=> ?_) ?_
    · go_simp;go_at_call 129;refine(zaM ⟨t,true⟩ v htl).mono ?_;rintro e w9 ⟨A9,c9,he,hst,hb⟩;rw[HTi.out]at he hst;obtain rfl:e= .returned (.tuple #[.slice A9 1 c9,.agg (rcC q1).toArray]):=he;have HN9:=hD (yI (a:=wr.heap.size) (b4:=w9.heap.size) hst hsz (Or.inr (ag _)));have HBr:=hD (bon HBr hb);clear hst hb;have hC2:=HCC.out w9 HBr.out;go_wp2_with fail;refine hK.out _ _ hC2 (fun hHeld=> ?_);clear hK K;try simp only[Act.put,qk1,qk2,qk3,qk4,qk5,qk6]
      refine takes [8,9,10] ?_;refine tkr 11 rfl (fun K hK=> ?_);go_simp;have H9:Hid (Vr (w9.alloc (.cells #["",false] 167)) w9.heap.size ["",false]):=hD (Vr.new _ _ _);have hb9:wr.heap.size≤w9.heap.size:=HBr.size;have HBr:=hD (bon HBr (za w9 (.cells #["",false] 167)));have HN9:=hD (HN9.below (za w9 (.cells #["",false] 167)));generalize w9.alloc (.cells #["",false] 167)=w95 at H9 HBr HN9⊢;generalize hb9e:w9.heap.size=b9 at H9 hb9 HN9⊢;clear hb9e;have hC3:=HCC.out w95 HBr.out;refine hK.out _ _ hC3 (fun hHeld=> ?_);clear hK K;try simp only[Act.put,qk1,qk2,qk3,qk4,qk5,qk6]
      refine takes [12] ?_;refine tkr 13 rfl (fun K hK=> ?_);rw[af ji];refine aQ 167 _ _ rfl b9 0 (rcC q1).toArray rfl rfl (H9.there (n:=2) rfl) (zt q1) (zO q1) ?_;try simp only[]
      have HBr:=hD (zf HBr (zb (b:=b9) (rcC q1)) hb9);have HN9:=hD (HN9.row (zb (b:=b9) (rcC q1)) (Or.inr rfl));have H9:=hD (H9.sets (rcC q1) rfl);generalize w95.setCells b9 0 (rcC q1)=w10 at HBr HN9 H9⊢;exact fo0
    refine aX (o:=_) rfl (fun K hK=> ?_) bD;go_simp;have H9:Hid (Vr (v.alloc (.cells #["",false] 167)) v.heap.size ["",false]):=hD (Vr.new _ _ _);have hb9:wr.heap.size≤v.heap.size:=HBr.size;have HBr:=hD (bon HBr (za v (.cells #["",false] 167)));generalize v.alloc (.cells #["",false] 167)=v2 at H9 HBr⊢;generalize hb9e:v.heap.size=b9 at H9 hb9⊢;clear hb9e;have hC2:=HCC.out v2 HBr.out;refine hK.out _ _ hC2 (fun hHeld=> ?_);clear hK K;try simp only[Act.put,qk1,qk2,qk3,qk4,qk5,qk6]
    refine tkr 7 rfl (fun K hK=> ?_);have hz2:wr.heap.size≤v2.heap.size:=HBr.size;go_simp;go_at_call 129;refine(zaM ⟨t,true⟩ v2 htl).mono ?_;rintro e w9 ⟨A9,c9,he,hst,hb⟩;rw[HTi.out]at he hst;obtain rfl:e= .returned (.tuple #[.slice A9 1 c9,.agg (rcC q1).toArray]):=he;have HN9:=hD (yI (a:=wr.heap.size) (b4:=b9) hst hz2 (Or.inl H9.lt));have HBr:=hD (bon HBr hb);have H9:=hD (H9.below hb);clear hst hb hz2;have hC3:=HCC.out w9 HBr.out;go_wp2_with fail;refine hK.out _ _ hC3 (fun hHeld=> ?_);clear hK K;try simp only[Act.put,qk1,qk2,qk3,qk4,qk5,qk6]
    refine takes [8,9,10,12] ?_;refine tkr 13 rfl (fun K hK=> ?_);rw[af ji];refine aQ 167 _ _ rfl b9 0 (rcC q1).toArray rfl rfl (H9.there (n:=2) rfl) (zt q1) (zO q1) ?_;try simp only[]
    have HBr:=hD (zf HBr (zb (b:=b9) (rcC q1)) hb9);have HN9:=hD (HN9.row (zb (b:=b9) (rcC q1)) (Or.inr rfl));have H9:=hD (H9.sets (rcC q1) rfl);generalize w9.setCells b9 0 (rcC q1)=w10 at HBr HN9 H9⊢;exact fo0
  · obtain rfl:j=t4.length:=by omega
    have HS:Hid (rkSn r=(⟨n0,t1,Sl.of t2,Sl.of t3,Sl.of (xs.map Ho.er)⟩,r4)):=hD (by rw[HSpec.out,HCh.out.all,df,many];simp);obtain⟨ao,co,hv⟩:=ownsRow_form HCh.own;subst hv;have HLn:=hD HCh.len;have HHe:=hD HCh.held;have HRow:=hD (held_row HCh.own hB3 hB5);have HX:=hD (HX.eq (cs':=snC ⟨n0,t1,⟨a2,c2,t2⟩,⟨a3,c3,t3⟩,⟨ao,co,xs⟩⟩) (by unfold snC Sl.v;rw[HLn.out]));have HSpec:=HS;clear HCh HS HTL4 i0 HI HZ0 HZ1 HZ2 HF0;go_wp2_with fail;refine aD ?_;have HR:=hD (HR.below (ae _ _).drew);have HX:=hD (HX.below (ae _ _).drew);have HV:=hD (HV.below (ae _ _).drew);have HQ:=hD (HQ.below (ae _ _).drew);have HB:=hD (HB.drew);have HHe:=hD (HHe.below (ae _ _).drew);have HRow:=hD (HRow.below (ae _ _).drew);generalize hv:wr.drew=v at HR HX HV HQ HB HHe HRow;refine aC (S:=fun W=>W.rangeAt b5 0 (snC ⟨n0,t1,⟨a2,c2,t2⟩,⟨a3,c3,t3⟩,⟨ao,co,xs⟩⟩)∧W.rangeAt w.heap.size 0 (rcC r4)) jb jde (fun hHeld=> ?_);rw[hv]at hHeld⊢;clear hv;refine tkq 0 rfl (aM ji 36 _ ji _ 0 ji (snC ⟨n0,t1,⟨a2,c2,t2⟩,⟨a3,c3,t3⟩,⟨ao,co,xs⟩⟩) _ (fun _ h=>h.1) underlying36 rfl (ZC ⟨n0,t1,⟨a2,c2,t2⟩,⟨a3,c3,t3⟩,⟨ao,co,xs⟩⟩)) je ?_;try simp only[Act.put,qk1,qk2,qk3,qk4,qk6]
    refine tkq 1 rfl (aM ji 167 _ ji _ 0 ji (rcC r4) _ (fun _ h=>h.2) underlying167 rfl (zt r4)) je ?_;try simp only[Act.put,qk1,qk2,qk3,qk4,qk5,qk6]
    refine tkr 2 rfl (fun K hK=> ?_);rw[af ji];refine aQ 36 _ _ rfl (w.heap.size+1) 0 (snC ⟨n0,t1,⟨a2,c2,t2⟩,⟨a3,c3,t3⟩,⟨ao,co,xs⟩⟩).toArray rfl rfl (HV.there rfl) (ZC ⟨n0,t1,⟨a2,c2,t2⟩,⟨a3,c3,t3⟩,⟨ao,co,xs⟩⟩) (zac ⟨n0,t1,⟨a2,c2,t2⟩,⟨a3,c3,t3⟩,⟨ao,co,xs⟩⟩) ?_;try simp only[]
    have HR:=hD (HR.grown (zb (w:=v) (b:=(w.heap.size+1)) (snC ⟨n0,t1,⟨a2,c2,t2⟩,⟨a3,c3,t3⟩,⟨ao,co,xs⟩⟩)) jdh);have HX:=hD (HX.grown (zb (w:=v) (b:=(w.heap.size+1)) (snC ⟨n0,t1,⟨a2,c2,t2⟩,⟨a3,c3,t3⟩,⟨ao,co,xs⟩⟩)) jeh);have HV:=hD (HV.sets (snC ⟨n0,t1,⟨a2,c2,t2⟩,⟨a3,c3,t3⟩,⟨ao,co,xs⟩⟩) rfl);have HQ:=hD (HQ.grown (zb (w:=v) (b:=(w.heap.size+1)) (snC ⟨n0,t1,⟨a2,c2,t2⟩,⟨a3,c3,t3⟩,⟨ao,co,xs⟩⟩)) jcr);have HB:=hD (zf HB (zb (w:=v) (b:=(w.heap.size+1)) (snC ⟨n0,t1,⟨a2,c2,t2⟩,⟨a3,c3,t3⟩,⟨ao,co,xs⟩⟩)) jdi);have HHe:=hD (HHe.row (zb (w:=v) (b:=(w.heap.size+1)) (snC ⟨n0,t1,⟨a2,c2,t2⟩,⟨a3,c3,t3⟩,⟨ao,co,xs⟩⟩)) jak);have HRow:=hD (HRow.row (zb (w:=v) (b:=(w.heap.size+1)) (snC ⟨n0,t1,⟨a2,c2,t2⟩,⟨a3,c3,t3⟩,⟨ao,co,xs⟩⟩)) jak);generalize v.setCells (w.heap.size+1) 0 (snC ⟨n0,t1,⟨a2,c2,t2⟩,⟨a3,c3,t3⟩,⟨ao,co,xs⟩⟩)=v5 at HR HX HV HQ HB HHe HRow⊢;refine hK.out _ _ ⟨HX.range,HR.range⟩ (fun hHeld=> ?_);clear hK K;try simp only[Act.put,qk4,qk5,qk6]
    refine tkr 3 rfl (fun K hK=> ?_);rw[af ji];refine aQ 167 _ _ rfl (w.heap.size+2) 0 (rcC r4).toArray rfl rfl (HQ.there (n:=2) rfl) (zt r4) (zO r4) ?_;try simp only[]
    have HR:=hD (HR.grown (zb (w:=v5) (b:=(w.heap.size+2)) (rcC r4)) jdj);have HX:=hD (HX.grown (zb (w:=v5) (b:=(w.heap.size+2)) (rcC r4)) jei);have HV:=hD (HV.grown (zb (w:=v5) (b:=(w.heap.size+2)) (rcC r4)) jcs);have HQ:=hD (HQ.sets (rcC r4) rfl);have HB:=hD (zf HB (zb (w:=v5) (b:=(w.heap.size+2)) (rcC r4)) jdk);have HHe:=hD (HHe.row (zb (w:=v5) (b:=(w.heap.size+2)) (rcC r4)) jal);have HRow:=hD (HRow.row (zb (w:=v5) (b:=(w.heap.size+2)) (rcC r4)) jal);generalize v5.setCells (w.heap.size+2) 0 (rcC r4)=v6 at HR HX HV HQ HB HHe HRow⊢;refine hK.out _ _ ⟨HX.range,HR.range⟩ (fun hHeld=> ?_);clear hK K;try simp only[Act.put,qk4,qk5,qk6]
    refine aB jb ?_ _;refine aA ?_;go_wp2_with fail;refine aj (v:= .tuple #[.agg (snC ⟨n0,t1,⟨a2,c2,t2⟩,⟨a3,c3,t3⟩,⟨ao,co,xs⟩⟩).toArray,.agg (rcC r4).toArray]) ?_ rfl (zfe (x:=⟨n0,t1,⟨a2,c2,t2⟩,⟨a3,c3,t3⟩,⟨ao,co,xs⟩⟩) HSpec rfl ?_ ?_ HB)
    · exact ZQ results135 _ _ ((w.heap.size+1)) ((w.heap.size+2)) (snC ⟨n0,t1,⟨a2,c2,t2⟩,⟨a3,c3,t3⟩,⟨ao,co,xs⟩⟩) (rcC r4) _ _ rfl rfl HV.range HQ.range underlying36 rfl (ZC ⟨n0,t1,⟨a2,c2,t2⟩,⟨a3,c3,t3⟩,⟨ao,co,xs⟩⟩) underlying167 rfl (zt r4)
    · show Sn.mk n0 t1 (Sl.er ⟨a2,c2,t2⟩) (Sl.er ⟨a3,c3,t3⟩) (Sl.of (xs.map Ho.er))=_;rfl
    · exact fun W hW=>⟨HN64 n0 jc,by have h9:=(HHe.stays.low ja W hW).1.1.1;show Rd W 1 a2 t2.length (t2.flatMap strV);rw[zbg];exact h9,(HHe.stays.low ja W hW).1.1.2,by have h9:=HRow.stays.low ja W hW;show Rd W 4 ao xs.length (xs.flatMap hoC);rw[HLn.out];exact h9,(HHe.stays.low ja W hW).2⟩
theorem zfp{α:Type}{p:Pr α}{f:Rc→α × Rc}(h:Al2 p f)(t:List UInt8):whole p t=if(f ⟨t,true⟩).2.fine then some (f ⟨t,true⟩).1 else none:=by
 unfold whole;cases hp:p t with
 |none=>rw[h.none t hp];rfl
 |some y=>
  obtain⟨x,q⟩:=y;rw[h.some t x q hp];cases q with
  |nil=>rfl
  |cons a b=>rfl
def rkSn2:Rc→Sn × Rc:=Zl (yK 1) fun n=>Zl Zf fun a=>Zl yc fun ch=>Zl zcD fun p=>Zl (rk (Ya rdHo) []) fun c=>zej ⟨n.getD 0 0,a,Sl.of ch,Sl.of p,Sl.of c⟩
theorem al2_sn2:Al2 rdSn rkSn2:=yX (Ym _ _) fun _=>yX (Ym _ _) fun _=>yX (Ym _ _) fun _=>yX (Ym _ _) fun _=>yX (Ym _ _) fun _=>zfq _
theorem rkSn_alt(r:Rc):rkSn r=rkSn2 r∨((rkSn r).2=Rc.fail∧(rkSn2 r).2=Rc.fail):=by
 obtain⟨n,r0,h0⟩:∃t s',yK 1 r=(t,s'):=⟨_,_,rfl⟩;obtain⟨a,r1,h1⟩:∃t s',Zf r0=(t,s'):=⟨_,_,rfl⟩;obtain⟨c,r2,h2⟩:∃t s',yc r1=(t,s'):=⟨_,_,rfl⟩;obtain⟨p,r3,h3⟩:∃t s',zcD r2=(t,s'):=⟨_,_,rfl⟩;unfold rkSn rkSn2 Zl zej;simp only[h0,h1,h2,h3];obtain⟨s,b⟩:=r3;cases b with
 |false=>exact Or.inl rfl
 |true=>
  unfold yc rk Ya;simp only[aW];cases h:Zn s with
  |none=>exact Or.inl rfl
  |some y=>
   obtain⟨l,q⟩:=y;simp only;cases many rdHo l with
   |none=>exact Or.inr ⟨rfl,rfl⟩
   |some hs=>exact Or.inl rfl
theorem al2_sn:Al2 rdSn rkSn where
 bad:=by
  rcases rkSn_alt Rc.fail with h|h
  · rw[h];exact al2_sn2.bad
  · exact h.1
 none s hn:=by
  rcases rkSn_alt ⟨s,true⟩with h|h
  · rw[h];exact al2_sn2.none s hn
  · exact h.1
 some s x r hn:=by
  have h9:=al2_sn2.some s x r hn;rcases rkSn_alt ⟨s,true⟩with h|h
  · rw[h];exact h9
  · have h8:=h.2;rw[h9]at h8;have h7:(true:Bool)=false:=aL Rc.ok h8;cases h7
structure Raw where
 n:List Int
 a:List UInt8
 g:Sg
 l1:List (List UInt8)
 l2:List (List UInt8)
 t:List UInt8
 tx:List (List UInt8)
def Raw.ms(y:Raw)(ss:List St)(es:List De)(x:Sn):Ms:=⟨y.n.getD 0 0,y.n.getD 1 0,y.n.getD 2 0,y.n.getD 3 0,y.n.getD 4 0,y.a,y.n.getD 5 0,y.g,Sl.of ss,Sl.of es,x,Sl.of y.tx⟩
def rdRaw:Pr Raw:=(Zc 6).then fun n=>Zb.then fun a=>(za7 rdSg).then fun g=>Zn.then fun l1=>Zn.then fun l2=>Zb.then fun t=>Zn.then fun tx=>Pr.ret ⟨n,a,g,l1,l2,t,tx⟩
def rkRaw:Rc→Raw × Rc:=Zl (yK 6) fun n=>Zl Zf fun a=>Zl zdI fun g=>Zl yc fun l1=>Zl yc fun l2=>Zl Zf fun t=>Zl yc fun tx=>zej ⟨n,a,g,l1,l2,t,tx⟩
theorem al2_raw:Al2 rdRaw rkRaw:=yX (Ym _ _) fun _=>yX (Ym _ _) fun _=>yX (Ym _ _) fun _=>yX (Ym _ _) fun _=>yX (Ym _ _) fun _=>yX (Ym _ _) fun _=>yX (Ym _ _) fun _=>zfq _
theorem rdMs_raw(s:List UInt8):rdMs s=match rdRaw s with
    |none=>none
    |some (y,q)=>match many rdSt y.l1 with
     |none=>none
     |some ss=>match many rdDe y.l2 with
      |none=>none
      |some es=>match whole rdSn y.t with
       |none=>none
       |some x=>some (y.ms ss es x,q):=by
 unfold rdMs rdRaw Pr.then Pr.ret;cases Zc 6 s with
 |none=>rfl
 |some y0=>
 obtain⟨n,q0⟩:=y0;simp only;cases Zb q0 with
 |none=>rfl
 |some y1=>
 obtain⟨a,q1⟩:=y1;simp only;cases za7 rdSg q1 with
 |none=>rfl
 |some y2=>
 obtain⟨g,q2⟩:=y2;simp only[Ya];cases Zn q2 with
 |none=>rfl
 |some y3=>
 obtain⟨l1,q3⟩:=y3;simp only;cases h4:Zn q3 with
 |none=>cases many rdSt l1 <;> simp[h4]
 |some y4=>
 obtain⟨l2,q4⟩:=y4;simp only[za7];cases h5:Zb q4 with
 |none=>cases hs:many rdSt l1 <;> cases he:many rdDe l2 <;> simp[h4,h5,he]
 |some y5=>
 obtain⟨t,q5⟩:=y5;simp only;cases h6:Zn q5 with
 |none=>cases hs:many rdSt l1 <;> cases he:many rdDe l2 <;> cases hx:whole rdSn t <;> simp[h4,h5,h6,he,hx]
 |some y6=>
 obtain⟨tx,q6⟩:=y6;cases hs:many rdSt l1 <;> cases he:many rdDe l2 <;> cases hx:whole rdSn t <;> simp[h4,h5,h6,hs,he,hx,Raw.ms]
def allD:List (List UInt8)→Option (List St)
 | []=>some []
 |t::r=>match zcv t with
  |none=>none
  |some x=>match allD r with
   |none=>none
   |some l=>some (x::l)
theorem allD_many(l:List (List UInt8)):match many rdSt l with
    |none=>allD l=none
    |some ss=>allD l=if(ss.all fun x=>vSt x == 0)=true then some ss else none:=by
 induction l with
 |nil=>rfl
 |cons t r ih=>
  unfold many allD zcv;cases h:whole rdSt t with
  |none=>rfl
  |some x=>
   simp only;cases h2:many rdSt r with
   |none=>
    rw[h2]at ih;simp only at ih⊢;by_cases hv:vSt x=0
    · rw[af hv,ih]
    · rw[aa hv]
   |some ss=>
    rw[h2]at ih;simp only at ih⊢;by_cases hv:vSt x=0
    · rw[af hv,ih];simp only[eu,hv,beq_self_eq_true,bS];split
      · next h3=>split at h3 <;> simp_all
      · next l h3=>split at h3 <;> simp_all
    · rw[aa hv];simp[hv]
theorem vMs_st{m:Ms}(h:vMs m=0):(m.statuses.l.all fun x=>vSt x == 0)=true:=by
 unfold vMs at h;split at h
 · simp at h
 split at h
 · simp at h
 split at h
 · simp at h
 split at h
 · simp at h
 split at h
 · simp at h
 next h1 h2=>
 simp only[Bool.not_eq_false,Zz,yQ,aT,bX]at h1 h2;rw[bX];intro x hx;unfold vSt;rw[aa (by rw[h1.1.1.1 x hx];simp),aa (by rw[h2.1.1.1.1.1.2 x hx];simp)];rfl
theorem decMs_eq(s:List UInt8){n:List Int}{a t:List UInt8}{g:Sg}{l1 l2 tx:List (List UInt8)}{x:Sn}{r5 r6 r7:Rc}
    (h0:yK 6 ⟨s,true⟩=(n,r0)) (h1:Zf r0=(a,r1)) (h2:zdI r1=(g,r2)) (h3:yc r2=(l1,r3)) (h4:yc r3=(l2,r4)) (h5:Zf r4=(t,r5)) (h6:rkSn ⟨t,r5.ok⟩=(x,r6)) (h7:yc r5=(tx,r7)) :
    ZI s=match allD l1 with
     |none=>none
     |some ss=>match many rdDe l2 with
      |none=>none
      |some es=>if(r7.fine && r6.fine && decide (vMs (Raw.ms ⟨n,a,g,l1,l2,t,tx⟩ ss es x)=0))=true then some (Raw.ms ⟨n,a,g,l1,l2,t,tx⟩ ss es x) else none:=by
 have hr:rkRaw ⟨s,true⟩=(⟨n,a,g,l1,l2,t,tx⟩,r7):=by
  unfold rkRaw Zl zej;simp only[h0,h1,h2,h3,h4,h5,h7]
 unfold ZI whole;rw[rdMs_raw];cases hp:rdRaw s with
 |none=>
  have h9:=al2_raw.none s hp;rw[hr]at h9;have h8:r7=Rc.fail:=h9;have hf:r7.fine=false:=by rw[h8];rfl
  simp only[hf,gI];cases allD l1 <;> cases many rdDe l2 <;> simp
 |some z=>
  obtain⟨y,q⟩:=z;have h9:=al2_raw.some s y q hp;rw[hr]at h9;obtain⟨rfl,rfl⟩:=fu h9;have h5k:r5.ok=true:=fo142;rw[h5k]at h6;have hw:=zfp al2_sn t;rw[h6]at hw;simp only at hw⊢;rw[hw];have hm:=allD_many l1;cases hs:many rdSt l1 with
  |none=>rw[hs]at hm;simp only at hm;rw[hm]
  |some ss=>
   rw[hs]at hm;simp only at hm⊢;cases many rdDe l2 with
   |none=>simp only;rw[hm];split <;> rfl
   |some es=>
    simp only;cases hx:r6.fine with
    |false=>rw[hm];simp only[fC,gI];by_cases hq:(ss.all fun x=>vSt x == 0)=true <;> simp[hq]
    |true=>
     simp only[aW];have hq7:Rc.fine ⟨q,true⟩=decide (q=[]):=by cases q <;> rfl
     rw[hq7];by_cases hqe:q=[]
     · rw[af hqe];simp only[hqe,gF,bS,aY];by_cases hv:vMs (Raw.ms ⟨n,a,g,l1,l2,t,tx⟩ ss es x)=0
       · have h8:=vMs_st hv;have h8':(ss.all fun x=>vSt x == 0)=true:=h8;rw[af hv,hm,af h8'];simp only;rw[af hv]
       · rw[aa hv,hm];by_cases hq:(ss.all fun x=>vSt x == 0)=true
         · rw[af hq];simp only;rw[aa hv]
         · rw[aa hq]
     · rw[aa hqe,hm];by_cases hq:(ss.all fun x=>vSt x == 0)=true <;> simp[hq,hqe]
def allO{α:Type}(D:List UInt8→Option α):List (List UInt8)→Option (List α)
 | []=>some []
 |t::r=>match D t with
  |none=>none
  |some x=>match allO D r with
   |none=>none
   |some l=>some (x::l)
theorem many_allO{α:Type}(p:Pr α)(l:List (List UInt8)):many p l=allO (whole p) l:=by
 induction l with
 |nil=>rfl
 |cons t r ih=>
  simp only[many,allO,ih];cases whole p t with
  |none=>rfl
  |some x=>cases allO (whole p) r <;> rfl
theorem allD_allO(l:List (List UInt8)):allD l=allO zcv l:=by
 induction l with
 |nil=>rfl
 |cons t r ih=>
  simp only[allD,allO,ih];cases zcv t with
  |none=>rfl
  |some x=>cases allO zcv r <;> rfl
structure LpSt {α:Type} (T:TypeId) (k:Nat) (C:α→List Value) (er:α→α) (ok:α→World→Prop) (D:List UInt8→Option α) (a b5:Nat) (W0:World→Prop) (l:List (List UInt8)) (j:Nat) (o:Value) (xs:List α) (B:Nat) (F:Nat→Prop) (wr:World):Prop where
 len:xs.length=j
 own:wr.ownsRow B T k o j (xs.flatMap C)
 size:B≤wr.heap.size
 foot:Foot F (fun W=>W0 W∧∀y∈xs,ok y W) wr
 fin:∀i,F i→a≤i∧i<wr.heap.size∧i≠b5∧o.ownBlock≠some i
 all:allO D l=match allO D (l.drop j) with
  |none=>none
  |some ys=>some (xs.map er++ys)
section
variable {α : Type} {T : TypeId} {k : Nat} {C : α → List Value} {er : α → α} {ok : α → World → Prop} {D : List UInt8 → Option α} {a b5 : Nat} {W0 : World → Prop} {l : List (List UInt8)}
theorem LpSt.start{u:World}(h:Held a b5 W0 u):∃F,LpSt T k C er ok D a b5 W0 l 0 (.slice none 0 0) [] u.heap.size F u:=by
 obtain⟨F,h1,h2⟩:=h;refine⟨F,rfl,aR _ _ _ _,ag _,fun w' a b=>⟨h1 w' a b,by simp⟩,fun i hi=>⟨(h2 i hi).1,(h2 i hi).2.1,(h2 i hi).2.2,by simp[Value.ownBlock]⟩,?_⟩;rw[dL];cases allO D l <;> rfl
variable{B j:Nat}{F:Nat→Prop}{o v':Value}{w2 wa wr:World}
theorem LpSt.step{xs:List α}{u:Nat}{x:α}
    (h:LpSt T k C er ok D a b5 W0 l j o xs B F wr) (hB:b5<B) (hw:a≤B) (hb:Below wr.heap.size wr wa) (hj:j<l.length) (hx:D l[j]=some (er x)) (hu:wr.heap.size≤u) (hst:yG u (ok x) wa)
    (hown:w2.ownsRow B T k v' (j+1) (xs.flatMap C++C x)) (hgr:wa.grownBy w2 o.ownBlock) (hat:v'.ownBlock=o.ownBlock∨v'.ownBlock=some wa.heap.size) (off:Nat) :
    LpSt T k C er ok D a b5 W0 l (j+1) v' (xs++ [x]) B (fun i=>F i∨(u≤i∧i<wa.heap.size)) (w2.setCell ⟨b5,off,none⟩ v'):=by
 have z1:=hb.size;have z2:=hgr.size;have z3:=h.size;have hok:∀b,o.ownBlock=some b→B≤b∧b<wr.heap.size:=fun b hb=>h.own.lt b hb
 have hset:∀k,k≠b5→(w2.setCell ⟨b5,off,none⟩ v').heap[k]? =w2.heap[k]?:=fun k hk=>iC w2 ⟨b5,off,none⟩ k v' (fun e=>by first|exact hk e|exact hk e.symm)
 have hsz:(w2.setCell ⟨b5,off,none⟩ v').heap.size=w2.heap.size:=by simp
 have h23:∀k,k<wa.heap.size→o.ownBlock≠some k→k≠b5→(w2.setCell ⟨b5,off,none⟩ v').heap[k]? =wa.heap[k]?:=fun k hk hne hn5=>(hset k hn5).trans (hgr.block k hk (fun e=>hne e.symm))
 have hF:∀i,F i→(w2.setCell ⟨b5,off,none⟩ v').heap[i]? =wr.heap[i]?:=fun i hi=>fo200
 refine⟨by simp[h.len],?_,by omega,?_,?_,?_⟩
 · rw[bH,show [x].flatMap C=C x from by simp];refine hown.kept (ze w2 ⟨b5,off,none⟩ v') ?_;exact fo152
 · refine((h.foot.on ja hF).mono (fun i hi=>Or.inl hi)).imp2 (Q:=ok x) (((zai hst).on ja (fun i hi=>h23 i hi.2 (fun e=>by have:=(hok i e).2;have:=hi.1;omega) (by have:=hi.1;omega))).mono (fun i hi=>Or.inr hi)) (fun w' a b=>⟨a.1,fun y hy=> ?_⟩);exact fo125
 · exact fo72
 · rw[h.all,bB hj,allO,hx];simp only;cases allO D (l.drop (j+1)) with
   |none=>rfl
   |some ys=>simp
theorem LpSt.vr{b:Nat}{cs:List Value}{xs:List α}
    (h:LpSt T k C er ok D a b5 W0 l j o xs B F wr) (hb:Below wr.heap.size wr wa) (hgr:wa.grownBy w2 o.ownBlock) (hv:Vr wr b cs) (hbB:b<B):Vr w2 b cs:=by
 exact fo112
theorem LpSt.low{w:World}{xs:List α}
    (h:LpSt T k C er ok D a b5 W0 l j o xs B F wr) (hB:b5<B) (h5:w.heap.size≤b5) (hw:Below w.heap.size w wr) (hb:Below wr.heap.size wr wa) (hgr:wa.grownBy w2 o.ownBlock) (off:Nat):Below w.heap.size w (w2.setCell ⟨b5,off,none⟩ v'):=by
 have h1:=bon hw hb;have h2:Below w.heap.size w w2:=below_grown h1 h1.size hgr (fun g hg=>by have:=(h.own.lt g hg).1;omega);exact zf h2 (ze w2 ⟨b5,off,none⟩ v') h5
theorem LpSt.held{xs:List α}(h:LpSt T k C er ok D a b5 W0 l j o xs B F wr):Held a b5 (fun W=>W0 W∧∀y∈xs,ok y W) wr:=
 ⟨F,h.foot,fun i hi=>⟨(h.fin i hi).1,(h.fin i hi).2.1,(h.fin i hi).2.2.1⟩⟩
theorem held_rowG{a b4 k n:Nat}{T:TypeId}{A:Option Addr}{c:Nat}{xs:List Value}{W:World}(h:W.ownsRow B T k (.slice A n c) n xs)(ha:a≤B)(hb:b4<B):Held a b4 (fun W=>Rd W k A n xs) W:=by
 refine⟨fun i=>Value.ownBlock (.slice A n c)=some i,fun w' hs hk=> ?_,fun i hi=>⟨by have:=(h.lt i hi).1;omega,(h.lt i hi).2,by have:=(h.lt i hi).1;omega⟩⟩;refine Rd.own (base:=B) (e:=T) (c:=c) ⟨h.1,?_⟩;exact fo163
end
theorem whole_raw(s:List UInt8){n:List Int}{a t:List UInt8}{g:Sg}{l1 l2 tx:List (List UInt8)}{x:Sn}{r0 r1 r2 r3 r4 r5 r6 r7:Rc}{ss:List St}{es:List De}
    (h0:yK 6 ⟨s,true⟩=(n,r0)) (h1:Zf r0=(a,r1)) (h2:zdI r1=(g,r2)) (h3:yc r2=(l1,r3)) (h4:yc r3=(l2,r4)) (h5:Zf r4=(t,r5)) (h6:rkSn ⟨t,r5.ok⟩=(x,r6)) (h7:yc r5=(tx,r7))
    (hs:allD l1=some ss) (he:many rdDe l2=some es) (f7:r7.fine=true) (f6:r6.fine=true):whole rdMs s=some (Raw.ms ⟨n,a,g,l1,l2,t,tx⟩ ss es x):=by
 have hr:rkRaw ⟨s,true⟩=(⟨n,a,g,l1,l2,t,tx⟩,r7):=by
  unfold rkRaw Zl zej;simp only[h0,h1,h2,h3,h4,h5,h7]
 unfold whole;rw[rdMs_raw];cases hp:rdRaw s with
 |none=>
  have h9:=al2_raw.none s hp;rw[hr]at h9;have h8:r7=Rc.fail:=h9;rw[h8]at f7;cases f7
 |some z=>
  obtain⟨y,q⟩:=z;have h9:=al2_raw.some s y q hp;rw[hr]at h9;obtain⟨rfl,rfl⟩:=fu h9;have h5k:r5.ok=true:=fo142;rw[h5k]at h6;have hw:=zfp al2_sn t;rw[h6]at hw;simp only at hw⊢;rw[f6,af rfl]at hw;rw[hw,he];have hm:=allD_many l1;cases hss:many rdSt l1 with
  |none=>rw[hss]at hm;simp only at hm;rw[hm]at hs;cases hs
  |some s9=>
   rw[hss]at hm;simp only at hm⊢;rw[hm]at hs;have hq:q=[]:=by cases q with|nil=>rfl|cons a b=>cases f7
   by_cases hb:(s9.all fun x=>vSt x == 0)=true
   · rw[af hb]at hs;obtain rfl:=dW hs;rw[af hq]
   · rw[aa hb]at hs;cases hs
