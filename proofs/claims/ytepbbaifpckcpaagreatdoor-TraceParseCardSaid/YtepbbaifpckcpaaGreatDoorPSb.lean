/- message.part and message.parts at signatures. -/
import Derived.Test.YtepbbaifpckcpaaGreatDoorPSa
open Go.Proofs.Tryz
namespace Go.Proofs.YtepbbaifpckcpaaGreatDoor
set_option maxRecDepth 100000
set_option maxHeartbeats 1000000
open Go.RowKit
theorem zcb(x:Sg):(prog.info? 29).map (·.size)=some (sgC x).length:=fo222
theorem sgC_one'(x:Sg):(sgC x).toArray.all (·.oneCell')=true:=by simp[sgC,Value.oneCell']
theorem zdW(g:Nat)(s:Sc)(t:List UInt8)(w:World)(hs:Ss w g s)
    (HF:∀q W,Ss W q ⟨t,false⟩→Calls prog 184 #[.pointer (some ⟨q,0,none⟩)] W (RetX sgC id (fun x _=>x.ok) q (tkSg ⟨t,false⟩) W)) :
    Calls prog 183 #[.pointer (some ⟨g,0,none⟩),t,.func (.func 184) #[] #[]] w (RetX sgC id (fun x _=>x.ok) g (yt tkSg t s) w):=by
 obtain⟨r,b⟩:=s;have hgl:=hs.lt;obtain⟨y,hy⟩:∃y,y=tkSg ⟨t,false⟩:=⟨_,rfl⟩;obtain⟨y1,r',b'⟩:=y;have HR:Hid (yt tkSg t ⟨r,b⟩=(y1,⟨r,b || b' || !r'.isEmpty⟩)):=hD jcp;have HFX:=hD HF;have HY:=hD hy;have HV0:=hD (Vr.new w [(),(),(),(),"",""] 29);have HV1:=hD (HV0.below (za (w.alloc (.cells #[(),(),(),(),"",""] 29)) (.cells #[t,false] 162)));have HS1:=hD (((SsTo.refl hs).alloc (.cells #[(),(),(),(),"",""] 29)).alloc (.cells #[t,false] 162));have HQ1:=hD (Ss.new' (w.alloc (.cells #[(),(),(),(),"",""] 29)) t false 162 (g:=w.heap.size+1) jc);have HZ1:Hid (((w.alloc (.cells #[(),(),(),(),"",""] 29)).alloc (.cells #[t,false] 162)).heap.size=w.heap.size+2):=hD jc;clear hs hy HF HV0;go_in;go_wp2_with fail;refine(HFX (w.heap.size+1) _ HQ1).mono ?_;rintro e w2 ⟨x,he,hx,hst,hss⟩;rw[←HY.out]at hss hx;obtain rfl:e= .returned (.agg x):=he;rw[HZ1.out]at hst;have h2:=hss.1.size;rw[HZ1.out]at h2;have HV2:=hD ((HV1.grown hss.1 ja).below (za w2 (.cells x 29)));have HS2:=hD ((HS1.own hss.1 ja ja).alloc (.cells x 29));have HQ2:=hD (hss.2.alloc (.cells x 29));have HX2:=hD (Vr.new w2 (sgC x) 29);have HT2:=hD (hst.on (zl _ (za w2 (.cells x 29))));have HX:=hD hx;clear hx hst hss HV1 HS1 HQ1 HZ1;go_upto_region 3 with fail;generalize hw3:w2.alloc (.cells x 29)=w3 at HV2 HS2 HQ2 HT2;have HX3:Hid (Vr w3 w2.heap.size (sgC x)):=hD (hw3▸HX2.out);try rw[hw3]
 clear hw3 HX2;have c1:=HS2.2.c1;have f1:=HS2.2.f1;have dl:=HS2.2.lt;have q0:=HQ2.c0;have q1:=HQ2.c1;have ql:=HQ2.lt;simp only at c1 q0 q1;have HVz:Hid (∀v:Bool,Vr (w3.setCell ⟨g,1,none⟩ (.bool v)) w.heap.size [(),(),(),(),"",""]):=hD (fun v=>HV2.grown (ze w3 ⟨g,1,none⟩ (.bool v)) jav);have HXz:Hid (∀v:Bool,Vr (w3.setCell ⟨g,1,none⟩ (.bool v)) w2.heap.size (sgC x)):=hD (fun v=>HX3.grown (ze w3 ⟨g,1,none⟩ (.bool v)) jcf);have HFin:Hid (∀v:Bool,v=(b || b' || !r'.isEmpty)→RetX sgC id (fun x _=>x.ok) g (yt tkSg t ⟨r,b⟩) w (.returned (.agg (sgC x).toArray)) ((w3.setCell ⟨g,1,none⟩ (.bool v)).setCells w.heap.size 0 (sgC x))):=hD (fun v hv=>
  zfd HR rfl HX (((HT2.on (zh (ze w3 ⟨g,1,none⟩ (.bool v)) jca)).on (zh (zb (b:=w.heap.size) (sgC x)) ja)).low ja)
   (((HS2.set1 v).own (zb (b:=w.heap.size) (sgC x)) (ag _) ja).eq (by rw[hv])))
 cases b
 · cases b'
   · cases r'
     · go_wp2_with (first
         |(refine ak rfl 29 _ rfl w2.heap.size 0 rfl (sgC x) _ (HXz false).range underlying29 rfl (zcb x) ?_)
         |(refine ai rfl 29 _ _ rfl w.heap.size 0 (sgC x).toArray rfl rfl ((HVz false).there rfl) (zcb x) (sgC_one' x) ?_))
       refine aj (v:= .agg (sgC x).toArray) ?_ rfl (HFin false rfl);exact zW results183 _ _ w.heap.size (sgC x) _ rfl ((HVz false).sets (sgC x) rfl).range underlying29 rfl (zcb x)
     · exact fo68
   · exact fo68
 · go_wp2_with (first
     |(refine ak rfl 29 _ rfl w2.heap.size 0 rfl (sgC x) _ (HXz true).range underlying29 rfl (zcb x) ?_)
     |(refine ai rfl 29 _ _ rfl w.heap.size 0 (sgC x).toArray rfl rfl ((HVz true).there rfl) (zcb x) (sgC_one' x) ?_))
   refine aj (v:= .agg (sgC x).toArray) ?_ rfl (HFin true jc);exact fo269
theorem infoSgr:(prog.info? 29).map (fun i=>(i.zero,i.size,i.bytes))=some (some (.agg #[(),(),(),(),"",""]),6,64):=by kernel_rfl
theorem zbC(g:Nat)(s:Sc)(w:World)(hs:Ss w g s)(hl:s.rest.length≤268435456)
    (HF:∀t:List UInt8,t.length≤s.rest.length→∀q W,Ss W q ⟨t,false⟩→Calls prog 184 #[.pointer (some ⟨q,0,none⟩)] W (RetX sgC id (fun x _=>x.ok) q (tkSg ⟨t,false⟩) W)) :
    Calls prog 236 #[.pointer (some ⟨g,0,none⟩),.func (.func 184) #[] #[]] w (RetXs 6 sgC id (fun x _=>x.ok) g (yE tkSg s) w):=by
 have hgl:=hs.lt;have hz:=zcq s;have HTx:=hD (za6 g s w hs (ah hl jf));obtain⟨p,hp⟩:∃p,p=ZW s:=⟨_,rfl⟩;have HR:Hid (yE tkSg s=zaR tkSg p.1 p.2):=hD (by rw[hp];rfl);rw[←hp]at HTx hz;obtain⟨l,s1⟩:=p;simp only at hz HTx HR;have hln:l.length≤268435456:=by have:=Yg szS l 1 zbW;omega
 have HP:Hid (∀t∈l,∀s' W,Ss W g s'→Calls prog 183 #[.pointer (some ⟨g,0,none⟩),t,.func (.func 184) #[] #[]] W (RetX sgC id (fun x _=>x.ok) g (yt tkSg t s') W)):=
  hD (fun t ht s' W hW=>zdW g s' t W hW (HF t jbq))
 obtain⟨i0,hi,hz0,hz1,hz2⟩:=info_parts infoSgr;have HI:=hD hi;have HZ0:=hD hz0;have HZ1:=hD hz1;have HZ2:=hD hz2;clear hi hz0 hz1 hz2 hs HF hp hz;go_in;go_wp2_with fail;refine HTx.mono ?_;rintro e w1 ⟨A,c,rfl,hr,h⟩;have HSt:=hD (PtSt.start (T:=29) (k:=6) (C:=sgC) (er:=id) (ok:=(fun x _=>x.ok)) (tk:=tkSg) hr h);have hB:w.heap.size≤w1.heap.size:=h.1.size;clear hr h;simp only;go_wp2_with fail;go_loopw [5,11] (fun o i wr=>∃(j:Nat) (xs:List Sg) (sj:Sc) (F:Nat→Prop),i= .int .i64 j∧j≤l.length∧PtSt 29 6 sgC id (fun x _=>x.ok) tkSg w w1.heap.size g A l s1 j o xs sj F wr) (fun _ i _=>l.length-(intOf i).toNat)
 case atStart=>exact⟨0,[],s1,_,rfl,by omega,HSt⟩
 case round=>
  obtain⟨j,xs,sj,F,rfl,hj,hst⟩:=hrel;have HJ:=hD hst;clear hst;by_cases hlt:j<l.length
  · have i0':(0:Int)≤(j:Int):=by omega
    have i1:(j:Int) <(l.length:Int):=by omega
    obtain⟨b,off,hA,hbl,hcc⟩:=HJ.foot.out.1.cells jcl;subst hA;obtain⟨t,ht⟩:∃t,t=l[j]:=⟨_,rfl⟩;have a0:wr.cell? ⟨b,off+j,none⟩=some (.string ⟨t.toArray⟩):=hcc j _ (by unfold strC;rw[bT,aP hlt,ht];rfl);have HTt:=hD ht;have HM:=hD (ht▸aH hlt:t∈l);clear ht hcc;go_wp2_with fail;refine(HP t HM sj wr HJ.src.2).mono ?_;rintro e w2 ⟨x,he,hx,hstx,hs2⟩;obtain rfl:e= .returned (.agg x):=he;have HO2:=hD (HJ.row ja hs2);have hz2:wr.heap.size≤w2.heap.size:=hs2.1.size;have hz3:w1.heap.size≤wr.heap.size:=HJ.size;have HX:=hD hx;have HTX:=hD hstx;have HS2:=hD hs2;clear hx hstx hs2 a0;go_wp2_with (at_builtin;refine cB _ rfl _ _ 33 rfl w1.heap.size 29 i0 _ 6 64 underlying33 HI HZ0 HZ1 HZ2 rfl jf _ _ _ rfl (HO2.alloc _) ⟨w2.heap.size,0,none⟩ 1 1 [x.server,x.kind,x.view,x.slot,x.digest,x.sig] rfl rfl (zN _ _ _ _ rfl) jr jq ja jg ?_);intro v' w4 hown' hgrow _ hat;have HN:Hid (PtSt 29 6 sgC id (fun x _=>x.ok) tkSg w w1.heap.size g (some ⟨b,off,none⟩) l s1 (j+1) v' (xs++ [x]) (yt tkSg l[j] sj).2 (fun i=>F i∨(wr.heap.size≤i∧i<w2.heap.size)) w4):=hD
     (HJ.step hgl hB hlt jez HTX jdu (za w2 (.cells x 29)) jc hown' hgrow hat)
    exact fo70
  · exact fo57
theorem Yb(x:De):(prog.info? 100).map (·.size)=some (deC x).length:=by
 have:(prog.info? 100).map (·.size)=some 3:=by kernel_rfl
 exact this
theorem zcp(x:De):(deC x).toArray.all (·.oneCell')=true:=by simp[deC,Sl.v,Value.oneCell']
theorem zdx(g:Nat)(s:Sc)(w:World)(hs:Ss w g s)(hl:s.rest.length≤268435456) :
    Calls prog 188 #[.pointer (some ⟨g,0,none⟩)] w (RetX deC De.er De.ok g (tkDe s) w):=by
 have hgl:=hs.lt;have HTn:=zaq 1 s;obtain⟨n0,hn⟩:=zge _ HTn.1;obtain⟨s0,hs0⟩:∃s0,s0=(yT 1 s).2:=⟨_,rfl⟩;have HT0:Hid (yT 1 s=([n0],s0)):=hD jew;have HN64:Hid (∀x∈ [n0],I64 x):=hD jbp;have HL0:Hid (s0.rest.length≤268435456):=hD jdb;clear HTn hn hs0;obtain⟨t1,s1,ht1⟩:∃t s',yx s0=(t,s'):=⟨_,_,rfl⟩;have HL1:Hid (s1.rest.length≤268435456):=hD jbb;have HT1:=hD ht1;clear ht1;obtain⟨t2,s2,ht2⟩:∃t s',yE tkSg s1=(t,s'):=⟨_,_,rfl⟩;have HL2:Hid (s2.rest.length≤268435456):=hD jcq;have HT2:=hD ht2;clear ht2;have HSpec:Hid (tkDe s=(⟨n0,t1,Sl.of t2⟩,s2)):=hD (by
  unfold tkDe Zd zeL;simp only[HT0.out,HT1.out,HT2.out];rfl)
 have HVw:=hD (Vr.new w [(),"","s"] 100);have HSw:=hD ((SsTo.refl hs).below (((za w (.cells #[(),"","s"] 100))).drew));have HVd:=hD (HVw.below (ae _ _).drew);have hzd:(w.alloc (.cells #[(),"","s"] 100)).drew.heap.size=w.heap.size+1:=by simp
 have HZd:=hD hzd;clear hs HVw hzd;go_in;go_wp2_with fail;refine aD ?_;refine aC (S:=fun W=>True) jb trivial (fun hHeld=> ?_);refine takes [0,4,6] ?_;refine tkr 1 rfl (fun K hK=> ?_);go_simp;go_at_call 181;refine(zeT g s _ HSw.2 (ah hl jf)).mono ?_;rintro e w0 ⟨A,c,he,hst0,hss0⟩;rw[HT0.out]at he hst0 hss0;obtain rfl:e= .returned (.slice A 1 c):=he;simp only at hss0;rw[HZd.out]at hst0;have h0:=hss0.1.size;rw[HZd.out]at h0;have HS0:Hid (SsTo w g s0 w0):=hD (HSw.trans hss0);have HV0:=hD (HVd.grown hss0.1 ja);have HR0:=hD hst0;obtain⟨b,off,hA,hbl,hcc⟩:=yD hst0.out jc;subst hA;have HC0:Hid (w0.cell? ⟨b,off,none⟩=some (.int .i64 n0)):=hD (hcc 0 _ rfl);have HCW:Hid (∀W,yV (w.heap.size+1) w0 W→W.cell? ⟨b,off,none⟩=some (.int .i64 n0)):=hD (fun W hW=>fo263);clear hss0 hst0 hcc HSw HVd HZd;go_wp2_with fail;refine hK.out _ _ trivial (fun hHeld=> ?_);clear hK K;try simp only[Act.put,qk1,qk2,qk3]
 refine ZY (S':=fun W=>W.cell? ⟨b,off,none⟩=some (.int .i64 n0)) (fun _ _=>trivial) _ _ _ _ ?_;have hHeld2:=HC0.out;have HK0:=hD (yV.refl (w.heap.size+1) w0);refine takes [2,3] ?_;refine tkr 5 rfl (fun K hK=> ?_);go_simp;go_at_call 182;refine(Y9 g s0 _ (HS0.2) (ah HL0 jf)).mono ?_;rintro e w1 ⟨rfl,hss1⟩;rw[show yx s0=(t1,s1) from HT1.out]at hss1⊢;simp only at hss1⊢;have hz1:=hss1.1.size;have hy0:=HS0.1.size;have HK1:Hid (yV (w.heap.size+1) w0 w1):=hD (HK0.trans (zh hss1.1 ja));have HS1:Hid (SsTo w g s1 w1):=hD (HS0.trans hss1);have HV1:=hD (HV0.grown hss1.1 ja);have hC1:=HCW.out w1 HK1.out;clear hss1;go_wp2_with fail;refine hK.out _ _ hC1 (fun hHeld=> ?_);clear hK K;try simp only[Act.put,qk1,qk2,qk3]
 refine tkr 7 rfl (fun K hK=> ?_);go_simp;go_at_call 236;refine(zbC g s1 _ (HS1.2) HL1 (fun t ht q W hW=>YL q ⟨t,false⟩ W hW (ah (ah ht HL1) jf))).mono ?_;rintro e w2 ⟨x2,rfl,hx2,hst2,hss2⟩;rw[show yE tkSg s1=(t2,s2) from HT2.out]at hss2 hx2;simp only at hss2 hx2;have HX2:=hD hx2;clear hx2;have hz2:=hss2.1.size;have hy1:=HS1.1.size;have HK2:Hid (yV (w.heap.size+1) w0 w2):=hD (HK1.trans (zh hss2.1 ja));have HS2:Hid (SsTo w g s2 w2):=hD (HS1.trans hss2);have HV2:=hD (HV1.grown hss2.1 ja);have hC2:=HCW.out w2 HK2.out;have HR2_2:=hD (hst2.low (b':=w.heap.size+1) (by have:=HV1.lt;omega));clear hst2;clear hss2;go_wp2_with fail;refine hK.out _ _ hC2 (fun hHeld=> ?_);clear hK K;try simp only[Act.put,qk1,qk2,qk3]
 refine takes [8] ?_;refine tkr 9 rfl (fun K hK=> ?_);rw[af ji];refine aQ 100 _ _ rfl w.heap.size 0 (deC ⟨n0,t1,x2⟩).toArray rfl rfl (HV2.there rfl) (Yb ⟨n0,t1,x2⟩) (zcp ⟨n0,t1,x2⟩) ?_;have hKe:yV (w.heap.size+1) w2 (w2.setCells w.heap.size 0 (deC ⟨n0,t1,x2⟩)):=zh (zb (b:=w.heap.size) _) ja;have hCe:=HCW.out _ (HK2.trans hKe);have HKe:=hD hKe;have HSe:=hD (HS2.own (zb (b:=w.heap.size) (deC ⟨n0,t1,x2⟩)) (ag _) ja);have HVe:=hD (HV2.sets (deC ⟨n0,t1,x2⟩) rfl);clear hKe;refine hK.out _ _ hCe (fun hHeld=> ?_);clear hK K;try simp only[Act.put,qk1]
 refine aB jb ?_ _;refine aA ?_;go_wp2_with fail;refine aj (v:= .agg (deC ⟨n0,t1,x2⟩).toArray) ?_ rfl (zfd (x:=⟨n0,t1,x2⟩) HSpec rfl ?_ ?_ HSe)
 · exact zW results188 _ _ w.heap.size (deC ⟨n0,t1,x2⟩) _ rfl HVe.range underlying100 rfl (Yb ⟨n0,t1,x2⟩)
 · show De.mk n0 t1 x2.er=_;have:=HX2.out;rw[fT]at this;rw[Sl.er,this];rfl
 · exact fun W hW=>⟨HN64 n0 jc,(HR2_2.on HKe).low ja W hW⟩
theorem partDe_any(g:Nat)(s:Sc)(t:List UInt8)(w:World)(hs:Ss w g s)
    (HF:∀q W,Ss W q ⟨t,false⟩→Calls prog 188 #[.pointer (some ⟨q,0,none⟩)] W (RetX deC De.er De.ok q (tkDe ⟨t,false⟩) W)) :
    Calls prog 237 #[.pointer (some ⟨g,0,none⟩),t,.func (.func 188) #[] #[]] w (RetX deC De.er De.ok g (yt tkDe t s) w):=by
 obtain⟨r,b⟩:=s;have hgl:=hs.lt;obtain⟨y,hy⟩:∃y,y=tkDe ⟨t,false⟩:=⟨_,rfl⟩;obtain⟨y1,r',b'⟩:=y;have HR:Hid (yt tkDe t ⟨r,b⟩=(y1,⟨r,b || b' || !r'.isEmpty⟩)):=hD jcp;have HFX:=hD HF;have HY:=hD hy;have HV0:=hD (Vr.new w [(),"","s"] 100);have HV1:=hD (HV0.below (za (w.alloc (.cells #[(),"","s"] 100)) (.cells #[t,false] 162)));have HS1:=hD (((SsTo.refl hs).alloc (.cells #[(),"","s"] 100)).alloc (.cells #[t,false] 162));have HQ1:=hD (Ss.new' (w.alloc (.cells #[(),"","s"] 100)) t false 162 (g:=w.heap.size+1) jc);have HZ1:Hid (((w.alloc (.cells #[(),"","s"] 100)).alloc (.cells #[t,false] 162)).heap.size=w.heap.size+2):=hD jc;clear hs hy HF HV0;go_in;go_wp2_with fail;refine(HFX (w.heap.size+1) _ HQ1).mono ?_;rintro e w2 ⟨x,he,hx,hst,hss⟩;rw[←HY.out]at hss hx;obtain rfl:e= .returned (.agg x):=he;rw[HZ1.out]at hst;have h2:=hss.1.size;rw[HZ1.out]at h2;have HV2:=hD ((HV1.grown hss.1 ja).below (za w2 (.cells x 100)));have HS2:=hD ((HS1.own hss.1 ja ja).alloc (.cells x 100));have HQ2:=hD (hss.2.alloc (.cells x 100));have HX2:=hD (Vr.new w2 (deC x) 100);have HT2:=hD (hst.on (zl _ (za w2 (.cells x 100))));have HX:=hD hx;clear hx hst hss HV1 HS1 HQ1 HZ1;go_upto_region 3 with fail;generalize hw3:w2.alloc (.cells x 100)=w3 at HV2 HS2 HQ2 HT2;have HX3:Hid (Vr w3 w2.heap.size (deC x)):=hD (hw3▸HX2.out);try rw[hw3]
 clear hw3 HX2;have c1:=HS2.2.c1;have f1:=HS2.2.f1;have dl:=HS2.2.lt;have q0:=HQ2.c0;have q1:=HQ2.c1;have ql:=HQ2.lt;simp only at c1 q0 q1;have HVz:Hid (∀v:Bool,Vr (w3.setCell ⟨g,1,none⟩ (.bool v)) w.heap.size [(),"","s"]):=hD (fun v=>HV2.grown (ze w3 ⟨g,1,none⟩ (.bool v)) jav);have HXz:Hid (∀v:Bool,Vr (w3.setCell ⟨g,1,none⟩ (.bool v)) w2.heap.size (deC x)):=hD (fun v=>HX3.grown (ze w3 ⟨g,1,none⟩ (.bool v)) jcf);have HFin:Hid (∀v:Bool,v=(b || b' || !r'.isEmpty)→RetX deC De.er De.ok g (yt tkDe t ⟨r,b⟩) w (.returned (.agg (deC x).toArray)) ((w3.setCell ⟨g,1,none⟩ (.bool v)).setCells w.heap.size 0 (deC x))):=hD (fun v hv=>
  zfd HR rfl HX (((HT2.on (zh (ze w3 ⟨g,1,none⟩ (.bool v)) jca)).on (zh (zb (b:=w.heap.size) (deC x)) ja)).low ja)
   (((HS2.set1 v).own (zb (b:=w.heap.size) (deC x)) (ag _) ja).eq (by rw[hv])))
 cases b
 · cases b'
   · cases r'
     · go_wp2_with (first
         |(refine ak rfl 100 _ rfl w2.heap.size 0 rfl (deC x) _ (HXz false).range underlying100 rfl (Yb x) ?_)
         |(refine ai rfl 100 _ _ rfl w.heap.size 0 (deC x).toArray rfl rfl ((HVz false).there rfl) (Yb x) (zcp x) ?_))
       refine aj (v:= .agg (deC x).toArray) ?_ rfl (HFin false rfl);exact zW results237 _ _ w.heap.size (deC x) _ rfl ((HVz false).sets (deC x) rfl).range underlying100 rfl (Yb x)
     · exact fo64
   · exact fo64
 · go_wp2_with (first
     |(refine ak rfl 100 _ rfl w2.heap.size 0 rfl (deC x) _ (HXz true).range underlying100 rfl (Yb x) ?_)
     |(refine ai rfl 100 _ _ rfl w.heap.size 0 (deC x).toArray rfl rfl ((HVz true).there rfl) (Yb x) (zcp x) ?_))
   refine aj (v:= .agg (deC x).toArray) ?_ rfl (HFin true jc);exact fo266
theorem infoDer:(prog.info? 100).map (fun i=>(i.zero,i.size,i.bytes))=some (some (.agg #[(),"","s"]),3,48):=by kernel_rfl
theorem partsDe_any(g:Nat)(s:Sc)(w:World)(hs:Ss w g s)(hl:s.rest.length≤268435456)
    (HF:∀t:List UInt8,t.length≤s.rest.length→∀q W,Ss W q ⟨t,false⟩→Calls prog 188 #[.pointer (some ⟨q,0,none⟩)] W (RetX deC De.er De.ok q (tkDe ⟨t,false⟩) W)) :
    Calls prog 187 #[.pointer (some ⟨g,0,none⟩),.func (.func 188) #[] #[]] w (RetXs 3 deC De.er De.ok g (yE tkDe s) w):=by
 have hgl:=hs.lt;have hz:=zcq s;have HTx:=hD (za6 g s w hs (ah hl jf));obtain⟨p,hp⟩:∃p,p=ZW s:=⟨_,rfl⟩;have HR:Hid (yE tkDe s=zaR tkDe p.1 p.2):=hD (by rw[hp];rfl);rw[←hp]at HTx hz;obtain⟨l,s1⟩:=p;simp only at hz HTx HR;have hln:l.length≤268435456:=by have:=Yg szS l 1 zbW;omega
 have HP:Hid (∀t∈l,∀s' W,Ss W g s'→Calls prog 237 #[.pointer (some ⟨g,0,none⟩),t,.func (.func 188) #[] #[]] W (RetX deC De.er De.ok g (yt tkDe t s') W)):=
  hD (fun t ht s' W hW=>partDe_any g s' t W hW (HF t jbq))
 obtain⟨i0,hi,hz0,hz1,hz2⟩:=info_parts infoDer;have HI:=hD hi;have HZ0:=hD hz0;have HZ1:=hD hz1;have HZ2:=hD hz2;clear hi hz0 hz1 hz2 hs HF hp hz;go_in;go_wp2_with fail;refine HTx.mono ?_;rintro e w1 ⟨A,c,rfl,hr,h⟩;have HSt:=hD (PtSt.start (T:=100) (k:=3) (C:=deC) (er:=De.er) (ok:=De.ok) (tk:=tkDe) hr h);have hB:w.heap.size≤w1.heap.size:=h.1.size;clear hr h;simp only;go_wp2_with fail;go_loopw [5,11] (fun o i wr=>∃(j:Nat) (xs:List De) (sj:Sc) (F:Nat→Prop),i= .int .i64 j∧j≤l.length∧PtSt 100 3 deC De.er De.ok tkDe w w1.heap.size g A l s1 j o xs sj F wr) (fun _ i _=>l.length-(intOf i).toNat)
 case atStart=>exact⟨0,[],s1,_,rfl,by omega,HSt⟩
 case round=>
  obtain⟨j,xs,sj,F,rfl,hj,hst⟩:=hrel;have HJ:=hD hst;clear hst;by_cases hlt:j<l.length
  · have i0':(0:Int)≤(j:Int):=by omega
    have i1:(j:Int) <(l.length:Int):=by omega
    obtain⟨b,off,hA,hbl,hcc⟩:=HJ.foot.out.1.cells jcl;subst hA;obtain⟨t,ht⟩:∃t,t=l[j]:=⟨_,rfl⟩;have a0:wr.cell? ⟨b,off+j,none⟩=some (.string ⟨t.toArray⟩):=hcc j _ (by unfold strC;rw[bT,aP hlt,ht];rfl);have HTt:=hD ht;have HM:=hD (ht▸aH hlt:t∈l);clear ht hcc;go_wp2_with fail;refine(HP t HM sj wr HJ.src.2).mono ?_;rintro e w2 ⟨x,he,hx,hstx,hs2⟩;obtain rfl:e= .returned (.agg x):=he;have HO2:=hD (HJ.row ja hs2);have hz2:wr.heap.size≤w2.heap.size:=hs2.1.size;have hz3:w1.heap.size≤wr.heap.size:=HJ.size;have HX:=hD hx;have HTX:=hD hstx;have HS2:=hD hs2;clear hx hstx hs2 a0;go_wp2_with (at_builtin;refine cB _ rfl _ _ 31 rfl w1.heap.size 100 i0 _ 3 48 underlying31 HI HZ0 HZ1 HZ2 rfl jf _ _ _ rfl (HO2.alloc _) ⟨w2.heap.size,0,none⟩ 1 1 [x.view,x.value,x.cert] rfl rfl (zN _ _ _ _ rfl) jr jq ja jg ?_);intro v' w4 hown' hgrow _ hat;have HN:Hid (PtSt 100 3 deC De.er De.ok tkDe w w1.heap.size g (some ⟨b,off,none⟩) l s1 (j+1) v' (xs++ [x]) (yt tkDe l[j] sj).2 (fun i=>F i∨(wr.heap.size≤i∧i<w2.heap.size)) w4):=hD
     (HJ.step hgl hB hlt jez HTX jdu (za w2 (.cells x 100)) jc hown' hgrow hat)
    exact fo70
  · exact fo57
theorem zaW(x:Ho):(prog.info? 147).map (·.size)=some (hoC x).length:=by
 have:(prog.info? 147).map (·.size)=some 4:=by kernel_rfl
 exact this
theorem zeq(x:Ho):(hoC x).toArray.all (·.oneCell')=true:=by simp[hoC,Sl.v,Value.oneCell']
theorem zeo(g:Nat)(s:Sc)(w:World)(hs:Ss w g s)(hl:s.rest.length≤268435456) :
    Calls prog 239 #[.pointer (some ⟨g,0,none⟩)] w (RetX hoC Ho.er Ho.ok g (tkHo s) w):=by
 have hgl:=hs.lt;have HTn:=zaq 1 s;obtain⟨n0,hn⟩:=zge _ HTn.1;obtain⟨s0,hs0⟩:∃s0,s0=(yT 1 s).2:=⟨_,rfl⟩;have HT0:Hid (yT 1 s=([n0],s0)):=hD jew;have HN64:Hid (∀x∈ [n0],I64 x):=hD jbp;have HL0:Hid (s0.rest.length≤268435456):=hD jdb;clear HTn hn hs0;obtain⟨t1,s1,ht1⟩:∃t s',tkDe s0=(t,s'):=⟨_,_,rfl⟩;have HL1:Hid (s1.rest.length≤268435456):=hD (by have h9:=ag_de.len s0;rw[ht1]at h9;exact ah h9 HL0);have HT1:=hD ht1;clear ht1;have HSpec:Hid (tkHo s=(⟨n0,t1⟩,s1)):=hD (by
  unfold tkHo Zd zeL;simp only[HT0.out,HT1.out];rfl)
 have HVw:=hD (Vr.new w [(),(),"","s"] 147);have HSw:=hD ((SsTo.refl hs).below (((za w (.cells #[(),(),"","s"] 147))).drew));have HVd:=hD (HVw.below (ae _ _).drew);have hzd:(w.alloc (.cells #[(),(),"","s"] 147)).drew.heap.size=w.heap.size+1:=by simp
 have HZd:=hD hzd;clear hs HVw hzd;go_in;go_wp2_with fail;refine aD ?_;refine aC (S:=fun W=>True) jb trivial (fun hHeld=> ?_);refine takes [0,4] ?_;refine tkr 1 rfl (fun K hK=> ?_);go_simp;go_at_call 181;refine(zeT g s _ HSw.2 (ah hl jf)).mono ?_;rintro e w0 ⟨A,c,he,hst0,hss0⟩;rw[HT0.out]at he hst0 hss0;obtain rfl:e= .returned (.slice A 1 c):=he;simp only at hss0;rw[HZd.out]at hst0;have h0:=hss0.1.size;rw[HZd.out]at h0;have HS0:Hid (SsTo w g s0 w0):=hD (HSw.trans hss0);have HV0:=hD (HVd.grown hss0.1 ja);have HR0:=hD hst0;obtain⟨b,off,hA,hbl,hcc⟩:=yD hst0.out jc;subst hA;have HC0:Hid (w0.cell? ⟨b,off,none⟩=some (.int .i64 n0)):=hD (hcc 0 _ rfl);have HCW:Hid (∀W,yV (w.heap.size+1) w0 W→W.cell? ⟨b,off,none⟩=some (.int .i64 n0)):=hD (fun W hW=>fo263);clear hss0 hst0 hcc HSw HVd HZd;go_wp2_with fail;refine hK.out _ _ trivial (fun hHeld=> ?_);clear hK K;try simp only[Act.put,qk1,qk2,qk3]
 refine ZY (S':=fun W=>W.cell? ⟨b,off,none⟩=some (.int .i64 n0)) (fun _ _=>trivial) _ _ _ _ ?_;have hHeld2:=HC0.out;have HK0:=hD (yV.refl (w.heap.size+1) w0);refine takes [2,3] ?_;refine tkr 5 rfl (fun K hK=> ?_);go_simp;go_at_call 188;refine(zdx g s0 _ (HS0.2) HL0).mono ?_;rintro e w1 ⟨x1,he1,hx1,hst1,hss1⟩;obtain rfl:e= .returned (.agg x1):=he1;rw[show tkDe s0=(t1,s1) from HT1.out]at hss1 hx1;simp only at hss1 hx1;have HX1:=hD hx1;clear hx1;have hz1:=hss1.1.size;have hy0:=HS0.1.size;have HK1:Hid (yV (w.heap.size+1) w0 w1):=hD (HK0.trans (zh hss1.1 ja));have HS1:Hid (SsTo w g s1 w1):=hD (HS0.trans hss1);have HV1:=hD (HV0.grown hss1.1 ja);have hC1:=HCW.out w1 HK1.out;have HR1_1:=hD (hst1.low (b':=w.heap.size+1) (by have:=HV0.lt;omega));clear hst1;clear hss1;go_wp2_with fail;refine hK.out _ _ hC1 (fun hHeld=> ?_);clear hK K;try simp only[Act.put,qk1,qk2,qk3]
 refine takes [6] ?_;refine tkr 7 rfl (fun K hK=> ?_);rw[af ji];refine aQ 147 _ _ rfl w.heap.size 0 (hoC ⟨n0,x1⟩).toArray rfl rfl (HV1.there rfl) (zaW ⟨n0,x1⟩) (zeq ⟨n0,x1⟩) ?_;have hKe:yV (w.heap.size+1) w1 (w1.setCells w.heap.size 0 (hoC ⟨n0,x1⟩)):=zh (zb (b:=w.heap.size) _) ja;have hCe:=HCW.out _ (HK1.trans hKe);have HKe:=hD hKe;have HSe:=hD (HS1.own (zb (b:=w.heap.size) (hoC ⟨n0,x1⟩)) (ag _) ja);have HVe:=hD (HV1.sets (hoC ⟨n0,x1⟩) rfl);clear hKe;refine hK.out _ _ hCe (fun hHeld=> ?_);clear hK K;try simp only[Act.put,qk1]
 refine aB jb ?_ _;refine aA ?_;go_wp2_with fail;refine aj (v:= .agg (hoC ⟨n0,x1⟩).toArray) ?_ rfl (zfd (x:=⟨n0,x1⟩) HSpec rfl ?_ ?_ HSe)
 · exact zW results239 _ _ w.heap.size (hoC ⟨n0,x1⟩) _ rfl HVe.range underlying147 rfl (zaW ⟨n0,x1⟩)
 · show Ho.mk n0 x1.er=_;rw[HX1.out]
 · exact fun W hW=>⟨HN64 n0 jc,(HR1_1.on HKe).low ja W hW⟩
theorem partHo_any(g:Nat)(s:Sc)(t:List UInt8)(w:World)(hs:Ss w g s)
    (HF:∀q W,Ss W q ⟨t,false⟩→Calls prog 239 #[.pointer (some ⟨q,0,none⟩)] W (RetX hoC Ho.er Ho.ok q (tkHo ⟨t,false⟩) W)) :
    Calls prog 267 #[.pointer (some ⟨g,0,none⟩),t,.func (.func 239) #[] #[]] w (RetX hoC Ho.er Ho.ok g (yt tkHo t s) w):=by
 obtain⟨r,b⟩:=s;have hgl:=hs.lt;obtain⟨y,hy⟩:∃y,y=tkHo ⟨t,false⟩:=⟨_,rfl⟩;obtain⟨y1,r',b'⟩:=y;have HR:Hid (yt tkHo t ⟨r,b⟩=(y1,⟨r,b || b' || !r'.isEmpty⟩)):=hD jcp;have HFX:=hD HF;have HY:=hD hy;have HV0:=hD (Vr.new w [(),(),"","s"] 147);have HV1:=hD (HV0.below (za (w.alloc (.cells #[(),(),"","s"] 147)) (.cells #[t,false] 162)));have HS1:=hD (((SsTo.refl hs).alloc (.cells #[(),(),"","s"] 147)).alloc (.cells #[t,false] 162));have HQ1:=hD (Ss.new' (w.alloc (.cells #[(),(),"","s"] 147)) t false 162 (g:=w.heap.size+1) jc);have HZ1:Hid (((w.alloc (.cells #[(),(),"","s"] 147)).alloc (.cells #[t,false] 162)).heap.size=w.heap.size+2):=hD jc;clear hs hy HF HV0;go_in;go_wp2_with fail;refine(HFX (w.heap.size+1) _ HQ1).mono ?_;rintro e w2 ⟨x,he,hx,hst,hss⟩;rw[←HY.out]at hss hx;obtain rfl:e= .returned (.agg x):=he;rw[HZ1.out]at hst;have h2:=hss.1.size;rw[HZ1.out]at h2;have HV2:=hD ((HV1.grown hss.1 ja).below (za w2 (.cells x 147)));have HS2:=hD ((HS1.own hss.1 ja ja).alloc (.cells x 147));have HQ2:=hD (hss.2.alloc (.cells x 147));have HX2:=hD (Vr.new w2 (hoC x) 147);have HT2:=hD (hst.on (zl _ (za w2 (.cells x 147))));have HX:=hD hx;clear hx hst hss HV1 HS1 HQ1 HZ1;go_upto_region 3 with fail;generalize hw3:w2.alloc (.cells x 147)=w3 at HV2 HS2 HQ2 HT2;have HX3:Hid (Vr w3 w2.heap.size (hoC x)):=hD (hw3▸HX2.out);try rw[hw3]
 clear hw3 HX2;have c1:=HS2.2.c1;have f1:=HS2.2.f1;have dl:=HS2.2.lt;have q0:=HQ2.c0;have q1:=HQ2.c1;have ql:=HQ2.lt;simp only at c1 q0 q1;have HVz:Hid (∀v:Bool,Vr (w3.setCell ⟨g,1,none⟩ (.bool v)) w.heap.size [(),(),"","s"]):=hD (fun v=>HV2.grown (ze w3 ⟨g,1,none⟩ (.bool v)) jav);have HXz:Hid (∀v:Bool,Vr (w3.setCell ⟨g,1,none⟩ (.bool v)) w2.heap.size (hoC x)):=hD (fun v=>HX3.grown (ze w3 ⟨g,1,none⟩ (.bool v)) jcf);have HFin:Hid (∀v:Bool,v=(b || b' || !r'.isEmpty)→RetX hoC Ho.er Ho.ok g (yt tkHo t ⟨r,b⟩) w (.returned (.agg (hoC x).toArray)) ((w3.setCell ⟨g,1,none⟩ (.bool v)).setCells w.heap.size 0 (hoC x))):=hD (fun v hv=>
  zfd HR rfl HX (((HT2.on (zh (ze w3 ⟨g,1,none⟩ (.bool v)) jca)).on (zh (zb (b:=w.heap.size) (hoC x)) ja)).low ja)
   (((HS2.set1 v).own (zb (b:=w.heap.size) (hoC x)) (ag _) ja).eq (by rw[hv])))
 cases b
 · cases b'
   · cases r'
     · go_wp2_with (first
         |(refine ak rfl 147 _ rfl w2.heap.size 0 rfl (hoC x) _ (HXz false).range underlying147 rfl (zaW x) ?_)
         |(refine ai rfl 147 _ _ rfl w.heap.size 0 (hoC x).toArray rfl rfl ((HVz false).there rfl) (zaW x) (zeq x) ?_))
       refine aj (v:= .agg (hoC x).toArray) ?_ rfl (HFin false rfl);exact zW results267 _ _ w.heap.size (hoC x) _ rfl ((HVz false).sets (hoC x) rfl).range underlying147 rfl (zaW x)
     · exact fo63
   · exact fo63
 · go_wp2_with (first
     |(refine ak rfl 147 _ rfl w2.heap.size 0 rfl (hoC x) _ (HXz true).range underlying147 rfl (zaW x) ?_)
     |(refine ai rfl 147 _ _ rfl w.heap.size 0 (hoC x).toArray rfl rfl ((HVz true).there rfl) (zaW x) (zeq x) ?_))
   refine aj (v:= .agg (hoC x).toArray) ?_ rfl (HFin true jc);exact fo265
theorem infoHor:(prog.info? 147).map (fun i=>(i.zero,i.size,i.bytes))=some (some (.agg #[(),(),"","s"]),4,56):=by kernel_rfl
theorem partsHo_any(g:Nat)(s:Sc)(w:World)(hs:Ss w g s)(hl:s.rest.length≤268435456)
    (HF:∀t:List UInt8,t.length≤s.rest.length→∀q W,Ss W q ⟨t,false⟩→Calls prog 239 #[.pointer (some ⟨q,0,none⟩)] W (RetX hoC Ho.er Ho.ok q (tkHo ⟨t,false⟩) W)) :
    Calls prog 238 #[.pointer (some ⟨g,0,none⟩),.func (.func 239) #[] #[]] w (RetXs 4 hoC Ho.er Ho.ok g (yE tkHo s) w):=by
 have hgl:=hs.lt;have hz:=zcq s;have HTx:=hD (za6 g s w hs (ah hl jf));obtain⟨p,hp⟩:∃p,p=ZW s:=⟨_,rfl⟩;have HR:Hid (yE tkHo s=zaR tkHo p.1 p.2):=hD (by rw[hp];rfl);rw[←hp]at HTx hz;obtain⟨l,s1⟩:=p;simp only at hz HTx HR;have hln:l.length≤268435456:=by have:=Yg szS l 1 zbW;omega
 have HP:Hid (∀t∈l,∀s' W,Ss W g s'→Calls prog 267 #[.pointer (some ⟨g,0,none⟩),t,.func (.func 239) #[] #[]] W (RetX hoC Ho.er Ho.ok g (yt tkHo t s') W)):=
  hD (fun t ht s' W hW=>partHo_any g s' t W hW (HF t jbq))
 obtain⟨i0,hi,hz0,hz1,hz2⟩:=info_parts infoHor;have HI:=hD hi;have HZ0:=hD hz0;have HZ1:=hD hz1;have HZ2:=hD hz2;clear hi hz0 hz1 hz2 hs HF hp hz;go_in;go_wp2_with fail;refine HTx.mono ?_;rintro e w1 ⟨A,c,rfl,hr,h⟩;have HSt:=hD (PtSt.start (T:=147) (k:=4) (C:=hoC) (er:=Ho.er) (ok:=Ho.ok) (tk:=tkHo) hr h);have hB:w.heap.size≤w1.heap.size:=h.1.size;clear hr h;simp only;go_wp2_with fail;go_loopw [5,11] (fun o i wr=>∃(j:Nat) (xs:List Ho) (sj:Sc) (F:Nat→Prop),i= .int .i64 j∧j≤l.length∧PtSt 147 4 hoC Ho.er Ho.ok tkHo w w1.heap.size g A l s1 j o xs sj F wr) (fun _ i _=>l.length-(intOf i).toNat)
 case atStart=>exact⟨0,[],s1,_,rfl,by omega,HSt⟩
 case round=>
  obtain⟨j,xs,sj,F,rfl,hj,hst⟩:=hrel;have HJ:=hD hst;clear hst;by_cases hlt:j<l.length
  · have i0':(0:Int)≤(j:Int):=by omega
    have i1:(j:Int) <(l.length:Int):=by omega
    obtain⟨b,off,hA,hbl,hcc⟩:=HJ.foot.out.1.cells jcl;subst hA;obtain⟨t,ht⟩:∃t,t=l[j]:=⟨_,rfl⟩;have a0:wr.cell? ⟨b,off+j,none⟩=some (.string ⟨t.toArray⟩):=hcc j _ (by unfold strC;rw[bT,aP hlt,ht];rfl);have HTt:=hD ht;have HM:=hD (ht▸aH hlt:t∈l);clear ht hcc;go_wp2_with fail;refine(HP t HM sj wr HJ.src.2).mono ?_;rintro e w2 ⟨x,he,hx,hstx,hs2⟩;obtain rfl:e= .returned (.agg x):=he;have HO2:=hD (HJ.row ja hs2);have hz2:wr.heap.size≤w2.heap.size:=hs2.1.size;have hz3:w1.heap.size≤wr.heap.size:=HJ.size;have HX:=hD hx;have HTX:=hD hstx;have HS2:=hD hs2;clear hx hstx hs2 a0;go_wp2_with (at_builtin;refine cB _ rfl _ _ 34 rfl w1.heap.size 147 i0 _ 4 56 underlying34 HI HZ0 HZ1 HZ2 rfl jf _ _ _ rfl (HO2.alloc _) ⟨w2.heap.size,0,none⟩ 1 1 [x.slot,x.entry.view,x.entry.value,x.entry.cert] rfl rfl (zN _ _ _ _ rfl) jr jq ja jg ?_);intro v' w4 hown' hgrow _ hat;have HN:Hid (PtSt 147 4 hoC Ho.er Ho.ok tkHo w w1.heap.size g (some ⟨b,off,none⟩) l s1 (j+1) v' (xs++ [x]) (yt tkHo l[j] sj).2 (fun i=>F i∨(wr.heap.size≤i∧i<w2.heap.size)) w4):=hD
     (HJ.step hgl hB hlt jez HTX jdu (za w2 (.cells x 147)) jc hown' hgrow hat)
    exact fo70
  · exact fo57
theorem ZC(x:Sn):(prog.info? 36).map (·.size)=some (snC x).length:=by
 have:(prog.info? 36).map (·.size)=some 5:=by kernel_rfl
 exact this
theorem zac(x:Sn):(snC x).toArray.all (·.oneCell')=true:=by simp[snC,Sl.v,Value.oneCell']
theorem zep(g:Nat)(s:Sc)(w:World)(hs:Ss w g s)(hl:s.rest.length≤268435456) :
    Calls prog 190 #[.pointer (some ⟨g,0,none⟩)] w (RetX snC Sn.er Sn.ok g (tkSn s) w):=by
 have hgl:=hs.lt;have HTn:=zaq 1 s;obtain⟨n0,hn⟩:=zge _ HTn.1;obtain⟨s0,hs0⟩:∃s0,s0=(yT 1 s).2:=⟨_,rfl⟩;have HT0:Hid (yT 1 s=([n0],s0)):=hD jew;have HN64:Hid (∀x∈ [n0],I64 x):=hD jbp;have HL0:Hid (s0.rest.length≤268435456):=hD jdb;clear HTn hn hs0;obtain⟨t1,s1,ht1⟩:∃t s',yx s0=(t,s'):=⟨_,_,rfl⟩;have HL1:Hid (s1.rest.length≤268435456):=hD jbb;have HT1:=hD ht1;clear ht1;obtain⟨t2,s2,ht2⟩:∃t s',ZW s1=(t,s'):=⟨_,_,rfl⟩;have HL2:Hid (s2.rest.length≤268435456):=hD (by have h9:=Y8.len s1;rw[ht2]at h9;exact ah h9 HL1);have HT2:=hD ht2;clear ht2;obtain⟨t3,s3,ht3⟩:∃t s',yE tkSg s2=(t,s'):=⟨_,_,rfl⟩;have HL3:Hid (s3.rest.length≤268435456):=hD (by have h9:=(Yv ag_sg).len s2;rw[ht3]at h9;exact ah h9 HL2);have HT3:=hD ht3;clear ht3;obtain⟨t4,s4,ht4⟩:∃t s',yE tkHo s3=(t,s'):=⟨_,_,rfl⟩;have HL4:Hid (s4.rest.length≤268435456):=hD (by have h9:=(Yv ag_ho).len s3;rw[ht4]at h9;exact ah h9 HL3);have HT4:=hD ht4;clear ht4;have HSpec:Hid (tkSn s=(⟨n0,t1,Sl.of t2,Sl.of t3,Sl.of t4⟩,s4)):=hD (by
  unfold tkSn Zd zeL;simp only[HT0.out,HT1.out,HT2.out,HT3.out,HT4.out];rfl)
 have HVw:=hD (Vr.new w [(),"","s","s","s"] 36);have HSw:=hD ((SsTo.refl hs).below (((za w (.cells #[(),"","s","s","s"] 36))).drew));have HVd:=hD (HVw.below (ae _ _).drew);have hzd:(w.alloc (.cells #[(),"","s","s","s"] 36)).drew.heap.size=w.heap.size+1:=by simp
 have HZd:=hD hzd;clear hs HVw hzd;go_in;go_wp2_with fail;refine aD ?_;refine aC (S:=fun W=>True) jb trivial (fun hHeld=> ?_);refine takes [0,4,6,8,10] ?_;refine tkr 1 rfl (fun K hK=> ?_);go_simp;go_at_call 181;refine(zeT g s _ HSw.2 (ah hl jf)).mono ?_;rintro e w0 ⟨A,c,he,hst0,hss0⟩;rw[HT0.out]at he hst0 hss0;obtain rfl:e= .returned (.slice A 1 c):=he;simp only at hss0;rw[HZd.out]at hst0;have h0:=hss0.1.size;rw[HZd.out]at h0;have HS0:Hid (SsTo w g s0 w0):=hD (HSw.trans hss0);have HV0:=hD (HVd.grown hss0.1 ja);have HR0:=hD hst0;obtain⟨b,off,hA,hbl,hcc⟩:=yD hst0.out jc;subst hA;have HC0:Hid (w0.cell? ⟨b,off,none⟩=some (.int .i64 n0)):=hD (hcc 0 _ rfl);have HCW:Hid (∀W,yV (w.heap.size+1) w0 W→W.cell? ⟨b,off,none⟩=some (.int .i64 n0)):=hD (fun W hW=>fo263);clear hss0 hst0 hcc HSw HVd HZd;go_wp2_with fail;refine hK.out _ _ trivial (fun hHeld=> ?_);clear hK K;try simp only[Act.put,qk1,qk2,qk3]
 refine ZY (S':=fun W=>W.cell? ⟨b,off,none⟩=some (.int .i64 n0)) (fun _ _=>trivial) _ _ _ _ ?_;have hHeld2:=HC0.out;have HK0:=hD (yV.refl (w.heap.size+1) w0);refine takes [2,3] ?_;refine tkr 5 rfl (fun K hK=> ?_);go_simp;go_at_call 182;refine(Y9 g s0 _ (HS0.2) (ah HL0 jf)).mono ?_;rintro e w1 ⟨rfl,hss1⟩;rw[show yx s0=(t1,s1) from HT1.out]at hss1⊢;simp only at hss1⊢;have hz1:=hss1.1.size;have hy0:=HS0.1.size;have HK1:Hid (yV (w.heap.size+1) w0 w1):=hD (HK0.trans (zh hss1.1 ja));have HS1:Hid (SsTo w g s1 w1):=hD (HS0.trans hss1);have HV1:=hD (HV0.grown hss1.1 ja);have hC1:=HCW.out w1 HK1.out;clear hss1;go_wp2_with fail;refine hK.out _ _ hC1 (fun hHeld=> ?_);clear hK K;try simp only[Act.put,qk1,qk2,qk3]
 refine tkr 7 rfl (fun K hK=> ?_);go_simp;go_at_call 191;refine(za6 g s1 _ (HS1.2) (ah HL1 jf)).mono ?_;rintro e w2 ⟨a2,c2,he2,hst2,hss2⟩;rw[show ZW s1=(t2,s2) from HT2.out]at hss2 hst2 he2;simp only at hss2 hst2 he2;subst he2;have hz2:=hss2.1.size;have hy1:=HS1.1.size;have HK2:Hid (yV (w.heap.size+1) w0 w2):=hD (HK1.trans (zh hss2.1 ja));have HS2:Hid (SsTo w g s2 w2):=hD (HS1.trans hss2);have HV2:=hD (HV1.grown hss2.1 ja);have hC2:=HCW.out w2 HK2.out;have HR2_2:=hD (hst2.low (b':=w.heap.size+1) (by have:=HV1.lt;omega));clear hst2;clear hss2;go_wp2_with fail;refine hK.out _ _ hC2 (fun hHeld=> ?_);clear hK K;try simp only[Act.put,qk1,qk2,qk3]
 refine tkr 9 rfl (fun K hK=> ?_);go_simp;go_at_call 236;refine(zbC g s2 _ (HS2.2) HL2 (fun t ht q W hW=>YL q ⟨t,false⟩ W hW (ah (ah ht HL2) jf))).mono ?_;rintro e w3 ⟨x3,rfl,hx3,hst3,hss3⟩;rw[show yE tkSg s2=(t3,s3) from HT3.out]at hss3 hx3;simp only at hss3 hx3;have HX3:=hD hx3;clear hx3;have hz3:=hss3.1.size;have hy2:=HS2.1.size;have HK3:Hid (yV (w.heap.size+1) w0 w3):=hD (HK2.trans (zh hss3.1 ja));have HS3:Hid (SsTo w g s3 w3):=hD (HS2.trans hss3);have HV3:=hD (HV2.grown hss3.1 ja);have hC3:=HCW.out w3 HK3.out;have HR2_3:=hD (HR2_2.on (zh hss3.1 ja));have HR3_3:=hD (hst3.low (b':=w.heap.size+1) (by have:=HV2.lt;omega));clear hst3;clear hss3;go_wp2_with fail;refine hK.out _ _ hC3 (fun hHeld=> ?_);clear hK K;try simp only[Act.put,qk1,qk2,qk3]
 refine tkr 11 rfl (fun K hK=> ?_);go_simp;go_at_call 238;refine(partsHo_any g s3 _ (HS3.2) HL3 (fun t ht q W hW=>zeo q ⟨t,false⟩ W hW (ah ht HL3))).mono ?_;rintro e w4 ⟨x4,rfl,hx4,hst4,hss4⟩;rw[show yE tkHo s3=(t4,s4) from HT4.out]at hss4 hx4;simp only at hss4 hx4;have HX4:=hD hx4;clear hx4;have hz4:=hss4.1.size;have hy3:=HS3.1.size;have HK4:Hid (yV (w.heap.size+1) w0 w4):=hD (HK3.trans (zh hss4.1 ja));have HS4:Hid (SsTo w g s4 w4):=hD (HS3.trans hss4);have HV4:=hD (HV3.grown hss4.1 ja);have hC4:=HCW.out w4 HK4.out;have HR2_4:=hD (HR2_3.on (zh hss4.1 ja));have HR3_4:=hD (HR3_3.on (zh hss4.1 ja));have HR4_4:=hD (hst4.low (b':=w.heap.size+1) (by have:=HV3.lt;omega));clear hst4;clear hss4;go_wp2_with fail;refine hK.out _ _ hC4 (fun hHeld=> ?_);clear hK K;try simp only[Act.put,qk1,qk2,qk3]
 refine takes [12] ?_;refine tkr 13 rfl (fun K hK=> ?_);rw[af ji];refine aQ 36 _ _ rfl w.heap.size 0 (snC ⟨n0,t1,⟨a2,c2,t2⟩,x3,x4⟩).toArray rfl rfl (HV4.there rfl) (ZC ⟨n0,t1,⟨a2,c2,t2⟩,x3,x4⟩) (zac ⟨n0,t1,⟨a2,c2,t2⟩,x3,x4⟩) ?_;have hKe:yV (w.heap.size+1) w4 (w4.setCells w.heap.size 0 (snC ⟨n0,t1,⟨a2,c2,t2⟩,x3,x4⟩)):=zh (zb (b:=w.heap.size) _) ja;have hCe:=HCW.out _ (HK4.trans hKe);have HKe:=hD hKe;have HSe:=hD (HS4.own (zb (b:=w.heap.size) (snC ⟨n0,t1,⟨a2,c2,t2⟩,x3,x4⟩)) (ag _) ja);have HVe:=hD (HV4.sets (snC ⟨n0,t1,⟨a2,c2,t2⟩,x3,x4⟩) rfl);clear hKe;refine hK.out _ _ hCe (fun hHeld=> ?_);clear hK K;try simp only[Act.put,qk1]
 refine aB jb ?_ _;refine aA ?_;go_wp2_with fail;refine aj (v:= .agg (snC ⟨n0,t1,⟨a2,c2,t2⟩,x3,x4⟩).toArray) ?_ rfl (zfd (x:=⟨n0,t1,⟨a2,c2,t2⟩,x3,x4⟩) HSpec rfl ?_ ?_ HSe)
 · exact zW results190 _ _ w.heap.size (snC ⟨n0,t1,⟨a2,c2,t2⟩,x3,x4⟩) _ rfl HVe.range underlying36 rfl (ZC ⟨n0,t1,⟨a2,c2,t2⟩,x3,x4⟩)
 · show Sn.mk n0 t1 (Sl.er ⟨a2,c2,t2⟩) x3.er (Sl.of (x4.l.map Ho.er))=_;have h3:=HX3.out;rw[fT]at h3;rw[HX4.out,Sl.er,Sl.er,h3];rfl
 · exact fun W hW=>⟨HN64 n0 jc,by have h9:=(HR2_4.on HKe).low (b':=w.heap.size) ja W hW;show Rd W 1 a2 t2.length (t2.flatMap strV);rw[zbg];exact h9,(HR3_4.on HKe).low ja W hW,(HR4_4.on HKe).low ja W hW⟩
theorem partSn_any(g:Nat)(s:Sc)(t:List UInt8)(w:World)(hs:Ss w g s)
    (HF:∀q W,Ss W q ⟨t,false⟩→Calls prog 190 #[.pointer (some ⟨q,0,none⟩)] W (RetX snC Sn.er Sn.ok q (tkSn ⟨t,false⟩) W)) :
    Calls prog 189 #[.pointer (some ⟨g,0,none⟩),t,.func (.func 190) #[] #[]] w (RetX snC Sn.er Sn.ok g (yt tkSn t s) w):=by
 obtain⟨r,b⟩:=s;have hgl:=hs.lt;obtain⟨y,hy⟩:∃y,y=tkSn ⟨t,false⟩:=⟨_,rfl⟩;obtain⟨y1,r',b'⟩:=y;have HR:Hid (yt tkSn t ⟨r,b⟩=(y1,⟨r,b || b' || !r'.isEmpty⟩)):=hD jcp;have HFX:=hD HF;have HY:=hD hy;have HV0:=hD (Vr.new w [(),"","s","s","s"] 36);have HV1:=hD (HV0.below (za (w.alloc (.cells #[(),"","s","s","s"] 36)) (.cells #[t,false] 162)));have HS1:=hD (((SsTo.refl hs).alloc (.cells #[(),"","s","s","s"] 36)).alloc (.cells #[t,false] 162));have HQ1:=hD (Ss.new' (w.alloc (.cells #[(),"","s","s","s"] 36)) t false 162 (g:=w.heap.size+1) jc);have HZ1:Hid (((w.alloc (.cells #[(),"","s","s","s"] 36)).alloc (.cells #[t,false] 162)).heap.size=w.heap.size+2):=hD jc;clear hs hy HF HV0;go_in;go_wp2_with fail;refine(HFX (w.heap.size+1) _ HQ1).mono ?_;rintro e w2 ⟨x,he,hx,hst,hss⟩;rw[←HY.out]at hss hx;obtain rfl:e= .returned (.agg x):=he;rw[HZ1.out]at hst;have h2:=hss.1.size;rw[HZ1.out]at h2;have HV2:=hD ((HV1.grown hss.1 ja).below (za w2 (.cells x 36)));have HS2:=hD ((HS1.own hss.1 ja ja).alloc (.cells x 36));have HQ2:=hD (hss.2.alloc (.cells x 36));have HX2:=hD (Vr.new w2 (snC x) 36);have HT2:=hD (hst.on (zl _ (za w2 (.cells x 36))));have HX:=hD hx;clear hx hst hss HV1 HS1 HQ1 HZ1;go_upto_region 3 with fail;generalize hw3:w2.alloc (.cells x 36)=w3 at HV2 HS2 HQ2 HT2;have HX3:Hid (Vr w3 w2.heap.size (snC x)):=hD (hw3▸HX2.out);try rw[hw3]
 clear hw3 HX2;have c1:=HS2.2.c1;have f1:=HS2.2.f1;have dl:=HS2.2.lt;have q0:=HQ2.c0;have q1:=HQ2.c1;have ql:=HQ2.lt;simp only at c1 q0 q1;have HVz:Hid (∀v:Bool,Vr (w3.setCell ⟨g,1,none⟩ (.bool v)) w.heap.size [(),"","s","s","s"]):=hD (fun v=>HV2.grown (ze w3 ⟨g,1,none⟩ (.bool v)) jav);have HXz:Hid (∀v:Bool,Vr (w3.setCell ⟨g,1,none⟩ (.bool v)) w2.heap.size (snC x)):=hD (fun v=>HX3.grown (ze w3 ⟨g,1,none⟩ (.bool v)) jcf);have HFin:Hid (∀v:Bool,v=(b || b' || !r'.isEmpty)→RetX snC Sn.er Sn.ok g (yt tkSn t ⟨r,b⟩) w (.returned (.agg (snC x).toArray)) ((w3.setCell ⟨g,1,none⟩ (.bool v)).setCells w.heap.size 0 (snC x))):=hD (fun v hv=>
  zfd HR rfl HX (((HT2.on (zh (ze w3 ⟨g,1,none⟩ (.bool v)) jca)).on (zh (zb (b:=w.heap.size) (snC x)) ja)).low ja)
   (((HS2.set1 v).own (zb (b:=w.heap.size) (snC x)) (ag _) ja).eq (by rw[hv])))
 cases b
 · cases b'
   · cases r'
     · go_wp2_with (first
         |(refine ak rfl 36 _ rfl w2.heap.size 0 rfl (snC x) _ (HXz false).range underlying36 rfl (ZC x) ?_)
         |(refine ai rfl 36 _ _ rfl w.heap.size 0 (snC x).toArray rfl rfl ((HVz false).there rfl) (ZC x) (zac x) ?_))
       refine aj (v:= .agg (snC x).toArray) ?_ rfl (HFin false rfl);exact zW results189 _ _ w.heap.size (snC x) _ rfl ((HVz false).sets (snC x) rfl).range underlying36 rfl (ZC x)
     · exact fo67
   · exact fo67
 · go_wp2_with (first
     |(refine ak rfl 36 _ rfl w2.heap.size 0 rfl (snC x) _ (HXz true).range underlying36 rfl (ZC x) ?_)
     |(refine ai rfl 36 _ _ rfl w.heap.size 0 (snC x).toArray rfl rfl ((HVz true).there rfl) (ZC x) (zac x) ?_))
   refine aj (v:= .agg (snC x).toArray) ?_ rfl (HFin true jc);exact fo268
