/- The reference's ints. -/
import Derived.Test.YtepbbaifpckcpaaGreatDoorPR1
open Go.Proofs.Tryz
namespace Go.Proofs.YtepbbaifpckcpaaGreatDoor
set_option maxRecDepth 100000
set_option maxHeartbeats 2000000
open Go.RowKit
theorem zaM(r:Rc)(w:World)(hl:r.s.length≤268435456) :
    Calls prog 129 #[.agg #[r.s,r.ok],.int .i64 1] w (RetRI (yK 1 r) w):=by
 obtain⟨s,b⟩:=r;simp only at hl;have hlen:(ByteArray.mk s.toArray).size≤268435456:=by rw[size_mk];exact hl
 have HR0:=hD ((Vr.new w (rcC ⟨s,b⟩) 167).below (za (w.alloc (.cells (rcC ⟨s,b⟩).toArray 167)) (.cells (rcC Rc.fail).toArray 167)));have HQ0:=hD (Vr.new' (w.alloc (.cells (rcC ⟨s,b⟩).toArray 167)) (rcC Rc.fail) 167 (b:=w.heap.size+1) jc);have HB0:=hD (bon (za w (.cells (rcC ⟨s,b⟩).toArray 167)) (za (w.alloc (.cells (rcC ⟨s,b⟩).toArray 167)) (.cells (rcC Rc.fail).toArray 167)));have HA:Hid (∀W,Calls prog 196 #[s] W (RetN s W)):=hD (fun W=>by have:=YU ⟨s.toArray⟩ W (ah hlen jf);simpa using this);cases hg:zy s with
 |none=>
  have HS:Hid (yK 1 ⟨s,b⟩=(List.replicate 1 0,Rc.fail)):=hD (zbQ _ (by unfold Zc off;rw[hg]) b);have HG:Hid (zy s=none):=hD hg;clear hg;go_in;go_wp2_with fail;refine(zau (HA _) HG).mono ?_;rintro e w1 ⟨⟨c,hc,rfl⟩,hb⟩;have hc1:(c == 0)=false:=by simpa using hc
  have hc2:(c != 0)=true:=by simpa using hc
  have HR1:=hD (HR0.below hb);have HQ1:=hD (HQ0.below hb);have HB1:=hD (bon HB0 hb);have hz1:w.heap.size+2≤w1.heap.size:=by have:=hb.size;simpa using this
  have c0:=HR1.cells 0 _ rfl;have c1:=HR1.cells 1 _ rfl;have hmk:=mk1;clear hb;exact fo44
 |some y=>
  obtain⟨x,k⟩:=y;have hk:k≤s.length:=YQ hg;have HG:Hid (zy s=some (x,k)):=hD hg;by_cases hn:x.length=1
  · have HP:Hid (Zc 1 s=some (x,s.drop k)):=hD jcz;have HX:=hD (ext_list s k hk);have HN:=hD hn;clear hg hn;cases b with
    |false=>
     have HS:Hid (yK 1 ⟨s,false⟩=(List.replicate 1 0,Rc.fail)):=hD rfl;go_in;go_wp2_with fail;refine(Yt (HA _) HG HN).mono ?_;rintro e w1 ⟨⟨A,c,rfl,hr⟩,hb⟩;have HR1:=hD (HR0.below hb);have HQ1:=hD (HQ0.below hb);have HB1:=hD (bon HB0 hb);have hz1:w.heap.size+2≤w1.heap.size:=by have:=hb.size;simpa using this
     have c0:=HR1.cells 0 _ rfl;have c1:=HR1.cells 1 _ rfl;have hmk:=mk1;clear hb hr;have HQ2:=hD (HQ1.below (za w1 (.cells (intC (List.replicate 1 0)).toArray 3)));have HB2:=hD (bon HB1 (za w1 (.cells (intC (List.replicate 1 0)).toArray 3)));have HRow:=hD (Yx (b:=w.heap.size+2) (k:=1) (n:=1) (cs:=intC (List.replicate 1 0)) (T:=3) (w:=w1) rfl hz1);have HBe:=hD (zf HB2 (zb (b:=w.heap.size+1) (rcC Rc.fail)) ja);have HQe:=hD (HQ2.sets (rcC Rc.fail) rfl);have HRe:=hD ((HRow.on (zh (zb (b:=w.heap.size+1) (rcC Rc.fail)) ja)).low (b':=w.heap.size) ja);go_wp2_with (refine ai rfl 167 _ _ rfl (w.heap.size+1) 0 (rcC Rc.fail).toArray rfl rfl (HQ2.there (n:=2) rfl) (zt Rc.fail) (zO Rc.fail) ?_);refine aj (v:= .tuple #[.slice (some ⟨w1.heap.size,0,none⟩) 1 1,.agg (rcC Rc.fail).toArray]) ?_ rfl (zcU (r':=(List.replicate 1 0,Rc.fail)) HS rfl HRe HBe);exact fo110
    |true=>
     have HS:Hid (yK 1 ⟨s,true⟩=(x,⟨s.drop k,true⟩)):=hD (zfC _ HP);go_in;go_wp2_with fail;refine(Yt (HA _) HG HN).mono ?_;rintro e w1 ⟨⟨A,c,rfl,hr⟩,hb⟩;have HR1:=hD (HR0.below hb);have HQ1:=hD (HQ0.below hb);have HB1:=hD (bon HB0 hb);have hz1:w.heap.size+2≤w1.heap.size:=by have:=hb.size;simpa using this
     have c0:=HR1.cells 0 _ rfl;have c1:=HR1.cells 1 _ rfl;have hmk:=mk1;have HRow0:=hD ((Yd (b:=w.heap.size+2) hr jc).on (zl _ (ae _ _).drew));clear hb hr;go_wp2_with fail;have HR2:=hD (HR1.below (ae _ _).drew);have HQ2:=hD (HQ1.below (ae _ _).drew);have HB2:=hD (HB1.drew);have i0:(0:Int)≤(k:Int):=by omega
     have i1:(k:Int)≤(s.length:Int):=by omega
     refine aD ?_;generalize hv:w1.drew=v at HR2 HQ2 HB2 HRow0;have hC:=HR2.cells 0 _ rfl;refine aC (S:=fun W=>W.cell? ⟨w.heap.size,0,none⟩=some (.string ⟨s.toArray⟩)) jb jar (fun hHeld=> ?_);rw[hv]at hHeld⊢;clear hv;refine takes [0,1,2,3,4,5,6] ?_;refine tkr 7 rfl (fun K hK=> ?_);rw[af ji];refine aQ 167 _ _ rfl (w.heap.size+1) 0 (rcC ⟨s.drop k,true⟩).toArray rfl jae (HQ2.there (n:=2) rfl) (zt ⟨s.drop k,true⟩) (zO ⟨s.drop k,true⟩) ?_;have hC2:=(HR2.grown (zb (b:=w.heap.size+1) (rcC ⟨s.drop k,true⟩)) ja).cells 0 _ rfl;have HBe:=hD (zf HB2 (zb (b:=w.heap.size+1) (rcC ⟨s.drop k,true⟩)) ja);have HQe:=hD (HQ2.sets (rcC ⟨s.drop k,true⟩) rfl);have HRe:=hD ((HRow0.on (zh (zb (b:=w.heap.size+1) (rcC ⟨s.drop k,true⟩)) ja)).low (b':=w.heap.size) ja);refine hK.out _ _ hC2 (fun hHeld=> ?_);clear hK K;try simp only[Act.put,qk4,qk5,qk6]
     refine aB jb ?_ _;refine aA ?_;go_wp2_with fail;refine aj (v:= .tuple #[.slice A 1 c,.agg (rcC ⟨s.drop k,true⟩).toArray]) ?_ rfl (zcU (r':=(x,⟨s.drop k,true⟩)) HS HN.symm (by rw[HN.out];exact HRe) HBe);exact fo99
  · have HS:Hid (yK 1 ⟨s,b⟩=(List.replicate 1 0,Rc.fail)):=hD (zbQ _ jda b);have hn1:((x.length:Int) == 1)=false:=by rw[aF];omega
    have hn2:((x.length:Int) != 1)=true:=by rw[bO];omega
    clear hg hn;go_in;go_wp2_with fail;refine(YX (HA _) HG).mono ?_;rintro e w1 ⟨⟨A,c,rfl,hr⟩,hb⟩;have HR1:=hD (HR0.below hb);have HQ1:=hD (HQ0.below hb);have HB1:=hD (bon HB0 hb);have hz1:w.heap.size+2≤w1.heap.size:=by have:=hb.size;simpa using this
    have c0:=HR1.cells 0 _ rfl;have c1:=HR1.cells 1 _ rfl;have hmk:=mk1;clear hb hr;exact fo44
theorem refInts4_any(r:Rc)(w:World)(hl:r.s.length≤268435456) :
    Calls prog 129 #[.agg #[r.s,r.ok],.int .i64 4] w (RetRI (yK 4 r) w):=by
 obtain⟨s,b⟩:=r;simp only at hl;have hlen:(ByteArray.mk s.toArray).size≤268435456:=by rw[size_mk];exact hl
 have HR0:=hD ((Vr.new w (rcC ⟨s,b⟩) 167).below (za (w.alloc (.cells (rcC ⟨s,b⟩).toArray 167)) (.cells (rcC Rc.fail).toArray 167)));have HQ0:=hD (Vr.new' (w.alloc (.cells (rcC ⟨s,b⟩).toArray 167)) (rcC Rc.fail) 167 (b:=w.heap.size+1) jc);have HB0:=hD (bon (za w (.cells (rcC ⟨s,b⟩).toArray 167)) (za (w.alloc (.cells (rcC ⟨s,b⟩).toArray 167)) (.cells (rcC Rc.fail).toArray 167)));have HA:Hid (∀W,Calls prog 196 #[s] W (RetN s W)):=hD (fun W=>by have:=YU ⟨s.toArray⟩ W (ah hlen jf);simpa using this);cases hg:zy s with
 |none=>
  have HS:Hid (yK 4 ⟨s,b⟩=(List.replicate 4 0,Rc.fail)):=hD (zbQ _ (by unfold Zc off;rw[hg]) b);have HG:Hid (zy s=none):=hD hg;clear hg;go_in;go_wp2_with fail;refine(zau (HA _) HG).mono ?_;rintro e w1 ⟨⟨c,hc,rfl⟩,hb⟩;have hc1:(c == 0)=false:=by simpa using hc
  have hc2:(c != 0)=true:=by simpa using hc
  have HR1:=hD (HR0.below hb);have HQ1:=hD (HQ0.below hb);have HB1:=hD (bon HB0 hb);have hz1:w.heap.size+2≤w1.heap.size:=by have:=hb.size;simpa using this
  have c0:=HR1.cells 0 _ rfl;have c1:=HR1.cells 1 _ rfl;have hmk:=mk4;clear hb;exact fo43
 |some y=>
  obtain⟨x,k⟩:=y;have hk:k≤s.length:=YQ hg;have HG:Hid (zy s=some (x,k)):=hD hg;by_cases hn:x.length=4
  · have HP:Hid (Zc 4 s=some (x,s.drop k)):=hD jcz;have HX:=hD (ext_list s k hk);have HN:=hD hn;clear hg hn;cases b with
    |false=>
     have HS:Hid (yK 4 ⟨s,false⟩=(List.replicate 4 0,Rc.fail)):=hD rfl;go_in;go_wp2_with fail;refine(Yt (HA _) HG HN).mono ?_;rintro e w1 ⟨⟨A,c,rfl,hr⟩,hb⟩;have HR1:=hD (HR0.below hb);have HQ1:=hD (HQ0.below hb);have HB1:=hD (bon HB0 hb);have hz1:w.heap.size+2≤w1.heap.size:=by have:=hb.size;simpa using this
     have c0:=HR1.cells 0 _ rfl;have c1:=HR1.cells 1 _ rfl;have hmk:=mk4;clear hb hr;have HQ2:=hD (HQ1.below (za w1 (.cells (intC (List.replicate 4 0)).toArray 3)));have HB2:=hD (bon HB1 (za w1 (.cells (intC (List.replicate 4 0)).toArray 3)));have HRow:=hD (Yx (b:=w.heap.size+2) (k:=1) (n:=4) (cs:=intC (List.replicate 4 0)) (T:=3) (w:=w1) rfl hz1);have HBe:=hD (zf HB2 (zb (b:=w.heap.size+1) (rcC Rc.fail)) ja);have HQe:=hD (HQ2.sets (rcC Rc.fail) rfl);have HRe:=hD ((HRow.on (zh (zb (b:=w.heap.size+1) (rcC Rc.fail)) ja)).low (b':=w.heap.size) ja);go_wp2_with (refine ai rfl 167 _ _ rfl (w.heap.size+1) 0 (rcC Rc.fail).toArray rfl rfl (HQ2.there (n:=2) rfl) (zt Rc.fail) (zO Rc.fail) ?_);refine aj (v:= .tuple #[.slice (some ⟨w1.heap.size,0,none⟩) 4 4,.agg (rcC Rc.fail).toArray]) ?_ rfl (zcU (r':=(List.replicate 4 0,Rc.fail)) HS rfl HRe HBe);exact fo110
    |true=>
     have HS:Hid (yK 4 ⟨s,true⟩=(x,⟨s.drop k,true⟩)):=hD (zfC _ HP);go_in;go_wp2_with fail;refine(Yt (HA _) HG HN).mono ?_;rintro e w1 ⟨⟨A,c,rfl,hr⟩,hb⟩;have HR1:=hD (HR0.below hb);have HQ1:=hD (HQ0.below hb);have HB1:=hD (bon HB0 hb);have hz1:w.heap.size+2≤w1.heap.size:=by have:=hb.size;simpa using this
     have c0:=HR1.cells 0 _ rfl;have c1:=HR1.cells 1 _ rfl;have hmk:=mk4;have HRow0:=hD ((Yd (b:=w.heap.size+2) hr jc).on (zl _ (ae _ _).drew));clear hb hr;go_wp2_with fail;have HR2:=hD (HR1.below (ae _ _).drew);have HQ2:=hD (HQ1.below (ae _ _).drew);have HB2:=hD (HB1.drew);have i0:(0:Int)≤(k:Int):=by omega
     have i1:(k:Int)≤(s.length:Int):=by omega
     refine aD ?_;generalize hv:w1.drew=v at HR2 HQ2 HB2 HRow0;have hC:=HR2.cells 0 _ rfl;refine aC (S:=fun W=>W.cell? ⟨w.heap.size,0,none⟩=some (.string ⟨s.toArray⟩)) jb jar (fun hHeld=> ?_);rw[hv]at hHeld⊢;clear hv;refine takes [0,1,2,3,4,5,6] ?_;refine tkr 7 rfl (fun K hK=> ?_);rw[af ji];refine aQ 167 _ _ rfl (w.heap.size+1) 0 (rcC ⟨s.drop k,true⟩).toArray rfl jae (HQ2.there (n:=2) rfl) (zt ⟨s.drop k,true⟩) (zO ⟨s.drop k,true⟩) ?_;have hC2:=(HR2.grown (zb (b:=w.heap.size+1) (rcC ⟨s.drop k,true⟩)) ja).cells 0 _ rfl;have HBe:=hD (zf HB2 (zb (b:=w.heap.size+1) (rcC ⟨s.drop k,true⟩)) ja);have HQe:=hD (HQ2.sets (rcC ⟨s.drop k,true⟩) rfl);have HRe:=hD ((HRow0.on (zh (zb (b:=w.heap.size+1) (rcC ⟨s.drop k,true⟩)) ja)).low (b':=w.heap.size) ja);refine hK.out _ _ hC2 (fun hHeld=> ?_);clear hK K;try simp only[Act.put,qk4,qk5,qk6]
     refine aB jb ?_ _;refine aA ?_;go_wp2_with fail;refine aj (v:= .tuple #[.slice A 4 c,.agg (rcC ⟨s.drop k,true⟩).toArray]) ?_ rfl (zcU (r':=(x,⟨s.drop k,true⟩)) HS HN.symm (by rw[HN.out];exact HRe) HBe);exact fo99
  · have HS:Hid (yK 4 ⟨s,b⟩=(List.replicate 4 0,Rc.fail)):=hD (zbQ _ jda b);have hn1:((x.length:Int) == 4)=false:=by rw[aF];omega
    have hn2:((x.length:Int) != 4)=true:=by rw[bO];omega
    clear hg hn;go_in;go_wp2_with fail;refine(YX (HA _) HG).mono ?_;rintro e w1 ⟨⟨A,c,rfl,hr⟩,hb⟩;have HR1:=hD (HR0.below hb);have HQ1:=hD (HQ0.below hb);have HB1:=hD (bon HB0 hb);have hz1:w.heap.size+2≤w1.heap.size:=by have:=hb.size;simpa using this
    have c0:=HR1.cells 0 _ rfl;have c1:=HR1.cells 1 _ rfl;have hmk:=mk4;clear hb hr;exact fo43
theorem refInts6_any(r:Rc)(w:World)(hl:r.s.length≤268435456) :
    Calls prog 129 #[.agg #[r.s,r.ok],.int .i64 6] w (RetRI (yK 6 r) w):=by
 obtain⟨s,b⟩:=r;simp only at hl;have hlen:(ByteArray.mk s.toArray).size≤268435456:=by rw[size_mk];exact hl
 have HR0:=hD ((Vr.new w (rcC ⟨s,b⟩) 167).below (za (w.alloc (.cells (rcC ⟨s,b⟩).toArray 167)) (.cells (rcC Rc.fail).toArray 167)));have HQ0:=hD (Vr.new' (w.alloc (.cells (rcC ⟨s,b⟩).toArray 167)) (rcC Rc.fail) 167 (b:=w.heap.size+1) jc);have HB0:=hD (bon (za w (.cells (rcC ⟨s,b⟩).toArray 167)) (za (w.alloc (.cells (rcC ⟨s,b⟩).toArray 167)) (.cells (rcC Rc.fail).toArray 167)));have HA:Hid (∀W,Calls prog 196 #[s] W (RetN s W)):=hD (fun W=>by have:=YU ⟨s.toArray⟩ W (ah hlen jf);simpa using this);cases hg:zy s with
 |none=>
  have HS:Hid (yK 6 ⟨s,b⟩=(List.replicate 6 0,Rc.fail)):=hD (zbQ _ (by unfold Zc off;rw[hg]) b);have HG:Hid (zy s=none):=hD hg;clear hg;go_in;go_wp2_with fail;refine(zau (HA _) HG).mono ?_;rintro e w1 ⟨⟨c,hc,rfl⟩,hb⟩;have hc1:(c == 0)=false:=by simpa using hc
  have hc2:(c != 0)=true:=by simpa using hc
  have HR1:=hD (HR0.below hb);have HQ1:=hD (HQ0.below hb);have HB1:=hD (bon HB0 hb);have hz1:w.heap.size+2≤w1.heap.size:=by have:=hb.size;simpa using this
  have c0:=HR1.cells 0 _ rfl;have c1:=HR1.cells 1 _ rfl;have hmk:=mk6;clear hb;exact fo42
 |some y=>
  obtain⟨x,k⟩:=y;have hk:k≤s.length:=YQ hg;have HG:Hid (zy s=some (x,k)):=hD hg;by_cases hn:x.length=6
  · have HP:Hid (Zc 6 s=some (x,s.drop k)):=hD jcz;have HX:=hD (ext_list s k hk);have HN:=hD hn;clear hg hn;cases b with
    |false=>
     have HS:Hid (yK 6 ⟨s,false⟩=(List.replicate 6 0,Rc.fail)):=hD rfl;go_in;go_wp2_with fail;refine(Yt (HA _) HG HN).mono ?_;rintro e w1 ⟨⟨A,c,rfl,hr⟩,hb⟩;have HR1:=hD (HR0.below hb);have HQ1:=hD (HQ0.below hb);have HB1:=hD (bon HB0 hb);have hz1:w.heap.size+2≤w1.heap.size:=by have:=hb.size;simpa using this
     have c0:=HR1.cells 0 _ rfl;have c1:=HR1.cells 1 _ rfl;have hmk:=mk6;clear hb hr;have HQ2:=hD (HQ1.below (za w1 (.cells (intC (List.replicate 6 0)).toArray 3)));have HB2:=hD (bon HB1 (za w1 (.cells (intC (List.replicate 6 0)).toArray 3)));have HRow:=hD (Yx (b:=w.heap.size+2) (k:=1) (n:=6) (cs:=intC (List.replicate 6 0)) (T:=3) (w:=w1) rfl hz1);have HBe:=hD (zf HB2 (zb (b:=w.heap.size+1) (rcC Rc.fail)) ja);have HQe:=hD (HQ2.sets (rcC Rc.fail) rfl);have HRe:=hD ((HRow.on (zh (zb (b:=w.heap.size+1) (rcC Rc.fail)) ja)).low (b':=w.heap.size) ja);go_wp2_with (refine ai rfl 167 _ _ rfl (w.heap.size+1) 0 (rcC Rc.fail).toArray rfl rfl (HQ2.there (n:=2) rfl) (zt Rc.fail) (zO Rc.fail) ?_);refine aj (v:= .tuple #[.slice (some ⟨w1.heap.size,0,none⟩) 6 6,.agg (rcC Rc.fail).toArray]) ?_ rfl (zcU (r':=(List.replicate 6 0,Rc.fail)) HS rfl HRe HBe);exact fo110
    |true=>
     have HS:Hid (yK 6 ⟨s,true⟩=(x,⟨s.drop k,true⟩)):=hD (zfC _ HP);go_in;go_wp2_with fail;refine(Yt (HA _) HG HN).mono ?_;rintro e w1 ⟨⟨A,c,rfl,hr⟩,hb⟩;have HR1:=hD (HR0.below hb);have HQ1:=hD (HQ0.below hb);have HB1:=hD (bon HB0 hb);have hz1:w.heap.size+2≤w1.heap.size:=by have:=hb.size;simpa using this
     have c0:=HR1.cells 0 _ rfl;have c1:=HR1.cells 1 _ rfl;have hmk:=mk6;have HRow0:=hD ((Yd (b:=w.heap.size+2) hr jc).on (zl _ (ae _ _).drew));clear hb hr;go_wp2_with fail;have HR2:=hD (HR1.below (ae _ _).drew);have HQ2:=hD (HQ1.below (ae _ _).drew);have HB2:=hD (HB1.drew);have i0:(0:Int)≤(k:Int):=by omega
     have i1:(k:Int)≤(s.length:Int):=by omega
     refine aD ?_;generalize hv:w1.drew=v at HR2 HQ2 HB2 HRow0;have hC:=HR2.cells 0 _ rfl;refine aC (S:=fun W=>W.cell? ⟨w.heap.size,0,none⟩=some (.string ⟨s.toArray⟩)) jb jar (fun hHeld=> ?_);rw[hv]at hHeld⊢;clear hv;refine takes [0,1,2,3,4,5,6] ?_;refine tkr 7 rfl (fun K hK=> ?_);rw[af ji];refine aQ 167 _ _ rfl (w.heap.size+1) 0 (rcC ⟨s.drop k,true⟩).toArray rfl jae (HQ2.there (n:=2) rfl) (zt ⟨s.drop k,true⟩) (zO ⟨s.drop k,true⟩) ?_;have hC2:=(HR2.grown (zb (b:=w.heap.size+1) (rcC ⟨s.drop k,true⟩)) ja).cells 0 _ rfl;have HBe:=hD (zf HB2 (zb (b:=w.heap.size+1) (rcC ⟨s.drop k,true⟩)) ja);have HQe:=hD (HQ2.sets (rcC ⟨s.drop k,true⟩) rfl);have HRe:=hD ((HRow0.on (zh (zb (b:=w.heap.size+1) (rcC ⟨s.drop k,true⟩)) ja)).low (b':=w.heap.size) ja);refine hK.out _ _ hC2 (fun hHeld=> ?_);clear hK K;try simp only[Act.put,qk4,qk5,qk6]
     refine aB jb ?_ _;refine aA ?_;go_wp2_with fail;refine aj (v:= .tuple #[.slice A 6 c,.agg (rcC ⟨s.drop k,true⟩).toArray]) ?_ rfl (zcU (r':=(x,⟨s.drop k,true⟩)) HS HN.symm (by rw[HN.out];exact HRe) HBe);exact fo99
  · have HS:Hid (yK 6 ⟨s,b⟩=(List.replicate 6 0,Rc.fail)):=hD (zbQ _ jda b);have hn1:((x.length:Int) == 6)=false:=by rw[aF];omega
    have hn2:((x.length:Int) != 6)=true:=by rw[bO];omega
    clear hg hn;go_in;go_wp2_with fail;refine(YX (HA _) HG).mono ?_;rintro e w1 ⟨⟨A,c,rfl,hr⟩,hb⟩;have HR1:=hD (HR0.below hb);have HQ1:=hD (HQ0.below hb);have HB1:=hD (bon HB0 hb);have hz1:w.heap.size+2≤w1.heap.size:=by have:=hb.size;simpa using this
    have c0:=HR1.cells 0 _ rfl;have c1:=HR1.cells 1 _ rfl;have hmk:=mk6;clear hb hr;exact fo42
def RetRX{α:Type}(C:α→List Value)(er:α→α)(ok:α→World→Prop)(r:α × Rc)(w:World)(e:Ending)(w':World):Prop:=
 ∃x,e= .returned (.tuple #[.agg (C x).toArray,.agg (rcC r.2).toArray])∧er x=r.1∧yG w.heap.size (ok x) w'∧Below w.heap.size w w'
variable{w w':World}
theorem zfe{α:Type}{C:α→List Value}{er:α→α}{ok:α→World→Prop}{r r':α × Rc}{e:Ending}{x:α}(h:r=r')(he:e= .returned (.tuple #[.agg (C x).toArray,.agg (rcC r'.2).toArray]))(hx:er x=r'.1)(hst:yG w.heap.size (ok x) w')(hs:Below w.heap.size w w'):RetRX C er ok r w e w':=by
 subst h;exact⟨x,he,hx,hst,hs⟩
def RetRSgs(r:List Sg × Rc)(w:World)(e:Ending)(w':World):Prop:=
 ∃A c,e= .returned (.tuple #[.slice A r.1.length c,.agg (rcC r.2).toArray])∧yG w.heap.size (fun w=>Rd w 6 A r.1.length (r.1.flatMap sgC)∧∀x∈r.1,x.ok) w'∧Below w.heap.size w w'
theorem ret_rsgs{r r':List Sg × Rc}{A:Option Addr}{n c:Nat}(h:r=r')(hn:n=r'.1.length)(hr:yG w.heap.size (fun w=>Rd w 6 A r'.1.length (r'.1.flatMap sgC)∧∀x∈r'.1,x.ok) w')(k:Below w.heap.size w w'):RetRSgs r w (.returned (.tuple #[.slice A n c,.agg (rcC r'.2).toArray])) w':=by subst h hn;exact⟨A,c,rfl,hr,k⟩
theorem zeJ{t:List UInt8}{x:Sg}(h:whole rdSg t=some x):x.ok:=by
 have:=tkSg_ok ⟨t,false⟩;unfold tkSg at this;rw[h]at this;exact this
theorem rkOne_eq(r:Rc):zdI r=if(Zf r).2.ok then match whole rdSg (Zf r).1 with
    |none=>(sg0,Rc.fail)
    |some x=>(x,(Zf r).2) else(sg0,Rc.fail):=by
 obtain⟨s,b⟩:=r;cases b
 · rfl
 · unfold zdI Zf rk za7;simp only[aW];cases h:Zb s with
   |none=>rfl
   |some y=>
    obtain⟨t,q⟩:=y;simp only[aW];cases whole rdSg t <;> rfl
theorem zcj(r:Rc):(Zf r).1.length≤r.s.length∧(Zf r).2.s.length≤r.s.length:=by
 obtain⟨s,b⟩:=r;cases b
 · exact⟨by simp[Zf,rk],by simp[Zf,rk,Rc.fail]⟩
 · unfold Zf rk;simp only[aW];cases h:Zb s with
   |none=>simp[Rc.fail]
   |some y=>
    obtain⟨t,q⟩:=y;have:=YZ h;simp only;omega
theorem zgE(r:Rc)(w:World)(hl:r.s.length≤268435456) :
    Calls prog 131 #[.agg #[r.s,r.ok]] w (RetRX sgC id (fun x _=>x.ok) (zdI r) w):=by
 have HE:=hD (rkOne_eq r);have hlen:=zcj r;obtain⟨wa,hwa⟩:∃wa,wa=((w.alloc (.cells (rcC r).toArray 167)).alloc (.cells (sgC sg0).toArray 29)).alloc (.cells (rcC Rc.fail).toArray 167):=⟨_,rfl⟩;have HR0:Hid (Vr wa w.heap.size (rcC r)):=hD jaq;have HV0:Hid (Vr wa (w.heap.size+1) (sgC sg0)):=hD (by rw[hwa];exact(Vr.new' _ (sgC sg0) 29 jc).below (za _ _));have HQ0:Hid (Vr wa (w.heap.size+2) (rcC Rc.fail)):=hD jfd;have HB0:Hid (Below w.heap.size w wa):=hD jaz;have HT:=hD (YD r wa hl);obtain⟨p,hp⟩:∃p,p=Zf r:=⟨_,rfl⟩;rw[←hp]at HE HT hlen;obtain⟨t,s2,b2⟩:=p;have hl2:(ByteArray.mk t.toArray).size≤1099511627776:=by rw[size_mk];simp only at hlen;omega
 simp only at HE HT;have hwa2:((w.alloc (.cells #[r.s,r.ok] 167)).alloc (.cells #[(),(),(),(),"",""] 29)).alloc (.cells #["",false] 167)=wa:=hwa.symm;have HW:=hD hwa2;clear hp hlen hwa hwa2;have c0:=HR0.cells 0 _ rfl;have c1:=HR0.cells 1 _ rfl;go_in;go_upto_region 1 with fail;rw[HW.out];go_wp2_with fail;refine HT.mono ?_;rintro e w1 ⟨rfl,hb⟩;have HR1:=hD (HR0.below hb);have HV1:=hD (HV0.below hb);have HQ1:=hD (HQ0.below hb);have HB1:=hD (bon HB0 hb);clear hb c0 c1;go_upto_region 2 with(refine ai rfl 167 _ _ rfl w.heap.size 0 (rcC ⟨s2,b2⟩).toArray rfl rfl (HR1.there (n:=2) rfl) (zt ⟨s2,b2⟩) (zO ⟨s2,b2⟩) ?_);try simp only[ay]
 have HR2:=hD (HR1.sets (rcC ⟨s2,b2⟩) rfl);have HV2:=hD (HV1.grown (zb (b:=w.heap.size) (rcC ⟨s2,b2⟩)) ja);have HQ2:=hD (HQ1.grown (zb (b:=w.heap.size) (rcC ⟨s2,b2⟩)) ja);have HB2:=hD (zf HB1 (zb (b:=w.heap.size) (rcC ⟨s2,b2⟩)) (ag _));generalize w1.setCells w.heap.size 0 (rcC ⟨s2,b2⟩)=w2 at HR2 HV2 HQ2 HB2⊢;have hfin:∀(X:Sg) (w4:World),Vr w4 w.heap.size (rcC ⟨s2,b2⟩)→True:=fun _ _ _=>trivial
 clear hfin;cases hw:whole rdSg t with
 |none=>
  have HG:=hD (sgo_none (YT ⟨t.toArray⟩ w2 hl2) jet);have HS:Hid (zdI r=(sg0,Rc.fail)):=hD (by rw[HE.out,hw];cases b2 <;> rfl)
  clear hw;go_wp2_with fail;refine HG.mono ?_;rintro e w3 ⟨rfl,hb⟩;have HR3:=hD (HR2.below hb);have HV3:=hD (HV2.below hb);have HQ3:=hD (HQ2.below hb);have HB3:=hD (bon HB2 hb);clear hb;have HR4:=hD (HR3.below (za w3 (.cells (sgC sg0).toArray 29)));have HV4:=hD (HV3.below (za w3 (.cells (sgC sg0).toArray 29)));have HQ4:=hD (HQ3.below (za w3 (.cells (sgC sg0).toArray 29)));have HB4:=hD (bon HB3 (za w3 (.cells (sgC sg0).toArray 29)));go_upto_region 3 with fail;have e3:∃wx,wx=w3.alloc (.cells (sgC sg0).toArray 29):=⟨_,rfl⟩;obtain⟨wx,hwx⟩:=e3;rw[←hwx]at HR4 HV4 HQ4 HB4;have hwx2:w3.alloc (.cells #[(),(),(),(),"",""] 29)=wx:=hwx.symm;rw[hwx2];clear hwx hwx2;have c1:=HR4.cells 1 _ rfl;simp only[]at c1;cases b2
  all_goals
   go_wp2_with (first
    |(refine ai rfl 29 _ _ rfl (w.heap.size+1) 0 (sgC sg0).toArray rfl rfl ?_ (yP sg0) (Yr sg0) ?_;· exact HV4.there (n:=6) rfl)
    |(refine ai rfl 167 _ _ rfl (w.heap.size+2) 0 (rcC Rc.fail).toArray rfl rfl ?_ (zt Rc.fail) (zO Rc.fail) ?_;· exact(HQ4.grown (zb (b:=w.heap.size+1) (sgC sg0)) ja).there (n:=2) rfl))
   refine aj (v:= .tuple #[.agg (sgC sg0).toArray,.agg (rcC Rc.fail).toArray]) ?_ rfl (zfe (x:=sg0) (r':=(sg0,Rc.fail)) HS rfl rfl (zbD (P:=sg0.ok) ⟨⟨by decide,by decide⟩,⟨by decide,by decide⟩,⟨by decide,by decide⟩,⟨by decide,by decide⟩⟩) (zf (zf HB4 (zb (b:=w.heap.size+1) (sgC sg0)) ja) (zb (b:=w.heap.size+2) (rcC Rc.fail)) ja));exact ZQ results131 _ _ (w.heap.size+1) (w.heap.size+2) (sgC sg0) (rcC Rc.fail) _ _ rfl rfl ((HV4.sets (sgC sg0) rfl).grown (zb (b:=w.heap.size+2) (rcC Rc.fail)) ja).range ((HQ4.grown (zb (b:=w.heap.size+1) (sgC sg0)) ja).sets (rcC Rc.fail) rfl).range underlying29 rfl (yP sg0) underlying167 rfl (zt Rc.fail)
 |some x=>
  have HG:=hD (sgo_some (YT ⟨t.toArray⟩ w2 hl2) jet);have HOk:=hD (zeJ hw);cases b2 with
  |false=>
   have HS:Hid (zdI r=(sg0,Rc.fail)):=hD (by rw[HE.out];rfl);clear hw;go_wp2_with fail;refine HG.mono ?_;rintro e w3 ⟨rfl,hb⟩;have HR3:=hD (HR2.below hb);have HV3:=hD (HV2.below hb);have HQ3:=hD (HQ2.below hb);have HB3:=hD (bon HB2 hb);clear hb;have HR4:=hD (HR3.below (za w3 (.cells (sgC x).toArray 29)));have HV4:=hD (HV3.below (za w3 (.cells (sgC x).toArray 29)));have HQ4:=hD (HQ3.below (za w3 (.cells (sgC x).toArray 29)));have HB4:=hD (bon HB3 (za w3 (.cells (sgC x).toArray 29)));go_upto_region 3 with fail;have e3:∃wx,wx=w3.alloc (.cells (sgC x).toArray 29):=⟨_,rfl⟩;obtain⟨wx,hwx⟩:=e3;rw[←hwx]at HR4 HV4 HQ4 HB4;have hwx2:w3.alloc (.cells x 29)=wx:=hwx.symm;rw[hwx2];clear hwx hwx2;have c1:=HR4.cells 1 _ rfl;simp only[]at c1;go_wp2_with (first
    |(refine ai rfl 29 _ _ rfl (w.heap.size+1) 0 (sgC sg0).toArray rfl rfl ?_ (yP sg0) (Yr sg0) ?_;· exact HV4.there (n:=6) rfl)
    |(refine ai rfl 167 _ _ rfl (w.heap.size+2) 0 (rcC Rc.fail).toArray rfl rfl ?_ (zt Rc.fail) (zO Rc.fail) ?_;· exact(HQ4.grown (zb (b:=w.heap.size+1) (sgC sg0)) ja).there (n:=2) rfl))
   refine aj (v:= .tuple #[.agg (sgC sg0).toArray,.agg (rcC Rc.fail).toArray]) ?_ rfl (zfe (x:=sg0) (r':=(sg0,Rc.fail)) HS rfl rfl (zbD (P:=sg0.ok) ⟨⟨by decide,by decide⟩,⟨by decide,by decide⟩,⟨by decide,by decide⟩,⟨by decide,by decide⟩⟩) (zf (zf HB4 (zb (b:=w.heap.size+1) (sgC sg0)) ja) (zb (b:=w.heap.size+2) (rcC Rc.fail)) ja));exact ZQ results131 _ _ (w.heap.size+1) (w.heap.size+2) (sgC sg0) (rcC Rc.fail) _ _ rfl rfl ((HV4.sets (sgC sg0) rfl).grown (zb (b:=w.heap.size+2) (rcC Rc.fail)) ja).range ((HQ4.grown (zb (b:=w.heap.size+1) (sgC sg0)) ja).sets (rcC Rc.fail) rfl).range underlying29 rfl (yP sg0) underlying167 rfl (zt Rc.fail)
  |true=>
   have HS:Hid (zdI r=(x,⟨s2,true⟩)):=hD (by rw[HE.out,hw];rfl);clear hw;go_wp2_with fail;refine HG.mono ?_;rintro e w3 ⟨rfl,hb⟩;have HR3:=hD ((HR2.below hb).below (za w3 (.cells (sgC x).toArray 29)));have HV3:=hD ((HV2.below hb).below (za w3 (.cells (sgC x).toArray 29)));have HQ3:=hD ((HQ2.below hb).below (za w3 (.cells (sgC x).toArray 29)));have HX3:=hD (Vr.new w3 (sgC x) 29);have HB3:=hD (bon (bon HB2 hb) (za w3 (.cells (sgC x).toArray 29)));have hq3:w.heap.size+2<w3.heap.size:=(HQ2.below hb).lt;clear hb;go_upto_region 3 with fail;have e3:∃wx,wx=w3.alloc (.cells (sgC x).toArray 29):=⟨_,rfl⟩;obtain⟨wx,hwx⟩:=e3;rw[←hwx]at HR3 HV3 HQ3 HX3 HB3;have hwx2:w3.alloc (.cells x 29)=wx:=hwx.symm;rw[hwx2];clear hwx hwx2;have c1:=HR3.cells 1 _ rfl;go_wp2_with fail;clear c1;have hx0:=HV3.lt;have hne:w.heap.size<w3.heap.size∧w.heap.size+1<w3.heap.size∧w.heap.size+2<w3.heap.size:=by
    exact⟨by omega,by omega,hq3⟩
   refine aD ?_;have HR4:=hD (HR3.below (ae _ _).drew);have HV4:=hD (HV3.below (ae _ _).drew);have HQ4:=hD (HQ3.below (ae _ _).drew);have HX4:=hD (HX3.below (ae _ _).drew);have HB4:=hD (HB3.drew);generalize hv:wx.drew=v at HR4 HV4 HQ4 HX4 HB4;refine aC (S:=fun W=>W.rangeAt w3.heap.size 0 (sgC x)∧W.rangeAt w.heap.size 0 (rcC ⟨s2,true⟩)) jb (by rw[hv];exact⟨HX4.range,HR4.range⟩) (fun hHeld=> ?_);rw[hv]at hHeld⊢;clear hv;refine tkq 0 rfl (aM ji 29 _ ji _ 0 ji (sgC x) _ (fun _ h=>h.1) underlying29 rfl (yP x)) je ?_;try simp only[Act.put,qk1,qk2,qk3,qk4,qk6]
   refine tkq 1 rfl (aM ji 167 _ ji _ 0 ji (rcC ⟨s2,true⟩) _ (fun _ h=>h.2) underlying167 rfl (zt ⟨s2,true⟩)) je ?_;try simp only[Act.put,qk1,qk2,qk3,qk4,qk5,qk6]
   refine tkr 2 rfl (fun K hK=> ?_);rw[af ji];refine aQ 29 _ _ rfl (w.heap.size+1) 0 (sgC x).toArray rfl rfl (HV4.there (n:=6) rfl) (yP x) (Yr x) ?_;try simp only[]
   have HR5:=hD (HR4.grown (zb (b:=w.heap.size+1) (sgC x)) ja);have HX5:=hD (HX4.grown (zb (b:=w.heap.size+1) (sgC x)) ja);have HQ5:=hD (HQ4.grown (zb (b:=w.heap.size+1) (sgC x)) ja);have HV5:=hD (HV4.sets (sgC x) rfl);have HB5:=hD (zf HB4 (zb (b:=w.heap.size+1) (sgC x)) ja);generalize v.setCells (w.heap.size+1) 0 (sgC x)=v5 at HR5 HX5 HQ5 HV5 HB5⊢;refine hK.out _ _ ⟨HX5.range,HR5.range⟩ (fun hHeld=> ?_);clear hK K;try simp only[Act.put,qk4,qk5,qk6]
   refine tkr 3 rfl (fun K hK=> ?_);rw[af ji];refine aQ 167 _ _ rfl (w.heap.size+2) 0 (rcC ⟨s2,true⟩).toArray rfl rfl (HQ5.there (n:=2) rfl) (zt ⟨s2,true⟩) (zO ⟨s2,true⟩) ?_;try simp only[]
   have HR6:=hD (HR5.grown (zb (b:=w.heap.size+2) (rcC ⟨s2,true⟩)) ja);have HX6:=hD (HX5.grown (zb (b:=w.heap.size+2) (rcC ⟨s2,true⟩)) ja);have HV6:=hD (HV5.grown (zb (b:=w.heap.size+2) (rcC ⟨s2,true⟩)) ja);have HQ6:=hD (HQ5.sets (rcC ⟨s2,true⟩) rfl);have HB6:=hD (zf HB5 (zb (b:=w.heap.size+2) (rcC ⟨s2,true⟩)) ja);refine hK.out _ _ ⟨HX6.range,HR6.range⟩ (fun hHeld=> ?_);clear hK K;try simp only[Act.put,qk4,qk5,qk6]
   refine aB jb ?_ _;refine aA ?_;go_wp2_with fail;refine aj (v:= .tuple #[.agg (sgC x).toArray,.agg (rcC ⟨s2,true⟩).toArray]) ?_ rfl (zfe (x:=x) (r':=(x,⟨s2,true⟩)) HS rfl rfl (zbD HOk) HB6);exact ZQ results131 _ _ (w.heap.size+1) (w.heap.size+2) (sgC x) (rcC ⟨s2,true⟩) _ _ rfl rfl HV6.range HQ6.range underlying29 rfl (yP x) underlying167 rfl (zt ⟨s2,true⟩)
theorem rkSgs_eq(r:Rc):zcD r=match many rdSg (yc r).1 with
    |none=>([],Rc.fail)
    |some xs=>(xs,(yc r).2):=by
 obtain⟨s,b⟩:=r;cases b
 · rfl
 · unfold zcD yc rk Ya;simp only[aW];cases h:Zn s with
   |none=>rfl
   |some y=>
    obtain⟨l,q⟩:=y;simp only;cases many rdSg l <;> rfl
theorem YE(r:Rc):sum szS (yc r).1≤r.s.length∧(yc r).2.s.length≤r.s.length:=by
 obtain⟨s,b⟩:=r;cases b
 · exact⟨by simp[yc,rk,sum],by simp[yc,rk,Rc.fail]⟩
 · unfold yc rk;simp only[aW];cases h:Zn s with
   |none=>simp[Rc.fail,sum]
   |some y=>
    obtain⟨t,q⟩:=y;have:=zct h;simp only;omega
theorem zbn(r:Rc)(w:World)(hl:r.s.length≤268435456) :
    Calls prog 201 #[.agg #[r.s,r.ok]] w (RetRSgs (zcD r) w):=by
 have HE:=hD (rkSgs_eq r);have hlen:=YE r;obtain⟨wa,hwa⟩:∃wa,wa=(w.alloc (.cells (rcC r).toArray 167)).alloc (.cells (rcC Rc.fail).toArray 167):=⟨_,rfl⟩;have HR0:Hid (Vr wa w.heap.size (rcC r)):=hD (by rw[hwa];exact(Vr.new w (rcC r) 167).below (za _ _));have HQ0:Hid (Vr wa (w.heap.size+1) (rcC Rc.fail)):=hD jfd;have HB0:Hid (Below w.heap.size w wa):=hD (by rw[hwa];exact bon (za _ _) (za _ _));have HT:=hD (Yo r wa hl);have hza:wa.heap.size=w.heap.size+2:=by rw[hwa];simp
 have HZa:=hD hza;obtain⟨p,hp⟩:∃p,p=yc r:=⟨_,rfl⟩;rw[←hp]at HE HT hlen;obtain⟨l,s2,b2⟩:=p;simp only at hlen HE HT;have hln:l.length≤268435456:=by have:=Yg szS l 1 zbW;omega
 have HTl:Hid (∀t∈l,(ByteArray.mk t.toArray).size≤1099511627776):=hD (fun t ht=>by rw[size_mk];have:=Zv szS l t ht;unfold szS at this hlen;omega);have hwa2:(w.alloc (.cells #[r.s,r.ok] 167)).alloc (.cells #["",false] 167)=wa:=hwa.symm;have HW:=hD hwa2;obtain⟨i0,hi,hz0,hz1,hz2⟩:=info_parts infoSgr;have HI:=hD hi;have HZ0:=hD hz0;have HZ1:=hD hz1;have HZ2:=hD hz2;clear hi hz0 hz1 hz2 hp hlen hwa hwa2 hza;have c0:=HR0.cells 0 _ rfl;have c1:=HR0.cells 1 _ rfl;go_in;go_upto_region 1 with fail;rw[HW.out];go_wp2_with fail;refine HT.mono ?_;rintro e w1 ⟨A,c,rfl,hrow,hb⟩;rw[HZa.out]at hrow;have HR1:=hD (HR0.below hb);have HQ1:=hD (HQ0.below hb);have HB1:=hD (bon HB0 hb);have HRow1:=hD hrow;clear hb c0 c1 hrow;go_upto_region 2 with(refine ai rfl 167 _ _ rfl w.heap.size 0 (rcC ⟨s2,b2⟩).toArray rfl rfl (HR1.there (n:=2) rfl) (zt ⟨s2,b2⟩) (zO ⟨s2,b2⟩) ?_);try simp only[ay]
 have HR2:=hD (HR1.sets (rcC ⟨s2,b2⟩) rfl);have HQ2:=hD (HQ1.grown (zb (b:=w.heap.size) (rcC ⟨s2,b2⟩)) ja);have HB2:=hD (zf HB1 (zb (b:=w.heap.size) (rcC ⟨s2,b2⟩)) (ag _));have HRow2:=hD (HRow1.on (zh (zb (b:=w.heap.size) (rcC ⟨s2,b2⟩)) ja));generalize w1.setCells w.heap.size 0 (rcC ⟨s2,b2⟩)=w2 at HR2 HQ2 HB2 HRow2⊢;have hw2:w.heap.size+1<w2.heap.size:=HQ2.lt;go_wp2_with fail;go_loopw [5,6] (fun o i wr=>∃(j:Nat) (xs:List Sg),i= .int .i64 j∧j≤l.length∧xs.length=j∧wr.ownsRow w2.heap.size 29 6 o j (xs.flatMap sgC)∧Below w2.heap.size w2 wr∧w2.heap.size≤wr.heap.size∧(∀x∈xs,x.ok)∧
  many rdSg l=(match many rdSg (l.drop j) with
   |none=>none
   |some ys=>some (xs++ys))) (fun _ i _=>l.length-(intOf i).toNat)
 case atStart=>exact⟨0,[],rfl,by omega,rfl,aR _ _ _ _,ae _ _,ag _,by simp,by rw[dL];cases many rdSg l <;> rfl⟩
 case round=>
  obtain⟨j,xs,rfl,hj,hxs,hown,hb,hge,hok,hm⟩:=hrel;have HO:=hD hown;have HB:=hD hb;have HXs:=hD hxs;have HOk:=hD hok;have HM:=hD hm;have HRr:=hD (HR2.below hb);have HQr:=hD (HQ2.below hb);have HRowr:=hD (HRow2.on (zl _ hb));have HBr:=hD (bon HB2 hb);clear hown hb hxs hok hm;by_cases hlt:j<l.length
  · have i0':(0:Int)≤(j:Int):=by omega
    have i1:(j:Int) <(l.length:Int):=by omega
    obtain⟨b,off,hA,hbl,hcc⟩:=HRowr.out.out.cells jcl;subst hA;obtain⟨t,ht⟩:∃t,t=l[j]:=⟨_,rfl⟩;have a0:wr.cell? ⟨b,off+j,none⟩=some (.string ⟨t.toArray⟩):=hcc j _ (by unfold strC;rw[bT,aP hlt,ht];rfl);have hl2:=HTl.out t (ht▸aH hlt);have HDr:Hid (l.drop j=t::l.drop (j+1)):=hD (by rw[bB hlt,ht]);clear ht hcc hbl;cases hw:whole rdSg t with
    |none=>
     have HG:=hD (sgo_none (YT ⟨t.toArray⟩ wr hl2) jet);have HS:Hid (zcD r=([],Rc.fail)):=hD (by rw[HE.out,HM.out,HDr.out,many,hw]);clear hw hl2;go_wp2_with fail;refine HG.mono ?_;rintro e w3 ⟨rfl,hb⟩;have HQ3:=hD ((HQr.below hb).below (za w3 (.cells (sgC sg0).toArray 29)));have HB3:=hD (bon (bon HBr hb) (za w3 (.cells (sgC sg0).toArray 29)));clear hb a0;go_upto_region 7 with fail;obtain⟨wx,hwx⟩:∃wx,wx=w3.alloc (.cells (sgC sg0).toArray 29):=⟨_,rfl⟩;rw[←hwx]at HQ3 HB3;have hwx2:w3.alloc (.cells #[(),(),(),(),"",""] 29)=wx:=hwx.symm;rw[hwx2];clear hwx hwx2;have HBe:=hD (zf HB3 (zb (b:=w.heap.size+1) (rcC Rc.fail)) ja);have HQe:=hD (HQ3.sets (rcC Rc.fail) rfl);go_wp2_with (refine ai rfl 167 _ _ rfl (w.heap.size+1) 0 (rcC Rc.fail).toArray rfl rfl ?_ (zt Rc.fail) (zO Rc.fail) ?_;· exact HQ3.there (n:=2) rfl)
     refine aj (v:= .tuple #["s",.agg (rcC Rc.fail).toArray]) ?_ rfl (ret_rsgs (r':=([],Rc.fail)) HS rfl (fun W _=>⟨Rd.nil _ _ _,by simp⟩) HBe);exact zT results201 _ _ (w.heap.size+1) (rcC Rc.fail) _ _ rfl rfl HQe.range underlying167 rfl (zt Rc.fail)
    |some x=>
     have HG:=hD (sgo_some (YT ⟨t.toArray⟩ wr hl2) jet);have HOx:=hD (zeJ hw);have HM2:Hid (many rdSg l=(match many rdSg (l.drop (j+1)) with
         |none=>none
         |some ys=>some (xs++ [x]++ys))):=hD (by
      rw[HM.out,HDr.out,many,hw];simp only;cases many rdSg (l.drop (j+1)) with
      |none=>rfl
      |some ys=>simp)
     clear hw hl2;go_wp2_with fail;refine HG.mono ?_;rintro e w3 ⟨rfl,hb⟩;have HO3:=hD (ownsRow_below HO hb);have HB3:Hid (Below w2.heap.size w2 w3):=hD (HB.trans (hb.mono hge));have hge3:w2.heap.size≤w3.heap.size:=ah hge hb.size;clear hb a0;go_wp2_with (at_builtin;refine bu _ rfl _ _ 33 rfl w2.heap.size 29 i0 _ 6 64 underlying33 HI HZ0 HZ1 HZ2 rfl jf _ _ _ rfl ((HO3.alloc _).alloc _) ⟨w3.heap.size+1,0,none⟩ 1 1 [x.server,x.kind,x.view,x.slot,x.digest,x.sig] rfl rfl (zN _ _ _ _ jc) jr jq ja jg ?_);intro v' w4 hown' hgrow _;have HO4:Hid (w4.ownsRow w2.heap.size 29 6 v' (j+1) ((xs++ [x]).flatMap sgC)):=hD (by rw[bH,show [x].flatMap sgC=sgC x from by simp];exact hown');have HB4:Hid (Below w2.heap.size w2 w4):=hD (below_grown ((HB3.alloc hge3 _).alloc jg _) jg hgrow (fun g hg=>(HO3.lt g hg).1));have hge4:w2.heap.size≤w4.heap.size:=by have:=hgrow.size;simp at this;omega
     clear hown' hgrow;go_wp2_with fail;go_roundw
     case rel=>exact⟨j+1,xs++ [x],by go_num,by omega,by simp[HXs.out],HO4,HB4,hge4,fun y hy=>by
      rcases di.1 hy with hy|hy
      · exact HOk y hy
      · rw[dn]at hy;subst hy;exact HOx,HM2⟩
     case measure=>simp[intOf];omega
  · obtain rfl:j=l.length:=by omega
    have HS:Hid (zcD r=(xs,⟨s2,b2⟩)):=hD (by rw[HE.out,HM.out,df,many];simp);obtain⟨a5,c5,hv⟩:=ownsRow_form HO.out;subst hv;have HRw:=hD ((Yd HO (b:=w.heap.size+2) ja).on (zl _ (ae _ _).drew));have HR5:=hD (HRr.below (ae _ _).drew);have HQ5:=hD (HQr.below (ae _ _).drew);have HB5:=hD (HBr.drew);go_wp2_with fail;refine aD ?_;generalize hv:wr.drew=v at HR5 HQ5 HB5 HRw;refine aC (S:=fun W=>W.rangeAt w.heap.size 0 (rcC ⟨s2,b2⟩)) jb (by rw[hv];exact HR5.range) (fun hHeld=> ?_);rw[hv]at hHeld⊢;clear hv;refine takes [0] ?_;refine tkq 1 rfl (aM ji 167 _ ji _ 0 ji (rcC ⟨s2,b2⟩) _ (fun _ h=>h) underlying167 rfl (zt ⟨s2,b2⟩)) je ?_;try simp only[Act.put,qk1,qk2,qk3,qk4,qk5,qk6]
    refine takes [2] ?_;refine tkr 3 rfl (fun K hK=> ?_);rw[af ji];refine aQ 167 _ _ rfl (w.heap.size+1) 0 (rcC ⟨s2,b2⟩).toArray rfl rfl (HQ5.there (n:=2) rfl) (zt ⟨s2,b2⟩) (zO ⟨s2,b2⟩) ?_;try simp only[]
    have HR6:=hD (HR5.grown (zb (b:=w.heap.size+1) (rcC ⟨s2,b2⟩)) ja);have HQ6:=hD (HQ5.sets (rcC ⟨s2,b2⟩) rfl);have HB6:=hD (zf HB5 (zb (b:=w.heap.size+1) (rcC ⟨s2,b2⟩)) ja);have HRw6:=hD ((HRw.on (zh (zb (b:=w.heap.size+1) (rcC ⟨s2,b2⟩)) ja)).low (b':=w.heap.size) ja);refine hK.out _ _ HR6.range (fun hHeld=> ?_);clear hK K;try simp only[Act.put,qk4,qk5,qk6]
    refine aB jb ?_ _;refine aA ?_;go_wp2_with fail;refine aj (v:= .tuple #[.slice a5 l.length c5,.agg (rcC ⟨s2,b2⟩).toArray]) ?_ rfl (ret_rsgs (r':=(xs,⟨s2,b2⟩)) HS HXs.symm (fun W hW=>⟨by rw[HXs.out];exact HRw6 W hW,HOk⟩) HB6);exact zT results201 _ _ (w.heap.size+1) (rcC ⟨s2,b2⟩) _ _ rfl rfl HQ6.range underlying167 rfl (zt ⟨s2,b2⟩)
