/- The contract of the reference's seal Decode. -/
import Derived.Test.YtepbbaifpckcpaaGreatDoorPSm
open Go.Proofs.Tryz
namespace Go.Proofs.YtepbbaifpckcpaaGreatDoor
set_option maxRecDepth 100000
set_option maxHeartbeats 1000000
open Go.RowKit
variable{α:Type}{fn:Func}{s:List UInt8}{c n:Nat}{A:Option Addr}{P:Program}{p q:Tmp}{ty:TypeId}{w w':World}
theorem sg_ints2{n0 n1 n2 n3:Int}{k:Nat}(h:zy s=some ([n0,n1,n2,n3],k))(_hk:k≤s.length) :
    whole rdSg s=match yg (s.drop k) with
     |none=>none
     |some (d,j)=>match yg (s.drop (k+j)) with
      |none=>none
      |some (g,m)=>if k+j+m=s.length then some ⟨n0,n1,n2,n3,d,g⟩ else none:=by
 have h1:Zc 4 s=some ([n0,n1,n2,n3],s.drop k):=by
  unfold Zc off;rw[h];rfl
 unfold whole rdSg;rw[h1];simp only;unfold Zb off;cases h2:yg (s.drop k) with
 |none=>rfl
 |some y=>
  obtain⟨d,j⟩:=y;have hj:=Zj h2;rw[aK]at hj;simp only[dC];cases h3:yg (s.drop (k+j)) with
  |none=>rfl
  |some z=>
   obtain⟨g,m⟩:=z;have hm:=Zj h3;rw[aK]at hm;simp only;have e:(s.drop (k+j+m)=[])↔k+j+m=s.length:=by
    rw[List.drop_eq_nil_iff];omega
   by_cases hq:k+j+m=s.length
   · rw[af (e.2 hq),af hq];simp
   · rw[aa (fun h=>hq (e.1 h)),aa hq]
theorem YT(s:ByteArray)(w:World)(hs:s.size≤1099511627776):Calls prog 198 #[s] w (zd6 (whole rdSg s.data.toList) w):=by
 have HA:Hid (∀W,Calls prog 196 #[s] W (RetN s.data.toList W)):=hD (fun W=>YU s W hs);have HV0:=hD (Vr.new w (sgC sg0) 29);have HB0:=hD (za w (.cells (sgC sg0).toArray 29));cases hg:zy s.data.toList with
 |none=>
  have HR:=hD (zee hg);have HG:Hid (zy s.data.toList=none):=hD hg;clear hg;go_in;go_wp2_with fail;refine(zau (HA _) HG).mono ?_;rintro e w1 ⟨⟨c,hc,rfl⟩,hb⟩;have hc1:(c == 0)=false:=by simpa using hc
  have hc2:(c != 0)=true:=by simpa using hc
  have HV1:=hD (HV0.below hb);have HB1:=hD (bon HB0 hb);clear hb;exact fo30
 |some y=>
  obtain⟨n,k⟩:=y;have HG:Hid (zy s.data.toList=some (n,k)):=hD hg;have hk:=YQ hg;by_cases hn:n.length=4
  · obtain⟨n0,n1,n2,n3,rfl⟩:=four_of n hn;have HN:=hD hn;have HR0:=hD (sg_ints2 hg hk);rw[zU]at hk;have HD1:=hD (zby s k hk);have hz1:(s.extract k s.size).size=s.size- k:=by simp
    clear hg hn;cases h1:yg (s.data.toList.drop k) with
    |none=>
     have HS1:=hD (zbd (s.extract k s.size));have HR:Hid (whole rdSg s.data.toList=none):=hD (by rw[HR0.out,h1]);have HS:Hid (∀W,Calls prog 197 #[.string (s.extract k s.size)] W fun e w'=>W=w'∧∃c:Int,c≠0∧e= .returned (.tuple #["",(),c])):=hD (fun W=>zbd _ W ja (by rw[HD1.out];exact h1));clear h1 HS1 hz1;go_in;go_wp2_with fail;refine(Yt (HA _) HG HN).mono ?_;rintro e w1 ⟨⟨A,c,rfl,hr⟩,hb⟩;have HV1:=hD (HV0.below hb);have HB1:=hD (bon HB0 hb);clear hb hr;go_wp2_with fail;refine(HS _).mono ?_;exact fo259
    |some y=>
     obtain⟨d,j⟩:=y;have hj:=Zj h1;rw[aK,zU]at hj;obtain⟨j0,j1,j2⟩:=hj;have HS:Hid (∀W,Calls prog 197 #[.string (s.extract k s.size)] W fun e w'=>W=w'∧e= .returned (.tuple #[d,j,()])):=hD (fun W=>zcs _ W ja d j (by rw[HD1.out];exact h1));have HD2:=hD (zby s (k+j) ja);have hz2:(s.extract (k+j) s.size).size=s.size-(k+j):=by simp
     have HR1:Hid (whole rdSg s.data.toList=match yg (s.data.toList.drop (k+j)) with
         |none=>none
         |some (g,m)=>if k+j+m=s.data.toList.length then some ⟨n0,n1,n2,n3,d,g⟩ else none):=hD (by rw[HR0.out,h1])
     clear h1 hz1;cases h2:yg (s.data.toList.drop (k+j)) with
     |none=>
      have HR:Hid (whole rdSg s.data.toList=none):=hD (by rw[HR1.out,h2]);have HS2:Hid (∀W,Calls prog 197 #[.string (s.extract (k+j) s.size)] W fun e w'=>W=w'∧∃c:Int,c≠0∧e= .returned (.tuple #["",(),c])):=hD (fun W=>zbd _ W ja (by rw[HD2.out];exact h2));clear h2 hz2;go_in;go_wp2_with fail;refine(Yt (HA _) HG HN).mono ?_;rintro e w1 ⟨⟨A,c,rfl,hr⟩,hb⟩;have HV1:=hD (HV0.below hb);have HB1:=hD (bon HB0 hb);clear hb hr;go_wp2_with fail;refine(HS _).mono ?_;rintro e w2 ⟨rfl,rfl⟩;go_wp2_with fail;refine(HS2 _).mono ?_;exact fo259
     |some y=>
      obtain⟨g,m⟩:=y;have hm:=Zj h2;rw[aK,zU]at hm;obtain⟨m0,m1,m2⟩:=hm;have HS2:Hid (∀W,Calls prog 197 #[.string (s.extract (k+j) s.size)] W fun e w'=>W=w'∧e= .returned (.tuple #[g,m,()])):=hD (fun W=>zcs _ W ja g m (by rw[HD2.out];exact h2));have HR2:Hid (whole rdSg s.data.toList=if k+j+m=s.data.toList.length then some ⟨n0,n1,n2,n3,d,g⟩ else none):=hD (by rw[HR1.out,h2]);clear h2 hz2;by_cases hq:k+j+m=s.size
      · have HR:Hid (whole rdSg s.data.toList=some ⟨n0,n1,n2,n3,d,g⟩):=hD (by rw[HR2.out,af (by rw[zU];exact hq)]);have hq1:((k:Int)+(j:Int)+(m:Int) ==(s.size:Int))=true:=by rw[aV];omega
        have hq2:((k:Int)+(j:Int)+(m:Int) !=(s.size:Int))=false:=by rw[bne_eq_false_iff_eq];omega
        clear hq;go_in;go_wp2_with fail;refine(Yt (HA _) HG HN).mono ?_;rintro e w1 ⟨⟨A,c,rfl,hr⟩,hb⟩;have HV1:=hD ((HV0.below hb).below (ae _ _).drew);have HB1:=hD ((bon HB0 hb).drew);have HRow:=hD ((Yd hr (ag _)).on (zl _ (ae _ _).drew));clear hb hr;go_wp2_with fail;refine(HS _).mono ?_;rintro e w2 ⟨rfl,rfl⟩;go_wp2_with fail;refine(HS2 _).mono ?_;rintro e w2 ⟨rfl,rfl⟩;go_wp2_with fail;refine aD ?_;generalize hv:w1.drew=v at HV1 HB1 HRow;obtain⟨b,off,hA,hbl,hcc⟩:=yD HRow.out.out jc;subst hA;have HSz:Hid (w.heap.size+1=(w.alloc (.cells (sgC sg0).toArray 29)).heap.size):=hD jc;have HCW:Hid (∀W,yV (w.heap.size+1) v W→W.cell? ⟨b,off,none⟩=some (.int .i64 n0)∧W.cell? ⟨b,off+1,none⟩=some (.int .i64 n1)∧W.cell? ⟨b,off+2,none⟩=some (.int .i64 n2)∧W.cell? ⟨b,off+3,none⟩=some (.int .i64 n3)):=hD (fun W hW=>by
         obtain⟨b2,o2,hA2,_,hc2⟩:=yD (HRow W (by simpa using hW)) jc;exact fo101)
        have hC:=HCW.out v (yV.refl _ _);clear hcc hbl HRow;refine aC (S:=fun W=>W.cell? ⟨b,off,none⟩=some (.int .i64 n0)∧W.cell? ⟨b,off+1,none⟩=some (.int .i64 n1)∧W.cell? ⟨b,off+2,none⟩=some (.int .i64 n2)∧W.cell? ⟨b,off+3,none⟩=some (.int .i64 n3)) jb jar (fun hHeld=> ?_);rw[hv]at hHeld⊢;clear hv;refine takes [0,1,2,3,4,5,6,7,8,9,10,11,12,13,14] ?_;refine tkr 15 rfl (fun K hK=> ?_);rw[af ji];refine aQ 29 _ _ rfl w.heap.size 0 (sgC ⟨n0,n1,n2,n3,d,g⟩).toArray rfl rfl (HV1.there (n:=6) rfl) (yP ⟨n0,n1,n2,n3,d,g⟩) (Yr ⟨n0,n1,n2,n3,d,g⟩) ?_;have hC2:=HCW.out _ (zh (zb (w:=v) (b:=w.heap.size) (sgC ⟨n0,n1,n2,n3,d,g⟩)) ja);refine hK.out _ _ hC2 (fun hHeld=> ?_);clear hK K;try simp only[Act.put,qk4,qk5,qk6]
        refine takes [16] ?_;refine aB jb ?_ _;refine aA ?_;go_wp2_with fail;refine aj (v:= .tuple #[.agg (sgC ⟨n0,n1,n2,n3,d,g⟩).toArray,()]) ?_ rfl (zd7 HR (zcZ HB1 (ag _) _));exact zi results198 _ _ w.heap.size (sgC ⟨n0,n1,n2,n3,d,g⟩) _ _ rfl rfl (HV1.sets (sgC ⟨n0,n1,n2,n3,d,g⟩) rfl).range underlying29 rfl (yP ⟨n0,n1,n2,n3,d,g⟩)
      · have HR:Hid (whole rdSg s.data.toList=none):=hD (by rw[HR2.out,aa (by rw[zU];exact hq)]);have hq1:((k:Int)+(j:Int)+(m:Int) ==(s.size:Int))=false:=by rw[aF];omega
        have hq2:((k:Int)+(j:Int)+(m:Int) !=(s.size:Int))=true:=by rw[bO];omega
        clear hq;go_in;go_wp2_with fail;refine(Yt (HA _) HG HN).mono ?_;rintro e w1 ⟨⟨A,c,rfl,hr⟩,hb⟩;have HV1:=hD (HV0.below hb);have HB1:=hD (bon HB0 hb);clear hb hr;go_wp2_with fail;refine(HS _).mono ?_;rintro e w2 ⟨rfl,rfl⟩;go_wp2_with fail;refine(HS2 _).mono ?_;rintro e w2 ⟨rfl,rfl⟩;exact fo30
  · have HR:=hD (zfw hg hn);have hn1:((n.length:Int) == 4)=false:=by rw[aF];omega
    have hn2:((n.length:Int) != 4)=true:=by rw[bO];omega
    clear hg hn hk;go_in;go_wp2_with fail;refine(YX (HA _) HG).mono ?_;rintro e w1 ⟨⟨A,c,rfl,hr⟩,hb⟩;have HV1:=hD (HV0.below hb);have HB1:=hD (bon HB0 hb);clear hb hr;exact fo30
def rcC(r:Rc):List Value:=[r.s,r.ok]
theorem zO(r:Rc):(rcC r).toArray.all (·.oneCell')=true:=by simp[rcC,Value.oneCell']
theorem zt(r:Rc):(prog.info? 167).map (·.size)=some (rcC r).length:=by
 have:(prog.info? 167).map (·.size)=some 2:=by kernel_rfl
 exact this
theorem zT(h:fn.results=#[.tmp q,.cell p ty])(tmps:Array Value)(w:World)(b:Nat)(cs:List Value)(d:TypeDesc)(v:Value)
    (hp:tmps.getD p undef= .pointer (some ⟨b,0,none⟩)) (hq:tmps.getD q undef=v) (hc:w.rangeAt b 0 cs) (hu:P.underlying ty=some d) (hd:d.isRow=true) (hi:(P.info? ty).map (·.size)=some cs.length) :
    (results fn tmps).run P w= .ok (.tuple #[v,.agg cs.toArray]) w:=by
 exact fo128
theorem ZQ{tz:TypeId}(h:fn.results=#[.cell p ty,.cell q tz])(tmps:Array Value)(w:World)(b c:Nat)(cs ds:List Value)(d d':TypeDesc)
    (hp:tmps.getD p undef= .pointer (some ⟨b,0,none⟩)) (hq:tmps.getD q undef= .pointer (some ⟨c,0,none⟩)) (hc:w.rangeAt b 0 cs) (hc':w.rangeAt c 0 ds) (hu:P.underlying ty=some d) (hd:d.isRow=true) (hi:(P.info? ty).map (·.size)=some cs.length)
    (hu':P.underlying tz=some d') (hd':d'.isRow=true) (hi':(P.info? tz).map (·.size)=some ds.length) :
    (results fn tmps).run P w= .ok (.tuple #[.agg cs.toArray,.agg ds.toArray]) w:=by
 have hp':tmps[p]?.getD undef= .pointer (some ⟨b,0,none⟩):=by simpa using hp
 have hq':tmps[q]?.getD undef= .pointer (some ⟨c,0,none⟩):=by simpa using hq
 simp[results,h,hp',hq',asAddr,gH w b 0 ty cs d hc hu hd hi,gH w c 0 tz ds d' hc' hu' hd' hi']
def RetRT(r:List UInt8 × Rc)(w:World)(e:Ending)(w':World):Prop:=e= .returned (.tuple #[.string ⟨r.1.toArray⟩,.agg (rcC r.2).toArray])∧Below w.heap.size w w'
def RetRTs(r:List (List UInt8) × Rc)(w:World)(e:Ending)(w':World):Prop:=
 ∃A c,e= .returned (.tuple #[.slice A r.1.length c,.agg (rcC r.2).toArray])∧yG w.heap.size (fun w=>Rd w 1 A r.1.length (strC r.1)) w'∧Below w.heap.size w w'
def RetRI(r:List Int × Rc)(w:World)(e:Ending)(w':World):Prop:=
 ∃A c,e= .returned (.tuple #[.slice A r.1.length c,.agg (rcC r.2).toArray])∧yG w.heap.size (fun w=>Rd w 1 A r.1.length (intC r.1)) w'∧Below w.heap.size w w'
theorem ret_rt{r r':List UInt8 × Rc}(h:r=r')(k:Below w.heap.size w w'):RetRT r w (.returned (.tuple #[.string ⟨r'.1.toArray⟩,.agg (rcC r'.2).toArray])) w':=by subst h;exact⟨rfl,k⟩
theorem ret_rts{r r':List (List UInt8) × Rc}(h:r=r')(hn:n=r'.1.length)(hr:yG w.heap.size (fun w=>Rd w 1 A r'.1.length (strC r'.1)) w')(k:Below w.heap.size w w'):RetRTs r w (.returned (.tuple #[.slice A n c,.agg (rcC r'.2).toArray])) w':=by subst h hn;exact⟨A,c,rfl,hr,k⟩
theorem zcU{r r':List Int × Rc}(h:r=r')(hn:n=r'.1.length)(hr:yG w.heap.size (fun w=>Rd w 1 A r'.1.length (intC r'.1)) w')(k:Below w.heap.size w w'):RetRI r w (.returned (.tuple #[.slice A n c,.agg (rcC r'.2).toArray])) w':=by subst h hn;exact⟨A,c,rfl,hr,k⟩
theorem zbQ{p:Pr α}(d:α)(h:p s=none)(b:Bool):rk p d ⟨s,b⟩=(d,Rc.fail):=by
 cases b
 · rfl
 · unfold rk;simp only[aW,h]
theorem zfC{p:Pr α}(d:α){r:List UInt8}{x:α}(h:p s=some (x,r)):rk p d ⟨s,true⟩=(x,⟨r,true⟩):=by
 unfold rk;simp only[aW,h]
theorem YD(r:Rc)(w:World)(hl:r.s.length≤268435456) :
    Calls prog 130 #[.agg #[r.s,r.ok]] w (RetRT (Zf r) w):=by
 obtain⟨s,b⟩:=r;simp only at hl;have hlen:(ByteArray.mk s.toArray).size≤268435456:=by rw[size_mk];exact hl
 have HR0:=hD ((Vr.new w (rcC ⟨s,b⟩) 167).below (za (w.alloc (.cells (rcC ⟨s,b⟩).toArray 167)) (.cells (rcC Rc.fail).toArray 167)));have HQ0:=hD (Vr.new' (w.alloc (.cells (rcC ⟨s,b⟩).toArray 167)) (rcC Rc.fail) 167 (b:=w.heap.size+1) jc);have HB0:=hD (bon (za w (.cells (rcC ⟨s,b⟩).toArray 167)) (za (w.alloc (.cells (rcC ⟨s,b⟩).toArray 167)) (.cells (rcC Rc.fail).toArray 167)));have HZ0:Hid (((w.alloc (.cells (rcC ⟨s,b⟩).toArray 167)).alloc (.cells (rcC Rc.fail).toArray 167)).heap.size=w.heap.size+2):=hD jc;cases hg:yg s with
 |none=>
  have HS:Hid (Zf ⟨s,b⟩=([],Rc.fail)):=hD (zbQ [] (by unfold Zb off;rw[hg]) b);have HG:=hD (fun W=>(show _ from(zbd ⟨s.toArray⟩ W (ah hlen jf) jcc)));clear hg;go_in;go_wp2_with fail;refine(HG _).mono ?_;rintro e w1 ⟨rfl,c,hc,rfl⟩;have hc1:(c == 0)=false:=by simpa using hc
  have hc2:(c != 0)=true:=by simpa using hc
  have HR1:=HR0;have HQ1:=HQ0;have HB1:=HB0;cases b
  all_goals
   have HBe:=hD (zf HB1 (zb (b:=w.heap.size+1) (rcC Rc.fail)) ja);have HQe:=hD (HQ1.sets (rcC Rc.fail) rfl);go_wp2_with (refine ai rfl 167 _ _ rfl (w.heap.size+1) 0 (rcC Rc.fail).toArray rfl rfl (HQ1.there (n:=2) rfl) (zt Rc.fail) (zO Rc.fail) ?_);refine aj (v:= .tuple #["",.agg (rcC Rc.fail).toArray]) ?_ rfl (ret_rt (r':=([],Rc.fail)) HS HBe);exact zT results130 _ _ (w.heap.size+1) (rcC Rc.fail) _ _ rfl rfl HQe.range underlying167 rfl (zt Rc.fail)
 |some y=>
  obtain⟨x,k⟩:=y;have hk:k≤s.length:=(Zj hg).2.1;have HG:=hD (fun W=>(show _ from(zcs ⟨s.toArray⟩ W (ah hlen jf) x k jcc)));have HP:Hid (Zb s=some (x,s.drop k)):=hD (by unfold Zb off;rw[hg]);have HX:=hD (ext_list s k hk);clear hg;cases b with
  |false=>
   have HS:Hid (Zf ⟨s,false⟩=([],Rc.fail)):=hD rfl;go_in;go_wp2_with fail;refine(HG _).mono ?_;rintro e w1 ⟨rfl,rfl⟩;have HR1:=HR0;have HQ1:=HQ0;have HB1:=HB0;have HBe:=hD (zf HB1 (zb (b:=w.heap.size+1) (rcC Rc.fail)) ja);have HQe:=hD (HQ1.sets (rcC Rc.fail) rfl);go_wp2_with (refine ai rfl 167 _ _ rfl (w.heap.size+1) 0 (rcC Rc.fail).toArray rfl rfl (HQ1.there (n:=2) rfl) (zt Rc.fail) (zO Rc.fail) ?_);refine aj (v:= .tuple #["",.agg (rcC Rc.fail).toArray]) ?_ rfl (ret_rt (r':=([],Rc.fail)) HS HBe);exact zT results130 _ _ (w.heap.size+1) (rcC Rc.fail) _ _ rfl rfl HQe.range underlying167 rfl (zt Rc.fail)
  |true=>
   have HS:Hid (Zf ⟨s,true⟩=(x,⟨s.drop k,true⟩)):=hD (zfC [] HP);go_in;go_wp2_with fail;refine(HG _).mono ?_;rintro e w1 ⟨rfl,rfl⟩;have HR1:=HR0;have HQ1:=HQ0;have HB1:=HB0;go_wp2_with fail;have HR2:=hD (HR1.below (ae _ _).drew);have HQ2:=hD (HQ1.below (ae _ _).drew);have HB2:=hD (HB1.drew);have i0:(0:Int)≤(k:Int):=by omega
   have i1:(k:Int)≤(s.length:Int):=by omega
   refine aD ?_;generalize hv:((w.alloc (.cells (rcC ⟨s,true⟩).toArray 167)).alloc (.cells (rcC Rc.fail).toArray 167)).drew=v at HR2 HQ2 HB2;have hC:=HR2.cells 0 _ rfl;refine aC (S:=fun W=>W.cell? ⟨w.heap.size,0,none⟩=some (.string ⟨s.toArray⟩)) jb jbx (fun hHeld=> ?_);have hv2:=hv;simp only[rcC,Rc.fail]at hv2;rw[hv2]at hHeld⊢;clear hv hv2;refine takes [0,1,2,3,4,5,6] ?_;refine tkr 7 rfl (fun K hK=> ?_);rw[af ji];refine aQ 167 _ _ rfl (w.heap.size+1) 0 (rcC ⟨s.drop k,true⟩).toArray rfl jae (HQ2.there (n:=2) rfl) (zt ⟨s.drop k,true⟩) (zO ⟨s.drop k,true⟩) ?_;have hC2:=(HR2.grown (zb (b:=w.heap.size+1) (rcC ⟨s.drop k,true⟩)) ja).cells 0 _ rfl;have HBe:=hD (zf HB2 (zb (b:=w.heap.size+1) (rcC ⟨s.drop k,true⟩)) ja);have HQe:=hD (HQ2.sets (rcC ⟨s.drop k,true⟩) rfl);refine hK.out _ _ hC2 (fun hHeld=> ?_);clear hK K;try simp only[Act.put,qk4,qk5,qk6]
   refine aB jb ?_ _;refine aA ?_;go_wp2_with fail;refine aj (v:= .tuple #[x,.agg (rcC ⟨s.drop k,true⟩).toArray]) ?_ rfl (ret_rt (r':=(x,⟨s.drop k,true⟩)) HS HBe);exact zT results130 _ _ (w.heap.size+1) (rcC ⟨s.drop k,true⟩) _ _ rfl rfl HQe.range underlying167 rfl (zt ⟨s.drop k,true⟩)
theorem Yo(r:Rc)(w:World)(hl:r.s.length≤268435456) :
    Calls prog 132 #[.agg #[r.s,r.ok]] w (RetRTs (yc r) w):=by
 obtain⟨s,b⟩:=r;simp only at hl;have hlen:(ByteArray.mk s.toArray).size≤268435456:=by rw[size_mk];exact hl
 have HR0:=hD ((Vr.new w (rcC ⟨s,b⟩) 167).below (za (w.alloc (.cells (rcC ⟨s,b⟩).toArray 167)) (.cells (rcC Rc.fail).toArray 167)));have HQ0:=hD (Vr.new' (w.alloc (.cells (rcC ⟨s,b⟩).toArray 167)) (rcC Rc.fail) 167 (b:=w.heap.size+1) jc);have HB0:=hD (bon (za w (.cells (rcC ⟨s,b⟩).toArray 167)) (za (w.alloc (.cells (rcC ⟨s,b⟩).toArray 167)) (.cells (rcC Rc.fail).toArray 167)));have HZ0:Hid (((w.alloc (.cells (rcC ⟨s,b⟩).toArray 167)).alloc (.cells (rcC Rc.fail).toArray 167)).heap.size=w.heap.size+2):=hD jc;cases hg:zF s with
 |none=>
  have HS:Hid (yc ⟨s,b⟩=([],Rc.fail)):=hD (zbQ [] (by unfold Zn off;rw[hg]) b);have HG:=hD (fun W=>(show _ from(zfa (zcy ⟨s.toArray⟩ W (ah hlen jf)) jcc)));clear hg;go_in;go_wp2_with fail;refine(HG _).mono ?_;rintro e w1 ⟨⟨c,hc,rfl⟩,hb⟩;have hc1:(c == 0)=false:=by simpa using hc
  have hc2:(c != 0)=true:=by simpa using hc
  have HR1:=hD (HR0.below hb);have HQ1:=hD (HQ0.below hb);have HB1:=hD (bon HB0 hb);clear hb;have c0:=HR1.cells 0 _ rfl;have c1:=HR1.cells 1 _ rfl;cases b
  all_goals
   have HBe:=hD (zf HB1 (zb (b:=w.heap.size+1) (rcC Rc.fail)) ja);have HQe:=hD (HQ1.sets (rcC Rc.fail) rfl);go_wp2_with (refine ai rfl 167 _ _ rfl (w.heap.size+1) 0 (rcC Rc.fail).toArray rfl rfl (HQ1.there (n:=2) rfl) (zt Rc.fail) (zO Rc.fail) ?_);refine aj (v:= .tuple #["s",.agg (rcC Rc.fail).toArray]) ?_ rfl (ret_rts (r':=([],Rc.fail)) HS rfl zdq HBe);exact zT results132 _ _ (w.heap.size+1) (rcC Rc.fail) _ _ rfl rfl HQe.range underlying167 rfl (zt Rc.fail)
 |some y=>
  obtain⟨x,k⟩:=y;have hk:k≤s.length:=zfk hg;have HG:=hD (fun W=>(show _ from(zeF (zcy ⟨s.toArray⟩ W (ah hlen jf)) jcc)));have HP:Hid (Zn s=some (x,s.drop k)):=hD (by unfold Zn off;rw[hg]);have HX:=hD (ext_list s k hk);clear hg;cases b with
  |false=>
   have HS:Hid (yc ⟨s,false⟩=([],Rc.fail)):=hD rfl;go_in;go_wp2_with fail;refine(HG _).mono ?_;rintro e w1 ⟨⟨A,c,rfl,hr⟩,hb⟩;have HR1:=hD (HR0.below hb);have HQ1:=hD (HQ0.below hb);have HB1:=hD (bon HB0 hb);clear hb hr;have c0:=HR1.cells 0 _ rfl;have c1:=HR1.cells 1 _ rfl;have HBe:=hD (zf HB1 (zb (b:=w.heap.size+1) (rcC Rc.fail)) ja);have HQe:=hD (HQ1.sets (rcC Rc.fail) rfl);go_wp2_with (refine ai rfl 167 _ _ rfl (w.heap.size+1) 0 (rcC Rc.fail).toArray rfl rfl (HQ1.there (n:=2) rfl) (zt Rc.fail) (zO Rc.fail) ?_);refine aj (v:= .tuple #["s",.agg (rcC Rc.fail).toArray]) ?_ rfl (ret_rts (r':=([],Rc.fail)) HS rfl zdq HBe);exact zT results132 _ _ (w.heap.size+1) (rcC Rc.fail) _ _ rfl rfl HQe.range underlying167 rfl (zt Rc.fail)
  |true=>
   have HS:Hid (yc ⟨s,true⟩=(x,⟨s.drop k,true⟩)):=hD (zfC [] HP);go_in;go_wp2_with fail;refine(HG _).mono ?_;rintro e w1 ⟨⟨A,c,rfl,hr⟩,hb⟩;have HR1:=hD (HR0.below hb);have HQ1:=hD (HQ0.below hb);have HB1:=hD (bon HB0 hb);have HRow0:=hD ((Yd (b:=w.heap.size+2) hr jc).on (zl _ (ae _ _).drew));clear hb hr;have c0:=HR1.cells 0 _ rfl;have c1:=HR1.cells 1 _ rfl;go_wp2_with fail;have HR2:=hD (HR1.below (ae _ _).drew);have HQ2:=hD (HQ1.below (ae _ _).drew);have HB2:=hD (HB1.drew);have i0:(0:Int)≤(k:Int):=by omega
   have i1:(k:Int)≤(s.length:Int):=by omega
   refine aD ?_;generalize hv:w1.drew=v at HR2 HQ2 HB2 HRow0;have hC:=HR2.cells 0 _ rfl;refine aC (S:=fun W=>W.cell? ⟨w.heap.size,0,none⟩=some (.string ⟨s.toArray⟩)) jb jbx (fun hHeld=> ?_);rw[hv]at hHeld⊢;clear hv;refine takes [0,1,2,3,4,5,6] ?_;refine tkr 7 rfl (fun K hK=> ?_);rw[af ji];refine aQ 167 _ _ rfl (w.heap.size+1) 0 (rcC ⟨s.drop k,true⟩).toArray rfl jae (HQ2.there (n:=2) rfl) (zt ⟨s.drop k,true⟩) (zO ⟨s.drop k,true⟩) ?_;have hC2:=(HR2.grown (zb (b:=w.heap.size+1) (rcC ⟨s.drop k,true⟩)) ja).cells 0 _ rfl;have HBe:=hD (zf HB2 (zb (b:=w.heap.size+1) (rcC ⟨s.drop k,true⟩)) ja);have HQe:=hD (HQ2.sets (rcC ⟨s.drop k,true⟩) rfl);have HRow:=hD (HRow0);refine hK.out _ _ hC2 (fun hHeld=> ?_);clear hK K;try simp only[Act.put,qk4,qk5,qk6]
   refine aB jb ?_ _;refine aA ?_;go_wp2_with fail;refine aj (v:= .tuple #[.slice A x.length c,.agg (rcC ⟨s.drop k,true⟩).toArray]) ?_ rfl (ret_rts (r':=(x,⟨s.drop k,true⟩)) HS rfl ((HRow.on (zh (zb (b:=w.heap.size+1) (rcC ⟨s.drop k,true⟩)) ja)).low ja) HBe);exact zT results132 _ _ (w.heap.size+1) (rcC ⟨s.drop k,true⟩) _ _ rfl rfl HQe.range underlying167 rfl (zt ⟨s.drop k,true⟩)
