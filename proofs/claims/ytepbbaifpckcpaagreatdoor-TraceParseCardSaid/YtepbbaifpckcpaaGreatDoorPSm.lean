/- message.part at messages; message.Decode. -/
import Derived.Test.YtepbbaifpckcpaaGreatDoorPMs
open Go.Proofs.Tryz
namespace Go.Proofs.YtepbbaifpckcpaaGreatDoor
set_option maxRecDepth 100000
set_option maxHeartbeats 2000000
open Go.RowKit
theorem partMs_any(g:Nat)(s:Sc)(t:List UInt8)(w:World)(hs:Ss w g s)
    (HF:∀q W,Ss W q ⟨t,false⟩→Calls prog 126 #[.pointer (some ⟨q,0,none⟩)] W (RetX msC Ms.er Ms.ok q (tkMs ⟨t,false⟩) W)) :
    Calls prog 125 #[.pointer (some ⟨g,0,none⟩),t,.func (.func 126) #[] #[]] w (RetX msC Ms.er Ms.ok g (yt tkMs t s) w):=by
 obtain⟨r,b⟩:=s;have hgl:=hs.lt;obtain⟨y,hy⟩:∃y,y=tkMs ⟨t,false⟩:=⟨_,rfl⟩;obtain⟨y1,r',b'⟩:=y;have HR:Hid (yt tkMs t ⟨r,b⟩=(y1,⟨r,b || b' || !r'.isEmpty⟩)):=hD jcp;have HFX:=hD HF;have HY:=hD hy;have HV0:=hD (Vr.new w [(),(),(),(),(),"",(),(),(),(),(),"","","s","s",(),"","s","s","s","s"] 38);have HV1:=hD (HV0.below (za (w.alloc (.cells #[(),(),(),(),(),"",(),(),(),(),(),"","","s","s",(),"","s","s","s","s"] 38)) (.cells #[t,false] 162)));have HS1:=hD (((SsTo.refl hs).alloc (.cells #[(),(),(),(),(),"",(),(),(),(),(),"","","s","s",(),"","s","s","s","s"] 38)).alloc (.cells #[t,false] 162));have HQ1:=hD (Ss.new' (w.alloc (.cells #[(),(),(),(),(),"",(),(),(),(),(),"","","s","s",(),"","s","s","s","s"] 38)) t false 162 (g:=w.heap.size+1) jc);have HZ1:Hid (((w.alloc (.cells #[(),(),(),(),(),"",(),(),(),(),(),"","","s","s",(),"","s","s","s","s"] 38)).alloc (.cells #[t,false] 162)).heap.size=w.heap.size+2):=hD jc;clear hs hy HF HV0;go_in;go_wp2_with fail;refine(HFX (w.heap.size+1) _ HQ1).mono ?_;rintro e w2 ⟨x,he,hx,hst,hss⟩;rw[←HY.out]at hss hx;subst he;rw[HZ1.out]at hst;have h2:=hss.1.size;rw[HZ1.out]at h2;have HT0:=hD (Vr.new w2 [(),(),(),(),(),"",(),(),(),(),(),"","","s","s",(),"","s","s","s","s"] 38);have HV2:=hD (((HV1.grown hss.1 ja).below (za w2 (.cells #[(),(),(),(),(),"",(),(),(),(),(),"","","s","s",(),"","s","s","s","s"] 38))).grown (zb (b:=w2.heap.size) (msC x)) ja);have HS2:=hD (((HS1.own hss.1 ja ja).alloc (.cells #[(),(),(),(),(),"",(),(),(),(),(),"","","s","s",(),"","s","s","s","s"] 38)).own (zb (b:=w2.heap.size) (msC x)) ja ja);have HQ2:=hD ((hss.2.alloc (.cells #[(),(),(),(),(),"",(),(),(),(),(),"","","s","s",(),"","s","s","s","s"] 38)).grown (zb (b:=w2.heap.size) (msC x)) (by have:=hss.2.lt;omega));have HX2:=hD (HT0.sets (msC x) rfl);have HT2:Hid (yG (w.heap.size+2) (x.ok) ((w2.alloc (.cells #[(),(),(),(),(),"",(),(),(),(),(),"","","s","s",(),"","s","s","s","s"] 38)).setCells w2.heap.size 0 (msC x))):=hD (Held.stays (b4:=w2.heap.size) (((yI hst (ag _) (Or.inr (ag _))).below (za w2 (.cells #[(),(),(),(),(),"",(),(),(),(),(),"","","s","s",(),"","s","s","s","s"] 38))).row (zb (b:=w2.heap.size) (msC x)) (Or.inr rfl)));have HX:=hD hx;clear hx hst hss HV1 HS1 HQ1 HZ1;go_upto_region 3 with(refine ai rfl 38 _ _ rfl w2.heap.size 0 (msC x).toArray rfl rfl (HT0.there rfl) (zD x) (yu x) ?_);try simp only[ay]
 generalize (w2.alloc (.cells #[(),(),(),(),(),"",(),(),(),(),(),"","","s","s",(),"","s","s","s","s"] 38)).setCells w2.heap.size 0 (msC x)=w3 at HV2 HS2 HQ2 HT2 HX2⊢;have HX3:Hid (Vr w3 w2.heap.size (msC x)):=HX2;clear HT0 HX2;have c1:=HS2.2.c1;have f1:=HS2.2.f1;have dl:=HS2.2.lt;have q0:=HQ2.c0;have q1:=HQ2.c1;have ql:=HQ2.lt;simp only at c1 q0 q1;have HVz:Hid (∀v:Bool,Vr (w3.setCell ⟨g,1,none⟩ (.bool v)) w.heap.size [(),(),(),(),(),"",(),(),(),(),(),"","","s","s",(),"","s","s","s","s"]):=hD (fun v=>HV2.grown (ze w3 ⟨g,1,none⟩ (.bool v)) jav);have HXz:Hid (∀v:Bool,Vr (w3.setCell ⟨g,1,none⟩ (.bool v)) w2.heap.size (msC x)):=hD (fun v=>HX3.grown (ze w3 ⟨g,1,none⟩ (.bool v)) jcf);have HFin:Hid (∀v:Bool,v=(b || b' || !r'.isEmpty)→RetX msC Ms.er Ms.ok g (yt tkMs t ⟨r,b⟩) w (.returned (.agg (msC x).toArray)) ((w3.setCell ⟨g,1,none⟩ (.bool v)).setCells w.heap.size 0 (msC x))):=hD (fun v hv=>
  zfd HR rfl HX (((HT2.on (zh (ze w3 ⟨g,1,none⟩ (.bool v)) jca)).on (zh (zb (b:=w.heap.size) (msC x)) ja)).low ja)
   (((HS2.set1 v).own (zb (b:=w.heap.size) (msC x)) (ag _) ja).eq (by rw[hv])))
 cases b
 · cases b'
   · cases r'
     · go_wp2_with (first
         |(refine ak rfl 38 _ rfl w2.heap.size 0 rfl (msC x) _ (HXz false).range underlying38 rfl (zD x) ?_)
         |(refine ai rfl 38 _ _ rfl w.heap.size 0 (msC x).toArray rfl rfl ((HVz false).there rfl) (zD x) (yu x) ?_))
       refine aj (v:= .agg (msC x).toArray) ?_ rfl (HFin false rfl);exact zW results125 _ _ w.heap.size (msC x) _ rfl ((HVz false).sets (msC x) rfl).range underlying38 rfl (zD x)
     · exact fo66
   · exact fo66
 · go_wp2_with (first
     |(refine ak rfl 38 _ rfl w2.heap.size 0 rfl (msC x) _ (HXz true).range underlying38 rfl (zD x) ?_)
     |(refine ai rfl 38 _ _ rfl w.heap.size 0 (msC x).toArray rfl rfl ((HVz true).there rfl) (zD x) (yu x) ?_))
   refine aj (v:= .agg (msC x).toArray) ?_ rfl (HFin true jc);exact fo270
def zdR(o:Option Ms)(w:World)(e:Ending)(w':World):Prop:=Below w.heap.size w w'∧match o with
 |some m=>∃x,x.er=m∧e= .returned (.tuple #[.agg (msC x).toArray,()])∧yG w.heap.size x.ok w'
 |none=>e= .returned (.tuple #[.agg (msC ms0).toArray,.int .i64 2])
variable{args:Array Value}{f:FuncId}{s:List UInt8}{m:Ms}{P:Program}{w w':World}
theorem Z0{o:Option Ms}(h:o=none)(hb:Below w.heap.size w w'):zdR o w (.returned (.tuple #[.agg (msC ms0).toArray,.int .i64 2])) w':=by
 subst h;exact⟨hb,rfl⟩
theorem zdp{o:Option Ms}{x:Ms}(h:o=some x.er)(hb:Below w.heap.size w w')(hk:yG w.heap.size x.ok w'):zdR o w (.returned (.tuple #[.agg (msC x).toArray,()])) w':=by
 subst h;exact⟨hb,x,rfl,rfl,hk⟩
theorem decMs_none(h:whole rdMs s=none):ZI s=none:=by unfold ZI;rw[h]
theorem decMs_some(h:whole rdMs s=some m):ZI s=if vMs m=0 then some m else none:=by unfold ZI;rw[h]
theorem decode_any(s:List UInt8)(w:World)(hs:s.length≤268435456):Calls prog 87 #[s] w (zdR (ZI s) w):=by
 have HV0:=hD (Vr.new w (msC ms0) 38);have HV1:=hD (HV0.below (za (w.alloc (.cells (msC ms0).toArray 38)) (.cells #["",false] 162)));have HB1:=hD (bon (za w (.cells (msC ms0).toArray 38)) (za (w.alloc (.cells (msC ms0).toArray 38)) (.cells #["",false] 162)));have HQ1:=hD (Ss.new' (w.alloc (.cells (msC ms0).toArray 38)) [] false 162 (g:=w.heap.size+1) jc);have HZ1:Hid (((w.alloc (.cells (msC ms0).toArray 38)).alloc (.cells #["",false] 162)).heap.size=w.heap.size+2):=hD jc;have HP:=hD (partMs_any (w.heap.size+1) ⟨[],false⟩ s _ HQ1 (fun q W hW=>zfs q ⟨s,false⟩ W hW hs));cases hw:whole rdMs s with
 |none=>
  have hbad:=zeP ag_ms s ⟨[],false⟩ hw;have HD:=hD (decMs_none hw);generalize yt tkMs s ⟨[],false⟩=p at HP hbad;obtain⟨y,r',b'⟩:=p;simp only at hbad;subst hbad;clear hw;go_in;go_wp2_with fail;refine HP.mono ?_;rintro e w2 ⟨x,rfl,hx,hst,hss⟩;have h2:=hss.1.size;rw[HZ1.out]at h2;have HT0:=hD (Vr.new w2 (msC ms0) 38);have HV2:=hD (((HV1.grown hss.1 ja).below (za w2 (.cells (msC ms0).toArray 38))).grown (zb (b:=w2.heap.size) (msC x)) ja);have HB2:=hD (zf (bon (zf HB1 hss.1 ja) (za w2 (.cells (msC ms0).toArray 38))) (zb (b:=w2.heap.size) (msC x)) ja);have HQ2:=hD ((hss.2.alloc (.cells (msC ms0).toArray 38)).grown (zb (b:=w2.heap.size) (msC x)) (by have:=hss.2.lt;omega));clear hx hst hss HV1 HQ1 HZ1 HP;go_upto_region 3 with(refine ai rfl 38 _ _ rfl w2.heap.size 0 (msC x).toArray rfl rfl (HT0.there rfl) (zD x) (yu x) ?_);try simp only[ay]
  change Code.wp _ _ _ _ ((w2.alloc (.cells (msC ms0).toArray 38)).setCells w2.heap.size 0 (msC x));generalize (w2.alloc (.cells (msC ms0).toArray 38)).setCells w2.heap.size 0 (msC x)=w3 at HV2 HB2 HQ2⊢;have q1:=HQ2.c1;simp only at q1;go_wp2_with (refine ai rfl 38 _ _ rfl w.heap.size 0 (msC ms0).toArray rfl rfl (HV2.there rfl) (zD ms0) (yu ms0) ?_);refine aj (v:= .tuple #[.agg (msC ms0).toArray,.int .i64 2]) ?_ rfl (Z0 HD (zf HB2 (zb (b:=w.heap.size) (msC ms0)) (ag _)));exact zi results87 _ _ w.heap.size (msC ms0) _ _ rfl rfl (HV2.sets (msC ms0) rfl).range underlying38 rfl (zD ms0)
 |some m=>
  have hp:=zfc ag_ms s ⟨[],false⟩ m hw;have HD:=hD (decMs_some hw);have hsz:=zdc rdMs_sz hw;rw[hp]at HP;clear hw hp;go_in;go_wp2_with fail;refine HP.mono ?_;rintro e w2 ⟨x,rfl,hx,hst,hss⟩;simp only at hx hss;rw[HZ1.out]at hst;have h2:=hss.1.size;rw[HZ1.out]at h2;have HT0:=hD (Vr.new w2 (msC ms0) 38);have HV2:=hD (((HV1.grown hss.1 ja).below (za w2 (.cells (msC ms0).toArray 38))).grown (zb (b:=w2.heap.size) (msC x)) ja);have HB2:=hD (zf (bon (zf HB1 hss.1 ja) (za w2 (.cells (msC ms0).toArray 38))) (zb (b:=w2.heap.size) (msC x)) ja);have HQ2:=hD ((hss.2.alloc (.cells (msC ms0).toArray 38)).grown (zb (b:=w2.heap.size) (msC x)) (by have:=hss.2.lt;omega));have HX2:=hD (HT0.sets (msC x) rfl);have HT2:Hid (yG (w.heap.size+2) (x.ok) ((w2.alloc (.cells (msC ms0).toArray 38)).setCells w2.heap.size 0 (msC x))):=hD (Held.stays (b4:=w2.heap.size) (((yI hst (ag _) (Or.inr (ag _))).below (za w2 (.cells (msC ms0).toArray 38))).row (zb (b:=w2.heap.size) (msC x)) (Or.inr rfl)));have HX:=hD hx;clear hx hst hss HV1 HQ1 HZ1 HP;go_upto_region 3 with(refine ai rfl 38 _ _ rfl w2.heap.size 0 (msC x).toArray rfl rfl (HT0.there rfl) (zD x) (yu x) ?_);try simp only[ay]
  change Code.wp _ _ _ _ ((w2.alloc (.cells (msC ms0).toArray 38)).setCells w2.heap.size 0 (msC x));generalize (w2.alloc (.cells (msC ms0).toArray 38)).setCells w2.heap.size 0 (msC x)=w3 at HV2 HB2 HQ2 HX2 HT2⊢;have q1:=HQ2.c1;simp only at q1;have hxs:x.sz≤268435456:=by rw[←Ms.sz_er,HX.out];omega
  have HVal:=hD (zb5 x w3 HT2.out.out (MsFew.of_sz ja));have HVx:Hid (vMs x=vMs m):=hD (by rw[←vMs_er x,HX.out]);go_wp2_with (refine yC ji 38 _ rfl w2.heap.size 0 rfl (msC x) _ HX2.range underlying38 rfl (zD x) ?_);refine HVal.mono ?_;rintro e w4 ⟨rfl,hb⟩;have HV4:=hD (HV2.below hb);have HB4:=hD (bon HB2 hb);have HX4:=hD (HX2.below hb);have HT4:=hD (HT2.on (zl _ hb));clear hb q1 HVal;by_cases h0:vMs m=0
  · have h1:(vMs x == 0)=true:=by rw[HVx.out,h0];rfl
    have h2':(vMs x != 0)=false:=by rw[HVx.out,h0];rfl
    have HY:Hid (ZI s=some x.er):=hD (by rw[HD.out,af h0,HX.out]);clear h0;go_wp2_with (first
     |(refine ak rfl 38 _ rfl w2.heap.size 0 rfl (msC x) _ HX4.range underlying38 rfl (zD x) ?_)
     |(refine ai rfl 38 _ _ rfl w.heap.size 0 (msC x).toArray rfl rfl (HV4.there rfl) (zD x) (yu x) ?_))
    refine aj (v:= .tuple #[.agg (msC x).toArray,()]) ?_ rfl (zdp HY (zf HB4 (zb (b:=w.heap.size) (msC x)) (ag _)) ((HT4.on (zh (zb (b:=w.heap.size) (msC x)) ja)).low ja));exact zi results87 _ _ w.heap.size (msC x) _ _ rfl rfl (HV4.sets (msC x) rfl).range underlying38 rfl (zD x)
  · have h1:(vMs x == 0)=false:=by rw[HVx.out];simpa using h0
    have h2':(vMs x != 0)=true:=by rw[HVx.out];simpa using h0
    have HY:Hid (ZI s=none):=hD (by rw[HD.out,aa h0]);clear h0;go_wp2_with (refine ai rfl 38 _ _ rfl w.heap.size 0 (msC ms0).toArray rfl rfl (HV4.there rfl) (zD ms0) (yu ms0) ?_);refine aj (v:= .tuple #[.agg (msC ms0).toArray,.int .i64 2]) ?_ rfl (Z0 HY (zf HB4 (zb (b:=w.heap.size) (msC ms0)) (ag _)));exact zi results87 _ _ w.heap.size (msC ms0) _ _ rfl rfl (HV4.sets (msC ms0) rfl).range underlying38 rfl (zD ms0)
theorem zgB{o:Option Ms}(h:Calls P f args w (zdR o w))(ho:o=some m) :
    Calls P f args w fun e w'=>∃x:Ms,x.er=m∧e= .returned (.tuple #[.agg (msC x).toArray,()])∧yG w.heap.size x.ok w'∧Below w.heap.size w w':=
 h.mono fun _ _ hh=>by
  subst ho
  obtain⟨hb,x,hx,he,hk⟩:=hh
  exact⟨x,hx,he,hk,hb⟩
theorem decM_none{o:Option Ms}(h:Calls P f args w (zdR o w))(ho:o=none) :
    Calls P f args w fun e w'=>e= .returned (.tuple #[.agg (msC ms0).toArray,.int .i64 2])∧Below w.heap.size w w':=
 h.mono fun _ _ hh=>by
  subst ho
  exact⟨hh.2,hh.1⟩
def st0:St:=⟨0,0,0,0,[],Sl.nil,sg0⟩
