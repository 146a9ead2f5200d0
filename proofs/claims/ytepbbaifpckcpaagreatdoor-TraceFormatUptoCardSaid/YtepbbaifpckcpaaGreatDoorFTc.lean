/- The closure of Operations, and slices.IndexFunc over it. -/
import Derived.Laws.Slices
import Derived.Test.YtepbbaifpckcpaaGreatDoorFPl
import Derived.Test.YtepbbaifpckcpaaGreatDoorFTb
import Derived.Test.YtepbbaifpckcpaaGreatDoorFFo
namespace Go.Proofs.YtepbbaifpckcpaaGreatDoor
set_option maxRecDepth 100000
set_option maxHeartbeats 2000000
open Go.RowKit
theorem flat_drop {α:Type} (C:α→List Value) (m:Nat) (hC:∀x,(C x).length=m) (l:List α) (k:Nat) (hk:k≤l.length):(l.flatMap C).drop (k * m)=(l.drop k).flatMap C:=by
 have h1:l.flatMap C=(l.take k).flatMap C++(l.drop k).flatMap C:=by rw [←List.flatMap_append,List.take_append_drop]
 have h2:((l.take k).flatMap C).length=k * m:=by rw [ZY C m hC,List.length_take,Nat.min_eq_left hk]
 rw [h1,←h2,List.drop_left]
theorem ZV.drop {w:World} {b o:Nat} {l:List Pt} (h:ZV w (some ⟨b,o,none⟩) l) (k:Nat) (hk:k≤l.length):ZV w (some ⟨b,o+k * 28,none⟩) (l.drop k):=by
 refine⟨⟨ZY ptC 28 Ye _,fun hj=> ?_⟩,fun x hx=>h.2 x (List.mem_of_mem_drop hx)⟩;have hl:0<(l.flatMap ptC).length:=by
  rw [←flat_drop ptC 28 Ye l k hk,List.length_drop] at hj;omega
 obtain⟨b',o',e,hb,hc⟩:=h.1.cells hl;simp only [Option.some.injEq,Addr.mk.injEq] at e;obtain⟨rfl,rfl,_⟩:=e;refine⟨b,o+k * 28,rfl,hb,fun j u hu=> ?_⟩;rw [←flat_drop ptC 28 Ye l k hk,List.getElem?_drop] at hu;rw [Nat.add_assoc];exact hc _ u hu
theorem slice_pts {b off c:Nat} {l:List Pt} (j:Nat) (hj:j<l.length) (hc:l.length≤c):∃A2:Option Addr,(∀W:World,(Instr.slice 22 (.slice (some ⟨b,off,none⟩) l.length c) (some (.int .i64 ((j:Int)+1))) none none).run Tryz.prog W= .ok (.slice A2 (l.drop (j+1)).length (c-(j+1))) W)∧
    ∀W,ZV W (some ⟨b,off,none⟩) l→ZV W A2 (l.drop (j+1)):=by
 have ht:Tryz.prog.underlying 22=some (.slice (Tryz.prog.elem 22)):=by kernel_rfl
 have he:Tryz.prog.elem 22=40:=by kernel_rfl
 have hn:((j:Int)+1).toNat=j+1:=by omega
 refine⟨if c=j+1 then some ⟨b,off,none⟩ else some ⟨b,off+(j+1) * 28,none⟩,fun W=> ?_,fun W h=> ?_⟩
 · rw [run_slice_l _ _ _ _ _ ht .i64 ((j:Int)+1) ja ja,he,Tryz.sizeOf40];simp only [Result.andThen,sliced,hn,List.length_drop];split
   · rfl
   · simp only [Option.map,add_plain']
 · split
   · next h1=>
     have:l.drop (j+1)= []:=List.drop_eq_nil_of_le ja;rw [this];exact⟨Rd.nil _ _ _,by simp⟩
   · exact h.drop (j+1) hj
def za0 (l:List Pt) (j:Nat):List Opn:=(List.range j).flatMap (ze8 l)
theorem zaB (l:List Pt) (j:Nat):za0 l (j+1)=za0 l j++ze8 l j:=by
 unfold za0;rw [List.range_succ,List.flatMap_append];simp
theorem opsTo_from (l:List Pt) (j:Nat):za0 l j++YA j (l.drop j)=YA 0 l:=by
 induction j with
 |zero=>simp [za0]
 |succ j ih=>rw [zaB,List.append_assoc,←opsFrom_at,ih]
theorem opsTo_all (l:List Pt):za0 l l.length=YA 0 l:=by
 have h:=opsTo_from l l.length;rw [List.drop_length] at h;simpa [YA] using h
theorem opsTo_len (l:List Pt) (j:Nat):(za0 l j).length≤j:=by
 induction j with
 |zero=>simp [za0]
 |succ j ih=>
  rw [zaB,List.length_append];have:(ze8 l j).length≤1:=by
   unfold ze8;split
   · split <;> simp
   · simp
  omega
theorem opsAt_no (l:List Pt) (j:Nat) (h:j<l.length) (hq:za3 l[j]=false):ze8 l j= []:=by
 unfold ze8;rw [dif_pos h,hq];rfl
theorem opsAt_yes (l:List Pt) (j:Nat) (h:j<l.length) (hq:za3 l[j]=true):ze8 l j= [opOf l[j] j (l.drop (j+1))]:=by
 unfold ze8;rw [dif_pos h,hq];rfl
def ixOf:Option Nat→Int
 |none=>-1
 |some k=>k
theorem ack_any (y x:Pt) (g:Nat) (w:World) (hx:Vr w g (ptC x)):Calls Tryz.prog 40 #[.agg (ptC y).toArray, .pointer (some ⟨g,0,none⟩)] w (zC (zcU x y) w):=by
 have HY:=hD (Vr.new w (ptC y) 40);have HX:=hD (hx.below (za w (.cells (ptC y).toArray 40)));have HB:=hD (za w (.cells (ptC y).toArray 40));clear hx;go_in;go_upto_region 1 with fail;change Code.wp _ _ _ _ (w.alloc (.cells (ptC y).toArray 40));generalize w.alloc (.cells (ptC y).toArray 40)=w1 at HY HX HB⊢;have d1:=HY.out.cells 1 _ rfl;have d2:=HY.out.cells 2 _ rfl;have d4:=HY.out.cells 4 _ rfl;have dl:=HY.out.lt;have e2:=HX.out.cells 2 _ rfl;have e4:=HX.out.cells 4 _ rfl;have el:=HX.out.lt;by_cases h1:y.kind=2
 · have h1':(y.kind == 2)=true:=by simpa using h1
   by_cases h2:y.who=x.who
   · have h2':(y.who == x.who)=true:=by simpa using h2
     by_cases h3:y.number=x.number
     · have h3':(y.number == x.number)=true:=by simpa using h3
       go_wp2_with fail;go_ret;exact zz (by simp [zcU,h1,h2,h3]) HB.out
     · have h3':(y.number == x.number)=false:=by simpa using h3
       go_wp2_with fail;go_ret;exact zz (by simp [zcU,h3]) HB.out
   · have h2':(y.who == x.who)=false:=by simpa using h2
     go_wp2_with fail;go_ret;exact zz (by simp [zcU,h2]) HB.out
 · have h1':(y.kind == 2)=false:=by simpa using h1
   go_wp2_with fail;go_ret;exact zz (by simp [zcU,h1]) HB.out
theorem ix_none {l:List Pt} {p:Pt→Bool} (h:∀j,(hj:j<l.length)→p l[j]=false):l.findIdx? p=none:=by
 rw [List.findIdx?_eq_none_iff];intro x hx;obtain⟨j,hj,rfl⟩:=List.mem_iff_getElem.1 hx;exact h j hj
theorem ix_some {l:List Pt} {p:Pt→Bool} {k:Nat} (hk:k<l.length) (h:∀j,(hj:j<k)→p (l[j]'(Nat.lt_trans hj hk))=false) (hp:p l[k]=true):l.findIdx? p=some k:=by
 rw [List.findIdx?_eq_some_iff_getElem];exact⟨hk,hp,fun j hj=>by rw [h j hj];simp⟩
theorem idxPt_any (A:Option Addr) (c:Nat) (l:List Pt) (x:Pt) (g:Nat) (w:World) (hp:ZV w A l) (hx:Vr w g (ptC x)) (hn:l.length≤1099511627776) :
    Calls Tryz.prog 39 #[.slice A l.length c, .func (.func 40) #[] #[.pointer (some ⟨g,0,none⟩)]] w (fun e w'=>e= .returned (.int .i64 (ixOf (l.findIdx? (zcU x))))∧Below w.heap.size w w'):=by
 have HP:=hD hp;have HX:=hD hx;clear hp hx;have HB0:=hD (Below.refl w.heap.size w);go_in;go_wp2_with fail;go_loopw [8] (fun i wr=>∃k:Nat,i= .int .i64 k∧k≤l.length∧(∀j,(hj:j<k)→(hl:j<l.length)→zcU x l[j]=false)∧Below w.heap.size w wr) (fun i _=>l.length-(intOf i).toNat)
 case atStart=>exact⟨0,rfl,by omega,fun j hj=>by omega,HB0.out⟩
 case round=>
  obtain⟨k,rfl,hk,hA,hB0⟩:=hrel;have HA:=hD hA;have HB:=hD hB0;clear hA hB0;by_cases hlt:k<l.length
  · have i0':(0:Int)≤(k:Int):=by omega
    have i1:(k:Int) <(l.length:Int):=by omega
    obtain⟨b,off,hA,hg,hcc⟩:=HP.out.at hlt;subst hA;obtain⟨y,hy⟩:∃y,y=l[k]:=⟨_,rfl⟩;have HRg:=hD (hcc wr HB.out);rw [←hy] at HRg;have HYe:=hD hy;clear hcc hy;go_wp2_with (refine wpList_load_mid rfl 40 _ rfl b (off+k * 28) rfl (ptC y) _ HRg.out Tryz.underlying40 rfl (zw y) ?_);refine(ack_any y x g wr (HX.out.below HB.out)).mono ?_;rintro e w2 ⟨rfl,b2⟩;have HB2:=hD (bon HB.out b2);clear b2;cases hq:zcU x y with
    |true=>
     have HF:Hid (ixOf (l.findIdx? (zcU x))=k):=hD (by rw [ix_some hlt (fun j hj=>HA.out j hj _) (by rw [←HYe.out];exact hq)];rfl);clear hq;go_wp2_with fail;go_ret;exact⟨by rw [HF.out];rfl,HB2.out⟩
    |false=>
     have HN:Hid (∀j,(hj:j<k+1)→(hl:j<l.length)→zcU x l[j]=false):=hD (fun j hj hl=>by
      rcases Nat.lt_or_ge j k with h|h
      · exact HA.out j h hl
      · obtain rfl:j=k:=by omega
        rw [←HYe.out];exact hq)
     clear hq;go_wp2_with fail;go_roundw
     case rel=>exact⟨k+1,by go_num,by omega,HN.out,HB2.out⟩
     case measure=>simp [intOf];omega
  · obtain rfl:k=l.length:=by omega
    have HF:Hid (ixOf (l.findIdx? (zcU x))=-1):=hD (by rw [ix_none (fun j hj=>HA.out j hj hj)];rfl);go_wp2_with fail;go_ret;exact⟨by rw [HF.out];rfl,HB.out⟩
set_option maxRecDepth 100000
set_option maxHeartbeats 1000000
open Go.RowKit
theorem zdu (A:Option Addr) (c:Nat) (l:List Pt) (w:World) (hp:ZV w A l) (hn:l.length≤1099511627776) (hc:l.length≤c) (hc2:c≤9223372036854775807) :
    Calls Tryz.prog 15 #[.slice A l.length c] w (RetOps (YA 0 l) w):=by
 have HP:=hD hp;clear hp;obtain⟨i0,hi,hz0,hz1,hz2⟩:=info_parts infoOpr;have HI:=hD hi;have HZ0:=hD hz0;have HZ1:=hD hz1;have HZ2:=hD hz2;clear hi hz0 hz1 hz2;go_in;go_wp2_with fail;go_loopw [3,10] (fun o i wr=>∃(j:Nat) (q:Value),i= .int .i64 j∧q=o∧OpSt (za0 l) w l.length j q wr) (fun _ i _=>l.length-(intOf i).toNat)
 case atStart=>exact⟨0,_,rfl,rfl,OpSt.start _ w l.length rfl⟩
 case round=>
  obtain⟨j,o,rfl,rfl,hst⟩:=hrel;have hj:=hst.le;have HJ:=hD hst;clear hst;by_cases hlt:j<l.length
  · have i0':(0:Int)≤(j:Int):=by omega
    have i1:(j:Int) <(l.length:Int):=by omega
    obtain⟨b,off,hA,hg,hcc⟩:=HP.out.at hlt;subst hA;obtain⟨x,hx⟩:∃x,x=l[j]:=⟨_,rfl⟩;have HRg:=hD (hcc wr HJ.out.low);rw [←hx] at HRg;have HXe:=hD hx;clear hcc hx;have HX0:=hD (Vr.new wr (ptC pt0) 40);have HX:=hD (HX0.out.sets (ptC x) rfl);have HBr:=hD (zh (za wr (.cells (ptC pt0).toArray 40)) (zf (b:=wr.heap.size) (ptC x)) (Nat.le_refl _));go_upto_region 5 with(first
     |(refine wpList_load_mid rfl 40 _ rfl b (off+j * 28) rfl (ptC x) _ HRg.out Tryz.underlying40 rfl (zw x) ?_)
     |(refine wpList_store_mid rfl 40 _ _ rfl wr.heap.size 0 (ptC x).toArray rfl rfl ?_ (zw x) (yG x) ?_;· exact HX0.out.there rfl))
    try simp only [List.toList_toArray]
    clear HX0 HRg;change Code.wp _ _ _ _ ((wr.alloc (.cells (ptC pt0).toArray 40)).setCells wr.heap.size 0 (ptC x));generalize (wr.alloc (.cells (ptC pt0).toArray 40)).setCells wr.heap.size 0 (ptC x)=w3 at HX HBr⊢;generalize wr.heap.size=b3 at HX⊢;have c1:=HX.out.cells 1 _ rfl;have c2:=HX.out.cells 2 _ rfl;have c5:=HX.out.cells 5 _ rfl;have l3:=HX.out.lt;by_cases h1:x.kind=1
    · have h1':(x.kind == 1)=true:=by simpa using h1
      have h1n:(x.kind != 1)=false:=by simpa using h1
      go_wp2_with fail;refine(Yt x.who w3).mono ?_;rintro e w4 ⟨rfl,hw4⟩;subst hw4;cases h2:isCl x.who with
      |false=>
       have HN:Hid (OpSt (za0 l) w l.length (j+1) o w4):=hD (HJ.out.skip HBr.out hlt (by rw [zaB,opsAt_no l j hlt (by rw [←HXe.out];simp [za3,h2]),List.append_nil]));exact fo46
      |true=>
       have HInv:Hid (za0 l (j+1)=za0 l j++ [opOf x j (l.drop (j+1))]):=hD (by rw [zaB,opsAt_yes l j hlt (by rw [←HXe.out];simp [za3,h1,h2]),←HXe.out]);have HV:=hD (Vr.new w4 (opC ⟨x.who,(j:Int), -1,x.text, []⟩) 44);have HX4:=hD (HX.out.below (za w4 (.cells (opC ⟨x.who,(j:Int), -1,x.text, []⟩).toArray 44)));have hb6:=HBr.out.size;have HBr:=hD (bon HBr.out (za w4 (.cells (opC ⟨x.who,(j:Int), -1,x.text, []⟩).toArray 44)));go_upto_region 7 with fail;change Code.wp _ _ _ _ (w4.alloc (.cells (opC ⟨x.who,(j:Int), -1,x.text, []⟩).toArray 44));generalize w4.alloc (.cells (opC ⟨x.who,(j:Int), -1,x.text, []⟩).toArray 44)=w5 at HV HX4 HBr⊢;generalize w4.heap.size=b6 at HV hb6⊢;obtain⟨A2,hSl,hP2⟩:=slice_pts (b:=b) (off:=off) j hlt hc;have HP2:=hD (hP2 w5 (HP.out.below (bon HJ.out.low HBr.out)));have HIx:=hD (idxPt_any A2 (c-(j+1)) (l.drop (j+1)) x b3 w5 HP2.out HX4.out jbi);clear c1 c2 c5 l3 h1' h1n hP2;rw [List.length_drop] at HIx;go_wp2_with fail;refine HIx.out.mono ?_;rintro e w6 ⟨rfl,b6'⟩;have HV:=hD (HV.out.below b6');have HBr:=hD (bon HBr.out b6');clear b6' hSl HIx HP2;cases hix:(l.drop (j+1)).findIdx? (zcU x) with
       |none=>
        have HFx:Hid (za0 l (j+1)=za0 l j++ [⟨x.who,(j:Int), -1,x.text, []⟩]):=hD (by rw [HInv.out];unfold opOf;rw [hix]);have hm:¬((0:Int)≤-1):=by decide
        rw [show ixOf none=-1 from rfl];clear hix;have HO3:=hD (ownsRow_below HJ.out.own HBr.out);have hlen:=opsTo_len l j;have hz:=HJ.out.low.size;have hz3:=HBr.out.size;go_wp2_with (first
         |(refine wpList_load_mid rfl 44 _ rfl b6 0 rfl [.int .i64 x.who, .int .i64 (j:Int), .int .i64 (-1), .string ⟨x.text.toArray⟩, .string ⟨#[]⟩] _ HV.out.range Tryz.underlying44 rfl (infoOp ⟨x.who,(j:Int), -1,x.text, []⟩) ?_)
         |(at_builtin;refine wpList_append_own_at _ rfl _ _ 41 rfl w.heap.size 44 i0 _ 5 56 Tryz.underlying41 HI.out HZ0.out HZ1.out HZ2.out rfl jf _ _ _ rfl (HO3.out.alloc _) ⟨w6.heap.size,0,none⟩ 1 1 [.int .i64 x.who, .int .i64 (j:Int), .int .i64 (-1), .string ⟨x.text.toArray⟩, .string ⟨#[]⟩] rfl rfl (z8 _ _ _ _ rfl) jv jw ja jg ?_))
        intro v' w9 hown' hgrow _ hat;have HN:Hid (OpSt (za0 l) w l.length (j+1) v' w9):=hD (HJ.out.more (bon HBr.out (za w6 (.cells #[.int .i64 x.who, .int .i64 (j:Int), .int .i64 (-1), .string ⟨x.text.toArray⟩, .string ⟨#[]⟩] 44))) hlt HFx.out hown' hgrow);clear hown' hgrow hat;exact fo46
       |some k=>
        obtain⟨hk, -, -⟩:=List.findIdx?_eq_some_iff_getElem.1 hix;rw [List.length_drop] at hk;have hk2:j+1+k<l.length:=by omega
        obtain⟨y,hy⟩:∃y,y=l[j+1+k]:=⟨_,rfl⟩;have HFx:Hid (za0 l (j+1)=za0 l j++ [⟨x.who,(j:Int),(j:Int)+1+(k:Int),x.text,y.result⟩]):=hD (by
         rw [HInv.out];unfold opOf;rw [hix];simp only [List.getElem?_drop,List.getElem?_eq_getElem hk2,Option.map_some,Option.getD_some,←hy])
        rw [show ixOf (some k)=(k:Int) from rfl];obtain⟨b',off',hA',hg',hcc'⟩:=HP.out.at hk2;simp only [Option.some.injEq,Addr.mk.injEq] at hA';obtain⟨rfl,rfl,_⟩:=hA';have HCC:Hid (∀W,Below wr.heap.size wr W→W.cell? ⟨b,off+(j+1+k) * 28+6,none⟩=some (.string ⟨y.result.toArray⟩)):=hD (fun W hW=>hcc' W (bon HJ.out.low hW) 6 _ (by rw [←hy];rfl));have hm:(0:Int)≤(k:Int):=by omega
        have e0:((j:Int)+1+(k:Int)).toNat=j+1+k:=by omega
        have e1:(0:Int)≤(j:Int)+1+(k:Int):=by omega
        have e2:(j:Int)+1+(k:Int) <(l.length:Int):=by omega
        have e3:IntKind.i64.wrap ((j:Int)+1)=(j:Int)+1:=IntWalk.i64_in _ ja;have e4:IntKind.i64.wrap ((j:Int)+1+(k:Int))=(j:Int)+1+(k:Int):=IntWalk.i64_in _ ja;clear hix hcc' hg' hy hk;go_wp2_with fail;refine wp_region_noPanic ?_;have HV:=hD (HV.out.below (Below.refl _ _).drew);have HBr:=hD (HBr.out.drew);generalize hv:w6.drew=v at HV HBr;have hC:=HCC.out v HBr.out;refine wp_region_held_drew (S:=fun W=>W.cell? ⟨b,off+(j+1+k) * 28+6,none⟩=some (.string ⟨y.result.toArray⟩)) jc jbs (fun hHeld=> ?_);rw [hv] at hHeld⊢;clear hv;refine takes [0,1,2,3,4,5,6,7,8,9,10,11,12] ?_;have cz:=HV.out.cells 2 _ rfl;have fz:=HV.out.free 2 (of_decide_eq_true rfl);have lz:=HV.out.lt;refine tkr 13 rfl (fun K hK=> ?_);go_simp;have HV:=hD (HV.out.set 2 (.int .i64 ((j:Int)+1+(k:Int))));have HBr:=hD (zh HBr.out (zb v ⟨b6,2,none⟩ (.int .i64 ((j:Int)+1+(k:Int)))) (by show wr.heap.size≤b6;omega));clear cz fz lz;generalize v.setCell ⟨b6,2,none⟩ (.int .i64 ((j:Int)+1+(k:Int)))=v1 at HV HBr⊢;have hC0:=HCC.out v1 HBr.out;refine hK.out _ _ hC0 (fun hHeld=> ?_);clear hK K;try simp only [Act.put,qk1,qk2,qk3,qk4,qk5,qk6]
        refine takes [14] ?_;have cz:=HV.out.cells 4 _ rfl;have fz:=HV.out.free 4 (of_decide_eq_true rfl);have lz:=HV.out.lt;refine tkr 15 rfl (fun K hK=> ?_);go_simp;have HV:=hD (HV.out.set 4 (.string ⟨y.result.toArray⟩));have HBr:=hD (zh HBr.out (zb v1 ⟨b6,4,none⟩ (.string ⟨y.result.toArray⟩)) (by show wr.heap.size≤b6;omega));clear cz fz lz;generalize v1.setCell ⟨b6,4,none⟩ (.string ⟨y.result.toArray⟩)=v2 at HV HBr⊢;have hC1:=HCC.out v2 HBr.out;refine hK.out _ _ hC1 (fun hHeld=> ?_);clear hK K;try simp only [Act.put,qk1,qk2,qk3,qk4,qk5,qk6]
        refine wpAnyH_done jc ?_ _;refine NoPanic.normal ?_;have HV:=hD (HV.out.eq (cs':= [.int .i64 x.who, .int .i64 (j:Int), .int .i64 ((j:Int)+1+(k:Int)), .string ⟨x.text.toArray⟩, .string ⟨y.result.toArray⟩]) rfl);clear hC hC0 hC1 HCC hm e0 e1 e2 e3 e4;have HO3:=hD (ownsRow_below HJ.out.own HBr.out);have hlen:=opsTo_len l j;have hz:=HJ.out.low.size;have hz3:=HBr.out.size;go_wp2_with (first
         |(refine wpList_load_mid rfl 44 _ rfl b6 0 rfl [.int .i64 x.who, .int .i64 (j:Int), .int .i64 ((j:Int)+1+(k:Int)), .string ⟨x.text.toArray⟩, .string ⟨y.result.toArray⟩] _ HV.out.range Tryz.underlying44 rfl (infoOp ⟨x.who,(j:Int),(j:Int)+1+(k:Int),x.text,y.result⟩) ?_)
         |(at_builtin;refine wpList_append_own_at _ rfl _ _ 41 rfl w.heap.size 44 i0 _ 5 56 Tryz.underlying41 HI.out HZ0.out HZ1.out HZ2.out rfl jf _ _ _ rfl (HO3.out.alloc _) ⟨v2.heap.size,0,none⟩ 1 1 [.int .i64 x.who, .int .i64 (j:Int), .int .i64 ((j:Int)+1+(k:Int)), .string ⟨x.text.toArray⟩, .string ⟨y.result.toArray⟩] rfl rfl (z8 _ _ _ _ rfl) jv jw ja jg ?_))
        intro v' w9 hown' hgrow _ hat;have HN:Hid (OpSt (za0 l) w l.length (j+1) v' w9):=hD (HJ.out.more (bon HBr.out (za v2 (.cells #[.int .i64 x.who, .int .i64 (j:Int), .int .i64 ((j:Int)+1+(k:Int)), .string ⟨x.text.toArray⟩, .string ⟨y.result.toArray⟩] 44))) hlt HFx.out hown' hgrow);clear hown' hgrow hat;exact fo46
    · have h1':(x.kind == 1)=false:=by simpa using h1
      have h1n:(x.kind != 1)=true:=by simpa using h1
      have HN:Hid (OpSt (za0 l) w l.length (j+1) o w3):=hD (HJ.out.skip HBr.out hlt (by rw [zaB,opsAt_no l j hlt (by rw [←HXe.out];simp [za3,h1]),List.append_nil]));exact fo46
  · obtain rfl:j=l.length:=by omega
    have hown:=HJ.out.own;simp only [opsTo_all] at hown;obtain⟨a,c',rfl⟩:=ownsRow_form hown;have HOw:=hD hown;clear hown;go_wp2_with fail;go_ret;exact ret_ops rfl HOw.out HJ.out.low
end Go.Proofs.YtepbbaifpckcpaaGreatDoor
