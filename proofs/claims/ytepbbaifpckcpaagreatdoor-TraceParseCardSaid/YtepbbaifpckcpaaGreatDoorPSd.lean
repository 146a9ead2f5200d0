/- The contract of store.formOf. -/
import Derived.Test.YtepbbaifpckcpaaGreatDoorPSx
open Go.Proofs.Tryz
namespace Go.Proofs.YtepbbaifpckcpaaGreatDoor
set_option maxRecDepth 100000
set_option maxHeartbeats 4000000
open Go.RowKit
open Go.Maps (Keyed)
theorem forms_at(k:Nat)(h1:1≤k)(h6:k≤6)(z:DataW Unit):za4.atKey (.int .i64 (k:Int)) z= .agg [.lit (.string (zo k)),.lit (.bool (zx k)),.lit (.bool (zB k)),.lit (.bool (zI k))]∧Maps.has za4 (.int .i64 (k:Int))=true:=by
 have:k=1∨k=2∨k=3∨k=4∨k=5∨k=6:=by omega
 rcases this with rfl|rfl|rfl|rfl|rfl|rfl <;> exact⟨rfl,rfl⟩
theorem formR_is{v:Value}{s:List UInt8}{a b c:Bool}{ps:List MemPlace}(h:zbj v=some (.agg [.lit (.string s),.lit (.bool a),.lit (.bool b),.lit (.bool c)],ps)):v= .agg #[s,a,b,c]:=by
 obtain⟨⟨s',a',b',c'⟩,rfl⟩:=formR_inv h;simp only[frmV,zbj,ax,aI,DataW.agg.injEq,List.cons.injEq,fE,gp,Lit.bool.injEq,fA]at h;obtain⟨⟨rfl,rfl,rfl,rfl⟩,_⟩:=h;simp only[frmV,ze2]
theorem zero_form(w:World):(zeroValue 185).run prog w= .ok (.agg #["",false,false,false]) w:=by kernel_rfl
variable{b j k:Nat}{w:World}
theorem zf6(h:w.ownsMap prog 3 zbj b 6 za4)(k:Nat)(h1:1≤k)(h6:k≤6):(Instr.lookup 182 (.map (some b)) (.int .i64 (k:Int)) true).run prog w= .ok (.tuple #[.agg #[zo k,.bool (zx k),.bool (zB k),.bool (zI k)],true]) w:=by
 obtain⟨v,ps,hrun,hv⟩:=h.look_ok zc9 underlying182 (zero_form w) (R:=zbj) (zd:= .agg [.lit (.string []),.lit (.bool false),.lit (.bool false),.lit (.bool false)]) (zp:=[]) rfl (zaw k (by
  have:k=1∨k=2∨k=3∨k=4∨k=5∨k=6:=by omega
  rcases this with rfl|rfl|rfl|rfl|rfl|rfl <;> decide))
 obtain⟨e1,e2⟩:=forms_at k h1 h6 (.agg [.lit (.string []),.lit (.bool false),.lit (.bool false),.lit (.bool false)]);rw[e1]at hv;rw[hrun,e2,formR_is hv]
theorem zf8(k:Nat)(h1:1≤k)(h6:k≤6)(key old new:ByteArray)(w:World)(s1:key.size≤9223372036854775807)(s2:old.size≤9223372036854775807)(s3:new.size≤9223372036854775807) :
    Calls prog 202 #[.agg #[.int .i64 (k:Int),key,old,new]] w fun e w'=>e= .returned (.tuple #[.agg #[zo k,.bool (zx k),.bool (zB k),.bool (zI k)],.bool (zP k key.data.toList old.data.toList new.data.toList)])∧Below w.heap.size w w':=by
 have HO:=hD ((Vr.new w [.int .i64 (k:Int),key,old,new] 124).below (za (w.alloc (.cells #[.int .i64 (k:Int),key,old,new] 124)) (.cells #["",false,false,false] 185)));have HR:=hD (Vr.new' (w.alloc (.cells #[.int .i64 (k:Int),key,old,new] 124)) ["",false,false,false] 185 (b:=w.heap.size+1) jc);have HB:=hD (bon (za w (.cells #[.int .i64 (k:Int),key,old,new] 124)) (za (w.alloc (.cells #[.int .i64 (k:Int),key,old,new] 124)) (.cells #["",false,false,false] 185)));go_in;go_wp2_with fail;generalize (w.alloc (.cells #[.int .i64 (k:Int),key,old,new] 124)).alloc (.cells #["",false,false,false] 185)=w1 at HO HR HB⊢;refine aD ?_;have HO:=hD (HO.below (ae _ _).drew);have HR:=hD (HR.below (ae _ _).drew);have HB:=hD (HB.drew);generalize hv:w1.drew=v0 at HO HR HB;refine aC (S:=fun W=>World.cell? W ⟨w.heap.size,0,none⟩=some (.int .i64 (k:Int))) jb (by rw[hv];exact(HO.cells 0 _ rfl)) (fun hHeld=> ?_);rw[hv]at hHeld⊢;clear hv;refine takes [1,2] ?_;refine bG (rs:=[0,7]) jb jc ?_;refine aX (o:=_) rfl (fun K hK=> ?_) (aX (o:=_) rfl (fun K hK=> ?_) bD)
 · go_simp;go_at_call 137;refine(zfm _).mono ?_;rintro e v1 ⟨bm,rfl,hown,hs,hbm⟩;go_wp2_with fail;have HM:=hD hown;have HO:=hD (HO.below hs);have HR:=hD (HR.below hs);have HB:=hD (bon HB hs);clear hown hbm hs;refine hK.out _ _ (HO.cells 0 _ rfl) (fun hHeld=> ?_);clear hK K;try simp only[Act.put,qk1,qk2,qk3,qk4,qk5,qk6]
   refine ZY (S':=fun W=>World.cell? W ⟨w.heap.size,0,none⟩=some (.int .i64 (k:Int))∧(Instr.lookup 182 (.map (some bm)) (.int .i64 (k:Int)) true).run prog W= .ok (.tuple #[.agg #[zo k,.bool (zx k),.bool (zB k),.bool (zI k)],true]) W) (fun _ h=>h.1) _ _ _ _ ?_;refine takes [3,4,5,6] ?_ (hS:=⟨HO.cells 0 _ rfl,zf6 HM k h1 h6⟩);refine tkr 7 rfl (fun K hK=> ?_);go_simp;have hs:=za v1 (.cells #["",false,false,false] 185);have HVF:=hD (Vr.new v1 ["",false,false,false] 185);have hgf:w.heap.size+2≤v1.heap.size:=by have:=HR.lt;omega
   have HO:=hD (HO.below hs);have HR:=hD (HR.below hs);have HB:=hD (bon HB hs);have HNe:Hid (bm≠v1.heap.size):=hD (Nat.ne_of_lt HM.lt);have HM:=hD (zae HM hs);clear hs;generalize v1.alloc (.cells #["",false,false,false] 185)=v2 at HO HR HB HVF HM⊢;generalize v1.heap.size=b4 at HVF hgf HNe⊢;refine hK.out _ _ ⟨HO.cells 0 _ rfl,zf6 HM k h1 h6⟩ (fun hHeld=> ?_);clear hK K;try simp only[Act.put,qk1,qk2,qk3,qk4,qk5,qk6]
   exact fo2
 · go_simp;have hs:=za v0 (.cells #["",false,false,false] 185);have HVF:=hD (Vr.new v0 ["",false,false,false] 185);have hgf:w.heap.size+2≤v0.heap.size:=by have:=HR.lt;omega
   have HO:=hD (HO.below hs);have HR:=hD (HR.below hs);have HB:=hD (bon HB hs);clear hs;generalize v0.alloc (.cells #["",false,false,false] 185)=v1 at HO HR HB HVF⊢;generalize v0.heap.size=b4 at HVF hgf⊢;refine hK.out _ _ (HO.cells 0 _ rfl) (fun hHeld=> ?_);clear hK K;try simp only[Act.put,qk1,qk2,qk3,qk4,qk5,qk6]
   refine tkr 0 rfl (fun K hK=> ?_);go_simp;go_at_call 137;refine(zfm _).mono ?_;rintro e v2 ⟨bm,rfl,hown,hs,hbm⟩;go_wp2_with fail;have HM:=hD hown;have HNe:Hid (bm≠b4):=hD (by have:=HVF.lt;omega);have HO:=hD (HO.below hs);have HR:=hD (HR.below hs);have HB:=hD (bon HB hs);have HVF:=hD (HVF.below hs);clear hown hbm hs;refine hK.out _ _ (HO.cells 0 _ rfl) (fun hHeld=> ?_);clear hK K;try simp only[Act.put,qk1,qk2,qk3,qk4,qk5,qk6]
   refine ZY (S':=fun W=>World.cell? W ⟨w.heap.size,0,none⟩=some (.int .i64 (k:Int))∧(Instr.lookup 182 (.map (some bm)) (.int .i64 (k:Int)) true).run prog W= .ok (.tuple #[.agg #[zo k,.bool (zx k),.bool (zB k),.bool (zI k)],true]) W) (fun _ h=>h.1) _ _ _ _ ?_;refine takes [3,4,5,6] ?_ (hS:=⟨HO.cells 0 _ rfl,zf6 HM k h1 h6⟩);exact fo2
theorem infoTxt:(prog.info? 9).map (fun i=>(i.zero,i.size,i.bytes))=some (some (.string ⟨#[]⟩),1,16):=by kernel_rfl
def ZV(k:Nat)(fs:List (List UInt8))(j:Nat):List (List UInt8):=zo k::(fs.take j).filter (fun s=>decide (s≠ []))
structure FtSt (w:World) (k:Nat) (fs:List (List UInt8)) (b5:Nat) (j:Nat) (q:Value) (wr:World):Prop where
 le:j≤fs.length
 own:wr.ownsRow w.heap.size 9 1 q (ZV k fs j).length (strC (ZV k fs j))
 low:Below w.heap.size w wr
 lst:Vr wr b5 (strC fs)
 ne:q.ownBlock≠some b5
theorem partsTo_no{fs:List (List UInt8)}(hj:j<fs.length)(h:fs[j]=[]):ZV k fs (j+1)=ZV k fs j:=by
 unfold ZV;rw[bq hj,List.filter_append,h];simp
theorem partsTo_yes{fs:List (List UInt8)}(hj:j<fs.length)(h:fs[j]≠ []):ZV k fs (j+1)=ZV k fs j++ [fs[j]]:=by
 unfold ZV;rw[bq hj,List.filter_append];simp[h]
theorem zeU(k:Nat)(fs:List (List UInt8))(j:Nat):(ZV k fs j).length≤fs.length+1:=by
 unfold ZV;have h1:=List.length_filter_le (fun s:List UInt8=>decide (s≠ [])) (fs.take j);have h2:=List.length_take_le' j fs;simp only[au];omega
theorem map_mk(l:List (List UInt8)):((l.map fun x=>ByteArray.mk x.toArray).map (·.data.toList))=l:=by
 rw[eZ];conv=>rhs;rw[←fT l]
 exact List.map_congr_left (fun x _=>by simp)
theorem opText_len(k:Nat)(key old new:List UInt8):(yw k key old new).length≤key.length+old.length+new.length+20:=by
 have hw:(zo k).length≤6:=by unfold zo;split <;> decide
 unfold yw zaP;rw[Lib.join_length];by_cases h1:key=[] <;> by_cases h2:old=[] <;> by_cases h3:new=[] <;> simp[h1,h2,h3,Lib.lens] <;> omega
theorem Vr.grownO{w':World}{r:Option Nat}{cs:List Value}(h:Vr w b cs)(hg:w.grownBy w' r)(hne:r≠some b):Vr w' b cs where
 lt:=aN h.lt hg.size
 cells j v hv:=(hg.cell_far ⟨b,j,none⟩ h.lt (fun e=>hne e.symm)).trans (h.cells j v hv)
 free j hj:=(hg.frozen_far ⟨b,j,none⟩ h.lt (fun e=>hne e.symm)).trans (h.free j hj)
theorem format_no(k:Nat)(h1:1≤k)(h6:k≤6)(key old new:List UInt8)(w:World)(hs:key.length+old.length+new.length≤1048576)(hq:zP k key old new=false) :
    Calls prog 139 #[.agg #[.int .i64 (k:Int),key,old,new]] w (ZR [] 1 w):=by
 have HF:Hid (∀W,Calls prog 202 #[.agg #[.int .i64 (k:Int),key,old,new]] W fun e w'=>e= .returned (.tuple #[.agg #[zo k,.bool (zx k),.bool (zB k),.bool (zI k)],false])∧Below W.heap.size W w'):=
  hD (fun W=>hq▸zf8 k h1 h6 ⟨key.toArray⟩ ⟨old.toArray⟩ ⟨new.toArray⟩ W jbe jbe jbe)
 have HO:=hD (Vr.new w [.int .i64 (k:Int),key,old,new] 124);have HB:=hD (za w (.cells #[.int .i64 (k:Int),key,old,new] 124));clear hq;go_in;go_wp2_with fail;refine(HF _).mono ?_;rintro e w2 ⟨rfl,b2⟩;have HO:=hD (HO.below b2);have HB:=hD (bon HB b2);clear b2;go_wp2_with fail;go_ret2;exact zfj rfl rfl (bon HB (za _ _))
theorem format_yes(k:Nat)(h1:1≤k)(h6:k≤6)(key old new:List UInt8)(w:World)(hs:key.length+old.length+new.length≤1048576)(hq:zP k key old new=true) :
    Calls prog 139 #[.agg #[.int .i64 (k:Int),key,old,new]] w (ZR (yw k key old new) 0 w):=by
 have HF:Hid (∀W,Calls prog 202 #[.agg #[.int .i64 (k:Int),key,old,new]] W fun e w'=>e= .returned (.tuple #[.agg #[zo k,.bool (zx k),.bool (zB k),.bool (zI k)],true])∧Below W.heap.size W w'):=
  hD (fun W=>hq▸zf8 k h1 h6 ⟨key.toArray⟩ ⟨old.toArray⟩ ⟨new.toArray⟩ W jbe jbe jbe)
 have HO:=hD (Vr.new w [.int .i64 (k:Int),key,old,new] 124);have HB:=hD (za w (.cells #[.int .i64 (k:Int),key,old,new] 124));clear hq;go_in;go_wp2_with fail;refine(HF _).mono ?_;rintro e w2 ⟨rfl,b2⟩;have HO:=hD (HO.below b2);have HB:=hD (bon HB b2);clear b2;have c1:=HO.cells 1 _ rfl;have c2:=HO.cells 2 _ rfl;have c3:=HO.cells 3 _ rfl;have cl:=HO.lt;go_upto_region 6 with fail;obtain⟨i0,hi,hz0,hz1,hz2⟩:=info_parts infoTxt;have HI:=hD hi;have HZ0:=hD hz0;have HZ1:=hD hz1;have HZ2:=hD hz2;clear hi hz0 hz1 hz2;have HSt:Hid (FtSt w k [key,old,new] (w2.heap.size+1+1) 0 (.slice (some ⟨w2.heap.size+1,0,none⟩) 1 1) (((w2.alloc (.cells #[zo k,.bool (zx k),.bool (zB k),.bool (zI k)] 185)).alloc (.cells #[zo k] 9)).alloc (.cells #[key,old,new] 9))):=hD (by
  have hsz:(w2.alloc (.cells #[zo k,.bool (zx k),.bool (zB k),.bool (zI k)] 185)).heap.size=w2.heap.size+1:=by simp
  have hb2:=HB.size;generalize hA:w2.alloc (.cells #[zo k,.bool (zx k),.bool (zB k),.bool (zI k)] 185)=wA at hsz⊢;have hbA:Below w.heap.size w wA:=by rw[←hA];exact bon HB (za _ _)
  rw[←hsz];have h1:=fw (base:=w.heap.size) (e:=9) (size:=1) wA #[zo k] 1 ja jf rfl;have h2:=(Vr.new (wA.alloc (.cells #[zo k] 9)) (strC [key,old,new]) 9);have hs2:(wA.alloc (.cells #[zo k] 9)).heap.size=wA.heap.size+1:=by simp
  rw[hs2]at h2;exact⟨by simp,h1.alloc _,bon (bon hbA (za _ _)) (za _ _),h2,by simp[Value.ownBlock]⟩)
 generalize (((w2.alloc (.cells #[zo k,.bool (zx k),.bool (zB k),.bool (zI k)] 185)).alloc (.cells #[zo k] 9)).alloc (.cells #[key,old,new] 9))=w5 at HSt⊢;generalize w2.heap.size+1+1=b5 at HSt⊢;have HLen:Hid (∀j,(hj:j< [key,old,new].length)→ [key,old,new][j].length≤1048576):=hD (fun j hj=>by
  have:j=0∨j=1∨j=2:=by simp at hj;omega
  rcases this with rfl|rfl|rfl
  · show key.length≤_;omega
  · show old.length≤_;omega
  · show new.length≤_;omega)
 have HTx:Hid ((yw k key old new).length≤1048676):=hD (ah (opText_len k key old new) ja);have HEnd:Hid (Lib.join (ZV k [key,old,new] 3) [32]=yw k key old new):=hD rfl;have hfl: [key,old,new].length=3:=rfl;generalize [key,old,new]=fs at HSt HLen HEnd hfl;clear c1 c2 c3 cl hs;go_loopw [6,27] (fun p i wr=>∃(j:Nat) (q:Value),i= .int .i64 j∧q=p∧FtSt w k fs b5 j q wr) (fun _ i _=>3-(intOf i).toNat)
 case atStart=>exact⟨0,_,rfl,rfl,HSt⟩
 case round=>
  obtain⟨j,q,rfl,rfl,hst⟩:=hrel;have hj:=hst.le;have HJ:=hD hst;clear hst;by_cases hlt:j<fs.length
  · have i0':(0:Int)≤(j:Int):=by omega
    have i1:(j:Int) <3:=by omega
    obtain⟨y,hy⟩:∃y,y=fs[j]:=⟨_,rfl⟩;have cy:wr.cell? ⟨b5,j,none⟩=some (.string ⟨y.toArray⟩):=HJ.lst.cells j _ (by rw[hy];simp[strC,hlt]);have lb:=HJ.lst.lt;have HY:=hD hy;have hyl:=HLen.out j hlt;rw[←hy]at hyl;clear hy;by_cases h0:y=[]
    · have HN:Hid (FtSt w k fs b5 (j+1) q wr):=hD (by
        have e:=partsTo_no (k:=k) hlt (HY.out▸h0);exact⟨hlt,by rw[e];exact HJ.own,HJ.low,HJ.lst,HJ.ne⟩)
      clear HY;subst h0;exact fo53
    · have y1:y.isEmpty=false:=by simpa using h0
      have y2:(y ==[])=false:=by simpa using h0
      have y3:(y !=[])=true:=by simpa using h0
      have HE:Hid (ZV k fs (j+1)=ZV k fs j++ [y]):=hD (by rw[partsTo_yes hlt (HY.out▸h0),←HY.out]);have HO3:=hD HJ.own;have hlen:=zeU k fs j;have hz:=HJ.low.size;clear h0;go_wp2_with (at_builtin;refine cB _ rfl _ _ 32 rfl w.heap.size 9 i0 _ 1 16 underlying32 HI HZ0 HZ1 HZ2 rfl jf _ _ _ rfl (HO3.alloc _) ⟨wr.heap.size,0,none⟩ 1 1 [y] rfl rfl (zN _ _ _ _ rfl) jr jq ja jg ?_);intro v' w6 hown' hgrow _ hat;have HN:Hid (FtSt w k fs b5 (j+1) v' w6):=hD (by
       have hb:=HJ.low;refine⟨hlt,?_,below_grown (bon hb (za wr (.cells #[y] 9))) (by have:=hb.size;simp;omega) hgrow (fun g hg=>(HJ.own.lt g hg).1),(HJ.lst.below (za wr _)).grownO hgrow HJ.ne,?_⟩
       · rw[HE.out,aG,Y2];exact hown'
       · intro hb5;rcases hat with h|h
         · exact HJ.ne (by rw[←h,hb5])
         · rw[hb5]at h;simp at h;omega)
      exact fo291
  · obtain rfl:j=3:=by omega
    have hown:=HJ.own;obtain⟨a,c',rfl⟩:=ownsRow_form hown;have hcap:=zcF hown;have hrd:=Rd.own hown;have hpl:=zeU k fs 3;obtain⟨bk,o,rfl,hbk,hcc⟩:=hrd.cells (by rw[zbu];simp[ZV]);have HJn:Hid (Calls prog 79 #[.slice (some ⟨bk,o,none⟩) (ZV k fs 3).length c',.string ⟨#[32]⟩] wr fun e w'=>e= .returned (.string ⟨(yw k key old new).toArray⟩)∧Below wr.heap.size wr w'):=hD (by
     have h9:=Tryz.strings_Join bk o c' ((ZV k fs 3).map fun x=>⟨x.toArray⟩) ⟨#[32]⟩ wr (fun j x hx=>hcc j _ (by
      simp only[bT,Option.map_eq_some_iff]at hx;obtain⟨y,hy,rfl⟩:=hx;simp[strC,hy])) hbk (by rw[bF];omega) (by rw[bF];exact hcap) (by
      rw[map_mk,show(ByteArray.mk #[32]).data.toList=[32] from rfl,HEnd.out];exact ah HTx ja)
     rw[map_mk,bF,show(ByteArray.mk #[32]).data.toList=[32] from rfl,HEnd.out]at h9;exact h9)
    have HBl:=hD HJ.low;clear hown hcap hrd hbk hcc HJ;generalize (ZV k fs 3).length=np at HJn⊢;go_wp2_with fail;refine HJn.mono ?_;rintro e w7 ⟨rfl,b7⟩;have HB7:=hD (bon HBl b7);clear b7;go_wp2_with fail;go_ret2;exact zfj rfl rfl HB7
theorem format_any(k:Nat)(h1:1≤k)(h6:k≤6)(key old new:List UInt8)(w:World)(hs:key.length+old.length+new.length≤1048576) :
    Calls prog 139 #[.agg #[.int .i64 (k:Int),key,old,new]] w (ZR (if zP k key old new then yw k key old new else []) (if zP k key old new then 0 else 1) w):=by
 cases hq:zP k key old new with
 |true=>exact format_yes k h1 h6 key old new w hs hq
 |false=>exact format_no k h1 h6 key old new w hs hq
theorem refPrint_any(s:ByteArray)(n:Nat)(w:World)(hs:s.size≤9223372036854775807)(_hn:n≤9223372036854775807):Calls prog 252 #[s,n] w fun e w'=>e= .returned (.bool (graphic s.data.toList n))∧w'=w:=by
 go_in;go_wp2_with fail;go_loopw [5] (fun i wr=>∃k:Nat,i= .int .i64 k∧k≤s.size∧(s.data.toList.take k).all (fun b=>decide (33≤b.toNat) && decide (b.toNat≤126))=true∧wr=w) (fun i _=>s.size-(intOf i).toNat)
 case atStart=>exact⟨0,rfl,by omega,by simp,rfl⟩
 case round=>
  obtain⟨k,rfl,hk,hA,rfl⟩:=hrel;have HA:=hD hA;clear hA;by_cases hlt:k<s.size
  · exact fo37
  · obtain rfl:k=s.size:=by omega
    have hA:=HA.out;rw[bi jc]at hA;by_cases h0:s.data.toList=[]
    · exact fo257
    · have b2:(1:Int)≤(s.size:Int):=by
        have:s.data.toList.length≠0:=fun e=>h0 (cK e)
        have h5:s.data.toList.length=s.size:=by simp
        omega
      exact fo240
theorem yl(s:ByteArray)(w:World)(hs:s.size≤9223372036854775807):Calls prog 208 #[s] w fun e w'=>e= .returned (.bool (graphic s.data.toList 64))∧w'=w:=by
 have HG:=hD (refPrint_any s 64 w hs ja);exact fo283
theorem refName1(w:World):Calls prog 147 #[.int .i64 1] w (zm (zo 1) w):=fo35
theorem refName2(w:World):Calls prog 147 #[.int .i64 2] w (zm (zo 2) w):=fo35
theorem refName3(w:World):Calls prog 147 #[.int .i64 3] w (zm (zo 3) w):=fo35
theorem refName4(w:World):Calls prog 147 #[.int .i64 4] w (zm (zo 4) w):=fo35
theorem refName5(w:World):Calls prog 147 #[.int .i64 5] w (zm (zo 5) w):=fo35
theorem refName6(w:World):Calls prog 147 #[.int .i64 6] w (zm (zo 6) w):=fo35
theorem ze6(k:Nat)(h1:1≤k)(h6:k≤6)(w:World):Calls prog 147 #[.int .i64 (k:Int)] w (zm (zo k) w):=by
 have:k=1∨k=2∨k=3∨k=4∨k=5∨k=6:=by omega
 rcases this with rfl|rfl|rfl|rfl|rfl|rfl
 · exact refName1 w
 · exact refName2 w
 · exact refName3 w
 · exact refName4 w
 · exact refName5 w
 · exact refName6 w
theorem cut_cut(l:List UInt8)(q:Nat)(hq:q<l.length)(hn:∀j,(h:j<l.length)→j<q→l[j]≠32)(h32:l[q]=32):cut l=l.take q::cut (l.drop (q+1)):=by
 have e1:l=l.take q++32::l.drop (q+1):=by
  have h1:l.drop q=l[q]::l.drop (q+1):=bB hq;rw[h32]at h1;rw[←h1,fZ]
 have hf:(32:UInt8)∉l.take q:=fun hm=>by
  obtain⟨j,hj,he⟩:=List.getElem_of_mem hm;rw[bN]at hj;rw[List.getElem_take]at he;exact hn j ja ja he
 calc cut l=cut (l.take q++32::l.drop (q+1)):=by rw[←e1]
  _=l.take q::cut (l.drop (q+1)):=cut_app _ hf _
theorem cut_last(l:List UInt8)(hn:∀j,(h:j<l.length)→l[j]≠32):cut l=[l]:=cut_one l (fun hm=>by
 obtain⟨j,hj,he⟩:=List.getElem_of_mem hm
 exact hn j hj he)
theorem u8_32(c:UInt8):((c.toNat:Int)=32)↔c=32:=by
 constructor
 · intro h;apply gz.1;show c.toNat=32;omega
 · rintro rfl;rfl
theorem ext_at(s:ByteArray)(a b:Nat):s.extract a b=⟨((s.data.toList.drop a).take (b- a)).toArray⟩:=by
 apply bz;apply fB.1;rw[dP]
theorem refSplit_any(s:ByteArray)(w:World)(hs:s.size≤1000000):Calls prog 146 #[s] w (zbA (cut s.data.toList) w):=by
 obtain⟨i0,hi,hz0,hz1,hz2⟩:=info_parts infoTxt;have HI:=hD hi;have HZ0:=hD hz0;have HZ1:=hD hz1;have HZ2:=hD hz2;clear hi hz0 hz1 hz2;go_in;go_wp2_with fail;go_loopw [3,4,5] (fun o bg i wr=>∃(k m:Nat) (acc:List (List UInt8)),i= .int .i64 k∧bg= .int .i64 m∧m≤k∧k≤s.size+1∧acc.length≤m∧wr.ownsRow w.heap.size 9 1 o acc.length (strC acc)∧Below w.heap.size w wr∧w.heap.size≤wr.heap.size∧(∀j,(h:j<s.size)→m≤j→j<k→(s[j].toNat:Int)≠32)∧(k≤s.size→cut s.data.toList=acc++cut (s.data.toList.drop m))∧(k=s.size+1→cut s.data.toList=acc)) (fun _ _ i _=>s.size+1-(intOf i).toNat)
 case atStart=>exact⟨0,0,[],rfl,rfl,by omega,by omega,by simp,aR _ _ _ _,ae _ _,ag _,by intro j h h1 h2;omega,fun _=>rfl,by omega⟩
 case round=>
  obtain⟨k,m,acc,rfl,rfl,hmk,hk,hacc,hown,hb,hge,hno,hsp,hend⟩:=hrel;have HO:=hD hown;have HB:=hD hb;have HN:=hD hno;have HS:=hD hsp;have HEnd:=hD hend;clear hown hb hno hsp hend;by_cases hle:k≤s.size
  · have l1:(k:Int)≤(s.size:Int):=by omega
    by_cases hlt:k<s.size
    · have x0:((k:Int) ==(s.size:Int))=false:=by rw[aF];omega
      by_cases hc:(s[k].toNat:Int)=32
      · have x1:((s[k].toNat:Int) == 32)=true:=by simp[hc]
        have HS2:Hid (cut s.data.toList=(acc++ [(s.data.toList.drop m).take (k- m)])++cut (s.data.toList.drop (k+1))):=by
         have h:=cut_cut (s.data.toList.drop m) (k- m) jg (fun j hj h'=>by
          rw[eF];have:=HN.out (m+j) (by simp at hj;omega) ja ja;exact fun e1=>this ((u8_32 _).2 e1)) (by
          rw[eF];have e:m+(k- m)=k:=by omega
          simp only[e];exact(u8_32 _).1 hc)
         refine hD ?_;rw[HS.out hle,h,dC,show m+(k- m+1)=k+1 from by omega];simp
        have HE:=hD (ext_at s m k);clear hc;go_wp2_with (at_builtin;refine bu _ rfl _ _ 32 rfl w.heap.size 9 i0 _ 1 16 underlying32 HI HZ0 HZ1 HZ2 rfl jf _ _ _ rfl (HO.alloc _) ⟨wr.heap.size,0,none⟩ 1 1 [.string (s.extract m k)] rfl rfl (zN _ _ _ _ rfl) jr jq ja jg ?_);intro v' w2 hown' hgrow _;have HO2:=hD hown';have HG2:=hD hgrow;clear hown' hgrow;go_wp2_with fail;go_roundw
        case rel=>
         refine⟨k+1,k+1,acc++ [(s.data.toList.drop m).take (k- m)],by go_num,by go_num,by omega,by omega,by simp;omega,?_,?_,?_,by intro j h h1 h2;omega,fun _=>HS2.out,by omega⟩
         · exact fo191
         · exact fo149
         · exact fo59
        case measure=>simp[intOf];omega
      · have x1:((s[k].toNat:Int) == 32)=false:=by simp[hc]
        have HC:=hD hc;clear hc;go_wp2_with fail;go_roundw
        case rel=>
         exact⟨k+1,m,acc,by go_num,rfl,by omega,by omega,hacc,HO,HB,hge,fun j h h1 h2=>by
          rcases dw j k with h3|h3
          · exact HN j h h1 h3
          · obtain rfl:j=k:=by omega
            exact HC,fun _=>HS.out hle,by omega⟩
        case measure=>simp[intOf];omega
    · obtain rfl:k=s.size:=by omega
      have x0:((s.size:Int) ==(s.size:Int))=true:=by simp
      have HL:Hid (cut s.data.toList=acc++ [(s.data.toList.drop m).take (s.size- m)]):=hD (by
       rw[HS.out hle,bi jc,cut_last (s.data.toList.drop m) (fun j hj=>by
        rw[eF];have:=HN.out (m+j) (by simp at hj;omega) ja (by simp at hj;omega);exact fun e1=>this ((u8_32 _).2 e1))])
      have HE:=hD (ext_at s m s.size);go_wp2_with (at_builtin;refine bu _ rfl _ _ 32 rfl w.heap.size 9 i0 _ 1 16 underlying32 HI HZ0 HZ1 HZ2 rfl jf _ _ _ rfl (HO.alloc _) ⟨wr.heap.size,0,none⟩ 1 1 [.string (s.extract m s.size)] rfl rfl (zN _ _ _ _ rfl) jr jq ja jg ?_);intro v' w2 hown' hgrow _;have HO2:=hD hown';have HG2:=hD hgrow;clear hown' hgrow;go_wp2_with fail;go_roundw
      case rel=>
       refine⟨s.size+1,s.size+1,acc++ [(s.data.toList.drop m).take (s.size- m)],by go_num,by go_num,by omega,by omega,by simp;omega,?_,?_,?_,by intro j h h1 h2;omega,by omega,fun _=>HL.out⟩
       · exact fo191
       · exact fo149
       · exact fo59
      case measure=>first|(simp[intOf];done)|(simp[intOf];omega)
  · obtain rfl:k=s.size+1:=by omega
    have HL:=hD (HEnd rfl);have l1:¬((s.size:Int)+1≤(s.size:Int)):=by omega
    obtain⟨A,c,hv⟩:=ownsRow_form HO.out;subst hv;go_wp2_with fail;go_ret;exact ret_strs _ _ acc HL rfl (Rd.own HO) HB
