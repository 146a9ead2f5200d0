/- The contracts of only and kept. -/
import Derived.Test.YtepbbaifpckcpaaGreatDoorPTa
open Go.Proofs.Tryz
namespace Go.Proofs.YtepbbaifpckcpaaGreatDoor
set_option maxRecDepth 100000
set_option maxHeartbeats 8000000
open Go.RowKit
def yh(x:Pt):Pt:=⟨x.time,x.kind,x.who,0,0,[],[],ms0⟩
variable{cs:List Value}{b:Nat}{w:World}
theorem Vr.thereAt(h:Vr w b cs)(o:Nat){n:Nat}(hn:o+n≤cs.length):w.there b o n:=fun j hj=>
 ⟨by rw[h.cells (o+j) _ (aP ja)];rfl,h.free (o+j) ja⟩
theorem Vr.mid(h:Vr w b cs)(o:Nat)(vs:List Value)(hl:o+vs.length≤cs.length):Vr (w.setCells b o vs) b (cs.take o++(vs++cs.drop (o+vs.length))) where
 lt:=aN h.lt (ZH w b vs o).size
 cells j v hv:=by
  by_cases h1:j<o
  · rw[dh jec,iH h1]at hv;rw[gB b vs o w ⟨b,j,none⟩ (fun _ _=> .inl h1)];exact h.cells j v hv
  · rw[dM jec,bN,iq ja]at hv;by_cases h2:j<o+vs.length
    · rw[dh ja]at hv;have:=iA w b o vs (h.thereAt o hl) (j- o) v hv;rwa[show o+(j- o)=j from by omega]at this
    · rw[dM ja,fM,show o+vs.length+(j- o- vs.length)=j from by omega]at hv;rw[gB b vs o w ⟨b,j,none⟩ (fun _ _=> .inr (by show o+vs.length≤j;omega))];exact h.cells j v hv
 free j hj:=by
  rw[iy];refine h.free j ?_;simp only[aG,bN,aK]at hj;omega
theorem zdH(m:Ms):(msC m).length=21:=rfl
theorem mid_msg(x:Pt):(ptC (yh x)).take 7++(msC x.msg++(ptC (yh x)).drop (7+(msC x.msg).length))=ptC (⟨x.time,x.kind,x.who,0,0,[],[],x.msg⟩:Pt):=by
 have h1:(ptC (yh x)).take 7=ptH (yh x):=List.take_left' rfl;have h2:(ptC (yh x)).drop (7+(msC x.msg).length)=[]:=bJ (by rw[Yy,zdH];omega);rw[h1,h2,bE];rfl
def RetPt(y:Pt)(w:World)(e:Ending)(w':World):Prop:=e= .returned (.agg (ptC y).toArray)∧Below w.heap.size w w'
theorem zgC(x:Pt)(w:World):Calls prog 57 #[.agg (ptC x).toArray] w (RetPt (yJ x) w):=by
 have HX:=hD ((Vr.new w (ptC x) 40).below (za (w.alloc (.cells (ptC x).toArray 40)) (.cells (ptC pt0).toArray 40)));have HR:=hD (Vr.new' (w.alloc (.cells (ptC x).toArray 40)) (ptC pt0) 40 (b:=w.heap.size+1) jc);have HB:=hD (bon (za w (.cells (ptC x).toArray 40)) (za (w.alloc (.cells (ptC x).toArray 40)) (.cells (ptC pt0).toArray 40)));go_in;go_upto_region 1 with fail;change Code.wp _ _ _ _ ((w.alloc (.cells (ptC x).toArray 40)).alloc (.cells (ptC pt0).toArray 40));have hz1:((w.alloc (.cells (ptC x).toArray 40)).alloc (.cells (ptC pt0).toArray 40)).heap.size=w.heap.size+2:=by simp
 generalize (w.alloc (.cells (ptC x).toArray 40)).alloc (.cells (ptC pt0).toArray 40)=w1 at HX HR HB hz1⊢;have HZ1:=hD hz1;clear hz1;have c0:=HX.cells 0 _ rfl;have c1:=HX.cells 1 _ rfl;have c2:=HX.cells 2 _ rfl;have cl:=HX.lt;have HZ:=hD (Vr.new w1 (ptC pt0) 40);have HV:=hD (HZ.sets (ptC (yh x)) rfl);have HX:=hD ((HX.below (za w1 (.cells (ptC pt0).toArray 40))).grown (zb (b:=w1.heap.size) (ptC (yh x))) jbl);have HR:=hD ((HR.below (za w1 (.cells (ptC pt0).toArray 40))).grown (zb (b:=w1.heap.size) (ptC (yh x))) jbl);have HB:=hD (zf (bon HB (za w1 (.cells (ptC pt0).toArray 40))) (zb (b:=w1.heap.size) (ptC (yh x))) jbl);go_upto_region 2 with(first
  |(refine bV rfl 40 _ rfl _ rfl (ptC (yh x)).toArray ?_ ?_;· kernel_rfl)
  |(refine ai rfl 40 _ _ rfl w1.heap.size 0 (ptC (yh x)).toArray rfl rfl ?_ (zw (yh x)) (yz (yh x)) ?_;· exact HZ.there rfl))
 try simp only[ay]
 change Code.wp _ _ _ _ ((w1.alloc (.cells (ptC pt0).toArray 40)).setCells w1.heap.size 0 (ptC (yh x)));generalize (w1.alloc (.cells (ptC pt0).toArray 40)).setCells w1.heap.size 0 (ptC (yh x))=w3 at HX HR HV HB⊢;clear HZ c0 c1 c2 cl;generalize w1.heap.size=b3 at HV HZ1⊢;have c1:=HX.cells 1 _ rfl;have cl:=HX.lt;by_cases hk:x.kind=1
 · have HK:Hid (yJ x=(⟨x.time,x.kind,x.who,0,x.number,x.text,[],ms0⟩:Pt)):=hD jbr;have q1:(x.kind == 1)=true:=by simp[hk]
   have q2:(x.kind == 2)=false:=by simp[hk]
   have q3:(x.kind == 3)=false:=by simp[hk]
   have q4:(x.kind == 4)=false:=by simp[hk]
   have q5:(x.kind == 5)=false:=by simp[hk]
   have q6:(x.kind == 6)=false:=by simp[hk]
   clear hk;go_wp2_with fail;clear c1 cl;have HV:=hD (HV.below (ae _ _).drew);have HX:=hD (HX.below (ae _ _).drew);have HR:=hD (HR.below (ae _ _).drew);have HB:=hD (HB.drew);refine aD ?_;generalize hv:w3.drew=v0 at HV HX HR HB;have HS:Hid (∀W,Vr W w.heap.size (ptC x)→W.cell? ⟨w.heap.size,4,none⟩=some (.int .i64 x.number)∧W.cell? ⟨w.heap.size,5,none⟩=some (.string ⟨x.text.toArray⟩)):=hD (fun W h=>⟨h.cells 4 _ rfl,h.cells 5 _ rfl⟩);have hC:=HS.out v0 HX.out;refine aC (S:=fun W=>W.cell? ⟨w.heap.size,4,none⟩=some (.int .i64 x.number)∧W.cell? ⟨w.heap.size,5,none⟩=some (.string ⟨x.text.toArray⟩)) jb jar (fun hHeld=> ?_);rw[hv]at hHeld⊢;clear hv;refine takes [0,1,2,3,4] ?_;have cz:=HV.cells 4 _ rfl;have fz:=HV.free 4 (az rfl);have lz:=HV.lt;refine tkr 5 rfl (fun K hK=> ?_);go_simp;have HV:=hD (HV.set 4 (.int .i64 x.number));have HX:=hD (HX.grown (ze v0 ⟨b3,4,none⟩ (.int .i64 x.number)) jl);have HR:=hD (HR.grown (ze v0 ⟨b3,4,none⟩ (.int .i64 x.number)) jh);have HB:=hD (zf HB (ze v0 ⟨b3,4,none⟩ (.int .i64 x.number)) jm);clear cz fz lz;generalize v0.setCell ⟨b3,4,none⟩ (.int .i64 x.number)=v1 at HV HX HR HB⊢;have hC0:=HS.out v1 HX.out;refine hK.out _ _ hC0 (fun hHeld=> ?_);clear hK K;try simp only[Act.put,qk1,qk2,qk3,qk4,qk5,qk6]
   refine takes [6] ?_;have cz:=HV.cells 5 _ rfl;have fz:=HV.free 5 (az rfl);have lz:=HV.lt;refine tkr 7 rfl (fun K hK=> ?_);go_simp;have HV:=hD (HV.set 5 (.string ⟨x.text.toArray⟩));have HX:=hD (HX.grown (ze v1 ⟨b3,5,none⟩ (.string ⟨x.text.toArray⟩)) jl);have HR:=hD (HR.grown (ze v1 ⟨b3,5,none⟩ (.string ⟨x.text.toArray⟩)) jh);have HB:=hD (zf HB (ze v1 ⟨b3,5,none⟩ (.string ⟨x.text.toArray⟩)) jm);clear cz fz lz;generalize v1.setCell ⟨b3,5,none⟩ (.string ⟨x.text.toArray⟩)=v2 at HV HX HR HB⊢;have hC1:=HS.out v2 HX.out;refine hK.out _ _ hC1 (fun hHeld=> ?_);clear hK K;try simp only[Act.put,qk1,qk2,qk3,qk4,qk5,qk6]
   refine aB jb ?_ _;refine aA ?_;clear hC hC0 hC1 HS;generalize v2=w5 at HV HX HR HB⊢;have HV:=hD (HV.eq (cs':=ptC (⟨x.time,x.kind,x.who,0,x.number,x.text,[],ms0⟩:Pt)) rfl);have HR2:=hD (HR.sets (ptC (⟨x.time,x.kind,x.who,0,x.number,x.text,[],ms0⟩:Pt)) rfl);have HB:=hD (zf HB (zb (b:=w.heap.size+1) (ptC (⟨x.time,x.kind,x.who,0,x.number,x.text,[],ms0⟩:Pt))) ja);go_wp2_with (first
    |(refine ak rfl 40 _ rfl b3 0 rfl (ptC (⟨x.time,x.kind,x.who,0,x.number,x.text,[],ms0⟩:Pt)) _ HV.range underlying40 rfl (zw (⟨x.time,x.kind,x.who,0,x.number,x.text,[],ms0⟩:Pt)) ?_)
    |(refine ai rfl 40 _ _ rfl (w.heap.size+1) 0 (ptC (⟨x.time,x.kind,x.who,0,x.number,x.text,[],ms0⟩:Pt)).toArray rfl rfl ?_ (zw (⟨x.time,x.kind,x.who,0,x.number,x.text,[],ms0⟩:Pt)) (yz (⟨x.time,x.kind,x.who,0,x.number,x.text,[],ms0⟩:Pt)) ?_;· exact HR.there rfl))
   refine aj (v:= .agg (ptC (⟨x.time,x.kind,x.who,0,x.number,x.text,[],ms0⟩:Pt)).toArray) ?_ rfl ⟨by rw[HK.out],HB⟩;exact zX results57 _ _ (w.heap.size+1) (ptC (⟨x.time,x.kind,x.who,0,x.number,x.text,[],ms0⟩:Pt)) _ rfl HR2.range underlying40 rfl (zw (⟨x.time,x.kind,x.who,0,x.number,x.text,[],ms0⟩:Pt))
 have q1:(x.kind == 1)=false:=by simpa using hk
 have n1:=hk;clear hk;by_cases hk:x.kind=2
 · have HK:Hid (yJ x=(⟨x.time,x.kind,x.who,x.slot,x.number,[],x.result,ms0⟩:Pt)):=hD jbr;have q1:(x.kind == 1)=false:=by simp[hk]
   have q2:(x.kind == 2)=true:=by simp[hk]
   have q3:(x.kind == 3)=false:=by simp[hk]
   have q4:(x.kind == 4)=false:=by simp[hk]
   have q5:(x.kind == 5)=false:=by simp[hk]
   have q6:(x.kind == 6)=false:=by simp[hk]
   clear hk;go_wp2_with fail;clear c1 cl;have HV:=hD (HV.below (ae _ _).drew);have HX:=hD (HX.below (ae _ _).drew);have HR:=hD (HR.below (ae _ _).drew);have HB:=hD (HB.drew);refine aD ?_;generalize hv:w3.drew=v0 at HV HX HR HB;have HS:Hid (∀W,Vr W w.heap.size (ptC x)→W.cell? ⟨w.heap.size,4,none⟩=some (.int .i64 x.number)∧W.cell? ⟨w.heap.size,3,none⟩=some (.int .i64 x.slot)∧W.cell? ⟨w.heap.size,6,none⟩=some (.string ⟨x.result.toArray⟩)):=hD (fun W h=>⟨h.cells 4 _ rfl,h.cells 3 _ rfl,h.cells 6 _ rfl⟩);have hC:=HS.out v0 HX.out;refine aC (S:=fun W=>W.cell? ⟨w.heap.size,4,none⟩=some (.int .i64 x.number)∧W.cell? ⟨w.heap.size,3,none⟩=some (.int .i64 x.slot)∧W.cell? ⟨w.heap.size,6,none⟩=some (.string ⟨x.result.toArray⟩)) jb jar (fun hHeld=> ?_);rw[hv]at hHeld⊢;clear hv;refine takes [0,1,2,3,4,5,6] ?_;have cz:=HV.cells 4 _ rfl;have fz:=HV.free 4 (az rfl);have lz:=HV.lt;refine tkr 7 rfl (fun K hK=> ?_);go_simp;have HV:=hD (HV.set 4 (.int .i64 x.number));have HX:=hD (HX.grown (ze v0 ⟨b3,4,none⟩ (.int .i64 x.number)) jl);have HR:=hD (HR.grown (ze v0 ⟨b3,4,none⟩ (.int .i64 x.number)) jh);have HB:=hD (zf HB (ze v0 ⟨b3,4,none⟩ (.int .i64 x.number)) jm);clear cz fz lz;generalize v0.setCell ⟨b3,4,none⟩ (.int .i64 x.number)=v1 at HV HX HR HB⊢;have hC0:=HS.out v1 HX.out;refine hK.out _ _ hC0 (fun hHeld=> ?_);clear hK K;try simp only[Act.put,qk1,qk2,qk3,qk4,qk5,qk6]
   refine takes [8] ?_;have cz:=HV.cells 3 _ rfl;have fz:=HV.free 3 (az rfl);have lz:=HV.lt;refine tkr 9 rfl (fun K hK=> ?_);go_simp;have HV:=hD (HV.set 3 (.int .i64 x.slot));have HX:=hD (HX.grown (ze v1 ⟨b3,3,none⟩ (.int .i64 x.slot)) jl);have HR:=hD (HR.grown (ze v1 ⟨b3,3,none⟩ (.int .i64 x.slot)) jh);have HB:=hD (zf HB (ze v1 ⟨b3,3,none⟩ (.int .i64 x.slot)) jm);clear cz fz lz;generalize v1.setCell ⟨b3,3,none⟩ (.int .i64 x.slot)=v2 at HV HX HR HB⊢;have hC1:=HS.out v2 HX.out;refine hK.out _ _ hC1 (fun hHeld=> ?_);clear hK K;try simp only[Act.put,qk1,qk2,qk3,qk4,qk5,qk6]
   refine takes [10] ?_;have cz:=HV.cells 6 _ rfl;have fz:=HV.free 6 (az rfl);have lz:=HV.lt;refine tkr 11 rfl (fun K hK=> ?_);go_simp;have HV:=hD (HV.set 6 (.string ⟨x.result.toArray⟩));have HX:=hD (HX.grown (ze v2 ⟨b3,6,none⟩ (.string ⟨x.result.toArray⟩)) jl);have HR:=hD (HR.grown (ze v2 ⟨b3,6,none⟩ (.string ⟨x.result.toArray⟩)) jh);have HB:=hD (zf HB (ze v2 ⟨b3,6,none⟩ (.string ⟨x.result.toArray⟩)) jm);clear cz fz lz;generalize v2.setCell ⟨b3,6,none⟩ (.string ⟨x.result.toArray⟩)=v3 at HV HX HR HB⊢;have hC2:=HS.out v3 HX.out;refine hK.out _ _ hC2 (fun hHeld=> ?_);clear hK K;try simp only[Act.put,qk1,qk2,qk3,qk4,qk5,qk6]
   refine aB jb ?_ _;refine aA ?_;clear hC hC0 hC1 hC2 HS;generalize v3=w5 at HV HX HR HB⊢;have HV:=hD (HV.eq (cs':=ptC (⟨x.time,x.kind,x.who,x.slot,x.number,[],x.result,ms0⟩:Pt)) rfl);have HR2:=hD (HR.sets (ptC (⟨x.time,x.kind,x.who,x.slot,x.number,[],x.result,ms0⟩:Pt)) rfl);have HB:=hD (zf HB (zb (b:=w.heap.size+1) (ptC (⟨x.time,x.kind,x.who,x.slot,x.number,[],x.result,ms0⟩:Pt))) ja);go_wp2_with (first
    |(refine ak rfl 40 _ rfl b3 0 rfl (ptC (⟨x.time,x.kind,x.who,x.slot,x.number,[],x.result,ms0⟩:Pt)) _ HV.range underlying40 rfl (zw (⟨x.time,x.kind,x.who,x.slot,x.number,[],x.result,ms0⟩:Pt)) ?_)
    |(refine ai rfl 40 _ _ rfl (w.heap.size+1) 0 (ptC (⟨x.time,x.kind,x.who,x.slot,x.number,[],x.result,ms0⟩:Pt)).toArray rfl rfl ?_ (zw (⟨x.time,x.kind,x.who,x.slot,x.number,[],x.result,ms0⟩:Pt)) (yz (⟨x.time,x.kind,x.who,x.slot,x.number,[],x.result,ms0⟩:Pt)) ?_;· exact HR.there rfl))
   refine aj (v:= .agg (ptC (⟨x.time,x.kind,x.who,x.slot,x.number,[],x.result,ms0⟩:Pt)).toArray) ?_ rfl ⟨by rw[HK.out],HB⟩;exact zX results57 _ _ (w.heap.size+1) (ptC (⟨x.time,x.kind,x.who,x.slot,x.number,[],x.result,ms0⟩:Pt)) _ rfl HR2.range underlying40 rfl (zw (⟨x.time,x.kind,x.who,x.slot,x.number,[],x.result,ms0⟩:Pt))
 have q2:(x.kind == 2)=false:=by simpa using hk
 have n2:=hk;clear hk;by_cases hk:x.kind=3
 · have HK:Hid (yJ x=(⟨x.time,x.kind,x.who,x.slot,0,x.text,[],ms0⟩:Pt)):=hD jbr;have q1:(x.kind == 1)=false:=by simp[hk]
   have q2:(x.kind == 2)=false:=by simp[hk]
   have q3:(x.kind == 3)=true:=by simp[hk]
   have q4:(x.kind == 4)=false:=by simp[hk]
   exact fo12
 have q3:(x.kind == 3)=false:=by simpa using hk
 have n3:=hk;clear hk;by_cases hk:x.kind=4
 · have HK:Hid (yJ x=(⟨x.time,x.kind,x.who,x.slot,0,x.text,[],ms0⟩:Pt)):=hD jbr;have q1:(x.kind == 1)=false:=by simp[hk]
   have q2:(x.kind == 2)=false:=by simp[hk]
   have q3:(x.kind == 3)=false:=by simp[hk]
   have q4:(x.kind == 4)=true:=by simp[hk]
   exact fo12
 have q4:(x.kind == 4)=false:=by simpa using hk
 have n4:=hk;clear hk;by_cases hk:x.kind=5
 · have HK:Hid (yJ x=(⟨x.time,x.kind,x.who,0,x.number,x.text,x.result,ms0⟩:Pt)):=hD jbr;have q1:(x.kind == 1)=false:=by simp[hk]
   have q2:(x.kind == 2)=false:=by simp[hk]
   have q3:(x.kind == 3)=false:=by simp[hk]
   have q4:(x.kind == 4)=false:=by simp[hk]
   have q5:(x.kind == 5)=true:=by simp[hk]
   have q6:(x.kind == 6)=false:=by simp[hk]
   clear hk;go_wp2_with fail;clear c1 cl;have HV:=hD (HV.below (ae _ _).drew);have HX:=hD (HX.below (ae _ _).drew);have HR:=hD (HR.below (ae _ _).drew);have HB:=hD (HB.drew);refine aD ?_;generalize hv:w3.drew=v0 at HV HX HR HB;have HS:Hid (∀W,Vr W w.heap.size (ptC x)→W.cell? ⟨w.heap.size,4,none⟩=some (.int .i64 x.number)∧W.cell? ⟨w.heap.size,5,none⟩=some (.string ⟨x.text.toArray⟩)∧W.cell? ⟨w.heap.size,6,none⟩=some (.string ⟨x.result.toArray⟩)):=hD (fun W h=>⟨h.cells 4 _ rfl,h.cells 5 _ rfl,h.cells 6 _ rfl⟩);have hC:=HS.out v0 HX.out;refine aC (S:=fun W=>W.cell? ⟨w.heap.size,4,none⟩=some (.int .i64 x.number)∧W.cell? ⟨w.heap.size,5,none⟩=some (.string ⟨x.text.toArray⟩)∧W.cell? ⟨w.heap.size,6,none⟩=some (.string ⟨x.result.toArray⟩)) jb jar (fun hHeld=> ?_);rw[hv]at hHeld⊢;clear hv;refine takes [0,1,2,3,4,5,6] ?_;have cz:=HV.cells 4 _ rfl;have fz:=HV.free 4 (az rfl);have lz:=HV.lt;refine tkr 7 rfl (fun K hK=> ?_);go_simp;have HV:=hD (HV.set 4 (.int .i64 x.number));have HX:=hD (HX.grown (ze v0 ⟨b3,4,none⟩ (.int .i64 x.number)) jl);have HR:=hD (HR.grown (ze v0 ⟨b3,4,none⟩ (.int .i64 x.number)) jh);have HB:=hD (zf HB (ze v0 ⟨b3,4,none⟩ (.int .i64 x.number)) jm);clear cz fz lz;generalize v0.setCell ⟨b3,4,none⟩ (.int .i64 x.number)=v1 at HV HX HR HB⊢;have hC0:=HS.out v1 HX.out;refine hK.out _ _ hC0 (fun hHeld=> ?_);clear hK K;try simp only[Act.put,qk1,qk2,qk3,qk4,qk5,qk6]
   refine takes [8] ?_;have cz:=HV.cells 5 _ rfl;have fz:=HV.free 5 (az rfl);have lz:=HV.lt;refine tkr 9 rfl (fun K hK=> ?_);go_simp;have HV:=hD (HV.set 5 (.string ⟨x.text.toArray⟩));have HX:=hD (HX.grown (ze v1 ⟨b3,5,none⟩ (.string ⟨x.text.toArray⟩)) jl);have HR:=hD (HR.grown (ze v1 ⟨b3,5,none⟩ (.string ⟨x.text.toArray⟩)) jh);have HB:=hD (zf HB (ze v1 ⟨b3,5,none⟩ (.string ⟨x.text.toArray⟩)) jm);clear cz fz lz;generalize v1.setCell ⟨b3,5,none⟩ (.string ⟨x.text.toArray⟩)=v2 at HV HX HR HB⊢;have hC1:=HS.out v2 HX.out;refine hK.out _ _ hC1 (fun hHeld=> ?_);clear hK K;try simp only[Act.put,qk1,qk2,qk3,qk4,qk5,qk6]
   refine takes [10] ?_;have cz:=HV.cells 6 _ rfl;have fz:=HV.free 6 (az rfl);have lz:=HV.lt;refine tkr 11 rfl (fun K hK=> ?_);go_simp;have HV:=hD (HV.set 6 (.string ⟨x.result.toArray⟩));have HX:=hD (HX.grown (ze v2 ⟨b3,6,none⟩ (.string ⟨x.result.toArray⟩)) jl);have HR:=hD (HR.grown (ze v2 ⟨b3,6,none⟩ (.string ⟨x.result.toArray⟩)) jh);have HB:=hD (zf HB (ze v2 ⟨b3,6,none⟩ (.string ⟨x.result.toArray⟩)) jm);clear cz fz lz;generalize v2.setCell ⟨b3,6,none⟩ (.string ⟨x.result.toArray⟩)=v3 at HV HX HR HB⊢;have hC2:=HS.out v3 HX.out;refine hK.out _ _ hC2 (fun hHeld=> ?_);clear hK K;try simp only[Act.put,qk1,qk2,qk3,qk4,qk5,qk6]
   refine aB jb ?_ _;refine aA ?_;clear hC hC0 hC1 hC2 HS;generalize v3=w5 at HV HX HR HB⊢;have HV:=hD (HV.eq (cs':=ptC (⟨x.time,x.kind,x.who,0,x.number,x.text,x.result,ms0⟩:Pt)) rfl);have HR2:=hD (HR.sets (ptC (⟨x.time,x.kind,x.who,0,x.number,x.text,x.result,ms0⟩:Pt)) rfl);have HB:=hD (zf HB (zb (b:=w.heap.size+1) (ptC (⟨x.time,x.kind,x.who,0,x.number,x.text,x.result,ms0⟩:Pt))) ja);go_wp2_with (first
    |(refine ak rfl 40 _ rfl b3 0 rfl (ptC (⟨x.time,x.kind,x.who,0,x.number,x.text,x.result,ms0⟩:Pt)) _ HV.range underlying40 rfl (zw (⟨x.time,x.kind,x.who,0,x.number,x.text,x.result,ms0⟩:Pt)) ?_)
    |(refine ai rfl 40 _ _ rfl (w.heap.size+1) 0 (ptC (⟨x.time,x.kind,x.who,0,x.number,x.text,x.result,ms0⟩:Pt)).toArray rfl rfl ?_ (zw (⟨x.time,x.kind,x.who,0,x.number,x.text,x.result,ms0⟩:Pt)) (yz (⟨x.time,x.kind,x.who,0,x.number,x.text,x.result,ms0⟩:Pt)) ?_;· exact HR.there rfl))
   refine aj (v:= .agg (ptC (⟨x.time,x.kind,x.who,0,x.number,x.text,x.result,ms0⟩:Pt)).toArray) ?_ rfl ⟨by rw[HK.out],HB⟩;exact zX results57 _ _ (w.heap.size+1) (ptC (⟨x.time,x.kind,x.who,0,x.number,x.text,x.result,ms0⟩:Pt)) _ rfl HR2.range underlying40 rfl (zw (⟨x.time,x.kind,x.who,0,x.number,x.text,x.result,ms0⟩:Pt))
 have q5:(x.kind == 5)=false:=by simpa using hk
 have n5:=hk;clear hk;by_cases hk:x.kind=6
 · have HK:Hid (yJ x=(⟨x.time,x.kind,x.who,0,0,[],[],x.msg⟩:Pt)):=hD jbr;have q6:(x.kind == 6)=true:=by simp[hk]
   clear hk n1 n2 n3 n4 n5;have HV2:=hD ((HV.mid 7 (msC x.msg) (by rw[Yy,zdH];omega)).eq (cs':=ptC (⟨x.time,x.kind,x.who,0,0,[],[],x.msg⟩:Pt)) (mid_msg x));have HTh:Hid (w3.there b3 7 (msC x.msg).toArray.size):=hD (HV.thereAt 7 jbj);have HR:=hD (HR.grown (ZH w3 b3 (msC x.msg) 7) jbl);have HB:=hD (zf HB (ZH w3 b3 (msC x.msg) 7) jbl);go_upto_region 14 with(first
    |(refine ak rfl 38 _ rfl w.heap.size 7 rfl (msC x.msg) _ HX.msg underlying38 rfl (zD x.msg) ?_)
    |(refine ai rfl 38 _ _ rfl b3 7 (msC x.msg).toArray rfl rfl ?_ (zD x.msg) (yu x.msg) ?_;· exact HTh))
   try simp only[ay]
   clear HX HV HTh;generalize w3.setCells b3 7 (msC x.msg)=w5 at HV2 HR HB⊢;have HV:=HV2;clear HV2;have HV:=hD (HV.eq (cs':=ptC (⟨x.time,x.kind,x.who,0,0,[],[],x.msg⟩:Pt)) rfl);have HR2:=hD (HR.sets (ptC (⟨x.time,x.kind,x.who,0,0,[],[],x.msg⟩:Pt)) rfl);have HB:=hD (zf HB (zb (b:=w.heap.size+1) (ptC (⟨x.time,x.kind,x.who,0,0,[],[],x.msg⟩:Pt))) ja);go_wp2_with (first
    |(refine ak rfl 40 _ rfl b3 0 rfl (ptC (⟨x.time,x.kind,x.who,0,0,[],[],x.msg⟩:Pt)) _ HV.range underlying40 rfl (zw (⟨x.time,x.kind,x.who,0,0,[],[],x.msg⟩:Pt)) ?_)
    |(refine ai rfl 40 _ _ rfl (w.heap.size+1) 0 (ptC (⟨x.time,x.kind,x.who,0,0,[],[],x.msg⟩:Pt)).toArray rfl rfl ?_ (zw (⟨x.time,x.kind,x.who,0,0,[],[],x.msg⟩:Pt)) (yz (⟨x.time,x.kind,x.who,0,0,[],[],x.msg⟩:Pt)) ?_;· exact HR.there rfl))
   refine aj (v:= .agg (ptC (⟨x.time,x.kind,x.who,0,0,[],[],x.msg⟩:Pt)).toArray) ?_ rfl ⟨by rw[HK.out],HB⟩;exact zX results57 _ _ (w.heap.size+1) (ptC (⟨x.time,x.kind,x.who,0,0,[],[],x.msg⟩:Pt)) _ rfl HR2.range underlying40 rfl (zw (⟨x.time,x.kind,x.who,0,0,[],[],x.msg⟩:Pt))
 have q6:(x.kind == 6)=false:=by simpa using hk
 have HK:Hid (yJ x=yh x):=hD (by simp[yJ,yh,n1,n2,n3,n4,n5,hk]);clear n1 n2 n3 n4 n5 hk;have HV:=hD (HV.eq (cs':=ptC (yh x)) rfl);have HR2:=hD (HR.sets (ptC (yh x)) rfl);have HB:=hD (zf HB (zb (b:=w.heap.size+1) (ptC (yh x))) ja);go_wp2_with (first
  |(refine ak rfl 40 _ rfl b3 0 rfl (ptC (yh x)) _ HV.range underlying40 rfl (zw (yh x)) ?_)
  |(refine ai rfl 40 _ _ rfl (w.heap.size+1) 0 (ptC (yh x)).toArray rfl rfl ?_ (zw (yh x)) (yz (yh x)) ?_;· exact HR.there rfl))
 refine aj (v:= .agg (ptC (yh x)).toArray) ?_ rfl ⟨by rw[HK.out],HB⟩;exact zX results57 _ _ (w.heap.size+1) (ptC (yh x)) _ rfl HR2.range underlying40 rfl (zw (yh x))
theorem zeW(x:Pt)(w:World):Calls prog 63 #[.agg (ptC x).toArray] w (RetPt (yJ x) w):=by
 have HX:=hD ((Vr.new w (ptC x) 40).below (za (w.alloc (.cells (ptC x).toArray 40)) (.cells (ptC pt0).toArray 40)));have HR:=hD (Vr.new' (w.alloc (.cells (ptC x).toArray 40)) (ptC pt0) 40 (b:=w.heap.size+1) jc);have HB:=hD (bon (za w (.cells (ptC x).toArray 40)) (za (w.alloc (.cells (ptC x).toArray 40)) (.cells (ptC pt0).toArray 40)));go_in;go_upto_region 1 with fail;change Code.wp _ _ _ _ ((w.alloc (.cells (ptC x).toArray 40)).alloc (.cells (ptC pt0).toArray 40));have hz1:((w.alloc (.cells (ptC x).toArray 40)).alloc (.cells (ptC pt0).toArray 40)).heap.size=w.heap.size+2:=by simp
 generalize (w.alloc (.cells (ptC x).toArray 40)).alloc (.cells (ptC pt0).toArray 40)=w1 at HX HR HB hz1⊢;have HZ1:=hD hz1;clear hz1;have c0:=HX.cells 0 _ rfl;have c1:=HX.cells 1 _ rfl;have c2:=HX.cells 2 _ rfl;have cl:=HX.lt;have HZ:=hD (Vr.new w1 (ptC pt0) 40);have HV:=hD (HZ.sets (ptC (yh x)) rfl);have HX:=hD ((HX.below (za w1 (.cells (ptC pt0).toArray 40))).grown (zb (b:=w1.heap.size) (ptC (yh x))) jbl);have HR:=hD ((HR.below (za w1 (.cells (ptC pt0).toArray 40))).grown (zb (b:=w1.heap.size) (ptC (yh x))) jbl);have HB:=hD (zf (bon HB (za w1 (.cells (ptC pt0).toArray 40))) (zb (b:=w1.heap.size) (ptC (yh x))) jbl);go_upto_region 2 with(first
  |(refine bV rfl 40 _ rfl _ rfl (ptC (yh x)).toArray ?_ ?_;· kernel_rfl)
  |(refine ai rfl 40 _ _ rfl w1.heap.size 0 (ptC (yh x)).toArray rfl rfl ?_ (zw (yh x)) (yz (yh x)) ?_;· exact HZ.there rfl))
 try simp only[ay]
 change Code.wp _ _ _ _ ((w1.alloc (.cells (ptC pt0).toArray 40)).setCells w1.heap.size 0 (ptC (yh x)));generalize (w1.alloc (.cells (ptC pt0).toArray 40)).setCells w1.heap.size 0 (ptC (yh x))=w3 at HX HR HV HB⊢;clear HZ c0 c1 c2 cl;generalize w1.heap.size=b3 at HV HZ1⊢;have c1:=HX.cells 1 _ rfl;have cl:=HX.lt;by_cases hk:x.kind=1
 · have HK:Hid (yJ x=(⟨x.time,x.kind,x.who,0,x.number,x.text,[],ms0⟩:Pt)):=hD jbr;have q1:(x.kind == 1)=true:=by simp[hk]
   have q2:(x.kind == 2)=false:=by simp[hk]
   have q3:(x.kind == 3)=false:=by simp[hk]
   have q4:(x.kind == 4)=false:=by simp[hk]
   have q5:(x.kind == 5)=false:=by simp[hk]
   have q6:(x.kind == 6)=false:=by simp[hk]
   clear hk;go_wp2_with fail;clear c1 cl;have HV:=hD (HV.below (ae _ _).drew);have HX:=hD (HX.below (ae _ _).drew);have HR:=hD (HR.below (ae _ _).drew);have HB:=hD (HB.drew);refine aD ?_;generalize hv:w3.drew=v0 at HV HX HR HB;have HS:Hid (∀W,Vr W w.heap.size (ptC x)→W.cell? ⟨w.heap.size,4,none⟩=some (.int .i64 x.number)∧W.cell? ⟨w.heap.size,5,none⟩=some (.string ⟨x.text.toArray⟩)):=hD (fun W h=>⟨h.cells 4 _ rfl,h.cells 5 _ rfl⟩);have hC:=HS.out v0 HX.out;refine aC (S:=fun W=>W.cell? ⟨w.heap.size,4,none⟩=some (.int .i64 x.number)∧W.cell? ⟨w.heap.size,5,none⟩=some (.string ⟨x.text.toArray⟩)) jb jar (fun hHeld=> ?_);rw[hv]at hHeld⊢;clear hv;refine takes [0,1,2,3,4] ?_;have cz:=HV.cells 4 _ rfl;have fz:=HV.free 4 (az rfl);have lz:=HV.lt;refine tkr 5 rfl (fun K hK=> ?_);go_simp;have HV:=hD (HV.set 4 (.int .i64 x.number));have HX:=hD (HX.grown (ze v0 ⟨b3,4,none⟩ (.int .i64 x.number)) jl);have HR:=hD (HR.grown (ze v0 ⟨b3,4,none⟩ (.int .i64 x.number)) jh);have HB:=hD (zf HB (ze v0 ⟨b3,4,none⟩ (.int .i64 x.number)) jm);clear cz fz lz;generalize v0.setCell ⟨b3,4,none⟩ (.int .i64 x.number)=v1 at HV HX HR HB⊢;have hC0:=HS.out v1 HX.out;refine hK.out _ _ hC0 (fun hHeld=> ?_);clear hK K;try simp only[Act.put,qk1,qk2,qk3,qk4,qk5,qk6]
   refine takes [6] ?_;have cz:=HV.cells 5 _ rfl;have fz:=HV.free 5 (az rfl);have lz:=HV.lt;refine tkr 7 rfl (fun K hK=> ?_);go_simp;have HV:=hD (HV.set 5 (.string ⟨x.text.toArray⟩));have HX:=hD (HX.grown (ze v1 ⟨b3,5,none⟩ (.string ⟨x.text.toArray⟩)) jl);have HR:=hD (HR.grown (ze v1 ⟨b3,5,none⟩ (.string ⟨x.text.toArray⟩)) jh);have HB:=hD (zf HB (ze v1 ⟨b3,5,none⟩ (.string ⟨x.text.toArray⟩)) jm);clear cz fz lz;generalize v1.setCell ⟨b3,5,none⟩ (.string ⟨x.text.toArray⟩)=v2 at HV HX HR HB⊢;have hC1:=HS.out v2 HX.out;refine hK.out _ _ hC1 (fun hHeld=> ?_);clear hK K;try simp only[Act.put,qk1,qk2,qk3,qk4,qk5,qk6]
   refine aB jb ?_ _;refine aA ?_;clear hC hC0 hC1 HS;generalize v2=w5 at HV HX HR HB⊢;have HV:=hD (HV.eq (cs':=ptC (⟨x.time,x.kind,x.who,0,x.number,x.text,[],ms0⟩:Pt)) rfl);have HR2:=hD (HR.sets (ptC (⟨x.time,x.kind,x.who,0,x.number,x.text,[],ms0⟩:Pt)) rfl);have HB:=hD (zf HB (zb (b:=w.heap.size+1) (ptC (⟨x.time,x.kind,x.who,0,x.number,x.text,[],ms0⟩:Pt))) ja);go_wp2_with (first
    |(refine ak rfl 40 _ rfl b3 0 rfl (ptC (⟨x.time,x.kind,x.who,0,x.number,x.text,[],ms0⟩:Pt)) _ HV.range underlying40 rfl (zw (⟨x.time,x.kind,x.who,0,x.number,x.text,[],ms0⟩:Pt)) ?_)
    |(refine ai rfl 40 _ _ rfl (w.heap.size+1) 0 (ptC (⟨x.time,x.kind,x.who,0,x.number,x.text,[],ms0⟩:Pt)).toArray rfl rfl ?_ (zw (⟨x.time,x.kind,x.who,0,x.number,x.text,[],ms0⟩:Pt)) (yz (⟨x.time,x.kind,x.who,0,x.number,x.text,[],ms0⟩:Pt)) ?_;· exact HR.there rfl))
   refine aj (v:= .agg (ptC (⟨x.time,x.kind,x.who,0,x.number,x.text,[],ms0⟩:Pt)).toArray) ?_ rfl ⟨by rw[HK.out],HB⟩;exact zX results63 _ _ (w.heap.size+1) (ptC (⟨x.time,x.kind,x.who,0,x.number,x.text,[],ms0⟩:Pt)) _ rfl HR2.range underlying40 rfl (zw (⟨x.time,x.kind,x.who,0,x.number,x.text,[],ms0⟩:Pt))
 have q1:(x.kind == 1)=false:=by simpa using hk
 have n1:=hk;clear hk;by_cases hk:x.kind=2
 · have HK:Hid (yJ x=(⟨x.time,x.kind,x.who,x.slot,x.number,[],x.result,ms0⟩:Pt)):=hD jbr;have q1:(x.kind == 1)=false:=by simp[hk]
   have q2:(x.kind == 2)=true:=by simp[hk]
   have q3:(x.kind == 3)=false:=by simp[hk]
   have q4:(x.kind == 4)=false:=by simp[hk]
   have q5:(x.kind == 5)=false:=by simp[hk]
   have q6:(x.kind == 6)=false:=by simp[hk]
   clear hk;go_wp2_with fail;clear c1 cl;have HV:=hD (HV.below (ae _ _).drew);have HX:=hD (HX.below (ae _ _).drew);have HR:=hD (HR.below (ae _ _).drew);have HB:=hD (HB.drew);refine aD ?_;generalize hv:w3.drew=v0 at HV HX HR HB;have HS:Hid (∀W,Vr W w.heap.size (ptC x)→W.cell? ⟨w.heap.size,4,none⟩=some (.int .i64 x.number)∧W.cell? ⟨w.heap.size,3,none⟩=some (.int .i64 x.slot)∧W.cell? ⟨w.heap.size,6,none⟩=some (.string ⟨x.result.toArray⟩)):=hD (fun W h=>⟨h.cells 4 _ rfl,h.cells 3 _ rfl,h.cells 6 _ rfl⟩);have hC:=HS.out v0 HX.out;refine aC (S:=fun W=>W.cell? ⟨w.heap.size,4,none⟩=some (.int .i64 x.number)∧W.cell? ⟨w.heap.size,3,none⟩=some (.int .i64 x.slot)∧W.cell? ⟨w.heap.size,6,none⟩=some (.string ⟨x.result.toArray⟩)) jb jar (fun hHeld=> ?_);rw[hv]at hHeld⊢;clear hv;refine takes [0,1,2,3,4,5,6] ?_;have cz:=HV.cells 4 _ rfl;have fz:=HV.free 4 (az rfl);have lz:=HV.lt;refine tkr 7 rfl (fun K hK=> ?_);go_simp;have HV:=hD (HV.set 4 (.int .i64 x.number));have HX:=hD (HX.grown (ze v0 ⟨b3,4,none⟩ (.int .i64 x.number)) jl);have HR:=hD (HR.grown (ze v0 ⟨b3,4,none⟩ (.int .i64 x.number)) jh);have HB:=hD (zf HB (ze v0 ⟨b3,4,none⟩ (.int .i64 x.number)) jm);clear cz fz lz;generalize v0.setCell ⟨b3,4,none⟩ (.int .i64 x.number)=v1 at HV HX HR HB⊢;have hC0:=HS.out v1 HX.out;refine hK.out _ _ hC0 (fun hHeld=> ?_);clear hK K;try simp only[Act.put,qk1,qk2,qk3,qk4,qk5,qk6]
   refine takes [8] ?_;have cz:=HV.cells 3 _ rfl;have fz:=HV.free 3 (az rfl);have lz:=HV.lt;refine tkr 9 rfl (fun K hK=> ?_);go_simp;have HV:=hD (HV.set 3 (.int .i64 x.slot));have HX:=hD (HX.grown (ze v1 ⟨b3,3,none⟩ (.int .i64 x.slot)) jl);have HR:=hD (HR.grown (ze v1 ⟨b3,3,none⟩ (.int .i64 x.slot)) jh);have HB:=hD (zf HB (ze v1 ⟨b3,3,none⟩ (.int .i64 x.slot)) jm);clear cz fz lz;generalize v1.setCell ⟨b3,3,none⟩ (.int .i64 x.slot)=v2 at HV HX HR HB⊢;have hC1:=HS.out v2 HX.out;refine hK.out _ _ hC1 (fun hHeld=> ?_);clear hK K;try simp only[Act.put,qk1,qk2,qk3,qk4,qk5,qk6]
   refine takes [10] ?_;have cz:=HV.cells 6 _ rfl;have fz:=HV.free 6 (az rfl);have lz:=HV.lt;refine tkr 11 rfl (fun K hK=> ?_);go_simp;have HV:=hD (HV.set 6 (.string ⟨x.result.toArray⟩));have HX:=hD (HX.grown (ze v2 ⟨b3,6,none⟩ (.string ⟨x.result.toArray⟩)) jl);have HR:=hD (HR.grown (ze v2 ⟨b3,6,none⟩ (.string ⟨x.result.toArray⟩)) jh);have HB:=hD (zf HB (ze v2 ⟨b3,6,none⟩ (.string ⟨x.result.toArray⟩)) jm);clear cz fz lz;generalize v2.setCell ⟨b3,6,none⟩ (.string ⟨x.result.toArray⟩)=v3 at HV HX HR HB⊢;have hC2:=HS.out v3 HX.out;refine hK.out _ _ hC2 (fun hHeld=> ?_);clear hK K;try simp only[Act.put,qk1,qk2,qk3,qk4,qk5,qk6]
   refine aB jb ?_ _;refine aA ?_;clear hC hC0 hC1 hC2 HS;generalize v3=w5 at HV HX HR HB⊢;have HV:=hD (HV.eq (cs':=ptC (⟨x.time,x.kind,x.who,x.slot,x.number,[],x.result,ms0⟩:Pt)) rfl);have HR2:=hD (HR.sets (ptC (⟨x.time,x.kind,x.who,x.slot,x.number,[],x.result,ms0⟩:Pt)) rfl);have HB:=hD (zf HB (zb (b:=w.heap.size+1) (ptC (⟨x.time,x.kind,x.who,x.slot,x.number,[],x.result,ms0⟩:Pt))) ja);go_wp2_with (first
    |(refine ak rfl 40 _ rfl b3 0 rfl (ptC (⟨x.time,x.kind,x.who,x.slot,x.number,[],x.result,ms0⟩:Pt)) _ HV.range underlying40 rfl (zw (⟨x.time,x.kind,x.who,x.slot,x.number,[],x.result,ms0⟩:Pt)) ?_)
    |(refine ai rfl 40 _ _ rfl (w.heap.size+1) 0 (ptC (⟨x.time,x.kind,x.who,x.slot,x.number,[],x.result,ms0⟩:Pt)).toArray rfl rfl ?_ (zw (⟨x.time,x.kind,x.who,x.slot,x.number,[],x.result,ms0⟩:Pt)) (yz (⟨x.time,x.kind,x.who,x.slot,x.number,[],x.result,ms0⟩:Pt)) ?_;· exact HR.there rfl))
   refine aj (v:= .agg (ptC (⟨x.time,x.kind,x.who,x.slot,x.number,[],x.result,ms0⟩:Pt)).toArray) ?_ rfl ⟨by rw[HK.out],HB⟩;exact zX results63 _ _ (w.heap.size+1) (ptC (⟨x.time,x.kind,x.who,x.slot,x.number,[],x.result,ms0⟩:Pt)) _ rfl HR2.range underlying40 rfl (zw (⟨x.time,x.kind,x.who,x.slot,x.number,[],x.result,ms0⟩:Pt))
 have q2:(x.kind == 2)=false:=by simpa using hk
 have n2:=hk;clear hk;by_cases hk:x.kind=3
 · have HK:Hid (yJ x=(⟨x.time,x.kind,x.who,x.slot,0,x.text,[],ms0⟩:Pt)):=hD jbr;have q1:(x.kind == 1)=false:=by simp[hk]
   have q2:(x.kind == 2)=false:=by simp[hk]
   have q3:(x.kind == 3)=true:=by simp[hk]
   have q4:(x.kind == 4)=false:=by simp[hk]
   exact fo11
 have q3:(x.kind == 3)=false:=by simpa using hk
 have n3:=hk;clear hk;by_cases hk:x.kind=4
 · have HK:Hid (yJ x=(⟨x.time,x.kind,x.who,x.slot,0,x.text,[],ms0⟩:Pt)):=hD jbr;have q1:(x.kind == 1)=false:=by simp[hk]
   have q2:(x.kind == 2)=false:=by simp[hk]
   have q3:(x.kind == 3)=false:=by simp[hk]
   have q4:(x.kind == 4)=true:=by simp[hk]
   exact fo11
 have q4:(x.kind == 4)=false:=by simpa using hk
 have n4:=hk;clear hk;by_cases hk:x.kind=5
 · have HK:Hid (yJ x=(⟨x.time,x.kind,x.who,0,x.number,x.text,x.result,ms0⟩:Pt)):=hD jbr;have q1:(x.kind == 1)=false:=by simp[hk]
   have q2:(x.kind == 2)=false:=by simp[hk]
   have q3:(x.kind == 3)=false:=by simp[hk]
   have q4:(x.kind == 4)=false:=by simp[hk]
   have q5:(x.kind == 5)=true:=by simp[hk]
   have q6:(x.kind == 6)=false:=by simp[hk]
   clear hk;go_wp2_with fail;clear c1 cl;have HV:=hD (HV.below (ae _ _).drew);have HX:=hD (HX.below (ae _ _).drew);have HR:=hD (HR.below (ae _ _).drew);have HB:=hD (HB.drew);refine aD ?_;generalize hv:w3.drew=v0 at HV HX HR HB;have HS:Hid (∀W,Vr W w.heap.size (ptC x)→W.cell? ⟨w.heap.size,4,none⟩=some (.int .i64 x.number)∧W.cell? ⟨w.heap.size,5,none⟩=some (.string ⟨x.text.toArray⟩)∧W.cell? ⟨w.heap.size,6,none⟩=some (.string ⟨x.result.toArray⟩)):=hD (fun W h=>⟨h.cells 4 _ rfl,h.cells 5 _ rfl,h.cells 6 _ rfl⟩);have hC:=HS.out v0 HX.out;refine aC (S:=fun W=>W.cell? ⟨w.heap.size,4,none⟩=some (.int .i64 x.number)∧W.cell? ⟨w.heap.size,5,none⟩=some (.string ⟨x.text.toArray⟩)∧W.cell? ⟨w.heap.size,6,none⟩=some (.string ⟨x.result.toArray⟩)) jb jar (fun hHeld=> ?_);rw[hv]at hHeld⊢;clear hv;refine takes [0,1,2,3,4,5,6] ?_;have cz:=HV.cells 4 _ rfl;have fz:=HV.free 4 (az rfl);have lz:=HV.lt;refine tkr 7 rfl (fun K hK=> ?_);go_simp;have HV:=hD (HV.set 4 (.int .i64 x.number));have HX:=hD (HX.grown (ze v0 ⟨b3,4,none⟩ (.int .i64 x.number)) jl);have HR:=hD (HR.grown (ze v0 ⟨b3,4,none⟩ (.int .i64 x.number)) jh);have HB:=hD (zf HB (ze v0 ⟨b3,4,none⟩ (.int .i64 x.number)) jm);clear cz fz lz;generalize v0.setCell ⟨b3,4,none⟩ (.int .i64 x.number)=v1 at HV HX HR HB⊢;have hC0:=HS.out v1 HX.out;refine hK.out _ _ hC0 (fun hHeld=> ?_);clear hK K;try simp only[Act.put,qk1,qk2,qk3,qk4,qk5,qk6]
   refine takes [8] ?_;have cz:=HV.cells 5 _ rfl;have fz:=HV.free 5 (az rfl);have lz:=HV.lt;refine tkr 9 rfl (fun K hK=> ?_);go_simp;have HV:=hD (HV.set 5 (.string ⟨x.text.toArray⟩));have HX:=hD (HX.grown (ze v1 ⟨b3,5,none⟩ (.string ⟨x.text.toArray⟩)) jl);have HR:=hD (HR.grown (ze v1 ⟨b3,5,none⟩ (.string ⟨x.text.toArray⟩)) jh);have HB:=hD (zf HB (ze v1 ⟨b3,5,none⟩ (.string ⟨x.text.toArray⟩)) jm);clear cz fz lz;generalize v1.setCell ⟨b3,5,none⟩ (.string ⟨x.text.toArray⟩)=v2 at HV HX HR HB⊢;have hC1:=HS.out v2 HX.out;refine hK.out _ _ hC1 (fun hHeld=> ?_);clear hK K;try simp only[Act.put,qk1,qk2,qk3,qk4,qk5,qk6]
   refine takes [10] ?_;have cz:=HV.cells 6 _ rfl;have fz:=HV.free 6 (az rfl);have lz:=HV.lt;refine tkr 11 rfl (fun K hK=> ?_);go_simp;have HV:=hD (HV.set 6 (.string ⟨x.result.toArray⟩));have HX:=hD (HX.grown (ze v2 ⟨b3,6,none⟩ (.string ⟨x.result.toArray⟩)) jl);have HR:=hD (HR.grown (ze v2 ⟨b3,6,none⟩ (.string ⟨x.result.toArray⟩)) jh);have HB:=hD (zf HB (ze v2 ⟨b3,6,none⟩ (.string ⟨x.result.toArray⟩)) jm);clear cz fz lz;generalize v2.setCell ⟨b3,6,none⟩ (.string ⟨x.result.toArray⟩)=v3 at HV HX HR HB⊢;have hC2:=HS.out v3 HX.out;refine hK.out _ _ hC2 (fun hHeld=> ?_);clear hK K;try simp only[Act.put,qk1,qk2,qk3,qk4,qk5,qk6]
   refine aB jb ?_ _;refine aA ?_;clear hC hC0 hC1 hC2 HS;generalize v3=w5 at HV HX HR HB⊢;have HV:=hD (HV.eq (cs':=ptC (⟨x.time,x.kind,x.who,0,x.number,x.text,x.result,ms0⟩:Pt)) rfl);have HR2:=hD (HR.sets (ptC (⟨x.time,x.kind,x.who,0,x.number,x.text,x.result,ms0⟩:Pt)) rfl);have HB:=hD (zf HB (zb (b:=w.heap.size+1) (ptC (⟨x.time,x.kind,x.who,0,x.number,x.text,x.result,ms0⟩:Pt))) ja);go_wp2_with (first
    |(refine ak rfl 40 _ rfl b3 0 rfl (ptC (⟨x.time,x.kind,x.who,0,x.number,x.text,x.result,ms0⟩:Pt)) _ HV.range underlying40 rfl (zw (⟨x.time,x.kind,x.who,0,x.number,x.text,x.result,ms0⟩:Pt)) ?_)
    |(refine ai rfl 40 _ _ rfl (w.heap.size+1) 0 (ptC (⟨x.time,x.kind,x.who,0,x.number,x.text,x.result,ms0⟩:Pt)).toArray rfl rfl ?_ (zw (⟨x.time,x.kind,x.who,0,x.number,x.text,x.result,ms0⟩:Pt)) (yz (⟨x.time,x.kind,x.who,0,x.number,x.text,x.result,ms0⟩:Pt)) ?_;· exact HR.there rfl))
   refine aj (v:= .agg (ptC (⟨x.time,x.kind,x.who,0,x.number,x.text,x.result,ms0⟩:Pt)).toArray) ?_ rfl ⟨by rw[HK.out],HB⟩;exact zX results63 _ _ (w.heap.size+1) (ptC (⟨x.time,x.kind,x.who,0,x.number,x.text,x.result,ms0⟩:Pt)) _ rfl HR2.range underlying40 rfl (zw (⟨x.time,x.kind,x.who,0,x.number,x.text,x.result,ms0⟩:Pt))
 have q5:(x.kind == 5)=false:=by simpa using hk
 have n5:=hk;clear hk;by_cases hk:x.kind=6
 · have HK:Hid (yJ x=(⟨x.time,x.kind,x.who,0,0,[],[],x.msg⟩:Pt)):=hD jbr;have q6:(x.kind == 6)=true:=by simp[hk]
   clear hk n1 n2 n3 n4 n5;have HV2:=hD ((HV.mid 7 (msC x.msg) (by rw[Yy,zdH];omega)).eq (cs':=ptC (⟨x.time,x.kind,x.who,0,0,[],[],x.msg⟩:Pt)) (mid_msg x));have HTh:Hid (w3.there b3 7 (msC x.msg).toArray.size):=hD (HV.thereAt 7 jbj);have HR:=hD (HR.grown (ZH w3 b3 (msC x.msg) 7) jbl);have HB:=hD (zf HB (ZH w3 b3 (msC x.msg) 7) jbl);go_upto_region 14 with(first
    |(refine ak rfl 38 _ rfl w.heap.size 7 rfl (msC x.msg) _ HX.msg underlying38 rfl (zD x.msg) ?_)
    |(refine ai rfl 38 _ _ rfl b3 7 (msC x.msg).toArray rfl rfl ?_ (zD x.msg) (yu x.msg) ?_;· exact HTh))
   try simp only[ay]
   clear HX HV HTh;generalize w3.setCells b3 7 (msC x.msg)=w5 at HV2 HR HB⊢;have HV:=HV2;clear HV2;have HV:=hD (HV.eq (cs':=ptC (⟨x.time,x.kind,x.who,0,0,[],[],x.msg⟩:Pt)) rfl);have HR2:=hD (HR.sets (ptC (⟨x.time,x.kind,x.who,0,0,[],[],x.msg⟩:Pt)) rfl);have HB:=hD (zf HB (zb (b:=w.heap.size+1) (ptC (⟨x.time,x.kind,x.who,0,0,[],[],x.msg⟩:Pt))) ja);go_wp2_with (first
    |(refine ak rfl 40 _ rfl b3 0 rfl (ptC (⟨x.time,x.kind,x.who,0,0,[],[],x.msg⟩:Pt)) _ HV.range underlying40 rfl (zw (⟨x.time,x.kind,x.who,0,0,[],[],x.msg⟩:Pt)) ?_)
    |(refine ai rfl 40 _ _ rfl (w.heap.size+1) 0 (ptC (⟨x.time,x.kind,x.who,0,0,[],[],x.msg⟩:Pt)).toArray rfl rfl ?_ (zw (⟨x.time,x.kind,x.who,0,0,[],[],x.msg⟩:Pt)) (yz (⟨x.time,x.kind,x.who,0,0,[],[],x.msg⟩:Pt)) ?_;· exact HR.there rfl))
   refine aj (v:= .agg (ptC (⟨x.time,x.kind,x.who,0,0,[],[],x.msg⟩:Pt)).toArray) ?_ rfl ⟨by rw[HK.out],HB⟩;exact zX results63 _ _ (w.heap.size+1) (ptC (⟨x.time,x.kind,x.who,0,0,[],[],x.msg⟩:Pt)) _ rfl HR2.range underlying40 rfl (zw (⟨x.time,x.kind,x.who,0,0,[],[],x.msg⟩:Pt))
 have q6:(x.kind == 6)=false:=by simpa using hk
 have HK:Hid (yJ x=yh x):=hD (by simp[yJ,yh,n1,n2,n3,n4,n5,hk]);clear n1 n2 n3 n4 n5 hk;have HV:=hD (HV.eq (cs':=ptC (yh x)) rfl);have HR2:=hD (HR.sets (ptC (yh x)) rfl);have HB:=hD (zf HB (zb (b:=w.heap.size+1) (ptC (yh x))) ja);go_wp2_with (first
  |(refine ak rfl 40 _ rfl b3 0 rfl (ptC (yh x)) _ HV.range underlying40 rfl (zw (yh x)) ?_)
  |(refine ai rfl 40 _ _ rfl (w.heap.size+1) 0 (ptC (yh x)).toArray rfl rfl ?_ (zw (yh x)) (yz (yh x)) ?_;· exact HR.there rfl))
 refine aj (v:= .agg (ptC (yh x)).toArray) ?_ rfl ⟨by rw[HK.out],HB⟩;exact zX results63 _ _ (w.heap.size+1) (ptC (yh x)) _ rfl HR2.range underlying40 rfl (zw (yh x))
