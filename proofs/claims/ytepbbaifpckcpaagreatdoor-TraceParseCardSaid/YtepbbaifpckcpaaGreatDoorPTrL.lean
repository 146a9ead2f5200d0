/- The contract of trace.Valid. -/
import Derived.Test.YtepbbaifpckcpaaGreatDoorPTrK
open Go.Proofs.Tryz
namespace Go.Proofs.YtepbbaifpckcpaaGreatDoor
set_option maxRecDepth 100000
set_option maxHeartbeats 8000000
open Go.RowKit
theorem zec(E:List UInt8→Bool)(l:List Pt)(k:Nat)(_hk:k<l.length):(List.range (k+1)).all (y8 E l)=((List.range k).all (y8 E l) && y8 E l k):=by
 rw[ig,dQ];simp
theorem zbs(E:List UInt8→Bool)(l:List Pt)(k:Nat)(hk:k<l.length)(_hp:k=0∨0<k):y8 E l k=(zA E l[k] &&(decide (k=0) || decide (l[k- 1].time≤l[k].time))):=by
 unfold y8;rw[aP hk,aP (by omega:k- 1<l.length)]
theorem zf1(E:List UInt8→Bool)(l:List Pt)(k:Nat)(hk:k<l.length)(h:y8 E l k=false):zan E l=false:=by
 unfold zan;rw[gP];exact⟨k,fU.2 hk,by rw[h];simp⟩
def fewPts(l:List Pt):Prop:=∀x∈l,x.msg.sz≤16777216∧x.text.length≤300000
def EntOk(F:Nat)(E:List UInt8→Bool)(l:List Pt)(w:World):Prop:=∀x∈l,x.kind=3∨x.kind=4→∀W,Below w.heap.size w W→Calls prog F #[x.text] W (zK (E x.text) W)
theorem trValid_any(A:Option Addr)(c:Nat)(l:List Pt)(w:World)(E:List UInt8→Bool)(hE:EntOk 60 E l w)(he:Env w)(hp:Yz w A l)(hf:fewPts l)(hn:l.length≤1099511627776) :
    Calls prog 12 #[.slice A l.length c] w (ZN (vTr E l) w):=by
 have HP:=hD hp;have HE:=hD hE;have HEnv:=hD he;have HFew:=hD hf;have HB0:=hD (ae w.heap.size w);clear hp hE he hf;by_cases hbig:5000<l.length
 · have i0:(5000:Int) <(l.length:Int):=by omega
   have HF:Hid (vTr E l=3):=hD (by unfold vTr;rw[af hbig]);clear hbig;go_in;go_wp2_with fail;go_ret;exact Zp HF HB0
 have i0:¬((5000:Int) <(l.length:Int)):=by omega
 have HV:Hid (vTr E l=if zan E l then 0 else 1):=hD (by unfold vTr;rw[aa hbig]);clear hbig;go_in;go_wp2_with fail;go_loopw [10] (fun i wr=>∃k:Nat,i= .int .i64 k∧k≤l.length∧(List.range k).all (y8 E l)=true∧Below w.heap.size w wr) (fun i _=>l.length-(intOf i).toNat)
 case atStart=>exact⟨0,rfl,by omega,by simp,HB0⟩
 case round=>
  obtain⟨k,rfl,hk,hA,hJb⟩:=hrel;have HA:=hD hA;have HJb:=hD hJb;clear hA hJb;by_cases hlt:k<l.length
  · have i0':(0:Int)≤(k:Int):=by omega
    have i1:(k:Int) <(l.length:Int):=by omega
    obtain⟨b,off,hA,hg,hcc⟩:=HP.at hlt;subst hA;obtain⟨x,hx⟩:∃x,x=l[k]:=⟨_,rfl⟩;have HRg:=hD (hcc wr HJb);rw[←hx]at HRg;have HXe:=hD hx;have HVd:Hid (∀W,Below w.heap.size w W→Calls prog 36 #[.agg (ptC x).toArray] W (zK (zA E x) W)):=hD (fun W hW=>by
     have hm:x∈l:=hx▸aH hlt;exact zc6 x W E (fun h3 W' hW'=>HE.out x hm h3 W' (bon hW hW')) (HEnv.below hW) (Pt.below (HP.2 x hm) hW) (HFew x hm).1 (HFew x hm).2)
    clear hcc hx;have HX0:=hD (Vr.new wr (ptC pt0) 40);have HX:=hD (HX0.sets (ptC x) rfl);have HBr:=hD (zf (za wr (.cells (ptC pt0).toArray 40)) (zb (b:=wr.heap.size) (ptC x)) (ag _));go_upto_region 6 with(first
     |(refine ak rfl 40 _ rfl b (off+k * 28) rfl (ptC x) _ HRg underlying40 rfl (zw x) ?_)
     |(refine ai rfl 40 _ _ rfl wr.heap.size 0 (ptC x).toArray rfl rfl ?_ (zw x) (yz x) ?_;· exact HX0.there rfl))
    try simp only[ay]
    clear HX0 HRg;change Code.wp _ _ _ _ ((wr.alloc (.cells (ptC pt0).toArray 40)).setCells wr.heap.size 0 (ptC x));generalize (wr.alloc (.cells (ptC pt0).toArray 40)).setCells wr.heap.size 0 (ptC x)=w3 at HX HBr⊢;generalize wr.heap.size=b3 at HX⊢;cases hq:zA E x with
    |false=>
     have HF:Hid (vTr E l=1):=hD (by rw[HV.out,zf1 E l k hlt (by rw[zbs E l k hlt ja,←HXe.out,hq];rfl)];rfl);rw[hq]at HVd;clear hq;refine aD ?_;have HX:=hD (HX.below (ae _ _).drew);have HBr:=hD (HBr.drew);generalize hv:w3.drew=v0 at HX HBr;refine aC (S:=fun W=>World.cell? W ⟨b3,0,none⟩=some (.int .i64 x.time)∧World.rangeAt W b3 0 (ptC x)) jb (by rw[hv];exact⟨HX.cells 0 _ rfl,HX.range⟩) (fun hHeld=> ?_);rw[hv]at hHeld⊢;clear hv;refine tkq 0 rfl (aM ji 40 _ ji _ 0 ji (ptC x) _ (fun W h=>h.2) underlying40 rfl (zw x)) je ?_;try simp only[Act.put,qk1,qk2,qk3,qk4,qk6]
     refine tkr 1 rfl (fun K hK=> ?_);go_simp;go_at_call 36;refine(HVd _ (bon HJb HBr)).mono ?_;rintro e v1 ⟨rfl,hs⟩;have HX:=hD (HX.below hs);have HBr:=hD (bon HBr hs);clear hs;go_wp2_with fail;refine hK.out _ _ ⟨HX.cells 0 _ rfl,HX.range⟩ (fun hHeld=> ?_);exact fo95
    |true=>
     rw[hq]at HVd;rcases il k with h0|h0
     · have HN:Hid ((List.range (k+1)).all (y8 E l)=true):=hD (by rw[zec E l k hlt,HA.out,zbs E l k hlt ja,←HXe.out,hq,aO h0];rfl);subst h0;clear hq;refine aD ?_;have HX:=hD (HX.below (ae _ _).drew);have HBr:=hD (HBr.drew);generalize hv:w3.drew=v0 at HX HBr;refine aC (S:=fun W=>World.cell? W ⟨b3,0,none⟩=some (.int .i64 x.time)∧World.rangeAt W b3 0 (ptC x)) jb (by rw[hv];exact⟨HX.cells 0 _ rfl,HX.range⟩) (fun hHeld=> ?_);rw[hv]at hHeld⊢;clear hv;refine tkq 0 rfl (aM ji 40 _ ji _ 0 ji (ptC x) _ (fun W h=>h.2) underlying40 rfl (zw x)) je ?_;try simp only[Act.put,qk1,qk2,qk3,qk4,qk6]
       refine tkr 1 rfl (fun K hK=> ?_);go_simp;go_at_call 36;refine(HVd _ (bon HJb HBr)).mono ?_;rintro e v1 ⟨rfl,hs⟩;have HX:=hD (HX.below hs);have HBr:=hD (bon HBr hs);clear hs;go_wp2_with fail;refine hK.out _ _ ⟨HX.cells 0 _ rfl,HX.range⟩ (fun hHeld=> ?_);clear hK K;try simp only[Act.put,qk1,qk2,qk3,qk4,qk5,qk6]
       refine takes [2,3,4,5,6,7,8,9,10,11,12,13,14,15,16,17] ?_;refine aB jb ?_ _;refine aA ?_;have HBn:=hD (bon HJb HBr);go_wp2_with fail;go_roundw
       case rel=>exact⟨0+1,by go_num,by omega,HN,HBn⟩
       case measure=>simp[intOf];omega
     · obtain⟨j,rfl⟩:∃j,k=j+1:=⟨k- 1,by omega⟩;obtain⟨y,hy⟩:∃y,y=l[j]:=⟨_,rfl⟩;have hjl:j<l.length:=by omega
       have HY:Hid (∀W,Below wr.heap.size wr W→W.cell? ⟨b,off+j * 28,none⟩=some (.int .i64 y.time)):=hD (fun W hW=>by
        obtain⟨b',off',hA',hg',hcc'⟩:=HP.at hjl;simp only[ax,cZ]at hA';obtain⟨rfl,rfl,_⟩:=hA';exact hcc' W (bon HJb hW) 0 _ (by rw[←hy];rfl))
       have e8:IntKind.i64.wrap ((j:Int)+1- 1)=(j:Int):=by rw[show(j:Int)+1- 1=(j:Int) from by omega];exact bL _ ja
       have e9:IntKind.i64.wrap (j:Int)=(j:Int):=bL _ ja;have i2:(0:Int)≤(j:Int):=by omega
       have i3:(j:Int) <(l.length:Int):=by omega
       have i4:(0:Int) <(j:Int)+1:=by omega
       have HG:Hid (y8 E l (j+1)=decide (y.time≤x.time)):=hD (by rw[zbs E l (j+1) hlt ja,←HXe.out,hq];simp[hy]);clear hq hy;by_cases ht:y.time≤x.time
       · have t1:¬(x.time<y.time):=by omega
         have HN:Hid ((List.range (j+1+1)).all (y8 E l)=true):=hD (by rw[zec E l (j+1) hlt,HA.out,HG.out,aO ht];rfl);clear ht;refine aD ?_;have HX:=hD (HX.below (ae _ _).drew);have HBr:=hD (HBr.drew);generalize hv:w3.drew=v0 at HX HBr;refine aC (S:=fun W=>World.cell? W ⟨b3,0,none⟩=some (.int .i64 x.time)∧World.rangeAt W b3 0 (ptC x)∧World.cell? W ⟨b,off+j * 28,none⟩=some (.int .i64 y.time)) jb jdd (fun hHeld=> ?_);rw[hv]at hHeld⊢;clear hv;refine tkq 0 rfl (aM ji 40 _ ji _ 0 ji (ptC x) _ (fun W h=>h.2.1) underlying40 rfl (zw x)) je ?_;try simp only[Act.put,qk1,qk2,qk3,qk4,qk6]
         refine tkr 1 rfl (fun K hK=> ?_);go_simp;go_at_call 36;refine(HVd _ (bon HJb HBr)).mono ?_;rintro e v1 ⟨rfl,hs⟩;have HX:=hD (HX.below hs);have HBr:=hD (bon HBr hs);clear hs;go_wp2_with fail;refine hK.out _ _ ⟨HX.cells 0 _ rfl,HX.range,HY _ HBr⟩ (fun hHeld=> ?_);clear hK K;try simp only[Act.put,qk1,qk2,qk3,qk4,qk5,qk6]
         refine takes [2,3,4,5,6,7,8,9,10,11,12,13,14,15,16,17] ?_;refine aB jb ?_ _;refine aA ?_;have HBn:=hD (bon HJb HBr);go_wp2_with fail;go_roundw
         case rel=>exact⟨(j+1)+1,by go_num,by omega,HN,HBn⟩
         case measure=>simp[intOf];omega
       · have t1:x.time<y.time:=by omega
         have HF:Hid (vTr E l=1):=hD (by rw[HV.out,zf1 E l (j+1) hlt (by rw[HG.out,av ht])];rfl);clear ht;refine aD ?_;have HX:=hD (HX.below (ae _ _).drew);have HBr:=hD (HBr.drew);generalize hv:w3.drew=v0 at HX HBr;refine aC (S:=fun W=>World.cell? W ⟨b3,0,none⟩=some (.int .i64 x.time)∧World.rangeAt W b3 0 (ptC x)∧World.cell? W ⟨b,off+j * 28,none⟩=some (.int .i64 y.time)) jb jdd (fun hHeld=> ?_);rw[hv]at hHeld⊢;clear hv;refine tkq 0 rfl (aM ji 40 _ ji _ 0 ji (ptC x) _ (fun W h=>h.2.1) underlying40 rfl (zw x)) je ?_;try simp only[Act.put,qk1,qk2,qk3,qk4,qk6]
         refine tkr 1 rfl (fun K hK=> ?_);go_simp;go_at_call 36;refine(HVd _ (bon HJb HBr)).mono ?_;rintro e v1 ⟨rfl,hs⟩;have HX:=hD (HX.below hs);have HBr:=hD (bon HBr hs);clear hs;go_wp2_with fail;refine hK.out _ _ ⟨HX.cells 0 _ rfl,HX.range,HY _ HBr⟩ (fun hHeld=> ?_);exact fo95
  · obtain rfl:k=l.length:=by omega
    have HF:Hid (vTr E l=0):=hD (by
     have h:zan E l=true:=HA.out;rw[HV.out,h];rfl)
    go_wp2_with fail;go_ret;exact Zp HF HJb
