/- The contract of the reference's Valid. -/
import Derived.Test.YtepbbaifpckcpaaGreatDoorFFo
import Derived.Test.YtepbbaifpckcpaaGreatDoorFPl
import Derived.Test.YtepbbaifpckcpaaGreatDoorFTrGd
import Derived.Test.YtepbbaifpckcpaaGreatDoorFTrL
namespace Go.Proofs.YtepbbaifpckcpaaGreatDoor
set_option maxRecDepth 100000
set_option maxHeartbeats 8000000
open Go.RowKit
theorem ze2 (A:Option Addr) (c:Nat) (l:List Pt) (w:World) (E:List UInt8→Bool) (hE:EntOk 65 E l w) (hp:ZV w A l) (hf:fewPts l) (hn:l.length≤1099511627776) :
    Calls Tryz.prog 14 #[.slice A l.length c] w (Zw (vTr E l) w):=by
 have HP:=hD hp;have HE:=hD hE;have HFew:=hD hf;have HB0:=hD (Below.refl w.heap.size w);clear hp hE hf;by_cases hbig:5000<l.length
 · exact fo106
 have i0:¬((5000:Int) <(l.length:Int)):=by omega
 have HV:Hid (vTr E l=if Y2 E l then 0 else 1):=hD (by unfold vTr;rw [if_neg hbig]);clear hbig;go_in;go_wp2_with fail;go_loopw [3] (fun i wr=>∃k:Nat,i= .int .i64 k∧k≤l.length∧(List.range k).all (Zc E l)=true∧Below w.heap.size w wr) (fun i _=>l.length-(intOf i).toNat)
 case atStart=>exact⟨0,rfl,by omega,by simp,HB0.out⟩
 case round=>
  obtain⟨k,rfl,hk,hA,hJb⟩:=hrel;have HA:=hD hA;have HJb:=hD hJb;clear hA hJb;by_cases hlt:k<l.length
  · have i0':(0:Int)≤(k:Int):=by omega
    have i1:(k:Int) <(l.length:Int):=by omega
    obtain⟨b,off,hA,hg,hcc⟩:=HP.out.at hlt;subst hA;obtain⟨x,hx⟩:∃x,x=l[k]:=⟨_,rfl⟩;rw [←hx] at hcc;have HS1:Hid (∀W,Below w.heap.size w W→World.rangeAt W b (off+k * 28) (ptC x)):=hD hcc;have HXe:=hD hx;have HVd:Hid (∀W,Below w.heap.size w W→Calls Tryz.prog 37 #[.agg (ptC x).toArray] W (zC (zy E x) W)):=hD (fun W hW=>by
     have hm:x∈l:=hx▸List.getElem_mem hlt;exact refGood_any x W E (fun h3 W' hW'=>HE.out x hm h3 W' (bon hW hW')) (Pt.below (HP.out.2 x hm) hW) (HFew.out x hm).1 (HFew.out x hm).2)
    have hx0:∀W,Below w.heap.size w W→W.cell? ⟨b,off+k * 28,none⟩=some (.int .i64 x.time):=fun W hW=>hcc W hW 0 _ rfl
    have HX0:=hD hx0;clear hcc hx hx0 hg;cases hq:zy E x with
    |false=>
     have HF:Hid (vTr E l=1):=hD (by rw [HV.out,zbB E l k hlt (by rw [Z4 E l k hlt ja,←HXe.out,hq];rfl)];rfl);rw [hq] at HVd;clear hq;go_wp2_with fail;refine wp_region_noPanic ?_;have HBr:=hD (HJb.out.drew);generalize hv:wr.drew=v0 at HBr;refine wp_region_held_drew (S:=fun W=>World.rangeAt W b (off+k * 28) (ptC x)) jc (by rw [hv];exact(HS1.out _ HBr.out)) (fun hHeld=> ?_);rw [hv] at hHeld⊢;clear hv;refine takes [0,1,2] ?_;refine tkq 3 rfl (yieldsIf_load_mid jq 40 _ jq _ _ jq (ptC x) _ (fun W h=>h) Tryz.underlying40 rfl (zw x)) je ?_;try simp only [Act.put,qk1,qk2,qk3,qk4,qk5,qk6]
     refine tkr 4 rfl (fun K hK=> ?_);go_simp;go_at_call 37;refine(HVd.out _ HBr.out).mono ?_;rintro e v1 ⟨rfl,hs⟩;have HBr:=hD (bon HBr.out hs);clear hs;go_wp2_with fail;refine hK.out _ _ (HS1.out _ HBr.out) (fun hHeld=> ?_);exact fo82
    |true=>
     rw [hq] at HVd;by_cases hk0:k=0
     · have d0:decide (0<k)=false:=by simp;omega
       have q0:¬(0<k):=by omega
       have p0:¬((0:Int) <(k:Int)):=by omega
       have HN:Hid ((List.range (k+1)).all (Zc E l)=true):=hD (by rw [zae E l k hlt,HA.out,Z4 E l k hlt ja,←HXe.out,hq,decide_eq_true hk0];rfl);clear hq hk0;go_wp2_with fail;refine wp_region_noPanic ?_;have HBr:=hD (HJb.out.drew);generalize hv:wr.drew=v0 at HBr;refine wp_region_held_drew (S:=fun W=>World.rangeAt W b (off+k * 28) (ptC x)) jc (by rw [hv];exact(HS1.out _ HBr.out)) (fun hHeld=> ?_);rw [hv] at hHeld⊢;clear hv;refine takes [0,1,2] ?_;refine tkq 3 rfl (yieldsIf_load_mid jq 40 _ jq _ _ jq (ptC x) _ (fun W h=>h) Tryz.underlying40 rfl (zw x)) je ?_;try simp only [Act.put,qk1,qk2,qk3,qk4,qk5,qk6]
       refine tkr 4 rfl (fun K hK=> ?_);go_simp;go_at_call 37;refine(HVd.out _ HBr.out).mono ?_;rintro e v1 ⟨rfl,hs⟩;have HBr:=hD (bon HBr.out hs);clear hs;go_wp2_with fail;refine hK.out _ _ (HS1.out _ HBr.out) (fun hHeld=> ?_);exact fo172
     · obtain⟨j,hj⟩:∃j,k=j+1:=⟨k- 1,by omega⟩;have hjl:j<l.length:=by omega
       obtain⟨y,hy⟩:∃y,y=l[j]:=⟨_,rfl⟩;obtain⟨b',off',hA',hg',hcc'⟩:=HP.out.at hjl;simp only [Option.some.injEq,Addr.mk.injEq] at hA';obtain⟨rfl,rfl,_⟩:=hA';have HS2:Hid (∀W,Below w.heap.size w W→World.rangeAt W b (off+k * 28) (ptC x)∧World.cell? W ⟨b,off+k * 28,none⟩=some (.int .i64 x.time)∧World.cell? W ⟨b,off+j * 28,none⟩=some (.int .i64 y.time)):=hD (fun W hW=>⟨HS1.out W hW,HX0.out W hW,hcc' W hW 0 _ (by rw [←hy];rfl)⟩);have e8:IntKind.i64.wrap ((k:Int)- 1)=(j:Int):=by rw [show(k:Int)- 1=(j:Int) from by omega];exact IntWalk.i64_in _ ja
       have i2:(0:Int)≤(j:Int):=by omega
       have i3:(j:Int) <(l.length:Int):=by omega
       have d0:decide (0<k)=true:=by simp;omega
       have q0:0<k:=by omega
       have i4:(0:Int) <(k:Int):=by omega
       have HG:Hid (Zc E l k=decide (y.time≤x.time)):=hD (by
        rw [Z4 E l k hlt ja,←HXe.out,hq,decide_eq_false (by omega:¬k=0)];subst hj;simp [hy])
       clear hq hy hcc' hg' hk0 hj;by_cases ht:y.time≤x.time
       · have t1:¬(x.time<y.time):=by omega
         have HN:Hid ((List.range (k+1)).all (Zc E l)=true):=hD (by rw [zae E l k hlt,HA.out,HG.out,decide_eq_true ht];rfl);clear ht;go_wp2_with fail;refine wp_region_noPanic ?_;have HBr:=hD (HJb.out.drew);generalize hv:wr.drew=v0 at HBr;refine wp_region_held_drew (S:=fun W=>World.rangeAt W b (off+k * 28) (ptC x)∧World.cell? W ⟨b,off+k * 28,none⟩=some (.int .i64 x.time)∧World.cell? W ⟨b,off+j * 28,none⟩=some (.int .i64 y.time)) jc (by rw [hv];exact(HS2.out _ HBr.out)) (fun hHeld=> ?_);rw [hv] at hHeld⊢;clear hv;refine takes [0,1,2] ?_;refine tkq 3 rfl (yieldsIf_load_mid jq 40 _ jq _ _ jq (ptC x) _ (fun W h=>h.1) Tryz.underlying40 rfl (zw x)) je ?_;try simp only [Act.put,qk1,qk2,qk3,qk4,qk5,qk6]
         refine tkr 4 rfl (fun K hK=> ?_);go_simp;go_at_call 37;refine(HVd.out _ HBr.out).mono ?_;rintro e v1 ⟨rfl,hs⟩;have HBr:=hD (bon HBr.out hs);clear hs;go_wp2_with fail;refine hK.out _ _ (HS2.out _ HBr.out) (fun hHeld=> ?_);exact fo172
       · have t1:x.time<y.time:=by omega
         have HF:Hid (vTr E l=1):=hD (by rw [HV.out,zbB E l k hlt (by rw [HG.out,decide_eq_false ht])];rfl);clear ht;go_wp2_with fail;refine wp_region_noPanic ?_;have HBr:=hD (HJb.out.drew);generalize hv:wr.drew=v0 at HBr;refine wp_region_held_drew (S:=fun W=>World.rangeAt W b (off+k * 28) (ptC x)∧World.cell? W ⟨b,off+k * 28,none⟩=some (.int .i64 x.time)∧World.cell? W ⟨b,off+j * 28,none⟩=some (.int .i64 y.time)) jc (by rw [hv];exact(HS2.out _ HBr.out)) (fun hHeld=> ?_);rw [hv] at hHeld⊢;clear hv;refine takes [0,1,2] ?_;refine tkq 3 rfl (yieldsIf_load_mid jq 40 _ jq _ _ jq (ptC x) _ (fun W h=>h.1) Tryz.underlying40 rfl (zw x)) je ?_;try simp only [Act.put,qk1,qk2,qk3,qk4,qk5,qk6]
         refine tkr 4 rfl (fun K hK=> ?_);go_simp;go_at_call 37;refine(HVd.out _ HBr.out).mono ?_;rintro e v1 ⟨rfl,hs⟩;have HBr:=hD (bon HBr.out hs);clear hs;go_wp2_with fail;refine hK.out _ _ (HS2.out _ HBr.out) (fun hHeld=> ?_);exact fo82
  · exact fo104
end Go.Proofs.YtepbbaifpckcpaaGreatDoor
