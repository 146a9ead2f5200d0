/- The contracts of Reads. -/
import Derived.Laws.StructEq
import Derived.Test.YtepbbaifpckcpaaGreatDoorFPl
import Derived.Test.YtepbbaifpckcpaaGreatDoorFTa
import Derived.Test.YtepbbaifpckcpaaGreatDoorFFo
namespace Go.Proofs.YtepbbaifpckcpaaGreatDoor
open Go.RowKit
def RetOps (l:List Opn) (w:World) (e:Ending) (w':World):Prop:=∃A c,e= .returned (.slice A l.length c)∧Rd w' 5 A l.length (l.flatMap opC)∧Below w.heap.size w w'
theorem ret_ops {l:List Opn} {w w':World} {A:Option Addr} {n c:Nat} (hn:n=l.length) (h:w'.ownsRow w.heap.size 44 5 (.slice A n c) n (l.flatMap opC)) (hb:Below w.heap.size w w'):RetOps l w (.returned (.slice A n c)) w':=by
 subst hn;exact⟨A,c,rfl,Rd.own h,hb⟩
theorem infoOpr:(Tryz.prog.info? 44).map (fun i=>(i.zero,i.size,i.bytes))=some (some (.agg #[.int .i64 0, .int .i64 0, .int .i64 0, .string ⟨#[]⟩, .string ⟨#[]⟩]),5,56):=by kernel_rfl
theorem infoOp (x:Opn):(Tryz.prog.info? 44).map (·.size)=some (opC x).length:=by
 have:(Tryz.prog.info? 44).map (·.size)=some 5:=by kernel_rfl
 exact this
structure OpSt (F:Nat→List Opn) (w:World) (n j:Nat) (o:Value) (wr:World):Prop where
 le:j≤n
 own:wr.ownsRow w.heap.size 44 5 o (F j).length ((F j).flatMap opC)
 low:Below w.heap.size w wr
theorem OpSt.skip {F:Nat→List Opn} {w wr w3:World} {n j:Nat} {o:Value} (h:OpSt F w n j o wr) (hb:Below wr.heap.size wr w3) (hj:j<n) (hF:F (j+1)=F j):OpSt F w n (j+1) o w3:=
 ⟨hj,by rw [hF];exact ownsRow_below h.own hb,bon h.low hb⟩
theorem OpSt.more {F:Nat→List Opn} {w wr w3 w4:World} {n j:Nat} {o v':Value} {x:Opn} (h:OpSt F w n j o wr) (hb:Below wr.heap.size wr w3) (hj:j<n) (hF:F (j+1)=F j++ [x])
    (hown:w4.ownsRow w.heap.size 44 5 v' ((F j).length+1) ((F j).flatMap opC++opC x)) (hgr:w3.grownBy w4 o.ownBlock):OpSt F w n (j+1) v' w4:=
 ⟨hj,by rw [hF,List.length_append,List.flatMap_append];simpa using hown,below_grown (bon h.low hb) (bon h.low hb).size hgr (fun g hg=>(h.own.lt g hg).1)⟩
theorem OpSt.start (F:Nat→List Opn) (w:World) (n:Nat) (h0:F 0= []):OpSt F w n 0 (.slice none 0 0) w:=
 ⟨Nat.zero_le _,by rw [h0];exact World.ownsRow_nil _ _ _ _,Below.refl _ _⟩
set_option maxRecDepth 100000
set_option maxHeartbeats 2000000
open Go.RowKit
theorem row_max {w:World} {base e k n:Nat} {A:Option Addr} {c:Nat} {xs:List Value} (h:w.ownsRow base e k (.slice A n c) n xs):c≤9223372036854775807:=fo76
theorem infoPtr:(Tryz.prog.info? 40).map (fun i=>(i.zero,i.size,i.bytes))=some (some (.agg (ptC pt0).toArray),28,368):=by kernel_rfl
theorem ptsC_one (l:List Pt):∀u∈l.flatMap ptC,u.oneCell'=true:=by
 intro u hu;obtain⟨x,_,hx⟩:=List.mem_flatMap.1 hu;have h:=yG x;rw [List.all_toArray] at h;exact List.all_eq_true.1 h u hx
def RetPts (l:List Pt) (w:World) (e:Ending) (w':World):Prop:=∃A c,e= .returned (.slice A l.length c)∧w'.ownsRow w.heap.size 40 28 (.slice A l.length c) l.length (l.flatMap ptC)∧Below w.heap.size w w'
theorem RetPts.ret {l:List Pt} {w w':World} {n c:Nat} {A:Option Addr} (hn:n=l.length) (h:w'.ownsRow w.heap.size 40 28 (.slice A n c) n (l.flatMap ptC)) (hb:Below w.heap.size w w'):RetPts l w (.returned (.slice A n c)) w':=by
 subst hn;exact⟨A,c,rfl,h,hb⟩
theorem zdZ (A:Option Addr) (c:Nat) (l:List Pt) (w:World) (h:Rd w 28 A l.length (l.flatMap ptC)) (hn:l.length≤1048576) :
    Calls Tryz.prog 13 #[.slice A l.length c] w (RetPts l w):=by
 obtain⟨i0,hi,hz0,hz1,hz2⟩:=info_parts infoPtr;have HI:=hD hi;have HZ0:=hD hz0;have HZ1:=hD hz1;have HZ2:=hD hz2;have HR:=hD h;have HOne:=hD (ptsC_one l);have q22:∀(w:World) (a:Option Addr) (n c n' c':Nat),(binOp .eql 22 (.slice a n c) (.slice none n' c')).run Tryz.prog w= .ok (.bool a.isNone) w:=fun w a n c n' c'=>Lib.run_eql_slice_nil w _ _ a n c n' c' Tryz.underlying22
 clear hi hz0 hz1 hz2 h;cases A with
 |none=>
  have hl:l.length=0:=by
   by_cases hp:0<l.length
   · obtain⟨b,o,e,_⟩:=HR.out.cells (by rw [ZY ptC 28 Ye];omega);simp at e
   · omega
  obtain rfl:l= []:=List.eq_nil_of_length_eq_zero hl;clear hl;go_in;go_wp2_with fail;go_ret;exact RetPts.ret rfl (World.ownsRow_nil _ _ _ _) (Below.refl _ _)
 |some a=>
  have HO:=hD (World.ownsRow_lit (base:=w.heap.size) (e:=40) (size:=28) w #[] 0 (Nat.le_refl _) jd rfl);have hnews:∀j u,(l.flatMap ptC)[j]? =some u→(w.alloc (.cells #[] 40)).cell? (a.add j)=some u:=fun j u hu=>by
   have hj:j<(l.flatMap ptC).length:=(List.getElem?_eq_some_iff.1 hu).1;obtain⟨b,o,e,hb,hc⟩:=HR.out.cells ja;simp only [Option.some.injEq] at e;subst e;rw [add_plain'];exact((za w _).cell (p:=⟨b,o+j,none⟩) hb).trans (hc j u hu)
  have HN:=hD hnews;have HLen:=hD (ZY ptC 28 Ye l);clear hnews;go_in;go_wp2_with (at_builtin;refine wpList_append_own _ rfl _ _ 22 rfl w.heap.size 40 i0 _ 28 368 Tryz.underlying22 HI.out HZ0.out HZ1.out HZ2.out rfl jf _ 0 [] rfl HO.out a l.length c (l.flatMap ptC) rfl HLen.out HN.out HOne.out jw ja jd ?_);intro v' w2 hown' hgrow _;obtain⟨A,c2,hv⟩:=ownsRow_form hown';subst hv;have HO2:=hD hown';have HG2:=hD hgrow;clear hown' hgrow;go_wp2_with fail;go_ret;exact RetPts.ret rfl HO2.out (below_grown (za w _) jd HG2.out (fun g hg=>by simp [Value.ownBlock] at hg;omega))
theorem pts_own {l:List Pt} {w w':World} {A:Option Addr} {c base:Nat} (h:w'.ownsRow base 40 28 (.slice A l.length c) l.length (l.flatMap ptC)) (hok:∀x∈l,x.ok w) (hb:Below w.heap.size w w'):ZV w' A l∧l.length≤c∧c≤9223372036854775807:=
 ⟨⟨Rd.own h,fun x hx=>Pt.below (hok x hx) hb⟩,zbQ h,row_max h⟩
theorem draw_two (w:World) (a b:Nat):(w.drewN a).drewN b=w.drewN (a+b):=by
 first|rfl|simp [World.drewN,Nat.add_assoc]
theorem draws_below (w:World) (q:Nat):Below w.heap.size w (w.drewN q):=bdN (Below.refl _ _) q
theorem eqInOpn (x y:Opn) (w:World):(Op.equalIn 10000 44 (.agg #[.int .i64 x.client, .int .i64 x.first, .int .i64 x.last, .string ⟨x.op.toArray⟩, .string ⟨x.result.toArray⟩]) (.agg #[.int .i64 y.client, .int .i64 y.first, .int .i64 y.last, .string ⟨y.op.toArray⟩, .string ⟨y.result.toArray⟩])).run Tryz.prog w= .ok (decide (x=y)) w:=by
 have u3:=Tryz.underlying3;have u9:=Tryz.underlying9;have a3:=Tryz.isAgg3;have z3:=Tryz.sizeOf3;have a9:=Tryz.isAgg9;have z9:=Tryz.sizeOf9;have hp:Tryz.prog.stoodInHeld 44=false:=by kernel_rfl
 rw [show(10000:Nat)=9999+1 from rfl,run_equalIn_struct w 9999 44 _ _ jc hp];simp only [Program.fieldsOf,Tryz.underlying44];go_simp;obtain⟨a0,a1,a2,a3,a4⟩:=x;obtain⟨b0,b1,b2,b3,b4⟩:=y;by_cases h0:a0=b0 <;> by_cases h1:a1=b1 <;> by_cases h2:a2=b2 <;> by_cases h3:a3=b3 <;> by_cases h4:a4=b4 <;> simp [h0,h1,h2,h3,h4]
theorem neqOpn (x y:Opn) (w:World):(binOp .neq 44 (.agg #[.int .i64 x.client, .int .i64 x.first, .int .i64 x.last, .string ⟨x.op.toArray⟩, .string ⟨x.result.toArray⟩]) (.agg #[.int .i64 y.client, .int .i64 y.first, .int .i64 y.last, .string ⟨y.op.toArray⟩, .string ⟨y.result.toArray⟩])).run Tryz.prog w= .ok (.bool (!decide (x=y))) w:=by
 have h:=eqInOpn x y w;simp only [binOp];simp [Op.equal,Op.maxDepth,h]
theorem sameOps_any (A B:Option Addr) (c d:Nat) (l m:List Opn) (w:World) (h:Rd w 5 A l.length (l.flatMap opC)) (h2:Rd w 5 B m.length (m.flatMap opC)) (hf:l.length≤1099511627776) (hf2:m.length≤1099511627776) :
    Calls Tryz.prog 17 #[.slice A l.length c, .slice B m.length d] w fun e w'=>e= .returned (.bool (decide (l=m)))∧∃q,w'=w.drewN q:=by
 have HR:=hD h;have HS:=hD h2;clear h h2;by_cases hlen:l.length=m.length
 · have hlb:((l.length:Int) ==(m.length:Int))=true:=by rw [beq_iff_eq];omega
   have hlb2:((l.length:Int) !=(m.length:Int))=false:=by simp;omega
   have HLen:=hD hlen;clear hlen;go_in;go_wp2_with fail;go_loopw [5] (fun i wr=>∃k q:Nat,i= .int .i64 k∧k≤l.length∧l.take k=m.take k∧wr=w.drewN q) (fun i _=>l.length-(intOf i).toNat)
   case atStart=>exact⟨0,0,rfl,by omega,rfl,rfl⟩
   case round=>
    obtain⟨k,q,rfl,hk,htk,rfl⟩:=hrel;have HT:=hD htk;clear htk;have hle:=HLen.out;by_cases hlt:k<l.length
    · have i0:(0:Int)≤(k:Int):=by omega
      have i1:(k:Int) <(l.length:Int):=by omega
      have hlt2:k<m.length:=by omega
      have i2:(k:Int) <(m.length:Int):=by omega
      obtain⟨g,o,rfl,hg,hcc⟩:=HR.out.at opC_len ja hlt;obtain⟨g2,o2,rfl,hg2,hcc2⟩:=HS.out.at opC_len ja hlt2;have a0:=hcc w (Below.refl _ _) 0 _ rfl;have a1:=hcc w (Below.refl _ _) 1 _ rfl;have a2:=hcc w (Below.refl _ _) 2 _ rfl;have a3:=hcc w (Below.refl _ _) 3 _ rfl;have a4:=hcc w (Below.refl _ _) 4 _ rfl;have b0:=hcc2 w (Below.refl _ _) 0 _ rfl;have b1:=hcc2 w (Below.refl _ _) 1 _ rfl;have b2:=hcc2 w (Below.refl _ _) 2 _ rfl;have b3:=hcc2 w (Below.refl _ _) 3 _ rfl;have b4:=hcc2 w (Below.refl _ _) 4 _ rfl;simp only [Nat.add_zero] at a0 b0;have hn:=neqOpn l[k] m[k];clear hcc hcc2 hle;by_cases hx:l[k]=m[k]
      · have HY : Hid (l.take (k + 1) = m.take (k + 1)) := hD (by rw [List.take_succ_eq_append_getElem hlt, List.take_succ_eq_append_getElem hlt2, HT.out, hx]); rw [decide_eq_true hx] at hn; clear hx; go_wp2_with fail; go_quiet (fail); all_goals
         go_wp2_with fail;go_roundw
         case rel=>exact⟨k+1,q+nq,by go_num,by omega,HY.out,by first|rfl|exact draw_two _ _ _⟩
         case measure=>simp [intOf];omega
      · have HY:Hid (decide (l=m)=false):=hD (by
          rw [decide_eq_false_iff_not];rintro rfl;exact hx rfl)
        rw [decide_eq_false hx] at hn;clear hx;go_wp2_with fail;go_quiet (fail);all_goals
         go_wp2_with fail;go_ret;exact⟨YN HY.out.symm,q+nq,by first|rfl|exact draw_two _ _ _⟩
    · have HY:Hid (decide (l=m)=true):=hD (by
        rw [decide_eq_true_eq];have:=HT.out;rwa [List.take_of_length_le ja,List.take_of_length_le ja] at this)
      go_wp2_with fail;go_ret;exact⟨YN HY.out.symm,q,rfl⟩
 · have hlb:((l.length:Int) ==(m.length:Int))=false:=by rw [beq_eq_false_iff_ne];omega
   have hlb2:((l.length:Int) !=(m.length:Int))=true:=by simp;omega
   have HY:Hid (decide (l=m)=false):=hD (by
    rw [decide_eq_false_iff_not];rintro rfl;exact hlen rfl)
   clear hlen;go_in;go_wp2_with fail;go_ret;exact⟨YN HY.out.symm,0,rfl⟩
end Go.Proofs.YtepbbaifpckcpaaGreatDoor
