/- The contracts of the reader of tokens: next, number, text. -/
import Derived.Maps.Range
import Derived.Great.Walk
import Derived.Maps.RangeWalk
import Derived.Test.YtepbbaifpckcpaaGreatDoorFFo
import Derived.Test.YtepbbaifpckcpaaGreatDoorFPl
import Derived.Test.YtepbbaifpckcpaaGreatDoorFFa
import Derived.Test.YtepbbaifpckcpaaGreatDoorFSa
import Derived.Test.YtepbbaifpckcpaaGreatDoorFTrF
namespace Go.Proofs.YtepbbaifpckcpaaGreatDoor
set_option maxRecDepth 100000
set_option maxHeartbeats 2000000
open Go.RowKit
structure RdL (B:Nat) (w:World) (k:Nat) (A:Option Addr) (n:Nat) (xs:List Value):Prop where
 len:xs.length=n * k
 low:B≤w.heap.size
 cells:0<xs.length→∃b o,A=some ⟨b,o,none⟩∧b<B∧∀j u,xs[j]? =some u→w.cell? ⟨b,o+j,none⟩=some u
theorem RdL.of {w w':World} {B k n:Nat} {A:Option Addr} {xs:List Value} (h:Q06.Rd w k A n xs) (hb:Below w.heap.size w w') (hB:B=w.heap.size):RdL B w' k A n xs:=by
 subst hB;exact⟨h.len,hb.size,fun hj=>by
  obtain⟨b,o,e,hl,hc⟩:=h.cells hj;exact⟨b,o,e,hl,fun j u hu=>(hb.cell (p:=⟨b,o+j,none⟩) hl).trans (hc j u hu)⟩⟩
theorem RdL.below {w w':World} {B k n:Nat} {A:Option Addr} {xs:List Value} (h:RdL B w k A n xs) (hb:Below w.heap.size w w'):RdL B w' k A n xs:=
 ⟨h.len,Nat.le_trans h.low hb.size,fun hj=>by
  obtain⟨b,o,e,hl,hc⟩:=h.cells hj
  exact⟨b,o,e,hl,fun j u hu=>(hb.cell (p:=⟨b,o+j,none⟩) (Nat.lt_of_lt_of_le hl h.low)).trans (hc j u hu)⟩⟩
theorem RdL.grown {w w':World} {B k n g:Nat} {A:Option Addr} {xs:List Value} (h:RdL B w k A n xs) (hg:w.grownBy w' (some g)) (hB:B≤g):RdL B w' k A n xs:=
 ⟨h.len,Nat.le_trans h.low hg.size,fun hj=>by
  obtain⟨b,o,e,hl,hc⟩:=h.cells hj
  exact⟨b,o,e,hl,fun j u hu=>(hg.cell_far ⟨b,o+j,none⟩ (Nat.lt_of_lt_of_le hl h.low) jg).trans (hc j u hu)⟩⟩
theorem zd4 (t:Q06.Tok):(Q06.tokC t).length=5:=rfl
theorem RdL.tail {w:World} {B b o n:Nat} {t:Q06.Tok} {r:List Q06.Tok} (h:RdL B w 5 (some ⟨b,o,none⟩) (n+1) (Q06.toksC (t::r))):RdL B w 5 (some ⟨b,o+5,none⟩) n (Q06.toksC r):=by
 have hl:=h.len;refine⟨by simp [Q06.toksC,List.flatMap_cons,zd4] at hl⊢;omega,h.low,fun hj=> ?_⟩;obtain⟨b',o',e,hb,hc⟩:=h.cells (by rw [Q06.toksC_len,List.length_cons];omega);simp only [Option.some.injEq,Addr.mk.injEq,and_true] at e;obtain⟨rfl,rfl⟩:=e;refine⟨b,o+5,rfl,hb,fun j u hu=> ?_⟩;have:=hc (5+j) u (by
  show(Q06.tokC t++Q06.toksC r)[5+j]? =_;rw [List.getElem?_append_right (by rw [zd4];omega),zd4,show 5+j- 5=j from by omega];exact hu)
 rwa [←Nat.add_assoc] at this
theorem RdL.tail2 {w:World} {B b o c:Nat} {t:Q06.Tok} {r:List Q06.Tok} {A:Option Addr} (h:RdL B w 5 (some ⟨b,o,none⟩) (t::r).length (Q06.toksC (t::r))) (h1:c=1→r= []) (h2:c≠1→A=some ⟨b,o+5,none⟩):RdL B w 5 A r.length (Q06.toksC r):=by
 by_cases hc:c=1
 · rw [h1 hc];exact⟨rfl,h.low,fun hj=>absurd hj jf⟩
 · rw [h2 hc];exact RdL.tail h
structure Rk (B:Nat) (w:World) (g:Nat) (s:List Q06.Tok × Bool):Prop where
 le:B≤g
 blk:∃A c,Vr w g [.slice A s.1.length c, .bool s.2]∧RdL B w 5 A s.1.length (Q06.toksC s.1)∧s.1.length≤c∧c≤9223372036854775807
theorem Rk.below {w w':World} {B g:Nat} {s:List Q06.Tok × Bool} (h:Rk B w g s) (hb:Below w.heap.size w w'):Rk B w' g s:=by
 obtain⟨A,c,hv,hr,hc⟩:=h.blk;exact⟨h.le,A,c,hv.below hb,hr.below hb,hc⟩
theorem Rk.grown {w w':World} {B g b:Nat} {s:List Q06.Tok × Bool} (h:Rk B w g s) (hg:w.grownBy w' (some b)) (hB:B≤b) (hne:g≠b):Rk B w' g s:=by
 obtain⟨A,c,hv,hr,hc⟩:=h.blk;exact⟨h.le,A,c,hv.grown hg hne,hr.grown hg hB,hc⟩
theorem Rk.lt {w:World} {B g:Nat} {s:List Q06.Tok × Bool} (h:Rk B w g s):g<w.heap.size:=by
 obtain⟨A,c,hv, -⟩:=h.blk;exact hv.lt
theorem Rk.bad {w:World} {B g:Nat} {s:List Q06.Tok × Bool} (h:Rk B w g s):Rk B (w.setCell ⟨g,1,none⟩ (.bool true)) g (s.1,true):=by
 obtain⟨A,c,hv,hr,hc⟩:=h.blk;exact⟨h.le,A,c,hv.set 1 (.bool true),hr.grown (zb w ⟨g,1,none⟩ _) h.le,hc⟩
theorem Rk.setBad {w:World} {B g:Nat} {s:List Q06.Tok × Bool} (h:Rk B w g s) (b:Bool):Rk B (w.setCell ⟨g,1,none⟩ (.bool b)) g (s.1,b):=by
 obtain⟨A,c,hv,hr,hc⟩:=h.blk;exact⟨h.le,A,c,hv.set 1 (.bool b),hr.grown (zb w ⟨g,1,none⟩ _) h.le,hc⟩
def RetTk (B:Nat) (k:Int) (g:Nat) (s:List Q06.Tok × Bool) (w:World) (e:Ending) (w':World):Prop:=
 e= .returned (.agg (Q06.tokC (nxt k s).1).toArray)∧w.grownBy w' (some g)∧Rk B w' g (nxt k s).2
theorem zdg (t:Q06.Tok):(Tryz.prog.info? 117).map (·.size)=some (Q06.tokC t).length:=by
 have:(Tryz.prog.info? 117).map (·.size)=some 5:=by kernel_rfl
 exact this
theorem zdI (t:Q06.Tok):(Q06.tokC t).toArray.all (·.oneCell')=true:=by simp [Q06.tokC,Q06.tokA,Value.oneCell']
theorem nxt_miss (k:Int) (t:Q06.Tok) (r:List Q06.Tok) (b:Bool) (h:t.kind≠k):nxt k (t::r,b)=(Q06.tok0,t::r,true):=by
 show(if t.kind=k then _ else _)=_;rw [if_neg h]
theorem gr_own {w w1 w2:World} {g b:Nat} (h:w.grownBy w1 (some g)) (k:w1.grownBy w2 (some b)) (hb:w.heap.size≤b):w.grownBy w2 (some g):=
 h.andThen k (fun j hj=>by cases hj;exact Or.inl hb)
theorem Rk.off {w:World} {B g b:Nat} {s:List Q06.Tok × Bool} (h:Rk B w g s) {vs:List Value} (hg:g<b):Rk B (w.setCells b 0 vs) g s:=h.grown (zf (b:=b) vs) (by have:=h.le;omega) ja
theorem zcH (B:Nat) (k:Int) (g:Nat) (s:List Q06.Tok × Bool) (w:World) (h:Rk B w g s) :
    Calls Tryz.prog 85 #[.pointer (some ⟨g,0,none⟩), .int .i64 k] w (RetTk B k g s w):=by
 have HG:Hid (g<w.heap.size):=hD h.lt;have HB1:=hD (za w (.cells (Q06.tokC Q06.tok0).toArray 117));have HK1:=hD (h.below HB1.out);have HT1:=hD (Vr.new w (Q06.tokC Q06.tok0) 117);have HZ1:Hid ((w.alloc (.cells (Q06.tokC Q06.tok0).toArray 117)).heap.size=w.heap.size+1):=hD jd;clear h;go_in;go_upto_region 1 with fail;change Code.wp _ _ _ _ (w.alloc (.cells (Q06.tokC Q06.tok0).toArray 117));generalize w.alloc (.cells (Q06.tokC Q06.tok0).toArray 117)=w1 at HB1 HK1 HT1 HZ1⊢;have HEnd:Hid (∀(ts:List Q06.Tok) (bd:Bool),s=(ts,bd)→nxt k s=(Q06.tok0,ts,true)→RetTk B k g s w (.returned (.agg (Q06.tokC Q06.tok0).toArray)) ((w1.setCell ⟨g,1,none⟩ (.bool true)).setCells w.heap.size 0 (Q06.tokC Q06.tok0))):=hD (fun ts bd hs hn=>by
  refine⟨by rw [hn],gr_own ((yY HB1.out _).trans (zb w1 ⟨g,1,none⟩ _)) (zf _) (Nat.le_refl _), ?_⟩;rw [hn];have hk:=HK1.out.bad;rw [hs] at hk;exact hk.off HG.out)
 obtain⟨ts,bd⟩:=s;obtain⟨A,c,hv,hr,hc1,hc2⟩:=HK1.out.blk;have c0:=hv.cells 0 _ rfl;have c1:=hv.cells 1 _ rfl;have f0:=hv.free 0 jd;have f1:=hv.free 1 jd;have lt:=hv.lt;have HT2:Hid (Vr (w1.setCell ⟨g,1,none⟩ (.bool true)) w.heap.size (Q06.tokC Q06.tok0)):=hD (HT1.out.grown (zb w1 ⟨g,1,none⟩ _) (by show w.heap.size≠g;have:=HG.out;omega));have HR:=hD hr;have HVg:=hD hv;clear hv hr;simp only at c0 c1 hc1 hc2;cases ts with
 |nil=>
  simp only [List.length_nil] at c0 hc1;go_wp2_with (first
   |(refine wpList_buildTo rfl 117 _ rfl _ rfl (Q06.tokC Q06.tok0).toArray ?_ ?_;· kernel_rfl)
   |(refine wpList_store_mid rfl 117 _ _ rfl w.heap.size 0 (Q06.tokC Q06.tok0).toArray rfl rfl (HT2.out.there rfl) (zdg _) (zdI _) ?_))
  try simp only [List.toList_toArray]
  refine bodyPost_ret (v:= .agg (Q06.tokC Q06.tok0).toArray) ?_ rfl (HEnd.out [] bd rfl rfl);exact fo133
 |cons t r=>
  obtain⟨n,hn⟩:∃n,n=(t::r).length:=⟨_,rfl⟩;have HRr:=HR.out;have hvg:=HVg.out;simp only at hvg;rw [←hn] at c0 hc1 hvg;have HVn:=hD hvg;clear hvg;have hn0:0<n:=by rw [hn];simp
  have hnr:n=r.length+1:=by rw [hn];simp
  have HNr:=hD hnr;obtain⟨b,o,hA,hb,hcc⟩:=HRr.cells (by rw [Q06.toksC_len,List.length_cons];omega);subst hA;have HRow:Hid (w1.rangeAt b o (Q06.tokC t)):=hD (fun j u hu=>hcc j u (by
   show(Q06.tokC t++Q06.toksC r)[j]? =_;rw [List.getElem?_append_left (List.getElem?_eq_some_iff.1 hu).1];exact hu))
  have d0:w1.cell? ⟨b,o,none⟩=some (.int .i64 t.kind):=HRow.out 0 _ rfl;clear hn hnr HRr hcc;have q0:((n:Int) == 0)=false:=by rw [beq_eq_false_iff_ne];omega
  have q1:(0:Int) <(n:Int):=by omega
  by_cases hk:t.kind=k
  · have k1:(t.kind == k)=true:=by simpa using hk
    have k2:(t.kind != k)=false:=by simp [hk]
    have HN:=hD (zen k t r bd hk);clear hk;have HX0:=hD (Vr.new w1 (Q06.tokC Q06.tok0) 117);have HX:=hD (HX0.out.sets (Q06.tokC t) rfl);have HBn:=hD (zh (za w1 (.cells (Q06.tokC Q06.tok0).toArray 117)) (zf (b:=w1.heap.size) (Q06.tokC t)) (Nat.le_refl _));have HG1:Hid (g<w1.heap.size):=hD lt;go_upto_region 5 with(first
     |(refine wpList_load_mid rfl 117 _ rfl b o rfl (Q06.tokC t) _ HRow.out Tryz.underlying117 rfl (zdg t) ?_)
     |(refine wpList_store_mid rfl 117 _ _ rfl w1.heap.size 0 (Q06.tokC t).toArray rfl rfl (HX0.out.there rfl) (zdg t) (zdI t) ?_))
    try simp only [List.toList_toArray]
    change Code.wp _ _ _ _ ((w1.alloc (.cells (Q06.tokC Q06.tok0).toArray 117)).setCells w1.heap.size 0 (Q06.tokC t));generalize (w1.alloc (.cells (Q06.tokC Q06.tok0).toArray 117)).setCells w1.heap.size 0 (Q06.tokC t)=w2 at HX HBn⊢;generalize w1.heap.size=q5 at HX HG1⊢;clear HX0 c0 c1 f0 f1 lt d0 HRow;have HK2:=hD (HK1.out.below HBn.out);have HT3:=hD (HT1.out.below HBn.out);have HVn2:=hD (HVn.out.below HBn.out);have c0:=HVn2.out.cells 0 _ rfl;have f0:=HVn2.out.free 0 jd;have lt:=HVn2.out.lt;go_upto_region 6 with fail;obtain⟨A5,hA5⟩:∃A5,A5=if c=1 then some (⟨b,o,none⟩:Addr) else some (⟨b,o+5,none⟩:Addr):=⟨_,rfl⟩
    rw [←hA5];have HR2:=hD (HR.out.below HBn.out);have HRk:Hid (Rk B (w2.setCell ⟨g,0,none⟩ (.slice A5 (n- 1) (c- 1))) g (r,bd)):=hD (by
     have hn:=HNr.out;have hv:=(HVn2.out.set 0 (.slice A5 (n- 1) (c- 1))).eq (cs':= [.slice A5 r.length (c- 1), .bool bd]) (by rw [hn];rfl);refine⟨HK1.out.le,A5,c- 1,hv,(RdL.tail2 HR2.out (fun h1=> ?_) (fun h1=>by rw [hA5,if_neg h1])).grown (zb w2 ⟨g,0,none⟩ _) HK1.out.le,by show r.length≤_;omega,by omega⟩;exact List.eq_nil_of_length_eq_zero ja)
    have HX3:=hD (HX.out.grown (zb w2 ⟨g,0,none⟩ (.slice A5 (n- 1) (c- 1))) (by have:=HG1.out;show q5≠g;omega));have HT4:=hD (HT3.out.grown (zb w2 ⟨g,0,none⟩ (.slice A5 (n- 1) (c- 1))) (by have:=HG.out;show w.heap.size≠g;omega));have HGr:=hD ((yY (bon HB1.out HBn.out) (some g)).trans (zb w2 ⟨g,0,none⟩ (.slice A5 (n- 1) (c- 1))));clear c0 f0 lt hA5 HR2 HVn2 HT3 HK2;generalize w2.setCell ⟨g,0,none⟩ (.slice A5 (n- 1) (c- 1))=w3 at HRk HX3 HT4 HGr⊢;go_wp2_with (first
     |(refine wpList_load_mid rfl 117 _ rfl q5 0 rfl (Q06.tokC t) _ HX3.out.range Tryz.underlying117 rfl (zdg t) ?_)
     |(refine wpList_store_mid rfl 117 _ _ rfl w.heap.size 0 (Q06.tokC t).toArray rfl rfl (HT4.out.there rfl) (zdg t) (zdI t) ?_))
    try simp only [List.toList_toArray]
    refine bodyPost_ret (v:= .agg (Q06.tokC t).toArray) ?_ rfl ?_
    · exact zS Tryz.results85 _ _ w.heap.size (Q06.tokC t) _ rfl (HT4.out.sets (Q06.tokC t) rfl).range Tryz.underlying117 rfl (zdg _)
    · refine⟨by rw [HN.out],gr_own HGr.out (zf _) (Nat.le_refl _), ?_⟩;rw [HN.out];exact HRk.out.off HG.out
  · have k1:(t.kind == k)=false:=by simpa using hk
    have k2:(t.kind != k)=true:=by simpa using hk
    have HN:=hD (nxt_miss k t r bd hk);clear hk;go_wp2_with (first
     |(refine wpList_buildTo rfl 117 _ rfl _ rfl (Q06.tokC Q06.tok0).toArray ?_ ?_;· kernel_rfl)
     |(refine wpList_store_mid rfl 117 _ _ rfl w.heap.size 0 (Q06.tokC Q06.tok0).toArray rfl rfl (HT2.out.there rfl) (zdg _) (zdI _) ?_))
    try simp only [List.toList_toArray]
    refine bodyPost_ret (v:= .agg (Q06.tokC Q06.tok0).toArray) ?_ rfl (HEnd.out (t::r) bd rfl HN.out);exact fo133
theorem tokC_arr (t:Q06.Tok):(Q06.tokC t).toArray=#[.int .i64 t.kind, .string ⟨t.text.toArray⟩, .int .i64 t.int, .string ⟨t.str.toArray⟩, .int .i64 t.line]:=rfl
theorem tok_f1 (t:Q06.Tok) (W:World):(Instr.field 117 (.agg #[.int .i64 t.kind, .string ⟨t.text.toArray⟩, .int .i64 t.int, .string ⟨t.str.toArray⟩, .int .i64 t.line]) 1).run Tryz.prog W= .ok (.string ⟨t.text.toArray⟩) W:=by kernel_rfl
theorem tok_f2 (t:Q06.Tok) (W:World):(Instr.field 117 (.agg #[.int .i64 t.kind, .string ⟨t.text.toArray⟩, .int .i64 t.int, .string ⟨t.str.toArray⟩, .int .i64 t.line]) 2).run Tryz.prog W= .ok (.int .i64 t.int) W:=by kernel_rfl
theorem tok_f3 (t:Q06.Tok) (W:World):(Instr.field 117 (.agg #[.int .i64 t.kind, .string ⟨t.text.toArray⟩, .int .i64 t.int, .string ⟨t.str.toArray⟩, .int .i64 t.line]) 3).run Tryz.prog W= .ok (.string ⟨t.str.toArray⟩) W:=by kernel_rfl
def RetRk (v:Value) (B:Nat) (g:Nat) (s:List Q06.Tok × Bool) (w:World) (e:Ending) (w':World):Prop:=
 e= .returned v∧w.grownBy w' (some g)∧Rk B w' g s
theorem rdNum_any (B:Nat) (g:Nat) (s:List Q06.Tok × Bool) (w:World) (h:Rk B w g s) :
    Calls Tryz.prog 84 #[.pointer (some ⟨g,0,none⟩)] w (RetRk (.int .i64 (nxt 2 s).1.int) B g (nxt 2 s).2 w):=by
 have HN:=hD (zcH B 2 g s w h);clear h;go_in;go_wp2_with fail;refine HN.out.mono ?_;rintro e w1 ⟨rfl,hg,hk⟩;have H:=hD (And.intro hg hk);clear hg hk HN;rw [tokC_arr];have hfd:=tok_f2 (nxt 2 s).1;go_wp2_with fail;go_ret;exact⟨rfl,H.out.1,H.out.2⟩
theorem rdTxt_any (B:Nat) (g:Nat) (s:List Q06.Tok × Bool) (w:World) (h:Rk B w g s) :
    Calls Tryz.prog 86 #[.pointer (some ⟨g,0,none⟩)] w (RetRk (.string ⟨(nxt 3 s).1.str.toArray⟩) B g (nxt 3 s).2 w):=by
 have HN:=hD (zcH B 3 g s w h);clear h;go_in;go_wp2_with fail;refine HN.out.mono ?_;rintro e w1 ⟨rfl,hg,hk⟩;have H:=hD (And.intro hg hk);clear hg hk HN;rw [tokC_arr];have hfd:=tok_f3 (nxt 3 s).1;go_wp2_with fail;go_ret;exact⟨rfl,H.out.1,H.out.2⟩
open Go.RowKit
structure Ps (w:World) (B g q:Nat) (s:List Q06.Tok × Bool) (x:Pt) (W:World):Prop where
 rd:Rk B W g s
 pt:Vr W q (ptC x)
 res:Vr W w.heap.size (ptC pt0)
 low:Below w.heap.size w W
 o1:w.heap.size<g
 o2:g<q
section
variable {w W W' : World} {B g q : Nat} {s s' : List Q06.Tok × Bool} {x y : Pt}
theorem Ps.call (h:Ps w B g q s x W) (hg:W.grownBy W' (some g)) (hr:Rk B W' g s'):Ps w B g q s' x W':=
 ⟨hr,h.pt.grown hg (by have:=h.o2;omega),h.res.grown hg (by have:=h.o1;omega),zh h.low hg (by have:=h.o1;omega),h.o1,h.o2⟩
theorem Ps.far (h:Ps w B g q s x W) {r:Nat} (hg:W.grownBy W' (some r)) (hr:q<r):Ps w B g q s x W':=
 ⟨h.rd.grown hg (by have:=h.rd.le;have:=h.o2;omega) (by have:=h.o2;omega),h.pt.grown hg ja,h.res.grown hg jbo,zh h.low hg jbo,h.o1,h.o2⟩
theorem Ps.below (h:Ps w B g q s x W) (hb:Below W.heap.size W W'):Ps w B g q s x W':=
 ⟨h.rd.below hb,h.pt.below hb,h.res.below hb,bon h.low hb,h.o1,h.o2⟩
theorem Ps.setx (h:Ps w B g q s x W) (i:Nat) (v:Value) (e:(ptC x).set i v=ptC y):Ps w B g q s y (W.setCell ⟨q,i,none⟩ v):=
 ⟨h.rd.grown (zb W ⟨q,i,none⟩ v) (by have:=h.rd.le;have:=h.o2;show B≤q;omega) (by have:=h.o2;show g≠q;omega),(h.pt.set i v).eq e,
  h.res.grown (zb W ⟨q,i,none⟩ v) (by have:=h.o1;have:=h.o2;show w.heap.size≠q;omega),zh h.low (zb W ⟨q,i,none⟩ v) (by have:=h.o1;have:=h.o2;show w.heap.size≤q;omega),h.o1,h.o2⟩
theorem Ps.bad (h:Ps w B g q s x W) (b:Bool):Ps w B g q (s.1,b) x (W.setCell ⟨g,1,none⟩ (.bool b)):=h.call (zb W ⟨g,1,none⟩ (.bool b)) (h.rd.setBad b)
theorem Ps.setMsg (h:Ps w B g q s x W) (m:Ms):Ps w B g q s {x with msg:=m} (W.setCells q 7 (msC m)):=by
 refine⟨h.rd.grown (zV (b:=q) (o:=7) (msC m)) (by have:=h.rd.le;have:=h.o2;omega) (by have:=h.o2;omega), ?_,
  h.res.grown (zV (b:=q) (o:=7) (msC m)) jbo,zh h.low (zV (b:=q) (o:=7) (msC m)) jbo,h.o1,h.o2⟩
 refine(Vr.mid h.pt 7 (msC m) (by rw [zeA,Ye];omega)).eq ?_;rfl
end
theorem zaG {w W:World} {B g q:Nat} {s:List Q06.Tok × Bool} {x:Pt} (h:Ps w B g q s x W):Calls Tryz.prog 84 #[.pointer (some ⟨g,0,none⟩)] W
    fun e W'=>e= .returned (.int .i64 (nxt 2 s).1.int)∧Ps w B g q (nxt 2 s).2 x W':=
 (rdNum_any B g s W h.rd).mono fun _ _ ⟨he,hg,hk⟩=>⟨he,h.call hg hk⟩
theorem zc3 {w W:World} {B g q:Nat} {s:List Q06.Tok × Bool} {x:Pt} (h:Ps w B g q s x W):Calls Tryz.prog 86 #[.pointer (some ⟨g,0,none⟩)] W
    fun e W'=>e= .returned (.string ⟨(nxt 3 s).1.str.toArray⟩)∧Ps w B g q (nxt 3 s).2 x W':=
 (rdTxt_any B g s W h.rd).mono fun _ _ ⟨he,hg,hk⟩=>⟨he,h.call hg hk⟩
/-! the range over the words: the kind that has been found, by what is still to come -/
def Yq (left:Lit→Bool) (wd:List UInt8):Int:=if kindOf wd=0 then 0 else if left (.int .i64 (kindOf wd)) then 0 else kindOf wd
theorem kindOf_range (wd:List UInt8):0≤kindOf wd∧kindOf wd≤8:=by
 unfold kindOf;repeat' split
 all_goals omega
theorem ze1 (wd:List UInt8):Yq (Maps.has zah) wd=0:=by
 unfold Yq;split
 · rfl
 · next h=>
   have:=kindOf_range wd;rw [words_has,show isKind (kindOf wd)=true from by simp only [isKind,Bool.and_eq_true,decide_eq_true_eq];omega];rfl
theorem kindDone_end {left:Lit→Bool} {wd:List UInt8} (h:∀kl,left kl=false):Yq left wd=kindOf wd:=by
 unfold Yq;rw [h];split
 · next h=>exact h.symm
 · rfl
theorem word_of_kind {wd:List UInt8} (h:kindOf wd≠0):wd=yj (kindOf wd):=by
 unfold kindOf at h⊢;repeat' split
 all_goals first
  |assumption
  |(exfalso;revert h;simp_all)
theorem words_out {k:Int} (h:isKind k=false) (z:DataW Unit):zah.atKey (.int .i64 k) z=z:=by
 simp only [isKind,Bool.and_eq_false_iff,decide_eq_false_iff_not] at h;simp only [zah,DataW.atKey,List.find?_cons,List.find?_nil,zaU];rw [decide_eq_false (fun e:1=k=>by omega),decide_eq_false (fun e:2=k=>by omega),decide_eq_false (fun e:3=k=>by omega),decide_eq_false (fun e:4=k=>by omega),decide_eq_false (fun e:5=k=>by omega),decide_eq_false (fun e:6=k=>by omega),decide_eq_false (fun e:7=k=>by omega),decide_eq_false (fun e:8=k=>by omega)]
theorem words_entry {k:Int} {c:List UInt8} (h:∀zd,zah.atKey (.int .i64 k) zd= .lit (.string c)):1≤k∧k≤8∧c=yj k:=by
 have hk:isKind k=true:=by
  cases hk:isKind k with
  |true=>rfl
  |false=>
   have h1:=h (.lit (.string []));have h2:=h (.lit (.string [0]));rw [words_out hk] at h1 h2;simp only [DataW.lit.injEq,Lit.string.injEq] at h1 h2;rw [←h2] at h1;cases h1
 have h1:=h (.lit (.string []));rw [words_at] at h1;simp only [DataW.lit.injEq,Lit.string.injEq] at h1;simp only [isKind,Bool.and_eq_true,decide_eq_true_eq] at hk;exact⟨hk.1,hk.2,h1.symm⟩
theorem kindDone_hit {left:Lit→Bool} {k:Int} (h1:1≤k) (h8:k≤8):Yq (fun z=>left z && !z.sameKey (.int .i64 k)) (yj k)=k:=by
 unfold Yq;rw [zeQ k h1 h8,if_neg ja];simp [zaU]
theorem kindDone_miss {left:Lit→Bool} {k:Int} {wd:List UInt8} (h:yj k≠wd):Yq (fun z=>left z && !z.sameKey (.int .i64 k)) wd=Yq left wd:=by
 unfold Yq;by_cases h0:kindOf wd=0
 · rw [if_pos h0,if_pos h0]
 · rw [if_neg h0,if_neg h0];have hne:kindOf wd≠k:=fun e=>h (by rw [←e];exact(word_of_kind h0).symm)
   simp [zaU,hne]
end Go.Proofs.YtepbbaifpckcpaaGreatDoor
