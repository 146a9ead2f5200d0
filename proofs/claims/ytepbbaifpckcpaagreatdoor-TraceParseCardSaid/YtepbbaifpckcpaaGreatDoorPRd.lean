/- The contracts of the reader of tokens: next, number, text. -/
import Derived.Test.YtepbbaifpckcpaaGreatDoorPFa
open Go.Proofs.Tryz
namespace Go.Proofs.YtepbbaifpckcpaaGreatDoor
set_option maxRecDepth 100000
set_option maxHeartbeats 2000000
open Go.RowKit
structure RdL (B:Nat) (w:World) (k:Nat) (A:Option Addr) (n:Nat) (xs:List Value):Prop where
 len:xs.length=n * k
 low:B≤w.heap.size
 cells:0<xs.length→∃b o,A=some ⟨b,o,none⟩∧b<B∧∀j u,xs[j]? =some u→w.cell? ⟨b,o+j,none⟩=some u
variable{xs:List Value}{b k n o:Nat}{A:Option Addr}{w':World}
theorem RdL.of{w:World}{B:Nat}(h:Q06.Rd w k A n xs)(hb:Below w.heap.size w w')(hB:B=w.heap.size):RdL B w' k A n xs:=by
 subst hB;exact⟨h.len,hb.size,fun hj=>by
  obtain⟨b,o,e,hl,hc⟩:=h.cells hj;exact⟨b,o,e,hl,fun j u hu=>(hb.cell (p:=⟨b,o+j,none⟩) hl).trans (hc j u hu)⟩⟩
theorem RdL.below{w:World}{B:Nat}(h:RdL B w k A n xs)(hb:Below w.heap.size w w'):RdL B w' k A n xs:=
 ⟨h.len,ah h.low hb.size,fun hj=>by
  obtain⟨b,o,e,hl,hc⟩:=h.cells hj
  exact⟨b,o,e,hl,fun j u hu=>(hb.cell (p:=⟨b,o+j,none⟩) (aN hl h.low)).trans (hc j u hu)⟩⟩
theorem RdL.grown{w:World}{B g:Nat}(h:RdL B w k A n xs)(hg:w.grownBy w' (some g))(hB:B≤g):RdL B w' k A n xs:=
 ⟨h.len,ah h.low hg.size,fun hj=>by
  obtain⟨b,o,e,hl,hc⟩:=h.cells hj
  exact⟨b,o,e,hl,fun j u hu=>(hg.cell_far ⟨b,o+j,none⟩ (aN hl h.low) jg).trans (hc j u hu)⟩⟩
theorem zcV(t:Q06.Tok):(Q06.tokC t).length=5:=rfl
theorem RdL.tail{w:World}{B:Nat}{t:Q06.Tok}{r:List Q06.Tok}(h:RdL B w 5 (some ⟨b,o,none⟩) (n+1) (Q06.toksC (t::r))):RdL B w 5 (some ⟨b,o+5,none⟩) n (Q06.toksC r):=by
 have hl:=h.len;refine⟨by simp[Q06.toksC,zcV]at hl⊢;omega,h.low,fun hj=> ?_⟩;obtain⟨b',o',e,hb,hc⟩:=h.cells (by rw[Q06.toksC_len,au];omega);simp only[ax,cZ,fA]at e;obtain⟨rfl,rfl⟩:=e;refine⟨b,o+5,rfl,hb,fun j u hu=> ?_⟩;have:=hc (5+j) u (by
  show(Q06.tokC t++Q06.toksC r)[5+j]? =_;rw[dM (by rw[zcV];omega),zcV,show 5+j- 5=j from by omega];exact hu)
 rwa[←bZ]at this
theorem RdL.tail2{w:World}{B c:Nat}{t:Q06.Tok}{r:List Q06.Tok}(h:RdL B w 5 (some ⟨b,o,none⟩) (t::r).length (Q06.toksC (t::r)))(h1:c=1→r=[])(h2:c≠1→A=some ⟨b,o+5,none⟩):RdL B w 5 A r.length (Q06.toksC r):=by
 by_cases hc:c=1
 · rw[h1 hc];exact⟨rfl,h.low,fun hj=>absurd hj jf⟩
 · rw[h2 hc];exact RdL.tail h
structure Rk (B:Nat) (w:World) (g:Nat) (s:List Q06.Tok × Bool):Prop where
 le:B≤g
 blk:∃A c,Vr w g [.slice A s.1.length c,.bool s.2]∧RdL B w 5 A s.1.length (Q06.toksC s.1)∧s.1.length≤c∧c≤9223372036854775807
theorem Rk.below{w:World}{B g:Nat}{s:List Q06.Tok × Bool}(h:Rk B w g s)(hb:Below w.heap.size w w'):Rk B w' g s:=by
 obtain⟨A,c,hv,hr,hc⟩:=h.blk;exact⟨h.le,A,c,hv.below hb,hr.below hb,hc⟩
theorem Rk.grown{w:World}{B g:Nat}{s:List Q06.Tok × Bool}(h:Rk B w g s)(hg:w.grownBy w' (some b))(hB:B≤b)(hne:g≠b):Rk B w' g s:=by
 obtain⟨A,c,hv,hr,hc⟩:=h.blk;exact⟨h.le,A,c,hv.grown hg hne,hr.grown hg hB,hc⟩
theorem Rk.lt{w:World}{B g:Nat}{s:List Q06.Tok × Bool}(h:Rk B w g s):g<w.heap.size:=by
 obtain⟨A,c,hv, -⟩:=h.blk;exact hv.lt
theorem Rk.bad{w:World}{B g:Nat}{s:List Q06.Tok × Bool}(h:Rk B w g s):Rk B (w.setCell ⟨g,1,none⟩ (.bool true)) g (s.1,true):=by
 obtain⟨A,c,hv,hr,hc⟩:=h.blk;exact⟨h.le,A,c,hv.set 1 (.bool true),hr.grown (ze w ⟨g,1,none⟩ _) h.le,hc⟩
theorem Rk.setBad{w:World}{B g:Nat}{s:List Q06.Tok × Bool}(h:Rk B w g s)(b:Bool):Rk B (w.setCell ⟨g,1,none⟩ (.bool b)) g (s.1,b):=by
 obtain⟨A,c,hv,hr,hc⟩:=h.blk;exact⟨h.le,A,c,hv.set 1 (.bool b),hr.grown (ze w ⟨g,1,none⟩ _) h.le,hc⟩
def RetTk(B:Nat)(k:Int)(g:Nat)(s:List Q06.Tok × Bool)(w:World)(e:Ending)(w':World):Prop:=
 e= .returned (.agg (Q06.tokC (nxt k s).1).toArray)∧w.grownBy w' (some g)∧Rk B w' g (nxt k s).2
theorem zd5(t:Q06.Tok):(prog.info? 117).map (·.size)=some (Q06.tokC t).length:=by
 have:(prog.info? 117).map (·.size)=some 5:=by kernel_rfl
 exact this
theorem zet(t:Q06.Tok):(Q06.tokC t).toArray.all (·.oneCell')=true:=by simp[Q06.tokC,Q06.tokA,Value.oneCell']
theorem nxt_miss(k:Int)(t:Q06.Tok)(r:List Q06.Tok)(b:Bool)(h:t.kind≠k):nxt k (t::r,b)=(Q06.tok0,t::r,true):=by
 show(if t.kind=k then _ else _)=_;rw[aa h]
theorem gr_own{w w1 w2:World}{g:Nat}(h:w.grownBy w1 (some g))(k:w1.grownBy w2 (some b))(hb:w.heap.size≤b):w.grownBy w2 (some g):=
 h.andThen k (fun j hj=>by cases hj;exact Or.inl hb)
theorem Rk.off{w:World}{B g:Nat}{s:List Q06.Tok × Bool}(h:Rk B w g s){vs:List Value}(hg:g<b):Rk B (w.setCells b 0 vs) g s:=h.grown (zb (b:=b) vs) (by have:=h.le;omega) ja
theorem zdw(B:Nat)(k:Int)(g:Nat)(s:List Q06.Tok × Bool)(w:World)(h:Rk B w g s) :
    Calls prog 85 #[.pointer (some ⟨g,0,none⟩),k] w (RetTk B k g s w):=by
 have HG:Hid (g<w.heap.size):=hD h.lt;have HB1:=hD (za w (.cells (Q06.tokC Q06.tok0).toArray 117));have HK1:=hD (h.below HB1);have HT1:=hD (Vr.new w (Q06.tokC Q06.tok0) 117);have HZ1:Hid ((w.alloc (.cells (Q06.tokC Q06.tok0).toArray 117)).heap.size=w.heap.size+1):=hD jc;clear h;go_in;go_upto_region 1 with fail;change Code.wp _ _ _ _ (w.alloc (.cells (Q06.tokC Q06.tok0).toArray 117));generalize w.alloc (.cells (Q06.tokC Q06.tok0).toArray 117)=w1 at HB1 HK1 HT1 HZ1⊢;have HEnd:Hid (∀(ts:List Q06.Tok) (bd:Bool),s=(ts,bd)→nxt k s=(Q06.tok0,ts,true)→RetTk B k g s w (.returned (.agg (Q06.tokC Q06.tok0).toArray)) ((w1.setCell ⟨g,1,none⟩ (.bool true)).setCells w.heap.size 0 (Q06.tokC Q06.tok0))):=hD (fun ts bd hs hn=>by
  refine⟨by rw[hn],gr_own ((Zm HB1 _).trans (ze w1 ⟨g,1,none⟩ _)) (zb _) (ag _),?_⟩;rw[hn];have hk:=HK1.bad;rw[hs]at hk;exact hk.off HG)
 obtain⟨ts,bd⟩:=s;obtain⟨A,c,hv,hr,hc1,hc2⟩:=HK1.blk;have c0:=hv.cells 0 _ rfl;have c1:=hv.cells 1 _ rfl;have f0:=hv.free 0 jc;have f1:=hv.free 1 jc;have lt:=hv.lt;have HT2:Hid (Vr (w1.setCell ⟨g,1,none⟩ (.bool true)) w.heap.size (Q06.tokC Q06.tok0)):=hD (HT1.grown (ze w1 ⟨g,1,none⟩ _) (by show w.heap.size≠g;have:=HG.out;omega));have HR:=hD hr;have HVg:=hD hv;clear hv hr;simp only at c0 c1 hc1 hc2;cases ts with
 |nil=>
  simp only[aJ]at c0 hc1;go_wp2_with (first
   |(refine bV rfl 117 _ rfl _ rfl (Q06.tokC Q06.tok0).toArray ?_ ?_;· kernel_rfl)
   |(refine ai rfl 117 _ _ rfl w.heap.size 0 (Q06.tokC Q06.tok0).toArray rfl rfl (HT2.there rfl) (zd5 _) (zet _) ?_))
  try simp only[ay]
  refine aj (v:= .agg (Q06.tokC Q06.tok0).toArray) ?_ rfl (HEnd [] bd rfl rfl);exact fo169
 |cons t r=>
  obtain⟨n,hn⟩:∃n,n=(t::r).length:=⟨_,rfl⟩;have HRr:=HR.out;have hvg:=HVg.out;simp only at hvg;rw[←hn]at c0 hc1 hvg;have HVn:=hD hvg;clear hvg;have hn0:0<n:=by rw[hn];simp
  have hnr:n=r.length+1:=by rw[hn];simp
  have HNr:=hD hnr;obtain⟨b,o,hA,hb,hcc⟩:=HRr.cells (by rw[Q06.toksC_len,au];omega);subst hA;have HRow:Hid (w1.rangeAt b o (Q06.tokC t)):=hD (fun j u hu=>hcc j u (by
   show(Q06.tokC t++Q06.toksC r)[j]? =_;rw[dh (dD.1 hu).1];exact hu))
  have d0:w1.cell? ⟨b,o,none⟩=some (.int .i64 t.kind):=HRow.out 0 _ rfl;clear hn hnr HRr hcc;have q0:((n:Int) == 0)=false:=by rw[aF];omega
  have q1:(0:Int) <(n:Int):=by omega
  by_cases hk:t.kind=k
  · have k1:(t.kind == k)=true:=by simpa using hk
    have k2:(t.kind != k)=false:=by simp[hk]
    have HN:=hD (zbY k t r bd hk);clear hk;have HX0:=hD (Vr.new w1 (Q06.tokC Q06.tok0) 117);have HX:=hD (HX0.sets (Q06.tokC t) rfl);have HBn:=hD (zf (za w1 (.cells (Q06.tokC Q06.tok0).toArray 117)) (zb (b:=w1.heap.size) (Q06.tokC t)) (ag _));have HG1:Hid (g<w1.heap.size):=hD lt;go_upto_region 5 with(first
     |(refine ak rfl 117 _ rfl b o rfl (Q06.tokC t) _ HRow underlying117 rfl (zd5 t) ?_)
     |(refine ai rfl 117 _ _ rfl w1.heap.size 0 (Q06.tokC t).toArray rfl rfl (HX0.there rfl) (zd5 t) (zet t) ?_))
    try simp only[ay]
    change Code.wp _ _ _ _ ((w1.alloc (.cells (Q06.tokC Q06.tok0).toArray 117)).setCells w1.heap.size 0 (Q06.tokC t));generalize (w1.alloc (.cells (Q06.tokC Q06.tok0).toArray 117)).setCells w1.heap.size 0 (Q06.tokC t)=w2 at HX HBn⊢;generalize w1.heap.size=q5 at HX HG1⊢;clear HX0 c0 c1 f0 f1 lt d0 HRow;have HK2:=hD (HK1.below HBn);have HT3:=hD (HT1.below HBn);have HVn2:=hD (HVn.below HBn);have c0:=HVn2.cells 0 _ rfl;have f0:=HVn2.free 0 jc;have lt:=HVn2.lt;go_upto_region 6 with fail;obtain⟨A5,hA5⟩:∃A5,A5=if c=1 then some (⟨b,o,none⟩:Addr) else some (⟨b,o+5,none⟩:Addr):=⟨_,rfl⟩
    rw[←hA5];have HR2:=hD (HR.below HBn);have HRk:Hid (Rk B (w2.setCell ⟨g,0,none⟩ (.slice A5 (n- 1) (c- 1))) g (r,bd)):=hD (by
     have hn:=HNr.out;have hv:=(HVn2.set 0 (.slice A5 (n- 1) (c- 1))).eq (cs':=[.slice A5 r.length (c- 1),bd]) (by rw[hn];rfl);refine⟨HK1.le,A5,c- 1,hv,(RdL.tail2 HR2 (fun h1=> ?_) (fun h1=>by rw[hA5,aa h1])).grown (ze w2 ⟨g,0,none⟩ _) HK1.le,by show r.length≤_;omega,by omega⟩;exact cK ja)
    have HX3:=hD (HX.grown (ze w2 ⟨g,0,none⟩ (.slice A5 (n- 1) (c- 1))) (by have:=HG1.out;show q5≠g;omega));have HT4:=hD (HT3.grown (ze w2 ⟨g,0,none⟩ (.slice A5 (n- 1) (c- 1))) (by have:=HG.out;show w.heap.size≠g;omega));have HGr:=hD ((Zm (bon HB1 HBn) (some g)).trans (ze w2 ⟨g,0,none⟩ (.slice A5 (n- 1) (c- 1))));clear c0 f0 lt hA5 HR2 HVn2 HT3 HK2;generalize w2.setCell ⟨g,0,none⟩ (.slice A5 (n- 1) (c- 1))=w3 at HRk HX3 HT4 HGr⊢;go_wp2_with (first
     |(refine ak rfl 117 _ rfl q5 0 rfl (Q06.tokC t) _ HX3.range underlying117 rfl (zd5 t) ?_)
     |(refine ai rfl 117 _ _ rfl w.heap.size 0 (Q06.tokC t).toArray rfl rfl (HT4.there rfl) (zd5 t) (zet t) ?_))
    try simp only[ay]
    refine aj (v:= .agg (Q06.tokC t).toArray) ?_ rfl ?_
    · exact zW results85 _ _ w.heap.size (Q06.tokC t) _ rfl (HT4.sets (Q06.tokC t) rfl).range underlying117 rfl (zd5 _)
    · refine⟨by rw[HN.out],gr_own HGr (zb _) (ag _),?_⟩;rw[HN.out];exact HRk.off HG
  · have k1:(t.kind == k)=false:=by simpa using hk
    have k2:(t.kind != k)=true:=by simpa using hk
    have HN:=hD (nxt_miss k t r bd hk);clear hk;go_wp2_with (first
     |(refine bV rfl 117 _ rfl _ rfl (Q06.tokC Q06.tok0).toArray ?_ ?_;· kernel_rfl)
     |(refine ai rfl 117 _ _ rfl w.heap.size 0 (Q06.tokC Q06.tok0).toArray rfl rfl (HT2.there rfl) (zd5 _) (zet _) ?_))
    try simp only[ay]
    refine aj (v:= .agg (Q06.tokC Q06.tok0).toArray) ?_ rfl (HEnd (t::r) bd rfl HN);exact fo169
theorem tokC_arr(t:Q06.Tok):(Q06.tokC t).toArray=#[.int .i64 t.kind,.string ⟨t.text.toArray⟩,.int .i64 t.int,.string ⟨t.str.toArray⟩,.int .i64 t.line]:=rfl
theorem tok_f1(t:Q06.Tok)(W:World):(Instr.field 117 (.agg #[t.kind,t.text,t.int,t.str,t.line]) 1).run prog W= .ok (.string ⟨t.text.toArray⟩) W:=by kernel_rfl
theorem tok_f2(t:Q06.Tok)(W:World):(Instr.field 117 (.agg #[t.kind,t.text,t.int,t.str,t.line]) 2).run prog W= .ok (.int .i64 t.int) W:=by kernel_rfl
theorem tok_f3(t:Q06.Tok)(W:World):(Instr.field 117 (.agg #[t.kind,t.text,t.int,t.str,t.line]) 3).run prog W= .ok (.string ⟨t.str.toArray⟩) W:=by kernel_rfl
def RetRk(v:Value)(B:Nat)(g:Nat)(s:List Q06.Tok × Bool)(w:World)(e:Ending)(w':World):Prop:=
 e= .returned v∧w.grownBy w' (some g)∧Rk B w' g s
theorem rdNum_any(B:Nat)(g:Nat)(s:List Q06.Tok × Bool)(w:World)(h:Rk B w g s) :
    Calls prog 84 #[.pointer (some ⟨g,0,none⟩)] w (RetRk (.int .i64 (nxt 2 s).1.int) B g (nxt 2 s).2 w):=by
 have HN:=hD (zdw B 2 g s w h);clear h;go_in;go_wp2_with fail;refine HN.out.mono ?_;rintro e w1 ⟨rfl,hg,hk⟩;have H:=hD (And.intro hg hk);clear hg hk HN;rw[tokC_arr];have hfd:=tok_f2 (nxt 2 s).1;go_wp2_with fail;go_ret;exact⟨rfl,H.out.1,H.out.2⟩
theorem rdTxt_any(B:Nat)(g:Nat)(s:List Q06.Tok × Bool)(w:World)(h:Rk B w g s) :
    Calls prog 86 #[.pointer (some ⟨g,0,none⟩)] w (RetRk (.string ⟨(nxt 3 s).1.str.toArray⟩) B g (nxt 3 s).2 w):=by
 have HN:=hD (zdw B 3 g s w h);clear h;go_in;go_wp2_with fail;refine HN.out.mono ?_;rintro e w1 ⟨rfl,hg,hk⟩;have H:=hD (And.intro hg hk);clear hg hk HN;rw[tokC_arr];have hfd:=tok_f3 (nxt 3 s).1;go_wp2_with fail;go_ret;exact⟨rfl,H.out.1,H.out.2⟩
structure Ps (w:World) (B g q:Nat) (s:List Q06.Tok × Bool) (x:Pt) (W:World):Prop where
 rd:Rk B W g s
 pt:Vr W q (ptC x)
 res:Vr W w.heap.size (ptC pt0)
 low:Below w.heap.size w W
 o1:w.heap.size<g
 o2:g<q
section
variable {w W W' : World} {B g q : Nat} {s s' : List Q06.Tok × Bool} {x y : Pt}
theorem Ps.call(h:Ps w B g q s x W)(hg:W.grownBy W' (some g))(hr:Rk B W' g s'):Ps w B g q s' x W':=
 ⟨hr,h.pt.grown hg (by have:=h.o2;omega),h.res.grown hg jfa,zf h.low hg jfa,h.o1,h.o2⟩
theorem Ps.far(h:Ps w B g q s x W){r:Nat}(hg:W.grownBy W' (some r))(hr:q<r):Ps w B g q s x W':=
 ⟨h.rd.grown hg (by have:=h.rd.le;have:=h.o2;omega) (by have:=h.o2;omega),h.pt.grown hg ja,h.res.grown hg jdm,zf h.low hg jdm,h.o1,h.o2⟩
theorem Ps.below(h:Ps w B g q s x W)(hb:Below W.heap.size W W'):Ps w B g q s x W':=
 ⟨h.rd.below hb,h.pt.below hb,h.res.below hb,bon h.low hb,h.o1,h.o2⟩
theorem Ps.setx(h:Ps w B g q s x W)(i:Nat)(v:Value)(e:(ptC x).set i v=ptC y):Ps w B g q s y (W.setCell ⟨q,i,none⟩ v):=
 ⟨h.rd.grown (ze W ⟨q,i,none⟩ v) (by have:=h.rd.le;have:=h.o2;show B≤q;omega) (by have:=h.o2;show g≠q;omega),(h.pt.set i v).eq e,
  h.res.grown (ze W ⟨q,i,none⟩ v) (by have:=h.o1;have:=h.o2;show w.heap.size≠q;omega),zf h.low (ze W ⟨q,i,none⟩ v) (by have:=h.o1;have:=h.o2;show w.heap.size≤q;omega),h.o1,h.o2⟩
theorem Ps.bad(h:Ps w B g q s x W)(b:Bool):Ps w B g q (s.1,b) x (W.setCell ⟨g,1,none⟩ (.bool b)):=h.call (ze W ⟨g,1,none⟩ (.bool b)) (h.rd.setBad b)
theorem Ps.setMsg(h:Ps w B g q s x W)(m:Ms):Ps w B g q s {x with msg:=m} (W.setCells q 7 (msC m)):=by
 refine⟨h.rd.grown (zq (b:=q) (o:=7) (msC m)) (by have:=h.rd.le;have:=h.o2;omega) (by have:=h.o2;omega),?_,
  h.res.grown (zq (b:=q) (o:=7) (msC m)) jdm,zf h.low (zq (b:=q) (o:=7) (msC m)) jdm,h.o1,h.o2⟩
 refine(Vr.mid h.pt 7 (msC m) (by rw[zdH,Yy];omega)).eq ?_;rfl
end
theorem zbi{w W:World}{B g q:Nat}{s:List Q06.Tok × Bool}{x:Pt}(h:Ps w B g q s x W):Calls prog 84 #[.pointer (some ⟨g,0,none⟩)] W
    fun e W'=>e= .returned (.int .i64 (nxt 2 s).1.int)∧Ps w B g q (nxt 2 s).2 x W':=
 (rdNum_any B g s W h.rd).mono fun _ _ ⟨he,hg,hk⟩=>⟨he,h.call hg hk⟩
theorem zdM{w W:World}{B g q:Nat}{s:List Q06.Tok × Bool}{x:Pt}(h:Ps w B g q s x W):Calls prog 86 #[.pointer (some ⟨g,0,none⟩)] W
    fun e W'=>e= .returned (.string ⟨(nxt 3 s).1.str.toArray⟩)∧Ps w B g q (nxt 3 s).2 x W':=
 (rdTxt_any B g s W h.rd).mono fun _ _ ⟨he,hg,hk⟩=>⟨he,h.call hg hk⟩
/-! the range over the words: the kind that has been found, by what is still to come -/
def YR(left:Lit→Bool)(wd:List UInt8):Int:=if kindOf wd=0 then 0 else if left (.int .i64 (kindOf wd)) then 0 else kindOf wd
theorem kindOf_range(wd:List UInt8):0≤kindOf wd∧kindOf wd≤8:=fo205
theorem zfY(wd:List UInt8):YR (Maps.has zaI) wd=0:=by
 unfold YR;split
 · rfl
 · next h=>
   have:=kindOf_range wd;rw[words_has,show isKind (kindOf wd)=true from by simp only[isKind,aT,aY];omega];rfl
variable{k:Int}{wd:List UInt8}
theorem kindDone_end{left:Lit→Bool}(h:∀kl,left kl=false):YR left wd=kindOf wd:=by
 unfold YR;rw[h];split
 · next h=>exact h.symm
 · rfl
theorem word_of_kind(h:kindOf wd≠0):wd=yf (kindOf wd):=by
 unfold kindOf at h⊢;repeat' split
 all_goals first
  |assumption
  |(exfalso;revert h;simp_all)
theorem words_out(h:isKind k=false)(z:DataW Unit):zaI.atKey (.int .i64 k) z=z:=by
 simp only[isKind,dZ,dX]at h;simp only[zaI,DataW.atKey,gU,gV,zbq];rw[av (fun e:1=k=>by omega),av (fun e:2=k=>by omega),av (fun e:3=k=>by omega),av (fun e:4=k=>by omega),av (fun e:5=k=>by omega),av (fun e:6=k=>by omega),av (fun e:7=k=>by omega),av (fun e:8=k=>by omega)]
theorem words_entry{c:List UInt8}(h:∀zd,zaI.atKey (.int .i64 k) zd= .lit (.string c)):1≤k∧k≤8∧c=yf k:=by
 have hk:isKind k=true:=by
  cases hk:isKind k with
  |true=>rfl
  |false=>
   have h1:=h (.lit (.string []));have h2:=h (.lit (.string [0]));rw[words_out hk]at h1 h2;simp only[fE,gp]at h1 h2;rw[←h2]at h1;cases h1
 have h1:=h (.lit (.string []));rw[words_at]at h1;simp only[fE,gp]at h1;simp only[isKind,aT,aY]at hk;exact⟨hk.1,hk.2,h1.symm⟩
theorem kindDone_hit{left:Lit→Bool}(h1:1≤k)(h8:k≤8):YR (fun z=>left z && !z.sameKey (.int .i64 k)) (yf k)=k:=by
 unfold YR;rw[YJ k h1 h8,aa ja];simp[zbq]
theorem kindDone_miss{left:Lit→Bool}(h:yf k≠wd):YR (fun z=>left z && !z.sameKey (.int .i64 k)) wd=YR left wd:=by
 unfold YR;by_cases h0:kindOf wd=0
 · rw[af h0,af h0]
 · rw[aa h0,aa h0];have hne:kindOf wd≠k:=fun e=>h (by rw[←e];exact(word_of_kind h0).symm)
   simp[zbq,hne]
