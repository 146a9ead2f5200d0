/- The contract of entry.Decode: the ways behind the list. -/
import Derived.Test.YtepbbaifpckcpaaGreatDoorFFo
import Derived.Test.YtepbbaifpckcpaaGreatDoorFPl
import Derived.Test.YtepbbaifpckcpaaGreatDoorFEa
namespace Go.Proofs.YtepbbaifpckcpaaGreatDoor.Q40
set_option maxRecDepth 100000
set_option maxHeartbeats 1000000
open Go.Proofs.YtepbbaifpckcpaaGreatDoor
open Go.RowKit
structure O3 (w:World) (b:Nat) (x y z:Value):Prop where
 lt:b<w.heap.size
 c0:w.cell? ⟨b,0,none⟩=some x
 c1:w.cell? ⟨b,1,none⟩=some y
 c2:w.cell? ⟨b,2,none⟩=some z
 f0:w.frozen? ⟨b,0,none⟩=false
 f1:w.frozen? ⟨b,1,none⟩=false
 f2:w.frozen? ⟨b,2,none⟩=false
theorem O3.below {w w':World} {b:Nat} {x y z:Value} (h:O3 w b x y z) (hb:Below w.heap.size w w'):O3 w' b x y z where
 lt:=Nat.lt_of_lt_of_le h.lt hb.size
 c0:=(hb.cell (p:=⟨b,0,none⟩) h.lt).trans h.c0
 c1:=(hb.cell (p:=⟨b,1,none⟩) h.lt).trans h.c1
 c2:=(hb.cell (p:=⟨b,2,none⟩) h.lt).trans h.c2
 f0:=(hb.frozen (p:=⟨b,0,none⟩) h.lt).trans h.f0
 f1:=(hb.frozen (p:=⟨b,1,none⟩) h.lt).trans h.f1
 f2:=(hb.frozen (p:=⟨b,2,none⟩) h.lt).trans h.f2
theorem O3.new (w:World) (x y z:Value) (T:TypeId):O3 (w.alloc (.cells #[x,y,z] T)) w.heap.size x y z where
 lt:=by simp
 c0:=by simp
 c1:=by simp
 c2:=by simp
 f0:=by simp
 f1:=by simp
 f2:=by simp
theorem Zg (w:World) (p q:Addr) (v:Value):(w.setCell p v).frozen? q=w.frozen? q:=by simp
theorem O3.set0 {w:World} {b:Nat} {x y z:Value} (h:O3 w b x y z) (v:Value):O3 (w.setCell ⟨b,0,none⟩ v) b v y z where
 lt:=by simpa using h.lt
 c0:=World.cell?_setCell_same _ _ _ h.c0
 c1:=(World.cell?_setCell_other _ _ _ _ jd).trans h.c1
 c2:=(World.cell?_setCell_other _ _ _ _ jd).trans h.c2
 f0:=(Zg _ _ _ _).trans h.f0
 f1:=(Zg _ _ _ _).trans h.f1
 f2:=(Zg _ _ _ _).trans h.f2
theorem O3.set1 {w:World} {b:Nat} {x y z:Value} (h:O3 w b x y z) (v:Value):O3 (w.setCell ⟨b,1,none⟩ v) b x v z where
 lt:=by simpa using h.lt
 c0:=(World.cell?_setCell_other _ _ _ _ jd).trans h.c0
 c1:=World.cell?_setCell_same _ _ _ h.c1
 c2:=(World.cell?_setCell_other _ _ _ _ jd).trans h.c2
 f0:=(Zg _ _ _ _).trans h.f0
 f1:=(Zg _ _ _ _).trans h.f1
 f2:=(Zg _ _ _ _).trans h.f2
theorem O3.set2 {w:World} {b:Nat} {x y z:Value} (h:O3 w b x y z) (v:Value):O3 (w.setCell ⟨b,2,none⟩ v) b x y v where
 lt:=by simpa using h.lt
 c0:=(World.cell?_setCell_other _ _ _ _ jd).trans h.c0
 c1:=(World.cell?_setCell_other _ _ _ _ jd).trans h.c1
 c2:=World.cell?_setCell_same _ _ _ h.c2
 f0:=(Zg _ _ _ _).trans h.f0
 f1:=(Zg _ _ _ _).trans h.f1
 f2:=(Zg _ _ _ _).trans h.f2
theorem O3.far {w:World} {b:Nat} {x y z:Value} (h:O3 w b x y z) (p:Addr) (hp:p.block≠b) (v:Value):O3 (w.setCell p v) b x y z where
 lt:=by simpa using h.lt
 c0:=(World.cell?_setCell_other _ _ _ _ (by rintro rfl;exact hp rfl)).trans h.c0
 c1:=(World.cell?_setCell_other _ _ _ _ (by rintro rfl;exact hp rfl)).trans h.c1
 c2:=(World.cell?_setCell_other _ _ _ _ (by rintro rfl;exact hp rfl)).trans h.c2
 f0:=(Zg _ _ _ _).trans h.f0
 f1:=(Zg _ _ _ _).trans h.f1
 f2:=(Zg _ _ _ _).trans h.f2
theorem zcz (w:World):RqIn w none 0 []:=⟨Rd.nil _ _ _,by simp,by simp,by simp,by simp⟩
theorem zeB:∀(n:Nat) (s:List UInt8) (xs:List (List UInt8)) (m:Nat),yt yJ n s=some (xs,m)→xs.length=n∧xs.length≤s.length∧∀x∈xs,x.length≤s.length
 |0,s,xs,m,h=>by
  simp only [yt,Option.some.injEq,Prod.mk.injEq] at h
  obtain⟨rfl,rfl⟩:=h
  simp
 |n+1,s,xs,m,h=>by
  rw [yt] at h
  split at h
  · simp at h
  · rename_i x k hx
    have hl:=Yb hx
    split at h
    · simp at h
    · rename_i ys m' hy
      obtain⟨i1,i2,i3⟩:=zeB n _ _ _ hy
      simp only [Option.some.injEq,Prod.mk.injEq] at h
      obtain⟨rfl,rfl⟩:=h
      simp only [List.length_drop] at i2 i3
      refine⟨by simp [i1],by simp only [List.length_cons];omega, ?_⟩
      intro z hz
      rcases List.mem_cons.1 hz with rfl|hz
      · omega
      · have:=i3 z hz;omega
theorem zaS {s:List UInt8} {xs:List (List UInt8)} {n:Nat} (h:zK s=some (xs,n)):xs.length≤s.length∧∀x∈xs,x.length≤s.length:=by
 unfold zK zaP at h;split at h
 · simp at h
 · rename_i k a hv;have hl:=za5 hv;split at h
   · simp at h
   · rename_i ys m hm;obtain⟨i1,i2,i3⟩:=zeB _ _ _ _ hm;simp only [Option.some.injEq,Prod.mk.injEq] at h;obtain⟨rfl,rfl⟩:=h;simp only [List.length_drop] at i2 i3;refine⟨by omega,fun x hx=>by have:=i3 x hx;omega⟩
theorem rdFr {w:World} {k n:Nat} {A:Option Addr} {xs:List Value} (h:Rd w k A n xs) (p:Addr) (hp:∀a,A=some a→a.block≠p.block) (v:Value):Rd (w.setCell p v) k A n xs:=
 ⟨h.len,fun hj=>by
  obtain⟨b,o,e,hl,hc⟩:=h.cells hj
  exact⟨b,o,e,by simpa using hl,fun j u hu=>(World.cell?_setCell_other _ _ _ _ (by rintro rfl;exact hp _ e rfl)).trans (hc j u hu)⟩⟩
theorem Y0 {w:World} {A:Option Addr} {c:Nat} {l:List Rq} {b:Nat} (h:RqIn w A c l) (hb:∀a,A=some a→a.block≠b) (x y z:Value):RqIn (((w.setCell ⟨b,0,none⟩ x).setCell ⟨b,1,none⟩ y).setCell ⟨b,2,none⟩ z) A c l:=
 {h with rd:=rdFr (rdFr (rdFr h.rd ⟨b,0,none⟩ hb x) ⟨b,1,none⟩ hb y) ⟨b,2,none⟩ hb z}
theorem zcX (x:List UInt8):zcw [Ya,x]=⟨2,ZE x, []⟩:=by
 rw [zcw,if_pos ⟨rfl,rfl⟩];rfl
theorem zbv (t:List (List UInt8)):zcw (yP::t)=⟨3,0, []⟩:=by
 rw [zcw,if_neg (by intro h;exact absurd h.1 jf),if_pos rfl]
theorem decode_join (s x:List UInt8) (w:World) (he:Env w) (hs:s.length≤1048576) (n:Nat) (hg:zK s=some ([Ya,x],n)):Calls Tryz.prog 94 #[.string ⟨s.toArray⟩] w (RetDec (decE s) w):=by
 have B0:=hD (za w (.cells #[.int .i64 0, .int .i64 0, .slice none 0 0] 129));have HL:=hD (zbn (YU ⟨s.toArray⟩ (w.alloc (.cells #[.int .i64 0, .int .i64 0, .slice none 0 0] 129)) jr) hg);have HD:=hD (zeH hg);have hx:x.length≤1048576:=by have:=(zaS hg).2 x jd;omega
 have HE:=hD he;have HR:=hD (O3.new w (.int .i64 0) (.int .i64 0) (.slice none 0 0) 129);clear hg he;go_in;go_wp2_with fail;refine HL.out.mono ?_;rintro e w1 ⟨⟨A,c,rfl,r1,hc⟩,b1⟩;have B1:=hD (bon B0.out b1);have HR1:=hD (HR.out.below b1);obtain⟨g,o,rfl,hgl,hcc⟩:=r1.cells jcj;have a0:w1.cell? ⟨g,o,none⟩=some (.string ⟨#[106,111,105,110]⟩):=by simpa [strC,Ya] using hcc 0 _ rfl
 have a1:w1.cell? ⟨g,o+1,none⟩=some (.string ⟨x.toArray⟩):=by simpa [strC] using hcc 1 _ rfl
 have hc':2≤c:=hc;have hc1:c≠1:=by omega
 have hc2:(1:Int)≤(c:Int):=by omega
 have HO1:=hD (O3.new w1 (.int .i64 2) (.int .i64 0) (.slice none 0 0) 129);have hn1:=HR1.out.lt;clear b1 r1 hcc hc;go_wp2_with fail;refine(atoi_any ⟨x.toArray⟩ jr _ (HE.out.below (B1.out.alloc B1.out.size _))).mono ?_;rintro e w2 ⟨⟨ev,rfl⟩,b2⟩;have B2:=hD (bon (B1.out.alloc B1.out.size _) b2);have HR2:=hD ((HR1.out.below (za w1 _)).below b2);have HO2:=hD (HO1.out.below b2);obtain⟨hlt2,p0,p1,p2,f0,f1,f2⟩:=HO2.out;have B3:=hD (B2.out.setCell (p:=⟨w1.heap.size,1,none⟩) jby (.int .i64 (ZE x)));have HR3:=hD (HR2.out.far ⟨w1.heap.size,1,none⟩ jbz (.int .i64 (ZE x)));have HO3:=hD (HO2.out.set1 (.int .i64 (ZE x)));clear b2;go_wp2_with fail;clear p0 p1 p2 f0 f1 f2;generalize w2.setCell ⟨w1.heap.size,1,none⟩ (.int .i64 (ZE x))=wx at B3 HR3 HO3⊢;have HQ3:=hD (zcz wx);have HVal:=zbK 2 (ZE x) [] none 0 wx HQ3.out;by_cases hv:vEn ⟨2,(ZE x), []⟩=0
 · rw [hv] at HVal;refine HVal.mono ?_;rintro e w3 ⟨rfl,b3⟩;have B4:=hD (bon B3.out b3);have HR4:=hD (HR3.out.below b3);have HO4:=hD (HO3.out.below b3);have HQ4:=hD (HQ3.out.below b3);obtain⟨hlt4,p0,p1,p2,f0,f1,f2⟩:=HO4.out;clear b3;go_wp2_with fail;have HVl:=zed 2 (ZE x) [] none 0 w3 (HE.out.below B4.out) HQ4.out jd (by intro r hr;simp at hr) (zeJ x);by_cases hq:valE ⟨2,(ZE x), []⟩=s
   · rw [hq] at HVl;refine HVl.mono ?_;rintro e w4 ⟨rfl,b4⟩;have B5:=hD (bon B4.out b4);have HR5:=hD (HR4.out.below b4);have HO5:=hD (HO4.out.below b4);have HQ5:=hD (HQ4.out.below b4);have HY:Hid (decE s=some ⟨2,(ZE x), []⟩):=hD (by rw [HD.out,zcX,if_pos ⟨hv,hq⟩]);clear b4 p0 p1 p2 f0 f1 f2 hv hq;obtain⟨hlt5,p0,p1,p2,f0,f1,f2⟩:=HO5.out;obtain⟨hlt6,r0,r1,r2,s0,s1,s2⟩:=HR5.out;go_wp2_with fail;refine bodyPost_ret (v:= .tuple #[.agg #[.int .i64 2, .int .i64 (ZE x), .slice none 0 0], .int .i64 0]) (by simp [results,Tryz.results94,go_sem,r0,r1,r2]) rfl (Yn HY.out (((B5.out.setCell (Nat.le_refl _) _).setCell (Nat.le_refl _) _).setCell (Nat.le_refl _) _) rfl ?_);exact Y0 HQ5.out (fun a h=>by cases h) _ _ _
   · have HY:Hid (decE s=none):=hD (by rw [HD.out,zcX,if_neg (fun h=>hq h.2)]);have hq1:(valE ⟨2,(ZE x), []⟩ == s)=false:=by simpa using hq
     generalize valE ⟨2,(ZE x), []⟩=v at HVl hq1 hq;exact fo30
 · have HY:Hid (decE s=none):=hD (by rw [HD.out,zcX,if_neg (fun h=>hv h.1)]);generalize vEn ⟨2,(ZE x), []⟩=v at HVal hv;exact fo21
theorem decode_finish (s:List UInt8) (t:List (List UInt8)) (w:World) (he:Env w) (hs:s.length≤1048576) (n:Nat) (hg:zK s=some (yP::t,n)):Calls Tryz.prog 94 #[.string ⟨s.toArray⟩] w (RetDec (decE s) w):=by
 have B0:=hD (za w (.cells #[.int .i64 0, .int .i64 0, .slice none 0 0] 129));have HL:=hD (zbn (YU ⟨s.toArray⟩ (w.alloc (.cells #[.int .i64 0, .int .i64 0, .slice none 0 0] 129)) jr) hg);have HD:=hD (zeH hg);have hlen:=(zaS hg).1;have HE:=hD he;have HR:=hD (O3.new w (.int .i64 0) (.int .i64 0) (.slice none 0 0) 129);clear hg he;go_in;go_wp2_with fail;refine HL.out.mono ?_;rintro e w1 ⟨⟨A,c,rfl,r1,hc⟩,b1⟩;have B1:=hD (bon B0.out b1);have HR1:=hD (HR.out.below b1);obtain⟨g,o,rfl,hgl,hcc⟩:=r1.cells jcj;have a0:w1.cell? ⟨g,o,none⟩=some (.string ⟨#[102,105,110,105,115,104]⟩):=by simpa [strC,yP] using hcc 0 _ rfl
 have hc':t.length+1≤c:=hc;simp only [List.length_cons] at hlen⊢;have hc2:(1:Int)≤(c:Int):=by omega
 have hn1:=HR1.out.lt;have B3:=hD (B1.out.alloc B1.out.size (.cells #[.int .i64 3, .int .i64 0, .slice none 0 0] 129));have HR3:=hD (HR1.out.below (za w1 (.cells #[.int .i64 3, .int .i64 0, .slice none 0 0] 129)));have HO3:=hD (O3.new w1 (.int .i64 3) (.int .i64 0) (.slice none 0 0) 129);clear b1 r1 hcc hc;have htc:t.length+1≠0:=by omega
 by_cases hc1:c=1
 · subst hc1;obtain rfl:t= []:=List.eq_nil_of_length_eq_zero ja;exact fo13
 · exact fo13
set_option maxRecDepth 100000
set_option maxHeartbeats 4000000
open Go.Proofs.YtepbbaifpckcpaaGreatDoor
open Go.RowKit
theorem readE_batch (h:List UInt8) (t:List (List UInt8)) (h1:¬(h=Ya∧t.length=1)) (h2:h≠yP):zcw (h::t)=⟨1,0,trip t⟩:=by
 rw [zcw,if_neg h1,if_neg h2]
theorem infoR:(Tryz.prog.info? 191).map (fun i=>(i.zero,i.size,i.bytes))=some (some (.agg #[.int .i64 0, .int .i64 0, .string ⟨#[]⟩]),3,32):=by kernel_rfl
theorem O3.drew {w:World} {b:Nat} {x y z:Value} (h:O3 w b x y z):O3 w.drew b x y z:=⟨h.lt,h.c0,h.c1,h.c2,h.f0,h.f1,h.f2⟩
theorem O3.alloc {w:World} {b:Nat} {x y z:Value} (h:O3 w b x y z) (o:Obj):O3 (w.alloc o) b x y z:=h.below (za w o)
theorem O3.grown {w w':World} {row:Option Nat} {b:Nat} {x y z:Value} (h:O3 w b x y z) (hg:w.grownBy w' row) (hne:some b≠row):O3 w' b x y z where
 lt:=Nat.lt_of_lt_of_le h.lt hg.size
 c0:=(hg.cell_far ⟨b,0,none⟩ h.lt hne).trans h.c0
 c1:=(hg.cell_far ⟨b,1,none⟩ h.lt hne).trans h.c1
 c2:=(hg.cell_far ⟨b,2,none⟩ h.lt hne).trans h.c2
 f0:=(hg.frozen_far ⟨b,0,none⟩ h.lt hne).trans h.f0
 f1:=(hg.frozen_far ⟨b,1,none⟩ h.lt hne).trans h.f1
 f2:=(hg.frozen_far ⟨b,2,none⟩ h.lt hne).trans h.f2
theorem own_max {w:World} {base e k n:Nat} {A:Option Addr} {c:Nat} {xs:List Value} (h:w.ownsRow base e k (.slice A n c) n xs):c≤9223372036854775807:=fo76
theorem zeS {w:World} {base e k n g cap:Nat} {xs:List Value} (h:w.ownsRow base e k (.slice (some ⟨g,0,none⟩) n cap) n xs) (p:Addr) (v:Value) (_hn:n≠0) (hp:p.block<base):(w.setCell p v).ownsRow base e k (.slice (some ⟨g,0,none⟩) n cap) n xs:=by
 refine⟨h.1, ?_⟩;rcases h.2 with h1|⟨g',cap',cur,hv,hge,hg,rest⟩
 · exact .inl h1
 · exact .inr ⟨g',cap',cur,hv,hge,(Below.heap_setCell w p v g' ja).trans hg,rest⟩
def lenOf:Value→Nat
 | .slice _ n _=>n
 |_=>0
theorem trip_short (ls:List (List UInt8)) (h:ls.length<3):trip ls= []:=by
 match ls,h with
 | [],_=>rfl
 | [_],_=>rfl
 | [_,_],_=>rfl
theorem vEn_one {rs:List Rq} (h:vEn ⟨1,0,rs⟩=0):rs.length≤8∧∀r∈rs,r.op.length≤200:=by
 unfold vEn at h;simp only [if_true] at h;split at h
 · omega
 · split at h
   · omega
   · rename_i h2;exact⟨by omega,fun r hr=>(za2 rs [] h r hr).2.2.2.2.2⟩
theorem decode_batch (s h:List UInt8) (t:List (List UInt8)) (w:World) (he:Env w) (hs:s.length≤1048576) (n:Nat) (hg:zK s=some (h::t,n)) (hj:¬(h=Ya∧t.length=1)) (hf:h≠yP) :
    Calls Tryz.prog 94 #[.string ⟨s.toArray⟩] w (RetDec (decE s) w):=by
 have B0:=hD (za w (.cells #[.int .i64 0, .int .i64 0, .slice none 0 0] 129));have HL:=hD (zbn (YU ⟨s.toArray⟩ (w.alloc (.cells #[.int .i64 0, .int .i64 0, .slice none 0 0] 129)) jr) hg);obtain⟨en,hen⟩:∃en,en=zcw (h::t):=⟨_,rfl⟩;have HD:Hid (decE s=if vEn en=0∧valE en=s then some en else none):=hD (by rw [hen];exact zeH hg);have HEq:Hid (en=⟨1,0,trip t⟩):=hD (by rw [hen];exact readE_batch h t hj hf);clear hen;have hlen:=(zaS hg).1;have HLen:Hid (∀x∈t,x.length≤1048576):=hD (fun x hx=>Nat.le_trans ((zaS hg).2 x (by simp [hx])) hs);have HE:=hD he;have HR:=hD (O3.new w (.int .i64 0) (.int .i64 0) (.slice none 0 0) 129);obtain⟨i0,hi,hz0,hz1,hz2⟩:=info_parts infoR;have HI:=hD hi;have HZ0:=hD hz0;have HZ1:=hD hz1;have HZ2:=hD hz2;clear hi hz0 hz1 hz2 hg he;simp only [List.length_cons] at hlen;have htc:((t.length:Int)+1 == 0)=false:=by rw [beq_eq_false_iff_ne];omega
 have hf1:(h == [102,105,110,105,115,104])=false:=by rw [beq_eq_false_iff_ne];exact hf
 have hf2:¬h= [102,105,110,105,115,104]:=hf;go_in;go_wp2_with fail;refine HL.out.mono ?_;rintro e w1 ⟨⟨A,c,rfl,r1,hc⟩,b1⟩;have B1:=hD (bon B0.out b1);have HR1:=hD (HR.out.below b1);obtain⟨g,o,rfl,hgl,hcc⟩:=r1.cells jcj;have a0:w1.cell? ⟨g,o,none⟩=some (.string ⟨h.toArray⟩):=by simpa [strC] using hcc 0 _ rfl
 have HT:Hid (Rd w1 1 (some ⟨g,o+1,none⟩) t.length (strC t)):=hD ⟨by simp [strC],fun hp=>⟨g,o+1,rfl,hgl,fun j u hu=>by rw [Nat.add_assoc,Nat.add_comm 1 j];exact hcc (j+1) u (by simpa [strC] using hu)⟩⟩;have hc':t.length+1≤c:=hc;simp only [List.length_cons];have hc2:(1:Int)≤(c:Int):=by omega
 have hn1:=HR1.out.lt;have HO1:=hD (O3.new w1 (.int .i64 1) (.int .i64 0) (.slice none 0 0) 129);clear b1 r1 hcc hc;have hways:(c=1∧t= [])∨c≠1:=by
  by_cases hc1:c=1
  · exact .inl ⟨hc1,List.eq_nil_of_length_eq_zero ja⟩
  · exact .inr hc1
 have hj1:((h == [106,111,105,110])=false∧¬h= [106,111,105,110])∨(h= [106,111,105,110]∧((t.length:Int) == 1)=false):=by
  by_cases h1:h= [106,111,105,110]
  · refine .inr ⟨h1, ?_⟩;rw [beq_eq_false_iff_ne];intro h2;exact hj ⟨h1,by omega⟩
  · exact .inl ⟨by rw [beq_eq_false_iff_ne];exact h1,h1⟩
 clear hj hf;rcases hways with⟨rfl,rfl⟩|hc1 <;> rcases hj1 with⟨hj1,hj2⟩|⟨rfl,hj1⟩
 all_goals (try simp only [List.length_nil,Nat.zero_add])
 all_goals
  go_wp2_with fail;go_loopw [8] (fun r wr=>∃(A2:Option Addr) (c2:Nat) (ls:List (List UInt8)) (done:List Rq) (A3:Option Addr) (c3:Nat),r= .slice A2 ls.length c2∧ls.length≤c2∧Rd w1 1 A2 ls.length (strC ls)∧(∀x∈ls,x.length≤1048576)∧ls.length≤1048576∧3 * done.length+ls.length≤1048576∧
   en=⟨1,0,done++trip ls⟩∧(∀r∈done,I64 r.client∧I64 r.number∧r.op.length≤1048576)∧
   O3 wr w1.heap.size (.int .i64 1) (.int .i64 0) (.slice A3 done.length c3)∧wr.ownsRow (w1.heap.size+1) 191 3 (.slice A3 done.length c3) done.length (done.flatMap rqC)∧Below w1.heap.size w1 wr∧w1.heap.size+1≤wr.heap.size)
   (fun r _=>lenOf r)
  case atStart=>
   first
    |exact⟨_,_,t, [],none,0,rfl,by omega,HT.out,HLen.out,by omega,by simp only [List.length_nil];omega,HEq.out,by simp,HO1.out,World.ownsRow_nil _ _ _ _,za w1 _,by simp⟩
    |exact⟨_,_, [], [],none,0,rfl,by simp,Rd.nil _ _ _,by simp,by simp,by simp,HEq.out,by simp,HO1.out,World.ownsRow_nil _ _ _ _,za w1 _,by simp⟩
  case round=>
   obtain⟨A2,c2,ls,done,A3,c3,rfl,hlc,hrd,hls,hll,hdl,hre,hdn,ho3,hown,hb,hge⟩:=hrel;have HRd:=hD hrd;have HLs:=hD hls;have HRe:=hD hre;have HDn:=hD hdn;have HO:=hD ho3;have HOwn:=hD hown;have HB:=hD hb;clear hrd hls hre hdn ho3 hown hb;by_cases h3:3≤ls.length
   · match ls,h3 with
     |a::b::d::r,_=>
      obtain⟨g2,o2,rfl,hg2,hcc⟩:=HRd.out.cells jcj;have e0:∀W,Below w1.heap.size w1 W→W.cell? ⟨g2,o2,none⟩=some (.string ⟨a.toArray⟩):=fun W hW=>(hW.cell (p:=⟨g2,o2,none⟩) hg2).trans (by simpa using hcc 0 _ rfl)
      have e1:∀W,Below w1.heap.size w1 W→W.cell? ⟨g2,o2+1,none⟩=some (.string ⟨b.toArray⟩):=fun W hW=>(hW.cell (p:=⟨g2,o2+1,none⟩) hg2).trans (by simpa using hcc 1 _ rfl)
      have e2:∀W,Below w1.heap.size w1 W→W.cell? ⟨g2,o2+2,none⟩=some (.string ⟨d.toArray⟩):=fun W hW=>(hW.cell (p:=⟨g2,o2+2,none⟩) hg2).trans (by simpa using hcc 2 _ rfl)
      have E0:=hD e0;have E1:=hD e1;have E2:=hD e2;have HR4:Hid (Rd w1 1 (some ⟨g2,o2+3,none⟩) r.length (strC r)):=hD ⟨by simp [strC],fun hp=>⟨g2,o2+3,rfl,hg2,fun j u hu=>by rw [Nat.add_assoc,Nat.add_comm 3 j];exact hcc (j+3) u (by simpa [strC] using hu)⟩⟩;have ha:=HLs.out a jd;have hbl:=HLs.out b jd;have hd:=HLs.out d jd;have HLs2:Hid (∀x∈r,x.length≤1048576):=hD (fun x hx=>HLs.out x (by simp [hx]));have HAT:Hid (∀(x:List UInt8) (W:World),x.length≤1048576→Below w1.heap.size w1 W→Calls Tryz.prog 141 #[.string ⟨x.toArray⟩] W (RetNum (ZE x) W)):=hD (fun x W hx hW=>atoi_any ⟨x.toArray⟩ jr W (HE.out.below (bon B1.out hW)));clear e0 e1 e2 hcc;simp only [List.length_cons] at hlc hll hdl⊢;have k3:(3:Int)≤((r.length+1+1+1:Nat):Int):=by omega
      have k4:((r.length+1+1+1:Nat):Int)≤(c2:Int):=by omega
      have x0:=E0.out wr HB.out;go_wp2_with fail;refine(HAT.out a _ ha HB.out).mono ?_;rintro e w2 ⟨⟨ev,rfl⟩,b2⟩;have HB2:=hD (bon HB.out b2);have HO2:=hD (HO.out.below b2);have HOwn2:=hD (ownsRow_below HOwn.out b2);have hz2:=b2.size;clear b2 x0;have x1:=E1.out w2 HB2.out;go_wp2_with fail;refine(HAT.out b _ hbl HB2.out).mono ?_;rintro e w3 ⟨⟨ev3,rfl⟩,b3⟩;have HB3:=hD (bon HB2.out b3);have HO3:=hD (HO2.out.below b3);have HOwn3:=hD (ownsRow_below HOwn2.out b3);have hz3:=b3.size;clear b3 x1;have x2:=E2.out w3 HB3.out;have p2:=HO3.out.c2;have hlt3:=HO3.out.lt;have k2:(2:Int) <(r.length:Int)+1+1+1:=by omega
      have k2n:2<r.length+1+1+1:=by omega
      have k2:(2:Int) <(r.length:Int)+1+1+1:=by omega
      have k2n:2<r.length+1+1+1:=by omega
      have hob:some w1.heap.size≠(Value.slice A3 done.length c3).ownBlock:=by
       intro h0;have:=(HOwn3.out.lt w1.heap.size h0.symm).1;omega
      go_wp2_with fail;go_region_law (refine step_append_lies _ jq _ _ _ jq (w1.heap.size+1) 191 i0 _ 3 32 Tryz.underlying127 HI.out HZ0.out HZ1.out HZ2.out rfl jf _ _ _ jq ((HOwn3.out.alloc _).drew) _ 1 1 [.int .i64 (ZE a), .int .i64 (ZE b), .string ⟨d.toArray⟩] jq jq (World.news_of_block (cs:=#[.int .i64 (ZE a), .int .i64 (ZE b), .string ⟨d.toArray⟩]) (t:=191) (fr:=(0,0)) (heap_alloc_new _ _)) jv ja jw ja jg _ rfl ?_;intro gg cap w4 hown1 hgrow hat hlt4;have HO4:=hD (O3.grown ((HO3.out.alloc _).drew) hgrow hob);have q2:=HO4.out.c2;have qf2:=HO4.out.f2);all_goals
       have HOwn4:=hD hown1;have HG4:=hD hgrow;clear hown1 hgrow hat;have hbg:Below w1.heap.size w1 w4:=below_grown ((HB3.out.alloc ja _).drew) jg HG4.out (fun g hg=>by have:=(HOwn3.out.lt g hg).1;omega);have HB5:=hD (hbg.setCell (p:=⟨w1.heap.size,2,none⟩) (Nat.le_refl _) (.slice (some ⟨gg,0,none⟩) (done.length+1) cap));have HO5:=hD (HO4.out.set2 (.slice (some ⟨gg,0,none⟩) (done.length+1) cap));have hz5:w3.heap.size+1≤w4.heap.size:=by have:=HG4.out.size;simpa using this
       have HOwn5:Hid ((w4.setCell ⟨w1.heap.size,2,none⟩ (.slice (some ⟨gg,0,none⟩) (done.length+1) cap)).ownsRow (w1.heap.size+1) 191 3 (.slice (some ⟨gg,0,none⟩) (done.length+1) cap) (done.length+1) ((done++ [(⟨ZE a,ZE b,d⟩:Rq)]).flatMap rqC)):=hD (zeS (by have h9:=HOwn4.out;simpa [rqC] using h9) _ _ jd (by show w1.heap.size<w1.heap.size+1;omega));have hlen9:(done++ [(⟨ZE a,ZE b,d⟩:Rq)]).length=done.length+1:=by simp
       have HRe2:Hid (en=⟨1,0,(done++ [(⟨ZE a,ZE b,d⟩:Rq)])++trip r⟩):=hD (by rw [HRe.out];simp [trip]);have HDn2:Hid (∀r∈done++ [(⟨ZE a,ZE b,d⟩:Rq)],I64 r.client∧I64 r.number∧r.op.length≤1048576):=hD (fun q hq=>by
        simp only [List.mem_append,List.mem_cons,List.not_mem_nil,or_false] at hq;rcases hq with hq|rfl
        · exact HDn.out q hq
        · exact⟨zeJ a,zeJ b,hd⟩)
       clear p2 q2 qf2 hbg;by_cases hc3:c2=3
       · have hr0:r= []:=List.eq_nil_of_length_eq_zero ja;subst hr0 hc3;go_wp2_with fail;go_roundw
         case rel=>exact⟨_,_, [],_,some ⟨gg,0,none⟩,cap,rfl,by simp,Rd.nil _ _ _,by simp,by simp,by rw [hlen9];simp;omega,HRe2.out,HDn2.out,by rw [hlen9];exact HO5.out,by rw [hlen9];exact HOwn5.out,HB5.out,by simp;omega⟩
         case measure=>simp [lenOf]
       · go_wp2_with fail;go_roundw
         case rel=>exact⟨_,_,r,_,some ⟨gg,0,none⟩,cap,rfl,by omega,HR4.out,HLs2.out,by omega,by rw [hlen9];omega,HRe2.out,HDn2.out,by rw [hlen9];exact HO5.out,by rw [hlen9];exact HOwn5.out,HB5.out,by simp;omega⟩
         case measure=>simp only [lenOf];omega
   · have HEn:Hid (en=⟨1,0,done⟩):=hD (by rw [HRe.out,trip_short ls ja,List.append_nil]);have h3':¬(3:Int)≤(ls.length:Int):=by omega
     have B3:=hD (bon B1.out HB.out);have HR3:=hD (HR1.out.below HB.out);have HO3:=hD HO.out;have hdn:=HDn.out;have HQ3:Hid (RqIn wr A3 c3 done):=hD ⟨Rd.own HOwn.out,zbQ HOwn.out,own_max HOwn.out,by omega,fun r hr=>by have:=(hdn r hr).2.2;omega⟩;clear hdn h3;obtain⟨hltx,p0,p1,p2,f0,f1,f2⟩:=HO3.out;obtain⟨wx,hwx⟩:∃wx,wx=wr:=⟨_,rfl⟩;subst hwx;go_wp2_with fail;clear p0 p1 p2 f0 f1 f2;have HVal:=zbK 1 0 done A3 c3 wx HQ3.out;by_cases hv:vEn ⟨1,0,done⟩=0
     · rw [hv] at HVal;refine HVal.mono ?_;rintro e w3 ⟨rfl,b3⟩;have B4:=hD (bon B3.out b3);have HR4:=hD (HR3.out.below b3);have HO4:=hD (HO3.out.below b3);have HQ4:=hD (HQ3.out.below b3);obtain⟨hlt4,p0,p1,p2,f0,f1,f2⟩:=HO4.out;clear b3;go_wp2_with fail;have HVl:=zed 1 0 done A3 c3 w3 (HE.out.below B4.out) HQ4.out (Nat.le_trans (vEn_one hv).1 jf) (fun r hr=>by have h9:=HDn.out r hr;exact⟨h9.1,h9.2.1,Nat.le_trans ((vEn_one hv).2 r hr) jf⟩) ⟨by decide,by decide⟩;by_cases hq:valE ⟨1,0,done⟩=s
       · rw [hq] at HVl;refine HVl.mono ?_;rintro e w4 ⟨rfl,b4⟩;have B5:=hD (bon B4.out b4);have HR5:=hD (HR4.out.below b4);have HO5:=hD (HO4.out.below b4);have HQ5:=hD (HQ4.out.below b4);have HY:Hid (decE s=some ⟨1,0,done⟩):=hD (by rw [HD.out,HEn.out,if_pos ⟨hv,hq⟩]);clear b4 p0 p1 p2 f0 f1 f2 hv hq;obtain⟨hlt5,p0,p1,p2,f0,f1,f2⟩:=HO5.out;obtain⟨hlt6,r0,r1,r2,s0,s1,s2⟩:=HR5.out;go_wp2_with fail;refine bodyPost_ret (v:= .tuple #[.agg #[.int .i64 1, .int .i64 0, .slice A3 done.length c3], .int .i64 0]) (by simp [results,Tryz.results94,go_sem,r0,r1,r2]) rfl (Yn HY.out (((B5.out.setCell (Nat.le_refl _) _).setCell (Nat.le_refl _) _).setCell (Nat.le_refl _) _) rfl ?_);exact Y0 HQ5.out (fun a ha hbk=>by subst ha;have h9:=(HOwn.out.lt a.block rfl).1;omega) _ _ _
       · have HY:Hid (decE s=none):=hD (by rw [HD.out,HEn.out,if_neg (fun h=>hq h.2)]);have hq1:(valE ⟨1,0,done⟩ == s)=false:=by simpa using hq
         generalize valE ⟨1,0,done⟩=v at HVl hq1 hq;exact fo30
     · have HY:Hid (decE s=none):=hD (by rw [HD.out,HEn.out,if_neg (fun h=>hv h.1)]);generalize vEn ⟨1,0,done⟩=v at HVal hv;exact fo21
set_option maxRecDepth 100000
set_option maxHeartbeats 1000000
open Go.Proofs.YtepbbaifpckcpaaGreatDoor
open Go.RowKit
theorem decode_nil (s:List UInt8) (n:Nat) (w:World) (hs:s.length≤1048576) (hg:zK s=some ([],n)):Calls Tryz.prog 94 #[.string ⟨s.toArray⟩] w (RetDec (decE s) w):=by
 have B0:=hD (za w (.cells #[.int .i64 0, .int .i64 0, .slice none 0 0] 129));have HL:=hD (zbn (YU ⟨s.toArray⟩ (w.alloc (.cells #[.int .i64 0, .int .i64 0, .slice none 0 0] 129)) jr) hg);have HD:=hD (decE_nil hg);have HR:=hD (O3.new w (.int .i64 0) (.int .i64 0) (.slice none 0 0) 129);clear hg;go_in;go_wp2_with fail;refine HL.out.mono ?_;rintro e w1 ⟨⟨A,c,rfl,r1,hc⟩,b1⟩;have B1:=hD (bon B0.out b1);obtain⟨hlt,c0,c1,c2,f0,f1,f2⟩:=HR.out.below b1;simp only [List.length_nil];clear b1 r1 hc;exact fo92
theorem decode_any (s:List UInt8) (w:World) (he:Env w) (hs:s.length≤1048576):Calls Tryz.prog 94 #[.string ⟨s.toArray⟩] w (RetDec (decE s) w):=by
 cases hg:zK s with
 |none=>exact decode_bad ⟨s.toArray⟩ w jr hg
 |some x=>
  obtain⟨l,n⟩:=x;match l,hg with
  | [],hg=>exact decode_nil s n w ja hg
  |h::t,hg=>
   by_cases hf:h=yP
   · subst hf;exact decode_finish s t w he ja n hg
   · by_cases hj:h=Ya∧t.length=1
     · obtain⟨rfl,ht⟩:=hj;match t,ht with
       | [x],_=>exact decode_join s x w he ja n hg
     · exact decode_batch s h t w he hs n hg hj hf
end Go.Proofs.YtepbbaifpckcpaaGreatDoor.Q40
