/- The contract of the reference's code of a signature. -/
import Derived.Deep.AppendLies
import Derived.Deep.RegionLaw
import Derived.Test.YtepbbaifpckcpaaGreatDoorFPl
import Derived.Test.YtepbbaifpckcpaaGreatDoorFWa
import Derived.Test.YtepbbaifpckcpaaGreatDoorFFo
namespace Go.Proofs.YtepbbaifpckcpaaGreatDoor
set_option maxRecDepth 100000
set_option maxHeartbeats 4000000
open Go.RowKit
theorem zey (x:Sg) (w:World) (hok:x.ok) (hs:x.sz≤16777216) :
    Calls Tryz.prog 72 #[.agg #[.int .i64 x.server, .int .i64 x.kind, .int .i64 x.view, .int .i64 x.slot, .string ⟨x.digest.toArray⟩, .string ⟨x.sig.toArray⟩]] w (zi (zM x) w):=by
 have hI:=hok;have hz:=hs;unfold Sg.sz at hz;have hl1:=yg [x.server,x.kind,x.view,x.slot] jbp jd;simp only [List.length_cons,List.length_nil] at hl1;have hl2:=zG x.digest ja;have hl3:=zG x.sig ja;have HX0:Hid (∀(w1:World) (g:Nat) (R:Prop),(Bx w (sgC x) 29 ((w1.alloc (.cells #[.int .i64 x.server, .int .i64 x.kind, .int .i64 x.view, .int .i64 x.slot] 3)).drew)∧R)→w1.heap.size=g→Calls Tryz.prog 70 #[.slice (some ⟨g,0,none⟩) 4 4] ((w1.alloc (.cells #[.int .i64 x.server, .int .i64 x.kind, .int .i64 x.view, .int .i64 x.slot] 3)).drew) (Gives w (sgC x) 29 (zo [x.server,x.kind,x.view,x.slot]))):=
  hD (fun w1 g _ hb hg=>ZR [x.server,x.kind,x.view,x.slot] jd jbp (fun A c W hr=>Zx A c _ W hr jd jbp) hb.1 hg)
 have HX1:Hid (∀(t:List UInt8) (w1:World) (R:Prop),t.length≤70368744177664→(Bx w (sgC x) 29 w1∧R)→Calls Tryz.prog 71 #[.string ⟨t.toArray⟩] w1 (Gives w (sgC x) 29 (zk t))):=
  hD (fun t w1 _ ht hb=>zW hb.1 (Zf t ht w1))
 have HC:Hid (∀w1,Bx w (sgC x) 29 w1→Bx w (sgC x) 29 w1∧w1.cell? ⟨w.heap.size,0,none⟩=some (.int .i64 x.server)∧w1.cell? ⟨w.heap.size,1,none⟩=some (.int .i64 x.kind)∧w1.cell? ⟨w.heap.size,2,none⟩=some (.int .i64 x.view)∧w1.cell? ⟨w.heap.size,3,none⟩=some (.int .i64 x.slot)∧w1.cell? ⟨w.heap.size,4,none⟩=some (.string ⟨x.digest.toArray⟩)∧w1.cell? ⟨w.heap.size,5,none⟩=some (.string ⟨x.sig.toArray⟩)):=
  hD (fun w1 hb=>⟨hb,ze hb 0 _ rfl,ze hb 1 _ rfl,ze hb 2 _ rfl,ze hb 3 _ rfl,ze hb 4 _ rfl,ze hb 5 _ rfl⟩)
 have H0:=hD (Zk w (sgC x) 29);have hq0:¬(9223372036854775807<(zo [x.server,x.kind,x.view,x.slot]).length+(zk x.digest).length):=by omega
 have hq1:¬(9223372036854775807<(zo [x.server,x.kind,x.view,x.slot]).length+(zk x.digest).length+(zk x.sig).length):=by omega
 clear hok hs;go_in;go_wp2_with fail;go_region_held3 (fun w1=>Bx w (sgC x) 29 w1∧w1.cell? ⟨w.heap.size,0,none⟩=some (.int .i64 x.server)∧w1.cell? ⟨w.heap.size,1,none⟩=some (.int .i64 x.kind)∧w1.cell? ⟨w.heap.size,2,none⟩=some (.int .i64 x.view)∧w1.cell? ⟨w.heap.size,3,none⟩=some (.int .i64 x.slot)∧w1.cell? ⟨w.heap.size,4,none⟩=some (.string ⟨x.digest.toArray⟩)∧w1.cell? ⟨w.heap.size,5,none⟩=some (.string ⟨x.sig.toArray⟩))
  (first|exact HC.out _ (yF H0.out)|exact HC.out _ (yh (‹Bx _ _ _ _∧_›).1 _)|exact HC.out _ ‹Bx _ _ _ _›)
  (first
   |(go_at_call 70;refine(HX0.out _ _ _ je jd).mono ?_;rintro e w2 ⟨rfl,b2⟩)
   |(go_at_call 71;refine(HX1.out _ _ _ ja je).mono ?_;rintro e w3 ⟨rfl,b3⟩))
 all_goals
  go_wp2_with fail;go_ret;exact ZJ jq (zu ‹_›)
set_option maxRecDepth 100000
set_option maxHeartbeats 2000000
open Go.RowKit
theorem sgC_len' (x:Sg):(sgC x).length=6:=rfl
theorem zeL (A:Option Addr) (c:Nat) (l:List Sg) (w:World) (hr:Rd w 6 A l.length (l.flatMap sgC)) (hok:∀x∈l,x.ok) (hs:sum Sg.sz l≤16777216) :
    Calls Tryz.prog 109 #[.slice A l.length c] w (za7 (l.map zM) w):=by
 obtain⟨i0,hi,hz0,hz1,hz2⟩:=info_parts zdx;have HI:=hD hi;have HZ0:=hD hz0;have HZ1:=hD hz1;have HZ2:=hD hz2;have HR:=hD hr;have hlen:=ZC l hok hs;have HE:Hid (∀x∈l,∀w1,Calls Tryz.prog 72 #[.agg #[.int .i64 x.server, .int .i64 x.kind, .int .i64 x.view, .int .i64 x.slot, .string ⟨x.digest.toArray⟩, .string ⟨x.sig.toArray⟩]] w1 (zi (zM x) w1)):=
  hD (fun x hx w1=>zey x w1 (hok x hx) jbk)
 have hn:l.length≤16777216:=by omega
 clear hi hz0 hz1 hz2 hr hok hs hlen;go_in;go_wp2_with fail;go_loopw [3,4] (fun o i wr=>∃k:Nat,i= .int .i64 k∧k≤l.length∧wr.ownsRow w.heap.size 9 1 o k (strC ((l.take k).map zM))∧Below w.heap.size w wr∧w.heap.size≤wr.heap.size) (fun _ i _=>l.length-(intOf i).toNat)
 case atStart=>exact⟨0,rfl,by omega,by simpa [strC] using World.ownsRow_nil _ _ _ _,Below.refl _ _,Nat.le_refl _⟩
 case round=>
  obtain⟨k,rfl,hk,hown,hb,hge⟩:=hrel;have HO:=hD hown;have HB:=hD hb;clear hown hb;by_cases hlt:k<l.length
  · have i0':(0:Int)≤(k:Int):=by omega
    have i1:(k:Int) <(l.length:Int):=by omega
    obtain⟨g,o,rfl,hg,hcc⟩:=HR.out.at sgC_len' ja hlt;obtain⟨x,hx⟩:∃x,x=l[k]:=⟨_,rfl⟩;have HX:=hD hx.symm;have HM:=hD (hx▸List.getElem_mem hlt:x∈l);clear hx;have a0:wr.cell? ⟨g,o+k * 6,none⟩=some (.int .i64 x.server):=by simpa using hcc wr HB.out 0 _ jb
    have a1:wr.cell? ⟨g,o+k * 6+1,none⟩=some (.int .i64 x.kind):=hcc wr HB.out 1 _ jb;have a2:wr.cell? ⟨g,o+k * 6+2,none⟩=some (.int .i64 x.view):=hcc wr HB.out 2 _ jb;have a3:wr.cell? ⟨g,o+k * 6+3,none⟩=some (.int .i64 x.slot):=hcc wr HB.out 3 _ jb;have a4:wr.cell? ⟨g,o+k * 6+4,none⟩=some (.string ⟨x.digest.toArray⟩):=hcc wr HB.out 4 _ jb;have a5:wr.cell? ⟨g,o+k * 6+5,none⟩=some (.string ⟨x.sig.toArray⟩):=hcc wr HB.out 5 _ jb;clear hcc;go_wp2_with fail;refine(HE.out x HM.out _).mono ?_;rintro e w1 ⟨rfl,b1⟩;have hz:wr.heap.size≤w1.heap.size:=b1.size;have B1:Hid (Below w.heap.size w w1):=hD (HB.out.trans (b1.mono hge));have HO1:Hid (w1.ownsRow w.heap.size 9 1 _ k (strC ((l.take k).map zM))):=hD (ownsRow_below HO.out b1);exact fo161
  · obtain rfl:k=l.length:=by omega
    have HL:Hid (wr.ownsRow w.heap.size 9 1 _ l.length (strC (l.map zM))):=hD jab;obtain⟨A',c',hv⟩:=ownsRow_form HL.out;subst hv;have HR2:=hD (Rd.own HL.out);go_wp2_with fail;go_ret;exact ret_strs _ _ (l.map zM) rfl jd HR2.out HB.out
set_option maxRecDepth 100000
set_option maxHeartbeats 4000000
open Go.RowKit
theorem refStatus_any (s:St) (w:World) (hok:s.ok w) (hs:s.sz≤16777216) :
    Calls Tryz.prog 68 #[.agg #[.int .i64 s.server, .int .i64 s.view, .int .i64 s.length, .int .i64 s.lockView, .string ⟨s.lock.toArray⟩, .slice s.cert.a s.cert.l.length s.cert.c, .int .i64 s.signed.server, .int .i64 s.signed.kind, .int .i64 s.signed.view, .int .i64 s.signed.slot, .string ⟨s.signed.digest.toArray⟩, .string ⟨s.signed.sig.toArray⟩]] w (zi (Zo s) w):=by
 have hI:=hok.1;have hz:=hs;unfold St.sz at hz;have HG:Hid (∀w1,Calls Tryz.prog 72 #[.agg #[.int .i64 s.signed.server, .int .i64 s.signed.kind, .int .i64 s.signed.view, .int .i64 s.signed.slot, .string ⟨s.signed.digest.toArray⟩, .string ⟨s.signed.sig.toArray⟩]] w1 (zi (zM s.signed) w1)):=hD (fun w1=>zey s.signed w1 hok.2.2.2 ja);have HK:Hid (∀w1,Below w.heap.size w w1→Calls Tryz.prog 109 #[.slice s.cert.a s.cert.l.length s.cert.c] w1 (za7 (s.cert.l.map zM) w1)):=hD (fun w1 hb=>zeL _ _ _ w1 (Sl.rd_below hok.2.1 hb) hok.2.2.1 ja);have HL:Hid (∀w1 A c,Rd w1 1 A s.cert.l.length (strC (s.cert.l.map zM))→Calls Tryz.prog 73 #[.slice A s.cert.l.length c] w1 (zi (zg (s.cert.l.map zM)) w1)):=hD (fun w1 A c hr=>by have h3:=ZC s.cert.l hok.2.2.1 ja;have h4:=yT A c (s.cert.l.map zM) w1 jco jg ja;simpa using h4);have hl1:=yg [s.server,s.view,s.length,s.lockView] jh jd;simp only [List.length_cons,List.length_nil] at hl1;have hl2:=zG s.lock ja;have hl3:=(ZC s.cert.l hok.2.2.1 ja).1;have hl4:=Yf s.signed hok.2.2.2 ja;have hl5:=zG (zM s.signed) ja;have HX0:Hid (∀(w1:World) (g:Nat) (R:Prop),(Bx w (stC s) 97 ((w1.alloc (.cells #[.int .i64 s.server, .int .i64 s.view, .int .i64 s.length, .int .i64 s.lockView] 3)).drew)∧R)→w1.heap.size=g→Calls Tryz.prog 70 #[.slice (some ⟨g,0,none⟩) 4 4] ((w1.alloc (.cells #[.int .i64 s.server, .int .i64 s.view, .int .i64 s.length, .int .i64 s.lockView] 3)).drew) (Gives w (stC s) 97 (zo [s.server,s.view,s.length,s.lockView]))):=
  hD (fun w1 g _ hb hg=>ZR [s.server,s.view,s.length,s.lockView] jd jh (fun A c W hr=>Zx A c _ W hr jd jh) hb.1 hg)
 have HX1:Hid (∀(t:List UInt8) (w1:World) (R:Prop),t.length≤70368744177664→(Bx w (stC s) 97 w1∧R)→Calls Tryz.prog 71 #[.string ⟨t.toArray⟩] w1 (Gives w (stC s) 97 (zk t))):=
  hD (fun t w1 _ ht hb=>zW hb.1 (Zf t ht w1))
 have HX2:Hid (∀(w1:World) (R:Prop),(Bx w (stC s) 97 w1∧R)→Calls Tryz.prog 109 #[.slice s.cert.a s.cert.l.length s.cert.c] w1 (zeu w (stC s) 97 (s.cert.l.length) (s.cert.l.map zM))):=
  hD (fun w1 _ hb=>zfl hb.1 (HK.out w1 (zu hb.1)) jd)
 have HX3:Hid (∀(w1:World) (R:Prop) (A:Option Addr) (c:Nat),(Bx w (stC s) 97 w1∧R)→Rd w1 1 A (s.cert.l.length) (strC (s.cert.l.map zM))→Calls Tryz.prog 73 #[.slice A (s.cert.l.length) c] w1 (Gives w (stC s) 97 (zg (s.cert.l.map zM)))):=
  hD (fun w1 _ A c hb hr=>zW hb.1 (HL.out w1 A c hr))
 have HX4:Hid (∀(w1:World) (R:Prop),(Bx w (stC s) 97 w1∧R)→Calls Tryz.prog 72 #[.agg #[.int .i64 s.signed.server, .int .i64 s.signed.kind, .int .i64 s.signed.view, .int .i64 s.signed.slot, .string ⟨s.signed.digest.toArray⟩, .string ⟨s.signed.sig.toArray⟩]] w1 (Gives w (stC s) 97 (zM s.signed))):=
  hD (fun w1 _ hb=>zW hb.1 (HG.out w1))
 have HC:Hid (∀w1,Bx w (stC s) 97 w1→Bx w (stC s) 97 w1∧w1.cell? ⟨w.heap.size,0,none⟩=some (.int .i64 s.server)∧w1.cell? ⟨w.heap.size,1,none⟩=some (.int .i64 s.view)∧w1.cell? ⟨w.heap.size,2,none⟩=some (.int .i64 s.length)∧w1.cell? ⟨w.heap.size,3,none⟩=some (.int .i64 s.lockView)∧w1.cell? ⟨w.heap.size,4,none⟩=some (.string ⟨s.lock.toArray⟩)∧w1.cell? ⟨w.heap.size,5,none⟩=some (.slice s.cert.a s.cert.l.length s.cert.c)∧w1.cell? ⟨w.heap.size,6,none⟩=some (.int .i64 s.signed.server)∧w1.cell? ⟨w.heap.size,7,none⟩=some (.int .i64 s.signed.kind)∧w1.cell? ⟨w.heap.size,8,none⟩=some (.int .i64 s.signed.view)∧w1.cell? ⟨w.heap.size,9,none⟩=some (.int .i64 s.signed.slot)∧w1.cell? ⟨w.heap.size,10,none⟩=some (.string ⟨s.signed.digest.toArray⟩)∧w1.cell? ⟨w.heap.size,11,none⟩=some (.string ⟨s.signed.sig.toArray⟩)):=
  hD (fun w1 hb=>⟨hb,ze hb 0 _ rfl,ze hb 1 _ rfl,ze hb 2 _ rfl,ze hb 3 _ rfl,ze hb 4 _ rfl,ze hb 5 _ rfl,ze hb 6 _ rfl,ze hb 7 _ rfl,ze hb 8 _ rfl,ze hb 9 _ rfl,ze hb 10 _ rfl,ze hb 11 _ rfl⟩)
 have H0:=hD (Zk w (stC s) 97);have hq0:¬(9223372036854775807<(zo [s.server,s.view,s.length,s.lockView]).length+(zk s.lock).length):=by omega
 have hq1:¬(9223372036854775807<(zo [s.server,s.view,s.length,s.lockView]).length+(zk s.lock).length+(zg (s.cert.l.map zM)).length):=by omega
 have hq2:¬(9223372036854775807<(zo [s.server,s.view,s.length,s.lockView]).length+(zk s.lock).length+(zg (s.cert.l.map zM)).length+(zk (zM s.signed)).length):=by omega
 clear hok hs;go_in;go_wp2_with fail;go_region_held3 (fun w1=>Bx w (stC s) 97 w1∧w1.cell? ⟨w.heap.size,0,none⟩=some (.int .i64 s.server)∧w1.cell? ⟨w.heap.size,1,none⟩=some (.int .i64 s.view)∧w1.cell? ⟨w.heap.size,2,none⟩=some (.int .i64 s.length)∧w1.cell? ⟨w.heap.size,3,none⟩=some (.int .i64 s.lockView)∧w1.cell? ⟨w.heap.size,4,none⟩=some (.string ⟨s.lock.toArray⟩)∧w1.cell? ⟨w.heap.size,5,none⟩=some (.slice s.cert.a s.cert.l.length s.cert.c)∧w1.cell? ⟨w.heap.size,6,none⟩=some (.int .i64 s.signed.server)∧w1.cell? ⟨w.heap.size,7,none⟩=some (.int .i64 s.signed.kind)∧w1.cell? ⟨w.heap.size,8,none⟩=some (.int .i64 s.signed.view)∧w1.cell? ⟨w.heap.size,9,none⟩=some (.int .i64 s.signed.slot)∧w1.cell? ⟨w.heap.size,10,none⟩=some (.string ⟨s.signed.digest.toArray⟩)∧w1.cell? ⟨w.heap.size,11,none⟩=some (.string ⟨s.signed.sig.toArray⟩))
  (first|exact HC.out _ (yF H0.out)|exact HC.out _ (yh (‹Bx _ _ _ _∧_›).1 _)|exact HC.out _ ‹Bx _ _ _ _›)
  (first
   |(go_at_call 70;refine(HX0.out _ _ _ je jd).mono ?_;rintro e w2 ⟨rfl,b2⟩)
   |(go_at_call 71;refine(HX1.out _ _ _ ja je).mono ?_;rintro e w3 ⟨rfl,b3⟩)
   |(go_at_call 109;refine(HX2.out _ _ je).mono ?_;rintro e w4 ⟨A2,c2,rfl,r2,b4⟩)
   |(go_at_call 73;refine(HX3.out _ _ _ _ je ?_).mono ?_;assumption;rintro e w5 ⟨rfl,b5⟩)
   |(go_at_call 72;refine(HX4.out _ _ je).mono ?_;rintro e w6 ⟨rfl,b6⟩))
 all_goals
  go_wp2_with fail;go_ret;exact ZJ jq (zu ‹_›)
theorem zdj (d:De) (w:World) (hok:d.ok w) (hs:d.sz≤16777216) :
    Calls Tryz.prog 69 #[.agg #[.int .i64 d.view, .string ⟨d.value.toArray⟩, .slice d.cert.a d.cert.l.length d.cert.c]] w (zi (yQ d) w):=by
 have hI:=hok.1;have hz:=hs;unfold De.sz at hz;have HK:Hid (∀w1,Below w.heap.size w w1→Calls Tryz.prog 109 #[.slice d.cert.a d.cert.l.length d.cert.c] w1 (za7 (d.cert.l.map zM) w1)):=hD (fun w1 hb=>zeL _ _ _ w1 (Sl.rd_below hok.2.1 hb) hok.2.2 ja);have HL:Hid (∀w1 A c,Rd w1 1 A d.cert.l.length (strC (d.cert.l.map zM))→Calls Tryz.prog 73 #[.slice A d.cert.l.length c] w1 (zi (zg (d.cert.l.map zM)) w1)):=hD (fun w1 A c hr=>by have h3:=ZC d.cert.l hok.2.2 ja;have h4:=yT A c (d.cert.l.map zM) w1 jco jg ja;simpa using h4);have hl1:=yg [d.view] jh jd;simp only [List.length_cons,List.length_nil] at hl1;have hl2:=zG d.value ja;have hl3:=(ZC d.cert.l hok.2.2 ja).1;have HX0:Hid (∀(w1:World) (g:Nat) (R:Prop),(Bx w (deC d) 100 ((w1.alloc (.cells #[.int .i64 d.view] 3)).drew)∧R)→w1.heap.size=g→Calls Tryz.prog 70 #[.slice (some ⟨g,0,none⟩) 1 1] ((w1.alloc (.cells #[.int .i64 d.view] 3)).drew) (Gives w (deC d) 100 (zo [d.view]))):=
  hD (fun w1 g _ hb hg=>ZR [d.view] jd jh (fun A c W hr=>Zx A c _ W hr jd jh) hb.1 hg)
 have HX1:Hid (∀(t:List UInt8) (w1:World) (R:Prop),t.length≤70368744177664→(Bx w (deC d) 100 w1∧R)→Calls Tryz.prog 71 #[.string ⟨t.toArray⟩] w1 (Gives w (deC d) 100 (zk t))):=
  hD (fun t w1 _ ht hb=>zW hb.1 (Zf t ht w1))
 have HX2:Hid (∀(w1:World) (R:Prop),(Bx w (deC d) 100 w1∧R)→Calls Tryz.prog 109 #[.slice d.cert.a d.cert.l.length d.cert.c] w1 (zeu w (deC d) 100 (d.cert.l.length) (d.cert.l.map zM))):=
  hD (fun w1 _ hb=>zfl hb.1 (HK.out w1 (zu hb.1)) jd)
 have HX3:Hid (∀(w1:World) (R:Prop) (A:Option Addr) (c:Nat),(Bx w (deC d) 100 w1∧R)→Rd w1 1 A (d.cert.l.length) (strC (d.cert.l.map zM))→Calls Tryz.prog 73 #[.slice A (d.cert.l.length) c] w1 (Gives w (deC d) 100 (zg (d.cert.l.map zM)))):=
  hD (fun w1 _ A c hb hr=>zW hb.1 (HL.out w1 A c hr))
 have HC:Hid (∀w1,Bx w (deC d) 100 w1→Bx w (deC d) 100 w1∧w1.cell? ⟨w.heap.size,0,none⟩=some (.int .i64 d.view)∧w1.cell? ⟨w.heap.size,1,none⟩=some (.string ⟨d.value.toArray⟩)∧w1.cell? ⟨w.heap.size,2,none⟩=some (.slice d.cert.a d.cert.l.length d.cert.c)):=
  hD (fun w1 hb=>⟨hb,ze hb 0 _ rfl,ze hb 1 _ rfl,ze hb 2 _ rfl⟩)
 have H0:=hD (Zk w (deC d) 100);have hq0:¬(9223372036854775807<(zo [d.view]).length+(zk d.value).length):=by omega
 have hq1:¬(9223372036854775807<(zo [d.view]).length+(zk d.value).length+(zg (d.cert.l.map zM)).length):=by omega
 clear hok hs;go_in;go_wp2_with fail;go_region_held3 (fun w1=>Bx w (deC d) 100 w1∧w1.cell? ⟨w.heap.size,0,none⟩=some (.int .i64 d.view)∧w1.cell? ⟨w.heap.size,1,none⟩=some (.string ⟨d.value.toArray⟩)∧w1.cell? ⟨w.heap.size,2,none⟩=some (.slice d.cert.a d.cert.l.length d.cert.c))
  (first|exact HC.out _ (yF H0.out)|exact HC.out _ (yh (‹Bx _ _ _ _∧_›).1 _)|exact HC.out _ ‹Bx _ _ _ _›)
  (first
   |(go_at_call 70;refine(HX0.out _ _ _ je jd).mono ?_;rintro e w2 ⟨rfl,b2⟩)
   |(go_at_call 71;refine(HX1.out _ _ _ ja je).mono ?_;rintro e w3 ⟨rfl,b3⟩)
   |(go_at_call 109;refine(HX2.out _ _ je).mono ?_;rintro e w4 ⟨A2,c2,rfl,r2,b4⟩)
   |(go_at_call 73;refine(HX3.out _ _ _ _ je ?_).mono ?_;assumption;rintro e w5 ⟨rfl,b5⟩))
 all_goals
  go_wp2_with fail;go_ret;exact ZJ jq (zu ‹_›)
set_option maxRecDepth 100000
set_option maxHeartbeats 8000000
open Go.RowKit
theorem hoC_len' (x:Ho):(hoC x).length=4:=rfl
theorem bx_grown {w w1 w2:World} {cs:List Value} {T:TypeId} {row:Option Nat} (h:Bx w cs T w1) (hg:w1.grownBy w2 row) (hr:∀g,row=some g→w.heap.size+1≤g):Bx w cs T w2:=below_grown h (ZN h) hg hr
def Gives2 (w wr:World) (cs:List Value) (T:TypeId) (l:List UInt8) (e:Ending) (w':World):Prop:=e= .returned (.string ⟨l.toArray⟩)∧Bx w cs T w'∧Below wr.heap.size wr w'
theorem gives2_of {P:Program} {k:FuncId} {args:Array Value} {w wr w1:World} {cs:List Value} {T:TypeId} {l:List UInt8} (hb:Bx w cs T w1) (hc:Below wr.heap.size wr w1) (h:Calls P k args w1 (zi l w1)):Calls P k args w1 (Gives2 w wr cs T l):=
 h.mono fun _ _ ⟨he,hw⟩=>⟨he,zau hb hw,bon hc hw⟩
theorem gives2_int {P:Program} {k:FuncId} {w wr w1:World} {cs:List Value} {T:TypeId} (l:List Int) (_hl:l.length≤100) (_hi:∀n∈l,I64 n)
    (hc:∀(A:Option Addr) (c:Nat) (w:World),Rd w 1 A l.length (intC l)→Calls P k #[.slice A l.length c] w (zi (zo l) w)) (hb:Bx w cs T (w1.alloc (.cells (intC l).toArray 3)).drew) (hb2:Below wr.heap.size wr (w1.alloc (.cells (intC l).toArray 3)).drew) {g:Nat} (hg:w1.heap.size=g) :
    Calls P k #[.slice (some ⟨g,0,none⟩) l.length l.length] (w1.alloc (.cells (intC l).toArray 3)).drew (Gives2 w wr cs T (zo l)):=
 hg▸gives2_of hb hb2 (hc _ _ _ ((zcD w1 1 l.length (intC l) 3 (by simp [intC])).below (Below.refl _ _).drew))
def zac (wr:World) (l:List UInt8) (e:Ending) (w':World):Prop:=e= .returned (.string ⟨l.toArray⟩)∧Below wr.heap.size wr w'
theorem ZI {P:Program} {k:FuncId} {args:Array Value} {wr w1:World} {l:List UInt8} (hb:Below wr.heap.size wr w1) (h:Calls P k args w1 (zi l w1)):Calls P k args w1 (zac wr l):=
 h.mono fun _ _ ⟨he,hw⟩=>⟨he,bon hb hw⟩
theorem zfC {P:Program} {k:FuncId} {wr w1:World} (l:List Int)
    (hc:∀(A:Option Addr) (c:Nat) (w:World),Rd w 1 A l.length (intC l)→Calls P k #[.slice A l.length c] w (zi (zo l) w)) (hb:Below wr.heap.size wr (w1.alloc (.cells (intC l).toArray 3)).drew) {g:Nat} (hg:w1.heap.size=g) :
    Calls P k #[.slice (some ⟨g,0,none⟩) l.length l.length] (w1.alloc (.cells (intC l).toArray 3)).drew (zac wr (zo l)):=
 hg▸ZI hb (hc _ _ _ ((zcD w1 1 l.length (intC l) 3 (by simp [intC])).below (Below.refl _ _).drew))
def zfM (wr:World) (n:Nat) (l:List (List UInt8)) (e:Ending) (w':World):Prop:=∃A c,e= .returned (.slice A n c)∧Rd w' 1 A n (strC l)∧Below wr.heap.size wr w'
theorem givesB_strs {P:Program} {k:FuncId} {args:Array Value} {wr w1:World} {l:List (List UInt8)} (hb:Below wr.heap.size wr w1) {n:Nat} (h:Calls P k args w1 (za7 l w1)) (hn:l.length=n):Calls P k args w1 (zfM wr n l):=
 h.mono fun _ _ ⟨A,c,he,hr,hw⟩=>⟨A,c,by rw [he,hn],by rw [←hn];exact hr,bon hb hw⟩
theorem zel (x:Sn) (w:World) (hok:x.ok w) (hs:x.sz≤16777216) :
    Calls Tryz.prog 74 #[.agg #[.int .i64 x.slot, .string ⟨x.root.toArray⟩, .slice x.chunks.a x.chunks.l.length x.chunks.c, .slice x.proof.a x.proof.l.length x.proof.c, .slice x.chain.a x.chain.l.length x.chain.c]] w (zi (Y9 x) w):=by
 obtain⟨i0,hi,hz0,hz1,hz2⟩:=info_parts zdx;have HI:=hD hi;have HZ0:=hD hz0;have HZ1:=hD hz1;have HZ2:=hD hz2;have HOK:=hD hok;have HR:Hid (Rd w 4 x.chain.a x.chain.l.length (x.chain.l.flatMap hoC)):=hD hok.2.2.2.1;have hz:=hs;unfold Sn.sz at hz;have hch:=zai x.chunks.l ja;have hll:=ZW ZF Ho.sz x.chain.l (fun y hy=>zaM y w (hok.2.2.2.2 y hy) jch) (fun y=>by have:=y.sz_ge;omega) ja;have hn:x.chain.l.length≤16777216:=by omega
 have HSZ:Hid (∀y∈x.chain.l,y.sz≤16777216):=hD (fun y hy=>by have:=Zb Ho.sz _ y hy;omega);have HK:Hid (∀w1,Below w.heap.size w w1→Calls Tryz.prog 109 #[.slice x.proof.a x.proof.l.length x.proof.c] w1 (za7 (x.proof.l.map zM) w1)):=hD (fun w1 hb=>zeL _ _ _ w1 (Sl.rd_below hok.2.2.1.1 hb) hok.2.2.1.2 ja);have HL:Hid (∀w1 A c,Rd w1 1 A x.proof.l.length (strC (x.proof.l.map zM))→Calls Tryz.prog 73 #[.slice A x.proof.l.length c] w1 (zi (zg (x.proof.l.map zM)) w1)):=hD (fun w1 A c hr=>by have h3:=ZC x.proof.l hok.2.2.1.2 ja;have h4:=yT A c (x.proof.l.map zM) w1 jco jg ja;simpa using h4);have HM:Hid (∀w1 A c,Rd w1 1 A x.chain.l.length (strC (x.chain.l.map ZF))→Calls Tryz.prog 73 #[.slice A x.chain.l.length c] w1 (zi (zg (x.chain.l.map ZF)) w1)):=hD (fun w1 A c hr=>by have h4:=yT A c (x.chain.l.map ZF) w1 jco jg ja;simpa using h4);have HN:Hid (∀w1,Below w.heap.size w w1→Calls Tryz.prog 73 #[.slice x.chunks.a x.chunks.l.length x.chunks.c] w1 (zi (zg x.chunks.l) w1)):=hD (fun w1 hb=>yT _ _ _ w1 jbd ja ja);have hI:=hok.1;have hl1:=yg [x.slot] jh jd;simp only [List.length_cons,List.length_nil] at hl1;have hl2:=zG x.root ja;have hl3:=(ZC x.proof.l hok.2.2.1.2 ja).1;have hl4:=hch.1;have hl5:=hll.1;have HC5:Hid (∀w1,Bx w (snC x) 36 w1→Bx w (snC x) 36 w1∧w1.cell? ⟨w.heap.size,0,none⟩=some (.int .i64 x.slot)∧w1.cell? ⟨w.heap.size,1,none⟩=some (.string ⟨x.root.toArray⟩)∧w1.cell? ⟨w.heap.size,2,none⟩=some (.slice x.chunks.a x.chunks.l.length x.chunks.c)∧w1.cell? ⟨w.heap.size,3,none⟩=some (.slice x.proof.a x.proof.l.length x.proof.c)∧w1.cell? ⟨w.heap.size,4,none⟩=some (.slice x.chain.a x.chain.l.length x.chain.c)):=
  hD (fun w1 hb=>⟨hb,ze hb 0 _ rfl,ze hb 1 _ rfl,ze hb 2 _ rfl,ze hb 3 _ rfl,ze hb 4 _ rfl⟩)
 have hq0:¬(9223372036854775807<(zo [x.slot]).length+(zk x.root).length):=by omega
 have hq1:¬(9223372036854775807<(zo [x.slot]).length+(zk x.root).length+(zg x.chunks.l).length):=by omega
 have hq2:¬(9223372036854775807<(zo [x.slot]).length+(zk x.root).length+(zg x.chunks.l).length+(zg (x.proof.l.map zM)).length):=by omega
 have hq3:¬(9223372036854775807<(zo [x.slot]).length+(zk x.root).length+(zg x.chunks.l).length+(zg (x.proof.l.map zM)).length+(zg (x.chain.l.map ZF)).length):=by omega
 have HB0:=hD (Zk w (snC x) 36);clear hi hz0 hz1 hz2 hok hch hll;go_in;go_wp2_with fail;go_loopw [3,4] (fun o i wr=>∃k:Nat,i= .int .i64 k∧k≤x.chain.l.length∧wr.ownsRow (w.heap.size+1) 9 1 o k (strC ((x.chain.l.take k).map ZF))∧Bx w (snC x) 36 wr) (fun _ i _=>x.chain.l.length-(intOf i).toNat)
 case atStart=>exact⟨0,rfl,by omega,by simpa [strC] using World.ownsRow_nil _ _ _ _,HB0.out⟩
 case round=>
  obtain⟨k,rfl,hk,hown,hb⟩:=hrel;have HO:=hD hown;have HB:=hD hb;obtain⟨-,b0,b1,b2,b3,b4⟩:=HC5.out wr hb;have hge:=ZN hb;clear hown hb;by_cases hlt:k<x.chain.l.length
  · have i0':(0:Int)≤(k:Int):=by omega
    have i1:(k:Int) <(x.chain.l.length:Int):=by omega
    obtain⟨g,o,hxa,hg,hcc⟩:=HR.out.at hoC_len' ja hlt;obtain⟨y,hy⟩:∃y,y=x.chain.l[k]:=⟨_,rfl⟩;have HY:=hD hy.symm;have hM:y∈x.chain.l:=hy▸List.getElem_mem hlt;have hyok:=HOK.out.2.2.2.2 y hM;have hysz:=HSZ.out y hM;have hyl:=zaM y w hyok hysz;have hye:(ZF y).length=(zo [y.slot]).length+(yQ y.entry).length:=by simp [ZF]
    clear hy;rw [hxa] at b4;have HXA:=hD hxa;clear hxa;have HC:Hid (∀w1,Bx w (snC x) 36 w1→Bx w (snC x) 36 w1∧w1.cell? ⟨w.heap.size,4,none⟩=some (.slice (some ⟨g,o,none⟩) x.chain.l.length x.chain.c)∧w1.cell? ⟨g,o+k * 4,none⟩=some (.int .i64 y.slot)∧w1.cell? ⟨g,o+k * 4+1,none⟩=some (.int .i64 y.entry.view)∧w1.cell? ⟨g,o+k * 4+2,none⟩=some (.string ⟨y.entry.value.toArray⟩)∧w1.cell? ⟨g,o+k * 4+3,none⟩=some (.slice y.entry.cert.a y.entry.cert.l.length y.entry.cert.c)):=
     hD (fun w1 hb=>⟨hb,by have:=(HC5.out w1 hb).2.2.2.2.2;rwa [HXA.out] at this,by simpa using hcc w1 (zu hb) 0 _ jbl,hcc w1 (zu hb) 1 _ jbl,hcc w1 (zu hb) 2 _ jbl,hcc w1 (zu hb) 3 _ jbl⟩)
    have HP:Hid (∀(w1:World) (g:Nat) (R:Prop),(Bx w (snC x) 36 ((w1.alloc (.cells #[.int .i64 y.slot] 3)).drew)∧R)→Below wr.heap.size wr ((w1.alloc (.cells #[.int .i64 y.slot] 3)).drew)→w1.heap.size=g→Calls Tryz.prog 70 #[.slice (some ⟨g,0,none⟩) 1 1] ((w1.alloc (.cells #[.int .i64 y.slot] 3)).drew) (Gives2 w wr (snC x) 36 (zo [y.slot]))):=
     hD (fun w1 g _ hb hb2 hg=>gives2_int [y.slot] jd (by simpa [List.forall_mem_cons] using hyok.1) (fun A c W hr=>Zx A c _ W hr jd (by simpa [List.forall_mem_cons] using hyok.1)) hb.1 hb2 hg)
    have HQ:Hid (∀(w1:World) (R:Prop),(Bx w (snC x) 36 w1∧R)→Below wr.heap.size wr w1→Calls Tryz.prog 69 #[.agg #[.int .i64 y.entry.view, .string ⟨y.entry.value.toArray⟩, .slice y.entry.cert.a y.entry.cert.l.length y.entry.cert.c]] w1 (Gives2 w wr (snC x) 36 (yQ y.entry))):=
     hD (fun w1 _ hb hb2=>gives2_of hb.1 hb2 (zdj y.entry w1 (De.below hyok.2 (zu hb.1)) (by unfold Ho.sz at hysz;omega)))
    have HOW:Hid (∀w1,Below wr.heap.size wr w1→w1.ownsRow (w.heap.size+1) 9 1 _ k (strC ((x.chain.l.take k).map ZF))):=hD (fun w1 hb=>ownsRow_below HO.out hb);have HOB:Hid (∀b,_=some b→w.heap.size+1≤b):=hD (fun b hb=>(HO.out.lt b hb).1);have hqa:¬(9223372036854775807<(zo [y.slot]).length+(yQ y.entry).length):=by omega
    clear hcc hyok;go_wp2_with fail;go_region_held3 (fun w1=>Bx w (snC x) 36 w1∧w1.cell? ⟨w.heap.size,4,none⟩=some (.slice (some ⟨g,o,none⟩) x.chain.l.length x.chain.c)∧w1.cell? ⟨g,o+k * 4,none⟩=some (.int .i64 y.slot)∧w1.cell? ⟨g,o+k * 4+1,none⟩=some (.int .i64 y.entry.view)∧w1.cell? ⟨g,o+k * 4+2,none⟩=some (.string ⟨y.entry.value.toArray⟩)∧w1.cell? ⟨g,o+k * 4+3,none⟩=some (.slice y.entry.cert.a y.entry.cert.l.length y.entry.cert.c))
     (first|exact HC.out _ (yF HB.out)|exact HC.out _ (yh (‹Bx _ _ _ _∧_›).1 _)|exact HC.out _ ‹Bx _ _ _ _› |exact HC.out _ (yF (yh ‹Bx _ _ _ _› _))|exact HC.out _ (bx_grown (‹Bx _ _ _ _∧_›).1 ‹_› HOB.out))
     (first
      |(go_at_call 70;refine(HP.out _ _ _ je (by repeat' (first|exact Below.refl _ _|apply Below.drew|refine Below.alloc ?_ jd _)) jd).mono ?_;rintro e w2 ⟨rfl,c2,d2⟩)
      |(go_at_call 69;refine(HQ.out _ _ je jah).mono ?_;rintro e w3 ⟨rfl,c3,d3⟩)
      |(refine step_append_lies _ jq _ _ _ jq (w.heap.size+1) 9 i0 _ 1 16 Tryz.underlying32 HI.out HZ0.out HZ1.out HZ2.out rfl jf _ _ _ jq (((HOW.out _ ‹Below wr.heap.size wr _›).alloc _).drew) _ 1 1 [.string ⟨(zo [y.slot]++yQ y.entry).toArray⟩] jq jq (World.news_of_block (cs:=#[.string ⟨(zo [y.slot]++yQ y.entry).toArray⟩]) (t:=9) (fr:=(0,0)) (heap_alloc_new _ _)) jv ja jw ja (by have hz:=ZN c3;simp;omega) _ rfl ?_;intro gg cap w4 hown1 hgrow hat hlt4))
    all_goals
     have HO3:Hid (w4.ownsRow (w.heap.size+1) 9 1 _ (k+1) (strC ((x.chain.l.take (k+1)).map ZF))):=hD (by
      rw [List.take_succ_eq_append_getElem hlt,List.map_append,List.map_cons,List.map_nil,HY.out,Y1,show ZF y=zo [y.slot]++yQ y.entry from rfl];simpa only [List.map_take] using hown1)
     have HG3:=hD hgrow;have HB3:=hD c3;clear hown1 hgrow hat c3 d3;go_wp2_with fail;go_roundw
     case rel=>
      exact⟨k+1,by go_num,by omega,HO3.out,bx_grown (yh HB3.out _) HG3.out HOB.out⟩
     case measure=>simp [intOf];omega
  · obtain rfl:k=x.chain.l.length:=by omega
    have HL2:Hid (wr.ownsRow (w.heap.size+1) 9 1 _ x.chain.l.length (strC (x.chain.l.map ZF))):=hD jab;obtain⟨A',c',hv⟩:=ownsRow_form HL2.out;subst hv;have hcl:=HC5.out wr HB.out;clear b0 b1 b2 b3 b4;obtain⟨-,b0,b1,b2,b3,b4⟩:=hcl;have HC6:Hid (∀w1,Below wr.heap.size wr w1→Below wr.heap.size wr w1∧w1.cell? ⟨w.heap.size,0,none⟩=some (.int .i64 x.slot)∧w1.cell? ⟨w.heap.size,1,none⟩=some (.string ⟨x.root.toArray⟩)∧w1.cell? ⟨w.heap.size,2,none⟩=some (.slice x.chunks.a x.chunks.l.length x.chunks.c)∧w1.cell? ⟨w.heap.size,3,none⟩=some (.slice x.proof.a x.proof.l.length x.proof.c)):=
     hD (fun w1 hb=>⟨hb,(hb.cell (p:=⟨w.heap.size,0,none⟩) jo).trans b0,(hb.cell (p:=⟨w.heap.size,1,none⟩) jo).trans b1,(hb.cell (p:=⟨w.heap.size,2,none⟩) jo).trans b2,(hb.cell (p:=⟨w.heap.size,3,none⟩) jo).trans b3⟩)
    have HLB:Hid (∀w1,Below wr.heap.size wr w1→Below w.heap.size w w1):=hD (fun w1 hb=>(zu HB.out).trans (hb.mono ja));have HX0:Hid (∀(w1:World) (g:Nat) (R:Prop),(Below wr.heap.size wr ((w1.alloc (.cells #[.int .i64 x.slot] 3)).drew)∧R)→w1.heap.size=g→Calls Tryz.prog 70 #[.slice (some ⟨g,0,none⟩) 1 1] ((w1.alloc (.cells #[.int .i64 x.slot] 3)).drew) (zac wr (zo [x.slot]))):=
     hD (fun w1 g _ hb hg=>zfC [x.slot] (fun A c W hr=>Zx A c _ W hr jd jh) hb.1 hg)
    have HX1:Hid (∀(t:List UInt8) (w1:World) (R:Prop),t.length≤70368744177664→(Below wr.heap.size wr w1∧R)→Calls Tryz.prog 71 #[.string ⟨t.toArray⟩] w1 (zac wr (zk t))):=
     hD (fun t w1 _ ht hb=>ZI hb.1 (Zf t ht w1))
    have HX2:Hid (∀(w1:World) (R:Prop),(Below wr.heap.size wr w1∧R)→Calls Tryz.prog 73 #[.slice x.chunks.a x.chunks.l.length x.chunks.c] w1 (zac wr (zg x.chunks.l))):=
     hD (fun w1 _ hb=>ZI hb.1 (HN.out w1 (HLB.out w1 hb.1)))
    have HX3:Hid (∀(w1:World) (R:Prop),(Below wr.heap.size wr w1∧R)→Calls Tryz.prog 109 #[.slice x.proof.a x.proof.l.length x.proof.c] w1 (zfM wr x.proof.l.length (x.proof.l.map zM))):=
     hD (fun w1 _ hb=>givesB_strs hb.1 (HK.out w1 (HLB.out w1 hb.1)) jd)
    have HX4:Hid (∀(w1:World) (R:Prop) (A:Option Addr) (c:Nat),(Below wr.heap.size wr w1∧R)→Rd w1 1 A x.proof.l.length (strC (x.proof.l.map zM))→Calls Tryz.prog 73 #[.slice A x.proof.l.length c] w1 (zac wr (zg (x.proof.l.map zM)))):=
     hD (fun w1 _ A c hb hr=>ZI hb.1 (HL.out w1 A c hr))
    have HX5:Hid (∀(w1:World) (R:Prop),(Below wr.heap.size wr w1∧R)→Calls Tryz.prog 73 #[.slice A' x.chain.l.length c'] w1 (zac wr (zg (x.chain.l.map ZF)))):=
     hD (fun w1 _ hb=>ZI hb.1 (HM.out w1 _ _ ((Rd.own HL2.out).below hb.1)))
    go_wp2_with fail;go_region_held3 (fun w1=>Below wr.heap.size wr w1∧w1.cell? ⟨w.heap.size,0,none⟩=some (.int .i64 x.slot)∧w1.cell? ⟨w.heap.size,1,none⟩=some (.string ⟨x.root.toArray⟩)∧w1.cell? ⟨w.heap.size,2,none⟩=some (.slice x.chunks.a x.chunks.l.length x.chunks.c)∧w1.cell? ⟨w.heap.size,3,none⟩=some (.slice x.proof.a x.proof.l.length x.proof.c))
     (first|exact HC6.out _ (Below.refl _ _).drew|exact HC6.out _ (Below.alloc (‹Below _ _ _∧_›).1 (Below.size (‹Below _ _ _∧_›).1) _)|exact HC6.out _ ‹Below wr.heap.size wr _›)
     (first
      |(go_at_call 70;refine(HX0.out _ _ _ je jd).mono ?_;rintro e w2 ⟨rfl,c2⟩)
      |(go_at_call 71;refine(HX1.out _ _ _ ja je).mono ?_;rintro e w3 ⟨rfl,c3⟩)
      |(go_at_call 109;refine(HX3.out _ _ je).mono ?_;rintro e w5 ⟨A5,c5,rfl,r5,d5⟩)
      |(go_at_call_of 73 (Value.slice x.chunks.a x.chunks.l.length x.chunks.c);refine(HX2.out _ _ je).mono ?_;rintro e w4 ⟨rfl,c4⟩)
      |(go_at_call_of 73 (Value.slice A' x.chain.l.length c');refine(HX5.out _ _ je).mono ?_;rintro e w7 ⟨rfl,c7⟩)
      |(go_at_call 73;refine(HX4.out _ _ _ _ je ?_).mono ?_;assumption;rintro e w6 ⟨rfl,c6⟩))
    all_goals
     go_wp2_with fail;go_ret;exact ZJ jq (HLB.out _ ‹_›)
set_option maxRecDepth 100000
set_option maxHeartbeats 16000000
open Go.RowKit
theorem stC_len'' (x:St):(stC x).length=12:=rfl
theorem deC_len'' (x:De):(deC x).length=3:=rfl
theorem YH (m:Ms) (w:World) (hok:m.ok w) (hs:m.sz≤16777216) :
    Calls Tryz.prog 46 #[.agg #[.int .i64 m.kind, .int .i64 m.src, .int .i64 m.dst, .int .i64 m.view, .int .i64 m.slot, .string ⟨m.value.toArray⟩, .int .i64 m.till, .int .i64 m.signed.server, .int .i64 m.signed.kind, .int .i64 m.signed.view, .int .i64 m.signed.slot, .string ⟨m.signed.digest.toArray⟩, .string ⟨m.signed.sig.toArray⟩, .slice m.statuses.a m.statuses.l.length m.statuses.c, .slice m.entries.a m.entries.l.length m.entries.c, .int .i64 m.snapshot.slot, .string ⟨m.snapshot.root.toArray⟩, .slice m.snapshot.chunks.a m.snapshot.chunks.l.length m.snapshot.chunks.c, .slice m.snapshot.proof.a m.snapshot.proof.l.length m.snapshot.proof.c, .slice m.snapshot.chain.a m.snapshot.chain.l.length m.snapshot.chain.c, .slice m.texts.a m.texts.l.length m.texts.c]] w (zi (yO m) w):=by
 obtain⟨i0,hi,hz0,hz1,hz2⟩:=info_parts zdx;have HI:=hD hi;have HZ0:=hD hz0;have HZ1:=hD hz1;have HZ2:=hD hz2;have HRSt:Hid (Rd w 12 m.statuses.a m.statuses.l.length (m.statuses.l.flatMap stC)):=hD hok.2.2.1.1;have HRDe:Hid (Rd w 3 m.entries.a m.entries.l.length (m.entries.l.flatMap deC)):=hD hok.2.2.2.1.1;have hz:=hs;unfold Ms.sz at hz;have hch:=zai m.texts.l ja;have hls:=ZW Zo St.sz m.statuses.l (fun y hy=>zbo y w (hok.2.2.1.2 y hy) jcf) (fun y=>by have:=y.sz_ge;omega) ja;have hle:=ZW yQ De.sz m.entries.l (fun y hy=>Y7 y w (hok.2.2.2.1.2 y hy) jcg) (fun y=>y.sz_ge) ja;have hn1:m.statuses.l.length≤16777216:=by omega
 have hn2:m.entries.l.length≤16777216:=by omega
 have HESt:Hid (∀x∈m.statuses.l,∀w1,Below w.heap.size w w1→Calls Tryz.prog 68 #[.agg #[.int .i64 x.server, .int .i64 x.view, .int .i64 x.length, .int .i64 x.lockView, .string ⟨x.lock.toArray⟩, .slice x.cert.a x.cert.l.length x.cert.c, .int .i64 x.signed.server, .int .i64 x.signed.kind, .int .i64 x.signed.view, .int .i64 x.signed.slot, .string ⟨x.signed.digest.toArray⟩, .string ⟨x.signed.sig.toArray⟩]] w1 (zi (Zo x) w1)):=
  hD (fun x hx w1 hb=>refStatus_any x w1 (St.below (hok.2.2.1.2 x hx) hb) (by have:=Zb St.sz _ x hx;omega))
 have HEDe:Hid (∀x∈m.entries.l,∀w1,Below w.heap.size w w1→Calls Tryz.prog 69 #[.agg #[.int .i64 x.view, .string ⟨x.value.toArray⟩, .slice x.cert.a x.cert.l.length x.cert.c]] w1 (zi (yQ x) w1)):=
  hD (fun x hx w1 hb=>zdj x w1 (De.below (hok.2.2.2.1.2 x hx) hb) (by have:=Zb De.sz _ x hx;omega))
 have HG:Hid (∀w1,Calls Tryz.prog 72 #[.agg #[.int .i64 m.signed.server, .int .i64 m.signed.kind, .int .i64 m.signed.view, .int .i64 m.signed.slot, .string ⟨m.signed.digest.toArray⟩, .string ⟨m.signed.sig.toArray⟩]] w1 (zi (zM m.signed) w1)):=hD (fun w1=>zey m.signed w1 hok.2.1 ja);have HN:Hid (∀w1,Below w.heap.size w w1→Calls Tryz.prog 74 #[.agg #[.int .i64 m.snapshot.slot, .string ⟨m.snapshot.root.toArray⟩, .slice m.snapshot.chunks.a m.snapshot.chunks.l.length m.snapshot.chunks.c, .slice m.snapshot.proof.a m.snapshot.proof.l.length m.snapshot.proof.c, .slice m.snapshot.chain.a m.snapshot.chain.l.length m.snapshot.chain.c]] w1 (zi (Y9 m.snapshot) w1)):=hD (fun w1 hb=>zel _ w1 (Sn.below hok.2.2.2.2.1 hb) ja);have HT:Hid (∀w1,Below w.heap.size w w1→Calls Tryz.prog 73 #[.slice m.texts.a m.texts.l.length m.texts.c] w1 (zi (zg m.texts.l) w1)):=hD (fun w1 hb=>yT _ _ _ w1 jaz ja ja);have HS:Hid (∀w1 A c,Rd w1 1 A m.statuses.l.length (strC (m.statuses.l.map Zo))→Calls Tryz.prog 73 #[.slice A m.statuses.l.length c] w1 (zi (zg (m.statuses.l.map Zo)) w1)):=hD (fun w1 A c hr=>by have h4:=yT A c (m.statuses.l.map Zo) w1 jco jg ja;simpa using h4);have HD:Hid (∀w1 A c,Rd w1 1 A m.entries.l.length (strC (m.entries.l.map yQ))→Calls Tryz.prog 73 #[.slice A m.entries.l.length c] w1 (zi (zg (m.entries.l.map yQ)) w1)):=hD (fun w1 A c hr=>by have h4:=yT A c (m.entries.l.map yQ) w1 jco jg ja;simpa using h4);have hI:=hok.1;have hl1:=yg [m.kind,m.src,m.dst,m.view,m.slot,m.till] jh jd;simp only [List.length_cons,List.length_nil] at hl1;have hl2:=zG m.value ja;have hl3:=Yf m.signed hok.2.1 ja;have hl4:=zG (zM m.signed) ja;have hl5:=hls.1;have hl6:=hle.1;have hl7:=zcc m.snapshot w hok.2.2.2.2.1 ja;have hl8:=zG (Y9 m.snapshot) ja;have hl9:=hch.1;have hq0:¬(9223372036854775807<(zo [m.kind,m.src,m.dst,m.view,m.slot,m.till]).length+(zk m.value).length):=by omega
 have hq1:¬(9223372036854775807<(zo [m.kind,m.src,m.dst,m.view,m.slot,m.till]).length+(zk m.value).length+(zk (zM m.signed)).length):=by omega
 have hq2:¬(9223372036854775807<(zo [m.kind,m.src,m.dst,m.view,m.slot,m.till]).length+(zk m.value).length+(zk (zM m.signed)).length+(zg (m.statuses.l.map Zo)).length):=by omega
 have hq3:¬(9223372036854775807<(zo [m.kind,m.src,m.dst,m.view,m.slot,m.till]).length+(zk m.value).length+(zk (zM m.signed)).length+(zg (m.statuses.l.map Zo)).length+(zg (m.entries.l.map yQ)).length):=by omega
 have hq4:¬(9223372036854775807<(zo [m.kind,m.src,m.dst,m.view,m.slot,m.till]).length+(zk m.value).length+(zk (zM m.signed)).length+(zg (m.statuses.l.map Zo)).length+(zg (m.entries.l.map yQ)).length+(zk (Y9 m.snapshot)).length):=by omega
 have hq5:¬(9223372036854775807<(zo [m.kind,m.src,m.dst,m.view,m.slot,m.till]).length+(zk m.value).length+(zk (zM m.signed)).length+(zg (m.statuses.l.map Zo)).length+(zg (m.entries.l.map yQ)).length+(zk (Y9 m.snapshot)).length+(zg m.texts.l).length):=by omega
 have HC5:Hid (∀w1,Bx w (msC m) 38 w1→w1.cell? ⟨w.heap.size,0,none⟩=some (.int .i64 m.kind)∧w1.cell? ⟨w.heap.size,1,none⟩=some (.int .i64 m.src)∧w1.cell? ⟨w.heap.size,2,none⟩=some (.int .i64 m.dst)∧w1.cell? ⟨w.heap.size,3,none⟩=some (.int .i64 m.view)∧w1.cell? ⟨w.heap.size,4,none⟩=some (.int .i64 m.slot)∧w1.cell? ⟨w.heap.size,5,none⟩=some (.string ⟨m.value.toArray⟩)∧w1.cell? ⟨w.heap.size,6,none⟩=some (.int .i64 m.till)∧w1.cell? ⟨w.heap.size,7,none⟩=some (.int .i64 m.signed.server)∧w1.cell? ⟨w.heap.size,8,none⟩=some (.int .i64 m.signed.kind)∧w1.cell? ⟨w.heap.size,9,none⟩=some (.int .i64 m.signed.view)∧w1.cell? ⟨w.heap.size,10,none⟩=some (.int .i64 m.signed.slot)∧w1.cell? ⟨w.heap.size,11,none⟩=some (.string ⟨m.signed.digest.toArray⟩)∧w1.cell? ⟨w.heap.size,12,none⟩=some (.string ⟨m.signed.sig.toArray⟩)∧w1.cell? ⟨w.heap.size,13,none⟩=some (.slice m.statuses.a m.statuses.l.length m.statuses.c)∧w1.cell? ⟨w.heap.size,14,none⟩=some (.slice m.entries.a m.entries.l.length m.entries.c)∧w1.cell? ⟨w.heap.size,15,none⟩=some (.int .i64 m.snapshot.slot)∧w1.cell? ⟨w.heap.size,16,none⟩=some (.string ⟨m.snapshot.root.toArray⟩)∧w1.cell? ⟨w.heap.size,17,none⟩=some (.slice m.snapshot.chunks.a m.snapshot.chunks.l.length m.snapshot.chunks.c)∧w1.cell? ⟨w.heap.size,18,none⟩=some (.slice m.snapshot.proof.a m.snapshot.proof.l.length m.snapshot.proof.c)∧w1.cell? ⟨w.heap.size,19,none⟩=some (.slice m.snapshot.chain.a m.snapshot.chain.l.length m.snapshot.chain.c)∧w1.cell? ⟨w.heap.size,20,none⟩=some (.slice m.texts.a m.texts.l.length m.texts.c)):=
  hD (fun w1 hb=>⟨ze hb 0 _ rfl,ze hb 1 _ rfl,ze hb 2 _ rfl,ze hb 3 _ rfl,ze hb 4 _ rfl,ze hb 5 _ rfl,ze hb 6 _ rfl,ze hb 7 _ rfl,ze hb 8 _ rfl,ze hb 9 _ rfl,ze hb 10 _ rfl,ze hb 11 _ rfl,ze hb 12 _ rfl,ze hb 13 _ rfl,ze hb 14 _ rfl,ze hb 15 _ rfl,ze hb 16 _ rfl,ze hb 17 _ rfl,ze hb 18 _ rfl,ze hb 19 _ rfl,ze hb 20 _ rfl⟩)
 have HB0:=hD (Zk w (msC m) 38);clear hi hz0 hz1 hz2 hok hch hls hle hs;go_in;go_wp2_with fail;go_loopw [3,5] (fun o i wr=>∃k:Nat,i= .int .i64 k∧k≤m.statuses.l.length∧wr.ownsRow (w.heap.size+1) 9 1 o k (strC ((m.statuses.l.take k).map Zo))∧Bx w (msC m) 38 wr) (fun _ i _=>m.statuses.l.length-(intOf i).toNat)
 case atStart=>exact⟨0,rfl,by omega,by simpa [strC] using World.ownsRow_nil _ _ _ _,HB0.out⟩
 case round=>
  obtain⟨k,rfl,hk,hown,hb⟩:=hrel;have HO:=hD hown;have HB:=hD hb;have HLw:=hD (zu hb);have hge:=ZN hb;obtain⟨b0,b1,b2,b3,b4,b5,b6,b7,b8,b9,b10,b11,b12,b13,b14,b15,b16,b17,b18,b19,b20⟩:=HC5.out wr hb;clear hown hb;by_cases hlt:k<m.statuses.l.length
  · have i0':(0:Int)≤(k:Int):=by omega
    have i1:(k:Int) <(m.statuses.l.length:Int):=by omega
    obtain⟨g,o,hxa,hg,hcc⟩:=HRSt.out.at stC_len'' ja hlt;obtain⟨x,hx⟩:∃x,x=m.statuses.l[k]:=⟨_,rfl⟩;have HX:=hD hx.symm;have HM:=hD (hx▸List.getElem_mem hlt:x∈m.statuses.l);clear hx;rw [hxa] at b13;have HXA:=hD hxa;clear hxa;have a0:wr.cell? ⟨g,o+k * 12,none⟩=some (.int .i64 x.server):=by simpa using hcc wr HLw.out 0 _ jb
    have a1:wr.cell? ⟨g,o+k * 12+1,none⟩=some (.int .i64 x.view):=hcc wr HLw.out 1 _ jb;have a2:wr.cell? ⟨g,o+k * 12+2,none⟩=some (.int .i64 x.length):=hcc wr HLw.out 2 _ jb;have a3:wr.cell? ⟨g,o+k * 12+3,none⟩=some (.int .i64 x.lockView):=hcc wr HLw.out 3 _ jb;have a4:wr.cell? ⟨g,o+k * 12+4,none⟩=some (.string ⟨x.lock.toArray⟩):=hcc wr HLw.out 4 _ jb;have a5:wr.cell? ⟨g,o+k * 12+5,none⟩=some (.slice x.cert.a x.cert.l.length x.cert.c):=hcc wr HLw.out 5 _ jb;have a6:wr.cell? ⟨g,o+k * 12+6,none⟩=some (.int .i64 x.signed.server):=hcc wr HLw.out 6 _ jb;have a7:wr.cell? ⟨g,o+k * 12+7,none⟩=some (.int .i64 x.signed.kind):=hcc wr HLw.out 7 _ jb;have a8:wr.cell? ⟨g,o+k * 12+8,none⟩=some (.int .i64 x.signed.view):=hcc wr HLw.out 8 _ jb;have a9:wr.cell? ⟨g,o+k * 12+9,none⟩=some (.int .i64 x.signed.slot):=hcc wr HLw.out 9 _ jb;have a10:wr.cell? ⟨g,o+k * 12+10,none⟩=some (.string ⟨x.signed.digest.toArray⟩):=hcc wr HLw.out 10 _ jb;have a11:wr.cell? ⟨g,o+k * 12+11,none⟩=some (.string ⟨x.signed.sig.toArray⟩):=hcc wr HLw.out 11 _ jb;clear hcc;go_wp2_with fail;refine((HESt.out x HM.out _ HLw.out)).mono ?_;rintro e w1 ⟨rfl,b1⟩;have hz:wr.heap.size≤w1.heap.size:=b1.size;have HO1:Hid (w1.ownsRow (w.heap.size+1) 9 1 _ k (strC ((m.statuses.l.take k).map Zo))):=hD (ownsRow_below HO.out b1);have B1:=hD b1;clear b1 a0 a1 a2 a3 a4 a5 a6 a7 a8 a9 a10 a11;go_wp2_with (at_builtin;refine wpList_append_own _ rfl _ _ 32 rfl (w.heap.size+1) 9 i0 _ 1 16 Tryz.underlying32 HI.out HZ0.out HZ1.out HZ2.out rfl jf _ _ _ rfl (HO1.out.alloc _) ⟨w1.heap.size,0,none⟩ 1 1 [.string ⟨(Zo x).toArray⟩] rfl rfl (z8 _ _ _ _ rfl) jv jw ja jg ?_);intro v' w4 hown' hgrow _;have HO2:Hid (w4.ownsRow (w.heap.size+1) 9 1 v' (k+1) (strC ((m.statuses.l.take (k+1)).map Zo))):=hD (fo41);have HG2:=hD hgrow;clear hown' hgrow;go_wp2_with fail;go_roundw
    case rel=>
     exact⟨k+1,by go_num,by omega,HO2.out,bx_grown (yh (zau HB.out B1.out) _) HG2.out (fun b hb=>(HO1.out.lt b hb).1)⟩
    case measure=>simp [intOf];omega
  · obtain rfl:k=m.statuses.l.length:=by omega
    have HL2:Hid (wr.ownsRow (w.heap.size+1) 9 1 _ m.statuses.l.length (strC (m.statuses.l.map Zo))):=hD jab;obtain⟨A',c',hv⟩:=ownsRow_form HL2.out;subst hv;have HRs:=hD (Rd.own HL2.out);clear HO HL2;obtain⟨w2,hw2⟩:∃w2:World,w2=wr:=⟨_,rfl⟩;subst hw2;have HBx:=HB;clear HB hk hlt;go_wp2_with fail;go_loopw [4,6] (fun o i wr=>∃k:Nat,i= .int .i64 k∧k≤m.entries.l.length∧wr.ownsRow w2.heap.size 9 1 o k (strC ((m.entries.l.take k).map yQ))∧Below w2.heap.size w2 wr) (fun _ i _=>m.entries.l.length-(intOf i).toNat)
    case atStart=>exact⟨0,rfl,by omega,by simpa [strC] using World.ownsRow_nil _ _ _ _,Below.refl _ _⟩
    case round=>
     clear b0 b1 b2 b3 b4 b5 b6 b7 b8 b9 b10 b11 b12 b13 b14 b15 b16 b17 b18 b19 b20 HLw;obtain⟨k,rfl,hk,hown,hb⟩:=hrel;have HO:=hD hown;have HB:=hD hb;have hw:=zau HBx.out hb;have HLw:=hD (zu hw);have hge2:=hb.size;obtain⟨b0,b1,b2,b3,b4,b5,b6,b7,b8,b9,b10,b11,b12,b13,b14,b15,b16,b17,b18,b19,b20⟩:=HC5.out wr hw;clear hown hb hw;by_cases hlt:k<m.entries.l.length
     · have i0':(0:Int)≤(k:Int):=by omega
       have i1:(k:Int) <(m.entries.l.length:Int):=by omega
       obtain⟨g,o,hxa,hg,hcc⟩:=HRDe.out.at deC_len'' ja hlt;obtain⟨x,hx⟩:∃x,x=m.entries.l[k]:=⟨_,rfl⟩;have HX:=hD hx.symm;have HM:=hD (hx▸List.getElem_mem hlt:x∈m.entries.l);clear hx;rw [hxa] at b14;have HXA:=hD hxa;clear hxa;have a0:wr.cell? ⟨g,o+k * 3,none⟩=some (.int .i64 x.view):=by simpa using hcc wr HLw.out 0 _ jb
       have a1:wr.cell? ⟨g,o+k * 3+1,none⟩=some (.string ⟨x.value.toArray⟩):=hcc wr HLw.out 1 _ jb;have a2:wr.cell? ⟨g,o+k * 3+2,none⟩=some (.slice x.cert.a x.cert.l.length x.cert.c):=hcc wr HLw.out 2 _ jb;clear hcc;go_wp2_with fail;refine((HEDe.out x HM.out _ HLw.out)).mono ?_;rintro e w1 ⟨rfl,b1⟩;have hz:wr.heap.size≤w1.heap.size:=b1.size;have HO1:Hid (w1.ownsRow (w2.heap.size) 9 1 _ k (strC ((m.entries.l.take k).map yQ))):=hD (ownsRow_below HO.out b1);have B1:=hD b1;clear b1 a0 a1 a2;go_wp2_with (at_builtin;refine wpList_append_own _ rfl _ _ 32 rfl (w2.heap.size) 9 i0 _ 1 16 Tryz.underlying32 HI.out HZ0.out HZ1.out HZ2.out rfl jf _ _ _ rfl (HO1.out.alloc _) ⟨w1.heap.size,0,none⟩ 1 1 [.string ⟨(yQ x).toArray⟩] rfl rfl (z8 _ _ _ _ rfl) jv jw ja jg ?_);intro v' w4 hown' hgrow _;have HO2:Hid (w4.ownsRow (w2.heap.size) 9 1 v' (k+1) (strC ((m.entries.l.take (k+1)).map yQ))):=hD (fo41);have HG2:=hD hgrow;clear hown' hgrow;go_wp2_with fail;go_roundw
       case rel=>
        exact⟨k+1,by go_num,by omega,HO2.out,below_grown (Below.alloc (bon HB.out B1.out) ja _) jg HG2.out (fun b hb=>(HO1.out.lt b hb).1)⟩
       case measure=>simp [intOf];omega
     · obtain rfl:k=m.entries.l.length:=by omega
       have HL2:Hid (wr.ownsRow w2.heap.size 9 1 _ m.entries.l.length (strC (m.entries.l.map yQ))):=hD jab;obtain⟨A2,c2,hv⟩:=ownsRow_form HL2.out;subst hv;have HRe:=hD (Rd.own HL2.out);have HRt:=hD (Rd.below HRs.out HB.out);clear HO HL2 hk hlt;have HC6:Hid (∀w1,Below wr.heap.size wr w1→Below wr.heap.size wr w1∧w1.cell? ⟨w.heap.size,0,none⟩=some (.int .i64 m.kind)∧w1.cell? ⟨w.heap.size,1,none⟩=some (.int .i64 m.src)∧w1.cell? ⟨w.heap.size,2,none⟩=some (.int .i64 m.dst)∧w1.cell? ⟨w.heap.size,3,none⟩=some (.int .i64 m.view)∧w1.cell? ⟨w.heap.size,4,none⟩=some (.int .i64 m.slot)∧w1.cell? ⟨w.heap.size,5,none⟩=some (.string ⟨m.value.toArray⟩)∧w1.cell? ⟨w.heap.size,6,none⟩=some (.int .i64 m.till)∧w1.cell? ⟨w.heap.size,7,none⟩=some (.int .i64 m.signed.server)∧w1.cell? ⟨w.heap.size,8,none⟩=some (.int .i64 m.signed.kind)∧w1.cell? ⟨w.heap.size,9,none⟩=some (.int .i64 m.signed.view)∧w1.cell? ⟨w.heap.size,10,none⟩=some (.int .i64 m.signed.slot)∧w1.cell? ⟨w.heap.size,11,none⟩=some (.string ⟨m.signed.digest.toArray⟩)∧w1.cell? ⟨w.heap.size,12,none⟩=some (.string ⟨m.signed.sig.toArray⟩)):=
        hD (fun w1 hb=>⟨hb,(hb.cell (p:=⟨w.heap.size,0,none⟩) jo).trans b0,(hb.cell (p:=⟨w.heap.size,1,none⟩) jo).trans b1,(hb.cell (p:=⟨w.heap.size,2,none⟩) jo).trans b2,(hb.cell (p:=⟨w.heap.size,3,none⟩) jo).trans b3,(hb.cell (p:=⟨w.heap.size,4,none⟩) jo).trans b4,(hb.cell (p:=⟨w.heap.size,5,none⟩) jo).trans b5,(hb.cell (p:=⟨w.heap.size,6,none⟩) jo).trans b6,(hb.cell (p:=⟨w.heap.size,7,none⟩) jo).trans b7,(hb.cell (p:=⟨w.heap.size,8,none⟩) jo).trans b8,(hb.cell (p:=⟨w.heap.size,9,none⟩) jo).trans b9,(hb.cell (p:=⟨w.heap.size,10,none⟩) jo).trans b10,(hb.cell (p:=⟨w.heap.size,11,none⟩) jo).trans b11,(hb.cell (p:=⟨w.heap.size,12,none⟩) jo).trans b12⟩)
       have HC7:Hid (∀w1,Below wr.heap.size wr w1→Below wr.heap.size wr w1∧w1.cell? ⟨w.heap.size,15,none⟩=some (.int .i64 m.snapshot.slot)∧w1.cell? ⟨w.heap.size,16,none⟩=some (.string ⟨m.snapshot.root.toArray⟩)∧w1.cell? ⟨w.heap.size,17,none⟩=some (.slice m.snapshot.chunks.a m.snapshot.chunks.l.length m.snapshot.chunks.c)∧w1.cell? ⟨w.heap.size,18,none⟩=some (.slice m.snapshot.proof.a m.snapshot.proof.l.length m.snapshot.proof.c)∧w1.cell? ⟨w.heap.size,19,none⟩=some (.slice m.snapshot.chain.a m.snapshot.chain.l.length m.snapshot.chain.c)∧w1.cell? ⟨w.heap.size,20,none⟩=some (.slice m.texts.a m.texts.l.length m.texts.c)):=
        hD (fun w1 hb=>⟨hb,(hb.cell (p:=⟨w.heap.size,15,none⟩) jo).trans b15,(hb.cell (p:=⟨w.heap.size,16,none⟩) jo).trans b16,(hb.cell (p:=⟨w.heap.size,17,none⟩) jo).trans b17,(hb.cell (p:=⟨w.heap.size,18,none⟩) jo).trans b18,(hb.cell (p:=⟨w.heap.size,19,none⟩) jo).trans b19,(hb.cell (p:=⟨w.heap.size,20,none⟩) jo).trans b20⟩)
       have HLB:Hid (∀w1,Below wr.heap.size wr w1→Below w.heap.size w w1):=hD (fun w1 hb=>HLw.out.trans (hb.mono ja));have HX0:Hid (∀(w1:World) (g:Nat) (R:Prop),(Below wr.heap.size wr ((w1.alloc (.cells #[.int .i64 m.kind, .int .i64 m.src, .int .i64 m.dst, .int .i64 m.view, .int .i64 m.slot, .int .i64 m.till] 3)).drew)∧R)→w1.heap.size=g→Calls Tryz.prog 70 #[.slice (some ⟨g,0,none⟩) 6 6] ((w1.alloc (.cells #[.int .i64 m.kind, .int .i64 m.src, .int .i64 m.dst, .int .i64 m.view, .int .i64 m.slot, .int .i64 m.till] 3)).drew) (zac wr (zo [m.kind,m.src,m.dst,m.view,m.slot,m.till]))):=
        hD (fun w1 g _ hb hg=>zfC [m.kind,m.src,m.dst,m.view,m.slot,m.till] (fun A c W hr=>Zx A c _ W hr jd jh) hb.1 hg)
       have HX1:Hid (∀(t:List UInt8) (w1:World) (R:Prop),t.length≤70368744177664→(Below wr.heap.size wr w1∧R)→Calls Tryz.prog 71 #[.string ⟨t.toArray⟩] w1 (zac wr (zk t))):=
        hD (fun t w1 _ ht hb=>ZI hb.1 (Zf t ht w1))
       have HX2:Hid (∀(w1:World) (R:Prop),(Below wr.heap.size wr w1∧R)→Calls Tryz.prog 72 #[.agg #[.int .i64 m.signed.server, .int .i64 m.signed.kind, .int .i64 m.signed.view, .int .i64 m.signed.slot, .string ⟨m.signed.digest.toArray⟩, .string ⟨m.signed.sig.toArray⟩]] w1 (zac wr (zM m.signed))):=
        hD (fun w1 _ hb=>ZI hb.1 (HG.out w1))
       have HX3:Hid (∀(w1:World) (R:Prop),(Below wr.heap.size wr w1∧R)→Calls Tryz.prog 73 #[.slice A' m.statuses.l.length c'] w1 (zac wr (zg (m.statuses.l.map Zo)))):=
        hD (fun w1 _ hb=>ZI hb.1 (HS.out w1 _ _ (HRt.out.below hb.1)))
       have HX4:Hid (∀(w1:World) (R:Prop),(Below wr.heap.size wr w1∧R)→Calls Tryz.prog 73 #[.slice A2 m.entries.l.length c2] w1 (zac wr (zg (m.entries.l.map yQ)))):=
        hD (fun w1 _ hb=>ZI hb.1 (HD.out w1 _ _ (HRe.out.below hb.1)))
       have HX5:Hid (∀(w1:World) (R:Prop),(Below wr.heap.size wr w1∧R)→Calls Tryz.prog 73 #[.slice m.texts.a m.texts.l.length m.texts.c] w1 (zac wr (zg m.texts.l))):=
        hD (fun w1 _ hb=>ZI hb.1 (HT.out w1 (HLB.out _ hb.1)))
       have HX6:Hid (∀(w1:World) (R:Prop),(Below wr.heap.size wr w1∧R)→Calls Tryz.prog 74 #[.agg #[.int .i64 m.snapshot.slot, .string ⟨m.snapshot.root.toArray⟩, .slice m.snapshot.chunks.a m.snapshot.chunks.l.length m.snapshot.chunks.c, .slice m.snapshot.proof.a m.snapshot.proof.l.length m.snapshot.proof.c, .slice m.snapshot.chain.a m.snapshot.chain.l.length m.snapshot.chain.c]] w1 (zac wr (Y9 m.snapshot))):=
        hD (fun w1 _ hb=>ZI hb.1 (HN.out w1 (HLB.out _ hb.1)))
       clear HESt HEDe HRSt HRDe HRs;go_wp2_with fail;go_region_held3 (fun w1=>Below wr.heap.size wr w1∧w1.cell? ⟨w.heap.size,0,none⟩=some (.int .i64 m.kind)∧w1.cell? ⟨w.heap.size,1,none⟩=some (.int .i64 m.src)∧w1.cell? ⟨w.heap.size,2,none⟩=some (.int .i64 m.dst)∧w1.cell? ⟨w.heap.size,3,none⟩=some (.int .i64 m.view)∧w1.cell? ⟨w.heap.size,4,none⟩=some (.int .i64 m.slot)∧w1.cell? ⟨w.heap.size,5,none⟩=some (.string ⟨m.value.toArray⟩)∧w1.cell? ⟨w.heap.size,6,none⟩=some (.int .i64 m.till)∧w1.cell? ⟨w.heap.size,7,none⟩=some (.int .i64 m.signed.server)∧w1.cell? ⟨w.heap.size,8,none⟩=some (.int .i64 m.signed.kind)∧w1.cell? ⟨w.heap.size,9,none⟩=some (.int .i64 m.signed.view)∧w1.cell? ⟨w.heap.size,10,none⟩=some (.int .i64 m.signed.slot)∧w1.cell? ⟨w.heap.size,11,none⟩=some (.string ⟨m.signed.digest.toArray⟩)∧w1.cell? ⟨w.heap.size,12,none⟩=some (.string ⟨m.signed.sig.toArray⟩))
        (first|exact HC6.out _ (Below.refl _ _).drew|exact HC6.out _ (Below.alloc (‹Below _ _ _∧_›).1 (Below.size (‹Below _ _ _∧_›).1) _)|exact HC6.out _ ‹Below wr.heap.size wr _›)
        (first
         |(go_at_call 70;refine(HX0.out _ _ _ je jd).mono ?_;rintro e w5 ⟨rfl,d5⟩)
         |(go_at_call 71;refine(HX1.out _ _ _ ja je).mono ?_;rintro e w6 ⟨rfl,d6⟩)
         |(go_at_call 72;refine(HX2.out _ _ je).mono ?_;rintro e w7 ⟨rfl,d7⟩))
       all_goals
        clear HC6 HX0 HX2;go_wp2_with fail;go_region_held3 (fun w1=>Below wr.heap.size wr w1∧w1.cell? ⟨w.heap.size,15,none⟩=some (.int .i64 m.snapshot.slot)∧w1.cell? ⟨w.heap.size,16,none⟩=some (.string ⟨m.snapshot.root.toArray⟩)∧w1.cell? ⟨w.heap.size,17,none⟩=some (.slice m.snapshot.chunks.a m.snapshot.chunks.l.length m.snapshot.chunks.c)∧w1.cell? ⟨w.heap.size,18,none⟩=some (.slice m.snapshot.proof.a m.snapshot.proof.l.length m.snapshot.proof.c)∧w1.cell? ⟨w.heap.size,19,none⟩=some (.slice m.snapshot.chain.a m.snapshot.chain.l.length m.snapshot.chain.c)∧w1.cell? ⟨w.heap.size,20,none⟩=some (.slice m.texts.a m.texts.l.length m.texts.c))
         (first|exact HC7.out _ (Below.drew ‹Below wr.heap.size wr w6›)|exact HC7.out _ ‹Below wr.heap.size wr _›)
         (first
          |(go_at_call_of 73 (Value.slice A' m.statuses.l.length c');refine(HX3.out _ _ je).mono ?_;rintro e x1 ⟨rfl,f1⟩)
          |(go_at_call_of 73 (Value.slice A2 m.entries.l.length c2);refine(HX4.out _ _ je).mono ?_;rintro e x2 ⟨rfl,f2⟩)
          |(go_at_call 73;refine(HX5.out _ _ je).mono ?_;rintro e x3 ⟨rfl,f3⟩)
          |(go_at_call 74;refine(HX6.out _ _ je).mono ?_;rintro e x4 ⟨rfl,f4⟩)
          |(go_at_call 71;refine(HX1.out _ _ _ ja je).mono ?_;rintro e x5 ⟨rfl,f5⟩))
        all_goals
         go_wp2_with fail;go_ret;exact ZJ jq (HLB.out _ ‹_›)
end Go.Proofs.YtepbbaifpckcpaaGreatDoor
