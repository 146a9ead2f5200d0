/- The contract of message.list at api.Signed. -/
import Derived.Test.YtepbbaifpckcpaaGreatDoorFFo
import Derived.Test.YtepbbaifpckcpaaGreatDoorFPl
import Derived.Test.YtepbbaifpckcpaaGreatDoorFWa
namespace Go.Proofs.YtepbbaifpckcpaaGreatDoor
set_option maxRecDepth 100000
set_option maxHeartbeats 2000000
open Go.RowKit
theorem sgC_len (x:Sg):(sgC x).length=6:=rfl
theorem zcP (A:Option Addr) (c:Nat) (l:List Sg) (w:World) (hr:Rd w 6 A l.length (l.flatMap sgC)) (hok:∀x∈l,x.ok) (hs:sum Sg.sz l≤16777216) :
    Calls Tryz.prog 221 #[.slice A l.length c, .func (.func 162) #[] #[]] w (zi (zg (l.map zM)) w):=by
 obtain⟨i0,hi,hz0,hz1,hz2⟩:=info_parts zdx;have HI:=hD hi;have HZ0:=hD hz0;have HZ1:=hD hz1;have HZ2:=hD hz2;have HR:=hD hr;have hlen:=ZC l hok hs;have HE:Hid (∀x∈l,∀w1,Below w.heap.size w w1→Calls Tryz.prog 162 #[.agg #[.int .i64 x.server, .int .i64 x.kind, .int .i64 x.view, .int .i64 x.slot, .string ⟨x.digest.toArray⟩, .string ⟨x.sig.toArray⟩]] w1 (zi (zM x) w1)):=
  hD (fun x hx w1 _=>zat x (hok x hx) jbk w1)
 have HP:Hid (∀w' A c,Rd w' 1 A l.length (strC (l.map zM))→Calls Tryz.prog 168 #[.slice A l.length c] w' (zi (zg (l.map zM)) w')):=hD (fun w' A c h=>by
  have h2:=Zt A c (l.map zM) w' jac jg ja;simpa using h2)
 have hn:l.length≤16777216:=by omega
 clear hi hz0 hz1 hz2 hr hok hs hlen;go_in;go_wp2_with fail;go_loopw [5,10] (fun o i wr=>∃k:Nat,i= .int .i64 k∧k≤l.length∧wr.ownsRow w.heap.size 9 1 o k (strC ((l.take k).map zM))∧Below w.heap.size w wr∧w.heap.size≤wr.heap.size) (fun _ i _=>l.length-(intOf i).toNat)
 case atStart=>exact⟨0,rfl,by omega,by simpa [strC] using World.ownsRow_nil _ _ _ _,Below.refl _ _,Nat.le_refl _⟩
 case round=>
  obtain⟨k,rfl,hk,hown,hb,hge⟩:=hrel;have HO:=hD hown;have HB:=hD hb;clear hown hb;by_cases hlt:k<l.length
  · have i0':(0:Int)≤(k:Int):=by omega
    have i1:(k:Int) <(l.length:Int):=by omega
    obtain⟨g,o,rfl,hg,hcc⟩:=HR.out.at sgC_len ja hlt;obtain⟨x,hx⟩:∃x,x=l[k]:=⟨_,rfl⟩;have HX:=hD hx.symm;have HM:=hD (hx▸List.getElem_mem hlt:x∈l);clear hx;have a0:wr.cell? ⟨g,o+k * 6,none⟩=some (.int .i64 x.server):=by simpa using hcc wr HB.out 0 _ jb
    have a1:wr.cell? ⟨g,o+k * 6+1,none⟩=some (.int .i64 x.kind):=hcc wr HB.out 1 _ jb;have a2:wr.cell? ⟨g,o+k * 6+2,none⟩=some (.int .i64 x.view):=hcc wr HB.out 2 _ jb;have a3:wr.cell? ⟨g,o+k * 6+3,none⟩=some (.int .i64 x.slot):=hcc wr HB.out 3 _ jb;have a4:wr.cell? ⟨g,o+k * 6+4,none⟩=some (.string ⟨x.digest.toArray⟩):=hcc wr HB.out 4 _ jb;have a5:wr.cell? ⟨g,o+k * 6+5,none⟩=some (.string ⟨x.sig.toArray⟩):=hcc wr HB.out 5 _ jb;clear hcc;go_wp2_with fail;refine(HE.out x HM.out _ (HB.out.alloc hge _)).mono ?_;rintro e w1 ⟨rfl,b1⟩;have hz:wr.heap.size+1≤w1.heap.size:=by have:=b1.size;simpa using this
    have B1:Hid (Below w.heap.size w w1):=hD ((HB.out.alloc hge _).trans (b1.mono jg));have HO1:Hid (w1.ownsRow w.heap.size 9 1 _ k (strC ((l.take k).map zM))):=hD (ownsRow_below (HO.out.alloc _) b1);exact fo161
  · obtain rfl:k=l.length:=by omega
    have HL:Hid (wr.ownsRow w.heap.size 9 1 _ l.length (strC (l.map zM))):=hD jab;exact fo40
set_option maxRecDepth 100000
set_option maxHeartbeats 4000000
open Go.RowKit
theorem zcx (d:De) (w:World) (hok:d.ok w) (hs:d.sz≤16777216) :
    Calls Tryz.prog 166 #[.agg #[.int .i64 d.view, .string ⟨d.value.toArray⟩, .slice d.cert.a d.cert.l.length d.cert.c]] w (zi (yQ d) w):=by
 have hI:=hok.1;have hz:=hs;unfold De.sz at hz;have HK:Hid (∀w1,Below w.heap.size w w1→Calls Tryz.prog 221 #[.slice d.cert.a d.cert.l.length d.cert.c, .func (.func 162) #[] #[]] w1 (zi (zg (d.cert.l.map zM)) w1)):=hD (fun w1 hb=>zcP _ _ _ w1 (Sl.rd_below hok.2.1 hb) hok.2.2 ja);have hl1:=yg [d.view] jh jd;simp only [List.length_cons,List.length_nil] at hl1;have hl2:=zG d.value ja;have hl3:=(ZC d.cert.l hok.2.2 ja).1;have HX0:Hid (∀(w1:World) (g:Nat) (R:Prop),(Bx w (deC d) 100 ((w1.alloc (.cells #[.int .i64 d.view] 3)).drew)∧R)→w1.heap.size=g→Calls Tryz.prog 160 #[.slice (some ⟨g,0,none⟩) 1 1] ((w1.alloc (.cells #[.int .i64 d.view] 3)).drew) (Gives w (deC d) 100 (zo [d.view]))):=
  hD (fun w1 g _ hb hg=>ZR [d.view] jd jh (fun A c W hr=>Ym A c _ W hr jd jh) hb.1 hg)
 have HX1:Hid (∀(t:List UInt8) (w1:World) (R:Prop),t.length≤70368744177664→(Bx w (deC d) 100 w1∧R)→Calls Tryz.prog 161 #[.string ⟨t.toArray⟩] w1 (Gives w (deC d) 100 (zk t))):=
  hD (fun t w1 _ ht hb=>zW hb.1 (ZQ t ht w1))
 have HX2:Hid (∀(w1:World) (R:Prop),(Bx w (deC d) 100 w1∧R)→Calls Tryz.prog 221 #[.slice d.cert.a d.cert.l.length d.cert.c, .func (.func 162) #[] #[]] w1 (Gives w (deC d) 100 (zg (d.cert.l.map zM)))):=
  hD (fun w1 _ hb=>zW hb.1 (HK.out w1 (zu hb.1)))
 have HC:Hid (∀w1,Bx w (deC d) 100 w1→Bx w (deC d) 100 w1∧w1.cell? ⟨w.heap.size,0,none⟩=some (.int .i64 d.view)∧w1.cell? ⟨w.heap.size,1,none⟩=some (.string ⟨d.value.toArray⟩)∧w1.cell? ⟨w.heap.size,2,none⟩=some (.slice d.cert.a d.cert.l.length d.cert.c)):=
  hD (fun w1 hb=>⟨hb,ze hb 0 _ rfl,ze hb 1 _ rfl,ze hb 2 _ rfl⟩)
 have H0:=hD (Zk w (deC d) 100);have hq0:¬(9223372036854775807<(zo [d.view]).length+(zk d.value).length):=by omega
 have hq1:¬(9223372036854775807<(zo [d.view]).length+(zk d.value).length+(zg (d.cert.l.map zM)).length):=by omega
 clear hok hs;go_in;go_wp2_with fail;go_region_held3 (fun w1=>Bx w (deC d) 100 w1∧w1.cell? ⟨w.heap.size,0,none⟩=some (.int .i64 d.view)∧w1.cell? ⟨w.heap.size,1,none⟩=some (.string ⟨d.value.toArray⟩)∧w1.cell? ⟨w.heap.size,2,none⟩=some (.slice d.cert.a d.cert.l.length d.cert.c))
  (first|exact HC.out _ (yF H0.out)|exact HC.out _ (yh (‹Bx _ _ _ _∧_›).1 _)|exact HC.out _ ‹Bx _ _ _ _›)
  (first
   |(go_at_call 160;refine(HX0.out _ _ _ je jd).mono ?_;rintro e w2 ⟨rfl,b2⟩)
   |(go_at_call 161;refine(HX1.out _ _ _ ja je).mono ?_;rintro e w3 ⟨rfl,b3⟩)
   |(go_at_call 221;refine(HX2.out _ _ je).mono ?_;rintro e w4 ⟨rfl,b4⟩))
 all_goals
  go_wp2_with fail;go_ret;exact ZJ jq (zu ‹_›)
theorem codeHo_any (h:Ho) (w:World) (hok:h.ok w) (hs:h.sz≤16777216) :
    Calls Tryz.prog 223 #[.agg #[.int .i64 h.slot, .int .i64 h.entry.view, .string ⟨h.entry.value.toArray⟩, .slice h.entry.cert.a h.entry.cert.l.length h.entry.cert.c]] w (zi (ZF h) w):=by
 have hI:=hok.1;have hz:=hs;unfold Ho.sz at hz;have HK:Hid (∀w1,Below w.heap.size w w1→Calls Tryz.prog 166 #[.agg #[.int .i64 h.entry.view, .string ⟨h.entry.value.toArray⟩, .slice h.entry.cert.a h.entry.cert.l.length h.entry.cert.c]] w1 (zi (yQ h.entry) w1)):=hD (fun w1 hb=>zcx h.entry w1 (De.below hok.2 hb) ja);have hl1:=yg [h.slot] jh jd;simp only [List.length_cons,List.length_nil] at hl1;have hl2:=Y7 h.entry w hok.2 ja;have HX0:Hid (∀(w1:World) (g:Nat) (R:Prop),(Bx w (hoC h) 147 ((w1.alloc (.cells #[.int .i64 h.slot] 3)).drew)∧R)→w1.heap.size=g→Calls Tryz.prog 160 #[.slice (some ⟨g,0,none⟩) 1 1] ((w1.alloc (.cells #[.int .i64 h.slot] 3)).drew) (Gives w (hoC h) 147 (zo [h.slot]))):=
  hD (fun w1 g _ hb hg=>ZR [h.slot] jd jh (fun A c W hr=>Ym A c _ W hr jd jh) hb.1 hg)
 have HX1:Hid (∀(w1:World) (R:Prop),(Bx w (hoC h) 147 w1∧R)→Calls Tryz.prog 166 #[.agg #[.int .i64 h.entry.view, .string ⟨h.entry.value.toArray⟩, .slice h.entry.cert.a h.entry.cert.l.length h.entry.cert.c]] w1 (Gives w (hoC h) 147 (yQ h.entry))):=
  hD (fun w1 _ hb=>zW hb.1 (HK.out w1 (zu hb.1)))
 have HC:Hid (∀w1,Bx w (hoC h) 147 w1→Bx w (hoC h) 147 w1∧w1.cell? ⟨w.heap.size,0,none⟩=some (.int .i64 h.slot)∧w1.cell? ⟨w.heap.size,1,none⟩=some (.int .i64 h.entry.view)∧w1.cell? ⟨w.heap.size,2,none⟩=some (.string ⟨h.entry.value.toArray⟩)∧w1.cell? ⟨w.heap.size,3,none⟩=some (.slice h.entry.cert.a h.entry.cert.l.length h.entry.cert.c)):=
  hD (fun w1 hb=>⟨hb,ze hb 0 _ rfl,ze hb 1 _ rfl,ze hb 2 _ rfl,ze hb 3 _ rfl⟩)
 have H0:=hD (Zk w (hoC h) 147);have hq0:¬(9223372036854775807<(zo [h.slot]).length+(yQ h.entry).length):=by omega
 clear hok hs;go_in;go_wp2_with fail;go_region_held3 (fun w1=>Bx w (hoC h) 147 w1∧w1.cell? ⟨w.heap.size,0,none⟩=some (.int .i64 h.slot)∧w1.cell? ⟨w.heap.size,1,none⟩=some (.int .i64 h.entry.view)∧w1.cell? ⟨w.heap.size,2,none⟩=some (.string ⟨h.entry.value.toArray⟩)∧w1.cell? ⟨w.heap.size,3,none⟩=some (.slice h.entry.cert.a h.entry.cert.l.length h.entry.cert.c))
  (first|exact HC.out _ (yF H0.out)|exact HC.out _ (yh (‹Bx _ _ _ _∧_›).1 _)|exact HC.out _ ‹Bx _ _ _ _›)
  (first
   |(go_at_call 160;refine(HX0.out _ _ _ je jd).mono ?_;rintro e w2 ⟨rfl,b2⟩)
   |(go_at_call 166;refine(HX1.out _ _ je).mono ?_;rintro e w3 ⟨rfl,b3⟩))
 all_goals
  go_wp2_with fail;go_ret;exact ZJ jq (zu ‹_›)
set_option maxRecDepth 100000
set_option maxHeartbeats 4000000
open Go.RowKit
theorem zfc (s:St) (w:World) (hok:s.ok w) (hs:s.sz≤16777216) :
    Calls Tryz.prog 164 #[.agg #[.int .i64 s.server, .int .i64 s.view, .int .i64 s.length, .int .i64 s.lockView, .string ⟨s.lock.toArray⟩, .slice s.cert.a s.cert.l.length s.cert.c, .int .i64 s.signed.server, .int .i64 s.signed.kind, .int .i64 s.signed.view, .int .i64 s.signed.slot, .string ⟨s.signed.digest.toArray⟩, .string ⟨s.signed.sig.toArray⟩]] w (zi (Zo s) w):=by
 have hI:=hok.1;have hz:=hs;unfold St.sz at hz;have HG:Hid (∀w1,Calls Tryz.prog 162 #[.agg #[.int .i64 s.signed.server, .int .i64 s.signed.kind, .int .i64 s.signed.view, .int .i64 s.signed.slot, .string ⟨s.signed.digest.toArray⟩, .string ⟨s.signed.sig.toArray⟩]] w1 (zi (zM s.signed) w1)):=hD (fun w1=>zat s.signed hok.2.2.2 ja w1);have HK:Hid (∀w1,Below w.heap.size w w1→Calls Tryz.prog 221 #[.slice s.cert.a s.cert.l.length s.cert.c, .func (.func 162) #[] #[]] w1 (zi (zg (s.cert.l.map zM)) w1)):=hD (fun w1 hb=>zcP _ _ _ w1 (Sl.rd_below hok.2.1 hb) hok.2.2.1 ja);have hl1:=yg [s.server,s.view,s.length,s.lockView] jh jd;simp only [List.length_cons,List.length_nil] at hl1;have hl2:=zG s.lock ja;have hl3:=(ZC s.cert.l hok.2.2.1 ja).1;have hl4:=Yf s.signed hok.2.2.2 ja;have hl5:=zG (zM s.signed) ja;have hg7:=Sg.sz_ge s.signed;have HX0:Hid (∀(w1:World) (g:Nat) (R:Prop),(Bx w (stC s) 97 ((w1.alloc (.cells #[.int .i64 s.server, .int .i64 s.view, .int .i64 s.length, .int .i64 s.lockView] 3)).drew)∧R)→w1.heap.size=g→Calls Tryz.prog 160 #[.slice (some ⟨g,0,none⟩) 4 4] ((w1.alloc (.cells #[.int .i64 s.server, .int .i64 s.view, .int .i64 s.length, .int .i64 s.lockView] 3)).drew) (Gives w (stC s) 97 (zo [s.server,s.view,s.length,s.lockView]))):=
  hD (fun w1 g _ hb hg=>ZR [s.server,s.view,s.length,s.lockView] jd jh (fun A c W hr=>Ym A c _ W hr jd jh) hb.1 hg)
 have HX1:Hid (∀(t:List UInt8) (w1:World) (R:Prop),t.length≤70368744177664→(Bx w (stC s) 97 w1∧R)→Calls Tryz.prog 161 #[.string ⟨t.toArray⟩] w1 (Gives w (stC s) 97 (zk t))):=
  hD (fun t w1 _ ht hb=>zW hb.1 (ZQ t ht w1))
 have HX2:Hid (∀(w1:World) (R:Prop),(Bx w (stC s) 97 w1∧R)→Calls Tryz.prog 221 #[.slice s.cert.a s.cert.l.length s.cert.c, .func (.func 162) #[] #[]] w1 (Gives w (stC s) 97 (zg (s.cert.l.map zM)))):=
  hD (fun w1 _ hb=>zW hb.1 (HK.out w1 (zu hb.1)))
 have HX3:Hid (∀(w1:World) (R:Prop),(Bx w (stC s) 97 w1∧R)→Calls Tryz.prog 162 #[.agg #[.int .i64 s.signed.server, .int .i64 s.signed.kind, .int .i64 s.signed.view, .int .i64 s.signed.slot, .string ⟨s.signed.digest.toArray⟩, .string ⟨s.signed.sig.toArray⟩]] w1 (Gives w (stC s) 97 (zM s.signed))):=
  hD (fun w1 _ hb=>zW hb.1 (HG.out w1))
 have HC:Hid (∀w1,Bx w (stC s) 97 w1→Bx w (stC s) 97 w1∧w1.cell? ⟨w.heap.size,0,none⟩=some (.int .i64 s.server)∧w1.cell? ⟨w.heap.size,1,none⟩=some (.int .i64 s.view)∧w1.cell? ⟨w.heap.size,2,none⟩=some (.int .i64 s.length)∧w1.cell? ⟨w.heap.size,3,none⟩=some (.int .i64 s.lockView)∧w1.cell? ⟨w.heap.size,4,none⟩=some (.string ⟨s.lock.toArray⟩)∧w1.cell? ⟨w.heap.size,5,none⟩=some (.slice s.cert.a s.cert.l.length s.cert.c)∧w1.cell? ⟨w.heap.size,6,none⟩=some (.int .i64 s.signed.server)∧w1.cell? ⟨w.heap.size,7,none⟩=some (.int .i64 s.signed.kind)∧w1.cell? ⟨w.heap.size,8,none⟩=some (.int .i64 s.signed.view)∧w1.cell? ⟨w.heap.size,9,none⟩=some (.int .i64 s.signed.slot)∧w1.cell? ⟨w.heap.size,10,none⟩=some (.string ⟨s.signed.digest.toArray⟩)∧w1.cell? ⟨w.heap.size,11,none⟩=some (.string ⟨s.signed.sig.toArray⟩)):=
  hD (fun w1 hb=>⟨hb,ze hb 0 _ rfl,ze hb 1 _ rfl,ze hb 2 _ rfl,ze hb 3 _ rfl,ze hb 4 _ rfl,ze hb 5 _ rfl,ze hb 6 _ rfl,ze hb 7 _ rfl,ze hb 8 _ rfl,ze hb 9 _ rfl,ze hb 10 _ rfl,ze hb 11 _ rfl⟩)
 have H0:=hD (Zk w (stC s) 97);have hq0:¬(9223372036854775807<(zo [s.server,s.view,s.length,s.lockView]).length+(zk s.lock).length):=by omega
 have hq1:¬(9223372036854775807<(zo [s.server,s.view,s.length,s.lockView]).length+(zk s.lock).length+(zg (s.cert.l.map zM)).length):=by omega
 have hq2:¬(9223372036854775807<(zo [s.server,s.view,s.length,s.lockView]).length+(zk s.lock).length+(zg (s.cert.l.map zM)).length+(zk (zM s.signed)).length):=by omega
 clear hok hs;go_in;go_wp2_with fail;go_region_held3 (fun w1=>Bx w (stC s) 97 w1∧w1.cell? ⟨w.heap.size,0,none⟩=some (.int .i64 s.server)∧w1.cell? ⟨w.heap.size,1,none⟩=some (.int .i64 s.view)∧w1.cell? ⟨w.heap.size,2,none⟩=some (.int .i64 s.length)∧w1.cell? ⟨w.heap.size,3,none⟩=some (.int .i64 s.lockView)∧w1.cell? ⟨w.heap.size,4,none⟩=some (.string ⟨s.lock.toArray⟩)∧w1.cell? ⟨w.heap.size,5,none⟩=some (.slice s.cert.a s.cert.l.length s.cert.c)∧w1.cell? ⟨w.heap.size,6,none⟩=some (.int .i64 s.signed.server)∧w1.cell? ⟨w.heap.size,7,none⟩=some (.int .i64 s.signed.kind)∧w1.cell? ⟨w.heap.size,8,none⟩=some (.int .i64 s.signed.view)∧w1.cell? ⟨w.heap.size,9,none⟩=some (.int .i64 s.signed.slot)∧w1.cell? ⟨w.heap.size,10,none⟩=some (.string ⟨s.signed.digest.toArray⟩)∧w1.cell? ⟨w.heap.size,11,none⟩=some (.string ⟨s.signed.sig.toArray⟩))
  (first|exact HC.out _ (yF H0.out)|exact HC.out _ (yh (‹Bx _ _ _ _∧_›).1 _)|exact HC.out _ ‹Bx _ _ _ _›)
  (first
   |(go_at_call 160;refine(HX0.out _ _ _ je jd).mono ?_;rintro e w2 ⟨rfl,b2⟩)
   |(go_at_call 161;refine(HX1.out _ _ _ ja je).mono ?_;rintro e w3 ⟨rfl,b3⟩)
   |(go_at_call 221;refine(HX2.out _ _ je).mono ?_;rintro e w4 ⟨rfl,b4⟩)
   |(go_at_call 162;refine(HX3.out _ _ je).mono ?_;rintro e w5 ⟨rfl,b5⟩))
 all_goals
  go_wp2_with fail;go_ret;exact ZJ jq (zu ‹_›)
set_option maxRecDepth 100000
set_option maxHeartbeats 2000000
open Go.RowKit
theorem stC_len (x:St):(stC x).length=12:=rfl
theorem listSt_any (A:Option Addr) (c:Nat) (l:List St) (w:World) (hr:Rd w 12 A l.length (l.flatMap stC)) (hok:∀x∈l,x.ok w) (hs:sum St.sz l≤16777216) :
    Calls Tryz.prog 163 #[.slice A l.length c, .func (.func 164) #[] #[]] w (zi (zg (l.map Zo)) w):=by
 obtain⟨i0,hi,hz0,hz1,hz2⟩:=info_parts zdx;have HI:=hD hi;have HZ0:=hD hz0;have HZ1:=hD hz1;have HZ2:=hD hz2;have HR:=hD hr;have hlen:=ZW Zo St.sz l (fun x hx=>zbo x w (hok x hx) (by have:=Zb St.sz l x hx;omega)) (fun x=>by have:=x.sz_ge;omega) hs;have HE:Hid (∀x∈l,∀w1,Below w.heap.size w w1→Calls Tryz.prog 164 #[.agg #[.int .i64 x.server, .int .i64 x.view, .int .i64 x.length, .int .i64 x.lockView, .string ⟨x.lock.toArray⟩, .slice x.cert.a x.cert.l.length x.cert.c, .int .i64 x.signed.server, .int .i64 x.signed.kind, .int .i64 x.signed.view, .int .i64 x.signed.slot, .string ⟨x.signed.digest.toArray⟩, .string ⟨x.signed.sig.toArray⟩]] w1 (zi (Zo x) w1)):=
  hD (fun x hx w1 hb=>zfc x w1 (St.below (hok x hx) hb) (by have:=Zb St.sz l x hx;omega))
 have HP:Hid (∀w' A c,Rd w' 1 A l.length (strC (l.map Zo))→Calls Tryz.prog 168 #[.slice A l.length c] w' (zi (zg (l.map Zo)) w')):=hD (fun w' A c h=>by
  have h2:=Zt A c (l.map Zo) w' jac jg ja;simpa using h2)
 have hn:l.length≤16777216:=by omega
 clear hi hz0 hz1 hz2 hr hok hs hlen;go_in;go_wp2_with fail;go_loopw [5,10] (fun o i wr=>∃k:Nat,i= .int .i64 k∧k≤l.length∧wr.ownsRow w.heap.size 9 1 o k (strC ((l.take k).map Zo))∧Below w.heap.size w wr∧w.heap.size≤wr.heap.size) (fun _ i _=>l.length-(intOf i).toNat)
 case atStart=>exact⟨0,rfl,by omega,by simpa [strC] using World.ownsRow_nil _ _ _ _,Below.refl _ _,Nat.le_refl _⟩
 case round=>
  obtain⟨k,rfl,hk,hown,hb,hge⟩:=hrel;have HO:=hD hown;have HB:=hD hb;clear hown hb;by_cases hlt:k<l.length
  · have i0':(0:Int)≤(k:Int):=by omega
    have i1:(k:Int) <(l.length:Int):=by omega
    obtain⟨g,o,rfl,hg,hcc⟩:=HR.out.at stC_len ja hlt;obtain⟨x,hx⟩:∃x,x=l[k]:=⟨_,rfl⟩;have HX:=hD hx.symm;have HM:=hD (hx▸List.getElem_mem hlt:x∈l);clear hx;have a0:wr.cell? ⟨g,o+k * 12,none⟩=some (.int .i64 x.server):=by simpa using hcc wr HB.out 0 _ jb
    have a1:wr.cell? ⟨g,o+k * 12+1,none⟩=some (.int .i64 x.view):=hcc wr HB.out 1 _ jb;have a2:wr.cell? ⟨g,o+k * 12+2,none⟩=some (.int .i64 x.length):=hcc wr HB.out 2 _ jb;have a3:wr.cell? ⟨g,o+k * 12+3,none⟩=some (.int .i64 x.lockView):=hcc wr HB.out 3 _ jb;have a4:wr.cell? ⟨g,o+k * 12+4,none⟩=some (.string ⟨x.lock.toArray⟩):=hcc wr HB.out 4 _ jb;have a5:wr.cell? ⟨g,o+k * 12+5,none⟩=some (.slice x.cert.a x.cert.l.length x.cert.c):=hcc wr HB.out 5 _ jb;have a6:wr.cell? ⟨g,o+k * 12+6,none⟩=some (.int .i64 x.signed.server):=hcc wr HB.out 6 _ jb;have a7:wr.cell? ⟨g,o+k * 12+7,none⟩=some (.int .i64 x.signed.kind):=hcc wr HB.out 7 _ jb;have a8:wr.cell? ⟨g,o+k * 12+8,none⟩=some (.int .i64 x.signed.view):=hcc wr HB.out 8 _ jb;have a9:wr.cell? ⟨g,o+k * 12+9,none⟩=some (.int .i64 x.signed.slot):=hcc wr HB.out 9 _ jb;have a10:wr.cell? ⟨g,o+k * 12+10,none⟩=some (.string ⟨x.signed.digest.toArray⟩):=hcc wr HB.out 10 _ jb;have a11:wr.cell? ⟨g,o+k * 12+11,none⟩=some (.string ⟨x.signed.sig.toArray⟩):=hcc wr HB.out 11 _ jb;clear hcc;go_wp2_with fail;refine(HE.out x HM.out _ (HB.out.alloc hge _)).mono ?_;rintro e w1 ⟨rfl,b1⟩;have hz:wr.heap.size+1≤w1.heap.size:=by have:=b1.size;simpa using this
    have B1:Hid (Below w.heap.size w w1):=hD ((HB.out.alloc hge _).trans (b1.mono jg));have HO1:Hid (w1.ownsRow w.heap.size 9 1 _ k (strC ((l.take k).map Zo))):=hD (ownsRow_below (HO.out.alloc _) b1);clear b1 a0 a1 a2 a3 a4 a5 a6 a7 a8 a9 a10 a11;go_wp2_with (at_builtin;refine wpList_append_own _ rfl _ _ 32 rfl w.heap.size 9 i0 _ 1 16 Tryz.underlying32 HI.out HZ0.out HZ1.out HZ2.out rfl jf _ _ _ rfl (HO1.out.alloc _) ⟨w1.heap.size,0,none⟩ 1 1 [.string ⟨(Zo x).toArray⟩] rfl rfl (z8 _ _ _ _ rfl) jv jw ja jg ?_);intro v' w2 hown' hgrow _;have HO2:Hid (w2.ownsRow w.heap.size 9 1 v' (k+1) (strC ((l.take (k+1)).map Zo))):=hD (fo41);exact fo34
  · obtain rfl:k=l.length:=by omega
    have HL:Hid (wr.ownsRow w.heap.size 9 1 _ l.length (strC (l.map Zo))):=hD jab;exact fo40
set_option maxRecDepth 100000
set_option maxHeartbeats 2000000
open Go.RowKit
theorem deC_len (x:De):(deC x).length=3:=rfl
theorem listDe_any (A:Option Addr) (c:Nat) (l:List De) (w:World) (hr:Rd w 3 A l.length (l.flatMap deC)) (hok:∀x∈l,x.ok w) (hs:sum De.sz l≤16777216) :
    Calls Tryz.prog 165 #[.slice A l.length c, .func (.func 166) #[] #[]] w (zi (zg (l.map yQ)) w):=by
 obtain⟨i0,hi,hz0,hz1,hz2⟩:=info_parts zdx;have HI:=hD hi;have HZ0:=hD hz0;have HZ1:=hD hz1;have HZ2:=hD hz2;have HR:=hD hr;have hlen:=ZW yQ De.sz l (fun x hx=>Y7 x w (hok x hx) (by have:=Zb De.sz l x hx;omega)) (fun x=>by have:=x.sz_ge;omega) hs;have HE:Hid (∀x∈l,∀w1,Below w.heap.size w w1→Calls Tryz.prog 166 #[.agg #[.int .i64 x.view, .string ⟨x.value.toArray⟩, .slice x.cert.a x.cert.l.length x.cert.c]] w1 (zi (yQ x) w1)):=
  hD (fun x hx w1 hb=>zcx x w1 (De.below (hok x hx) hb) (by have:=Zb De.sz l x hx;omega))
 have HP:Hid (∀w' A c,Rd w' 1 A l.length (strC (l.map yQ))→Calls Tryz.prog 168 #[.slice A l.length c] w' (zi (zg (l.map yQ)) w')):=hD (fun w' A c h=>by
  have h2:=Zt A c (l.map yQ) w' jac jg ja;simpa using h2)
 have hn:l.length≤16777216:=by omega
 clear hi hz0 hz1 hz2 hr hok hs hlen;go_in;go_wp2_with fail;go_loopw [5,10] (fun o i wr=>∃k:Nat,i= .int .i64 k∧k≤l.length∧wr.ownsRow w.heap.size 9 1 o k (strC ((l.take k).map yQ))∧Below w.heap.size w wr∧w.heap.size≤wr.heap.size) (fun _ i _=>l.length-(intOf i).toNat)
 case atStart=>exact⟨0,rfl,by omega,by simpa [strC] using World.ownsRow_nil _ _ _ _,Below.refl _ _,Nat.le_refl _⟩
 case round=>
  obtain⟨k,rfl,hk,hown,hb,hge⟩:=hrel;have HO:=hD hown;have HB:=hD hb;clear hown hb;by_cases hlt:k<l.length
  · have i0':(0:Int)≤(k:Int):=by omega
    have i1:(k:Int) <(l.length:Int):=by omega
    obtain⟨g,o,rfl,hg,hcc⟩:=HR.out.at deC_len ja hlt;obtain⟨x,hx⟩:∃x,x=l[k]:=⟨_,rfl⟩;have HX:=hD hx.symm;have HM:=hD (hx▸List.getElem_mem hlt:x∈l);clear hx;have a0:wr.cell? ⟨g,o+k * 3,none⟩=some (.int .i64 x.view):=by simpa using hcc wr HB.out 0 _ jb
    have a1:wr.cell? ⟨g,o+k * 3+1,none⟩=some (.string ⟨x.value.toArray⟩):=hcc wr HB.out 1 _ jb;have a2:wr.cell? ⟨g,o+k * 3+2,none⟩=some (.slice x.cert.a x.cert.l.length x.cert.c):=hcc wr HB.out 2 _ jb;clear hcc;go_wp2_with fail;refine(HE.out x HM.out _ (HB.out.alloc hge _)).mono ?_;rintro e w1 ⟨rfl,b1⟩;have hz:wr.heap.size+1≤w1.heap.size:=by have:=b1.size;simpa using this
    have B1:Hid (Below w.heap.size w w1):=hD ((HB.out.alloc hge _).trans (b1.mono jg));have HO1:Hid (w1.ownsRow w.heap.size 9 1 _ k (strC ((l.take k).map yQ))):=hD (ownsRow_below (HO.out.alloc _) b1);clear b1 a0 a1 a2;go_wp2_with (at_builtin;refine wpList_append_own _ rfl _ _ 32 rfl w.heap.size 9 i0 _ 1 16 Tryz.underlying32 HI.out HZ0.out HZ1.out HZ2.out rfl jf _ _ _ rfl (HO1.out.alloc _) ⟨w1.heap.size,0,none⟩ 1 1 [.string ⟨(yQ x).toArray⟩] rfl rfl (z8 _ _ _ _ rfl) jv jw ja jg ?_);intro v' w2 hown' hgrow _;have HO2:Hid (w2.ownsRow w.heap.size 9 1 v' (k+1) (strC ((l.take (k+1)).map yQ))):=hD (fo41);exact fo34
  · obtain rfl:k=l.length:=by omega
    have HL:Hid (wr.ownsRow w.heap.size 9 1 _ l.length (strC (l.map yQ))):=hD jab;exact fo40
set_option maxRecDepth 100000
set_option maxHeartbeats 2000000
open Go.RowKit
theorem hoC_len (x:Ho):(hoC x).length=4:=rfl
theorem listHo_any (A:Option Addr) (c:Nat) (l:List Ho) (w:World) (hr:Rd w 4 A l.length (l.flatMap hoC)) (hok:∀x∈l,x.ok w) (hs:sum Ho.sz l≤16777216) :
    Calls Tryz.prog 222 #[.slice A l.length c, .func (.func 223) #[] #[]] w (zi (zg (l.map ZF)) w):=by
 obtain⟨i0,hi,hz0,hz1,hz2⟩:=info_parts zdx;have HI:=hD hi;have HZ0:=hD hz0;have HZ1:=hD hz1;have HZ2:=hD hz2;have HR:=hD hr;have hlen:=ZW ZF Ho.sz l (fun x hx=>zaM x w (hok x hx) (by have:=Zb Ho.sz l x hx;omega)) (fun x=>by have:=x.sz_ge;omega) hs;have HE:Hid (∀x∈l,∀w1,Below w.heap.size w w1→Calls Tryz.prog 223 #[.agg #[.int .i64 x.slot, .int .i64 x.entry.view, .string ⟨x.entry.value.toArray⟩, .slice x.entry.cert.a x.entry.cert.l.length x.entry.cert.c]] w1 (zi (ZF x) w1)):=
  hD (fun x hx w1 hb=>codeHo_any x w1 (Ho.below (hok x hx) hb) (by have:=Zb Ho.sz l x hx;omega))
 have HP:Hid (∀w' A c,Rd w' 1 A l.length (strC (l.map ZF))→Calls Tryz.prog 168 #[.slice A l.length c] w' (zi (zg (l.map ZF)) w')):=hD (fun w' A c h=>by
  have h2:=Zt A c (l.map ZF) w' jac jg ja;simpa using h2)
 have hn:l.length≤16777216:=by omega
 clear hi hz0 hz1 hz2 hr hok hs hlen;go_in;go_wp2_with fail;go_loopw [5,10] (fun o i wr=>∃k:Nat,i= .int .i64 k∧k≤l.length∧wr.ownsRow w.heap.size 9 1 o k (strC ((l.take k).map ZF))∧Below w.heap.size w wr∧w.heap.size≤wr.heap.size) (fun _ i _=>l.length-(intOf i).toNat)
 case atStart=>exact⟨0,rfl,by omega,by simpa [strC] using World.ownsRow_nil _ _ _ _,Below.refl _ _,Nat.le_refl _⟩
 case round=>
  obtain⟨k,rfl,hk,hown,hb,hge⟩:=hrel;have HO:=hD hown;have HB:=hD hb;clear hown hb;by_cases hlt:k<l.length
  · have i0':(0:Int)≤(k:Int):=by omega
    have i1:(k:Int) <(l.length:Int):=by omega
    obtain⟨g,o,rfl,hg,hcc⟩:=HR.out.at hoC_len ja hlt;obtain⟨x,hx⟩:∃x,x=l[k]:=⟨_,rfl⟩;have HX:=hD hx.symm;have HM:=hD (hx▸List.getElem_mem hlt:x∈l);clear hx;have a0:wr.cell? ⟨g,o+k * 4,none⟩=some (.int .i64 x.slot):=by simpa using hcc wr HB.out 0 _ jb
    have a1:wr.cell? ⟨g,o+k * 4+1,none⟩=some (.int .i64 x.entry.view):=hcc wr HB.out 1 _ jb;have a2:wr.cell? ⟨g,o+k * 4+2,none⟩=some (.string ⟨x.entry.value.toArray⟩):=hcc wr HB.out 2 _ jb;have a3:wr.cell? ⟨g,o+k * 4+3,none⟩=some (.slice x.entry.cert.a x.entry.cert.l.length x.entry.cert.c):=hcc wr HB.out 3 _ jb;clear hcc;go_wp2_with fail;refine(HE.out x HM.out _ (HB.out.alloc hge _)).mono ?_;rintro e w1 ⟨rfl,b1⟩;have hz:wr.heap.size+1≤w1.heap.size:=by have:=b1.size;simpa using this
    have B1:Hid (Below w.heap.size w w1):=hD ((HB.out.alloc hge _).trans (b1.mono jg));have HO1:Hid (w1.ownsRow w.heap.size 9 1 _ k (strC ((l.take k).map ZF))):=hD (ownsRow_below (HO.out.alloc _) b1);clear b1 a0 a1 a2 a3;go_wp2_with (at_builtin;refine wpList_append_own _ rfl _ _ 32 rfl w.heap.size 9 i0 _ 1 16 Tryz.underlying32 HI.out HZ0.out HZ1.out HZ2.out rfl jf _ _ _ rfl (HO1.out.alloc _) ⟨w1.heap.size,0,none⟩ 1 1 [.string ⟨(ZF x).toArray⟩] rfl rfl (z8 _ _ _ _ rfl) jv jw ja jg ?_);intro v' w2 hown' hgrow _;have HO2:Hid (w2.ownsRow w.heap.size 9 1 v' (k+1) (strC ((l.take (k+1)).map ZF))):=hD (fo41);exact fo34
  · obtain rfl:k=l.length:=by omega
    have HL:Hid (wr.ownsRow w.heap.size 9 1 _ l.length (strC (l.map ZF))):=hD jab;exact fo40
set_option maxRecDepth 100000
set_option maxHeartbeats 4000000
open Go.RowKit
theorem zds (x:Sn) (w:World) (hok:x.ok w) (hs:x.sz≤16777216) :
    Calls Tryz.prog 167 #[.agg #[.int .i64 x.slot, .string ⟨x.root.toArray⟩, .slice x.chunks.a x.chunks.l.length x.chunks.c, .slice x.proof.a x.proof.l.length x.proof.c, .slice x.chain.a x.chain.l.length x.chain.c]] w (zi (Y9 x) w):=by
 have hI:=hok.1;have hz:=hs;unfold Sn.sz at hz;have hch:=zai x.chunks.l ja;have HK:Hid (∀w1,Below w.heap.size w w1→Calls Tryz.prog 221 #[.slice x.proof.a x.proof.l.length x.proof.c, .func (.func 162) #[] #[]] w1 (zi (zg (x.proof.l.map zM)) w1)):=hD (fun w1 hb=>zcP _ _ _ w1 (Sl.rd_below hok.2.2.1.1 hb) hok.2.2.1.2 ja);have HL:Hid (∀w1,Below w.heap.size w w1→Calls Tryz.prog 168 #[.slice x.chunks.a x.chunks.l.length x.chunks.c] w1 (zi (zg x.chunks.l) w1)):=hD (fun w1 hb=>Zt _ _ _ w1 jbd ja ja);have HH:Hid (∀w1,Bx w (snC x) 36 w1→Calls Tryz.prog 222 #[.slice x.chain.a x.chain.l.length x.chain.c, .func (.func 223) #[] #[]] w1 (Gives w (snC x) 36 (zg (x.chain.l.map ZF)))):=hD (fun w1 hb=>zW hb (listHo_any _ _ _ w1 (Sl.rd_below hok.2.2.2.1 (zu hb)) (fun y hy=>Ho.below (hok.2.2.2.2 y hy) (zu hb)) ja));have hl1:=yg [x.slot] jh jd;simp only [List.length_cons,List.length_nil] at hl1;have hl2:=zG x.root ja;have hl3:=(ZC x.proof.l hok.2.2.1.2 ja).1;have hl4:=hch.1;have hl5:=(ZW ZF Ho.sz x.chain.l (fun y hy=>zaM y w (hok.2.2.2.2 y hy) jch) (fun y=>by have:=y.sz_ge;omega) ja).1;have HX0:Hid (∀(w1:World) (g:Nat) (R:Prop),(Bx w (snC x) 36 ((w1.alloc (.cells #[.int .i64 x.slot] 3)).drew)∧R)→w1.heap.size=g→Calls Tryz.prog 160 #[.slice (some ⟨g,0,none⟩) 1 1] ((w1.alloc (.cells #[.int .i64 x.slot] 3)).drew) (Gives w (snC x) 36 (zo [x.slot]))):=
  hD (fun w1 g _ hb hg=>ZR [x.slot] jd jh (fun A c W hr=>Ym A c _ W hr jd jh) hb.1 hg)
 have HX1:Hid (∀(t:List UInt8) (w1:World) (R:Prop),t.length≤70368744177664→(Bx w (snC x) 36 w1∧R)→Calls Tryz.prog 161 #[.string ⟨t.toArray⟩] w1 (Gives w (snC x) 36 (zk t))):=
  hD (fun t w1 _ ht hb=>zW hb.1 (ZQ t ht w1))
 have HX2:Hid (∀(w1:World) (R:Prop),(Bx w (snC x) 36 w1∧R)→Calls Tryz.prog 168 #[.slice x.chunks.a x.chunks.l.length x.chunks.c] w1 (Gives w (snC x) 36 (zg x.chunks.l))):=
  hD (fun w1 _ hb=>zW hb.1 (HL.out w1 (zu hb.1)))
 have HX3:Hid (∀(w1:World) (R:Prop),(Bx w (snC x) 36 w1∧R)→Calls Tryz.prog 221 #[.slice x.proof.a x.proof.l.length x.proof.c, .func (.func 162) #[] #[]] w1 (Gives w (snC x) 36 (zg (x.proof.l.map zM)))):=
  hD (fun w1 _ hb=>zW hb.1 (HK.out w1 (zu hb.1)))
 have HC:Hid (∀w1,Bx w (snC x) 36 w1→Bx w (snC x) 36 w1∧w1.cell? ⟨w.heap.size,0,none⟩=some (.int .i64 x.slot)∧w1.cell? ⟨w.heap.size,1,none⟩=some (.string ⟨x.root.toArray⟩)∧w1.cell? ⟨w.heap.size,2,none⟩=some (.slice x.chunks.a x.chunks.l.length x.chunks.c)∧w1.cell? ⟨w.heap.size,3,none⟩=some (.slice x.proof.a x.proof.l.length x.proof.c)∧w1.cell? ⟨w.heap.size,4,none⟩=some (.slice x.chain.a x.chain.l.length x.chain.c)):=
  hD (fun w1 hb=>⟨hb,ze hb 0 _ rfl,ze hb 1 _ rfl,ze hb 2 _ rfl,ze hb 3 _ rfl,ze hb 4 _ rfl⟩)
 have hq0:¬(9223372036854775807<(zo [x.slot]).length+(zk x.root).length):=by omega
 have hq1:¬(9223372036854775807<(zo [x.slot]).length+(zk x.root).length+(zg x.chunks.l).length):=by omega
 have hq2:¬(9223372036854775807<(zo [x.slot]).length+(zk x.root).length+(zg x.chunks.l).length+(zg (x.proof.l.map zM)).length):=by omega
 have hq3:¬(9223372036854775807<(zo [x.slot]).length+(zk x.root).length+(zg x.chunks.l).length+(zg (x.proof.l.map zM)).length+(zg (x.chain.l.map ZF)).length):=by omega
 clear hok hs hch;go_in;go_wp2_with fail;refine(HH.out _ (Zk w (snC x) 36)).mono ?_;rintro e w9 ⟨rfl,b9⟩;have H0:=hD b9;have H1:=HC.out _ b9;obtain⟨-,k0,k1,k2,k3,k4⟩:=H1;clear b9;go_wp2_with fail;go_region_held3 (fun w1=>Bx w (snC x) 36 w1∧w1.cell? ⟨w.heap.size,0,none⟩=some (.int .i64 x.slot)∧w1.cell? ⟨w.heap.size,1,none⟩=some (.string ⟨x.root.toArray⟩)∧w1.cell? ⟨w.heap.size,2,none⟩=some (.slice x.chunks.a x.chunks.l.length x.chunks.c)∧w1.cell? ⟨w.heap.size,3,none⟩=some (.slice x.proof.a x.proof.l.length x.proof.c)∧w1.cell? ⟨w.heap.size,4,none⟩=some (.slice x.chain.a x.chain.l.length x.chain.c))
  (first|exact HC.out _ (yF H0.out)|exact HC.out _ (yh (‹Bx _ _ _ _∧_›).1 _)|exact HC.out _ ‹Bx _ _ _ _›)
  (first
   |(go_at_call 160;refine(HX0.out _ _ _ je jd).mono ?_;rintro e w2 ⟨rfl,b2⟩)
   |(go_at_call 161;refine(HX1.out _ _ _ ja je).mono ?_;rintro e w3 ⟨rfl,b3⟩)
   |(go_at_call 168;refine(HX2.out _ _ je).mono ?_;rintro e w4 ⟨rfl,b4⟩)
   |(go_at_call 221;refine(HX3.out _ _ je).mono ?_;rintro e w5 ⟨rfl,b5⟩))
 all_goals
  go_wp2_with fail;go_ret;exact ZJ jq (zu ‹_›)
set_option maxRecDepth 100000
set_option maxHeartbeats 8000000
open Go.RowKit
theorem code_any (m:Ms) (w:World) (hok:m.ok w) (hs:m.sz≤16777216) :
    Calls Tryz.prog 115 #[.agg #[.int .i64 m.kind, .int .i64 m.src, .int .i64 m.dst, .int .i64 m.view, .int .i64 m.slot, .string ⟨m.value.toArray⟩, .int .i64 m.till, .int .i64 m.signed.server, .int .i64 m.signed.kind, .int .i64 m.signed.view, .int .i64 m.signed.slot, .string ⟨m.signed.digest.toArray⟩, .string ⟨m.signed.sig.toArray⟩, .slice m.statuses.a m.statuses.l.length m.statuses.c, .slice m.entries.a m.entries.l.length m.entries.c, .int .i64 m.snapshot.slot, .string ⟨m.snapshot.root.toArray⟩, .slice m.snapshot.chunks.a m.snapshot.chunks.l.length m.snapshot.chunks.c, .slice m.snapshot.proof.a m.snapshot.proof.l.length m.snapshot.proof.c, .slice m.snapshot.chain.a m.snapshot.chain.l.length m.snapshot.chain.c, .slice m.texts.a m.texts.l.length m.texts.c]] w (zi (yO m) w):=by
 have hI:=hok.1;have hz:=hs;unfold Ms.sz at hz;have hch:=zai m.texts.l ja;have HG:Hid (∀w1,Calls Tryz.prog 162 #[.agg #[.int .i64 m.signed.server, .int .i64 m.signed.kind, .int .i64 m.signed.view, .int .i64 m.signed.slot, .string ⟨m.signed.digest.toArray⟩, .string ⟨m.signed.sig.toArray⟩]] w1 (zi (zM m.signed) w1)):=hD (fun w1=>zat m.signed hok.2.1 ja w1);have HL:Hid (∀w1,Below w.heap.size w w1→Calls Tryz.prog 168 #[.slice m.texts.a m.texts.l.length m.texts.c] w1 (zi (zg m.texts.l) w1)):=hD (fun w1 hb=>Zt _ _ _ w1 jaz ja ja);have HS:Hid (∀w1,Below w.heap.size w w1→Calls Tryz.prog 163 #[.slice m.statuses.a m.statuses.l.length m.statuses.c, .func (.func 164) #[] #[]] w1 (zi (zg (m.statuses.l.map Zo)) w1)):=hD (fun w1 hb=>listSt_any _ _ _ w1 (Sl.rd_below hok.2.2.1.1 hb) (fun y hy=>St.below (hok.2.2.1.2 y hy) hb) ja);have HD:Hid (∀w1,Below w.heap.size w w1→Calls Tryz.prog 165 #[.slice m.entries.a m.entries.l.length m.entries.c, .func (.func 166) #[] #[]] w1 (zi (zg (m.entries.l.map yQ)) w1)):=hD (fun w1 hb=>listDe_any _ _ _ w1 (Sl.rd_below hok.2.2.2.1.1 hb) (fun y hy=>De.below (hok.2.2.2.1.2 y hy) hb) ja);have HN:Hid (∀w1,Below w.heap.size w w1→Calls Tryz.prog 167 #[.agg #[.int .i64 m.snapshot.slot, .string ⟨m.snapshot.root.toArray⟩, .slice m.snapshot.chunks.a m.snapshot.chunks.l.length m.snapshot.chunks.c, .slice m.snapshot.proof.a m.snapshot.proof.l.length m.snapshot.proof.c, .slice m.snapshot.chain.a m.snapshot.chain.l.length m.snapshot.chain.c]] w1 (zi (Y9 m.snapshot) w1)):=hD (fun w1 hb=>zds _ w1 (Sn.below hok.2.2.2.2.1 hb) ja);have hl1:=yg [m.kind,m.src,m.dst,m.view,m.slot,m.till] jh jd;simp only [List.length_cons,List.length_nil] at hl1;have hl2:=zG m.value ja;have hl3:=Yf m.signed hok.2.1 ja;have hl4:=zG (zM m.signed) ja;have hl9:=hch.1;have hl5:=(ZW Zo St.sz m.statuses.l (fun y hy=>zbo y w (hok.2.2.1.2 y hy) jcf) (fun y=>by have:=y.sz_ge;omega) ja).1;have hl6:=(ZW yQ De.sz m.entries.l (fun y hy=>Y7 y w (hok.2.2.2.1.2 y hy) jcg) (fun y=>y.sz_ge) ja).1;have hl7:=zcc m.snapshot w hok.2.2.2.2.1 ja;have hl8:=zG (Y9 m.snapshot) ja;have HX0:Hid (∀(w1:World) (g:Nat) (R:Prop),(Bx w (msC m) 38 ((w1.alloc (.cells #[.int .i64 m.kind, .int .i64 m.src, .int .i64 m.dst, .int .i64 m.view, .int .i64 m.slot, .int .i64 m.till] 3)).drew)∧R)→w1.heap.size=g→Calls Tryz.prog 160 #[.slice (some ⟨g,0,none⟩) 6 6] ((w1.alloc (.cells #[.int .i64 m.kind, .int .i64 m.src, .int .i64 m.dst, .int .i64 m.view, .int .i64 m.slot, .int .i64 m.till] 3)).drew) (Gives w (msC m) 38 (zo [m.kind,m.src,m.dst,m.view,m.slot,m.till]))):=
  hD (fun w1 g _ hb hg=>ZR [m.kind,m.src,m.dst,m.view,m.slot,m.till] jd jh (fun A c W hr=>Ym A c _ W hr jd jh) hb.1 hg)
 have HX1:Hid (∀(t:List UInt8) (w1:World) (R:Prop),t.length≤70368744177664→(Bx w (msC m) 38 w1∧R)→Calls Tryz.prog 161 #[.string ⟨t.toArray⟩] w1 (Gives w (msC m) 38 (zk t))):=
  hD (fun t w1 _ ht hb=>zW hb.1 (ZQ t ht w1))
 have HX2:Hid (∀(w1:World) (R:Prop),(Bx w (msC m) 38 w1∧R)→Calls Tryz.prog 162 #[.agg #[.int .i64 m.signed.server, .int .i64 m.signed.kind, .int .i64 m.signed.view, .int .i64 m.signed.slot, .string ⟨m.signed.digest.toArray⟩, .string ⟨m.signed.sig.toArray⟩]] w1 (Gives w (msC m) 38 (zM m.signed))):=
  hD (fun w1 _ hb=>zW hb.1 (HG.out w1))
 have HX3:Hid (∀(w1:World) (R:Prop),(Bx w (msC m) 38 w1∧R)→Calls Tryz.prog 163 #[.slice m.statuses.a m.statuses.l.length m.statuses.c, .func (.func 164) #[] #[]] w1 (Gives w (msC m) 38 (zg (m.statuses.l.map Zo)))):=
  hD (fun w1 _ hb=>zW hb.1 (HS.out w1 (zu hb.1)))
 have HX4:Hid (∀(w1:World) (R:Prop),(Bx w (msC m) 38 w1∧R)→Calls Tryz.prog 165 #[.slice m.entries.a m.entries.l.length m.entries.c, .func (.func 166) #[] #[]] w1 (Gives w (msC m) 38 (zg (m.entries.l.map yQ)))):=
  hD (fun w1 _ hb=>zW hb.1 (HD.out w1 (zu hb.1)))
 have HX5:Hid (∀(w1:World) (R:Prop),(Bx w (msC m) 38 w1∧R)→Calls Tryz.prog 167 #[.agg #[.int .i64 m.snapshot.slot, .string ⟨m.snapshot.root.toArray⟩, .slice m.snapshot.chunks.a m.snapshot.chunks.l.length m.snapshot.chunks.c, .slice m.snapshot.proof.a m.snapshot.proof.l.length m.snapshot.proof.c, .slice m.snapshot.chain.a m.snapshot.chain.l.length m.snapshot.chain.c]] w1 (Gives w (msC m) 38 (Y9 m.snapshot))):=
  hD (fun w1 _ hb=>zW hb.1 (HN.out w1 (zu hb.1)))
 have HX6:Hid (∀(w1:World) (R:Prop),(Bx w (msC m) 38 w1∧R)→Calls Tryz.prog 168 #[.slice m.texts.a m.texts.l.length m.texts.c] w1 (Gives w (msC m) 38 (zg m.texts.l))):=
  hD (fun w1 _ hb=>zW hb.1 (HL.out w1 (zu hb.1)))
 have HC:Hid (∀w1,Bx w (msC m) 38 w1→Bx w (msC m) 38 w1∧w1.cell? ⟨w.heap.size,0,none⟩=some (.int .i64 m.kind)∧w1.cell? ⟨w.heap.size,1,none⟩=some (.int .i64 m.src)∧w1.cell? ⟨w.heap.size,2,none⟩=some (.int .i64 m.dst)∧w1.cell? ⟨w.heap.size,3,none⟩=some (.int .i64 m.view)∧w1.cell? ⟨w.heap.size,4,none⟩=some (.int .i64 m.slot)∧w1.cell? ⟨w.heap.size,5,none⟩=some (.string ⟨m.value.toArray⟩)∧w1.cell? ⟨w.heap.size,6,none⟩=some (.int .i64 m.till)∧w1.cell? ⟨w.heap.size,7,none⟩=some (.int .i64 m.signed.server)∧w1.cell? ⟨w.heap.size,8,none⟩=some (.int .i64 m.signed.kind)∧w1.cell? ⟨w.heap.size,9,none⟩=some (.int .i64 m.signed.view)∧w1.cell? ⟨w.heap.size,10,none⟩=some (.int .i64 m.signed.slot)∧w1.cell? ⟨w.heap.size,11,none⟩=some (.string ⟨m.signed.digest.toArray⟩)∧w1.cell? ⟨w.heap.size,12,none⟩=some (.string ⟨m.signed.sig.toArray⟩)∧w1.cell? ⟨w.heap.size,13,none⟩=some (.slice m.statuses.a m.statuses.l.length m.statuses.c)∧w1.cell? ⟨w.heap.size,14,none⟩=some (.slice m.entries.a m.entries.l.length m.entries.c)∧w1.cell? ⟨w.heap.size,15,none⟩=some (.int .i64 m.snapshot.slot)∧w1.cell? ⟨w.heap.size,16,none⟩=some (.string ⟨m.snapshot.root.toArray⟩)∧w1.cell? ⟨w.heap.size,17,none⟩=some (.slice m.snapshot.chunks.a m.snapshot.chunks.l.length m.snapshot.chunks.c)∧w1.cell? ⟨w.heap.size,18,none⟩=some (.slice m.snapshot.proof.a m.snapshot.proof.l.length m.snapshot.proof.c)∧w1.cell? ⟨w.heap.size,19,none⟩=some (.slice m.snapshot.chain.a m.snapshot.chain.l.length m.snapshot.chain.c)∧w1.cell? ⟨w.heap.size,20,none⟩=some (.slice m.texts.a m.texts.l.length m.texts.c)):=
  hD (fun w1 hb=>⟨hb,ze hb 0 _ rfl,ze hb 1 _ rfl,ze hb 2 _ rfl,ze hb 3 _ rfl,ze hb 4 _ rfl,ze hb 5 _ rfl,ze hb 6 _ rfl,ze hb 7 _ rfl,ze hb 8 _ rfl,ze hb 9 _ rfl,ze hb 10 _ rfl,ze hb 11 _ rfl,ze hb 12 _ rfl,ze hb 13 _ rfl,ze hb 14 _ rfl,ze hb 15 _ rfl,ze hb 16 _ rfl,ze hb 17 _ rfl,ze hb 18 _ rfl,ze hb 19 _ rfl,ze hb 20 _ rfl⟩)
 have H0:=hD (Zk w (msC m) 38);have hq0:¬(9223372036854775807<(zo [m.kind,m.src,m.dst,m.view,m.slot,m.till]).length+(zk m.value).length):=by omega
 have hq1:¬(9223372036854775807<(zo [m.kind,m.src,m.dst,m.view,m.slot,m.till]).length+(zk m.value).length+(zk (zM m.signed)).length):=by omega
 have hq2:¬(9223372036854775807<(zo [m.kind,m.src,m.dst,m.view,m.slot,m.till]).length+(zk m.value).length+(zk (zM m.signed)).length+(zg (m.statuses.l.map Zo)).length):=by omega
 have hq3:¬(9223372036854775807<(zo [m.kind,m.src,m.dst,m.view,m.slot,m.till]).length+(zk m.value).length+(zk (zM m.signed)).length+(zg (m.statuses.l.map Zo)).length+(zg (m.entries.l.map yQ)).length):=by omega
 have hq4:¬(9223372036854775807<(zo [m.kind,m.src,m.dst,m.view,m.slot,m.till]).length+(zk m.value).length+(zk (zM m.signed)).length+(zg (m.statuses.l.map Zo)).length+(zg (m.entries.l.map yQ)).length+(zk (Y9 m.snapshot)).length):=by omega
 have hq5:¬(9223372036854775807<(zo [m.kind,m.src,m.dst,m.view,m.slot,m.till]).length+(zk m.value).length+(zk (zM m.signed)).length+(zg (m.statuses.l.map Zo)).length+(zg (m.entries.l.map yQ)).length+(zk (Y9 m.snapshot)).length+(zg m.texts.l).length):=by omega
 clear hok hs hch;go_in;go_wp2_with fail;go_region_held3 (fun w1=>Bx w (msC m) 38 w1∧w1.cell? ⟨w.heap.size,0,none⟩=some (.int .i64 m.kind)∧w1.cell? ⟨w.heap.size,1,none⟩=some (.int .i64 m.src)∧w1.cell? ⟨w.heap.size,2,none⟩=some (.int .i64 m.dst)∧w1.cell? ⟨w.heap.size,3,none⟩=some (.int .i64 m.view)∧w1.cell? ⟨w.heap.size,4,none⟩=some (.int .i64 m.slot)∧w1.cell? ⟨w.heap.size,5,none⟩=some (.string ⟨m.value.toArray⟩)∧w1.cell? ⟨w.heap.size,6,none⟩=some (.int .i64 m.till)∧w1.cell? ⟨w.heap.size,7,none⟩=some (.int .i64 m.signed.server)∧w1.cell? ⟨w.heap.size,8,none⟩=some (.int .i64 m.signed.kind)∧w1.cell? ⟨w.heap.size,9,none⟩=some (.int .i64 m.signed.view)∧w1.cell? ⟨w.heap.size,10,none⟩=some (.int .i64 m.signed.slot)∧w1.cell? ⟨w.heap.size,11,none⟩=some (.string ⟨m.signed.digest.toArray⟩)∧w1.cell? ⟨w.heap.size,12,none⟩=some (.string ⟨m.signed.sig.toArray⟩)∧w1.cell? ⟨w.heap.size,13,none⟩=some (.slice m.statuses.a m.statuses.l.length m.statuses.c)∧w1.cell? ⟨w.heap.size,14,none⟩=some (.slice m.entries.a m.entries.l.length m.entries.c)∧w1.cell? ⟨w.heap.size,15,none⟩=some (.int .i64 m.snapshot.slot)∧w1.cell? ⟨w.heap.size,16,none⟩=some (.string ⟨m.snapshot.root.toArray⟩)∧w1.cell? ⟨w.heap.size,17,none⟩=some (.slice m.snapshot.chunks.a m.snapshot.chunks.l.length m.snapshot.chunks.c)∧w1.cell? ⟨w.heap.size,18,none⟩=some (.slice m.snapshot.proof.a m.snapshot.proof.l.length m.snapshot.proof.c)∧w1.cell? ⟨w.heap.size,19,none⟩=some (.slice m.snapshot.chain.a m.snapshot.chain.l.length m.snapshot.chain.c)∧w1.cell? ⟨w.heap.size,20,none⟩=some (.slice m.texts.a m.texts.l.length m.texts.c))
  (first|exact HC.out _ (yF H0.out)|exact HC.out _ (yh (‹Bx _ _ _ _∧_›).1 _)|exact HC.out _ ‹Bx _ _ _ _›)
  (first
   |(go_at_call 160;refine(HX0.out _ _ _ je jd).mono ?_;rintro e w2 ⟨rfl,b2⟩)
   |(go_at_call 161;refine(HX1.out _ _ _ ja je).mono ?_;rintro e w3 ⟨rfl,b3⟩)
   |(go_at_call 162;refine(HX2.out _ _ je).mono ?_;rintro e w4 ⟨rfl,b4⟩)
   |(go_at_call 163;refine(HX3.out _ _ je).mono ?_;rintro e w5 ⟨rfl,b5⟩)
   |(go_at_call 165;refine(HX4.out _ _ je).mono ?_;rintro e w6 ⟨rfl,b6⟩)
   |(go_at_call 167;refine(HX5.out _ _ je).mono ?_;rintro e w7 ⟨rfl,b7⟩)
   |(go_at_call 168;refine(HX6.out _ _ je).mono ?_;rintro e w8 ⟨rfl,b8⟩))
 all_goals
  go_wp2_with fail;go_ret;exact ZJ jq (zu ‹_›)
end Go.Proofs.YtepbbaifpckcpaaGreatDoor
