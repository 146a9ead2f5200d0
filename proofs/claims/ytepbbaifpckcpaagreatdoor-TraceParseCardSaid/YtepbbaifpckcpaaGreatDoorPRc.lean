/- The contract of the reference's code of a signature. -/
import Derived.Test.YtepbbaifpckcpaaGreatDoorPWa
open Go.Proofs.Tryz
namespace Go.Proofs.YtepbbaifpckcpaaGreatDoor
set_option maxRecDepth 100000
set_option maxHeartbeats 16000000
open Go.RowKit
theorem zfg(x:Sg)(w:World)(hok:x.ok)(hs:x.sz≤16777216) :
    Calls prog 72 #[.agg x] w (zm (zQ x) w):=by
 have hI:=hok;have hz:=hs;unfold Sg.sz at hz;have hl1:=ym [x.server,x.kind,x.view,x.slot] jdn jc;simp only[au,aJ]at hl1;have hl2:=zJ x.digest ja;have hl3:=zJ x.sig ja;have HX0:Hid (∀(w1:World) (g:Nat) (R:Prop),(Bx w (sgC x) 29 ((w1.alloc (.cells #[x.server,x.kind,x.view,x.slot] 3)).drew)∧R)→w1.heap.size=g→Calls prog 70 #[.slice (some ⟨g,0,none⟩) 4 4] ((w1.alloc (.cells #[x.server,x.kind,x.view,x.slot] 3)).drew) (Gives w (sgC x) 29 (zu [x.server,x.kind,x.view,x.slot]))):=
  hD (fun w1 g _ hb hg=>Z6 [x.server,x.kind,x.view,x.slot] jc jdn (fun A c W hr=>ZG A c _ W hr jc jdn) hb.1 hg)
 have HX1:Hid (∀(t:List UInt8) (w1:World) (R:Prop),t.length≤70368744177664→(Bx w (sgC x) 29 w1∧R)→Calls prog 71 #[t] w1 (Gives w (sgC x) 29 (zn t))):=
  hD (fun t w1 _ ht hb=>zZ hb.1 (Zt t ht w1))
 have HC:Hid (∀w1,Bx w (sgC x) 29 w1→Bx w (sgC x) 29 w1∧w1.cell? ⟨w.heap.size,0,none⟩=some (.int .i64 x.server)∧w1.cell? ⟨w.heap.size,1,none⟩=some (.int .i64 x.kind)∧w1.cell? ⟨w.heap.size,2,none⟩=some (.int .i64 x.view)∧w1.cell? ⟨w.heap.size,3,none⟩=some (.int .i64 x.slot)∧w1.cell? ⟨w.heap.size,4,none⟩=some (.string ⟨x.digest.toArray⟩)∧w1.cell? ⟨w.heap.size,5,none⟩=some (.string ⟨x.sig.toArray⟩)):=
  hD (fun w1 hb=>⟨hb,zg hb 0 _ rfl,zg hb 1 _ rfl,zg hb 2 _ rfl,zg hb 3 _ rfl,zg hb 4 _ rfl,zg hb 5 _ rfl⟩)
 have H0:=hD (Zy w (sgC x) 29);have hq0:¬(9223372036854775807<(zu [x.server,x.kind,x.view,x.slot]).length+(zn x.digest).length):=by omega
 have hq1:¬(9223372036854775807<(zu [x.server,x.kind,x.view,x.slot]).length+(zn x.digest).length+(zn x.sig).length):=by omega
 clear hok hs;go_in;go_wp2_with fail;go_region_held3 (fun w1=>Bx w (sgC x) 29 w1∧w1.cell? ⟨w.heap.size,0,none⟩=some (.int .i64 x.server)∧w1.cell? ⟨w.heap.size,1,none⟩=some (.int .i64 x.kind)∧w1.cell? ⟨w.heap.size,2,none⟩=some (.int .i64 x.view)∧w1.cell? ⟨w.heap.size,3,none⟩=some (.int .i64 x.slot)∧w1.cell? ⟨w.heap.size,4,none⟩=some (.string ⟨x.digest.toArray⟩)∧w1.cell? ⟨w.heap.size,5,none⟩=some (.string ⟨x.sig.toArray⟩))
  (first|exact HC _ (yO H0)|exact HC _ (yn (‹Bx _ _ _ _∧_›).1 _)|exact HC _ ‹Bx _ _ _ _›)
  (first
   |(go_at_call 70;refine(HX0 _ _ _ je jc).mono ?_;rintro e w2 ⟨rfl,b2⟩)
   |(go_at_call 71;refine(HX1 _ _ _ ja je).mono ?_;rintro e w3 ⟨rfl,b3⟩))
 all_goals
  go_wp2_with fail;go_ret;exact Z9 ji (zC ‹_›)
theorem sgC_len'(x:Sg):(sgC x).length=6:=rfl
theorem zfH(A:Option Addr)(c:Nat)(l:List Sg)(w:World)(hr:Rd w 6 A l.length (l.flatMap sgC))(hok:∀x∈l,x.ok)(hs:sum Sg.sz l≤16777216) :
    Calls prog 109 #[.slice A l.length c] w (zbA (l.map zQ) w):=by
 obtain⟨i0,hi,hz0,hz1,hz2⟩:=info_parts zdC;have HI:=hD hi;have HZ0:=hD hz0;have HZ1:=hD hz1;have HZ2:=hD hz2;have HR:=hD hr;have hlen:=ZL l hok hs;have HE:Hid (∀x∈l,∀w1,Calls prog 72 #[.agg x] w1 (zm (zQ x) w1)):=
  hD (fun x hx w1=>zfg x w1 (hok x hx) jen)
 have hn:l.length≤16777216:=by omega
 clear hi hz0 hz1 hz2 hr hok hs hlen;go_in;go_wp2_with fail;go_loopw [3,4] (fun o i wr=>∃k:Nat,i= .int .i64 k∧k≤l.length∧wr.ownsRow w.heap.size 9 1 o k (strC ((l.take k).map zQ))∧Below w.heap.size w wr∧w.heap.size≤wr.heap.size) (fun _ i _=>l.length-(intOf i).toNat)
 case atStart=>exact⟨0,rfl,by omega,by simpa[strC]using aR _ _ _ _,ae _ _,ag _⟩
 case round=>
  obtain⟨k,rfl,hk,hown,hb,hge⟩:=hrel;have HO:=hD hown;have HB:=hD hb;clear hown hb;by_cases hlt:k<l.length
  · have i0':(0:Int)≤(k:Int):=by omega
    have i1:(k:Int) <(l.length:Int):=by omega
    obtain⟨g,o,rfl,hg,hcc⟩:=HR.at sgC_len' ja hlt;obtain⟨x,hx⟩:∃x,x=l[k]:=⟨_,rfl⟩;have HX:=hD hx.symm;have HM:=hD (hx▸aH hlt:x∈l);clear hx;have a0:wr.cell? ⟨g,o+k * 6,none⟩=some (.int .i64 x.server):=by simpa using hcc wr HB 0 _ jd
    have a1:wr.cell? ⟨g,o+k * 6+1,none⟩=some (.int .i64 x.kind):=hcc wr HB 1 _ jd;have a2:wr.cell? ⟨g,o+k * 6+2,none⟩=some (.int .i64 x.view):=hcc wr HB 2 _ jd;have a3:wr.cell? ⟨g,o+k * 6+3,none⟩=some (.int .i64 x.slot):=hcc wr HB 3 _ jd;have a4:wr.cell? ⟨g,o+k * 6+4,none⟩=some (.string ⟨x.digest.toArray⟩):=hcc wr HB 4 _ jd;have a5:wr.cell? ⟨g,o+k * 6+5,none⟩=some (.string ⟨x.sig.toArray⟩):=hcc wr HB 5 _ jd;clear hcc;go_wp2_with fail;refine(HE x HM _).mono ?_;rintro e w1 ⟨rfl,b1⟩;have hz:wr.heap.size≤w1.heap.size:=b1.size;have B1:Hid (Below w.heap.size w w1):=hD (HB.trans (b1.mono hge));have HO1:Hid (w1.ownsRow w.heap.size 9 1 _ k (strC ((l.take k).map zQ))):=hD (ownsRow_below HO b1);exact fo242
  · obtain rfl:k=l.length:=by omega
    have HL:Hid (wr.ownsRow w.heap.size 9 1 _ l.length (strC (l.map zQ))):=hD jai;obtain⟨A',c',hv⟩:=ownsRow_form HL.out;subst hv;have HR2:=hD (Rd.own HL);go_wp2_with fail;go_ret;exact ret_strs _ _ (l.map zQ) rfl jc HR2 HB
theorem refStatus_any(s:St)(w:World)(hok:s.ok w)(hs:s.sz≤16777216) :
    Calls prog 68 #[.agg s] w (zm (ZA s) w):=by
 have hI:=hok.1;have hz:=hs;unfold St.sz at hz;have HG:Hid (∀w1,Calls prog 72 #[.agg s.signed] w1 (zm (zQ s.signed) w1)):=hD (fun w1=>zfg s.signed w1 hok.2.2.2 ja);have HK:Hid (∀w1,Below w.heap.size w w1→Calls prog 109 #[s.cert] w1 (zbA (s.cert.l.map zQ) w1)):=hD (fun w1 hb=>zfH _ _ _ w1 (Sl.rd_below hok.2.1 hb) hok.2.2.1 ja);have HL:Hid (∀w1 A c,Rd w1 1 A s.cert.l.length (strC (s.cert.l.map zQ))→Calls prog 73 #[.slice A s.cert.l.length c] w1 (zm (zk (s.cert.l.map zQ)) w1)):=hD (fun w1 A c hr=>by have h3:=ZL s.cert.l hok.2.2.1 ja;have h4:=Ze A c (s.cert.l.map zQ) w1 jes jg ja;simpa using h4);have hl1:=ym [s.server,s.view,s.length,s.lockView] jo jc;simp only[au,aJ]at hl1;have hl2:=zJ s.lock ja;have hl3:=(ZL s.cert.l hok.2.2.1 ja).1;have hl4:=zas s.signed hok.2.2.2 ja;have hl5:=zJ (zQ s.signed) ja;have HX0:Hid (∀(w1:World) (g:Nat) (R:Prop),(Bx w (stC s) 97 ((w1.alloc (.cells #[s.server,s.view,s.length,s.lockView] 3)).drew)∧R)→w1.heap.size=g→Calls prog 70 #[.slice (some ⟨g,0,none⟩) 4 4] ((w1.alloc (.cells #[s.server,s.view,s.length,s.lockView] 3)).drew) (Gives w (stC s) 97 (zu [s.server,s.view,s.length,s.lockView]))):=
  hD (fun w1 g _ hb hg=>Z6 [s.server,s.view,s.length,s.lockView] jc jo (fun A c W hr=>ZG A c _ W hr jc jo) hb.1 hg)
 have HX1:Hid (∀(t:List UInt8) (w1:World) (R:Prop),t.length≤70368744177664→(Bx w (stC s) 97 w1∧R)→Calls prog 71 #[t] w1 (Gives w (stC s) 97 (zn t))):=
  hD (fun t w1 _ ht hb=>zZ hb.1 (Zt t ht w1))
 have HX2:Hid (∀(w1:World) (R:Prop),(Bx w (stC s) 97 w1∧R)→Calls prog 109 #[s.cert] w1 (zfl w (stC s) 97 (s.cert.l.length) (s.cert.l.map zQ))):=
  hD (fun w1 _ hb=>zgn hb.1 (HK w1 (zC hb.1)) jc)
 have HX3:Hid (∀(w1:World) (R:Prop) (A:Option Addr) (c:Nat),(Bx w (stC s) 97 w1∧R)→Rd w1 1 A (s.cert.l.length) (strC (s.cert.l.map zQ))→Calls prog 73 #[.slice A (s.cert.l.length) c] w1 (Gives w (stC s) 97 (zk (s.cert.l.map zQ)))):=
  hD (fun w1 _ A c hb hr=>zZ hb.1 (HL w1 A c hr))
 have HX4:Hid (∀(w1:World) (R:Prop),(Bx w (stC s) 97 w1∧R)→Calls prog 72 #[.agg s.signed] w1 (Gives w (stC s) 97 (zQ s.signed))):=
  hD (fun w1 _ hb=>zZ hb.1 (HG w1))
 have HC:Hid (∀w1,Bx w (stC s) 97 w1→Bx w (stC s) 97 w1∧w1.cell? ⟨w.heap.size,0,none⟩=some (.int .i64 s.server)∧w1.cell? ⟨w.heap.size,1,none⟩=some (.int .i64 s.view)∧w1.cell? ⟨w.heap.size,2,none⟩=some (.int .i64 s.length)∧w1.cell? ⟨w.heap.size,3,none⟩=some (.int .i64 s.lockView)∧w1.cell? ⟨w.heap.size,4,none⟩=some (.string ⟨s.lock.toArray⟩)∧w1.cell? ⟨w.heap.size,5,none⟩=some (.slice s.cert.a s.cert.l.length s.cert.c)∧w1.cell? ⟨w.heap.size,6,none⟩=some (.int .i64 s.signed.server)∧w1.cell? ⟨w.heap.size,7,none⟩=some (.int .i64 s.signed.kind)∧w1.cell? ⟨w.heap.size,8,none⟩=some (.int .i64 s.signed.view)∧w1.cell? ⟨w.heap.size,9,none⟩=some (.int .i64 s.signed.slot)∧w1.cell? ⟨w.heap.size,10,none⟩=some (.string ⟨s.signed.digest.toArray⟩)∧w1.cell? ⟨w.heap.size,11,none⟩=some (.string ⟨s.signed.sig.toArray⟩)):=
  hD (fun w1 hb=>⟨hb,zg hb 0 _ rfl,zg hb 1 _ rfl,zg hb 2 _ rfl,zg hb 3 _ rfl,zg hb 4 _ rfl,zg hb 5 _ rfl,zg hb 6 _ rfl,zg hb 7 _ rfl,zg hb 8 _ rfl,zg hb 9 _ rfl,zg hb 10 _ rfl,zg hb 11 _ rfl⟩)
 have H0:=hD (Zy w (stC s) 97);have hq0:¬(9223372036854775807<(zu [s.server,s.view,s.length,s.lockView]).length+(zn s.lock).length):=by omega
 have hq1:¬(9223372036854775807<(zu [s.server,s.view,s.length,s.lockView]).length+(zn s.lock).length+(zk (s.cert.l.map zQ)).length):=by omega
 have hq2:¬(9223372036854775807<(zu [s.server,s.view,s.length,s.lockView]).length+(zn s.lock).length+(zk (s.cert.l.map zQ)).length+(zn (zQ s.signed)).length):=by omega
 clear hok hs;go_in;go_wp2_with fail;go_region_held3 (fun w1=>Bx w (stC s) 97 w1∧w1.cell? ⟨w.heap.size,0,none⟩=some (.int .i64 s.server)∧w1.cell? ⟨w.heap.size,1,none⟩=some (.int .i64 s.view)∧w1.cell? ⟨w.heap.size,2,none⟩=some (.int .i64 s.length)∧w1.cell? ⟨w.heap.size,3,none⟩=some (.int .i64 s.lockView)∧w1.cell? ⟨w.heap.size,4,none⟩=some (.string ⟨s.lock.toArray⟩)∧w1.cell? ⟨w.heap.size,5,none⟩=some (.slice s.cert.a s.cert.l.length s.cert.c)∧w1.cell? ⟨w.heap.size,6,none⟩=some (.int .i64 s.signed.server)∧w1.cell? ⟨w.heap.size,7,none⟩=some (.int .i64 s.signed.kind)∧w1.cell? ⟨w.heap.size,8,none⟩=some (.int .i64 s.signed.view)∧w1.cell? ⟨w.heap.size,9,none⟩=some (.int .i64 s.signed.slot)∧w1.cell? ⟨w.heap.size,10,none⟩=some (.string ⟨s.signed.digest.toArray⟩)∧w1.cell? ⟨w.heap.size,11,none⟩=some (.string ⟨s.signed.sig.toArray⟩))
  (first|exact HC _ (yO H0)|exact HC _ (yn (‹Bx _ _ _ _∧_›).1 _)|exact HC _ ‹Bx _ _ _ _›)
  (first
   |(go_at_call 70;refine(HX0 _ _ _ je jc).mono ?_;rintro e w2 ⟨rfl,b2⟩)
   |(go_at_call 71;refine(HX1 _ _ _ ja je).mono ?_;rintro e w3 ⟨rfl,b3⟩)
   |(go_at_call 109;refine(HX2 _ _ je).mono ?_;rintro e w4 ⟨A2,c2,rfl,r2,b4⟩)
   |(go_at_call 73;refine(HX3 _ _ _ _ je ?_).mono ?_;assumption;rintro e w5 ⟨rfl,b5⟩)
   |(go_at_call 72;refine(HX4 _ _ je).mono ?_;rintro e w6 ⟨rfl,b6⟩))
 all_goals
  go_wp2_with fail;go_ret;exact Z9 ji (zC ‹_›)
theorem zeb(d:De)(w:World)(hok:d.ok w)(hs:d.sz≤16777216) :
    Calls prog 69 #[.agg d] w (zm (Zi d) w):=by
 have hI:=hok.1;have hz:=hs;unfold De.sz at hz;have HK:Hid (∀w1,Below w.heap.size w w1→Calls prog 109 #[d.cert] w1 (zbA (d.cert.l.map zQ) w1)):=hD (fun w1 hb=>zfH _ _ _ w1 (Sl.rd_below hok.2.1 hb) hok.2.2 ja);have HL:Hid (∀w1 A c,Rd w1 1 A d.cert.l.length (strC (d.cert.l.map zQ))→Calls prog 73 #[.slice A d.cert.l.length c] w1 (zm (zk (d.cert.l.map zQ)) w1)):=hD (fun w1 A c hr=>by have h3:=ZL d.cert.l hok.2.2 ja;have h4:=Ze A c (d.cert.l.map zQ) w1 jes jg ja;simpa using h4);have hl1:=ym [d.view] jo jc;simp only[au,aJ]at hl1;have hl2:=zJ d.value ja;have hl3:=(ZL d.cert.l hok.2.2 ja).1;have HX0:Hid (∀(w1:World) (g:Nat) (R:Prop),(Bx w (deC d) 100 ((w1.alloc (.cells #[d.view] 3)).drew)∧R)→w1.heap.size=g→Calls prog 70 #[.slice (some ⟨g,0,none⟩) 1 1] ((w1.alloc (.cells #[d.view] 3)).drew) (Gives w (deC d) 100 (zu [d.view]))):=
  hD (fun w1 g _ hb hg=>Z6 [d.view] jc jo (fun A c W hr=>ZG A c _ W hr jc jo) hb.1 hg)
 have HX1:Hid (∀(t:List UInt8) (w1:World) (R:Prop),t.length≤70368744177664→(Bx w (deC d) 100 w1∧R)→Calls prog 71 #[t] w1 (Gives w (deC d) 100 (zn t))):=
  hD (fun t w1 _ ht hb=>zZ hb.1 (Zt t ht w1))
 have HX2:Hid (∀(w1:World) (R:Prop),(Bx w (deC d) 100 w1∧R)→Calls prog 109 #[d.cert] w1 (zfl w (deC d) 100 (d.cert.l.length) (d.cert.l.map zQ))):=
  hD (fun w1 _ hb=>zgn hb.1 (HK w1 (zC hb.1)) jc)
 have HX3:Hid (∀(w1:World) (R:Prop) (A:Option Addr) (c:Nat),(Bx w (deC d) 100 w1∧R)→Rd w1 1 A (d.cert.l.length) (strC (d.cert.l.map zQ))→Calls prog 73 #[.slice A (d.cert.l.length) c] w1 (Gives w (deC d) 100 (zk (d.cert.l.map zQ)))):=
  hD (fun w1 _ A c hb hr=>zZ hb.1 (HL w1 A c hr))
 have HC:Hid (∀w1,Bx w (deC d) 100 w1→Bx w (deC d) 100 w1∧w1.cell? ⟨w.heap.size,0,none⟩=some (.int .i64 d.view)∧w1.cell? ⟨w.heap.size,1,none⟩=some (.string ⟨d.value.toArray⟩)∧w1.cell? ⟨w.heap.size,2,none⟩=some (.slice d.cert.a d.cert.l.length d.cert.c)):=
  hD (fun w1 hb=>⟨hb,zg hb 0 _ rfl,zg hb 1 _ rfl,zg hb 2 _ rfl⟩)
 have H0:=hD (Zy w (deC d) 100);have hq0:¬(9223372036854775807<(zu [d.view]).length+(zn d.value).length):=by omega
 have hq1:¬(9223372036854775807<(zu [d.view]).length+(zn d.value).length+(zk (d.cert.l.map zQ)).length):=by omega
 clear hok hs;go_in;go_wp2_with fail;go_region_held3 (fun w1=>Bx w (deC d) 100 w1∧w1.cell? ⟨w.heap.size,0,none⟩=some (.int .i64 d.view)∧w1.cell? ⟨w.heap.size,1,none⟩=some (.string ⟨d.value.toArray⟩)∧w1.cell? ⟨w.heap.size,2,none⟩=some (.slice d.cert.a d.cert.l.length d.cert.c))
  (first|exact HC _ (yO H0)|exact HC _ (yn (‹Bx _ _ _ _∧_›).1 _)|exact HC _ ‹Bx _ _ _ _›)
  (first
   |(go_at_call 70;refine(HX0 _ _ _ je jc).mono ?_;rintro e w2 ⟨rfl,b2⟩)
   |(go_at_call 71;refine(HX1 _ _ _ ja je).mono ?_;rintro e w3 ⟨rfl,b3⟩)
   |(go_at_call 109;refine(HX2 _ _ je).mono ?_;rintro e w4 ⟨A2,c2,rfl,r2,b4⟩)
   |(go_at_call 73;refine(HX3 _ _ _ _ je ?_).mono ?_;assumption;rintro e w5 ⟨rfl,b5⟩))
 all_goals
  go_wp2_with fail;go_ret;exact Z9 ji (zC ‹_›)
theorem hoC_len'(x:Ho):(hoC x).length=4:=rfl
variable{args:Array Value}{k:FuncId}{l:List UInt8}{cs:List Value}{g:Nat}{P:Program}{T:TypeId}{w w1 wr:World}
theorem bx_grown{w2:World}{row:Option Nat}(h:Bx w cs T w1)(hg:w1.grownBy w2 row)(hr:∀g,row=some g→w.heap.size+1≤g):Bx w cs T w2:=below_grown h (ZT h) hg hr
def Gives2(w wr:World)(cs:List Value)(T:TypeId)(l:List UInt8)(e:Ending)(w':World):Prop:=e= .returned (.string ⟨l.toArray⟩)∧Bx w cs T w'∧Below wr.heap.size wr w'
theorem gives2_of(hb:Bx w cs T w1)(hc:Below wr.heap.size wr w1)(h:Calls P k args w1 (zm l w1)):Calls P k args w1 (Gives2 w wr cs T l):=
 h.mono fun _ _ ⟨he,hw⟩=>⟨he,zbv hb hw,bon hc hw⟩
theorem gives2_int(l:List Int)(_hl:l.length≤100)(_hi:∀n∈l,I64 n)
    (hc:∀(A:Option Addr) (c:Nat) (w:World),Rd w 1 A l.length (intC l)→Calls P k #[.slice A l.length c] w (zm (zu l) w)) (hb:Bx w cs T (w1.alloc (.cells (intC l).toArray 3)).drew) (hb2:Below wr.heap.size wr (w1.alloc (.cells (intC l).toArray 3)).drew)  (hg:w1.heap.size=g) :
    Calls P k #[.slice (some ⟨g,0,none⟩) l.length l.length] (w1.alloc (.cells (intC l).toArray 3)).drew (Gives2 w wr cs T (zu l)):=
 hg▸gives2_of hb hb2 (hc _ _ _ ((zdb w1 1 l.length (intC l) 3 (by simp[intC])).below (ae _ _).drew))
def zaK(wr:World)(l:List UInt8)(e:Ending)(w':World):Prop:=e= .returned (.string ⟨l.toArray⟩)∧Below wr.heap.size wr w'
theorem ZX(hb:Below wr.heap.size wr w1)(h:Calls P k args w1 (zm l w1)):Calls P k args w1 (zaK wr l):=
 h.mono fun _ _ ⟨he,hw⟩=>⟨he,bon hb hw⟩
theorem zgw(l:List Int)
    (hc:∀(A:Option Addr) (c:Nat) (w:World),Rd w 1 A l.length (intC l)→Calls P k #[.slice A l.length c] w (zm (zu l) w)) (hb:Below wr.heap.size wr (w1.alloc (.cells (intC l).toArray 3)).drew)  (hg:w1.heap.size=g) :
    Calls P k #[.slice (some ⟨g,0,none⟩) l.length l.length] (w1.alloc (.cells (intC l).toArray 3)).drew (zaK wr (zu l)):=
 hg▸ZX hb (hc _ _ _ ((zdb w1 1 l.length (intC l) 3 (by simp[intC])).below (ae _ _).drew))
def zgf(wr:World)(n:Nat)(l:List (List UInt8))(e:Ending)(w':World):Prop:=∃A c,e= .returned (.slice A n c)∧Rd w' 1 A n (strC l)∧Below wr.heap.size wr w'
theorem givesB_strs{l:List (List UInt8)}(hb:Below wr.heap.size wr w1){n:Nat}(h:Calls P k args w1 (zbA l w1))(hn:l.length=n):Calls P k args w1 (zgf wr n l):=
 h.mono fun _ _ ⟨A,c,he,hr,hw⟩=>⟨A,c,by rw[he,hn],by rw[←hn];exact hr,bon hb hw⟩
theorem zeD(x:Sn)(w:World)(hok:x.ok w)(hs:x.sz≤16777216) :
    Calls prog 74 #[.agg x] w (zm (zbm x) w):=by
 obtain⟨i0,hi,hz0,hz1,hz2⟩:=info_parts zdC;have HI:=hD hi;have HZ0:=hD hz0;have HZ1:=hD hz1;have HZ2:=hD hz2;have HOK:=hD hok;have HR:Hid (Rd w 4 x.chain.a x.chain.l.length (x.chain.l.flatMap hoC)):=hD hok.2.2.2.1;have hz:=hs;unfold Sn.sz at hz;have hch:=zcl x.chunks.l ja;have hll:=Yh Yc Ho.sz x.chain.l (fun y hy=>zbZ y w (hok.2.2.2.2 y hy) jem) (fun y=>by have:=y.sz_ge;omega) ja;have hn:x.chain.l.length≤16777216:=by omega
 have HSZ:Hid (∀y∈x.chain.l,y.sz≤16777216):=hD (fun y hy=>by have:=Zv Ho.sz _ y hy;omega);have HK:Hid (∀w1,Below w.heap.size w w1→Calls prog 109 #[x.proof] w1 (zbA (x.proof.l.map zQ) w1)):=hD (fun w1 hb=>zfH _ _ _ w1 (Sl.rd_below hok.2.2.1.1 hb) hok.2.2.1.2 ja);have HL:Hid (∀w1 A c,Rd w1 1 A x.proof.l.length (strC (x.proof.l.map zQ))→Calls prog 73 #[.slice A x.proof.l.length c] w1 (zm (zk (x.proof.l.map zQ)) w1)):=hD (fun w1 A c hr=>by have h3:=ZL x.proof.l hok.2.2.1.2 ja;have h4:=Ze A c (x.proof.l.map zQ) w1 jes jg ja;simpa using h4);have HM:Hid (∀w1 A c,Rd w1 1 A x.chain.l.length (strC (x.chain.l.map Yc))→Calls prog 73 #[.slice A x.chain.l.length c] w1 (zm (zk (x.chain.l.map Yc)) w1)):=hD (fun w1 A c hr=>by have h4:=Ze A c (x.chain.l.map Yc) w1 jes jg ja;simpa using h4);have HN:Hid (∀w1,Below w.heap.size w w1→Calls prog 73 #[x.chunks] w1 (zm (zk x.chunks.l) w1)):=hD (fun w1 hb=>Ze _ _ _ w1 jct ja ja);have hI:=hok.1;have hl1:=ym [x.slot] jo jc;simp only[au,aJ]at hl1;have hl2:=zJ x.root ja;have hl3:=(ZL x.proof.l hok.2.2.1.2 ja).1;have hl4:=hch.1;have hl5:=hll.1;have HC5:Hid (∀w1,Bx w (snC x) 36 w1→Bx w (snC x) 36 w1∧w1.cell? ⟨w.heap.size,0,none⟩=some (.int .i64 x.slot)∧w1.cell? ⟨w.heap.size,1,none⟩=some (.string ⟨x.root.toArray⟩)∧w1.cell? ⟨w.heap.size,2,none⟩=some (.slice x.chunks.a x.chunks.l.length x.chunks.c)∧w1.cell? ⟨w.heap.size,3,none⟩=some (.slice x.proof.a x.proof.l.length x.proof.c)∧w1.cell? ⟨w.heap.size,4,none⟩=some (.slice x.chain.a x.chain.l.length x.chain.c)):=
  hD (fun w1 hb=>⟨hb,zg hb 0 _ rfl,zg hb 1 _ rfl,zg hb 2 _ rfl,zg hb 3 _ rfl,zg hb 4 _ rfl⟩)
 have hq0:¬(9223372036854775807<(zu [x.slot]).length+(zn x.root).length):=by omega
 have hq1:¬(9223372036854775807<(zu [x.slot]).length+(zn x.root).length+(zk x.chunks.l).length):=by omega
 have hq2:¬(9223372036854775807<(zu [x.slot]).length+(zn x.root).length+(zk x.chunks.l).length+(zk (x.proof.l.map zQ)).length):=by omega
 have hq3:¬(9223372036854775807<(zu [x.slot]).length+(zn x.root).length+(zk x.chunks.l).length+(zk (x.proof.l.map zQ)).length+(zk (x.chain.l.map Yc)).length):=by omega
 have HB0:=hD (Zy w (snC x) 36);clear hi hz0 hz1 hz2 hok hch hll;go_in;go_wp2_with fail;go_loopw [3,4] (fun o i wr=>∃k:Nat,i= .int .i64 k∧k≤x.chain.l.length∧wr.ownsRow (w.heap.size+1) 9 1 o k (strC ((x.chain.l.take k).map Yc))∧Bx w (snC x) 36 wr) (fun _ i _=>x.chain.l.length-(intOf i).toNat)
 case atStart=>exact⟨0,rfl,by omega,by simpa[strC]using aR _ _ _ _,HB0⟩
 case round=>
  obtain⟨k,rfl,hk,hown,hb⟩:=hrel;have HO:=hD hown;have HB:=hD hb;obtain⟨-,b0,b1,b2,b3,b4⟩:=HC5.out wr hb;have hge:=ZT hb;clear hown hb;by_cases hlt:k<x.chain.l.length
  · have i0':(0:Int)≤(k:Int):=by omega
    have i1:(k:Int) <(x.chain.l.length:Int):=by omega
    obtain⟨g,o,hxa,hg,hcc⟩:=HR.at hoC_len' ja hlt;obtain⟨y,hy⟩:∃y,y=x.chain.l[k]:=⟨_,rfl⟩;have HY:=hD hy.symm;have hM:y∈x.chain.l:=hy▸aH hlt;have hyok:=HOK.2.2.2.2 y hM;have hysz:=HSZ.out y hM;have hyl:=zbZ y w hyok hysz;have hye:(Yc y).length=(zu [y.slot]).length+(Zi y.entry).length:=by simp[Yc]
    clear hy;rw[hxa]at b4;have HXA:=hD hxa;clear hxa;have HC:Hid (∀w1,Bx w (snC x) 36 w1→Bx w (snC x) 36 w1∧w1.cell? ⟨w.heap.size,4,none⟩=some (.slice (some ⟨g,o,none⟩) x.chain.l.length x.chain.c)∧w1.cell? ⟨g,o+k * 4,none⟩=some (.int .i64 y.slot)∧w1.cell? ⟨g,o+k * 4+1,none⟩=some (.int .i64 y.entry.view)∧w1.cell? ⟨g,o+k * 4+2,none⟩=some (.string ⟨y.entry.value.toArray⟩)∧w1.cell? ⟨g,o+k * 4+3,none⟩=some (.slice y.entry.cert.a y.entry.cert.l.length y.entry.cert.c)):=
     hD (fun w1 hb=>⟨hb,by have:=(HC5.out w1 hb).2.2.2.2.2;rwa[HXA.out]at this,by simpa using hcc w1 (zC hb) 0 _ jdf,hcc w1 (zC hb) 1 _ jdf,hcc w1 (zC hb) 2 _ jdf,hcc w1 (zC hb) 3 _ jdf⟩)
    have HP:Hid (∀(w1:World) (g:Nat) (R:Prop),(Bx w (snC x) 36 ((w1.alloc (.cells #[y.slot] 3)).drew)∧R)→Below wr.heap.size wr ((w1.alloc (.cells #[y.slot] 3)).drew)→w1.heap.size=g→Calls prog 70 #[.slice (some ⟨g,0,none⟩) 1 1] ((w1.alloc (.cells #[y.slot] 3)).drew) (Gives2 w wr (snC x) 36 (zu [y.slot]))):=
     hD (fun w1 g _ hb hb2 hg=>gives2_int [y.slot] jc (by simpa[dR]using hyok.1) (fun A c W hr=>ZG A c _ W hr jc (by simpa[dR]using hyok.1)) hb.1 hb2 hg)
    have HQ:Hid (∀(w1:World) (R:Prop),(Bx w (snC x) 36 w1∧R)→Below wr.heap.size wr w1→Calls prog 69 #[.agg y.entry] w1 (Gives2 w wr (snC x) 36 (Zi y.entry))):=
     hD (fun w1 _ hb hb2=>gives2_of hb.1 hb2 (zeb y.entry w1 (De.below hyok.2 (zC hb.1)) (by unfold Ho.sz at hysz;omega)))
    have HOW:Hid (∀w1,Below wr.heap.size wr w1→w1.ownsRow (w.heap.size+1) 9 1 _ k (strC ((x.chain.l.take k).map Yc))):=hD (fun w1 hb=>ownsRow_below HO hb);have HOB:Hid (∀b,_=some b→w.heap.size+1≤b):=hD (fun b hb=>(HO.lt b hb).1);have hqa:¬(9223372036854775807<(zu [y.slot]).length+(Zi y.entry).length):=by omega
    clear hcc hyok;go_wp2_with fail;go_region_held3 (fun w1=>Bx w (snC x) 36 w1∧w1.cell? ⟨w.heap.size,4,none⟩=some (.slice (some ⟨g,o,none⟩) x.chain.l.length x.chain.c)∧w1.cell? ⟨g,o+k * 4,none⟩=some (.int .i64 y.slot)∧w1.cell? ⟨g,o+k * 4+1,none⟩=some (.int .i64 y.entry.view)∧w1.cell? ⟨g,o+k * 4+2,none⟩=some (.string ⟨y.entry.value.toArray⟩)∧w1.cell? ⟨g,o+k * 4+3,none⟩=some (.slice y.entry.cert.a y.entry.cert.l.length y.entry.cert.c))
     (first|exact HC _ (yO HB)|exact HC _ (yn (‹Bx _ _ _ _∧_›).1 _)|exact HC _ ‹Bx _ _ _ _› |exact HC _ (yO (yn ‹Bx _ _ _ _› _))|exact HC _ (bx_grown (‹Bx _ _ _ _∧_›).1 ‹_› HOB))
     (first
      |(go_at_call 70;refine(HP _ _ _ je (by repeat' (first|exact ae _ _|apply bP|refine dY ?_ jc _)) jc).mono ?_;rintro e w2 ⟨rfl,c2,d2⟩)
      |(go_at_call 69;refine(HQ _ _ je jap).mono ?_;rintro e w3 ⟨rfl,c3,d3⟩)
      |(refine dz _ ji _ _ _ ji (w.heap.size+1) 9 i0 _ 1 16 underlying32 HI HZ0 HZ1 HZ2 rfl jf _ _ _ ji (((HOW _ ‹Below wr.heap.size wr _›).alloc _).drew) _ 1 1 [.string ⟨(zu [y.slot]++Zi y.entry).toArray⟩] ji ji (dI (cs:=#[.string ⟨(zu [y.slot]++Zi y.entry).toArray⟩]) (t:=9) (fr:=(0,0)) (dJ _ _)) jr ja jq ja (by have hz:=ZT c3;simp;omega) _ rfl ?_;intro gg cap w4 hown1 hgrow hat hlt4))
    all_goals
     have HO3:Hid (w4.ownsRow (w.heap.size+1) 9 1 _ (k+1) (strC ((x.chain.l.take (k+1)).map Yc))):=hD (by
      rw[bq hlt,fQ,cO,dE,HY.out,Y2,show Yc y=zu [y.slot]++Zi y.entry from rfl];simpa only[List.map_take]using hown1)
     have HG3:=hD hgrow;have HB3:=hD c3;clear hown1 hgrow hat c3 d3;go_wp2_with fail;go_roundw
     case rel=>
      exact⟨k+1,by go_num,by omega,HO3,bx_grown (yn HB3 _) HG3 HOB⟩
     case measure=>simp[intOf];omega
  · obtain rfl:k=x.chain.l.length:=by omega
    have HL2:Hid (wr.ownsRow (w.heap.size+1) 9 1 _ x.chain.l.length (strC (x.chain.l.map Yc))):=hD jai;obtain⟨A',c',hv⟩:=ownsRow_form HL2.out;subst hv;have hcl:=HC5.out wr HB.out;clear b0 b1 b2 b3 b4;obtain⟨-,b0,b1,b2,b3,b4⟩:=hcl;have HC6:Hid (∀w1,Below wr.heap.size wr w1→Below wr.heap.size wr w1∧w1.cell? ⟨w.heap.size,0,none⟩=some (.int .i64 x.slot)∧w1.cell? ⟨w.heap.size,1,none⟩=some (.string ⟨x.root.toArray⟩)∧w1.cell? ⟨w.heap.size,2,none⟩=some (.slice x.chunks.a x.chunks.l.length x.chunks.c)∧w1.cell? ⟨w.heap.size,3,none⟩=some (.slice x.proof.a x.proof.l.length x.proof.c)):=
     hD (fun w1 hb=>⟨hb,(hb.cell (p:=⟨w.heap.size,0,none⟩) jw).trans b0,(hb.cell (p:=⟨w.heap.size,1,none⟩) jw).trans b1,(hb.cell (p:=⟨w.heap.size,2,none⟩) jw).trans b2,(hb.cell (p:=⟨w.heap.size,3,none⟩) jw).trans b3⟩)
    have HLB:Hid (∀w1,Below wr.heap.size wr w1→Below w.heap.size w w1):=hD (fun w1 hb=>(zC HB).trans (hb.mono ja));have HX0:Hid (∀(w1:World) (g:Nat) (R:Prop),(Below wr.heap.size wr ((w1.alloc (.cells #[x.slot] 3)).drew)∧R)→w1.heap.size=g→Calls prog 70 #[.slice (some ⟨g,0,none⟩) 1 1] ((w1.alloc (.cells #[x.slot] 3)).drew) (zaK wr (zu [x.slot]))):=
     hD (fun w1 g _ hb hg=>zgw [x.slot] (fun A c W hr=>ZG A c _ W hr jc jo) hb.1 hg)
    have HX1:Hid (∀(t:List UInt8) (w1:World) (R:Prop),t.length≤70368744177664→(Below wr.heap.size wr w1∧R)→Calls prog 71 #[t] w1 (zaK wr (zn t))):=
     hD (fun t w1 _ ht hb=>ZX hb.1 (Zt t ht w1))
    have HX2:Hid (∀(w1:World) (R:Prop),(Below wr.heap.size wr w1∧R)→Calls prog 73 #[x.chunks] w1 (zaK wr (zk x.chunks.l))):=
     hD (fun w1 _ hb=>ZX hb.1 (HN w1 (HLB w1 hb.1)))
    have HX3:Hid (∀(w1:World) (R:Prop),(Below wr.heap.size wr w1∧R)→Calls prog 109 #[x.proof] w1 (zgf wr x.proof.l.length (x.proof.l.map zQ))):=
     hD (fun w1 _ hb=>givesB_strs hb.1 (HK w1 (HLB w1 hb.1)) jc)
    have HX4:Hid (∀(w1:World) (R:Prop) (A:Option Addr) (c:Nat),(Below wr.heap.size wr w1∧R)→Rd w1 1 A x.proof.l.length (strC (x.proof.l.map zQ))→Calls prog 73 #[.slice A x.proof.l.length c] w1 (zaK wr (zk (x.proof.l.map zQ)))):=
     hD (fun w1 _ A c hb hr=>ZX hb.1 (HL w1 A c hr))
    have HX5:Hid (∀(w1:World) (R:Prop),(Below wr.heap.size wr w1∧R)→Calls prog 73 #[.slice A' x.chain.l.length c'] w1 (zaK wr (zk (x.chain.l.map Yc)))):=
     hD (fun w1 _ hb=>ZX hb.1 (HM w1 _ _ ((Rd.own HL2).below hb.1)))
    go_wp2_with fail;go_region_held3 (fun w1=>Below wr.heap.size wr w1∧w1.cell? ⟨w.heap.size,0,none⟩=some (.int .i64 x.slot)∧w1.cell? ⟨w.heap.size,1,none⟩=some (.string ⟨x.root.toArray⟩)∧w1.cell? ⟨w.heap.size,2,none⟩=some (.slice x.chunks.a x.chunks.l.length x.chunks.c)∧w1.cell? ⟨w.heap.size,3,none⟩=some (.slice x.proof.a x.proof.l.length x.proof.c))
     (first|exact HC6 _ (ae _ _).drew|exact HC6 _ (dY (‹Below _ _ _∧_›).1 (Below.size (‹Below _ _ _∧_›).1) _)|exact HC6 _ ‹Below wr.heap.size wr _›)
     (first
      |(go_at_call 70;refine(HX0 _ _ _ je jc).mono ?_;rintro e w2 ⟨rfl,c2⟩)
      |(go_at_call 71;refine(HX1 _ _ _ ja je).mono ?_;rintro e w3 ⟨rfl,c3⟩)
      |(go_at_call 109;refine(HX3 _ _ je).mono ?_;rintro e w5 ⟨A5,c5,rfl,r5,d5⟩)
      |(go_at_call_of 73 (Value.slice x.chunks.a x.chunks.l.length x.chunks.c);refine(HX2 _ _ je).mono ?_;rintro e w4 ⟨rfl,c4⟩)
      |(go_at_call_of 73 (Value.slice A' x.chain.l.length c');refine(HX5 _ _ je).mono ?_;rintro e w7 ⟨rfl,c7⟩)
      |(go_at_call 73;refine(HX4 _ _ _ _ je ?_).mono ?_;assumption;rintro e w6 ⟨rfl,c6⟩))
    all_goals
     go_wp2_with fail;go_ret;exact Z9 ji (HLB _ ‹_›)
theorem stC_len''(x:St):(stC x).length=12:=rfl
theorem deC_len''(x:De):(deC x).length=3:=rfl
theorem zbH(m:Ms)(w:World)(hok:m.ok w)(hs:m.sz≤16777216) :
    Calls prog 46 #[.agg m] w (zm (ZP m) w):=by
 obtain⟨i0,hi,hz0,hz1,hz2⟩:=info_parts zdC;have HI:=hD hi;have HZ0:=hD hz0;have HZ1:=hD hz1;have HZ2:=hD hz2;have HRSt:Hid (Rd w 12 m.statuses.a m.statuses.l.length (m.statuses.l.flatMap stC)):=hD hok.2.2.1.1;have HRDe:Hid (Rd w 3 m.entries.a m.entries.l.length (m.entries.l.flatMap deC)):=hD hok.2.2.2.1.1;have hz:=hs;unfold Ms.sz at hz;have hch:=zcl m.texts.l ja;have hls:=Yh ZA St.sz m.statuses.l (fun y hy=>zcT y w (hok.2.2.1.2 y hy) jek) (fun y=>by have:=y.sz_ge;omega) ja;have hle:=Yh Zi De.sz m.entries.l (fun y hy=>za8 y w (hok.2.2.2.1.2 y hy) jel) (fun y=>y.sz_ge) ja;have hn1:m.statuses.l.length≤16777216:=by omega
 have hn2:m.entries.l.length≤16777216:=by omega
 have HESt:Hid (∀x∈m.statuses.l,∀w1,Below w.heap.size w w1→Calls prog 68 #[.agg x] w1 (zm (ZA x) w1)):=
  hD (fun x hx w1 hb=>refStatus_any x w1 (St.below (hok.2.2.1.2 x hx) hb) (by have:=Zv St.sz _ x hx;omega))
 have HEDe:Hid (∀x∈m.entries.l,∀w1,Below w.heap.size w w1→Calls prog 69 #[.agg x] w1 (zm (Zi x) w1)):=
  hD (fun x hx w1 hb=>zeb x w1 (De.below (hok.2.2.2.1.2 x hx) hb) (by have:=Zv De.sz _ x hx;omega))
 have HG:Hid (∀w1,Calls prog 72 #[.agg m.signed] w1 (zm (zQ m.signed) w1)):=hD (fun w1=>zfg m.signed w1 hok.2.1 ja);have HN:Hid (∀w1,Below w.heap.size w w1→Calls prog 74 #[.agg m.snapshot] w1 (zm (zbm m.snapshot) w1)):=hD (fun w1 hb=>zeD _ w1 (Sn.below hok.2.2.2.2.1 hb) ja);have HT:Hid (∀w1,Below w.heap.size w w1→Calls prog 73 #[m.texts] w1 (zm (zk m.texts.l) w1)):=hD (fun w1 hb=>Ze _ _ _ w1 jcn ja ja);have HS:Hid (∀w1 A c,Rd w1 1 A m.statuses.l.length (strC (m.statuses.l.map ZA))→Calls prog 73 #[.slice A m.statuses.l.length c] w1 (zm (zk (m.statuses.l.map ZA)) w1)):=hD (fun w1 A c hr=>by have h4:=Ze A c (m.statuses.l.map ZA) w1 jes jg ja;simpa using h4);have HD:Hid (∀w1 A c,Rd w1 1 A m.entries.l.length (strC (m.entries.l.map Zi))→Calls prog 73 #[.slice A m.entries.l.length c] w1 (zm (zk (m.entries.l.map Zi)) w1)):=hD (fun w1 A c hr=>by have h4:=Ze A c (m.entries.l.map Zi) w1 jes jg ja;simpa using h4);have hI:=hok.1;have hl1:=ym [m.kind,m.src,m.dst,m.view,m.slot,m.till] jo jc;simp only[au,aJ]at hl1;have hl2:=zJ m.value ja;have hl3:=zas m.signed hok.2.1 ja;have hl4:=zJ (zQ m.signed) ja;have hl5:=hls.1;have hl6:=hle.1;have hl7:=zez m.snapshot w hok.2.2.2.2.1 ja;have hl8:=zJ (zbm m.snapshot) ja;have hl9:=hch.1;have hq0:¬(9223372036854775807<(zu [m.kind,m.src,m.dst,m.view,m.slot,m.till]).length+(zn m.value).length):=by omega
 have hq1:¬(9223372036854775807<(zu [m.kind,m.src,m.dst,m.view,m.slot,m.till]).length+(zn m.value).length+(zn (zQ m.signed)).length):=by omega
 have hq2:¬(9223372036854775807<(zu [m.kind,m.src,m.dst,m.view,m.slot,m.till]).length+(zn m.value).length+(zn (zQ m.signed)).length+(zk (m.statuses.l.map ZA)).length):=by omega
 have hq3:¬(9223372036854775807<(zu [m.kind,m.src,m.dst,m.view,m.slot,m.till]).length+(zn m.value).length+(zn (zQ m.signed)).length+(zk (m.statuses.l.map ZA)).length+(zk (m.entries.l.map Zi)).length):=by omega
 have hq4:¬(9223372036854775807<(zu [m.kind,m.src,m.dst,m.view,m.slot,m.till]).length+(zn m.value).length+(zn (zQ m.signed)).length+(zk (m.statuses.l.map ZA)).length+(zk (m.entries.l.map Zi)).length+(zn (zbm m.snapshot)).length):=by omega
 have hq5:¬(9223372036854775807<(zu [m.kind,m.src,m.dst,m.view,m.slot,m.till]).length+(zn m.value).length+(zn (zQ m.signed)).length+(zk (m.statuses.l.map ZA)).length+(zk (m.entries.l.map Zi)).length+(zn (zbm m.snapshot)).length+(zk m.texts.l).length):=by omega
 have HC5:Hid (∀w1,Bx w (msC m) 38 w1→w1.cell? ⟨w.heap.size,0,none⟩=some (.int .i64 m.kind)∧w1.cell? ⟨w.heap.size,1,none⟩=some (.int .i64 m.src)∧w1.cell? ⟨w.heap.size,2,none⟩=some (.int .i64 m.dst)∧w1.cell? ⟨w.heap.size,3,none⟩=some (.int .i64 m.view)∧w1.cell? ⟨w.heap.size,4,none⟩=some (.int .i64 m.slot)∧w1.cell? ⟨w.heap.size,5,none⟩=some (.string ⟨m.value.toArray⟩)∧w1.cell? ⟨w.heap.size,6,none⟩=some (.int .i64 m.till)∧w1.cell? ⟨w.heap.size,7,none⟩=some (.int .i64 m.signed.server)∧w1.cell? ⟨w.heap.size,8,none⟩=some (.int .i64 m.signed.kind)∧w1.cell? ⟨w.heap.size,9,none⟩=some (.int .i64 m.signed.view)∧w1.cell? ⟨w.heap.size,10,none⟩=some (.int .i64 m.signed.slot)∧w1.cell? ⟨w.heap.size,11,none⟩=some (.string ⟨m.signed.digest.toArray⟩)∧w1.cell? ⟨w.heap.size,12,none⟩=some (.string ⟨m.signed.sig.toArray⟩)∧w1.cell? ⟨w.heap.size,13,none⟩=some (.slice m.statuses.a m.statuses.l.length m.statuses.c)∧w1.cell? ⟨w.heap.size,14,none⟩=some (.slice m.entries.a m.entries.l.length m.entries.c)∧w1.cell? ⟨w.heap.size,15,none⟩=some (.int .i64 m.snapshot.slot)∧w1.cell? ⟨w.heap.size,16,none⟩=some (.string ⟨m.snapshot.root.toArray⟩)∧w1.cell? ⟨w.heap.size,17,none⟩=some (.slice m.snapshot.chunks.a m.snapshot.chunks.l.length m.snapshot.chunks.c)∧w1.cell? ⟨w.heap.size,18,none⟩=some (.slice m.snapshot.proof.a m.snapshot.proof.l.length m.snapshot.proof.c)∧w1.cell? ⟨w.heap.size,19,none⟩=some (.slice m.snapshot.chain.a m.snapshot.chain.l.length m.snapshot.chain.c)∧w1.cell? ⟨w.heap.size,20,none⟩=some (.slice m.texts.a m.texts.l.length m.texts.c)):=
  hD (fun w1 hb=>⟨zg hb 0 _ rfl,zg hb 1 _ rfl,zg hb 2 _ rfl,zg hb 3 _ rfl,zg hb 4 _ rfl,zg hb 5 _ rfl,zg hb 6 _ rfl,zg hb 7 _ rfl,zg hb 8 _ rfl,zg hb 9 _ rfl,zg hb 10 _ rfl,zg hb 11 _ rfl,zg hb 12 _ rfl,zg hb 13 _ rfl,zg hb 14 _ rfl,zg hb 15 _ rfl,zg hb 16 _ rfl,zg hb 17 _ rfl,zg hb 18 _ rfl,zg hb 19 _ rfl,zg hb 20 _ rfl⟩)
 have HB0:=hD (Zy w (msC m) 38);clear hi hz0 hz1 hz2 hok hch hls hle hs;go_in;go_wp2_with fail;go_loopw [3,5] (fun o i wr=>∃k:Nat,i= .int .i64 k∧k≤m.statuses.l.length∧wr.ownsRow (w.heap.size+1) 9 1 o k (strC ((m.statuses.l.take k).map ZA))∧Bx w (msC m) 38 wr) (fun _ i _=>m.statuses.l.length-(intOf i).toNat)
 case atStart=>exact⟨0,rfl,by omega,by simpa[strC]using aR _ _ _ _,HB0⟩
 case round=>
  obtain⟨k,rfl,hk,hown,hb⟩:=hrel;have HO:=hD hown;have HB:=hD hb;have HLw:=hD (zC hb);have hge:=ZT hb;obtain⟨b0,b1,b2,b3,b4,b5,b6,b7,b8,b9,b10,b11,b12,b13,b14,b15,b16,b17,b18,b19,b20⟩:=HC5.out wr hb;clear hown hb;by_cases hlt:k<m.statuses.l.length
  · have i0':(0:Int)≤(k:Int):=by omega
    have i1:(k:Int) <(m.statuses.l.length:Int):=by omega
    obtain⟨g,o,hxa,hg,hcc⟩:=HRSt.at stC_len'' ja hlt;obtain⟨x,hx⟩:∃x,x=m.statuses.l[k]:=⟨_,rfl⟩;have HX:=hD hx.symm;have HM:=hD (hx▸aH hlt:x∈m.statuses.l);clear hx;rw[hxa]at b13;have HXA:=hD hxa;clear hxa;have a0:wr.cell? ⟨g,o+k * 12,none⟩=some (.int .i64 x.server):=by simpa using hcc wr HLw 0 _ jd
    have a1:wr.cell? ⟨g,o+k * 12+1,none⟩=some (.int .i64 x.view):=hcc wr HLw 1 _ jd;have a2:wr.cell? ⟨g,o+k * 12+2,none⟩=some (.int .i64 x.length):=hcc wr HLw 2 _ jd;have a3:wr.cell? ⟨g,o+k * 12+3,none⟩=some (.int .i64 x.lockView):=hcc wr HLw 3 _ jd;have a4:wr.cell? ⟨g,o+k * 12+4,none⟩=some (.string ⟨x.lock.toArray⟩):=hcc wr HLw 4 _ jd;have a5:wr.cell? ⟨g,o+k * 12+5,none⟩=some (.slice x.cert.a x.cert.l.length x.cert.c):=hcc wr HLw 5 _ jd;have a6:wr.cell? ⟨g,o+k * 12+6,none⟩=some (.int .i64 x.signed.server):=hcc wr HLw 6 _ jd;have a7:wr.cell? ⟨g,o+k * 12+7,none⟩=some (.int .i64 x.signed.kind):=hcc wr HLw 7 _ jd;have a8:wr.cell? ⟨g,o+k * 12+8,none⟩=some (.int .i64 x.signed.view):=hcc wr HLw 8 _ jd;have a9:wr.cell? ⟨g,o+k * 12+9,none⟩=some (.int .i64 x.signed.slot):=hcc wr HLw 9 _ jd;have a10:wr.cell? ⟨g,o+k * 12+10,none⟩=some (.string ⟨x.signed.digest.toArray⟩):=hcc wr HLw 10 _ jd;have a11:wr.cell? ⟨g,o+k * 12+11,none⟩=some (.string ⟨x.signed.sig.toArray⟩):=hcc wr HLw 11 _ jd;clear hcc;go_wp2_with fail;refine((HESt x HM _ HLw)).mono ?_;rintro e w1 ⟨rfl,b1⟩;have hz:wr.heap.size≤w1.heap.size:=b1.size;have HO1:Hid (w1.ownsRow (w.heap.size+1) 9 1 _ k (strC ((m.statuses.l.take k).map ZA))):=hD (ownsRow_below HO b1);have B1:=hD b1;clear b1 a0 a1 a2 a3 a4 a5 a6 a7 a8 a9 a10 a11;go_wp2_with (at_builtin;refine bu _ rfl _ _ 32 rfl (w.heap.size+1) 9 i0 _ 1 16 underlying32 HI HZ0 HZ1 HZ2 rfl jf _ _ _ rfl (HO1.alloc _) ⟨w1.heap.size,0,none⟩ 1 1 [ZA x] rfl rfl (zN _ _ _ _ rfl) jr jq ja jg ?_);intro v' w4 hown' hgrow _;have HO2:Hid (w4.ownsRow (w.heap.size+1) 9 1 v' (k+1) (strC ((m.statuses.l.take (k+1)).map ZA))):=hD (fo47);have HG2:=hD hgrow;clear hown' hgrow;go_wp2_with fail;go_roundw
    case rel=>
     exact⟨k+1,by go_num,by omega,HO2,bx_grown (yn (zbv HB B1.out) _) HG2 (fun b hb=>(HO1.lt b hb).1)⟩
    case measure=>simp[intOf];omega
  · obtain rfl:k=m.statuses.l.length:=by omega
    have HL2:Hid (wr.ownsRow (w.heap.size+1) 9 1 _ m.statuses.l.length (strC (m.statuses.l.map ZA))):=hD jai;obtain⟨A',c',hv⟩:=ownsRow_form HL2.out;subst hv;have HRs:=hD (Rd.own HL2);clear HO HL2;obtain⟨w2,hw2⟩:∃w2:World,w2=wr:=⟨_,rfl⟩;subst hw2;have HBx:=HB;clear HB hk hlt;go_wp2_with fail;go_loopw [4,6] (fun o i wr=>∃k:Nat,i= .int .i64 k∧k≤m.entries.l.length∧wr.ownsRow w2.heap.size 9 1 o k (strC ((m.entries.l.take k).map Zi))∧Below w2.heap.size w2 wr) (fun _ i _=>m.entries.l.length-(intOf i).toNat)
    case atStart=>exact⟨0,rfl,by omega,by simpa[strC]using aR _ _ _ _,ae _ _⟩
    case round=>
     clear b0 b1 b2 b3 b4 b5 b6 b7 b8 b9 b10 b11 b12 b13 b14 b15 b16 b17 b18 b19 b20 HLw;obtain⟨k,rfl,hk,hown,hb⟩:=hrel;have HO:=hD hown;have HB:=hD hb;have hw:=zbv HBx hb;have HLw:=hD (zC hw);have hge2:=hb.size;obtain⟨b0,b1,b2,b3,b4,b5,b6,b7,b8,b9,b10,b11,b12,b13,b14,b15,b16,b17,b18,b19,b20⟩:=HC5.out wr hw;clear hown hb hw;by_cases hlt:k<m.entries.l.length
     · have i0':(0:Int)≤(k:Int):=by omega
       have i1:(k:Int) <(m.entries.l.length:Int):=by omega
       obtain⟨g,o,hxa,hg,hcc⟩:=HRDe.at deC_len'' ja hlt;obtain⟨x,hx⟩:∃x,x=m.entries.l[k]:=⟨_,rfl⟩;have HX:=hD hx.symm;have HM:=hD (hx▸aH hlt:x∈m.entries.l);clear hx;rw[hxa]at b14;have HXA:=hD hxa;clear hxa;have a0:wr.cell? ⟨g,o+k * 3,none⟩=some (.int .i64 x.view):=by simpa using hcc wr HLw 0 _ jd
       have a1:wr.cell? ⟨g,o+k * 3+1,none⟩=some (.string ⟨x.value.toArray⟩):=hcc wr HLw 1 _ jd;have a2:wr.cell? ⟨g,o+k * 3+2,none⟩=some (.slice x.cert.a x.cert.l.length x.cert.c):=hcc wr HLw 2 _ jd;clear hcc;go_wp2_with fail;refine((HEDe x HM _ HLw)).mono ?_;rintro e w1 ⟨rfl,b1⟩;have hz:wr.heap.size≤w1.heap.size:=b1.size;have HO1:Hid (w1.ownsRow (w2.heap.size) 9 1 _ k (strC ((m.entries.l.take k).map Zi))):=hD (ownsRow_below HO b1);have B1:=hD b1;clear b1 a0 a1 a2;go_wp2_with (at_builtin;refine bu _ rfl _ _ 32 rfl (w2.heap.size) 9 i0 _ 1 16 underlying32 HI HZ0 HZ1 HZ2 rfl jf _ _ _ rfl (HO1.alloc _) ⟨w1.heap.size,0,none⟩ 1 1 [Zi x] rfl rfl (zN _ _ _ _ rfl) jr jq ja jg ?_);intro v' w4 hown' hgrow _;have HO2:Hid (w4.ownsRow (w2.heap.size) 9 1 v' (k+1) (strC ((m.entries.l.take (k+1)).map Zi))):=hD (fo47);have HG2:=hD hgrow;clear hown' hgrow;go_wp2_with fail;go_roundw
       case rel=>
        exact⟨k+1,by go_num,by omega,HO2,below_grown (dY (bon HB B1.out) ja _) jg HG2 (fun b hb=>(HO1.lt b hb).1)⟩
       case measure=>simp[intOf];omega
     · obtain rfl:k=m.entries.l.length:=by omega
       have HL2:Hid (wr.ownsRow w2.heap.size 9 1 _ m.entries.l.length (strC (m.entries.l.map Zi))):=hD jai;obtain⟨A2,c2,hv⟩:=ownsRow_form HL2.out;subst hv;have HRe:=hD (Rd.own HL2);have HRt:=hD (Rd.below HRs HB);clear HO HL2 hk hlt;have HC6:Hid (∀w1,Below wr.heap.size wr w1→Below wr.heap.size wr w1∧w1.cell? ⟨w.heap.size,0,none⟩=some (.int .i64 m.kind)∧w1.cell? ⟨w.heap.size,1,none⟩=some (.int .i64 m.src)∧w1.cell? ⟨w.heap.size,2,none⟩=some (.int .i64 m.dst)∧w1.cell? ⟨w.heap.size,3,none⟩=some (.int .i64 m.view)∧w1.cell? ⟨w.heap.size,4,none⟩=some (.int .i64 m.slot)∧w1.cell? ⟨w.heap.size,5,none⟩=some (.string ⟨m.value.toArray⟩)∧w1.cell? ⟨w.heap.size,6,none⟩=some (.int .i64 m.till)∧w1.cell? ⟨w.heap.size,7,none⟩=some (.int .i64 m.signed.server)∧w1.cell? ⟨w.heap.size,8,none⟩=some (.int .i64 m.signed.kind)∧w1.cell? ⟨w.heap.size,9,none⟩=some (.int .i64 m.signed.view)∧w1.cell? ⟨w.heap.size,10,none⟩=some (.int .i64 m.signed.slot)∧w1.cell? ⟨w.heap.size,11,none⟩=some (.string ⟨m.signed.digest.toArray⟩)∧w1.cell? ⟨w.heap.size,12,none⟩=some (.string ⟨m.signed.sig.toArray⟩)):=
        hD (fun w1 hb=>⟨hb,(hb.cell (p:=⟨w.heap.size,0,none⟩) jw).trans b0,(hb.cell (p:=⟨w.heap.size,1,none⟩) jw).trans b1,(hb.cell (p:=⟨w.heap.size,2,none⟩) jw).trans b2,(hb.cell (p:=⟨w.heap.size,3,none⟩) jw).trans b3,(hb.cell (p:=⟨w.heap.size,4,none⟩) jw).trans b4,(hb.cell (p:=⟨w.heap.size,5,none⟩) jw).trans b5,(hb.cell (p:=⟨w.heap.size,6,none⟩) jw).trans b6,(hb.cell (p:=⟨w.heap.size,7,none⟩) jw).trans b7,(hb.cell (p:=⟨w.heap.size,8,none⟩) jw).trans b8,(hb.cell (p:=⟨w.heap.size,9,none⟩) jw).trans b9,(hb.cell (p:=⟨w.heap.size,10,none⟩) jw).trans b10,(hb.cell (p:=⟨w.heap.size,11,none⟩) jw).trans b11,(hb.cell (p:=⟨w.heap.size,12,none⟩) jw).trans b12⟩)
       have HC7:Hid (∀w1,Below wr.heap.size wr w1→Below wr.heap.size wr w1∧w1.cell? ⟨w.heap.size,15,none⟩=some (.int .i64 m.snapshot.slot)∧w1.cell? ⟨w.heap.size,16,none⟩=some (.string ⟨m.snapshot.root.toArray⟩)∧w1.cell? ⟨w.heap.size,17,none⟩=some (.slice m.snapshot.chunks.a m.snapshot.chunks.l.length m.snapshot.chunks.c)∧w1.cell? ⟨w.heap.size,18,none⟩=some (.slice m.snapshot.proof.a m.snapshot.proof.l.length m.snapshot.proof.c)∧w1.cell? ⟨w.heap.size,19,none⟩=some (.slice m.snapshot.chain.a m.snapshot.chain.l.length m.snapshot.chain.c)∧w1.cell? ⟨w.heap.size,20,none⟩=some (.slice m.texts.a m.texts.l.length m.texts.c)):=
        hD (fun w1 hb=>⟨hb,(hb.cell (p:=⟨w.heap.size,15,none⟩) jw).trans b15,(hb.cell (p:=⟨w.heap.size,16,none⟩) jw).trans b16,(hb.cell (p:=⟨w.heap.size,17,none⟩) jw).trans b17,(hb.cell (p:=⟨w.heap.size,18,none⟩) jw).trans b18,(hb.cell (p:=⟨w.heap.size,19,none⟩) jw).trans b19,(hb.cell (p:=⟨w.heap.size,20,none⟩) jw).trans b20⟩)
       have HLB:Hid (∀w1,Below wr.heap.size wr w1→Below w.heap.size w w1):=hD (fun w1 hb=>HLw.trans (hb.mono ja));have HX0:Hid (∀(w1:World) (g:Nat) (R:Prop),(Below wr.heap.size wr ((w1.alloc (.cells #[m.kind,m.src,m.dst,m.view,m.slot,m.till] 3)).drew)∧R)→w1.heap.size=g→Calls prog 70 #[.slice (some ⟨g,0,none⟩) 6 6] ((w1.alloc (.cells #[m.kind,m.src,m.dst,m.view,m.slot,m.till] 3)).drew) (zaK wr (zu [m.kind,m.src,m.dst,m.view,m.slot,m.till]))):=
        hD (fun w1 g _ hb hg=>zgw [m.kind,m.src,m.dst,m.view,m.slot,m.till] (fun A c W hr=>ZG A c _ W hr jc jo) hb.1 hg)
       have HX1:Hid (∀(t:List UInt8) (w1:World) (R:Prop),t.length≤70368744177664→(Below wr.heap.size wr w1∧R)→Calls prog 71 #[t] w1 (zaK wr (zn t))):=
        hD (fun t w1 _ ht hb=>ZX hb.1 (Zt t ht w1))
       have HX2:Hid (∀(w1:World) (R:Prop),(Below wr.heap.size wr w1∧R)→Calls prog 72 #[.agg m.signed] w1 (zaK wr (zQ m.signed))):=
        hD (fun w1 _ hb=>ZX hb.1 (HG w1))
       have HX3:Hid (∀(w1:World) (R:Prop),(Below wr.heap.size wr w1∧R)→Calls prog 73 #[.slice A' m.statuses.l.length c'] w1 (zaK wr (zk (m.statuses.l.map ZA)))):=
        hD (fun w1 _ hb=>ZX hb.1 (HS w1 _ _ (HRt.below hb.1)))
       have HX4:Hid (∀(w1:World) (R:Prop),(Below wr.heap.size wr w1∧R)→Calls prog 73 #[.slice A2 m.entries.l.length c2] w1 (zaK wr (zk (m.entries.l.map Zi)))):=
        hD (fun w1 _ hb=>ZX hb.1 (HD w1 _ _ (HRe.below hb.1)))
       have HX5:Hid (∀(w1:World) (R:Prop),(Below wr.heap.size wr w1∧R)→Calls prog 73 #[m.texts] w1 (zaK wr (zk m.texts.l))):=
        hD (fun w1 _ hb=>ZX hb.1 (HT w1 (HLB _ hb.1)))
       have HX6:Hid (∀(w1:World) (R:Prop),(Below wr.heap.size wr w1∧R)→Calls prog 74 #[.agg m.snapshot] w1 (zaK wr (zbm m.snapshot))):=
        hD (fun w1 _ hb=>ZX hb.1 (HN w1 (HLB _ hb.1)))
       clear HESt HEDe HRSt HRDe HRs;go_wp2_with fail;go_region_held3 (fun w1=>Below wr.heap.size wr w1∧w1.cell? ⟨w.heap.size,0,none⟩=some (.int .i64 m.kind)∧w1.cell? ⟨w.heap.size,1,none⟩=some (.int .i64 m.src)∧w1.cell? ⟨w.heap.size,2,none⟩=some (.int .i64 m.dst)∧w1.cell? ⟨w.heap.size,3,none⟩=some (.int .i64 m.view)∧w1.cell? ⟨w.heap.size,4,none⟩=some (.int .i64 m.slot)∧w1.cell? ⟨w.heap.size,5,none⟩=some (.string ⟨m.value.toArray⟩)∧w1.cell? ⟨w.heap.size,6,none⟩=some (.int .i64 m.till)∧w1.cell? ⟨w.heap.size,7,none⟩=some (.int .i64 m.signed.server)∧w1.cell? ⟨w.heap.size,8,none⟩=some (.int .i64 m.signed.kind)∧w1.cell? ⟨w.heap.size,9,none⟩=some (.int .i64 m.signed.view)∧w1.cell? ⟨w.heap.size,10,none⟩=some (.int .i64 m.signed.slot)∧w1.cell? ⟨w.heap.size,11,none⟩=some (.string ⟨m.signed.digest.toArray⟩)∧w1.cell? ⟨w.heap.size,12,none⟩=some (.string ⟨m.signed.sig.toArray⟩))
        (first|exact HC6 _ (ae _ _).drew|exact HC6 _ (dY (‹Below _ _ _∧_›).1 (Below.size (‹Below _ _ _∧_›).1) _)|exact HC6 _ ‹Below wr.heap.size wr _›)
        (first
         |(go_at_call 70;refine(HX0 _ _ _ je jc).mono ?_;rintro e w5 ⟨rfl,d5⟩)
         |(go_at_call 71;refine(HX1 _ _ _ ja je).mono ?_;rintro e w6 ⟨rfl,d6⟩)
         |(go_at_call 72;refine(HX2 _ _ je).mono ?_;rintro e w7 ⟨rfl,d7⟩))
       all_goals
        clear HC6 HX0 HX2;go_wp2_with fail;go_region_held3 (fun w1=>Below wr.heap.size wr w1∧w1.cell? ⟨w.heap.size,15,none⟩=some (.int .i64 m.snapshot.slot)∧w1.cell? ⟨w.heap.size,16,none⟩=some (.string ⟨m.snapshot.root.toArray⟩)∧w1.cell? ⟨w.heap.size,17,none⟩=some (.slice m.snapshot.chunks.a m.snapshot.chunks.l.length m.snapshot.chunks.c)∧w1.cell? ⟨w.heap.size,18,none⟩=some (.slice m.snapshot.proof.a m.snapshot.proof.l.length m.snapshot.proof.c)∧w1.cell? ⟨w.heap.size,19,none⟩=some (.slice m.snapshot.chain.a m.snapshot.chain.l.length m.snapshot.chain.c)∧w1.cell? ⟨w.heap.size,20,none⟩=some (.slice m.texts.a m.texts.l.length m.texts.c))
         (first|exact HC7 _ (bP ‹Below wr.heap.size wr w6›)|exact HC7 _ ‹Below wr.heap.size wr _›)
         (first
          |(go_at_call_of 73 (Value.slice A' m.statuses.l.length c');refine(HX3 _ _ je).mono ?_;rintro e x1 ⟨rfl,f1⟩)
          |(go_at_call_of 73 (Value.slice A2 m.entries.l.length c2);refine(HX4 _ _ je).mono ?_;rintro e x2 ⟨rfl,f2⟩)
          |(go_at_call 73;refine(HX5 _ _ je).mono ?_;rintro e x3 ⟨rfl,f3⟩)
          |(go_at_call 74;refine(HX6 _ _ je).mono ?_;rintro e x4 ⟨rfl,f4⟩)
          |(go_at_call 71;refine(HX1 _ _ _ ja je).mono ?_;rintro e x5 ⟨rfl,f5⟩))
        all_goals
         go_wp2_with fail;go_ret;exact Z9 ji (HLB _ ‹_›)
