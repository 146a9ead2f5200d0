/- The contract of message.list at api.Signed. -/
import Derived.Test.YtepbbaifpckcpaaGreatDoorPWa
open Go.Proofs.Tryz
namespace Go.Proofs.YtepbbaifpckcpaaGreatDoor
set_option maxRecDepth 100000
set_option maxHeartbeats 8000000
open Go.RowKit
theorem sgC_len(x:Sg):(sgC x).length=6:=rfl
theorem zdT(A:Option Addr)(c:Nat)(l:List Sg)(w:World)(hr:Rd w 6 A l.length (l.flatMap sgC))(hok:∀x∈l,x.ok)(hs:sum Sg.sz l≤16777216) :
    Calls prog 221 #[.slice A l.length c,.func (.func 162) #[] #[]] w (zm (zk (l.map zQ)) w):=by
 obtain⟨i0,hi,hz0,hz1,hz2⟩:=info_parts zdC;have HI:=hD hi;have HZ0:=hD hz0;have HZ1:=hD hz1;have HZ2:=hD hz2;have HR:=hD hr;have hlen:=ZL l hok hs;have HE:Hid (∀x∈l,∀w1,Below w.heap.size w w1→Calls prog 162 #[.agg x] w1 (zm (zQ x) w1)):=
  hD (fun x hx w1 _=>zaU x (hok x hx) jen w1)
 have HP:Hid (∀w' A c,Rd w' 1 A l.length (strC (l.map zQ))→Calls prog 168 #[.slice A l.length c] w' (zm (zk (l.map zQ)) w')):=hD (fun w' A c h=>by
  have h2:=ZF A c (l.map zQ) w' jao jg ja;simpa using h2)
 have hn:l.length≤16777216:=by omega
 clear hi hz0 hz1 hz2 hr hok hs hlen;go_in;go_wp2_with fail;go_loopw [5,10] (fun o i wr=>∃k:Nat,i= .int .i64 k∧k≤l.length∧wr.ownsRow w.heap.size 9 1 o k (strC ((l.take k).map zQ))∧Below w.heap.size w wr∧w.heap.size≤wr.heap.size) (fun _ i _=>l.length-(intOf i).toNat)
 case atStart=>exact⟨0,rfl,by omega,by simpa[strC]using aR _ _ _ _,ae _ _,ag _⟩
 case round=>
  obtain⟨k,rfl,hk,hown,hb,hge⟩:=hrel;have HO:=hD hown;have HB:=hD hb;clear hown hb;by_cases hlt:k<l.length
  · have i0':(0:Int)≤(k:Int):=by omega
    have i1:(k:Int) <(l.length:Int):=by omega
    obtain⟨g,o,rfl,hg,hcc⟩:=HR.at sgC_len ja hlt;obtain⟨x,hx⟩:∃x,x=l[k]:=⟨_,rfl⟩;have HX:=hD hx.symm;have HM:=hD (hx▸aH hlt:x∈l);clear hx;have a0:wr.cell? ⟨g,o+k * 6,none⟩=some (.int .i64 x.server):=by simpa using hcc wr HB 0 _ jd
    have a1:wr.cell? ⟨g,o+k * 6+1,none⟩=some (.int .i64 x.kind):=hcc wr HB 1 _ jd;have a2:wr.cell? ⟨g,o+k * 6+2,none⟩=some (.int .i64 x.view):=hcc wr HB 2 _ jd;have a3:wr.cell? ⟨g,o+k * 6+3,none⟩=some (.int .i64 x.slot):=hcc wr HB 3 _ jd;have a4:wr.cell? ⟨g,o+k * 6+4,none⟩=some (.string ⟨x.digest.toArray⟩):=hcc wr HB 4 _ jd;have a5:wr.cell? ⟨g,o+k * 6+5,none⟩=some (.string ⟨x.sig.toArray⟩):=hcc wr HB 5 _ jd;clear hcc;go_wp2_with fail;refine(HE x HM _ (HB.alloc hge _)).mono ?_;rintro e w1 ⟨rfl,b1⟩;have hz:wr.heap.size+1≤w1.heap.size:=by have:=b1.size;simpa using this
    have B1:Hid (Below w.heap.size w w1):=hD ((HB.alloc hge _).trans (b1.mono jg));have HO1:Hid (w1.ownsRow w.heap.size 9 1 _ k (strC ((l.take k).map zQ))):=hD (ownsRow_below (HO.alloc _) b1);exact fo242
  · obtain rfl:k=l.length:=by omega
    have HL:Hid (wr.ownsRow w.heap.size 9 1 _ l.length (strC (l.map zQ))):=hD jai;exact fo46
theorem zc4(d:De)(w:World)(hok:d.ok w)(hs:d.sz≤16777216) :
    Calls prog 166 #[.agg d] w (zm (Zi d) w):=by
 have hI:=hok.1;have hz:=hs;unfold De.sz at hz;have HK:Hid (∀w1,Below w.heap.size w w1→Calls prog 221 #[d.cert,.func (.func 162) #[] #[]] w1 (zm (zk (d.cert.l.map zQ)) w1)):=hD (fun w1 hb=>zdT _ _ _ w1 (Sl.rd_below hok.2.1 hb) hok.2.2 ja);have hl1:=ym [d.view] jo jc;simp only[au,aJ]at hl1;have hl2:=zJ d.value ja;have hl3:=(ZL d.cert.l hok.2.2 ja).1;have HX0:Hid (∀(w1:World) (g:Nat) (R:Prop),(Bx w (deC d) 100 ((w1.alloc (.cells #[d.view] 3)).drew)∧R)→w1.heap.size=g→Calls prog 160 #[.slice (some ⟨g,0,none⟩) 1 1] ((w1.alloc (.cells #[d.view] 3)).drew) (Gives w (deC d) 100 (zu [d.view]))):=
  hD (fun w1 g _ hb hg=>Z6 [d.view] jc jo (fun A c W hr=>YP A c _ W hr jc jo) hb.1 hg)
 have HX1:Hid (∀(t:List UInt8) (w1:World) (R:Prop),t.length≤70368744177664→(Bx w (deC d) 100 w1∧R)→Calls prog 161 #[t] w1 (Gives w (deC d) 100 (zn t))):=
  hD (fun t w1 _ ht hb=>zZ hb.1 (Z4 t ht w1))
 have HX2:Hid (∀(w1:World) (R:Prop),(Bx w (deC d) 100 w1∧R)→Calls prog 221 #[d.cert,.func (.func 162) #[] #[]] w1 (Gives w (deC d) 100 (zk (d.cert.l.map zQ)))):=
  hD (fun w1 _ hb=>zZ hb.1 (HK w1 (zC hb.1)))
 have HC:Hid (∀w1,Bx w (deC d) 100 w1→Bx w (deC d) 100 w1∧w1.cell? ⟨w.heap.size,0,none⟩=some (.int .i64 d.view)∧w1.cell? ⟨w.heap.size,1,none⟩=some (.string ⟨d.value.toArray⟩)∧w1.cell? ⟨w.heap.size,2,none⟩=some (.slice d.cert.a d.cert.l.length d.cert.c)):=
  hD (fun w1 hb=>⟨hb,zg hb 0 _ rfl,zg hb 1 _ rfl,zg hb 2 _ rfl⟩)
 have H0:=hD (Zy w (deC d) 100);have hq0:¬(9223372036854775807<(zu [d.view]).length+(zn d.value).length):=by omega
 have hq1:¬(9223372036854775807<(zu [d.view]).length+(zn d.value).length+(zk (d.cert.l.map zQ)).length):=by omega
 clear hok hs;go_in;go_wp2_with fail;go_region_held3 (fun w1=>Bx w (deC d) 100 w1∧w1.cell? ⟨w.heap.size,0,none⟩=some (.int .i64 d.view)∧w1.cell? ⟨w.heap.size,1,none⟩=some (.string ⟨d.value.toArray⟩)∧w1.cell? ⟨w.heap.size,2,none⟩=some (.slice d.cert.a d.cert.l.length d.cert.c))
  (first|exact HC _ (yO H0)|exact HC _ (yn (‹Bx _ _ _ _∧_›).1 _)|exact HC _ ‹Bx _ _ _ _›)
  (first
   |(go_at_call 160;refine(HX0 _ _ _ je jc).mono ?_;rintro e w2 ⟨rfl,b2⟩)
   |(go_at_call 161;refine(HX1 _ _ _ ja je).mono ?_;rintro e w3 ⟨rfl,b3⟩)
   |(go_at_call 221;refine(HX2 _ _ je).mono ?_;rintro e w4 ⟨rfl,b4⟩))
 all_goals
  go_wp2_with fail;go_ret;exact Z9 ji (zC ‹_›)
theorem codeHo_any(h:Ho)(w:World)(hok:h.ok w)(hs:h.sz≤16777216) :
    Calls prog 223 #[.agg h] w (zm (Yc h) w):=by
 have hI:=hok.1;have hz:=hs;unfold Ho.sz at hz;have HK:Hid (∀w1,Below w.heap.size w w1→Calls prog 166 #[.agg h.entry] w1 (zm (Zi h.entry) w1)):=hD (fun w1 hb=>zc4 h.entry w1 (De.below hok.2 hb) ja);have hl1:=ym [h.slot] jo jc;simp only[au,aJ]at hl1;have hl2:=za8 h.entry w hok.2 ja;have HX0:Hid (∀(w1:World) (g:Nat) (R:Prop),(Bx w (hoC h) 147 ((w1.alloc (.cells #[h.slot] 3)).drew)∧R)→w1.heap.size=g→Calls prog 160 #[.slice (some ⟨g,0,none⟩) 1 1] ((w1.alloc (.cells #[h.slot] 3)).drew) (Gives w (hoC h) 147 (zu [h.slot]))):=
  hD (fun w1 g _ hb hg=>Z6 [h.slot] jc jo (fun A c W hr=>YP A c _ W hr jc jo) hb.1 hg)
 have HX1:Hid (∀(w1:World) (R:Prop),(Bx w (hoC h) 147 w1∧R)→Calls prog 166 #[.agg h.entry] w1 (Gives w (hoC h) 147 (Zi h.entry))):=
  hD (fun w1 _ hb=>zZ hb.1 (HK w1 (zC hb.1)))
 have HC:Hid (∀w1,Bx w (hoC h) 147 w1→Bx w (hoC h) 147 w1∧w1.cell? ⟨w.heap.size,0,none⟩=some (.int .i64 h.slot)∧w1.cell? ⟨w.heap.size,1,none⟩=some (.int .i64 h.entry.view)∧w1.cell? ⟨w.heap.size,2,none⟩=some (.string ⟨h.entry.value.toArray⟩)∧w1.cell? ⟨w.heap.size,3,none⟩=some (.slice h.entry.cert.a h.entry.cert.l.length h.entry.cert.c)):=
  hD (fun w1 hb=>⟨hb,zg hb 0 _ rfl,zg hb 1 _ rfl,zg hb 2 _ rfl,zg hb 3 _ rfl⟩)
 have H0:=hD (Zy w (hoC h) 147);have hq0:¬(9223372036854775807<(zu [h.slot]).length+(Zi h.entry).length):=by omega
 clear hok hs;go_in;go_wp2_with fail;go_region_held3 (fun w1=>Bx w (hoC h) 147 w1∧w1.cell? ⟨w.heap.size,0,none⟩=some (.int .i64 h.slot)∧w1.cell? ⟨w.heap.size,1,none⟩=some (.int .i64 h.entry.view)∧w1.cell? ⟨w.heap.size,2,none⟩=some (.string ⟨h.entry.value.toArray⟩)∧w1.cell? ⟨w.heap.size,3,none⟩=some (.slice h.entry.cert.a h.entry.cert.l.length h.entry.cert.c))
  (first|exact HC _ (yO H0)|exact HC _ (yn (‹Bx _ _ _ _∧_›).1 _)|exact HC _ ‹Bx _ _ _ _›)
  (first
   |(go_at_call 160;refine(HX0 _ _ _ je jc).mono ?_;rintro e w2 ⟨rfl,b2⟩)
   |(go_at_call 166;refine(HX1 _ _ je).mono ?_;rintro e w3 ⟨rfl,b3⟩))
 all_goals
  go_wp2_with fail;go_ret;exact Z9 ji (zC ‹_›)
theorem zfP(s:St)(w:World)(hok:s.ok w)(hs:s.sz≤16777216) :
    Calls prog 164 #[.agg s] w (zm (ZA s) w):=by
 have hI:=hok.1;have hz:=hs;unfold St.sz at hz;have HG:Hid (∀w1,Calls prog 162 #[.agg s.signed] w1 (zm (zQ s.signed) w1)):=hD (fun w1=>zaU s.signed hok.2.2.2 ja w1);have HK:Hid (∀w1,Below w.heap.size w w1→Calls prog 221 #[s.cert,.func (.func 162) #[] #[]] w1 (zm (zk (s.cert.l.map zQ)) w1)):=hD (fun w1 hb=>zdT _ _ _ w1 (Sl.rd_below hok.2.1 hb) hok.2.2.1 ja);have hl1:=ym [s.server,s.view,s.length,s.lockView] jo jc;simp only[au,aJ]at hl1;have hl2:=zJ s.lock ja;have hl3:=(ZL s.cert.l hok.2.2.1 ja).1;have hl4:=zas s.signed hok.2.2.2 ja;have hl5:=zJ (zQ s.signed) ja;have hg7:=Sg.sz_ge s.signed;have HX0:Hid (∀(w1:World) (g:Nat) (R:Prop),(Bx w (stC s) 97 ((w1.alloc (.cells #[s.server,s.view,s.length,s.lockView] 3)).drew)∧R)→w1.heap.size=g→Calls prog 160 #[.slice (some ⟨g,0,none⟩) 4 4] ((w1.alloc (.cells #[s.server,s.view,s.length,s.lockView] 3)).drew) (Gives w (stC s) 97 (zu [s.server,s.view,s.length,s.lockView]))):=
  hD (fun w1 g _ hb hg=>Z6 [s.server,s.view,s.length,s.lockView] jc jo (fun A c W hr=>YP A c _ W hr jc jo) hb.1 hg)
 have HX1:Hid (∀(t:List UInt8) (w1:World) (R:Prop),t.length≤70368744177664→(Bx w (stC s) 97 w1∧R)→Calls prog 161 #[t] w1 (Gives w (stC s) 97 (zn t))):=
  hD (fun t w1 _ ht hb=>zZ hb.1 (Z4 t ht w1))
 have HX2:Hid (∀(w1:World) (R:Prop),(Bx w (stC s) 97 w1∧R)→Calls prog 221 #[s.cert,.func (.func 162) #[] #[]] w1 (Gives w (stC s) 97 (zk (s.cert.l.map zQ)))):=
  hD (fun w1 _ hb=>zZ hb.1 (HK w1 (zC hb.1)))
 have HX3:Hid (∀(w1:World) (R:Prop),(Bx w (stC s) 97 w1∧R)→Calls prog 162 #[.agg s.signed] w1 (Gives w (stC s) 97 (zQ s.signed))):=
  hD (fun w1 _ hb=>zZ hb.1 (HG w1))
 have HC:Hid (∀w1,Bx w (stC s) 97 w1→Bx w (stC s) 97 w1∧w1.cell? ⟨w.heap.size,0,none⟩=some (.int .i64 s.server)∧w1.cell? ⟨w.heap.size,1,none⟩=some (.int .i64 s.view)∧w1.cell? ⟨w.heap.size,2,none⟩=some (.int .i64 s.length)∧w1.cell? ⟨w.heap.size,3,none⟩=some (.int .i64 s.lockView)∧w1.cell? ⟨w.heap.size,4,none⟩=some (.string ⟨s.lock.toArray⟩)∧w1.cell? ⟨w.heap.size,5,none⟩=some (.slice s.cert.a s.cert.l.length s.cert.c)∧w1.cell? ⟨w.heap.size,6,none⟩=some (.int .i64 s.signed.server)∧w1.cell? ⟨w.heap.size,7,none⟩=some (.int .i64 s.signed.kind)∧w1.cell? ⟨w.heap.size,8,none⟩=some (.int .i64 s.signed.view)∧w1.cell? ⟨w.heap.size,9,none⟩=some (.int .i64 s.signed.slot)∧w1.cell? ⟨w.heap.size,10,none⟩=some (.string ⟨s.signed.digest.toArray⟩)∧w1.cell? ⟨w.heap.size,11,none⟩=some (.string ⟨s.signed.sig.toArray⟩)):=
  hD (fun w1 hb=>⟨hb,zg hb 0 _ rfl,zg hb 1 _ rfl,zg hb 2 _ rfl,zg hb 3 _ rfl,zg hb 4 _ rfl,zg hb 5 _ rfl,zg hb 6 _ rfl,zg hb 7 _ rfl,zg hb 8 _ rfl,zg hb 9 _ rfl,zg hb 10 _ rfl,zg hb 11 _ rfl⟩)
 have H0:=hD (Zy w (stC s) 97);have hq0:¬(9223372036854775807<(zu [s.server,s.view,s.length,s.lockView]).length+(zn s.lock).length):=by omega
 have hq1:¬(9223372036854775807<(zu [s.server,s.view,s.length,s.lockView]).length+(zn s.lock).length+(zk (s.cert.l.map zQ)).length):=by omega
 have hq2:¬(9223372036854775807<(zu [s.server,s.view,s.length,s.lockView]).length+(zn s.lock).length+(zk (s.cert.l.map zQ)).length+(zn (zQ s.signed)).length):=by omega
 clear hok hs;go_in;go_wp2_with fail;go_region_held3 (fun w1=>Bx w (stC s) 97 w1∧w1.cell? ⟨w.heap.size,0,none⟩=some (.int .i64 s.server)∧w1.cell? ⟨w.heap.size,1,none⟩=some (.int .i64 s.view)∧w1.cell? ⟨w.heap.size,2,none⟩=some (.int .i64 s.length)∧w1.cell? ⟨w.heap.size,3,none⟩=some (.int .i64 s.lockView)∧w1.cell? ⟨w.heap.size,4,none⟩=some (.string ⟨s.lock.toArray⟩)∧w1.cell? ⟨w.heap.size,5,none⟩=some (.slice s.cert.a s.cert.l.length s.cert.c)∧w1.cell? ⟨w.heap.size,6,none⟩=some (.int .i64 s.signed.server)∧w1.cell? ⟨w.heap.size,7,none⟩=some (.int .i64 s.signed.kind)∧w1.cell? ⟨w.heap.size,8,none⟩=some (.int .i64 s.signed.view)∧w1.cell? ⟨w.heap.size,9,none⟩=some (.int .i64 s.signed.slot)∧w1.cell? ⟨w.heap.size,10,none⟩=some (.string ⟨s.signed.digest.toArray⟩)∧w1.cell? ⟨w.heap.size,11,none⟩=some (.string ⟨s.signed.sig.toArray⟩))
  (first|exact HC _ (yO H0)|exact HC _ (yn (‹Bx _ _ _ _∧_›).1 _)|exact HC _ ‹Bx _ _ _ _›)
  (first
   |(go_at_call 160;refine(HX0 _ _ _ je jc).mono ?_;rintro e w2 ⟨rfl,b2⟩)
   |(go_at_call 161;refine(HX1 _ _ _ ja je).mono ?_;rintro e w3 ⟨rfl,b3⟩)
   |(go_at_call 221;refine(HX2 _ _ je).mono ?_;rintro e w4 ⟨rfl,b4⟩)
   |(go_at_call 162;refine(HX3 _ _ je).mono ?_;rintro e w5 ⟨rfl,b5⟩))
 all_goals
  go_wp2_with fail;go_ret;exact Z9 ji (zC ‹_›)
theorem stC_len(x:St):(stC x).length=12:=rfl
theorem listSt_any(A:Option Addr)(c:Nat)(l:List St)(w:World)(hr:Rd w 12 A l.length (l.flatMap stC))(hok:∀x∈l,x.ok w)(hs:sum St.sz l≤16777216) :
    Calls prog 163 #[.slice A l.length c,.func (.func 164) #[] #[]] w (zm (zk (l.map ZA)) w):=by
 obtain⟨i0,hi,hz0,hz1,hz2⟩:=info_parts zdC;have HI:=hD hi;have HZ0:=hD hz0;have HZ1:=hD hz1;have HZ2:=hD hz2;have HR:=hD hr;have hlen:=Yh ZA St.sz l (fun x hx=>zcT x w (hok x hx) (by have:=Zv St.sz l x hx;omega)) (fun x=>by have:=x.sz_ge;omega) hs;have HE:Hid (∀x∈l,∀w1,Below w.heap.size w w1→Calls prog 164 #[.agg x] w1 (zm (ZA x) w1)):=
  hD (fun x hx w1 hb=>zfP x w1 (St.below (hok x hx) hb) (by have:=Zv St.sz l x hx;omega))
 have HP:Hid (∀w' A c,Rd w' 1 A l.length (strC (l.map ZA))→Calls prog 168 #[.slice A l.length c] w' (zm (zk (l.map ZA)) w')):=hD (fun w' A c h=>by
  have h2:=ZF A c (l.map ZA) w' jao jg ja;simpa using h2)
 have hn:l.length≤16777216:=by omega
 clear hi hz0 hz1 hz2 hr hok hs hlen;go_in;go_wp2_with fail;go_loopw [5,10] (fun o i wr=>∃k:Nat,i= .int .i64 k∧k≤l.length∧wr.ownsRow w.heap.size 9 1 o k (strC ((l.take k).map ZA))∧Below w.heap.size w wr∧w.heap.size≤wr.heap.size) (fun _ i _=>l.length-(intOf i).toNat)
 case atStart=>exact⟨0,rfl,by omega,by simpa[strC]using aR _ _ _ _,ae _ _,ag _⟩
 case round=>
  obtain⟨k,rfl,hk,hown,hb,hge⟩:=hrel;have HO:=hD hown;have HB:=hD hb;clear hown hb;by_cases hlt:k<l.length
  · have i0':(0:Int)≤(k:Int):=by omega
    have i1:(k:Int) <(l.length:Int):=by omega
    obtain⟨g,o,rfl,hg,hcc⟩:=HR.at stC_len ja hlt;obtain⟨x,hx⟩:∃x,x=l[k]:=⟨_,rfl⟩;have HX:=hD hx.symm;have HM:=hD (hx▸aH hlt:x∈l);clear hx;have a0:wr.cell? ⟨g,o+k * 12,none⟩=some (.int .i64 x.server):=by simpa using hcc wr HB 0 _ jd
    have a1:wr.cell? ⟨g,o+k * 12+1,none⟩=some (.int .i64 x.view):=hcc wr HB 1 _ jd;have a2:wr.cell? ⟨g,o+k * 12+2,none⟩=some (.int .i64 x.length):=hcc wr HB 2 _ jd;have a3:wr.cell? ⟨g,o+k * 12+3,none⟩=some (.int .i64 x.lockView):=hcc wr HB 3 _ jd;have a4:wr.cell? ⟨g,o+k * 12+4,none⟩=some (.string ⟨x.lock.toArray⟩):=hcc wr HB 4 _ jd;have a5:wr.cell? ⟨g,o+k * 12+5,none⟩=some (.slice x.cert.a x.cert.l.length x.cert.c):=hcc wr HB 5 _ jd;have a6:wr.cell? ⟨g,o+k * 12+6,none⟩=some (.int .i64 x.signed.server):=hcc wr HB 6 _ jd;have a7:wr.cell? ⟨g,o+k * 12+7,none⟩=some (.int .i64 x.signed.kind):=hcc wr HB 7 _ jd;have a8:wr.cell? ⟨g,o+k * 12+8,none⟩=some (.int .i64 x.signed.view):=hcc wr HB 8 _ jd;have a9:wr.cell? ⟨g,o+k * 12+9,none⟩=some (.int .i64 x.signed.slot):=hcc wr HB 9 _ jd;have a10:wr.cell? ⟨g,o+k * 12+10,none⟩=some (.string ⟨x.signed.digest.toArray⟩):=hcc wr HB 10 _ jd;have a11:wr.cell? ⟨g,o+k * 12+11,none⟩=some (.string ⟨x.signed.sig.toArray⟩):=hcc wr HB 11 _ jd;clear hcc;go_wp2_with fail;refine(HE x HM _ (HB.alloc hge _)).mono ?_;rintro e w1 ⟨rfl,b1⟩;have hz:wr.heap.size+1≤w1.heap.size:=by have:=b1.size;simpa using this
    have B1:Hid (Below w.heap.size w w1):=hD ((HB.alloc hge _).trans (b1.mono jg));have HO1:Hid (w1.ownsRow w.heap.size 9 1 _ k (strC ((l.take k).map ZA))):=hD (ownsRow_below (HO.alloc _) b1);clear b1 a0 a1 a2 a3 a4 a5 a6 a7 a8 a9 a10 a11;go_wp2_with (at_builtin;refine bu _ rfl _ _ 32 rfl w.heap.size 9 i0 _ 1 16 underlying32 HI HZ0 HZ1 HZ2 rfl jf _ _ _ rfl (HO1.alloc _) ⟨w1.heap.size,0,none⟩ 1 1 [ZA x] rfl rfl (zN _ _ _ _ rfl) jr jq ja jg ?_);intro v' w2 hown' hgrow _;have HO2:Hid (w2.ownsRow w.heap.size 9 1 v' (k+1) (strC ((l.take (k+1)).map ZA))):=hD (fo47);exact fo40
  · obtain rfl:k=l.length:=by omega
    have HL:Hid (wr.ownsRow w.heap.size 9 1 _ l.length (strC (l.map ZA))):=hD jai;exact fo46
theorem deC_len(x:De):(deC x).length=3:=rfl
theorem listDe_any(A:Option Addr)(c:Nat)(l:List De)(w:World)(hr:Rd w 3 A l.length (l.flatMap deC))(hok:∀x∈l,x.ok w)(hs:sum De.sz l≤16777216) :
    Calls prog 165 #[.slice A l.length c,.func (.func 166) #[] #[]] w (zm (zk (l.map Zi)) w):=by
 obtain⟨i0,hi,hz0,hz1,hz2⟩:=info_parts zdC;have HI:=hD hi;have HZ0:=hD hz0;have HZ1:=hD hz1;have HZ2:=hD hz2;have HR:=hD hr;have hlen:=Yh Zi De.sz l (fun x hx=>za8 x w (hok x hx) (by have:=Zv De.sz l x hx;omega)) (fun x=>by have:=x.sz_ge;omega) hs;have HE:Hid (∀x∈l,∀w1,Below w.heap.size w w1→Calls prog 166 #[.agg x] w1 (zm (Zi x) w1)):=
  hD (fun x hx w1 hb=>zc4 x w1 (De.below (hok x hx) hb) (by have:=Zv De.sz l x hx;omega))
 have HP:Hid (∀w' A c,Rd w' 1 A l.length (strC (l.map Zi))→Calls prog 168 #[.slice A l.length c] w' (zm (zk (l.map Zi)) w')):=hD (fun w' A c h=>by
  have h2:=ZF A c (l.map Zi) w' jao jg ja;simpa using h2)
 have hn:l.length≤16777216:=by omega
 clear hi hz0 hz1 hz2 hr hok hs hlen;go_in;go_wp2_with fail;go_loopw [5,10] (fun o i wr=>∃k:Nat,i= .int .i64 k∧k≤l.length∧wr.ownsRow w.heap.size 9 1 o k (strC ((l.take k).map Zi))∧Below w.heap.size w wr∧w.heap.size≤wr.heap.size) (fun _ i _=>l.length-(intOf i).toNat)
 case atStart=>exact⟨0,rfl,by omega,by simpa[strC]using aR _ _ _ _,ae _ _,ag _⟩
 case round=>
  obtain⟨k,rfl,hk,hown,hb,hge⟩:=hrel;have HO:=hD hown;have HB:=hD hb;clear hown hb;by_cases hlt:k<l.length
  · have i0':(0:Int)≤(k:Int):=by omega
    have i1:(k:Int) <(l.length:Int):=by omega
    obtain⟨g,o,rfl,hg,hcc⟩:=HR.at deC_len ja hlt;obtain⟨x,hx⟩:∃x,x=l[k]:=⟨_,rfl⟩;have HX:=hD hx.symm;have HM:=hD (hx▸aH hlt:x∈l);clear hx;have a0:wr.cell? ⟨g,o+k * 3,none⟩=some (.int .i64 x.view):=by simpa using hcc wr HB 0 _ jd
    have a1:wr.cell? ⟨g,o+k * 3+1,none⟩=some (.string ⟨x.value.toArray⟩):=hcc wr HB 1 _ jd;have a2:wr.cell? ⟨g,o+k * 3+2,none⟩=some (.slice x.cert.a x.cert.l.length x.cert.c):=hcc wr HB 2 _ jd;clear hcc;go_wp2_with fail;refine(HE x HM _ (HB.alloc hge _)).mono ?_;rintro e w1 ⟨rfl,b1⟩;have hz:wr.heap.size+1≤w1.heap.size:=by have:=b1.size;simpa using this
    have B1:Hid (Below w.heap.size w w1):=hD ((HB.alloc hge _).trans (b1.mono jg));have HO1:Hid (w1.ownsRow w.heap.size 9 1 _ k (strC ((l.take k).map Zi))):=hD (ownsRow_below (HO.alloc _) b1);clear b1 a0 a1 a2;go_wp2_with (at_builtin;refine bu _ rfl _ _ 32 rfl w.heap.size 9 i0 _ 1 16 underlying32 HI HZ0 HZ1 HZ2 rfl jf _ _ _ rfl (HO1.alloc _) ⟨w1.heap.size,0,none⟩ 1 1 [Zi x] rfl rfl (zN _ _ _ _ rfl) jr jq ja jg ?_);intro v' w2 hown' hgrow _;have HO2:Hid (w2.ownsRow w.heap.size 9 1 v' (k+1) (strC ((l.take (k+1)).map Zi))):=hD (fo47);exact fo40
  · obtain rfl:k=l.length:=by omega
    have HL:Hid (wr.ownsRow w.heap.size 9 1 _ l.length (strC (l.map Zi))):=hD jai;exact fo46
theorem hoC_len(x:Ho):(hoC x).length=4:=rfl
theorem listHo_any(A:Option Addr)(c:Nat)(l:List Ho)(w:World)(hr:Rd w 4 A l.length (l.flatMap hoC))(hok:∀x∈l,x.ok w)(hs:sum Ho.sz l≤16777216) :
    Calls prog 222 #[.slice A l.length c,.func (.func 223) #[] #[]] w (zm (zk (l.map Yc)) w):=by
 obtain⟨i0,hi,hz0,hz1,hz2⟩:=info_parts zdC;have HI:=hD hi;have HZ0:=hD hz0;have HZ1:=hD hz1;have HZ2:=hD hz2;have HR:=hD hr;have hlen:=Yh Yc Ho.sz l (fun x hx=>zbZ x w (hok x hx) (by have:=Zv Ho.sz l x hx;omega)) (fun x=>by have:=x.sz_ge;omega) hs;have HE:Hid (∀x∈l,∀w1,Below w.heap.size w w1→Calls prog 223 #[.agg x] w1 (zm (Yc x) w1)):=
  hD (fun x hx w1 hb=>codeHo_any x w1 (Ho.below (hok x hx) hb) (by have:=Zv Ho.sz l x hx;omega))
 have HP:Hid (∀w' A c,Rd w' 1 A l.length (strC (l.map Yc))→Calls prog 168 #[.slice A l.length c] w' (zm (zk (l.map Yc)) w')):=hD (fun w' A c h=>by
  have h2:=ZF A c (l.map Yc) w' jao jg ja;simpa using h2)
 have hn:l.length≤16777216:=by omega
 clear hi hz0 hz1 hz2 hr hok hs hlen;go_in;go_wp2_with fail;go_loopw [5,10] (fun o i wr=>∃k:Nat,i= .int .i64 k∧k≤l.length∧wr.ownsRow w.heap.size 9 1 o k (strC ((l.take k).map Yc))∧Below w.heap.size w wr∧w.heap.size≤wr.heap.size) (fun _ i _=>l.length-(intOf i).toNat)
 case atStart=>exact⟨0,rfl,by omega,by simpa[strC]using aR _ _ _ _,ae _ _,ag _⟩
 case round=>
  obtain⟨k,rfl,hk,hown,hb,hge⟩:=hrel;have HO:=hD hown;have HB:=hD hb;clear hown hb;by_cases hlt:k<l.length
  · have i0':(0:Int)≤(k:Int):=by omega
    have i1:(k:Int) <(l.length:Int):=by omega
    obtain⟨g,o,rfl,hg,hcc⟩:=HR.at hoC_len ja hlt;obtain⟨x,hx⟩:∃x,x=l[k]:=⟨_,rfl⟩;have HX:=hD hx.symm;have HM:=hD (hx▸aH hlt:x∈l);clear hx;have a0:wr.cell? ⟨g,o+k * 4,none⟩=some (.int .i64 x.slot):=by simpa using hcc wr HB 0 _ jd
    have a1:wr.cell? ⟨g,o+k * 4+1,none⟩=some (.int .i64 x.entry.view):=hcc wr HB 1 _ jd;have a2:wr.cell? ⟨g,o+k * 4+2,none⟩=some (.string ⟨x.entry.value.toArray⟩):=hcc wr HB 2 _ jd;have a3:wr.cell? ⟨g,o+k * 4+3,none⟩=some (.slice x.entry.cert.a x.entry.cert.l.length x.entry.cert.c):=hcc wr HB 3 _ jd;clear hcc;go_wp2_with fail;refine(HE x HM _ (HB.alloc hge _)).mono ?_;rintro e w1 ⟨rfl,b1⟩;have hz:wr.heap.size+1≤w1.heap.size:=by have:=b1.size;simpa using this
    have B1:Hid (Below w.heap.size w w1):=hD ((HB.alloc hge _).trans (b1.mono jg));have HO1:Hid (w1.ownsRow w.heap.size 9 1 _ k (strC ((l.take k).map Yc))):=hD (ownsRow_below (HO.alloc _) b1);clear b1 a0 a1 a2 a3;go_wp2_with (at_builtin;refine bu _ rfl _ _ 32 rfl w.heap.size 9 i0 _ 1 16 underlying32 HI HZ0 HZ1 HZ2 rfl jf _ _ _ rfl (HO1.alloc _) ⟨w1.heap.size,0,none⟩ 1 1 [Yc x] rfl rfl (zN _ _ _ _ rfl) jr jq ja jg ?_);intro v' w2 hown' hgrow _;have HO2:Hid (w2.ownsRow w.heap.size 9 1 v' (k+1) (strC ((l.take (k+1)).map Yc))):=hD (fo47);exact fo40
  · obtain rfl:k=l.length:=by omega
    have HL:Hid (wr.ownsRow w.heap.size 9 1 _ l.length (strC (l.map Yc))):=hD jai;exact fo46
theorem zei(x:Sn)(w:World)(hok:x.ok w)(hs:x.sz≤16777216) :
    Calls prog 167 #[.agg x] w (zm (zbm x) w):=by
 have hI:=hok.1;have hz:=hs;unfold Sn.sz at hz;have hch:=zcl x.chunks.l ja;have HK:Hid (∀w1,Below w.heap.size w w1→Calls prog 221 #[x.proof,.func (.func 162) #[] #[]] w1 (zm (zk (x.proof.l.map zQ)) w1)):=hD (fun w1 hb=>zdT _ _ _ w1 (Sl.rd_below hok.2.2.1.1 hb) hok.2.2.1.2 ja);have HL:Hid (∀w1,Below w.heap.size w w1→Calls prog 168 #[x.chunks] w1 (zm (zk x.chunks.l) w1)):=hD (fun w1 hb=>ZF _ _ _ w1 jct ja ja);have HH:Hid (∀w1,Bx w (snC x) 36 w1→Calls prog 222 #[x.chain,.func (.func 223) #[] #[]] w1 (Gives w (snC x) 36 (zk (x.chain.l.map Yc)))):=hD (fun w1 hb=>zZ hb (listHo_any _ _ _ w1 (Sl.rd_below hok.2.2.2.1 (zC hb)) (fun y hy=>Ho.below (hok.2.2.2.2 y hy) (zC hb)) ja));have hl1:=ym [x.slot] jo jc;simp only[au,aJ]at hl1;have hl2:=zJ x.root ja;have hl3:=(ZL x.proof.l hok.2.2.1.2 ja).1;have hl4:=hch.1;have hl5:=(Yh Yc Ho.sz x.chain.l (fun y hy=>zbZ y w (hok.2.2.2.2 y hy) jem) (fun y=>by have:=y.sz_ge;omega) ja).1;have HX0:Hid (∀(w1:World) (g:Nat) (R:Prop),(Bx w (snC x) 36 ((w1.alloc (.cells #[x.slot] 3)).drew)∧R)→w1.heap.size=g→Calls prog 160 #[.slice (some ⟨g,0,none⟩) 1 1] ((w1.alloc (.cells #[x.slot] 3)).drew) (Gives w (snC x) 36 (zu [x.slot]))):=
  hD (fun w1 g _ hb hg=>Z6 [x.slot] jc jo (fun A c W hr=>YP A c _ W hr jc jo) hb.1 hg)
 have HX1:Hid (∀(t:List UInt8) (w1:World) (R:Prop),t.length≤70368744177664→(Bx w (snC x) 36 w1∧R)→Calls prog 161 #[t] w1 (Gives w (snC x) 36 (zn t))):=
  hD (fun t w1 _ ht hb=>zZ hb.1 (Z4 t ht w1))
 have HX2:Hid (∀(w1:World) (R:Prop),(Bx w (snC x) 36 w1∧R)→Calls prog 168 #[x.chunks] w1 (Gives w (snC x) 36 (zk x.chunks.l))):=
  hD (fun w1 _ hb=>zZ hb.1 (HL w1 (zC hb.1)))
 have HX3:Hid (∀(w1:World) (R:Prop),(Bx w (snC x) 36 w1∧R)→Calls prog 221 #[x.proof,.func (.func 162) #[] #[]] w1 (Gives w (snC x) 36 (zk (x.proof.l.map zQ)))):=
  hD (fun w1 _ hb=>zZ hb.1 (HK w1 (zC hb.1)))
 have HC:Hid (∀w1,Bx w (snC x) 36 w1→Bx w (snC x) 36 w1∧w1.cell? ⟨w.heap.size,0,none⟩=some (.int .i64 x.slot)∧w1.cell? ⟨w.heap.size,1,none⟩=some (.string ⟨x.root.toArray⟩)∧w1.cell? ⟨w.heap.size,2,none⟩=some (.slice x.chunks.a x.chunks.l.length x.chunks.c)∧w1.cell? ⟨w.heap.size,3,none⟩=some (.slice x.proof.a x.proof.l.length x.proof.c)∧w1.cell? ⟨w.heap.size,4,none⟩=some (.slice x.chain.a x.chain.l.length x.chain.c)):=
  hD (fun w1 hb=>⟨hb,zg hb 0 _ rfl,zg hb 1 _ rfl,zg hb 2 _ rfl,zg hb 3 _ rfl,zg hb 4 _ rfl⟩)
 have hq0:¬(9223372036854775807<(zu [x.slot]).length+(zn x.root).length):=by omega
 have hq1:¬(9223372036854775807<(zu [x.slot]).length+(zn x.root).length+(zk x.chunks.l).length):=by omega
 have hq2:¬(9223372036854775807<(zu [x.slot]).length+(zn x.root).length+(zk x.chunks.l).length+(zk (x.proof.l.map zQ)).length):=by omega
 have hq3:¬(9223372036854775807<(zu [x.slot]).length+(zn x.root).length+(zk x.chunks.l).length+(zk (x.proof.l.map zQ)).length+(zk (x.chain.l.map Yc)).length):=by omega
 clear hok hs hch;go_in;go_wp2_with fail;refine(HH _ (Zy w (snC x) 36)).mono ?_;rintro e w9 ⟨rfl,b9⟩;have H0:=hD b9;have H1:=HC.out _ b9;obtain⟨-,k0,k1,k2,k3,k4⟩:=H1;clear b9;go_wp2_with fail;go_region_held3 (fun w1=>Bx w (snC x) 36 w1∧w1.cell? ⟨w.heap.size,0,none⟩=some (.int .i64 x.slot)∧w1.cell? ⟨w.heap.size,1,none⟩=some (.string ⟨x.root.toArray⟩)∧w1.cell? ⟨w.heap.size,2,none⟩=some (.slice x.chunks.a x.chunks.l.length x.chunks.c)∧w1.cell? ⟨w.heap.size,3,none⟩=some (.slice x.proof.a x.proof.l.length x.proof.c)∧w1.cell? ⟨w.heap.size,4,none⟩=some (.slice x.chain.a x.chain.l.length x.chain.c))
  (first|exact HC _ (yO H0)|exact HC _ (yn (‹Bx _ _ _ _∧_›).1 _)|exact HC _ ‹Bx _ _ _ _›)
  (first
   |(go_at_call 160;refine(HX0 _ _ _ je jc).mono ?_;rintro e w2 ⟨rfl,b2⟩)
   |(go_at_call 161;refine(HX1 _ _ _ ja je).mono ?_;rintro e w3 ⟨rfl,b3⟩)
   |(go_at_call 168;refine(HX2 _ _ je).mono ?_;rintro e w4 ⟨rfl,b4⟩)
   |(go_at_call 221;refine(HX3 _ _ je).mono ?_;rintro e w5 ⟨rfl,b5⟩))
 all_goals
  go_wp2_with fail;go_ret;exact Z9 ji (zC ‹_›)
theorem code_any(m:Ms)(w:World)(hok:m.ok w)(hs:m.sz≤16777216) :
    Calls prog 115 #[.agg m] w (zm (ZP m) w):=by
 have hI:=hok.1;have hz:=hs;unfold Ms.sz at hz;have hch:=zcl m.texts.l ja;have HG:Hid (∀w1,Calls prog 162 #[.agg m.signed] w1 (zm (zQ m.signed) w1)):=hD (fun w1=>zaU m.signed hok.2.1 ja w1);have HL:Hid (∀w1,Below w.heap.size w w1→Calls prog 168 #[m.texts] w1 (zm (zk m.texts.l) w1)):=hD (fun w1 hb=>ZF _ _ _ w1 jcn ja ja);have HS:Hid (∀w1,Below w.heap.size w w1→Calls prog 163 #[m.statuses,.func (.func 164) #[] #[]] w1 (zm (zk (m.statuses.l.map ZA)) w1)):=hD (fun w1 hb=>listSt_any _ _ _ w1 (Sl.rd_below hok.2.2.1.1 hb) (fun y hy=>St.below (hok.2.2.1.2 y hy) hb) ja);have HD:Hid (∀w1,Below w.heap.size w w1→Calls prog 165 #[m.entries,.func (.func 166) #[] #[]] w1 (zm (zk (m.entries.l.map Zi)) w1)):=hD (fun w1 hb=>listDe_any _ _ _ w1 (Sl.rd_below hok.2.2.2.1.1 hb) (fun y hy=>De.below (hok.2.2.2.1.2 y hy) hb) ja);have HN:Hid (∀w1,Below w.heap.size w w1→Calls prog 167 #[.agg m.snapshot] w1 (zm (zbm m.snapshot) w1)):=hD (fun w1 hb=>zei _ w1 (Sn.below hok.2.2.2.2.1 hb) ja);have hl1:=ym [m.kind,m.src,m.dst,m.view,m.slot,m.till] jo jc;simp only[au,aJ]at hl1;have hl2:=zJ m.value ja;have hl3:=zas m.signed hok.2.1 ja;have hl4:=zJ (zQ m.signed) ja;have hl9:=hch.1;have hl5:=(Yh ZA St.sz m.statuses.l (fun y hy=>zcT y w (hok.2.2.1.2 y hy) jek) (fun y=>by have:=y.sz_ge;omega) ja).1;have hl6:=(Yh Zi De.sz m.entries.l (fun y hy=>za8 y w (hok.2.2.2.1.2 y hy) jel) (fun y=>y.sz_ge) ja).1;have hl7:=zez m.snapshot w hok.2.2.2.2.1 ja;have hl8:=zJ (zbm m.snapshot) ja;have HX0:Hid (∀(w1:World) (g:Nat) (R:Prop),(Bx w (msC m) 38 ((w1.alloc (.cells #[m.kind,m.src,m.dst,m.view,m.slot,m.till] 3)).drew)∧R)→w1.heap.size=g→Calls prog 160 #[.slice (some ⟨g,0,none⟩) 6 6] ((w1.alloc (.cells #[m.kind,m.src,m.dst,m.view,m.slot,m.till] 3)).drew) (Gives w (msC m) 38 (zu [m.kind,m.src,m.dst,m.view,m.slot,m.till]))):=
  hD (fun w1 g _ hb hg=>Z6 [m.kind,m.src,m.dst,m.view,m.slot,m.till] jc jo (fun A c W hr=>YP A c _ W hr jc jo) hb.1 hg)
 have HX1:Hid (∀(t:List UInt8) (w1:World) (R:Prop),t.length≤70368744177664→(Bx w (msC m) 38 w1∧R)→Calls prog 161 #[t] w1 (Gives w (msC m) 38 (zn t))):=
  hD (fun t w1 _ ht hb=>zZ hb.1 (Z4 t ht w1))
 have HX2:Hid (∀(w1:World) (R:Prop),(Bx w (msC m) 38 w1∧R)→Calls prog 162 #[.agg m.signed] w1 (Gives w (msC m) 38 (zQ m.signed))):=
  hD (fun w1 _ hb=>zZ hb.1 (HG w1))
 have HX3:Hid (∀(w1:World) (R:Prop),(Bx w (msC m) 38 w1∧R)→Calls prog 163 #[m.statuses,.func (.func 164) #[] #[]] w1 (Gives w (msC m) 38 (zk (m.statuses.l.map ZA)))):=
  hD (fun w1 _ hb=>zZ hb.1 (HS w1 (zC hb.1)))
 have HX4:Hid (∀(w1:World) (R:Prop),(Bx w (msC m) 38 w1∧R)→Calls prog 165 #[m.entries,.func (.func 166) #[] #[]] w1 (Gives w (msC m) 38 (zk (m.entries.l.map Zi)))):=
  hD (fun w1 _ hb=>zZ hb.1 (HD w1 (zC hb.1)))
 have HX5:Hid (∀(w1:World) (R:Prop),(Bx w (msC m) 38 w1∧R)→Calls prog 167 #[.agg m.snapshot] w1 (Gives w (msC m) 38 (zbm m.snapshot))):=
  hD (fun w1 _ hb=>zZ hb.1 (HN w1 (zC hb.1)))
 have HX6:Hid (∀(w1:World) (R:Prop),(Bx w (msC m) 38 w1∧R)→Calls prog 168 #[m.texts] w1 (Gives w (msC m) 38 (zk m.texts.l))):=
  hD (fun w1 _ hb=>zZ hb.1 (HL w1 (zC hb.1)))
 have HC:Hid (∀w1,Bx w (msC m) 38 w1→Bx w (msC m) 38 w1∧w1.cell? ⟨w.heap.size,0,none⟩=some (.int .i64 m.kind)∧w1.cell? ⟨w.heap.size,1,none⟩=some (.int .i64 m.src)∧w1.cell? ⟨w.heap.size,2,none⟩=some (.int .i64 m.dst)∧w1.cell? ⟨w.heap.size,3,none⟩=some (.int .i64 m.view)∧w1.cell? ⟨w.heap.size,4,none⟩=some (.int .i64 m.slot)∧w1.cell? ⟨w.heap.size,5,none⟩=some (.string ⟨m.value.toArray⟩)∧w1.cell? ⟨w.heap.size,6,none⟩=some (.int .i64 m.till)∧w1.cell? ⟨w.heap.size,7,none⟩=some (.int .i64 m.signed.server)∧w1.cell? ⟨w.heap.size,8,none⟩=some (.int .i64 m.signed.kind)∧w1.cell? ⟨w.heap.size,9,none⟩=some (.int .i64 m.signed.view)∧w1.cell? ⟨w.heap.size,10,none⟩=some (.int .i64 m.signed.slot)∧w1.cell? ⟨w.heap.size,11,none⟩=some (.string ⟨m.signed.digest.toArray⟩)∧w1.cell? ⟨w.heap.size,12,none⟩=some (.string ⟨m.signed.sig.toArray⟩)∧w1.cell? ⟨w.heap.size,13,none⟩=some (.slice m.statuses.a m.statuses.l.length m.statuses.c)∧w1.cell? ⟨w.heap.size,14,none⟩=some (.slice m.entries.a m.entries.l.length m.entries.c)∧w1.cell? ⟨w.heap.size,15,none⟩=some (.int .i64 m.snapshot.slot)∧w1.cell? ⟨w.heap.size,16,none⟩=some (.string ⟨m.snapshot.root.toArray⟩)∧w1.cell? ⟨w.heap.size,17,none⟩=some (.slice m.snapshot.chunks.a m.snapshot.chunks.l.length m.snapshot.chunks.c)∧w1.cell? ⟨w.heap.size,18,none⟩=some (.slice m.snapshot.proof.a m.snapshot.proof.l.length m.snapshot.proof.c)∧w1.cell? ⟨w.heap.size,19,none⟩=some (.slice m.snapshot.chain.a m.snapshot.chain.l.length m.snapshot.chain.c)∧w1.cell? ⟨w.heap.size,20,none⟩=some (.slice m.texts.a m.texts.l.length m.texts.c)):=
  hD (fun w1 hb=>⟨hb,zg hb 0 _ rfl,zg hb 1 _ rfl,zg hb 2 _ rfl,zg hb 3 _ rfl,zg hb 4 _ rfl,zg hb 5 _ rfl,zg hb 6 _ rfl,zg hb 7 _ rfl,zg hb 8 _ rfl,zg hb 9 _ rfl,zg hb 10 _ rfl,zg hb 11 _ rfl,zg hb 12 _ rfl,zg hb 13 _ rfl,zg hb 14 _ rfl,zg hb 15 _ rfl,zg hb 16 _ rfl,zg hb 17 _ rfl,zg hb 18 _ rfl,zg hb 19 _ rfl,zg hb 20 _ rfl⟩)
 have H0:=hD (Zy w (msC m) 38);have hq0:¬(9223372036854775807<(zu [m.kind,m.src,m.dst,m.view,m.slot,m.till]).length+(zn m.value).length):=by omega
 have hq1:¬(9223372036854775807<(zu [m.kind,m.src,m.dst,m.view,m.slot,m.till]).length+(zn m.value).length+(zn (zQ m.signed)).length):=by omega
 have hq2:¬(9223372036854775807<(zu [m.kind,m.src,m.dst,m.view,m.slot,m.till]).length+(zn m.value).length+(zn (zQ m.signed)).length+(zk (m.statuses.l.map ZA)).length):=by omega
 have hq3:¬(9223372036854775807<(zu [m.kind,m.src,m.dst,m.view,m.slot,m.till]).length+(zn m.value).length+(zn (zQ m.signed)).length+(zk (m.statuses.l.map ZA)).length+(zk (m.entries.l.map Zi)).length):=by omega
 have hq4:¬(9223372036854775807<(zu [m.kind,m.src,m.dst,m.view,m.slot,m.till]).length+(zn m.value).length+(zn (zQ m.signed)).length+(zk (m.statuses.l.map ZA)).length+(zk (m.entries.l.map Zi)).length+(zn (zbm m.snapshot)).length):=by omega
 have hq5:¬(9223372036854775807<(zu [m.kind,m.src,m.dst,m.view,m.slot,m.till]).length+(zn m.value).length+(zn (zQ m.signed)).length+(zk (m.statuses.l.map ZA)).length+(zk (m.entries.l.map Zi)).length+(zn (zbm m.snapshot)).length+(zk m.texts.l).length):=by omega
 clear hok hs hch;go_in;go_wp2_with fail;go_region_held3 (fun w1=>Bx w (msC m) 38 w1∧w1.cell? ⟨w.heap.size,0,none⟩=some (.int .i64 m.kind)∧w1.cell? ⟨w.heap.size,1,none⟩=some (.int .i64 m.src)∧w1.cell? ⟨w.heap.size,2,none⟩=some (.int .i64 m.dst)∧w1.cell? ⟨w.heap.size,3,none⟩=some (.int .i64 m.view)∧w1.cell? ⟨w.heap.size,4,none⟩=some (.int .i64 m.slot)∧w1.cell? ⟨w.heap.size,5,none⟩=some (.string ⟨m.value.toArray⟩)∧w1.cell? ⟨w.heap.size,6,none⟩=some (.int .i64 m.till)∧w1.cell? ⟨w.heap.size,7,none⟩=some (.int .i64 m.signed.server)∧w1.cell? ⟨w.heap.size,8,none⟩=some (.int .i64 m.signed.kind)∧w1.cell? ⟨w.heap.size,9,none⟩=some (.int .i64 m.signed.view)∧w1.cell? ⟨w.heap.size,10,none⟩=some (.int .i64 m.signed.slot)∧w1.cell? ⟨w.heap.size,11,none⟩=some (.string ⟨m.signed.digest.toArray⟩)∧w1.cell? ⟨w.heap.size,12,none⟩=some (.string ⟨m.signed.sig.toArray⟩)∧w1.cell? ⟨w.heap.size,13,none⟩=some (.slice m.statuses.a m.statuses.l.length m.statuses.c)∧w1.cell? ⟨w.heap.size,14,none⟩=some (.slice m.entries.a m.entries.l.length m.entries.c)∧w1.cell? ⟨w.heap.size,15,none⟩=some (.int .i64 m.snapshot.slot)∧w1.cell? ⟨w.heap.size,16,none⟩=some (.string ⟨m.snapshot.root.toArray⟩)∧w1.cell? ⟨w.heap.size,17,none⟩=some (.slice m.snapshot.chunks.a m.snapshot.chunks.l.length m.snapshot.chunks.c)∧w1.cell? ⟨w.heap.size,18,none⟩=some (.slice m.snapshot.proof.a m.snapshot.proof.l.length m.snapshot.proof.c)∧w1.cell? ⟨w.heap.size,19,none⟩=some (.slice m.snapshot.chain.a m.snapshot.chain.l.length m.snapshot.chain.c)∧w1.cell? ⟨w.heap.size,20,none⟩=some (.slice m.texts.a m.texts.l.length m.texts.c))
  (first|exact HC _ (yO H0)|exact HC _ (yn (‹Bx _ _ _ _∧_›).1 _)|exact HC _ ‹Bx _ _ _ _›)
  (first
   |(go_at_call 160;refine(HX0 _ _ _ je jc).mono ?_;rintro e w2 ⟨rfl,b2⟩)
   |(go_at_call 161;refine(HX1 _ _ _ ja je).mono ?_;rintro e w3 ⟨rfl,b3⟩)
   |(go_at_call 162;refine(HX2 _ _ je).mono ?_;rintro e w4 ⟨rfl,b4⟩)
   |(go_at_call 163;refine(HX3 _ _ je).mono ?_;rintro e w5 ⟨rfl,b5⟩)
   |(go_at_call 165;refine(HX4 _ _ je).mono ?_;rintro e w6 ⟨rfl,b6⟩)
   |(go_at_call 167;refine(HX5 _ _ je).mono ?_;rintro e w7 ⟨rfl,b7⟩)
   |(go_at_call 168;refine(HX6 _ _ je).mono ?_;rintro e w8 ⟨rfl,b8⟩))
 all_goals
  go_wp2_with fail;go_ret;exact Z9 ji (zC ‹_›)
