/- The law TraceFormat. -/
import Derived.Test.YtepbbaifpckcpaaGreatDoorFPl
import Derived.Test.YtepbbaifpckcpaaGreatDoorFTrPb
import Derived.Test.YtepbbaifpckcpaaGreatDoorFRl
import Derived.Test.YtepbbaifpckcpaaGreatDoorFTo
import Derived.Test.YtepbbaifpckcpaaGreatDoorFTu
namespace Go.Proofs.YtepbbaifpckcpaaGreatDoor
set_option maxRecDepth 100000
set_option maxHeartbeats 2000000
open Go.RowKit
theorem few_texts {l:List Pt} (h:zbb l=true):l.length≤40∧∀x∈l,x.text.length≤2100∧x.result.length≤500∧(yO x.msg).length≤80000:=by
 unfold zbb at h;rw [Bool.and_eq_true,List.all_eq_true,decide_eq_true_eq] at h;refine⟨h.2,fun x hx=> ?_⟩;have h1:=h.1 x hx;simp only [zde,zeY,Bool.and_eq_true,decide_eq_true_eq] at h1;exact⟨h1.1.1,h1.1.2,h1.2.1⟩
theorem same_back {E:List UInt8→Bool} {l m:List Pt} (hv:vTr E l=0) (h:m.map Pt.er=l.map canon):Y6 m l=true:=by
 have hlen:m.length=l.length:=by have:=congrArg List.length h;simpa using this
 unfold Y6;rw [Bool.and_eq_true,decide_eq_true_eq,List.all_eq_true];refine⟨hlen,fun i hi=> ?_⟩;have hi1:=List.mem_range.1 hi;have hi2:i<l.length:=by omega
 rw [sameAt_is hi1 hi2];have he:m[i].er=canon l[i]:=by
  have:=congrArg (fun q=>q[i]?) h;simpa [hi1,hi2] using this
 have hg:=zdC.1 (zcV (vTr_zero.1 hv).2 i hi2).1;have h1:=canon_eq hg;rw [←he] at h1;rw [←h1];show eqPt m[i] l[i]=eqPt m[i].er l[i];show(_ && zcf (yO m[i].msg) (yO l[i].msg))=(_ && zcf (yO m[i].msg.er) (yO l[i].msg));rw [zby];rfl
theorem fmt_ok {E:List UInt8→Bool} {l:List Pt} (h:fmtE E l=0):vTr E l=0∧(zX l).length≤65536∧fmtT E l=zX l:=by
 unfold fmtE at h;split at h
 · next h0=>
   split at h
   · next h1=>exact⟨h0,h1,by unfold fmtT;rw [if_pos ⟨h0,h1⟩]⟩
   · simp at h
 · next h0=>exact absurd h h0
theorem lawFormat (A:Option Addr) (c:Nat) (l:List Pt) (w:World) (he:Env w) (hp:ZV w A l) (hs:∀x∈l,x.msg.sz≤16777216) (hn:l.length≤1048576) :
    Calls Tryz.prog 8 #[.slice A l.length c] w (zC true w):=by
 have HP:=hD hp;have hn2:l.length≤1099511627776:=Nat.le_trans hn jf;have HA:Hid (∀w1,Below w.heap.size w w1→Calls Tryz.prog 10 #[] w1 (zC true w1)):=hD (fun w1 hb=>awake_any w1 (he.below hb));have HFw:Hid (∀w1,Below w.heap.size w w1→Calls Tryz.prog 11 #[.slice A l.length c] w1 (zC (zbb l) w1)):=hD (fun w1 hb=>few53_any A c l w1 (hp.below hb) hs hn2);have HEnv:=hD he;have HSz:=hD hs;have HB0:=hD (Below.refl w.heap.size w);clear he hp hs;go_in;go_wp2_with fail;refine(HA.out _ HB0.out).mono ?_;rintro e w1 ⟨rfl,b1⟩;have HB1:=hD (bon HB0.out b1);clear b1;go_wp2_with fail;refine(HFw.out _ HB1.out).mono ?_;rintro e w2 ⟨rfl,b2⟩;have HB2:=hD (bon HB1.out b2);clear b2;cases hq:zbb l with
 |false=>
  clear hq;go_wp2_with fail;refine(HA.out _ HB2.out).mono ?_;rintro e w3 ⟨rfl,b3⟩;have HB3:=hD (bon HB2.out b3);clear b3;go_wp2_with fail;go_ret;exact zz rfl HB3.out
 |true=>
  have HT:=hD (few_texts hq).2;have h40:=(few_texts hq).1;have HLf:Hid (fewLn l):=hD (fun x hx=>by
   obtain⟨h1,h2,h3⟩:=HT.out x hx;have:=enc0_le x.msg;exact⟨HSz.out x hx,by omega,by omega,by omega⟩)
  clear hq;go_wp2_with fail;refine(zdZ A c l w2 (HP.out.below HB2.out).1 hn).mono ?_;rintro e w3 ⟨A3,c3,rfl,hown,hs⟩;obtain⟨hp3, -, -⟩:=pts_own hown (HP.out.below HB2.out).2 hs;have HP3:=hD hp3;have HB3:=hD (bon HB2.out hs);clear hs hown hp3;have HE1:Hid (EntOk 60 entB l w3):=hD (fun x hx _ W hW=>enA_tr (HEnv.out.below HB3.out) x.text W (Nat.le_trans (HT.out x hx).1 jf) hW);go_wp2_with fail;refine(zdl A3 c3 l w3 entB HE1.out (HEnv.out.below HB3.out) HP3.out HLf.out hn2).mono ?_;rintro e w4 ⟨rfl,hs⟩;have HB4:=hD (bon HB3.out hs);clear hs HE1 HP3;have HE2:Hid (EntOk 65 entB l w4):=hD (fun x hx _ W hW=>enA_ref w4 x.text W (Nat.le_trans (HT.out x hx).1 jf) hW);have HRf:=hD (refFmt_any A c l w4 entB HE2.out (HEnv.out.below HB4.out) (HP.out.below HB4.out) HLf.out ja);have HOk:=hD (fun h=>fmt_ok (E:=entB) (l:=l) h);clear HE2 HLf;generalize fmtT entB l=ft at HRf HOk⊢;generalize fmtE entB l=fe at HRf HOk⊢;go_wp2_with fail;refine HRf.out.mono ?_;rintro e w5 ⟨rfl,hs⟩;have HB5:=hD (bon HB4.out hs);clear hs HRf;have e1:=str_eq2 (rfl:ft=ft);by_cases h0:fe=0
  case neg=>
   have q0:(fe == 0)=false:=by simpa using h0
   have q1:(fe != 0)=true:=by simpa using h0
   clear h0;go_wp2_with fail;go_ret;exact zz jd HB5.out
  obtain⟨hv,hl,rfl⟩:=HOk.out h0;subst h0;have HV:=hD hv;have HPr:Hid (Calls Tryz.prog 33 #[.string ⟨(zX l).toArray⟩] w5 (fun e w'=>∃A c m,e= .returned (.tuple #[.slice A m.length c, .int .i64 0, .int .i64 0])∧m.map Pt.er=l.map canon∧ZV w' A m∧(∀x∈m,ze6 x)∧Below w5.heap.size w5 w')):=hD (by
   have h:=trParse_any (zX l) w5 entB (HEnv.out.below HB5.out) (enA_tr (HEnv.out.below HB5.out)) hl;rw [parse_format hv HP.out.2 hl] at h;exact h)
  clear hv hl HOk;generalize zX l=ft at HPr e1⊢;go_wp2_with fail;refine HPr.out.mono ?_;rintro e w6 ⟨A6,c6,m,rfl,hm,hp6,hf6,hs⟩;have HSm:Hid (Y6 m l=true):=hD (same_back HV.out hm);have hml:m.length=l.length:=by have:=congrArg List.length hm;simpa using this
  have HP6:=hD hp6;have HB6:=hD (bon HB5.out hs);have HSame:=hD (zbN A6 A c6 c m l w6 hp6 (HP.out.below HB6.out) (fun x hx=>(hf6 x hx).1) HSz.out ja hn2);rw [HSm.out] at HSame;clear hm hp6 hf6 hs HPr e1 hml;go_wp2_with fail;refine HSame.out.mono ?_;rintro e w7 ⟨rfl,hs⟩;have HB7:=hD (bon HB6.out hs);clear hs HSame;go_wp2_with fail;go_ret;exact zz rfl HB7.out
end Go.Proofs.YtepbbaifpckcpaaGreatDoor
