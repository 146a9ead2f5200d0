/- The contract of trace.parse. -/
import Derived.Test.YtepbbaifpckcpaaGreatDoorPRd
import Derived.Test.YtepbbaifpckcpaaGreatDoorPEe
import Derived.Test.YtepbbaifpckcpaaGreatDoorPSm
open Go.Proofs.Tryz
namespace Go.Proofs.YtepbbaifpckcpaaGreatDoor
set_option maxRecDepth 100000
set_option maxHeartbeats 8000000
open Go.RowKit
variable{T:TypeId}{w w':World}
theorem toks_ret{P:Program}{f:FuncId}{args:Array Value}{l:List UInt8}{ts:List Q06.Tok}{ln er:Int}(h:Calls P f args w (Q06.RetToks l w))(hq:Q06.toksR l=(ts,ln,er)) :
    Calls P f args w (fun e w'=>∃A c,e= .returned (.tuple #[.slice A ts.length c,ln,er])∧Q06.Rd w' 5 A ts.length (Q06.toksC ts)∧Below w.heap.size w w'∧ts.length≤c∧c≤9223372036854775807):=
 h.mono fun e w' hh=>by unfold Q06.RetToks at hh;rw[hq]at hh;exact hh
def RetPs(o:Option Pt)(w:World)(e:Ending)(w':World):Prop:=Below w.heap.size w w'∧match o with
 |some y=>∃x:Pt,x.er=y∧e= .returned (.tuple #[.agg (ptC x).toArray,true])∧yG w.heap.size x.ok w'∧zeS x
 |none=>∃x:Pt,e= .returned (.tuple #[.agg (ptC x).toArray,false])
theorem ZU{o:Option Pt}(x:Pt)(h:o=none)(hb:Below w.heap.size w w'):RetPs o w (.returned (.tuple #[.agg (ptC x).toArray,false])) w':=by
 subst h;exact⟨hb,x,rfl⟩
theorem zfx{o:Option Pt}{x:Pt}(h:o=some x.er)(hb:Below w.heap.size w w')(hk:yG w.heap.size x.ok w')(hf:zeS x):RetPs o w (.returned (.tuple #[.agg (ptC x).toArray,true])) w':=by
 subst h;exact⟨hb,x,rfl,rfl,hk,hf⟩
theorem rk_new{A:Option Addr}{c:Nat}{ts:List Q06.Tok}(h:Q06.Rd w 5 A ts.length (Q06.toksC ts))(hc:ts.length≤c)(hc2:c≤9223372036854775807) :
    Rk w.heap.size (w.alloc (.cells #[.slice A ts.length c,false] T)) w.heap.size (ts,false):=
 ⟨ag _,A,c,Vr.new w [.slice A ts.length c,false] T,RdL.of h (za _ _) rfl,hc,hc2⟩
theorem ps_new{w4:World}{B g:Nat}{s:List Q06.Tok × Bool}(y:Pt)(hk:Rk B w4 g s)(hr:Vr w4 w.heap.size (ptC pt0))(hb:Below w.heap.size w w4)(h1:w.heap.size<g) :
    Ps w B g w4.heap.size s y ((w4.alloc (.cells (ptC pt0).toArray T)).setCells w4.heap.size 0 (ptC y)):=
 ⟨(hk.below (za _ _)).off hk.lt,(Vr.new w4 (ptC pt0) T).sets (ptC y) rfl,(hr.below (za _ _)).grown (zb (b:=w4.heap.size) (ptC y)) (by have:=hk.lt;omega),
  zf (bon hb (za _ _)) (zb (b:=w4.heap.size) (ptC y)) (by have:=hk.lt;omega),h1,hk.lt⟩
theorem trParsePt_any(s:List UInt8)(w:World)(E:List UInt8→Bool)(he:Env w)(hE:EnA 60 E w)(hs:s.length≤65536) :
    Calls prog 53 #[s] w (RetPs (pt1 E s) w):=by
 have HEnv:=hD he;have HE:=hD hE;obtain⟨⟨ts,ln,er⟩,hq⟩:∃r,Q06.toksR s=r:=⟨_,rfl⟩;have HQ:=hD hq;have HF0:Hid (∀t∈ts,TokF t):=hD (by have h:=toksF s;rw[hq]at h;exact h);have HTok:=hD (fun W=>toks_ret (Q06.lexTokens_any ⟨s.toArray⟩ W jds) (by simpa using hq));clear he hE hs hq;have HR0:=hD (Vr.new w (ptC pt0) 40);have HB0:=hD (za w (.cells (ptC pt0).toArray 40));have HZ0:Hid ((w.alloc (.cells (ptC pt0).toArray 40)).heap.size=w.heap.size+1):=hD jc;go_in;go_upto_region 1 with fail;change Code.wp _ _ _ _ (w.alloc (.cells (ptC pt0).toArray 40));generalize w.alloc (.cells (ptC pt0).toArray 40)=w1 at HR0 HB0 HZ0⊢;go_wp2_with fail;refine(HTok w1).mono ?_;rintro e w2 ⟨A,c,rfl,hrd,hb,hc1,hc2⟩;have HRd:=hD hrd;have HR2:=hD (HR0.below hb);have HB2:=hD (bon HB0 hb);have HO1:Hid (w.heap.size<w2.heap.size):=hD (by have:=HZ0.out;have:=hb.size;omega);have HC:=hD (And.intro hc1 hc2);clear hrd hb hc1 hc2 HR0 HB0 HZ0 HTok;by_cases h0:er=0
 case neg=>
  have q1:(er == 0)=false:=by simpa using h0
  have q2:(er != 0)=true:=by simp[h0]
  have HF:Hid (pt1 E s=none):=hD (by unfold pt1;rw[HQ.out,aa (fun h=>h0 h.1)]);clear h0;go_wp2_with (first
   |(refine bV rfl 40 _ rfl _ rfl (ptC pt0).toArray ?_ ?_;· kernel_rfl)
   |(refine ai rfl 40 _ _ rfl w.heap.size 0 (ptC pt0).toArray rfl rfl ?_ (zw pt0) (yz pt0) ?_;· exact HR2.there rfl))
  try simp only[ay]
  refine aj (v:= .tuple #[.agg (ptC pt0).toArray,false]) ?_ rfl (ZU pt0 HF (zf HB2 (zb (b:=w.heap.size) (ptC pt0)) (ag _)));exact zi results53 _ _ w.heap.size (ptC pt0) _ _ rfl rfl (HR2.sets (ptC pt0) rfl).range underlying40 rfl (zw pt0)
 subst h0;have HK3:Hid (Rk w2.heap.size (w2.alloc (.cells #[.slice A ts.length c,false] 115)) w2.heap.size (ts,false)):=hD (rk_new HRd HC.1 HC.2);have HR3:=hD (HR2.below (za w2 (.cells #[.slice A ts.length c,false] 115)));have HB3:=hD (bon HB2 (za w2 (.cells #[.slice A ts.length c,false] 115)));go_upto_region 5 with fail;change Code.wp _ _ _ _ (w2.alloc (.cells #[.slice A ts.length c,false] 115));generalize w2.alloc (.cells #[.slice A ts.length c,false] 115)=w3 at HK3 HR3 HB3⊢;generalize w2.heap.size=g at HK3 HO1⊢;clear HR2 HB2 HRd HC;go_wp2_with fail;refine(rdNum_any g g (ts,false) w3 HK3).mono ?_;rintro e w4 ⟨rfl,hg,hk⟩;have HK4:=hD hk;have HR4:=hD (HR3.grown hg (by have:=HO1.out;omega));have HB4:=hD (zf HB3 hg (by have:=HO1.out;omega));clear hg hk HK3 HR3 HB3;obtain⟨a,ha⟩:∃a,a=(nxt 2 (ts,false)).1.int:=⟨_,rfl⟩;obtain⟨s1,hs1⟩:∃x,x=(nxt 2 (ts,false)).2:=⟨_,rfl⟩;rw[←ha];rw[←hs1]at HK4;have HAe:=hD (And.intro ha hs1);clear ha hs1;obtain⟨y0,hy0⟩:∃y,y=(⟨a,0,0,0,0,[],[],ms0⟩:Pt):=⟨_,rfl⟩;have HPs:Hid (Ps w g g w4.heap.size s1 y0 ((w4.alloc (.cells (ptC pt0).toArray 40)).setCells w4.heap.size 0 (ptC y0))):=hD (ps_new y0 HK4 HR4 HB4 HO1);have HX0:=hD (Vr.new w4 (ptC pt0) 40);have HY0:=hD hy0;clear hy0 HK4 HR4 HB4;go_upto_region 6 with(first
  |(refine bV rfl 40 _ rfl _ rfl (ptC y0).toArray ?_ ?_;· rw[HY0.out];kernel_rfl)
  |(refine ai rfl 40 _ _ rfl w4.heap.size 0 (ptC y0).toArray rfl rfl ?_ (zw y0) (yz y0) ?_;· exact HX0.there rfl))
 try simp only[ay]
 change Code.wp _ _ _ _ ((w4.alloc (.cells (ptC pt0).toArray 40)).setCells w4.heap.size 0 (ptC y0));generalize (w4.alloc (.cells (ptC pt0).toArray 40)).setCells w4.heap.size 0 (ptC y0)=w5 at HPs⊢;clear HX0;generalize w4.heap.size=q at HPs⊢;have hy0:=HY0.out;subst hy0;clear HY0;go_wp2_with fail;refine(zdw g 1 g s1 w5 HPs.rd).mono ?_;rintro e w6 ⟨rfl,hg,hk⟩;have HP6:=hD (HPs.call hg hk);clear hg hk HPs;rw[tokC_arr];have hfd:=tok_f1 (nxt 1 s1).1;obtain⟨wd,hwd⟩:∃x,x=(nxt 1 s1).1.text:=⟨_,rfl⟩;obtain⟨s2,hs2⟩:∃x,x=(nxt 1 s1).2:=⟨_,rfl⟩;have HWe:=hD (And.intro hwd hs2);rw[←hs2]at HP6;generalize (nxt 1 s1).1=tk at hfd hwd⊢;rw[←hwd]at hfd⊢;clear hwd hs2;obtain⟨bw,nw,hcell,hown⟩:=HEnv.words;have cw:w6.cell? ⟨0,0,none⟩=some (.map (some bw)):=(HP6.low.cell (p:=⟨0,0,none⟩) (dK hcell)).trans hcell;have HOwn:=hD (zae hown HP6.low);have HBw:Hid (bw<w.heap.size):=hD hown.lt;have HQR:Hid (q<w6.heap.size):=hD HP6.pt.lt;clear hcell hown;go_wp2_with (at_range;refine wpList_range_own _ rfl _ 90 rfl 3 9 (fG underlying3) underlying90 _ bw nw _ rfl HOwn ?_;intro w7 hrg7 hg7 hs7);go_frame;have HP7:=hD (HP6.far (hg7.but (some w6.heap.size)) HQR);have HRg7:=hD hrg7;clear hrg7 hg7 hs7 cw HOwn HP6;generalize w6.heap.size=r at HRg7 HQR⊢;go_loopw [10,11] (fun _ _ wr=>∃(left:Lit→Bool) (cnt:Nat),wr.ranges prog 3 (plainElem prog 9) bw r nw zaI left cnt∧Ps w g g q s2 ⟨a,YR left wd,0,0,0,[],[],ms0⟩ wr) (fun _ _ wr=>wr.rangeLeft bw r)
 case atStart=>exact⟨_,_,HRg7,by rw[zfY];exact HP7⟩
 case round=>
  obtain⟨left,cnt,hrg,hps⟩:=hrel;have HPr:=hD hps;have HRg:=hD hrg;clear hps hrg;go_wp2_with (at_next;refine wpList_next_ranges_is _ rfl _ rfl 3 9 .i64 (fG underlying3) underlying3 underlying9 bw r nw _ _ _ rfl HRg ?_ ?_)
  case' refine_2=>
   intro x c w8 cnt1 hwx hwc hlx hat hrg1 hlt hg1 hs1 hen;obtain⟨h1,h8,hc⟩:=words_entry hat;obtain rfl:c=⟨(yf x).toArray⟩:=by rw[←hc,ze2]
   have HP1:=hD (HPr.far hg1 HQR);have HRg1:=hD hrg1;have HLt:=hD hlt;have HX:=hD (And.intro h1 h8);have c1:=HP1.pt.cells 1 _ rfl;have f1:=HP1.pt.free 1 (az rfl);have lq:=HP1.pt.lt;clear hwx hwc hlx hat hrg1 hlt hg1 hs1 hc h1 h8;by_cases hh:yf x=wd
   · have e1:=str_eq2 hh;have e2:(yf x == wd)=true:=by simpa using hh
     have hh':yf x=wd:=hh;have HH:=hD hh';clear hh hh';have HRg2:Hid ((w8.setCell ⟨q,1,none⟩ (.int .i64 x)).ranges prog 3 (plainElem prog 9) bw r nw zaI (fun z=>left z && !z.sameKey (.int .i64 x)) cnt1):=hD (HRg1.kept (ze w8 ⟨q,1,none⟩ (.int .i64 x)) (by have:=HBw.out;have:=HPr.o1;have:=HPr.o2;simp;omega) (by have:=HQR.out;simp;omega));go_wp2_with fail;go_roundw
     case rel=>exact⟨_,cnt1,HRg2,by have h:=HP1.setx (y:=⟨a,x,0,0,0,[],[],ms0⟩) 1 (.int .i64 x) rfl;rw[←HH.out,kindDone_hit HX.out.1 HX.out.2];exact h⟩
     case measure=>rw[HRg2.out.left_eq,HRg.out.left_eq];exact HLt
   · have e1:=str_ne2 hh;have e2:(yf x == wd)=false:=by simpa using hh
     have HH:=hD hh;clear hh;go_wp2_with fail;go_roundw
     case rel=>exact⟨_,cnt1,HRg1,by rw[kindDone_miss HH.out];exact HP1⟩
     case measure=>rw[HRg1.out.left_eq,HRg.out.left_eq];exact HLt
  intro _ hl0;have HP8:Hid (Ps w g g q s2 ⟨a,kindOf wd,0,0,0,[],[],ms0⟩ wr):=hD (by have h:=HPr.out;rwa[kindDone_end hl0]at h);clear hl0 HPr HRg HRg7 HP7;obtain⟨k,hk⟩:∃k,k=kindOf wd:=⟨_,rfl⟩;rw[←hk]at HP8;have HKe:=hD hk;clear hk;go_wp2_with fail;refine(zbi HP8).mono ?_;rintro e w9 ⟨rfl,hp⟩;obtain⟨o,ho⟩:∃x,x=(nxt 2 s2).1.int:=⟨_,rfl⟩;obtain⟨s3,hs3⟩:∃x,x=(nxt 2 s2).2:=⟨_,rfl⟩;rw[←ho];rw[←hs3]at hp;have HP9:=hD hp;have HOe:=hD (And.intro ho hs3);clear hp ho hs3 HP8;have HRaw:Hid (pRaw ts=YG a k o s3):=hD (by
   have h1:=HAe.out;have h2:=HWe.out;have h3:=HOe.out;have h4:=HKe.out;rw[h3.1,h3.2,h4,h2.1,h2.2,h1.1,h1.2];rfl)
  have HF3:Hid (∀t∈s3.1,TokF t):=hD (by
   rw[HOe.out.2,HWe.out.2,HAe.out.2];exact(nxtF (nxtF (nxtF (s:=(ts,false)) HF0).2).2).2)
  clear HAe HWe HOe HKe;have HP10:Hid (Ps w g g q s3 ⟨a,k,o,0,0,[],[],ms0⟩ (w9.setCell ⟨q,2,none⟩ (.int .i64 o))):=hD (HP9.setx 2 _ rfl);have c2:=HP9.pt.cells 2 _ rfl;have f2:=HP9.pt.free 2 (az rfl);have lq:=HP9.pt.lt;go_upto_region 13 with fail;generalize w9.setCell ⟨q,2,none⟩ (.int .i64 o)=w10 at HP10⊢;clear c2 f2 lq HP9;have c1:=HP10.pt.cells 1 _ rfl;go_upto_block 2 with fail;clear c1;go_cut [] from 49 to 108 (fun wx=>∃(s':List Q06.Tok × Bool) (x':Pt),Ps w g g q s' x' wx∧x'.er=(YG a k o s3).1∧s'.2=(YG a k o s3).2∧yG (q+1) x'.msg.ok wx)
  case rest=>
   rename World=>wc;obtain⟨⟨sl,bd⟩,y,hps,her,hbd,hst⟩:=hcut;have HPs:=hD hps;have HSt:=hD hst;have HEr:=hD her;simp only at hbd;have HBd:=hD hbd;have hpf:=(rawF HF0).er (x:=y) (by rw[her,HRaw.out]) hst.out;have HOk:=hD hpf.1;have HFew:=hD hpf.2;have HIf:Hid (pt1 E s=if bd=false∧zA E y=true∧yU y=s then some y.er else none):=hD (pt1_er HQ (by rw[her,HRaw.out]) (by rw[hbd,HRaw.out]));clear hps hst her hbd hpf HF0 HF3 HRaw HEr HBd HP10;have hb0:Below wc.heap.size wc wc.drew:=(ae _ _).drew;have HPd:=hD (HPs.below hb0);have HSd:=hD (HSt.on (zl _ hb0));have HNum:=hD HOk.1;have hE2:=HE;clear hb0 HPs HSt HOk;go_upto_region 26 with fail;refine aD ?_;generalize hv:wc.drew=v0 at HPd HSd;have HSf:Hid (∀W,Ps w g g q (sl,bd) y W→W.rangeAt q 0 (ptC y)∧W.cell? ⟨g,1,none⟩=some (.bool bd)):=hD (fun W h=>⟨h.pt.range,by obtain⟨A9,c9,hv9, -⟩:=h.rd.blk;exact hv9.cells 1 _ rfl⟩);have hS0:=HSf.out v0 HPd.out;have HVal:Hid (∀W,Ps w g g q (sl,bd) y W→yG (q+1) y.msg.ok W→Calls prog 36 #[.agg (ptC y).toArray] W (zK (zA E y) W)):=hD (fun W h hst=>
    zc6 y W E (fun _ W2 hW2=>hE2.out y.text W2 (ah HFew.2.1 jf) (bon h.low hW2)) (HEnv.below h.low) ⟨HNum,hst.out⟩ HFew.1 HFew.2.1)
   have HLin:Hid (∀W,Ps w g g q (sl,bd) y W→yG (q+1) y.msg.ok W→Calls prog 48 #[.agg (ptC y).toArray] W (zm (yU y) W)):=hD (fun W h hst=>
    have hok:y.ok W:=⟨HNum,hst.out⟩;zgs y W (HEnv.below h.low) hok HFew.1 HFew.2.1 HFew.2.2.1 HFew.2.2.2 (line_len hok HFew.2.1 HFew.2.2.1 HFew.2.2.2))
   refine aC (S:=fun W=>W.rangeAt q 0 (ptC y)∧W.cell? ⟨g,1,none⟩=some (.bool bd)) jb (by rw[hv];exact hS0) (fun hHeld=> ?_);rw[hv]at hHeld⊢;clear hv;have HP0:=HPd;have HS0:=HSd;refine tkq 0 rfl (aM ji 40 _ ji q 0 ji (ptC y) _ (fun W h=>h.1) underlying40 rfl (zw y)) je ?_;try simp only[Act.put,qk]
   cases bd with
   |true=>
    refine takes [1,2,3,4,5,6,7,8,9,10,11,12,13,14,15] ?_;refine tkr 16 rfl (fun K hK=> ?_);rw[af ji];refine aQ 40 _ _ rfl w.heap.size 0 (ptC y).toArray rfl rfl (HP0.res.there rfl) (zw y) (yz y) ?_;try simp only[]
    have HPx:Hid (Vr (v0.setCells w.heap.size 0 (ptC y)) q (ptC y)):=hD (HP0.pt.grown (zb (b:=w.heap.size) (ptC y)) (by have:=HP0.o1;have:=HP0.o2;omega));have HRx:Hid (Vr (v0.setCells w.heap.size 0 (ptC y)) w.heap.size (ptC y)):=hD (HP0.res.sets (ptC y) rfl);have HBx:=hD (zf HP0.low (zb (b:=w.heap.size) (ptC y)) (ag _));have HSx:=hD (HS0.on (zh (zb (b:=w.heap.size) (ptC y)) (by have:=HP0.o1;have:=HP0.o2;omega)));have hSx:(v0.setCells w.heap.size 0 (ptC y)).rangeAt q 0 (ptC y)∧(v0.setCells w.heap.size 0 (ptC y)).cell? ⟨g,1,none⟩=some (.bool true):=⟨HPx.range,by
     obtain⟨A9,c9,hv9, -⟩:=HP0.rd.blk;exact(hv9.grown (zb (b:=w.heap.size) (ptC y)) (by have:=HP0.o1;omega)).cells 1 _ rfl⟩
    generalize v0.setCells w.heap.size 0 (ptC y)=vx at HPx HRx HBx HSx hSx⊢;refine hK.out _ _ hSx (fun hHeld=> ?_);clear hK K;try simp only[Act.put,qk]
    refine tkr 17 rfl (fun K hK=> ?_);go_simp;refine hK.out _ _ hSx (fun hHeld=> ?_);clear hK K;try simp only[Act.put,qk]
    refine aB jb ?_ _;refine aA ?_;clear hSx;try go_wp2_with fail
    refine aj (v:= .tuple #[.agg (ptC y).toArray,false]) ?_ rfl (ZU y (by rw[HIf.out,aa (fun h=>by cases h.1)]) HBx);exact fo93
   |false=>
    refine takes [1,2,3,4,5,6] ?_;refine tkq 7 rfl (aM ji 40 _ ji q 0 ji (ptC y) _ (fun W h=>h.1) underlying40 rfl (zw y)) je ?_;try simp only[Act.put,qk]
    obtain⟨gd,hgd⟩:∃b,b=zA E y:=⟨_,rfl⟩;rw[←hgd]at HVal;have HGd:=hD hgd;clear hgd;cases gd with
    |false=>
     refine tkr 8 rfl (fun K hK=> ?_);go_simp;go_at_call 36;refine(HVal _ HP0 HS0).mono ?_;rintro e v1 ⟨rfl,hb⟩;have HP1:=hD (HP0.below hb);have HS1:=hD (HS0.on (zl _ hb));clear hb;have hS1:=HSf.out v1 HP1.out;go_wp2_with fail;refine hK.out _ _ hS1 (fun hHeld=> ?_);clear hK K;try simp only[Act.put,qk]
     refine takes [9,10,11,12,13,14,15] ?_;refine tkr 16 rfl (fun K hK=> ?_);rw[af ji];refine aQ 40 _ _ rfl w.heap.size 0 (ptC y).toArray rfl rfl (HP1.res.there rfl) (zw y) (yz y) ?_;try simp only[]
     have HPx:Hid (Vr (v1.setCells w.heap.size 0 (ptC y)) q (ptC y)):=hD (HP1.pt.grown (zb (b:=w.heap.size) (ptC y)) (by have:=HP1.o1;have:=HP1.o2;omega));have HRx:Hid (Vr (v1.setCells w.heap.size 0 (ptC y)) w.heap.size (ptC y)):=hD (HP1.res.sets (ptC y) rfl);have HBx:=hD (zf HP1.low (zb (b:=w.heap.size) (ptC y)) (ag _));have HSx:=hD (HS1.on (zh (zb (b:=w.heap.size) (ptC y)) (by have:=HP1.o1;have:=HP1.o2;omega)));have hSx:(v1.setCells w.heap.size 0 (ptC y)).rangeAt q 0 (ptC y)∧(v1.setCells w.heap.size 0 (ptC y)).cell? ⟨g,1,none⟩=some (.bool false):=⟨HPx.range,by
      obtain⟨A9,c9,hv9, -⟩:=HP1.rd.blk;exact(hv9.grown (zb (b:=w.heap.size) (ptC y)) (by have:=HP1.o1;omega)).cells 1 _ rfl⟩
     generalize v1.setCells w.heap.size 0 (ptC y)=vx at HPx HRx HBx HSx hSx⊢;refine hK.out _ _ hSx (fun hHeld=> ?_);clear hK K;try simp only[Act.put,qk]
     refine tkr 17 rfl (fun K hK=> ?_);go_simp;refine hK.out _ _ hSx (fun hHeld=> ?_);clear hK K;try simp only[Act.put,qk]
     refine aB jb ?_ _;refine aA ?_;clear hSx;try go_wp2_with fail
     refine aj (v:= .tuple #[.agg (ptC y).toArray,false]) ?_ rfl (ZU y (by rw[HIf.out,aa (fun h=>by rw[←HGd.out]at h;cases h.2.1)]) HBx)
     exact fo93
    |true=>
     refine tkr 8 rfl (fun K hK=> ?_);go_simp;go_at_call 36;refine(HVal _ HP0 HS0).mono ?_;rintro e v1 ⟨rfl,hb⟩;have HP1:=hD (HP0.below hb);have HS1:=hD (HS0.on (zl _ hb));clear hb;have hS1:=HSf.out v1 HP1.out;go_wp2_with fail;refine hK.out _ _ hS1 (fun hHeld=> ?_);clear hK K;try simp only[Act.put,qk]
     refine takes [9,10] ?_;refine tkq 11 rfl (aM ji 40 _ ji q 0 ji (ptC y) _ (fun W h=>h.1) underlying40 rfl (zw y)) je ?_;try simp only[Act.put,qk]
     refine takes [13] ?_;refine tkr 12 rfl (fun K hK=> ?_);go_simp;go_at_call 48;refine(HLin _ HP1 HS1).mono ?_;rintro e v2 ⟨rfl,hb⟩;have HP2:=hD (HP1.below hb);have HS2:=hD (HS1.on (zl _ hb));clear hb;have hS2:=HSf.out v2 HP2.out;go_wp2_with fail;refine hK.out _ _ hS2 (fun hHeld=> ?_);clear hK K;try simp only[Act.put,qk]
     by_cases hl:yU y=s
     · have e1:=str_eq2 hl;have e2:(yU y == s)=true:=by simpa using hl
       have hl':yU y=s:=hl;have HL:=hD hl';clear hl hl';refine takes [14,15] ?_;refine tkr 16 rfl (fun K hK=> ?_);rw[af ji];refine aQ 40 _ _ rfl w.heap.size 0 (ptC y).toArray rfl rfl (HP2.res.there rfl) (zw y) (yz y) ?_;try simp only[]
       have HPx:Hid (Vr (v2.setCells w.heap.size 0 (ptC y)) q (ptC y)):=hD (HP2.pt.grown (zb (b:=w.heap.size) (ptC y)) jbo);have HRx:Hid (Vr (v2.setCells w.heap.size 0 (ptC y)) w.heap.size (ptC y)):=hD (HP2.res.sets (ptC y) rfl);have HBx:=hD (zf HP2.low (zb (b:=w.heap.size) (ptC y)) (ag _));have HSx:=hD (HS2.on (zh (zb (b:=w.heap.size) (ptC y)) jbo));have hSx:(v2.setCells w.heap.size 0 (ptC y)).rangeAt q 0 (ptC y)∧(v2.setCells w.heap.size 0 (ptC y)).cell? ⟨g,1,none⟩=some (.bool false):=⟨HPx.range,fo158⟩;generalize v2.setCells w.heap.size 0 (ptC y)=vx at HPx HRx HBx HSx hSx⊢;refine hK.out _ _ hSx (fun hHeld=> ?_);clear hK K;try simp only[Act.put,qk]
       refine tkr 17 rfl (fun K hK=> ?_);go_simp;refine hK.out _ _ hSx (fun hHeld=> ?_);clear hK K;try simp only[Act.put,qk]
       refine aB jb ?_ _;refine aA ?_;clear hSx;try go_wp2_with fail
       refine aj (v:= .tuple #[.agg (ptC y).toArray,true]) ?_ rfl (zfx (by rw[HIf.out,af ⟨by trivial,HGd.out.symm,HL.out⟩]) HBx ((HSx.low jbo).imp fun W h=>⟨HNum,h⟩) HFew);exact fo93
     · have e1:=str_ne2 hl;have e2:(yU y == s)=false:=by simpa using hl
       have HL:=hD hl;clear hl;refine takes [14,15] ?_;refine tkr 16 rfl (fun K hK=> ?_);rw[af ji];refine aQ 40 _ _ rfl w.heap.size 0 (ptC y).toArray rfl rfl (HP2.res.there rfl) (zw y) (yz y) ?_;try simp only[]
       have HPx:Hid (Vr (v2.setCells w.heap.size 0 (ptC y)) q (ptC y)):=hD (HP2.pt.grown (zb (b:=w.heap.size) (ptC y)) jbo);have HRx:Hid (Vr (v2.setCells w.heap.size 0 (ptC y)) w.heap.size (ptC y)):=hD (HP2.res.sets (ptC y) rfl);have HBx:=hD (zf HP2.low (zb (b:=w.heap.size) (ptC y)) (ag _));have HSx:=hD (HS2.on (zh (zb (b:=w.heap.size) (ptC y)) jbo));have hSx:(v2.setCells w.heap.size 0 (ptC y)).rangeAt q 0 (ptC y)∧(v2.setCells w.heap.size 0 (ptC y)).cell? ⟨g,1,none⟩=some (.bool false):=⟨HPx.range,fo158⟩;generalize v2.setCells w.heap.size 0 (ptC y)=vx at HPx HRx HBx HSx hSx⊢;refine hK.out _ _ hSx (fun hHeld=> ?_);clear hK K;try simp only[Act.put,qk]
       refine tkr 17 rfl (fun K hK=> ?_);go_simp;refine hK.out _ _ hSx (fun hHeld=> ?_);clear hK K;try simp only[Act.put,qk]
       refine aB jb ?_ _;refine aA ?_;clear hSx;try go_wp2_with fail
       refine aj (v:= .tuple #[.agg (ptC y).toArray,false]) ?_ rfl (ZU y (by rw[HIf.out,aa (fun h=>HL.out h.2.2)]) HBx);exact fo93
  case first=>
   by_cases h1:k=1
   case pos=>
    have q1:(k == 1)=true:=by simp[h1]
    have HKn:=hD h1;clear h1;go_wp2_with fail;refine(zbi HP10).mono ?_;rintro e w11 ⟨rfl,hp⟩;obtain⟨n,hn⟩:∃x,x=(nxt 2 s3).1.int:=⟨_,rfl⟩;obtain⟨s4,hs4⟩:∃x,x=(nxt 2 s3).2:=⟨_,rfl⟩;rw[←hn];rw[←hs4]at hp;have HP11:=hD hp;have HL11:=hD (And.intro hn hs4);clear hp hn hs4 HP10;go_wp2_with fail;refine(zdM HP11).mono ?_;rintro e w12 ⟨rfl,hp⟩;obtain⟨t,ht⟩:∃x,x=(nxt 3 s4).1.str:=⟨_,rfl⟩;obtain⟨s5,hs5⟩:∃x,x=(nxt 3 s4).2:=⟨_,rfl⟩;rw[←ht];rw[←hs5]at hp;have HP12:=hD hp;have HL12:=hD (And.intro ht hs5);clear hp ht hs5 HP11;have c4:=HP12.pt.cells 4 _ rfl;have f4:=HP12.pt.free 4 (az rfl);have c5:=HP12.pt.cells 5 _ rfl;have f5:=HP12.pt.free 5 (az rfl);have lq:=HP12.pt.lt;have HPe:=hD (Ps.setx (y:=⟨a,k,o,0,n,t,[],ms0⟩) (Ps.setx (y:=⟨a,k,o,0,n,[],[],ms0⟩) (HP12) 4 (.int .i64 n) rfl) 5 (.string ⟨t.toArray⟩) rfl);have HKp:Hid (YG a k o s3=(⟨a,k,o,0,n,t,[],ms0⟩,s5.2)):=hD (fo275);have HKd:Hid (Pt.er ⟨a,k,o,0,n,t,[],ms0⟩=(YG a k o s3).1):=hD (by rw[HKp.out];rfl);have HKs:Hid (s5.2=(YG a k o s3).2):=hD (by rw[HKp.out]);exact fo79
   have q1:(k == 1)=false:=by simpa using h1
   by_cases h2:k=2
   case pos=>
    have q2:(k == 2)=true:=by simp[h2]
    have HKn:=hD h2;clear h2;go_wp2_with fail;refine(zbi HP10).mono ?_;rintro e w11 ⟨rfl,hp⟩;obtain⟨n,hn⟩:∃x,x=(nxt 2 s3).1.int:=⟨_,rfl⟩;obtain⟨s4,hs4⟩:∃x,x=(nxt 2 s3).2:=⟨_,rfl⟩;rw[←hn];rw[←hs4]at hp;have HP11:=hD hp;have HL11:=hD (And.intro hn hs4);clear hp hn hs4 HP10;go_wp2_with fail;refine(zbi HP11).mono ?_;rintro e w12 ⟨rfl,hp⟩;obtain⟨l,hl⟩:∃x,x=(nxt 2 s4).1.int:=⟨_,rfl⟩;obtain⟨s5,hs5⟩:∃x,x=(nxt 2 s4).2:=⟨_,rfl⟩;rw[←hl];rw[←hs5]at hp;have HP12:=hD hp;have HL12:=hD (And.intro hl hs5);clear hp hl hs5 HP11;go_wp2_with fail;refine(zdM HP12).mono ?_;rintro e w13 ⟨rfl,hp⟩;obtain⟨t,ht⟩:∃x,x=(nxt 3 s5).1.str:=⟨_,rfl⟩;obtain⟨s6,hs6⟩:∃x,x=(nxt 3 s5).2:=⟨_,rfl⟩;rw[←ht];rw[←hs6]at hp;have HP13:=hD hp;have HL13:=hD (And.intro ht hs6);clear hp ht hs6 HP12;have c4:=HP13.pt.cells 4 _ rfl;have f4:=HP13.pt.free 4 (az rfl);have c3:=HP13.pt.cells 3 _ rfl;have f3:=HP13.pt.free 3 (az rfl);have c6:=HP13.pt.cells 6 _ rfl;have f6:=HP13.pt.free 6 (az rfl);have lq:=HP13.pt.lt;have HPe:=hD (Ps.setx (y:=⟨a,k,o,l,n,[],t,ms0⟩) (Ps.setx (y:=⟨a,k,o,l,n,[],[],ms0⟩) (Ps.setx (y:=⟨a,k,o,0,n,[],[],ms0⟩) (HP13) 4 (.int .i64 n) rfl) 3 (.int .i64 l) rfl) 6 (.string ⟨t.toArray⟩) rfl);have HKp:Hid (YG a k o s3=(⟨a,k,o,l,n,[],t,ms0⟩,s6.2)):=hD (fo167);have HKd:Hid (Pt.er ⟨a,k,o,l,n,[],t,ms0⟩=(YG a k o s3).1):=hD (by rw[HKp.out];rfl);exact fo285
   have q2:(k == 2)=false:=by simpa using h2
   by_cases h3:k=3
   case pos=>
    have q3:(k == 3)=true:=by simp[h3]
    have HKn:=hD h3;clear h3;exact fo31
   have q3:(k == 3)=false:=by simpa using h3
   by_cases h4:k=4
   case pos=>
    have q4:(k == 4)=true:=by simp[h4]
    have HKn:=hD h4;clear h4;exact fo31
   have q4:(k == 4)=false:=by simpa using h4
   by_cases h5:k=5
   case pos=>
    have q5:(k == 5)=true:=by simp[h5]
    have HKn:=hD h5;clear h5;go_wp2_with fail;refine(zbi HP10).mono ?_;rintro e w11 ⟨rfl,hp⟩;obtain⟨n,hn⟩:∃x,x=(nxt 2 s3).1.int:=⟨_,rfl⟩;obtain⟨s4,hs4⟩:∃x,x=(nxt 2 s3).2:=⟨_,rfl⟩;rw[←hn];rw[←hs4]at hp;have HP11:=hD hp;have HL11:=hD (And.intro hn hs4);clear hp hn hs4 HP10;go_wp2_with fail;refine(zdM HP11).mono ?_;rintro e w12 ⟨rfl,hp⟩;obtain⟨t,ht⟩:∃x,x=(nxt 3 s4).1.str:=⟨_,rfl⟩;obtain⟨s5,hs5⟩:∃x,x=(nxt 3 s4).2:=⟨_,rfl⟩;rw[←ht];rw[←hs5]at hp;have HP12:=hD hp;have HL12:=hD (And.intro ht hs5);clear hp ht hs5 HP11;go_wp2_with fail;refine(zdM HP12).mono ?_;rintro e w13 ⟨rfl,hp⟩;obtain⟨z,hz⟩:∃x,x=(nxt 3 s5).1.str:=⟨_,rfl⟩;obtain⟨s6,hs6⟩:∃x,x=(nxt 3 s5).2:=⟨_,rfl⟩;rw[←hz];rw[←hs6]at hp;have HP13:=hD hp;have HL13:=hD (And.intro hz hs6);clear hp hz hs6 HP12;have c4:=HP13.pt.cells 4 _ rfl;have f4:=HP13.pt.free 4 (az rfl);have c5:=HP13.pt.cells 5 _ rfl;have f5:=HP13.pt.free 5 (az rfl);have c6:=HP13.pt.cells 6 _ rfl;have f6:=HP13.pt.free 6 (az rfl);have lq:=HP13.pt.lt;have HPe:=hD (Ps.setx (y:=⟨a,k,o,0,n,t,z,ms0⟩) (Ps.setx (y:=⟨a,k,o,0,n,t,[],ms0⟩) (Ps.setx (y:=⟨a,k,o,0,n,[],[],ms0⟩) (HP13) 4 (.int .i64 n) rfl) 5 (.string ⟨t.toArray⟩) rfl) 6 (.string ⟨z.toArray⟩) rfl);have HKp:Hid (YG a k o s3=(⟨a,k,o,0,n,t,z,ms0⟩,s6.2)):=hD (fo167);have HKd:Hid (Pt.er ⟨a,k,o,0,n,t,z,ms0⟩=(YG a k o s3).1):=hD (by rw[HKp.out];rfl);exact fo285
   have q5:(k == 5)=false:=by simpa using h5
   by_cases h6:k=6
   case pos=>
    have q6:(k == 6)=true:=by simp[h6]
    have HKn:=hD h6;clear h6;go_wp2_with fail;refine(zdM HP10).mono ?_;rintro e w11 ⟨rfl,hp⟩;obtain⟨t,ht⟩:∃x,x=(nxt 3 s3).1.str:=⟨_,rfl⟩;obtain⟨s4,hs4⟩:∃x,x=(nxt 3 s3).2:=⟨_,rfl⟩;rw[←ht];rw[←hs4]at hp;have HP11:=hD hp;have HL11:=hD (And.intro ht hs4);clear hp ht hs4 HP10;have HTl:Hid (t.length≤268435456):=hD (by
     have h:=(nxtF (k:=3) HF3).1.len;rw[←HL11.out.1]at h;omega)
    have HDec:=hD (decode_any t w11 HTl);have HQ1:Hid (q<w11.heap.size):=hD HP11.pt.lt;obtain⟨A9,c9,hv9, -, -, -⟩:=HP11.rd.blk;cases hd:ZI t with
    |none=>
     have HD:=hD (decM_none HDec hd);obtain⟨m,hm⟩:∃m,m=ms0:=⟨_,rfl⟩;rw[←hm]at HD;have HM:=hD hm;clear HDec hm;go_wp2_with fail;refine HD.mono ?_;rintro e w12 ⟨rfl,hb⟩;have hst:yG w11.heap.size m.ok w12:=fun W _=>HM.out▸zbK W
     have HSt:=hD hst;have HP12:=hD (HP11.below hb);have HQ2:Hid (q<w12.heap.size):=hD HP12.pt.lt;have HKp:Hid (YG a k o s3=(⟨a,k,o,0,0,[],[],ms0⟩,true)):=hD (by
      have e:=HKn.out;have e0:=HL11.out;rw[e];show((⟨a,6,o,0,0,[],[],(ZI (nxt 3 s3).1.str).getD ms0⟩:Pt),(nxt 3 s3).2.2 ||(ZI (nxt 3 s3).1.str).isNone)=_;rw[←e0.1,←e0.2,hd];simp)
     clear hst hb hd HD HP11;have HV0:=hD (Vr.new w12 (msC ms0) 38);have HV:=hD (HV0.sets (msC m) rfl);have HBn:=hD (zf (za w12 (.cells (msC ms0).toArray 38)) (zb (b:=w12.heap.size) (msC m)) (ag _));have HP13:=hD (HP12.below HBn);have HS13:=hD (HSt.on (zl _ HBn));go_upto_region 25 with(refine ai rfl 38 _ _ rfl w12.heap.size 0 (msC m).toArray rfl rfl ?_ (zD m) (yu m) ?_;· exact HV0.there rfl)
     try simp only[ay]
     change Code.wp _ _ _ _ ((w12.alloc (.cells (msC ms0).toArray 38)).setCells w12.heap.size 0 (msC m));clear HBn;generalize (w12.alloc (.cells (msC ms0).toArray 38)).setCells w12.heap.size 0 (msC m)=w13 at HV HP13 HS13⊢;generalize w12.heap.size=b12 at HV HQ2⊢;clear HV0 HSt HP12;obtain⟨sl,bd⟩:=s4;refine aD ?_;have hb0:Below w13.heap.size w13 w13.drew:=(ae _ _).drew;have HVd:=hD (HV.below hb0);have HPd:=hD (HP13.below hb0);have HSd:=hD (HS13.on (zl _ hb0));clear hb0 HV HP13 HS13;generalize hv:w13.drew=v0 at HVd HPd HSd;refine aC (S:=fun W=>W.rangeAt b12 0 (msC m)) jb (by rw[hv];exact HVd.range) (fun hHeld=> ?_);rw[hv]at hHeld⊢;clear hv;obtain⟨A9,c9,hv9, -⟩:=HPd.rd.blk;have c1:=hv9.cells 1 _ rfl;have lg:=hv9.lt;simp only at c1;clear hv9;have HTh:Hid (v0.there q 7 (msC m).toArray.size):=hD (HPd.pt.thereAt 7 jbj);have HPm:Hid (Ps w g g q (sl,bd) ⟨a,k,o,0,0,[],[],m⟩ (v0.setCells q 7 (msC m))):=hD (HPd.setMsg m);have HVm:=hD (HVd.grown (zq (b:=q) (o:=7) (msC m)) (by have:=HQ2.out;omega));have HSm:=hD (HSd.on (zh (zq (b:=q) (o:=7) (msC m)) HQ1));cases bd with
     |true=>exact fo21
     |false=>exact fo21
    |some m0=>
     have HD:=hD (zgB HDec hd);clear HDec;go_wp2_with fail;refine HD.mono ?_;rintro e w12 ⟨m,hm,rfl,hst,hb⟩;have HSt:=hD hst;have HP12:=hD (HP11.below hb);have HQ2:Hid (q<w12.heap.size):=hD HP12.pt.lt;have HKp:Hid (YG a k o s3=(⟨a,k,o,0,0,[],[],m.er⟩,s4.2)):=hD (by
      have e:=HKn.out;have e0:=HL11.out;rw[e];show((⟨a,6,o,0,0,[],[],(ZI (nxt 3 s3).1.str).getD ms0⟩:Pt),(nxt 3 s3).2.2 ||(ZI (nxt 3 s3).1.str).isNone)=_;rw[←e0.1,←e0.2,hd,hm];simp)
     clear hst hb hm hd HD HP11;have HV0:=hD (Vr.new w12 (msC ms0) 38);have HV:=hD (HV0.sets (msC m) rfl);have HBn:=hD (zf (za w12 (.cells (msC ms0).toArray 38)) (zb (b:=w12.heap.size) (msC m)) (ag _));have HP13:=hD (HP12.below HBn);have HS13:=hD (HSt.on (zl _ HBn));go_upto_region 25 with(refine ai rfl 38 _ _ rfl w12.heap.size 0 (msC m).toArray rfl rfl ?_ (zD m) (yu m) ?_;· exact HV0.there rfl)
     try simp only[ay]
     change Code.wp _ _ _ _ ((w12.alloc (.cells (msC ms0).toArray 38)).setCells w12.heap.size 0 (msC m));clear HBn;generalize (w12.alloc (.cells (msC ms0).toArray 38)).setCells w12.heap.size 0 (msC m)=w13 at HV HP13 HS13⊢;generalize w12.heap.size=b12 at HV HQ2⊢;clear HV0 HSt HP12;obtain⟨sl,bd⟩:=s4;refine aD ?_;have hb0:Below w13.heap.size w13 w13.drew:=(ae _ _).drew;have HVd:=hD (HV.below hb0);have HPd:=hD (HP13.below hb0);have HSd:=hD (HS13.on (zl _ hb0));clear hb0 HV HP13 HS13;generalize hv:w13.drew=v0 at HVd HPd HSd;refine aC (S:=fun W=>W.rangeAt b12 0 (msC m)) jb (by rw[hv];exact HVd.range) (fun hHeld=> ?_);rw[hv]at hHeld⊢;clear hv;obtain⟨A9,c9,hv9, -⟩:=HPd.rd.blk;have c1:=hv9.cells 1 _ rfl;have lg:=hv9.lt;simp only at c1;clear hv9;have HTh:Hid (v0.there q 7 (msC m).toArray.size):=hD (HPd.pt.thereAt 7 jbj);have HPm:Hid (Ps w g g q (sl,bd) ⟨a,k,o,0,0,[],[],m⟩ (v0.setCells q 7 (msC m))):=hD (HPd.setMsg m);have HVm:=hD (HVd.grown (zq (b:=q) (o:=7) (msC m)) (by have:=HQ2.out;omega));have HSm:=hD (HSd.on (zh (zq (b:=q) (o:=7) (msC m)) HQ1));cases bd with
     |true=>
      refine takes [0] ?_;refine tkq 1 rfl (aM ji 38 _ ji _ 0 ji (msC m) _ (fun W h=>h) underlying38 rfl (zD m)) je ?_;try simp only[Act.put,qk]
      refine takes [2,3,4,10] ?_;refine tkr 5 rfl (fun K hK=> ?_);go_simp;refine hK.out _ _ hHeld (fun hHeld=> ?_);clear hK K;try simp only[Act.put,qk]
      refine takes [6,7,8,9] ?_;refine tkr 11 rfl (fun K hK=> ?_);rw[af ji];refine aQ 38 _ _ rfl q 7 (msC m).toArray rfl rfl HTh (zD m) (yu m) ?_;try simp only[]
      generalize v0.setCells q 7 (msC m)=v1 at HPm HVm HSm⊢;refine hK.out _ _ HVm.range (fun hHeld=> ?_);clear hK K c1 lg;try simp only[Act.put,qk]
      obtain⟨A8,c8,hv8, -⟩:=HPm.rd.blk;have c1:=hv8.cells 1 _ rfl;have f1:=hv8.free 1 jc;have lg:=hv8.lt;simp only at c1;clear hv8;refine takes [12,13] ?_;refine tkr 14 rfl (fun K hK=> ?_);go_simp;have HPe:=hD (HPm.bad true);have HVe:=hD (HVm.grown (ze v1 ⟨g,1,none⟩ (.bool true)) jck);have HSe:=hD ((HSm.on (zh (ze v1 ⟨g,1,none⟩ (.bool true)) jbw)).low (b':=q+1) HQ1);generalize v1.setCell ⟨g,1,none⟩ (.bool true)=v2 at HPe HVe HSe⊢;exact fo88
     |false=>
      refine takes [0] ?_;refine tkq 1 rfl (aM ji 38 _ ji _ 0 ji (msC m) _ (fun W h=>h) underlying38 rfl (zD m)) je ?_;try simp only[Act.put,qk]
      refine takes [2,3,4,10] ?_;refine tkr 5 rfl (fun K hK=> ?_);go_simp;refine hK.out _ _ hHeld (fun hHeld=> ?_);clear hK K;try simp only[Act.put,qk]
      refine takes [6,7,8,9] ?_;refine tkr 11 rfl (fun K hK=> ?_);rw[af ji];refine aQ 38 _ _ rfl q 7 (msC m).toArray rfl rfl HTh (zD m) (yu m) ?_;try simp only[]
      generalize v0.setCells q 7 (msC m)=v1 at HPm HVm HSm⊢;refine hK.out _ _ HVm.range (fun hHeld=> ?_);clear hK K c1 lg;try simp only[Act.put,qk]
      obtain⟨A8,c8,hv8, -⟩:=HPm.rd.blk;have c1:=hv8.cells 1 _ rfl;have f1:=hv8.free 1 jc;have lg:=hv8.lt;simp only at c1;clear hv8;refine takes [12,13] ?_;refine tkr 14 rfl (fun K hK=> ?_);go_simp;have HPe:=hD (HPm.bad false);have HVe:=hD (HVm.grown (ze v1 ⟨g,1,none⟩ (.bool false)) jck);have HSe:=hD ((HSm.on (zh (ze v1 ⟨g,1,none⟩ (.bool false)) jbw)).low (b':=q+1) HQ1);generalize v1.setCell ⟨g,1,none⟩ (.bool false)=v2 at HPe HVe HSe⊢;exact fo88
   have q6:(k == 6)=false:=by simpa using h6
   have HKp:Hid (YG a k o s3=(⟨a,k,o,0,0,[],[],ms0⟩,s3.2)):=hD (by
    unfold YG;rw[aa h1,aa h2,aa ja,aa h5,aa h6])
   clear h1 h2 h3 h4 h5 h6;go_wp2_with fail;go_meet
   case rel=>exact⟨_,_,HP10,by rw[HKp.out];rfl,by rw[HKp.out],fun W _=>zbK W⟩
