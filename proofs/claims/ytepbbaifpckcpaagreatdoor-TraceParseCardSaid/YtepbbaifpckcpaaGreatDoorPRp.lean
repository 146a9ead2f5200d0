/- What the reference reads of a line is small enough to be looked at, in plain words. -/
import Derived.Test.YtepbbaifpckcpaaGreatDoorPRl
import Derived.Test.YtepbbaifpckcpaaGreatDoorPRgQ
import Derived.Test.YtepbbaifpckcpaaGreatDoorPTrPb
open Go.Proofs.Tryz
namespace Go.Proofs.YtepbbaifpckcpaaGreatDoor
open Go.RowKit
open Q06 (Tok tok0)
theorem numRF{ts:List Tok}(h:∀t∈ts,TokF t)(i:Nat):I64 (numR ts i):=by
 unfold numR;split
 · next t ht=>
   split
   · exact(h t (eG ht)).i64
   · exact fo198
 · exact fo198
theorem txtRF{ts:List Tok}(h:∀t∈ts,TokF t)(i:Nat):(txtR ts i).length≤65536:=by
 unfold txtR;split
 · next t ht=>
   split
   · exact(h t (eG ht)).len
   · exact bf _
 · exact bf _
theorem zbG(ts:List Tok):0≤YF ts∧YF ts≤8:=by
 unfold YF;split
 · next t ht=>
   split
   · exact fo205
   · omega
 · omega
theorem refF{ts:List Tok}(h:∀t∈ts,TokF t){y:Pt}(hy:pRef ts=some y):PtF y:=by
 have z:=i64z;have n:=numRF h;have t:=txtRF h;have k:I64 (YF ts):=by have:=zbG ts;exact⟨by omega,by omega⟩
 unfold pRef at hy;split at hy
 · cases hy
 · split at hy
   · injection hy with hy;subst hy;exact⟨⟨n 0,k,n 2,z,n 3⟩,zaz,t 4,bf _⟩
   · split at hy
     · injection hy with hy;subst hy;exact⟨⟨n 0,k,n 2,n 4,n 3⟩,zaz,bf _,t 5⟩
     · split at hy
       · injection hy with hy;subst hy;exact⟨⟨n 0,k,n 2,n 3,z⟩,zaz,t 4,bf _⟩
       · split at hy
         · injection hy with hy;subst hy;exact⟨⟨n 0,k,n 2,z,n 3⟩,zaz,t 4,t 5⟩
         · split at hy
           · cases hd:ZI (txtR ts 3) with
             |none=>rw[hd]at hy;cases hy
             |some m=>
              rw[hd]at hy;injection hy with hy;subst hy;exact⟨⟨n 0,k,n 2,z,z⟩,ah (decMs_len hd) (t 3),bf _,bf _⟩
           · injection hy with hy;subst hy;exact⟨⟨n 0,k,n 2,z,z⟩,zaz,bf _,bf _⟩
variable{k n:Int}{s:List UInt8}{E:List UInt8→Bool}{t:Tok}
theorem pt2_er{x:Pt}{ts:List Tok}(ht:Q06.toksR s=(ts,n,0))(hr:pRef ts=some x.er) :
    pt2 E s=if zA E x=true∧yU x=s then some x.er else none:=by
 unfold pt2;rw[ht];simp only;rw[af trivial,hr];simp only[er_good,er_line]
theorem pt2_none{ts:List Tok}{e:Int}(ht:Q06.toksR s=(ts,n,e))(h:e≠0∨pRef ts=none):pt2 E s=none:=by
 unfold pt2;rw[ht];simp only;rcases h with h|h
 · rw[aa h]
 · split
   · rw[h]
   · rfl
def zax(ts:List Tok)(k:Int):Int:=if YF ts<k then YF ts else 0
theorem kindTo_one(ts:List Tok):zax ts 1=0:=by
 unfold zax;have:=zbG ts;split <;> omega
theorem kindTo_end(ts:List Tok):zax ts 9=YF ts:=by
 unfold zax;have:=zbG ts;split <;> omega
theorem kindTo_hit{ts:List Tok}(h:YF ts=k):zax ts (k+1)=k:=by
 unfold zax;split <;> omega
theorem zfA{ts:List Tok}(h:YF ts≠k):zax ts (k+1)=zax ts k:=by
 unfold zax;have:=zbG ts;repeat' split
 all_goals omega
theorem kindR_tok{ts:List Tok}(h:ts[1]? =some t):YF ts=if t.kind=1 then kindOf t.text else 0:=by unfold YF;rw[h]
theorem kindR_eq{ts:List Tok}(h:ts[1]? =some t)(h1:t.kind=1)(hk1:1≤k)(hk8:k≤8):YF ts=k↔yf k=t.text:=by
 rw[kindR_tok h,af h1];constructor
 · intro e;have h0:kindOf t.text≠0:=by omega
   unfold kindOf at e h0;repeat' split at e
   all_goals first
    |(subst e;symm;assumption)
    |(exfalso;omega)
 · intro e;rw[←e];exact YJ k hk1 hk8
set_option maxRecDepth 100000
set_option maxHeartbeats 8000000
theorem tok_at{w:World}{A:Option Addr}{ts:List Q06.Tok}(h:Q06.Rd w 5 A ts.length (Q06.toksC ts)){i:Nat}(hi:i<ts.length) :
    ∃b o,A=some ⟨b,o,none⟩∧∀w',Below w.heap.size w w'→w'.rangeAt b (o+i * 5) (Q06.tokC ts[i]):=by
 have h':Rd w 5 A ts.length (ts.flatMap Q06.tokC):=⟨h.len,h.cells⟩;obtain⟨b,o,e,_,hc⟩:=h'.at zcV ja hi;exact⟨b,o,e,fun w' hw j v hv=>hc w' hw j v hv⟩
theorem YI(A:Option Addr)(c:Nat)(ts:List Q06.Tok)(i:Nat)(w:World)(h:Q06.Rd w 5 A ts.length (Q06.toksC ts)) :
    Calls prog 89 #[.slice A ts.length c,i] w fun e w'=>e= .returned (.int .i64 (numR ts i))∧w'=w:=by
 by_cases hi:i<ts.length
 · obtain⟨b,o,rfl,hcc⟩:=tok_at h hi;obtain⟨t,ht⟩:∃t,t=ts[i]:=⟨_,rfl⟩;have hr:=hcc w (ae _ _);rw[←ht]at hr;have d0:w.cell? ⟨b,o+i * 5,none⟩=some (.int .i64 t.kind):=hr 0 _ rfl;have d2:w.cell? ⟨b,o+i * 5+2,none⟩=some (.int .i64 t.int):=hr 2 _ rfl;have hN:numR ts i=if t.kind=2 then t.int else -1:=by unfold numR;rw[aP hi,←ht]
   have g1:¬((ts.length:Int)≤(i:Int)):=by omega
   have g2:(0:Int)≤(i:Int):=by omega
   have g3:(i:Int) <(ts.length:Int):=by omega
   clear hr hcc ht h;by_cases hk:t.kind=2
   · have q1:(t.kind == 2)=true:=by simpa using hk
     have q2:(t.kind != 2)=false:=by simp[hk]
     have HN:Hid (numR ts i=t.int):=hD (by rw[hN,af hk]);clear hN hk;exact fo84
   · have q1:(t.kind == 2)=false:=by simpa using hk
     have q2:(t.kind != 2)=true:=by simp[hk]
     have HN:Hid (numR ts i=-1):=hD (by rw[hN,aa hk]);clear hN hk;exact fo84
 · have g1:(ts.length:Int)≤(i:Int):=by omega
   have HN:Hid (numR ts i=-1):=hD (by unfold numR;rw[fO ja]);clear h hi;exact fo84
theorem zaj(A:Option Addr)(c:Nat)(ts:List Q06.Tok)(i:Nat)(w:World)(h:Q06.Rd w 5 A ts.length (Q06.toksC ts)) :
    Calls prog 90 #[.slice A ts.length c,i] w fun e w'=>e= .returned (.string ⟨(txtR ts i).toArray⟩)∧w'=w:=by
 by_cases hi:i<ts.length
 · obtain⟨b,o,rfl,hcc⟩:=tok_at h hi;obtain⟨t,ht⟩:∃t,t=ts[i]:=⟨_,rfl⟩;have hr:=hcc w (ae _ _);rw[←ht]at hr;have d0:w.cell? ⟨b,o+i * 5,none⟩=some (.int .i64 t.kind):=hr 0 _ rfl;have d3:w.cell? ⟨b,o+i * 5+3,none⟩=some (.string ⟨t.str.toArray⟩):=hr 3 _ rfl;have hN:txtR ts i=if t.kind=3 then t.str else []:=by unfold txtR;rw[aP hi,←ht]
   have g1:¬((ts.length:Int)≤(i:Int)):=by omega
   have g2:(0:Int)≤(i:Int):=by omega
   have g3:(i:Int) <(ts.length:Int):=by omega
   clear hr hcc ht h;by_cases hk:t.kind=3
   · have q1:(t.kind == 3)=true:=by simpa using hk
     have q2:(t.kind != 3)=false:=by simp[hk]
     have HN:Hid (txtR ts i=t.str):=hD (by rw[hN,af hk]);clear hN hk;exact fo84
   · have q1:(t.kind == 3)=false:=by simpa using hk
     have q2:(t.kind != 3)=true:=by simp[hk]
     have HN:Hid (txtR ts i=[]):=hD (by rw[hN,aa hk]);clear hN hk;exact fo84
 · have g1:(ts.length:Int)≤(i:Int):=by omega
   have HN:Hid (txtR ts i=[]):=hD (by unfold txtR;rw[fO ja]);clear h hi;exact fo84
def RetLn(l:List (List UInt8))(w:World)(e:Ending)(w':World):Prop:=∃A c,e= .returned (.slice A l.length c)∧Rd w' 1 A l.length (strC l)∧Below w.heap.size w w'
theorem ret_ln{l m:List (List UInt8)}{w w':World}{A:Option Addr}{n c:Nat}(h:l=m)(hn:n=m.length)(hr:Rd w' 1 A m.length (strC m))(hb:Below w.heap.size w w'):RetLn l w (.returned (.slice A n c)) w':=by
 subst h hn;exact⟨A,c,rfl,hr,hb⟩
theorem infoS9:(prog.info? 9).map (fun i=>(i.zero,i.size,i.bytes))=some (some (.string ⟨#[]⟩),1,16):=by kernel_rfl
theorem cut_hit(l:List UInt8)(cur:List UInt8)(h:0<l.length)(hc:l[0]=10):ZZ cur l=(cur++ [10])::ZZ [] (l.drop 1):=by
 cases l with
 |nil=>simp at h
 |cons a r=>simp only[gY]at hc;subst hc;rw[ZZ,af rfl];rfl
theorem cut_miss(l:List UInt8)(cur:List UInt8)(h:0<l.length)(hc:l[0]≠10):ZZ cur l=ZZ (cur++ [l[0]]) (l.drop 1):=by
 cases l with
 |nil=>simp at h
 |cons a r=>simp only[gY]at hc;rw[ZZ,aa hc];rfl
theorem take_grow(l:List UInt8)(m k:Nat)(hm:m≤k)(hk:k<l.length):(l.drop m).take (k+1- m)=(l.drop m).take (k- m)++ [l[k]]:=by
 rw[show k+1- m=(k- m)+1 from by omega,bq jbk,eF];congr 2;congr 1;omega
theorem zfO(s:ByteArray)(w:World)(hs:s.size≤1000000) :
    Calls prog 54 #[s] w (RetLn (ZZ [] s.data.toList) w):=by
 obtain⟨i0,hi,hz0,hz1,hz2⟩:=info_parts infoS9;have HI:=hD hi;have HZ0:=hD hz0;have HZ1:=hD hz1;have HZ2:=hD hz2;clear hi hz0 hz1 hz2;have HLn:Hid (s.data.toList.length=s.size):=hD Array.length_toList;go_in;go_wp2_with fail;go_loopw [3,4,5] (fun o bg i wr=>∃(k m:Nat) (acc:List (List UInt8)),i= .int .i64 k∧bg= .int .i64 m∧m≤k∧k≤s.size∧acc.length≤m∧wr.ownsRow w.heap.size 9 1 o acc.length (strC acc)∧Below w.heap.size w wr∧w.heap.size≤wr.heap.size∧ZZ [] s.data.toList=acc++ZZ ((s.data.toList.drop m).take (k- m)) (s.data.toList.drop k)) (fun _ _ i _=>s.size-(intOf i).toNat)
 case atStart=>exact⟨0,0,[],rfl,rfl,by omega,by omega,by simp,aR _ _ _ _,ae _ _,ag _,rfl⟩
 case round=>
  obtain⟨k,m,acc,rfl,rfl,hmk,hk,hacc,hown,hb,hge,hsp⟩:=hrel;have HO:=hD hown;have HB:=hD hb;have HS:=hD hsp;clear hown hb hsp;by_cases hlt:k<s.size
  · have HAt:Hid (∃h:k<s.data.toList.length,s.data.toList[k]'h=s[k]'hlt):=hD ⟨by rw[HLn.out];exact hlt,Array.getElem_toList ..⟩;by_cases hc:(s[k].toNat:Int)=10
    · have x1:((s[k].toNat:Int) == 10)=true:=by simp[hc]
      have HS2:Hid (ZZ [] s.data.toList=(acc++ [(s.data.toList.drop m).take (k+1- m)])++ZZ ((s.data.toList.drop (k+1)).take (k+1-(k+1))) (s.data.toList.drop (k+1))):=hD (by
       obtain⟨h1,h2⟩:=HAt.out;have e10:s.data.toList[k]=10:=by rw[h2];exact gz.1 (by show _=10;omega)
       rw[HS.out,cut_hit (s.data.toList.drop k) _ jbk (by rw[eF];simpa using e10),take_grow _ m k hmk h1,e10];simp)
      have HE:=hD (zeN s m (k+1));clear hc;go_wp2_with (at_builtin;refine bu _ rfl _ _ 32 rfl w.heap.size 9 i0 _ 1 16 underlying32 HI HZ0 HZ1 HZ2 rfl jf _ _ _ rfl (HO.alloc _) ⟨wr.heap.size,0,none⟩ 1 1 [.string (s.extract m (k+1))] rfl rfl (zN _ _ _ _ rfl) jr jq ja jg ?_);intro v' w2 hown' hgrow _;have HO2:=hD hown';have HG2:=hD hgrow;clear hown' hgrow;go_wp2_with fail;go_roundw
      case rel=>
       refine⟨k+1,k+1,acc++ [(s.data.toList.drop m).take (k+1- m)],by go_num,by go_num,by omega,by omega,by simp;omega,?_,?_,?_,HS2⟩
       · exact fo191
       · exact fo149
       · exact fo59
      case measure=>simp[intOf];omega
    · have x1:((s[k].toNat:Int) == 10)=false:=by simp[hc]
      have HS2:Hid (ZZ [] s.data.toList=acc++ZZ ((s.data.toList.drop m).take (k+1- m)) (s.data.toList.drop (k+1))):=hD (by
       obtain⟨h1,h2⟩:=HAt.out;have e10:s.data.toList[k]≠10:=by rw[h2];exact fun e=>hc (by rw[e];rfl)
       rw[HS.out,cut_miss (s.data.toList.drop k) _ jbk (by rw[eF];simpa using e10),take_grow _ m k hmk h1];simp)
      clear hc;go_wp2_with fail;go_roundw
      case rel=>exact⟨k+1,m,acc,by go_num,rfl,by omega,by omega,hacc,HO,HB,hge,HS2⟩
      case measure=>simp[intOf];omega
  · obtain rfl:k=s.size:=by omega
    have HP:Hid (ZZ [] s.data.toList=acc++ZZ (s.data.toList.drop m) []):=hD (by
     have h:=HS.out;rw[←HLn.out,df,bi (by rw[aK];exact ag _)]at h;exact h)
    by_cases hm:m<s.size
    · have HL:Hid (ZZ [] s.data.toList=acc++ [s.data.toList.drop m]):=hD (by
        rw[HP.out,ZZ,aa (fun e=>by have:=aL List.length e;rw[aK,HLn.out]at this;simp at this;omega)])
      have HE:=hD (zeN s m s.size);go_wp2_with (at_builtin;refine bu _ rfl _ _ 32 rfl w.heap.size 9 i0 _ 1 16 underlying32 HI HZ0 HZ1 HZ2 rfl jf _ _ _ rfl (HO.alloc _) ⟨wr.heap.size,0,none⟩ 1 1 [.string (s.extract m s.size)] rfl rfl (zN _ _ _ _ rfl) jr jq ja jg ?_);intro v' w2 hown' hgrow _;obtain⟨A,c,hv⟩:=ownsRow_form hown';subst hv;have HO2:=hD hown';have HG2:=hD hgrow;clear hown' hgrow;go_wp2_with fail;go_ret;refine ret_ln (m:=acc++ [s.data.toList.drop m]) HL jc ?_ (below_grown (HB.alloc hge _) jg HG2 (fun g hg=>(HO.lt g hg).1));have h:=Rd.own HO2.out;rw[HE.out,bi (by rw[aK,HLn.out];omega)]at h;rw[Y2,aG];exact h
    · have HL:Hid (ZZ [] s.data.toList=acc):=hD (by
        rw[HP.out,List.drop_of_length_le (by rw[HLn.out];omega),ZZ,af rfl,bE])
      obtain⟨A,c,hv⟩:=ownsRow_form HO.out;subst hv;go_wp2_with fail;go_ret;exact ret_ln HL rfl (Rd.own HO) HB
theorem RdL.rd{B:Nat}{w:World}{k n:Nat}{A:Option Addr}{xs:List Value}(h:RdL B w k A n xs):Q06.Rd w k A n xs:=
 ⟨h.len,fun hj=>by
  obtain⟨b,o,e,hb,hc⟩:=h.cells hj
  exact⟨b,o,e,aN hb h.low,hc⟩⟩
structure Pq (w:World) (B q:Nat) (A:Option Addr) (ts:List Q06.Tok) (x:Pt) (W:World):Prop where
 tk:RdL B W 5 A ts.length (Q06.toksC ts)
 pt:Vr W q (ptC x)
 res:Vr W w.heap.size (ptC pt0)
 low:Below w.heap.size w W
 o1:w.heap.size<q
 o2:B≤q
section
variable {w W W' : World} {B q : Nat} {A : Option Addr} {ts : List Q06.Tok} {x y : Pt}
theorem Pq.below(h:Pq w B q A ts x W)(hb:Below W.heap.size W W'):Pq w B q A ts x W':=
 ⟨h.tk.below hb,h.pt.below hb,h.res.below hb,bon h.low hb,h.o1,h.o2⟩
theorem Pq.setx(h:Pq w B q A ts x W)(i:Nat)(v:Value)(e:(ptC x).set i v=ptC y):Pq w B q A ts y (W.setCell ⟨q,i,none⟩ v):=
 ⟨h.tk.grown (ze W ⟨q,i,none⟩ v) h.o2,(h.pt.set i v).eq e,h.res.grown (ze W ⟨q,i,none⟩ v) (by have:=h.o1;show w.heap.size≠q;omega),
  zf h.low (ze W ⟨q,i,none⟩ v) (by have:=h.o1;show w.heap.size≤q;omega),h.o1,h.o2⟩
theorem Pq.setMsg(h:Pq w B q A ts x W)(m:Ms):Pq w B q A ts {x with msg:=m} (W.setCells q 7 (msC m)):=by
 refine⟨h.tk.grown (zq (b:=q) (o:=7) (msC m)) h.o2,?_,h.res.grown (zq (b:=q) (o:=7) (msC m)) jfa,zf h.low (zq (b:=q) (o:=7) (msC m)) jfa,h.o1,h.o2⟩;exact(Vr.mid h.pt 7 (msC m) (by rw[zdH,Yy];omega)).eq rfl
end
theorem pq_new{w w4:World}{A:Option Addr}{ts:List Q06.Tok}(y:Pt){T:TypeId}(hk:Q06.Rd w4 5 A ts.length (Q06.toksC ts))(hr:Vr w4 w.heap.size (ptC pt0))(hb:Below w.heap.size w w4)(h1:w.heap.size<w4.heap.size) :
    Pq w w4.heap.size w4.heap.size A ts y ((w4.alloc (.cells (ptC pt0).toArray T)).setCells w4.heap.size 0 (ptC y)):=
 ⟨(RdL.of hk (za w4 _) rfl).grown (zb (b:=w4.heap.size) (ptC y)) (ag _),(Vr.new w4 (ptC pt0) T).sets (ptC y) rfl,(hr.below (za _ _)).grown (zb (b:=w4.heap.size) (ptC y)) ja,
  zf (bon hb (za _ _)) (zb (b:=w4.heap.size) (ptC y)) ja,h1,ag _⟩
theorem refPoint_any(s:List UInt8)(w:World)(E:List UInt8→Bool)(he:Env w)(hE:EnA 65 E w)(hs:s.length≤65536) :
    Calls prog 55 #[s] w (RetPs (pt2 E s) w):=by
 have HEnv:=hD he;have HE:=hD hE;obtain⟨⟨ts,ln,er⟩,hq⟩:∃r,Q06.toksR s=r:=⟨_,rfl⟩;have HQ:=hD hq;have HF0:Hid (∀t∈ts,TokF t):=hD (by have h:=toksF s;rw[hq]at h;exact h);have HTok:=hD (fun W=>toks_ret (Q06.refTokens_any ⟨s.toArray⟩ W jds) (by simpa using hq));clear he hE hs hq;have HR0:=hD (Vr.new w (ptC pt0) 40);have HB0:=hD (za w (.cells (ptC pt0).toArray 40));have HZ0:Hid ((w.alloc (.cells (ptC pt0).toArray 40)).heap.size=w.heap.size+1):=hD jc;go_in;go_upto_region 1 with fail;change Code.wp _ _ _ _ (w.alloc (.cells (ptC pt0).toArray 40));generalize w.alloc (.cells (ptC pt0).toArray 40)=w1 at HR0 HB0 HZ0⊢;go_wp2_with fail;refine(HTok w1).mono ?_;rintro e w2 ⟨A,c,rfl,hrd,hb,hc1,hc2⟩;have HRd:=hD hrd;have HR2:=hD (HR0.below hb);have HB2:=hD (bon HB0 hb);have HO1:Hid (w.heap.size<w2.heap.size):=hD (by have:=HZ0.out;have:=hb.size;omega);clear hrd hb hc1 hc2 HR0 HB0 HZ0 HTok;by_cases h0:er=0
 case neg=>
  have q1:(er == 0)=false:=by simpa using h0
  have q2:(er != 0)=true:=by simp[h0]
  have HF:Hid (pt2 E s=none):=hD (pt2_none HQ (Or.inl h0));clear h0;exact fo56
 subst h0;by_cases h3:ts.length<3
 case pos=>
  have q3:((ts.length:Int) <3):=by omega
  have HF:Hid (pt2 E s=none):=hD (pt2_none HQ (Or.inr (by unfold pRef;rw[af h3])));clear h3;exact fo56
 have q3:¬((ts.length:Int) <3):=by omega
 have q1t:(1:Int) <(ts.length:Int):=by omega
 have H3:=hD h3;obtain⟨t1,ht1⟩:∃t,t=ts[1]'ja:=⟨_,rfl⟩;have HT1:Hid (ts[1]? =some t1):=hD (by rw[ht1];exact aP ja);clear h3 ht1;go_wp2_with fail;refine(YI A c ts 0 w2 HRd).mono ?_;rintro e w3 ⟨rfl,hw⟩;subst hw;go_wp2_with fail;refine(YI A c ts 2 w3 HRd).mono ?_;rintro e w4 ⟨rfl,hw⟩;subst hw;obtain⟨a,ha⟩:∃a,a=numR ts 0:=⟨_,rfl⟩;obtain⟨o,ho⟩:∃o,o=numR ts 2:=⟨_,rfl⟩;rw[←ha,←ho];have HAo:=hD (And.intro ha ho);clear ha ho;obtain⟨y0,hy0⟩:∃y,y=(⟨a,0,o,0,0,[],[],ms0⟩:Pt):=⟨_,rfl⟩;have HPs:Hid (Pq w w4.heap.size w4.heap.size A ts y0 ((w4.alloc (.cells (ptC pt0).toArray 40)).setCells w4.heap.size 0 (ptC y0))):=hD (pq_new y0 HRd HR2 HB2 HO1);have HX0:=hD (Vr.new w4 (ptC pt0) 40);have HY0:=hD hy0;clear hy0 HRd HR2 HB2 HO1;go_upto_region 5 with(first
  |(refine bV rfl 40 _ rfl _ rfl (ptC y0).toArray ?_ ?_;· rw[HY0.out];kernel_rfl)
  |(refine ai rfl 40 _ _ rfl w4.heap.size 0 (ptC y0).toArray rfl rfl ?_ (zw y0) (yz y0) ?_;· exact HX0.there rfl))
 try simp only[ay]
 change Code.wp _ _ _ _ ((w4.alloc (.cells (ptC pt0).toArray 40)).setCells w4.heap.size 0 (ptC y0));generalize (w4.alloc (.cells (ptC pt0).toArray 40)).setCells w4.heap.size 0 (ptC y0)=w5 at HPs⊢;clear HX0;generalize hqq:w4.heap.size=q at HPs⊢;clear hqq;have hy0:=HY0.out;subst hy0;clear HY0;go_wp2_with fail;go_loopw [8] (fun i wr=>∃k:Int,i= .int .i64 k∧1≤k∧k≤9∧Pq w q q A ts ⟨a,zax ts k,o,0,0,[],[],ms0⟩ wr) (fun i _=>(9- intOf i).toNat)
 case atStart=>exact⟨1,rfl,by omega,by omega,by rw[kindTo_one];exact HPs⟩
 case round=>
  obtain⟨k,rfl,hk1,hk9,hps⟩:=hrel;have HP0:=hD hps;clear hps HPs;by_cases hlt:k≤8
  · have hlt':¬(8<k):=by omega
    obtain⟨b1,o1,hA,hcc⟩:=tok_at HP0.tk.rd (i:=1) (by have:=HT1.out;exact(dD.1 this).1);subst hA;have ht:ts[1]'((dD.1 HT1).1)=t1:=(dD.1 HT1).2;rw[ht]at hcc;have HS:Hid (∀W,Below wr.heap.size wr W→W.cell? ⟨b1,o1+5,none⟩=some (.int .i64 t1.kind)∧W.cell? ⟨b1,o1+5+1,none⟩=some (.string ⟨t1.text.toArray⟩)):=hD (fun W hW=>⟨hcc W hW 0 _ rfl,hcc W hW 1 _ rfl⟩);clear hcc ht;by_cases hk:t1.kind=1
    case neg=>
     have q4:(t1.kind == 1)=false:=by simpa using hk
     have d0:=(HS.out wr (ae _ _)).1;have HN:Hid (zax ts (k+1)=zax ts k):=hD (zfA (by rw[kindR_tok HT1.out,aa hk];omega));clear hk;go_wp2_with fail;go_quiet (fail);all_goals
      have hbq:Below wr.heap.size wr (wr.drewN nq):=bdN (ae _ _) nq;have HP1:=hD (HP0.below hbq);clear hbq d0;generalize wr.drewN nq=w6 at HP1⊢;go_wp2_with fail;go_roundw
      case rel=>exact⟨k+1,by go_num,by omega,by omega,by rw[HN.out];exact HP1⟩
      case measure=>simp[intOf];omega
    have q4:(t1.kind == 1)=true:=by simp[hk]
    have HKk:=hD hk;clear hk;go_upto_region 8 with fail;have hb0:Below wr.heap.size wr wr.drew:=(ae _ _).drew;have HP1:=hD (HP0.below hb0);have hS0:=HS.out wr.drew hb0;have HBd:=hD hb0;clear hb0;refine aD ?_;generalize hv:wr.drew=v0 at HP1 hS0 HBd;refine aC (S:=fun W=>W.cell? ⟨b1,o1+5,none⟩=some (.int .i64 t1.kind)∧W.cell? ⟨b1,o1+5+1,none⟩=some (.string ⟨t1.text.toArray⟩)) jb (by rw[hv];exact hS0) (fun hHeld=> ?_);rw[hv]at hHeld⊢;clear hv;refine takes [0,1,2,3,4,5,6,8,9,10,11] ?_;refine tkr 7 rfl (fun K hK=> ?_);go_simp;go_at_call 62;refine(zbX k v0).mono ?_;rintro e v1 ⟨rfl,hb⟩;have HP2:=hD (HP1.below hb);have hS1:=HS.out v1 (bon HBd hb);clear hb;go_wp2_with fail;refine hK.out _ _ hS1 (fun hHeld=> ?_);clear hK K;try simp only[Act.put,qk]
    by_cases hh:yf k=t1.text
    · have e1:=str_eq2 hh;have e2:(yf k == t1.text)=true:=by simpa using hh
      have HN:Hid (zax ts (k+1)=k):=hD (kindTo_hit ((kindR_eq HT1 HKk hk1 hlt).2 hh));clear hh;refine takes [12,13] ?_;refine aB jb ?_ _;refine aA ?_;clear hS0 hS1 hHeld;have c1:=HP2.pt.cells 1 _ rfl;have f1:=HP2.pt.free 1 (az rfl);have lq:=HP2.pt.lt;have HP3:=hD (Pq.setx (y:=⟨a,k,o,0,0,[],[],ms0⟩) HP2 1 (.int .i64 k) rfl);go_wp2_with fail;go_roundw
      case rel=>exact⟨k+1,by go_num,by omega,by omega,by rw[HN.out];exact HP3⟩
      case measure=>simp[intOf];omega
    · have e1:=str_ne2 hh;have e2:(yf k == t1.text)=false:=by simpa using hh
      have HN:Hid (zax ts (k+1)=zax ts k):=hD (zfA (fun e=>hh ((kindR_eq HT1 HKk hk1 hlt).1 e)));clear hh;refine takes [12,13] ?_;refine aB jb ?_ _;refine aA ?_;clear hS0 hS1 hHeld;go_wp2_with fail;go_roundw
      case rel=>exact⟨k+1,by go_num,by omega,by omega,by rw[HN.out];exact HP2⟩
      case measure=>simp[intOf];omega
  · obtain rfl:k=9:=by omega
    rw[kindTo_end]at HP0;obtain⟨k,hk⟩:∃k,k=YF ts:=⟨_,rfl⟩;rw[←hk]at HP0;have HKe:=hD hk;clear hk hk1 hk9 hlt;have HPr:Hid (pRef ts=if k=1 then some ⟨a,k,o,0,numR ts 3,txtR ts 4,[],ms0⟩ else if k=2 then some ⟨a,k,o,numR ts 4,numR ts 3,[],txtR ts 5,ms0⟩ else if k=3∨k=4 then some ⟨a,k,o,numR ts 3,0,txtR ts 4,[],ms0⟩ else if k=5 then some ⟨a,k,o,0,numR ts 3,txtR ts 4,txtR ts 5,ms0⟩ else if k=6 then(ZI (txtR ts 3)).map fun m=>⟨a,k,o,0,0,[],[],m⟩ else some ⟨a,k,o,0,0,[],[],ms0⟩):=hD (by
     have h1:=HAo.out;rw[HKe.out,h1.1,h1.2];unfold pRef;rw[aa H3.out])
    clear HKe H3;go_upto_region 10 with fail;have c1:=HP0.pt.cells 1 _ rfl;go_upto_block 2 with fail;clear c1;go_cut [] from 52 to 103 (fun wx=>∃x':Pt,Pq w q q A ts x' wx∧pRef ts=some x'.er∧yG (q+1) x'.msg.ok wx)
    case rest=>
     rename World=>wc;obtain⟨y,hps,her,hst⟩:=hcut;have HP1:=hD hps;have HS1:=hD hst;have hpf:=(refF HF0 her).er (x:=y) rfl hst.out;have HFew:=hD hpf.2;have HNum:=hD hpf.1.1;have HIf:Hid (pt2 E s=if zA E y=true∧yU y=s then some y.er else none):=hD (pt2_er HQ her);clear hps hst her hpf HF0 HPr HP0;have HGo:Hid (Calls prog 37 #[.agg (ptC y).toArray] wc (zK (zA E y) wc)):=hD
      (refGood_any y wc E (fun _ W2 hW2=>HE.out y.text W2 (ah HFew.2.1 jf) (bon HP1.low hW2)) ⟨HNum,HS1.out.out⟩ HFew.1 HFew.2.1)
     go_wp2_with (refine ak rfl 40 _ rfl q 0 rfl (ptC y) _ HP1.pt.range underlying40 rfl (zw y) ?_);refine HGo.mono ?_;rintro e w20 ⟨rfl,hb⟩;have HP2:=hD (HP1.below hb);have HS2:=hD (HS1.on (zl _ hb));clear hb HGo;cases hg:zA E y with
     |false=>
      have HF:Hid (pt2 E s=none):=hD (by rw[HIf.out,aa (fun h=>by rw[hg]at h;cases h.1)])
      clear hg;go_wp2_with (first
       |(refine bV rfl 40 _ rfl _ rfl (ptC pt0).toArray ?_ ?_;· kernel_rfl)
       |(refine ai rfl 40 _ _ rfl w.heap.size 0 (ptC pt0).toArray rfl rfl ?_ (zw pt0) (yz pt0) ?_;· exact HP2.res.there rfl))
      try simp only[ay]
      refine aj (v:= .tuple #[.agg (ptC pt0).toArray,false]) ?_ rfl (ZU pt0 (HF) (zf HP2.low (zb (b:=w.heap.size) (ptC pt0)) (ag _)));exact zi results55 _ _ w.heap.size (ptC pt0) _ _ rfl rfl (HP2.res.sets (ptC pt0) rfl).range underlying40 rfl (zw pt0)
     |true=>
      have HGd:=hD hg;clear hg;have HLi:Hid (Calls prog 51 #[.agg (ptC y).toArray] w20 (zm (yU y) w20)):=hD
       (refLine_any y w20 (HEnv.below HP2.low) ⟨HNum,HS2.out.out⟩ HFew.1 HFew.2.1 HFew.2.2.1 HFew.2.2.2)
      go_wp2_with (refine yC ji 40 _ rfl q 0 rfl (ptC y) _ HP2.pt.range underlying40 rfl (zw y) ?_);refine HLi.mono ?_;rintro e w21 ⟨rfl,hb⟩;have HP3:=hD (HP2.below hb);have HS3:=hD (HS2.on (zl _ hb));clear hb HLi;by_cases hl:yU y=s
      · have e1:=str_eq2 hl;have e2:(yU y == s)=true:=by simpa using hl
        have HF:Hid (pt2 E s=some y.er):=hD (by rw[HIf.out,af ⟨HGd.out,hl⟩]);clear hl;go_wp2_with (first
         |(refine ak rfl 40 _ rfl q 0 rfl (ptC y) _ HP3.pt.range underlying40 rfl (zw y) ?_)
         |(refine ai rfl 40 _ _ rfl w.heap.size 0 (ptC y).toArray rfl rfl ?_ (zw y) (yz y) ?_;· exact HP3.res.there rfl))
        try simp only[ay]
        have HSx:=hD (HS3.on (zh (zb (b:=w.heap.size) (ptC y)) (by have:=HP3.o1;omega)));refine aj (v:= .tuple #[.agg (ptC y).toArray,true]) ?_ rfl (zfx HF (zf HP3.low (zb (b:=w.heap.size) (ptC y)) (ag _)) ((HSx.low (by have:=HP3.o1;omega)).imp fun W h=>⟨HNum,h⟩) HFew);exact zi results55 _ _ w.heap.size (ptC y) _ _ rfl rfl (HP3.res.sets (ptC y) rfl).range underlying40 rfl (zw y)
      · have e1:=str_ne2 hl;have e2:(yU y == s)=false:=by simpa using hl
        have HF:Hid (pt2 E s=none):=hD (by rw[HIf.out,aa (fun h=>hl h.2)]);clear hl;go_wp2_with (first
         |(refine bV rfl 40 _ rfl _ rfl (ptC pt0).toArray ?_ ?_;· kernel_rfl)
         |(refine ai rfl 40 _ _ rfl w.heap.size 0 (ptC pt0).toArray rfl rfl ?_ (zw pt0) (yz pt0) ?_;· exact HP3.res.there rfl))
        try simp only[ay]
        refine aj (v:= .tuple #[.agg (ptC pt0).toArray,false]) ?_ rfl (ZU pt0 (HF) (zf HP3.low (zb (b:=w.heap.size) (ptC pt0)) (ag _)));exact zi results55 _ _ w.heap.size (ptC pt0) _ _ rfl rfl (HP3.res.sets (ptC pt0) rfl).range underlying40 rfl (zw pt0)
    case first=>
     by_cases h1:k=1
     case pos=>
      have q1:(k == 1)=true:=by simp[h1]
      have HKn:=hD h1;clear h1;go_wp2_with fail;refine(YI A c ts 3 _ HP0.tk.rd).mono ?_;rintro e w9 ⟨rfl,hw⟩;subst hw;obtain⟨n,hn⟩:∃x,x=numR ts 3:=⟨_,rfl⟩;rw[←hn];have HLn:=hD hn;clear hn;go_wp2_with fail;refine(zaj A c ts 4 _ HP0.tk.rd).mono ?_;rintro e w9 ⟨rfl,hw⟩;subst hw;obtain⟨t,ht⟩:∃x,x=txtR ts 4:=⟨_,rfl⟩;rw[←ht];have HLt:=hD ht;clear ht;have c4:=HP0.pt.cells 4 _ rfl;have f4:=HP0.pt.free 4 (az rfl);have c5:=HP0.pt.cells 5 _ rfl;have f5:=HP0.pt.free 5 (az rfl);have lq:=HP0.pt.lt;have HPe:=hD (Pq.setx (y:=⟨a,k,o,0,n,t,[],ms0⟩) (Pq.setx (y:=⟨a,k,o,0,n,[],[],ms0⟩) (HP0) 4 (.int .i64 n) rfl) 5 (.string ⟨t.toArray⟩) rfl);have HKp:Hid (pRef ts=some (Pt.er ⟨a,k,o,0,n,t,[],ms0⟩)):=hD (by
       have hn:=HKn.out;rw[HPr.out,af (show k=1 by omega),←HLn.out,←HLt.out];rfl)
      exact fo81
     have q1:(k == 1)=false:=by simpa using h1
     by_cases h2:k=2
     case pos=>
      have q2:(k == 2)=true:=by simp[h2]
      have HKn:=hD h2;clear h2;go_wp2_with fail;refine(YI A c ts 3 _ HP0.tk.rd).mono ?_;rintro e w9 ⟨rfl,hw⟩;subst hw;obtain⟨n,hn⟩:∃x,x=numR ts 3:=⟨_,rfl⟩;rw[←hn];have HLn:=hD hn;clear hn;go_wp2_with fail;refine(YI A c ts 4 _ HP0.tk.rd).mono ?_;rintro e w9 ⟨rfl,hw⟩;subst hw;obtain⟨l,hl⟩:∃x,x=numR ts 4:=⟨_,rfl⟩;rw[←hl];have HLl:=hD hl;clear hl;go_wp2_with fail;refine(zaj A c ts 5 _ HP0.tk.rd).mono ?_;rintro e w9 ⟨rfl,hw⟩;subst hw;obtain⟨t,ht⟩:∃x,x=txtR ts 5:=⟨_,rfl⟩;rw[←ht];have HLt:=hD ht;clear ht;have c4:=HP0.pt.cells 4 _ rfl;have f4:=HP0.pt.free 4 (az rfl);have c3:=HP0.pt.cells 3 _ rfl;have f3:=HP0.pt.free 3 (az rfl);have c6:=HP0.pt.cells 6 _ rfl;have f6:=HP0.pt.free 6 (az rfl);have lq:=HP0.pt.lt;have HPe:=hD (Pq.setx (y:=⟨a,k,o,l,n,[],t,ms0⟩) (Pq.setx (y:=⟨a,k,o,l,n,[],[],ms0⟩) (Pq.setx (y:=⟨a,k,o,0,n,[],[],ms0⟩) (HP0) 4 (.int .i64 n) rfl) 3 (.int .i64 l) rfl) 6 (.string ⟨t.toArray⟩) rfl);have HKp:Hid (pRef ts=some (Pt.er ⟨a,k,o,l,n,[],t,ms0⟩)):=hD (by
       have hn:=HKn.out;rw[HPr.out,aa (show ¬k=1 by omega),af (show k=2 by omega),←HLn.out,←HLl.out,←HLt.out];rfl)
      exact fo81
     have q2:(k == 2)=false:=by simpa using h2
     by_cases h3:k=3
     case pos=>
      have q3:(k == 3)=true:=by simp[h3]
      have HKn:=hD h3;clear h3;exact fo38
     have q3:(k == 3)=false:=by simpa using h3
     by_cases h4:k=4
     case pos=>
      have q4:(k == 4)=true:=by simp[h4]
      have HKn:=hD h4;clear h4;exact fo38
     have q4:(k == 4)=false:=by simpa using h4
     by_cases h5:k=5
     case pos=>
      have q5:(k == 5)=true:=by simp[h5]
      have HKn:=hD h5;clear h5;go_wp2_with fail;refine(YI A c ts 3 _ HP0.tk.rd).mono ?_;rintro e w9 ⟨rfl,hw⟩;subst hw;obtain⟨n,hn⟩:∃x,x=numR ts 3:=⟨_,rfl⟩;rw[←hn];have HLn:=hD hn;clear hn;go_wp2_with fail;refine(zaj A c ts 4 _ HP0.tk.rd).mono ?_;rintro e w9 ⟨rfl,hw⟩;subst hw;obtain⟨t,ht⟩:∃x,x=txtR ts 4:=⟨_,rfl⟩;rw[←ht];have HLt:=hD ht;clear ht;go_wp2_with fail;refine(zaj A c ts 5 _ HP0.tk.rd).mono ?_;rintro e w9 ⟨rfl,hw⟩;subst hw;obtain⟨z,hz⟩:∃x,x=txtR ts 5:=⟨_,rfl⟩;rw[←hz];have HLz:=hD hz;clear hz;have c4:=HP0.pt.cells 4 _ rfl;have f4:=HP0.pt.free 4 (az rfl);have c5:=HP0.pt.cells 5 _ rfl;have f5:=HP0.pt.free 5 (az rfl);have c6:=HP0.pt.cells 6 _ rfl;have f6:=HP0.pt.free 6 (az rfl);have lq:=HP0.pt.lt;have HPe:=hD (Pq.setx (y:=⟨a,k,o,0,n,t,z,ms0⟩) (Pq.setx (y:=⟨a,k,o,0,n,t,[],ms0⟩) (Pq.setx (y:=⟨a,k,o,0,n,[],[],ms0⟩) (HP0) 4 (.int .i64 n) rfl) 5 (.string ⟨t.toArray⟩) rfl) 6 (.string ⟨z.toArray⟩) rfl);have HKp:Hid (pRef ts=some (Pt.er ⟨a,k,o,0,n,t,z,ms0⟩)):=hD (by
       have hn:=HKn.out;rw[HPr.out,aa (show ¬k=1 by omega),aa (show ¬k=2 by omega),aa (show ¬(k=3∨k=4)by omega),af (show k=5 by omega),←HLn.out,←HLt.out,←HLz.out];rfl)
      exact fo81
     have q5:(k == 5)=false:=by simpa using h5
     by_cases h6:k=6
     case pos=>
      have q6:(k == 6)=true:=by simp[h6]
      have HKn:=hD h6;clear h6;go_wp2_with fail;refine(zaj A c ts 3 _ HP0.tk.rd).mono ?_;rintro e w9 ⟨rfl,hw⟩;subst hw;obtain⟨t,ht⟩:∃x,x=txtR ts 3:=⟨_,rfl⟩;rw[←ht];have HTl:Hid (t.length≤16777216):=hD (by rw[ht];have:=txtRF HF0 3;omega);have HPt:Hid (pRef ts=(ZI t).map fun m=>⟨a,k,o,0,0,[],[],m⟩):=hD (by
       have hn:=HKn.out;rw[HPr.out,aa (show ¬k=1 by omega),aa (show ¬k=2 by omega),aa (show ¬(k=3∨k=4)by omega),aa (show ¬k=5 by omega),af (show k=6 by omega),←ht])
      clear ht HPr;have HDec:=hD (refDecode_any t w9 HTl);have HQ1:Hid (q<w9.heap.size):=hD HP0.pt.lt;cases hd:ZI t with
      |none=>
       have HD:=hD (decM_none HDec hd);have HF:Hid (pt2 E s=none):=hD (pt2_none HQ (Or.inr (by rw[HPt.out,hd];rfl)));clear HDec hd;go_wp2_with fail;refine HD.mono ?_;rintro e w12 ⟨rfl,hb⟩;have HP12:=hD (HP0.below hb);clear hb HD;have HV0:=hD (Vr.new w12 (msC ms0) 38);have HBn:=hD (zf (za w12 (.cells (msC ms0).toArray 38)) (zb (b:=w12.heap.size) (msC ms0)) (ag _));have HP13:=hD (HP12.below HBn);go_upto_region 22 with(refine ai rfl 38 _ _ rfl w12.heap.size 0 (msC ms0).toArray rfl rfl ?_ (zD ms0) (yu ms0) ?_;· exact HV0.there rfl)
       try simp only[ay]
       change Code.wp _ _ _ _ ((w12.alloc (.cells (msC ms0).toArray 38)).setCells w12.heap.size 0 (msC ms0));clear HBn HV0 HP12;generalize (w12.alloc (.cells (msC ms0).toArray 38)).setCells w12.heap.size 0 (msC ms0)=w13 at HP13⊢;go_wp2_with (first
        |(refine bV rfl 40 _ rfl _ rfl (ptC pt0).toArray ?_ ?_;· kernel_rfl)
        |(refine ai rfl 40 _ _ rfl w.heap.size 0 (ptC pt0).toArray rfl rfl ?_ (zw pt0) (yz pt0) ?_;· exact HP13.res.there rfl))
       try simp only[ay]
       refine aj (v:= .tuple #[.agg (ptC pt0).toArray,false]) ?_ rfl (ZU pt0 (HF) (zf HP13.low (zb (b:=w.heap.size) (ptC pt0)) (ag _)));exact zi results55 _ _ w.heap.size (ptC pt0) _ _ rfl rfl (HP13.res.sets (ptC pt0) rfl).range underlying40 rfl (zw pt0)
      |some m0=>
       have HD:=hD (zgB HDec hd);clear HDec;go_wp2_with fail;refine HD.mono ?_;rintro e w12 ⟨m,hm,rfl,hst,hb⟩;have HSt:=hD hst;have HP12:=hD (HP0.below hb);have HKp:Hid (pRef ts=some (Pt.er ⟨a,k,o,0,0,[],[],m⟩)):=hD (by rw[HPt.out,hd,←hm];rfl);have HQ2:Hid (q<w12.heap.size):=hD HP12.pt.lt;clear hst hb hm hd HD;have HV0:=hD (Vr.new w12 (msC ms0) 38);have HV:=hD (HV0.sets (msC m) rfl);have HBn:=hD (zf (za w12 (.cells (msC ms0).toArray 38)) (zb (b:=w12.heap.size) (msC m)) (ag _));have HP13:=hD (HP12.below HBn);have HS13:=hD (HSt.on (zl _ HBn));go_upto_region 22 with(refine ai rfl 38 _ _ rfl w12.heap.size 0 (msC m).toArray rfl rfl ?_ (zD m) (yu m) ?_;· exact HV0.there rfl)
       try simp only[ay]
       change Code.wp _ _ _ _ ((w12.alloc (.cells (msC ms0).toArray 38)).setCells w12.heap.size 0 (msC m));clear HBn HV0 HP12 HSt;generalize (w12.alloc (.cells (msC ms0).toArray 38)).setCells w12.heap.size 0 (msC m)=w13 at HV HP13 HS13⊢;generalize w12.heap.size=b12 at HV HQ2⊢;have HTh:Hid (w13.there q 7 (msC m).toArray.size):=hD (HP13.pt.thereAt 7 jbj);have HPe:Hid (Pq w q q A ts ⟨a,k,o,0,0,[],[],m⟩ (w13.setCells q 7 (msC m))):=hD (HP13.setMsg m);have HSe:=hD ((HS13.on (zh (zq (b:=q) (o:=7) (msC m)) HQ1)).low (b':=q+1) HQ1);go_wp2_with (first
        |(refine ak rfl 38 _ rfl b12 0 rfl (msC m) _ HV.range underlying38 rfl (zD m) ?_)
        |(refine ai rfl 38 _ _ rfl q 7 (msC m).toArray rfl rfl HTh (zD m) (yu m) ?_))
       try simp only[ay]
       go_meet
       case rel=>exact⟨_,HPe,HKp,HSe⟩
     have q6:(k == 6)=false:=by simpa using h6
     have HKp:Hid (pRef ts=some (Pt.er ⟨a,k,o,0,0,[],[],ms0⟩)):=hD (by
      rw[HPr.out,aa h1,aa h2,aa ja,aa h5,aa h6];rfl)
     clear h1 h2 h3 h4 h5 h6;go_wp2_with fail;go_meet
     case rel=>exact⟨_,HP0,HKp,fun W _=>zbK W⟩
theorem strs_cell{w:World}{A:Option Addr}{l:List (List UInt8)}(h:Rd w 1 A l.length (strC l)){k:Nat}(hk:k<l.length) :
    ∃b o,A=some ⟨b,o,none⟩∧b<w.heap.size∧w.cell? ⟨b,o+k,none⟩=some (.string ⟨l[k].toArray⟩):=by
 obtain⟨b,o,e,hb,hc⟩:=h.cells (by simp[strC];omega);exact⟨b,o,e,hb,hc k _ (by simp[strC,hk])⟩
theorem cutNl_le{s p:List UInt8}(h:p∈ZZ [] s):p.length≤s.length:=by
 have h1:=zex h;rw[zf4]at h1;simpa using h1
theorem cutNl_len(s cur:List UInt8):(ZZ cur s).length≤s.length+1:=by
 induction s generalizing cur with
 |nil=>unfold ZZ;split <;> simp
 |cons c r ih=>
  unfold ZZ;split
  · have:=ih [];simp;omega
  · have:=ih (cur++ [c]);simp;omega
theorem refPrs_any(s:List UInt8)(w:World)(E:List UInt8→Bool)(he:Env w)(hE:EnA 65 E w)(hs:s.length≤65536) :
    Calls prog 34 #[s] w (zci (ZM (pt2 E) s) w):=by
 have HEnv:=hD he;have HE:=hD hE;obtain⟨L,hL⟩:∃L,L=ZZ [] s:=⟨_,rfl⟩;have HLn:Hid (Calls prog 54 #[s] w (RetLn L w)):=hD (by
  have h:=zfO ⟨s.toArray⟩ w jbe;rw[hL];simpa using h)
 have HPt:Hid (ZM (pt2 E) s=yZ (pt2 E) L []):=hD (by unfold ZM;rw[aa ja,hL]);have HLl:Hid (∀p∈L,p.length≤65536):=hD (fun p hp=>by rw[hL]at hp;have:=cutNl_le hp;omega);have hLn:L.length≤65537:=by rw[hL];have:=cutNl_len s [];omega
 have hs1:¬((65536:Int) <(s.length:Int)):=by omega
 obtain⟨i0,hi,hz0,hz1,hz2⟩:=info_parts infoPtr;have HI:=hD hi;have HZ0:=hD hz0;have HZ1:=hD hz1;have HZ2:=hD hz2;clear hi hz0 hz1 hz2 hL he hE;obtain⟨sb,hsb⟩:∃b,b=ByteArray.mk s.toArray:=⟨_,rfl⟩;have hsz:sb.size=s.length:=by rw[hsb];simp[ByteArray.size]
 rw[←hsb];rw[←hsb]at HLn;rw[←hsz]at hs1;clear hs hsb hsz;go_in;go_wp2_with fail;refine HLn.mono ?_;rintro e w1 ⟨A0,c0,rfl,hrd,hb⟩;have HV:=hD hrd;have HB1:=hD hb;clear hrd hb HLn;have HPa0:=hD (PaSt.start w1);go_wp2_with fail;go_loopw [6,7] (fun o i wr=>∃(j:Nat) (acc:List Pt) (q:Value),i= .int .i64 j∧q=o∧acc.length=j∧j≤L.length∧acc.length≤5000∧PaSt w1 acc q wr∧yZ (pt2 E) L []=yZ (pt2 E) (L.drop j) (acc.map Pt.er)) (fun _ i _=>L.length-(intOf i).toNat)
 case atStart=>exact⟨0,[],_,rfl,rfl,rfl,bf _,bf _,HPa0,rfl⟩
 case round=>
  obtain⟨j,acc,o,rfl,rfl,haj,hj,hn,hst,hgo⟩:=hrel;have HJ:=hD hst;have HGo:=hD hgo;have HAj:=hD haj;clear hst hgo haj;have HBr:=hD (bon HB1 HJ.low);by_cases hlt:j<L.length
  · have i0':(0:Int)≤(j:Int):=by omega
    have i1:(j:Int) <(L.length:Int):=by omega
    obtain⟨lb,lo,hA0,hlb,cl⟩:=strs_cell HV hlt;subst hA0;have cl:wr.cell? ⟨lb,lo+j,none⟩=some (.string ⟨L[j].toArray⟩):=(HJ.low.cell (p:=⟨lb,lo+j,none⟩) hlb).trans cl;have HMem:=hD (HLl _ (aH hlt));have HD:=hD (bB hlt);obtain⟨t,ht⟩:∃t,t=L[j]:=⟨_,rfl⟩;rw[←ht]at cl HMem HD;clear ht hlb;go_wp2_with fail;have HC:=hD (refPoint_any t wr E (HEnv.below HBr) (HE.below HBr) HMem);cases hp:pt2 E t with
    |none=>
     have HT:Hid (ZM (pt2 E) s=([],(j:Int)+1,2)):=hD (by rw[HPt.out,HGo.out,HD.out,go_bad hp,bF,HAj.out]);exact fo61
    |some y=>
     refine(zgd HC hp).mono ?_;rintro e w2 ⟨x,hx,rfl,hst,hf,hb⟩;have HY:=hD hp;have HXe:=hD hx;have HSt:=hD hst;have HFw:=hD hf;have HX0:=hD (Vr.new w2 (ptC pt0) 40);have HX:=hD (HX0.sets (ptC x) rfl);have HBn:=hD (zf (bon hb (za w2 (.cells (ptC pt0).toArray 40))) (zb (b:=w2.heap.size) (ptC x)) hb.size);have HSn:=hD (HSt.on (zl _ (zf (za w2 (.cells (ptC pt0).toArray 40)) (zb (b:=w2.heap.size) (ptC x)) (ag _))));clear hb hp hx hst hf HC HSt;go_upto_region 9 with(refine ai rfl 40 _ _ rfl w2.heap.size 0 (ptC x).toArray rfl rfl ?_ (zw x) (yz x) ?_;· exact HX0.there rfl)
     try simp only[ay]
     change Code.wp _ _ _ _ ((w2.alloc (.cells (ptC pt0).toArray 40)).setCells w2.heap.size 0 (ptC x));generalize (w2.alloc (.cells (ptC pt0).toArray 40)).setCells w2.heap.size 0 (ptC x)=w3 at HX HBn HSn⊢;generalize w2.heap.size=b3 at HX⊢;clear HX0;have HJ3:=hD (HJ.below HBn);have cx:=HX.cells 0 _ rfl;have lx:=HX.lt;obtain⟨A,cp,hv⟩:=ownsRow_form HJ3.own;subst hv;obtain⟨n,hnl⟩:∃n,n=acc.length:=⟨_,rfl⟩;rw[←hnl]at hn HJ HJ3⊢;have HNl:=hD hnl.symm;have HJn:Hid (j=n):=hD (by rw[hnl,HAj.out]);obtain⟨lt,hll⟩:∃b,b=late (acc.map Pt.er) y:=⟨_,rfl⟩;have HLt:=hD hll;clear hll;have hjn:=HJn.out;rw[hjn];clear hjn hnl;go_upto_region 11 with fail;go_cut [45] from 33 to 44 (fun t wx=>t= .bool lt∧Below w3.heap.size w3 wx)
     case first=>exact fo19
     case rest=>
      rename World=>w4;obtain⟨ht45,hb4⟩:=hcut;subst ht45;have HX4:=hD (HX.below hb4);have HB4:=hD (bon HBn hb4);have HS4:=hD (HSn.on (zl _ hb4));have HJ4:=hD (HJ.below HB4);have HBe:=hD (bon HBr HB4);clear hb4 cx lx HX HJ3 HBn HSn;cases lt with
      |true=>
       have HT:Hid (ZM (pt2 E) s=([],(n:Int)+1,1)):=hD jcm;exact fo124
      |false=>
       by_cases h5:n=5000
       · have q5:(5000:Int)≤(n:Int):=by omega
         have HT:Hid (ZM (pt2 E) s=([],(n:Int)+1,3)):=hD jfe;clear h5;exact fo124
       · have q5:¬((5000:Int)≤(n:Int)):=by omega
         have HG2:Hid (yZ (pt2 E) L []=yZ (pt2 E) (L.drop (j+1)) ((acc++ [x]).map Pt.er)):=hD (fo170);have hz:=HJ4.low.size;have HO4:Hid ((w4.alloc (.cells (ptC x).toArray 40)).ownsRow w1.heap.size 40 28 (.slice A n cp) n (acc.flatMap ptC)):=hD jcy;have HN4:=hD (zN w4 (ptC x) 40 _ rfl);have hz4:w1.heap.size≤(w4.alloc (.cells (ptC x).toArray 40)).heap.size:=by simp;omega
         go_upto_region 15 with fail;refine wp_region_list ?_;refine wpList_plain rfl (fun K hK=> ?_);go_simp;refine hK _ _ ?_;clear hK K;refine ak rfl 40 _ rfl b3 0 rfl (ptC x) _ HX4.range underlying40 rfl (zw x) ?_;refine gJ rfl 22 40 1 _ rfl w4.heap.size rfl _ rfl underlying22 (ptC x).toArray jb ?_;refine cB _ rfl _ _ 22 rfl w1.heap.size 40 i0 _ 28 368 underlying22 HI HZ0 HZ1 HZ2 rfl jf (.slice A n cp) n (acc.flatMap ptC) rfl HO4 ⟨w4.heap.size,0,none⟩ 1 1 (ptC x) rfl rfl HN4 (ptC_ones x) jq ja hz4 ?_;intro v' w6 hown' hgrow _ hat;have HN:Hid (PaSt w1 (acc++ [x]) v' w6):=hD (HJ.more (bon HB4 (za w4 (.cells (ptC x).toArray 40))) (HS4.on (zl _ (za w4 (.cells (ptC x).toArray 40)))) HFw (by rw[HNl.out];exact hown') hgrow hat);clear hown' hgrow hat;go_wp2_with fail;go_roundw
         case rel=>exact⟨j+1,acc++ [x],_,by rw[HJn.out];go_num,rfl,by rw[aG,fP,HNl.out,HJn.out],by omega,by rw[aG,fP,HNl.out];omega,HN,HG2⟩
         case measure=>have:=HJn.out;simp[intOf];omega
  · obtain rfl:j=L.length:=by omega
    have HT:Hid (ZM (pt2 E) s=(acc.map Pt.er,0,0)):=hD (by rw[HPt.out,HGo.out,df];rfl);exact fo146
theorem same_er{l m:List Pt}(h:l.map Pt.er=m.map Pt.er):zaB l m=true:=by
 have hlen:l.length=m.length:=by have:=aL List.length h;simpa using this
 unfold zaB;rw[aT,aY,bX];refine⟨hlen,fun i hi=> ?_⟩;have hi1:=fU.1 hi;have hi2:i<m.length:=by omega
 rw[sameAt_is hi1 hi2];have he:l[i].er=m[i].er:=by
  have:=aL (fun q=>q[i]?) h;simpa[hi1,hi2]using this
 rw[←er_eq,he];exact eqPt_self _
theorem zfr(pt:List UInt8→Option Pt):∀(ls:List (List UInt8)) (acc:List Pt),acc.length≤5000→(yZ pt ls acc).1.length≤5000
 | [],acc,h=>h
 |s::r,acc,h=>by
  rw[yZ]
  split
  · simp
  · split
    · simp
    · split
      · simp
      · exact zfr pt r _ jg
theorem parseT_len(pt:List UInt8→Option Pt)(s:List UInt8):(ZM pt s).1.length≤5000:=by
 unfold ZM;split
 · simp
 · exact zfr pt _ _ jc
theorem lawParse(s:ByteArray)(w:World)(he:Env w)(_hs:s.size≤maxLen):Calls prog 9 #[s] w (zK true w):=by
 have HA:Hid (∀w1,Below w.heap.size w w1→Calls prog 10 #[] w1 (zK true w1)):=hD (fun w1 hb=>awake_any w1 (he.below hb));have HEnv:=hD he;have HB0:=hD (ae w.heap.size w);clear he;by_cases hlen:s.size≤20000
 case neg=>
  have t1:(20000:Int) <(s.size:Int):=by omega
  clear hlen;go_in;go_wp2_with fail;refine(HA _ HB0).mono ?_;rintro e w1 ⟨rfl,b1⟩;have HB1:=hD (bon HB0 b1);clear b1;go_wp2_with fail;refine(HA _ HB1).mono ?_;rintro e w2 ⟨rfl,b2⟩;have HB2:=hD (bon HB1 b2);clear b2;go_wp2_with fail;go_ret;exact yA rfl HB2
 have t1:¬((20000:Int) <(s.size:Int)):=by omega
 obtain⟨l,hl⟩:∃l,l=s.data.toList:=⟨_,rfl⟩;have hs:s=⟨l.toArray⟩:=by rw[hl,ze2]
 have hll:l.length≤65536:=by rw[hl,Array.length_toList];exact ah hlen jf
 have HP1:Hid (∀W,Below w.heap.size w W→Calls prog 33 #[s] W (zci (ZM (pt1 entB) l) W)):=hD (fun W hb=>by
  rw[hs];exact trParse_any l W entB (HEnv.below hb) (enA_tr (HEnv.below hb)) hll)
 have HP2:Hid (∀W,Below w.heap.size w W→Calls prog 34 #[s] W (zci (ZM (pt1 entB) l) W)):=hD (fun W hb=>by
  rw[hs,parseT_same];exact refPrs_any l W entB (HEnv.below hb) (enA_ref W) hll)
 have HL:Hid (s=⟨l.toArray⟩):=hD hs;clear hlen hl hs hll;obtain⟨⟨ps,ln,er⟩,hr⟩:∃r,r=ZM (pt1 entB) l:=⟨_,rfl⟩;rw[←hr]at HP1 HP2;have HR:=hD hr.symm;have HQ1:Hid (∀W,Below w.heap.size w W→Calls prog 33 #[s] W (fun e w'=>∃A c m,e= .returned (.tuple #[.slice A m.length c,ln,er])∧m.map Pt.er=ps∧Yz w' A m∧(∀x∈m,zeS x)∧Below W.heap.size W w')):=HP1;have HQ2:Hid (∀W,Below w.heap.size w W→Calls prog 34 #[s] W (fun e w'=>∃A c m,e= .returned (.tuple #[.slice A m.length c,ln,er])∧m.map Pt.er=ps∧Yz w' A m∧(∀x∈m,zeS x)∧Below W.heap.size W w')):=HP2;have HFo:Hid (er=0→vTr entB ps=0∧yF ps=l∧l.length≤65536):=hD (fun h=>by
  subst h;exact format_parse HR)
 have HFew:Hid (ps.length≤5000):=hD (by rw[show ps=(ZM (pt1 entB) l).1 from by rw[HR.out]];exact parseT_len _ l);clear HP1 HP2 hr HR;go_in;go_wp2_with fail;refine(HA _ HB0).mono ?_;rintro e w1 ⟨rfl,b1⟩;have HB1:=hD (bon HB0 b1);clear b1;go_wp2_with fail;refine(HQ1 _ HB1).mono ?_;rintro e w2 ⟨A2,c2,m,rfl,hm,hp,hf,hs⟩;have HM:=hD hm;have HPm:=hD hp;have HFm:=hD hf;have HB2:=hD (bon HB1 hs);clear hm hp hf hs HQ1;go_wp2_with fail;refine(HQ2 _ HB2).mono ?_;rintro e w3 ⟨A3,c3,m',rfl,hm,hp,hf,hs⟩;have HPm3:=hD (HPm.below hs);have HB3:=hD (bon HB2 hs);have HLm:Hid (m.length≤5000∧m'.length≤5000):=hD (by
  have h1:=HFew.out;have h2:=aL List.length HM.out;have h3:=aL List.length hm;rw[bF]at h2 h3;omega)
 have HSm:Hid (zaB m m'=true):=hD (same_er (HM.trans hm.symm));have HSame:Hid (∀W,Below w3.heap.size w3 W→Calls prog 21 #[.slice A2 m.length c2,.slice A3 m'.length c3] W (zK true W)):=hD (fun W hb=>by
  have h:=zcO A2 A3 c2 c3 m m' W (HPm3.below hb) (hp.below hb) (fun x hx=>(HFm x hx).1) (fun x hx=>(hf x hx).1) (by have:=HLm.out;omega) (by have:=HLm.out;omega);rwa[HSm.out]at h)
 clear hm hp hf hs HQ2 HPm HSm;go_wp2_with fail;refine(HSame w3 (ae _ _)).mono ?_;rintro e w4 ⟨rfl,hs⟩;have HS4:=hD (fun W hb=>HSame.out W (bon hs hb));have HPm4:=hD (HPm3.below hs);have HB4:=hD (bon HB3 hs);clear hs HSame HPm3;by_cases h0:er=0
 case neg=>
  have q0:(er == 0)=false:=by simpa using h0
  have q1:(er != 0)=true:=by simpa using h0
  clear h0;go_wp2_with fail;refine(HS4 w4 (ae _ _)).mono ?_;rintro e w5 ⟨rfl,hs⟩;have HB5:=hD (bon HB4 hs);clear hs;go_wp2_with fail;go_ret;exact yA rfl HB5
 subst h0;obtain⟨hv,hl,h65⟩:=HFo.out rfl;have hvm:vTr entB m=0:=by rw[←er_vTr,HM.out];exact hv
 have hlm:yF m=l:=by rw[←er_lines,HM.out];exact hl
 have hT:fmtT entB m=l:=by unfold fmtT;rw[af ⟨hvm,by rw[hlm];exact h65⟩,hlm]
 have hE0:fmtE entB m=0:=by unfold fmtE;rw[af hvm,af (by rw[hlm];exact h65)]
 have HFm4:=hD (zd4 A2 c2 m w4 entB (fun x hx _ W hW=>enA_tr (HEnv.below HB4) x.text W (by have:=(HFm.out x hx).2.1;omega) hW) (HEnv.below HB4) HPm4 HFm (by have:=HLm.out;omega));rw[hT,hE0]at HFm4;clear hv hl h65 hvm hlm hT hE0 HFo HS4;go_wp2_with fail;refine HFm4.mono ?_;rintro e w5 ⟨rfl,hs⟩;have HB5:=hD (bon HB4 hs);rw[←HL.out];clear hs HFm4;go_wp2_with fail;go_ret;exact yA jc HB5
