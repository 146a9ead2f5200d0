/- The contract of the reference's Decode. -/
import Derived.Test.YtepbbaifpckcpaaGreatDoorPEd
import Derived.Test.YtepbbaifpckcpaaGreatDoorPTa
open Go.Proofs.Tryz
namespace Go.Proofs.YtepbbaifpckcpaaGreatDoor.Q40
set_option maxRecDepth 100000
set_option maxHeartbeats 4000000
open Go.Proofs.YtepbbaifpckcpaaGreatDoor
open Go.RowKit
variable{args:Array Value}{f:FuncId}{P:Program}{w:World}
theorem retRS_none{o:Option (List (List UInt8))}(h:Calls P f args w (RetRS o w))(hl:o=none) :
    Calls P f args w fun e w'=>(∃A n c,e= .returned (.tuple #[.slice A n c,false]))∧Below w.heap.size w w':=
 h.mono fun _ _ ⟨hw,he⟩=>by subst hl;exact⟨he,hw⟩
theorem zbe{o:Option (List (List UInt8))}{xs:List (List UInt8)}(h:Calls P f args w (RetRS o w))(hl:o=some xs) :
    Calls P f args w fun e w'=>(∃A c,e= .returned (.tuple #[.slice A xs.length c,true])∧Rd w' 1 A xs.length (strC xs)∧xs.length≤c∧c≤9223372036854775807)∧Below w.heap.size w w':=
 h.mono fun _ _ ⟨hw,he⟩=>by subst hl;exact⟨he,hw⟩
theorem refGo_len:∀(k:Nat) (s:List UInt8) (xs:List (List UInt8)) (m:Nat),zcx k s=some (xs,m)→xs.length=k∧∀x∈xs,x.length≤200
 |0,s,xs,m,h=>by simp only[zcx,ax,aI]at h;obtain⟨rfl,_⟩:=h;simp
 |k+1,s,xs,m,h=>by
  rw[zcx]at h
  split at h
  · simp at h
  · split at h
    · simp at h
    · rename_i ys m' hg
      simp only[ax,aI]at h
      obtain⟨rfl,_⟩:=h
      obtain⟨i1,i2⟩:=refGo_len k _ _ _ hg
      refine⟨by simp[i1],fun x hx=> ?_⟩
      rcases bC.1 hx with rfl|hx
      · have:=(zeu s 200).2
        rw[bN];omega
      · exact i2 x hx
theorem zbo{s:List UInt8}{xs:List (List UInt8)}(h:y7 s=some xs):xs.length≤25∧∀x∈xs,x.length≤200:=by
 unfold y7 at h;split at h
 · simp at h
 · split at h
   · simp at h
   · rename_i ys m hg;split at h
     · simp only[ax]at h;subst h;obtain⟨i1,i2⟩:=refGo_len _ _ _ _ hg;have:=(zeu s 25).2;exact⟨by omega,i2⟩
     · simp at h
theorem numR_i64(s:List UInt8):I64 (numR s):=by
 unfold numR;split
 · rename_i h;have h1:=valD_lt s h.2.1;have h2:10 ^ s.length≤10 ^ 7:=dV ja h.1;exact⟨by omega,by omega⟩
 · exact fo198
theorem zbR(t:List (List UInt8)):zcu (y9::t)=⟨3,0,[]⟩:=by rw[zcu,af rfl]
theorem zdQ(x:List UInt8):zcu [Yq,x]=⟨2,numR x,[]⟩:=by rw[zcu,aa jf,af ⟨rfl,rfl⟩];rfl
theorem readR_batch(t:List (List UInt8))(h:t.length % 3=0):zcu (yR::t)=⟨1,0,zfW t⟩:=by
 rw[zcu,aa jf,aa jfg,af ⟨rfl,h⟩]
theorem readR_other(h:List UInt8)(t:List (List UInt8))(h1:h≠y9)(h2:¬(h=Yq∧t.length=1))(h3:¬(h=yR∧t.length % 3=0)):zcu (h::t)=⟨0,0,[]⟩:=by
 rw[zcu,aa h1,aa h2,aa h3]
theorem refDecode_bad(s:List UInt8)(w:World)(hs:s.length≤1048576)(hg:y7 s=none):Calls prog 104 #[s] w (RetDec (decE s) w):=by
 have B0:=hD (za w (.cells #[(),(),"s"] 129));have HL:=hD (retRS_none (YC ⟨s.toArray⟩ (w.alloc (.cells #[(),(),"s"] 129)) jy) hg);have HD:=hD (decE_refBad hg);clear hg;go_in;go_wp2_with fail;refine HL.mono ?_;rintro e w1 ⟨⟨A,n,c,rfl⟩,b1⟩;have B1:=hD (bon B0.out b1);have hz:w.heap.size<w1.heap.size:=by have:=b1.size;simp at this;omega
 obtain⟨⟨c0,c1,c2⟩,f0,f1,f2⟩:=own3 (by simpa using b1);clear b1;exact fo105
theorem refDecode_nil(s:List UInt8)(w:World)(hs:s.length≤1048576)(hg:y7 s=some []):Calls prog 104 #[s] w (RetDec (decE s) w):=by
 have B0:=hD (za w (.cells #[(),(),"s"] 129));have HL:=hD (zbe (YC ⟨s.toArray⟩ (w.alloc (.cells #[(),(),"s"] 129)) jy) hg);have HD:=hD (decE_refNil hg);clear hg;go_in;go_wp2_with fail;refine HL.mono ?_;rintro e w1 ⟨⟨A,c,rfl,_,_,_⟩,b1⟩;have B1:=hD (bon B0.out b1);have hz:w.heap.size<w1.heap.size:=by have:=b1.size;simp at this;omega
 obtain⟨⟨c0,c1,c2⟩,f0,f1,f2⟩:=own3 (by simpa using b1);clear b1;simp only[aJ];exact fo105
theorem zem(s:List UInt8)(t:List (List UInt8))(w:World)(hs:s.length≤1048576)(hg:y7 s=some (y9::t)):Calls prog 104 #[s] w (RetDec (decE s) w):=by
 have B0:=hD (za w (.cells #[(),(),"s"] 129));have HL:=hD (zbe (YC ⟨s.toArray⟩ (w.alloc (.cells #[(),(),"s"] 129)) jy) hg);have HD:=hD (zew hg);have hlen:=zbo hg;have HR:=hD (O3.new w (.int .i64 0) (.int .i64 0) (.slice none 0 0) 129);have ht:t.length≤25:=by have:=hlen.1;simp only[au]at this;omega
 have htc:((t.length:Int)+1 == 0)=false:=by rw[aF];omega
 clear hlen;clear hg;go_in;go_wp2_with fail;refine HL.mono ?_;rintro e w1 ⟨⟨A,c,rfl,r1,hc,hcm⟩,b1⟩;have B1:=hD (bon B0.out b1);have HR1:=hD (HR.below b1);obtain⟨g,o,rfl,hgl,hcc⟩:=r1.cells jep;have a0:w1.cell? ⟨g,o,none⟩=some (.string ⟨#[102,105,110,105,115,104]⟩):=by simpa[strC,y9]using hcc 0 _ rfl
 have hn1:=HR1.lt;have HO1:=hD (O3.new w1 (.int .i64 0) (.int .i64 0) (.slice none 0 0) 129);have HO3':=hD (O3.new w1 (.int .i64 3) (.int .i64 0) (.slice none 0 0) 129);have B3':=hD (B1.out.alloc B1.out.size (.cells #[.int .i64 3,(),"s"] 129));have HR3':=hD (HR1.alloc (.cells #[.int .i64 3,(),"s"] 129));have e0:(w1.alloc (.cells #[(),(),"s"] 129)).cell? ⟨g,o,none⟩=some (.string ⟨#[102,105,110,105,115,104]⟩):=((za w1 _).cell (p:=⟨g,o,none⟩) hgl).trans a0;clear b1 r1 hcc;simp only[au];go_wp2_with fail;generalize w1.alloc (.cells #[.int .i64 3,(),"s"] 129)=wx at B3' HR3' HO3'⊢;have B3:=B3';have HR3:=HR3';have HO3:=HO3';have HQ3:=hD (zdt wx);have HVal:=ZB 3 0 [] none 0 wx HQ3.out;by_cases hv:vEn ⟨3,0,[]⟩=0
 · rw[hv]at HVal;refine HVal.mono ?_;rintro e w3 ⟨rfl,b3⟩;have B4:=hD (bon B3.out b3);have HR4:=hD (HR3.below b3);have HO4:=hD (HO3.below b3);have HQ4:=hD (HQ3.below b3);obtain⟨hlt4,p0,p1,p2,f0,f1,f2⟩:=HO4.out;clear b3;go_wp2_with fail;have HVl:=YY 3 0 [] none 0 w3 HQ4 hv;by_cases hq:valE ⟨3,0,[]⟩=s
   · rw[hq]at HVl;refine HVl.mono ?_;rintro e w4 ⟨rfl,b4⟩;have B5:=hD (bon B4.out b4);have HR5:=hD (HR4.below b4);have HO5:=hD (HO4.below b4);have HQ5:=hD (HQ4.below b4);have HY:Hid (decE s=some ⟨3,0,[]⟩):=hD (by rw[HD.out,zbR,af ⟨hv,hq⟩]);clear b4 p0 p1 p2 f0 f1 f2 hv hq;obtain⟨hlt5,p0,p1,p2,f0,f1,f2⟩:=HO5.out;obtain⟨hlt6,r0,r1,r2,s0,s1,s2⟩:=HR5.out;go_wp2_with fail;refine aj (v:= .tuple #[.agg #[.int .i64 (3),.int .i64 (0),"s"],()]) jat rfl (YO HY (((B5.out.setCell (ag _) _).setCell (ag _) _).setCell (ag _) _) rfl ?_);exact fo126
   · have HY:Hid (decE s=none):=hD (by rw[HD.out,zbR,aa (fun h=>hq h.2)]);have hq1:(valE ⟨3,0,[]⟩ == s)=false:=by simpa using hq
     generalize valE ⟨3,0,[]⟩=v at HVl hq1 hq;exact fo36
 · have HY:Hid (decE s=none):=hD (by rw[HD.out,zbR,aa (fun h=>hv h.1)]);generalize vEn ⟨3,0,[]⟩=v at HVal hv;exact fo29
theorem zfZ(s:List UInt8)(x:List UInt8)(w:World)(hs:s.length≤1048576)(hg:y7 s=some [Yq,x]):Calls prog 104 #[s] w (RetDec (decE s) w):=by
 have B0:=hD (za w (.cells #[(),(),"s"] 129));have HL:=hD (zbe (YC ⟨s.toArray⟩ (w.alloc (.cells #[(),(),"s"] 129)) jy) hg);have HD:=hD (zew hg);have hlen:=zbo hg;have HR:=hD (O3.new w (.int .i64 0) (.int .i64 0) (.slice none 0 0) 129);have hx:x.length≤200:=hlen.2 x jc;have HI64:=hD (numR_i64 x);clear hlen;clear hg;go_in;go_wp2_with fail;refine HL.mono ?_;rintro e w1 ⟨⟨A,c,rfl,r1,hc,hcm⟩,b1⟩;have B1:=hD (bon B0.out b1);have HR1:=hD (HR.below b1);obtain⟨g,o,rfl,hgl,hcc⟩:=r1.cells jep;have a0:w1.cell? ⟨g,o,none⟩=some (.string ⟨#[106,111,105,110]⟩):=by simpa[strC,Yq]using hcc 0 _ rfl
 have a1:w1.cell? ⟨g,o+1,none⟩=some (.string ⟨x.toArray⟩):=by simpa[strC]using hcc 1 _ rfl
 have hn1:=HR1.lt;have HO1:=hD (O3.new w1 (.int .i64 0) (.int .i64 0) (.slice none 0 0) 129);clear r1 hcc;simp only[au,aJ];go_wp2_with fail;refine(Z7 ⟨x.toArray⟩ _ jy).mono ?_;rintro e w2 ⟨rfl,b2⟩;have B2:=hD (bon (B1.out.alloc B1.out.size _) b2);have HR2:=hD ((HR1.below (za w1 _)).below b2);have HO2:=hD (HO1.below b2);obtain⟨hlt2,p0,p1,p2,f0,f1,f2⟩:=HO2.out;have B3:=hD ((B2.out.setCell (p:=⟨w1.heap.size,0,none⟩) jdy (.int .i64 2)).setCell (p:=⟨w1.heap.size,1,none⟩) jdy (.int .i64 (numR x)));have HR3:=hD ((HR2.far ⟨w1.heap.size,0,none⟩ jdz (.int .i64 2)).far ⟨w1.heap.size,1,none⟩ jdz (.int .i64 (numR x)));have HO3:=hD ((HO2.set0 (.int .i64 2)).set1 (.int .i64 (numR x)));clear b2 b1;go_wp2_with fail;clear p0 p1 p2 f0 f1 f2;generalize (w2.setCell ⟨w1.heap.size,0,none⟩ (.int .i64 2)).setCell ⟨w1.heap.size,1,none⟩ (.int .i64 (numR x))=wx at B3 HR3 HO3⊢;have HQ3:=hD (zdt wx);have HVal:=ZB 2 (numR x) [] none 0 wx HQ3.out;by_cases hv:vEn ⟨2,(numR x),[]⟩=0
 · rw[hv]at HVal;refine HVal.mono ?_;rintro e w3 ⟨rfl,b3⟩;have B4:=hD (bon B3.out b3);have HR4:=hD (HR3.below b3);have HO4:=hD (HO3.below b3);have HQ4:=hD (HQ3.below b3);obtain⟨hlt4,p0,p1,p2,f0,f1,f2⟩:=HO4.out;clear b3;go_wp2_with fail;have HVl:=YY 2 (numR x) [] none 0 w3 HQ4 hv;by_cases hq:valE ⟨2,(numR x),[]⟩=s
   · rw[hq]at HVl;refine HVl.mono ?_;rintro e w4 ⟨rfl,b4⟩;have B5:=hD (bon B4.out b4);have HR5:=hD (HR4.below b4);have HO5:=hD (HO4.below b4);have HQ5:=hD (HQ4.below b4);have HY:Hid (decE s=some ⟨2,(numR x),[]⟩):=hD (by rw[HD.out,zdQ,af ⟨hv,hq⟩]);clear b4 p0 p1 p2 f0 f1 f2 hv hq;obtain⟨hlt5,p0,p1,p2,f0,f1,f2⟩:=HO5.out;obtain⟨hlt6,r0,r1,r2,s0,s1,s2⟩:=HR5.out;go_wp2_with fail;refine aj (v:= .tuple #[.agg #[.int .i64 (2),.int .i64 ((numR x)),"s"],()]) jat rfl (YO HY (((B5.out.setCell (ag _) _).setCell (ag _) _).setCell (ag _) _) rfl ?_);exact fo126
   · have HY:Hid (decE s=none):=hD (by rw[HD.out,zdQ,aa (fun h=>hq h.2)]);have hq1:(valE ⟨2,(numR x),[]⟩ == s)=false:=by simpa using hq
     generalize valE ⟨2,(numR x),[]⟩=v at HVl hq1 hq;exact fo36
 · have HY:Hid (decE s=none):=hD (by rw[HD.out,zdQ,aa (fun h=>hv h.1)]);generalize vEn ⟨2,(numR x),[]⟩=v at HVal hv;exact fo29
theorem zfh(s:List UInt8)(h:List UInt8)(t:List (List UInt8))(w:World)(hs:s.length≤1048576)(hg:y7 s=some (h::t))(h1:h≠y9)(h2:¬(h=Yq∧t.length=1))(h3:¬(h=yR∧t.length % 3=0)):Calls prog 104 #[s] w (RetDec (decE s) w):=by
 have B0:=hD (za w (.cells #[(),(),"s"] 129));have HL:=hD (zbe (YC ⟨s.toArray⟩ (w.alloc (.cells #[(),(),"s"] 129)) jy) hg);have HD:=hD (zew hg);have hlen:=zbo hg;have HR:=hD (O3.new w (.int .i64 0) (.int .i64 0) (.slice none 0 0) 129);have HEq:=hD (readR_other h t h1 h2 h3);have ht:t.length≤25:=by have:=hlen.1;simp only[au]at this;omega
 have htc:((t.length:Int)+1 == 0)=false:=by rw[aF];omega
 have hf1:(h ==[102,105,110,105,115,104])=false:=by rw[aF];exact h1
 have hf2:¬h=[102,105,110,105,115,104]:=h1;have htm:((t.length:Int)+1).tmod 3=((t.length:Int)+1) % 3:=gM ja;have hways:((h ==[106,111,105,110])=false∧¬h=[106,111,105,110]∧(h ==[98,97,116,99,104])=false∧¬h=[98,97,116,99,104])∨(h=[106,111,105,110]∧((t.length:Int)+1 == 2)=false)∨(h=[98,97,116,99,104]∧(((t.length:Int)+1).tmod 3 == 1)=false):=by
  by_cases hj:h=[106,111,105,110]
  · exact .inr (.inl ⟨hj,by rw[aF];intro h9;exact h2 ⟨hj,by omega⟩⟩)
  · by_cases hb:h=[98,97,116,99,104]
    · exact .inr (.inr ⟨hb,by rw[aF,htm];intro h9;exact h3 ⟨hb,by omega⟩⟩)
    · exact .inl ⟨by rw[aF];exact hj,hj,by rw[aF];exact hb,hb⟩
 clear hlen h1 h2 h3;clear hg;go_in;go_wp2_with fail;refine HL.mono ?_;rintro e w1 ⟨⟨A,c,rfl,r1,hc,hcm⟩,b1⟩;have B1:=hD (bon B0.out b1);have HR1:=hD (HR.below b1);obtain⟨g,o,rfl,hgl,hcc⟩:=r1.cells jep;have a0:w1.cell? ⟨g,o,none⟩=some (.string ⟨h.toArray⟩):=by simpa[strC]using hcc 0 _ rfl
 have hn1:=HR1.lt;have HO1:=hD (O3.new w1 (.int .i64 0) (.int .i64 0) (.slice none 0 0) 129);have e0:(w1.alloc (.cells #[(),(),"s"] 129)).cell? ⟨g,o,none⟩=some (.string ⟨h.toArray⟩):=((za w1 _).cell (p:=⟨g,o,none⟩) hgl).trans a0;have B3:=hD (B1.out.alloc B1.out.size (.cells #[(),(),"s"] 129));have HR3:=hD (HR1.alloc (.cells #[(),(),"s"] 129));have HO3:=HO1;clear b1 r1 hcc;simp only[au];rcases hways with⟨j1,j2,j3,j4⟩|⟨rfl,j1⟩|⟨rfl,j1⟩;all_goals
  go_wp2_with fail;generalize w1.alloc (.cells #[(),(),"s"] 129)=wx at B3 HR3 HO3 e0⊢;have HQ3:=hD (zdt wx);have HVal:=ZB 0 0 [] none 0 wx HQ3.out;by_cases hv:vEn ⟨0,0,[]⟩=0
  · rw[hv]at HVal;refine HVal.mono ?_;rintro e w3 ⟨rfl,b3⟩;have B4:=hD (bon B3.out b3);have HR4:=hD (HR3.below b3);have HO4:=hD (HO3.below b3);have HQ4:=hD (HQ3.below b3);obtain⟨hlt4,p0,p1,p2,f0,f1,f2⟩:=HO4.out;clear b3;go_wp2_with fail;have HVl:=YY 0 0 [] none 0 w3 HQ4 hv;by_cases hq:valE ⟨0,0,[]⟩=s
    · rw[hq]at HVl;refine HVl.mono ?_;rintro e w4 ⟨rfl,b4⟩;have B5:=hD (bon B4.out b4);have HR5:=hD (HR4.below b4);have HO5:=hD (HO4.below b4);have HQ5:=hD (HQ4.below b4);have HY:Hid (decE s=some ⟨0,0,[]⟩):=hD (by rw[HD.out,HEq.out,af ⟨hv,hq⟩]);clear b4 p0 p1 p2 f0 f1 f2 hv hq;obtain⟨hlt5,p0,p1,p2,f0,f1,f2⟩:=HO5.out;obtain⟨hlt6,r0,r1,r2,s0,s1,s2⟩:=HR5.out;go_wp2_with fail;refine aj (v:= .tuple #[.agg #[.int .i64 (0),.int .i64 (0),"s"],()]) jat rfl (YO HY (((B5.out.setCell (ag _) _).setCell (ag _) _).setCell (ag _) _) rfl ?_);exact fo126
    · have HY:Hid (decE s=none):=hD (by rw[HD.out,HEq.out,aa (fun h=>hq h.2)]);have hq1:(valE ⟨0,0,[]⟩ == s)=false:=by simpa using hq
      generalize valE ⟨0,0,[]⟩=v at HVl hq1 hq;exact fo36
  · have HY:Hid (decE s=none):=hD (by rw[HD.out,HEq.out,aa (fun h=>hv h.1)]);generalize vEn ⟨0,0,[]⟩=v at HVal hv;exact fo29
theorem zeZ(s:List UInt8)(t:List (List UInt8))(w:World)(hs:s.length≤1048576)(hg:y7 s=some (yR::t))(h3:t.length % 3=0):Calls prog 104 #[s] w (RetDec (decE s) w):=by
 have B0:=hD (za w (.cells #[(),(),"s"] 129));have HL:=hD (zbe (YC ⟨s.toArray⟩ (w.alloc (.cells #[(),(),"s"] 129)) jy) hg);have HD:=hD (zew hg);have hlen:=zbo hg;have HR:=hD (O3.new w (.int .i64 0) (.int .i64 0) (.slice none 0 0) 129);obtain⟨en,hen⟩:∃en,en=zcu (yR::t):=⟨_,rfl⟩;have HD2:Hid (decE s=if vEn en=0∧valE en=s then some en else none):=hD (by rw[hen];exact HD);have HEq:Hid (en=⟨1,0,zfW t⟩):=hD (by rw[hen];exact readR_batch t h3);clear HD hen;have HD:=HD2;clear HD2;have ht:t.length≤25:=by have:=hlen.1;simp only[au]at this;omega
 have HLen:Hid (∀x∈t,x.length≤200):=hD (fun x hx=>hlen.2 x (by simp[hx]));have htc:((t.length:Int)+1 == 0)=false:=by rw[aF];omega
 have ht3:(((t.length:Int)+1) % 3 == 1)=true:=by rw[aV];omega
 have HM:Hid (t.length % 3=0):=hD h3;obtain⟨i0,hi,hz0,hz1,hz2⟩:=info_parts infoR;have HI:=hD hi;have HZ0:=hD hz0;have HZ1:=hD hz1;have HZ2:=hD hz2;clear hi hz0 hz1 hz2 hlen h3;clear hg;go_in;go_wp2_with fail;refine HL.mono ?_;rintro e w1 ⟨⟨A,c,rfl,r1,hc,hcm⟩,b1⟩;have B1:=hD (bon B0.out b1);have HR1:=hD (HR.below b1);obtain⟨g,o,rfl,hgl,hcc⟩:=r1.cells jep;have a0:w1.cell? ⟨g,o,none⟩=some (.string ⟨#[98,97,116,99,104]⟩):=by simpa[strC,yR]using hcc 0 _ rfl
 have hn1 := HR1.lt; have HO1 := hD (O3.new w1 (.int .i64 0) (.int .i64 0) (.slice none 0 0) 129); have HCC : Hid (∀ (j : Nat) (x : List UInt8), t[j]? = some x → ∀ W, Below w1.heap.size w1 W → W.cell? ⟨g, o + (j + 1), none⟩ = some (.string ⟨x.toArray⟩)) := hD (fun j x hx W hW => (hW.cell (p := ⟨g, o + (j + 1), none⟩) hgl).trans (hcc (j + 1) _ (by simp [strC, hx]))); have e0 : (w1.alloc (.cells #[(), (), "s"] 129)).cell? ⟨g, o, none⟩ = some (.string ⟨#[98, 97, 116, 99, 104]⟩) := ((za w1 _).cell (p := ⟨g, o, none⟩) hgl).trans a0; have HO2 := hD (O3.new w1 (.int .i64 1) (.int .i64 0) (.slice none 0 0) 129); have B2 : Hid (Below w1.heap.size w1 (w1.alloc (.cells #[.int .i64 1, (), "s"] 129))) := hD (za w1 _); clear b1 r1 hcc; simp only [au]; go_wp2_with fail; generalize w1.alloc (.cells #[.int .i64 1, (), "s"] 129) = w2 at B2 HO2 ⊢; have hz2 := HO2.lt; go_loopw [7] (fun i wr => ∃ (k m : Nat) (A3 : Option Addr) (c3 : Nat) (done : List Rq), i = .int .i64 (m : Nat) ∧ m = 1 + 3 * k ∧ 3 * k ≤ t.length ∧ done.length = k ∧ en = ⟨1, 0, done ++ zfW (t.drop (3 * k))⟩ ∧ (∀ r ∈ done, I64 r.client ∧ I64 r.number ∧ r.op.length ≤ 200) ∧
     O3 wr w1.heap.size (.int .i64 1) (.int .i64 0) (.slice A3 done.length c3)∧wr.ownsRow (w1.heap.size+1) 191 3 (.slice A3 done.length c3) done.length (done.flatMap rqC)∧Below w1.heap.size w1 wr∧w1.heap.size+1≤wr.heap.size)
     (fun i _=>t.length+1-(intOf i).toNat)
 case atStart=>exact⟨0,1,none,0,[],rfl,rfl,by omega,rfl,by rw[HEq.out];simp,by simp,HO2,aR _ _ _ _,B2.out,by omega⟩
 case round=>
  obtain⟨k,m,A3,c3,done,rfl,hm,hk,hdl,hre,hdn,ho3,hown,hb,hge⟩:=hrel;have HRe:=hD hre;have HDn:=hD hdn;have HO:=hD ho3;have HOwn:=hD hown;have HB:=hD hb;have HM3:=HM.out;clear hre hdn ho3 hown hb;by_cases hlt:3 * k<t.length
  · have h2:3 * k+2<t.length:=by omega
    obtain⟨a,ha⟩:∃a,t[3 * k]? =some a:=⟨_,aP ja⟩;obtain⟨b,hb⟩:∃b,t[3 * k+1]? =some b:=⟨_,aP ja⟩;obtain⟨d,hd⟩:∃d,t[3 * k+2]? =some d:=⟨_,aP ja⟩;have hdrop:t.drop (3 * k)=a::b::d::t.drop (3 *(k+1)):=by
     have g0:=bB (l:=t) (i:=3 * k) ja;have g1:=bB (l:=t) (i:=3 * k+1) ja;have g2:=bB (l:=t) (i:=3 * k+2) ja;rw[aP ja]at ha hb hd;simp only[ax]at ha hb hd;rw[g0,g1,g2,ha,hb,hd,show 3 * k+2+1=3 *(k+1) from by omega]
    have hal:=HLen.out a (eG ha);have hbl:=HLen.out b (eG hb);have hdl2:=HLen.out d (eG hd);have HNum:Hid (∀(x:List UInt8) (W:World),x.length≤200→Below wr.heap.size wr W→Calls prog 150 #[x] W fun e w'=>e= .returned (.int .i64 (numR x))∧Below wr.heap.size wr w'):=hD (fun x W hx hW=>(Z7 ⟨x.toArray⟩ W jy).mono fun _ _ ⟨x,y⟩=>⟨x,bon hW y⟩);have HC:Hid (∀W,Below wr.heap.size wr W→W.cell? ⟨g,o+m,none⟩=some (.string ⟨a.toArray⟩)∧W.cell? ⟨g,o+(m+1),none⟩=some (.string ⟨b.toArray⟩)∧W.cell? ⟨g,o+(m+2),none⟩=some (.string ⟨d.toArray⟩)∧W.cell? ⟨w1.heap.size,2,none⟩=some (.slice A3 done.length c3)):=hD (fun W hW=>by
     have hW1:=bon HB hW;refine⟨?_,?_,?_,(HO.below hW).c2⟩
     · have:=HCC.out (3 * k) a ha W hW1;rwa[show 3 * k+1=m from by omega]at this
     · have:=HCC.out (3 * k+1) b hb W hW1;rwa[show 3 * k+1+1=m+1 from by omega]at this
     · have:=HCC.out (3 * k+2) d hd W hW1;rwa[show 3 * k+2+1=m+2 from by omega]at this)
    have hob:some w1.heap.size≠(Value.slice A3 done.length c3).ownBlock:=by
     intro h0;have:=(HOwn.lt w1.heap.size h0.symm).1;omega
    have hgb:some g≠(Value.slice A3 done.length c3).ownBlock:=by
     intro h0;have:=(HOwn.lt g h0.symm).1;omega
    have HCg:Hid (∀W w3,Below wr.heap.size wr W→W.grownBy w3 (Value.slice A3 done.length c3).ownBlock→w3.cell? ⟨g,o+m,none⟩=some (.string ⟨a.toArray⟩)∧w3.cell? ⟨g,o+(m+1),none⟩=some (.string ⟨b.toArray⟩)∧w3.cell? ⟨g,o+(m+2),none⟩=some (.string ⟨d.toArray⟩)∧w3.cell? ⟨w1.heap.size,2,none⟩=some (.slice A3 done.length c3)):=hD (fun W w3 hW hg=>by
     have hgW:g<W.heap.size:=aN hgl (ah ja hW.size);have hoW:w1.heap.size<W.heap.size:=aN ja hW.size;rw[hg.cell_far _ hgW hgb,hg.cell_far _ hgW hgb,hg.cell_far _ hgW hgb,hg.cell_far _ hoW hob];exact HC W hW)
    have HOW:Hid (∀W,Below wr.heap.size wr W→W.ownsRow (w1.heap.size+1) 191 3 (.slice A3 done.length c3) done.length (done.flatMap rqC)):=hD (fun W hW=>ownsRow_below HOwn hW);have H0:Below wr.heap.size wr wr:=ae _ _;have k0:(0:Int)≤(m:Int):=by omega
    have k1:(m:Int) <(t.length:Int)+1:=by omega
    have k2:(m:Int)+1<(t.length:Int)+1:=by omega
    have k3:(m:Int)+2<(t.length:Int)+1:=by omega
    have k4:m+2≤26:=by omega
    have n1:m<t.length+1:=by omega
    have n2:m+1<t.length+1:=by omega
    have n3:m+2<t.length+1:=by omega
    have j1:(0:Int)≤(m:Int)+1:=by omega
    have j2:(0:Int)≤(m:Int)+2:=by omega
    have w8:IntKind.i64.wrap ((m:Int)+1)=(m:Int)+1:=bL _ ja;have w9:IntKind.i64.wrap ((m:Int)+2)=(m:Int)+2:=bL _ ja;have u8:((m:Int)+1).toNat=m+1:=by omega
    have u9:((m:Int)+2).toNat=m+2:=by omega
    have HMk:=hD hm;have HDl:=hD hdl;have hd9:done.length≤9:=by omega
    clear hm hdl;clear ha hb hd;have HRe2:Hid (en=⟨1,0,(done++ [(⟨numR a,numR b,d⟩:Rq)])++zfW (t.drop (3 *(k+1)))⟩):=hD (by rw[HRe.out,hdrop];simp[zfW]);clear hdrop;have HC3:Hid (∀W,Below wr.heap.size wr W→W.cell? ⟨g,o+m,none⟩=some (.string ⟨a.toArray⟩)∧W.cell? ⟨g,o+(m+1),none⟩=some (.string ⟨b.toArray⟩)∧W.cell? ⟨g,o+(m+2),none⟩=some (.string ⟨d.toArray⟩)):=hD (fun W hW=>⟨(HC W hW).1,(HC W hW).2.1,(HC W hW).2.2.1⟩);have HCg3:Hid (∀W w3,Below wr.heap.size wr W→W.grownBy w3 (Value.slice A3 done.length c3).ownBlock→w3.cell? ⟨g,o+m,none⟩=some (.string ⟨a.toArray⟩)∧w3.cell? ⟨g,o+(m+1),none⟩=some (.string ⟨b.toArray⟩)∧w3.cell? ⟨g,o+(m+2),none⟩=some (.string ⟨d.toArray⟩)):=hD (fun W w3 hW hg=>⟨(HCg W w3 hW hg).1,(HCg W w3 hW hg).2.1,(HCg W w3 hW hg).2.2.1⟩);have hgl':g≠w1.heap.size:=by omega
    have HCs:Hid (∀W w3 v,Below wr.heap.size wr W→W.grownBy w3 (Value.slice A3 done.length c3).ownBlock→(w3.setCell ⟨w1.heap.size,2,none⟩ v).cell? ⟨g,o+m,none⟩=some (.string ⟨a.toArray⟩)∧(w3.setCell ⟨w1.heap.size,2,none⟩ v).cell? ⟨g,o+(m+1),none⟩=some (.string ⟨b.toArray⟩)∧(w3.setCell ⟨w1.heap.size,2,none⟩ v).cell? ⟨g,o+(m+2),none⟩=some (.string ⟨d.toArray⟩)):=hD (fun W w3 v hW hg=>by
     have h9:=HCg3.out W w3 hW hg;refine⟨(bv _ _ _ _ ?_).trans h9.1,(bv _ _ _ _ ?_).trans h9.2.1,(bv _ _ _ _ ?_).trans h9.2.2⟩ <;>(intro he;injection he with h1;exact hgl' (by first|exact h1|exact h1.symm)))
    have x3:=(HC.out wr H0).2.2.2;clear hgl';go_wp2_with fail;refine aD ?_;refine aC (S:=fun W=>W.cell? ⟨g,o+m,none⟩=some (.string ⟨a.toArray⟩)∧W.cell? ⟨g,o+(m+1),none⟩=some (.string ⟨b.toArray⟩)∧W.cell? ⟨g,o+(m+2),none⟩=some (.string ⟨d.toArray⟩)) jb ?_ (fun hHeld=> ?_)
    · try dsimp only
      exact fo6
    refine takes [0,2,3,4,5,7,8,9,10,11,13,14,15,16,17] ?_;refine bG (rs:=[1,6]) jb jc ?_;refine aX (o:=_) rfl (fun K hK=> ?_) ?_
    · go_simp;refine hK.out _ _ ?_ (fun hHeld=> ?_)
      · exact fo6
      clear hK K;try simp only[Act.put,qk1,qk2,qk3]
      refine bG (rs:=[6]) jb jc ?_;refine aX (o:=_) rfl (fun K hK=> ?_) ?_
      · go_simp;go_at_call 150;refine(HNum _ _ je jap).mono ?_;rintro e w2 ⟨rfl,b2⟩;have x3:=(HC.out _ b2).2.2.2;go_wp2_with fail;exact fo237
      exact bD
    refine aX (o:=_) rfl (fun K hK=> ?_) ?_
    · go_simp;go_at_call 150;refine(HNum _ _ je jap).mono ?_;rintro e w2 ⟨rfl,b2⟩;have x3:=(HC.out _ b2).2.2.2;go_wp2_with fail;refine hK.out _ _ ?_ (fun hHeld=> ?_)
      · exact fo6
      clear hK K;try simp only[Act.put,qk1,qk2,qk3]
      refine bG (rs:=[1,12]) jb jc ?_;refine aX (o:=_) rfl (fun K hK=> ?_) ?_
      · go_simp;exact fo237
      refine aX (o:=_) rfl (fun K hK=> ?_) ?_
      · go_simp;go_at_call 150;refine(HNum _ _ je jap).mono ?_;rintro e w2 ⟨rfl,b2⟩;have x3:=(HC.out _ b2).2.2.2;go_wp2_with fail;refine hK.out _ _ ?_ (fun hHeld=> ?_)
        · exact fo6
        clear hK K;try simp only[Act.put,qk1,qk2,qk3]
        refine takes [18] ?_;refine bG (rs:=[1,19]) jb jc ?_;refine aX (o:=_) rfl (fun K hK=> ?_) ?_
        · go_simp;refine hK.out _ _ ?_ (fun hHeld=> ?_)
          · exact fo6
          clear hK K;try simp only[Act.put,qk1,qk2,qk3]
          exact fo295
        refine aX (o:=_) rfl (fun K hK=> ?_) ?_
        · go_simp;have x3:=(HC.out _ (bon b2 (za w2 (.cells #[numR a,numR b,d] 191)))).2.2.2;refine hK.out _ _ ?_ (fun hHeld=> ?_)
          · exact fo6
          clear hK K;try simp only[Act.put,qk1,qk2,qk3]
          refine bG (rs:=[1]) jb jc ?_;refine aX (o:=_) rfl (fun K hK=> ?_) ?_
          · go_simp;exact fo3
          exact bD
        exact bD
      exact bD
    exact bD
  · have hmk:¬(m:Int) <(t.length:Int)+1:=by omega
    have HEn:Hid (en=⟨1,0,done⟩):=hD (by rw[HRe.out,bJ ja,zfW,bE];intro _ _ _ _ h;cases h)
    have B3:=hD (bon B1.out HB);have HR3:=hD (HR1.below HB);have HO3:=hD HO.out;have hdn:=HDn.out;have HQ3:Hid (RqIn wr A3 c3 done):=hD ⟨Rd.own HOwn,zcF HOwn,own_max HOwn,by omega,fun r hr=>by have:=(hdn r hr).2.2;omega⟩;have HDl:=hD hdl;clear hdn hm hdl;obtain⟨hltx,p0,p1,p2,f0,f1,f2⟩:=HO3.out;obtain⟨wx,hwx⟩:∃wx,wx=wr:=⟨_,rfl⟩;subst hwx;go_wp2_with fail;clear p0 p1 p2 f0 f1 f2;have HVal:=ZB 1 0 done A3 c3 wx HQ3.out;by_cases hv:vEn ⟨1,0,done⟩=0
    · rw[hv]at HVal;refine HVal.mono ?_;rintro e w3 ⟨rfl,b3⟩;have B4:=hD (bon B3.out b3);have HR4:=hD (HR3.below b3);have HO4:=hD (HO3.below b3);have HQ4:=hD (HQ3.below b3);obtain⟨hlt4,p0,p1,p2,f0,f1,f2⟩:=HO4.out;clear b3;go_wp2_with fail;have HVl:=YY 1 0 done A3 c3 w3 HQ4 hv;by_cases hq:valE ⟨1,0,done⟩=s
      · rw[hq]at HVl;refine HVl.mono ?_;rintro e w4 ⟨rfl,b4⟩;have B5:=hD (bon B4.out b4);have HR5:=hD (HR4.below b4);have HO5:=hD (HO4.below b4);have HQ5:=hD (HQ4.below b4);have HY:Hid (decE s=some ⟨1,0,done⟩):=hD (by rw[HD.out,HEn.out,af ⟨hv,hq⟩]);clear b4 p0 p1 p2 f0 f1 f2 hv hq;obtain⟨hlt5,p0,p1,p2,f0,f1,f2⟩:=HO5.out;obtain⟨hlt6,r0,r1,r2,s0,s1,s2⟩:=HR5.out;go_wp2_with fail;refine aj (v:= .tuple #[.agg #[.int .i64 (1),.int .i64 (0),.slice A3 done.length c3],()]) jat rfl (YO HY (((B5.out.setCell (ag _) _).setCell (ag _) _).setCell (ag _) _) rfl ?_);exact fo194
      · have HY:Hid (decE s=none):=hD (by rw[HD.out,HEn.out,aa (fun h=>hq h.2)]);have hq1:(valE ⟨1,0,done⟩ == s)=false:=by simpa using hq
        generalize valE ⟨1,0,done⟩=v at HVl hq1 hq;exact fo36
    · have HY:Hid (decE s=none):=hD (by rw[HD.out,HEn.out,aa (fun h=>hv h.1)]);generalize vEn ⟨1,0,done⟩=v at HVal hv;exact fo29
theorem refDecode_any(s:List UInt8)(w:World)(hs:s.length≤1048576):Calls prog 104 #[s] w (RetDec (decE s) w):=by
 cases hg:y7 s with
 |none=>exact refDecode_bad s w hs hg
 |some l=>
  cases l with
  |nil=>exact refDecode_nil s w hs hg
  |cons h t=>
   by_cases h1:h=y9
   · subst h1;exact zem s t w hs hg
   · by_cases h2:h=Yq∧t.length=1
     · obtain⟨rfl,h2⟩:=h2;match t,h2 with
       | [x],_=>exact zfZ s x w hs hg
     · by_cases h3:h=yR∧t.length % 3=0
       · obtain⟨rfl,h3⟩:=h3;exact zeZ s t w hs hg h3
       · exact zfh s h t w hs hg h1 h2 h3
end Go.Proofs.YtepbbaifpckcpaaGreatDoor.Q40
namespace Go.Proofs.YtepbbaifpckcpaaGreatDoor
set_option maxRecDepth 100000
open Go.RowKit
noncomputable def entB(s:List UInt8):Bool:=(Q40.decE s).isSome
variable{w:World}
theorem env40(h:Env w):Q40.Env w:=⟨h.pow,h.syn,h.rng⟩
theorem isEntry_any(s:List UInt8)(w:World)(he:Env w)(hs:s.length≤1048576):Calls prog 60 #[s] w (zK (entB s) w):=by
 have HD:=hD (Q40.decode_any s w (env40 he) hs);clear he;exact fo58
theorem refEnt53_any(s:List UInt8)(w:World)(hs:s.length≤1048576):Calls prog 65 #[s] w (zK (entB s) w):=by
 have HD:=hD (Q40.refDecode_any s w hs);exact fo58
def EnA(F:Nat)(E:List UInt8→Bool)(w:World):Prop:=∀t W,t.length≤1048576→Below w.heap.size w W→Calls prog F #[.string ⟨t.toArray⟩] W (zK (E t) W)
theorem enA_tr(he:Env w):EnA 60 entB w:=fun t W ht hb=>isEntry_any t W (he.below hb) ht
theorem enA_ref(w:World):EnA 65 entB w:=fun t W ht _=>refEnt53_any t W ht
theorem EnA.below{F:Nat}{E:List UInt8→Bool}{w':World}(h:EnA F E w)(hb:Below w.heap.size w w'):EnA F E w':=fun t W ht hW=>h t W ht (bon hb hW)
