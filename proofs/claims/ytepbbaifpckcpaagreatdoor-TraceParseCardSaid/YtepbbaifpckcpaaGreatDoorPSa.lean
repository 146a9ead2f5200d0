/- The source's block, and the contracts of message.take. -/
import Derived.Test.YtepbbaifpckcpaaGreatDoorPVa
import Derived.Test.YtepbbaifpckcpaaGreatDoorPWg
open Go.Proofs.Tryz
namespace Go.Proofs.YtepbbaifpckcpaaGreatDoor
open Go.RowKit
structure Ss (w:World) (g:Nat) (s:Sc):Prop where
 lt:g<w.heap.size
 c0:w.cell? ⟨g,0,none⟩=some (.string ⟨s.rest.toArray⟩)
 c1:w.cell? ⟨g,1,none⟩=some (.bool s.bad)
 f0:w.frozen? ⟨g,0,none⟩=false
 f1:w.frozen? ⟨g,1,none⟩=false
variable{α:Type}{args:Array Value}{fn:Func}{f:FuncId}{cs:List Value}{xs:List α}{B T a b b' b4 c g j k n q:Nat}{F:Nat→Prop}{A:Option Addr}{s s' s1 sj:Sc}{x:Sg}{p:Tmp}{ty:TypeId}{o:Value}{W W' w w' w1 w2 wr:World}{P Q:World→Prop}
theorem Ss.below(h:Ss w g s)(hb:Below w.heap.size w w'):Ss w' g s where
 lt:=aN h.lt hb.size
 c0:=(hb.cell (p:=⟨g,0,none⟩) h.lt).trans h.c0
 c1:=(hb.cell (p:=⟨g,1,none⟩) h.lt).trans h.c1
 f0:=(hb.frozen (p:=⟨g,0,none⟩) h.lt).trans h.f0
 f1:=(hb.frozen (p:=⟨g,1,none⟩) h.lt).trans h.f1
theorem Ss.set0(h:Ss w g s)(r:List UInt8):Ss (w.setCell ⟨g,0,none⟩ (.string ⟨r.toArray⟩)) g ⟨r,s.bad⟩ where
 lt:=by simpa using h.lt
 c0:=dx _ _ _ h.c0
 c1:=(bv _ _ _ _ jc).trans h.c1
 f0:=(zbr _ _ _ _).trans h.f0
 f1:=(zbr _ _ _ _).trans h.f1
theorem Ss.set1(h:Ss w g s)(b:Bool):Ss (w.setCell ⟨g,1,none⟩ (.bool b)) g ⟨s.rest,b⟩ where
 lt:=by simpa using h.lt
 c0:=(bv _ _ _ _ jc).trans h.c0
 c1:=dx _ _ _ h.c1
 f0:=(zbr _ _ _ _).trans h.f0
 f1:=(zbr _ _ _ _).trans h.f1
def SsTo(w:World)(g:Nat)(s:Sc)(w':World):Prop:=w.grownBy w' (some g)∧Ss w' g s
theorem SsTo.refl(h:Ss w g s):SsTo w g s w:=⟨Zm (ae _ _) _,h⟩
theorem SsTo.trans(h:SsTo w g s w1)(k:SsTo w1 g s' w2):SsTo w g s' w2:=⟨h.1.trans k.1,k.2⟩
theorem SsTo.below(h:SsTo w g s w1)(k:Below w1.heap.size w1 w2):SsTo w g s w2:=⟨h.1.trans (Zm k _),h.2.below k⟩
theorem SsTo.set0(h:SsTo w g s w1)(r:List UInt8):SsTo w g ⟨r,s.bad⟩ (w1.setCell ⟨g,0,none⟩ (.string ⟨r.toArray⟩)):=⟨h.1.trans (ze _ _ _),h.2.set0 r⟩
theorem SsTo.set1(h:SsTo w g s w1)(b:Bool):SsTo w g ⟨s.rest,b⟩ (w1.setCell ⟨g,1,none⟩ (.bool b)):=⟨h.1.trans (ze _ _ _),h.2.set1 b⟩
theorem SsTo.set0'(h:SsTo w g s w1)(r:List UInt8)(x:ByteArray)(hx:x=⟨r.toArray⟩):SsTo w g ⟨r,s.bad⟩ (w1.setCell ⟨g,0,none⟩ (.string x)):=hx▸h.set0 r
theorem SsTo.eq(h:SsTo w g s w1)(e:s=s'):SsTo w g s' w1:=e▸h
theorem Ss.drew(h:Ss w g s):Ss w.drew g s:=h.below (ae _ _).drew
theorem Ss.alloc(h:Ss w g s)(o:Obj):Ss (w.alloc o) g s:=h.below (za _ _)
theorem Ss.new(w:World)(r:List UInt8)(b:Bool)(T:TypeId):Ss (w.alloc (.cells #[r,b] T)) w.heap.size ⟨r,b⟩ where
 lt:=by simp
 c0:=by simp
 c1:=by simp
 f0:=by simp
 f1:=by simp
def yV(b:Nat)(w w':World):Prop:=w.heap.size≤w'.heap.size∧∀k,b≤k→k<w.heap.size→w'.heap[k]? =w.heap[k]?
theorem yV.refl(b:Nat)(w:World):yV b w w:=⟨ag _,fun _ _ _=>rfl⟩
theorem yV.trans(h:yV b w w1)(k:yV b w1 w2):yV b w w2:=
 ⟨ah h.1 k.1,fun i hb hi=>(k.2 i hb (aN hi h.1)).trans (h.2 i hb hi)⟩
theorem yV.up(h:yV b w w')(hb:b≤b'):yV b' w w':=⟨h.1,fun i hi=>h.2 i (ah hb hi)⟩
theorem zl(b:Nat)(h:Below w.heap.size w w'):yV b w w':=⟨h.size,fun k _ hk=>h.block k hk⟩
theorem zh(h:w.grownBy w' (some g))(hg:g<b):yV b w w':=⟨h.size,fun k hb hk=>h.block k hk (fun e=>by simp only[ax]at e;omega)⟩
theorem keeps_row{row:Option Nat}(h:w.grownBy w' row)(hg:∀g,row=some g→g<b):yV b w w':=⟨h.size,fun k hb hk=>h.block k hk (fun e=>by have:=hg k e.symm;omega)⟩
def yG(b:Nat)(P:World→Prop)(w:World):Prop:=∀w',yV b w w'→P w'
theorem yG.out(h:yG b P w):P w:=h w (yV.refl _ _)
theorem yG.on(h:yG b P w)(k:yV b w w1):yG b P w1:=fun w' h'=>h w' (k.trans h')
theorem yG.low(h:yG b P w)(hb:b'≤b):yG b' P w:=fun w' h'=>h w' (h'.up hb)
theorem yG.imp(h:yG b P w)(k:∀w',P w'→Q w'):yG b Q w:=fun w' h'=>k w' (h w' h')
theorem yG.and(h:yG b P w)(k:yG b Q w):yG b (fun w=>P w∧Q w) w:=fun w' h'=>⟨h w' h',k w' h'⟩
theorem zbD{P:Prop}(h:P):yG b (fun _=>P) w:=fun _ _=>h
theorem Yd{base e:Nat}{xs:List Value}(h:w.ownsRow base e k (.slice A n c) n xs)(hb:b≤base):yG b (fun w=>Rd w k A n xs) w:=by
 intro w' hw;refine Rd.own (base:=base) (e:=e) (c:=c) ⟨h.1,?_⟩;rcases h.2 with h1|⟨g,cap,cur,hv,hge,hg,rest⟩
 · exact .inl h1
 · have hlt:g<w.heap.size:=(h.lt g (by rw[hv];rfl)).2;exact .inr ⟨g,cap,cur,hv,hge,(hw.2 g ja hlt).trans hg,rest⟩
theorem zdq:yG b (fun w=>Rd w k A 0 []) w:=fun w' _=>Rd.nil w' k A
theorem Yx{T:TypeId}(h:cs.length=n * k)(hb:b≤w.heap.size):yG b (fun w'=>Rd w' k (some ⟨w.heap.size,0,none⟩) n cs) (w.alloc (.cells cs.toArray T)):=by
 intro w' hw;have hr:=zdb w k n cs T h;refine⟨hr.len,fun hj=>⟨w.heap.size,0,rfl,aN jc hw.1,fun j u hu=> ?_⟩⟩;have h1:(w.alloc (.cells cs.toArray T)).cell? ⟨w.heap.size,0+j,none⟩=some u:=by rw[←zaO];exact zN w cs T _ rfl j u hu
 rw[←h1];simp only[World.cell?];rw[hw.2 w.heap.size hb jc]
/-! what comes back from a source -/
def RetText(g:Nat)(r:List UInt8 × Sc)(w:World)(e:Ending)(w':World):Prop:=e= .returned (.string ⟨r.1.toArray⟩)∧SsTo w g r.2 w'
def RetTexts(g:Nat)(r:List (List UInt8) × Sc)(w:World)(e:Ending)(w':World):Prop:=
 ∃A c,e= .returned (.slice A r.1.length c)∧yG w.heap.size (fun w=>Rd w 1 A r.1.length (strC r.1)) w'∧SsTo w g r.2 w'
def zeE(g:Nat)(r:List Int × Sc)(w:World)(e:Ending)(w':World):Prop:=
 ∃A c,e= .returned (.slice A r.1.length c)∧yG w.heap.size (fun w=>Rd w 1 A r.1.length (intC r.1)) w'∧SsTo w g r.2 w'
theorem ret_text{r r':List UInt8 × Sc}(h:r=r')(k:SsTo w g r'.2 w'):RetText g r w (.returned (.string ⟨r'.1.toArray⟩)) w':=by subst h;exact⟨rfl,k⟩
theorem ret_texts{r r':List (List UInt8) × Sc}(h:r=r')(hn:n=r'.1.length)(hr:yG w.heap.size (fun w=>Rd w 1 A r'.1.length (strC r'.1)) w')(k:SsTo w g r'.2 w'):RetTexts g r w (.returned (.slice A n c)) w':=by subst h hn;exact⟨A,c,rfl,hr,k⟩
theorem zes{r r':List Int × Sc}(h:r=r')(hn:n=r'.1.length)(hr:yG w.heap.size (fun w=>Rd w 1 A r'.1.length (intC r'.1)) w')(k:SsTo w g r'.2 w'):zeE g r w (.returned (.slice A n c)) w':=by subst h hn;exact⟨A,c,rfl,hr,k⟩
set_option maxRecDepth 100000
set_option maxHeartbeats 2000000
theorem ext_list(r:List UInt8)(k:Nat)(_h:k≤r.length):(ByteArray.mk r.toArray).extract k r.length=⟨(r.drop k).toArray⟩:=by
 rw[zeN];simp only[];rw[bi jc]
theorem zfk{s:List UInt8}{xs:List (List UInt8)}(h:zF s=some (xs,k)):k≤s.length:=
 (zbk yg szS (fun s x k h=>by have:=Zj h;unfold szS;omega) h).2
theorem YQ{s:List UInt8}{xs:List Int}(h:zy s=some (xs,k)):k≤s.length:=
 (zbk Za (fun _=>1) (fun s x k h=>getInt_le s x k h) h).2
theorem takeText_any(g:Nat)(s:Sc)(w:World)(hs:Ss w g s)(hl:s.rest.length≤1099511627776) :
    Calls prog 233 #[.pointer (some ⟨g,0,none⟩),.func (.func 204) #[] #[]] w (RetText g (yx s) w):=by
 obtain⟨r,b⟩:=s;have hlen:(ByteArray.mk r.toArray).size≤70368744177664:=by rw[size_mk];exact ah hl jf
 have c0:=hs.c0;have c1:=hs.c1;have f0:=hs.f0;have f1:=hs.f1;have lt:=hs.lt;simp only at c0 c1;have HS:=hD hs;cases hg:yg r with
 |none=>
  have HG:=hD (zc2 ⟨r.toArray⟩ w hlen jcc);have HR:Hid (yx ⟨r,b⟩=([],⟨r,true⟩)):=hD (by unfold yx tkR;cases b <;> simp[hg])
  clear hg hs;go_in;go_wp2_with fail;refine HG.mono ?_;rintro e w' ⟨rfl,c,hc,rfl⟩;have hc1:(c == 0)=false:=by simpa using hc
  have hc2:(c != 0)=true:=by simpa using hc
  exact fo217
 |some y=>
  obtain⟨x,k⟩:=y;have HG:=hD (ze4 ⟨r.toArray⟩ w hlen x k jcc);have hk:=Zj hg;obtain⟨k0,k1,k2⟩:=hk;cases b with
  |true=>
   have HR:Hid (yx ⟨r,true⟩=([],⟨r,true⟩)):=hD rfl;clear hg hs;go_in;go_wp2_with fail;refine HG.mono ?_;rintro e w' ⟨rfl,rfl⟩;exact fo217
  |false=>
   have HR:Hid (yx ⟨r,false⟩=(x,⟨r.drop k,false⟩)):=hD (by unfold yx tkR;simp[hg]);have HX:=hD (ext_list r k k1);clear hg hs;go_in;go_wp2_with fail;refine HG.mono ?_;rintro e w' ⟨rfl,rfl⟩;go_wp2_with fail;go_ret;exact ret_text HR ((SsTo.refl HS).set0' _ _ HX)
theorem Y9(g:Nat)(s:Sc)(w:World)(hs:Ss w g s)(hl:s.rest.length≤1099511627776) :
    Calls prog 182 #[.pointer (some ⟨g,0,none⟩)] w (RetText g (yx s) w):=by
 have H:=hD (takeText_any g s w hs hl);exact fo164
theorem takeTexts_any(g:Nat)(s:Sc)(w:World)(hs:Ss w g s)(hl:s.rest.length≤1099511627776) :
    Calls prog 240 #[.pointer (some ⟨g,0,none⟩),.func (.func 140) #[] #[]] w (RetTexts g (tkR zF [] s) w):=by
 obtain⟨r,b⟩:=s;have hlen:(ByteArray.mk r.toArray).size≤1099511627776:=by rw[size_mk];exact hl
 have c0:=hs.c0;have c1:=hs.c1;have f0:=hs.f0;have f1:=hs.f1;have lt:=hs.lt;simp only at c0 c1;have HS:=hD hs;have HA:=getTexts_any ⟨r.toArray⟩ w hlen;cases hg:zF r with
 |none=>
  have HG:=hD (zfa HA jcc);have HR:Hid (tkR zF [] ⟨r,b⟩=([],⟨r,true⟩)):=hD (by unfold tkR;cases b <;> simp[hg])
  clear hg hs HA;go_in;go_wp2_with fail;refine HG.mono ?_;rintro e w' ⟨⟨c,hc,rfl⟩,hb⟩;have hc1:(c == 0)=false:=by simpa using hc
  have hc2:(c != 0)=true:=by simpa using hc
  have HS1:=hD ((SsTo.refl HS).below hb);have d0:=HS1.2.c0;have d1:=HS1.2.c1;have e0:=HS1.2.f0;have e1:=HS1.2.f1;have dlt:=HS1.2.lt;clear hb c0 c1 f0 f1 lt;exact fo210
 |some y=>
  obtain⟨x,k⟩:=y;have HG:=hD (zeF HA jcc);have k1:=zfk hg;cases b with
  |true=>
   have HR:Hid (tkR zF [] ⟨r,true⟩=([],⟨r,true⟩)):=hD rfl;clear hg hs HA;go_in;go_wp2_with fail;refine HG.mono ?_;rintro e w' ⟨⟨A,c,rfl,hr⟩,hb⟩;have HS1:=hD ((SsTo.refl HS).below hb);have d0:=HS1.2.c0;have d1:=HS1.2.c1;have e0:=HS1.2.f0;have e1:=HS1.2.f1;have dlt:=HS1.2.lt;clear hb c0 c1 f0 f1 lt hr;exact fo210
  |false=>
   have HR:Hid (tkR zF [] ⟨r,false⟩=(x,⟨r.drop k,false⟩)):=hD (by unfold tkR;simp[hg]);have HX:=hD (ext_list r k k1);clear hg hs HA;go_in;go_wp2_with fail;refine HG.mono ?_;rintro e w' ⟨⟨A,c,rfl,hr⟩,hb⟩;have HS1:=hD ((SsTo.refl HS).below hb);have HQ:=hD ((Yd hr (ag _)).on (zh (ze w' ⟨g,0,none⟩ (.string ⟨(r.drop k).toArray⟩)) lt));have d0:=HS1.2.c0;have d1:=HS1.2.c1;have e0:=HS1.2.f0;have e1:=HS1.2.f1;have dlt:=HS1.2.lt;clear hb c0 c1 f0 f1 lt hr;go_wp2_with fail;go_ret;exact ret_texts HR rfl (by rw[HX.out];exact HQ) (HS1.set0' _ _ HX)
theorem zcc(g:Nat)(s:Sc)(w:World)(hs:Ss w g s)(hl:s.rest.length≤1099511627776) :
    Calls prog 231 #[.pointer (some ⟨g,0,none⟩),.func (.func 232) #[] #[]] w (zeE g (tkR zy [] s) w):=by
 obtain⟨r,b⟩:=s;have hlen:(ByteArray.mk r.toArray).size≤1099511627776:=by rw[size_mk];exact hl
 have c0:=hs.c0;have c1:=hs.c1;have f0:=hs.f0;have f1:=hs.f1;have lt:=hs.lt;simp only at c0 c1;have HS:=hD hs;have HA:=zfy ⟨r.toArray⟩ w hlen;cases hg:zy r with
 |none=>
  have HG:=hD (zau HA jcc);have HR:Hid (tkR zy [] ⟨r,b⟩=([],⟨r,true⟩)):=hD (by unfold tkR;cases b <;> simp[hg])
  clear hg hs HA;go_in;go_wp2_with fail;refine HG.mono ?_;rintro e w' ⟨⟨c,hc,rfl⟩,hb⟩;have hc1:(c == 0)=false:=by simpa using hc
  have hc2:(c != 0)=true:=by simpa using hc
  have HS1:=hD ((SsTo.refl HS).below hb);have d0:=HS1.2.c0;have d1:=HS1.2.c1;have e0:=HS1.2.f0;have e1:=HS1.2.f1;have dlt:=HS1.2.lt;clear hb c0 c1 f0 f1 lt;exact fo212
 |some y=>
  obtain⟨x,k⟩:=y;have HG:=hD (YX HA jcc);have k1:=YQ hg;cases b with
  |true=>
   have HR:Hid (tkR zy [] ⟨r,true⟩=([],⟨r,true⟩)):=hD rfl;clear hg hs HA;go_in;go_wp2_with fail;refine HG.mono ?_;rintro e w' ⟨⟨A,c,rfl,hr⟩,hb⟩;have HS1:=hD ((SsTo.refl HS).below hb);have d0:=HS1.2.c0;have d1:=HS1.2.c1;have e0:=HS1.2.f0;have e1:=HS1.2.f1;have dlt:=HS1.2.lt;clear hb c0 c1 f0 f1 lt hr;exact fo212
  |false=>
   have HR:Hid (tkR zy [] ⟨r,false⟩=(x,⟨r.drop k,false⟩)):=hD (by unfold tkR;simp[hg]);have HX:=hD (ext_list r k k1);clear hg hs HA;go_in;go_wp2_with fail;refine HG.mono ?_;rintro e w' ⟨⟨A,c,rfl,hr⟩,hb⟩;have HS1:=hD ((SsTo.refl HS).below hb);have HQ:=hD ((Yd hr (ag _)).on (zh (ze w' ⟨g,0,none⟩ (.string ⟨(r.drop k).toArray⟩)) lt));have d0:=HS1.2.c0;have d1:=HS1.2.c1;have e0:=HS1.2.f0;have e1:=HS1.2.f1;have dlt:=HS1.2.lt;clear hb c0 c1 f0 f1 lt hr;go_wp2_with fail;go_ret;exact zes HR rfl (by rw[HX.out];exact HQ) (HS1.set0' _ _ HX)
theorem za6(g:Nat)(s:Sc)(w:World)(hs:Ss w g s)(hl:s.rest.length≤1099511627776) :
    Calls prog 191 #[.pointer (some ⟨g,0,none⟩)] w (RetTexts g (ZW s) w):=by
 have H:=hD (takeTexts_any g s w hs hl);clear hs;go_in;go_wp2_with fail;refine H.mono ?_;rintro e w' ⟨A,c,rfl,hr,h⟩;have HQ:=hD hr;have HH:=hD h;clear h hr;go_wp2_with fail;go_ret;exact⟨A,c,rfl,HQ,HH⟩
theorem mk1(w:World):(Instr.makeSlice 46 (.int .i64 1) (.int .i64 1)).run prog w= .ok (.slice (some ⟨w.heap.size,0,none⟩) 1 1) (w.alloc (.cells #[()] 3)):=by kernel_rfl
theorem zeT(g:Nat)(s:Sc)(w:World)(hs:Ss w g s)(hl:s.rest.length≤1099511627776) :
    Calls prog 181 #[.pointer (some ⟨g,0,none⟩),.int .i64 1] w (zeE g (yT 1 s) w):=by
 have H:=hD (zcc g s w hs hl);have lt:=hs.lt;clear hs;obtain⟨p,hp⟩:∃p,p=tkR zy [] s:=⟨_,rfl⟩;obtain⟨xs,s'⟩:=p;by_cases hq:xs.length=1
 · have HR:Hid (yT 1 s=(xs,s')):=hD jef;rw[←hp]at H;have hq1:((xs.length:Int) == 1)=true:=by simp[hq]
   have hq2:((xs.length:Int) != 1)=false:=by simp[hq]
   exact fo71
 · have HR:Hid (yT 1 s=(List.replicate 1 0,⟨s'.rest,true⟩)):=hD jeg;rw[←hp]at H;have hq1:((xs.length:Int) == 1)=false:=by rw[aF];omega
   have hq2:((xs.length:Int) != 1)=true:=by rw[bO];omega
   have hmk:=mk1;clear hp hq;go_in;go_wp2_with fail;refine H.mono ?_;rintro e w' ⟨A,c,rfl,hr,h⟩;have HH:=hD (h.set1 true);have d0:=h.2.c0;have d1:=h.2.c1;have e0:=h.2.f0;have e1:=h.2.f1;have dlt:=h.2.lt;have hsz:w.heap.size≤(w'.setCell ⟨g,1,none⟩ (.bool true)).heap.size:=by have:=h.1.size;simpa using this
   have HQ:=hD (Yx (b:=w.heap.size) (k:=1) (n:=1) (cs:=intC (List.replicate 1 0)) (T:=3) (w:=w'.setCell ⟨g,1,none⟩ (.bool true)) rfl hsz);exact fo107
theorem mk4(w:World):(Instr.makeSlice 46 (.int .i64 4) (.int .i64 4)).run prog w= .ok (.slice (some ⟨w.heap.size,0,none⟩) 4 4) (w.alloc (.cells #[(),(),(),()] 3)):=by kernel_rfl
theorem ints4_any(g:Nat)(s:Sc)(w:World)(hs:Ss w g s)(hl:s.rest.length≤1099511627776) :
    Calls prog 181 #[.pointer (some ⟨g,0,none⟩),.int .i64 4] w (zeE g (yT 4 s) w):=by
 have H:=hD (zcc g s w hs hl);have lt:=hs.lt;clear hs;obtain⟨p,hp⟩:∃p,p=tkR zy [] s:=⟨_,rfl⟩;obtain⟨xs,s'⟩:=p;by_cases hq:xs.length=4
 · have HR:Hid (yT 4 s=(xs,s')):=hD jef;rw[←hp]at H;have hq1:((xs.length:Int) == 4)=true:=by simp[hq]
   have hq2:((xs.length:Int) != 4)=false:=by simp[hq]
   exact fo71
 · have HR:Hid (yT 4 s=(List.replicate 4 0,⟨s'.rest,true⟩)):=hD jeg;rw[←hp]at H;have hq1:((xs.length:Int) == 4)=false:=by rw[aF];omega
   have hq2:((xs.length:Int) != 4)=true:=by rw[bO];omega
   have hmk:=mk4;clear hp hq;go_in;go_wp2_with fail;refine H.mono ?_;rintro e w' ⟨A,c,rfl,hr,h⟩;have HH:=hD (h.set1 true);have d0:=h.2.c0;have d1:=h.2.c1;have e0:=h.2.f0;have e1:=h.2.f1;have dlt:=h.2.lt;have hsz:w.heap.size≤(w'.setCell ⟨g,1,none⟩ (.bool true)).heap.size:=by have:=h.1.size;simpa using this
   have HQ:=hD (Yx (b:=w.heap.size) (k:=1) (n:=4) (cs:=intC (List.replicate 4 0)) (T:=3) (w:=w'.setCell ⟨g,1,none⟩ (.bool true)) rfl hsz);exact fo107
theorem mk6(w:World):(Instr.makeSlice 46 (.int .i64 6) (.int .i64 6)).run prog w= .ok (.slice (some ⟨w.heap.size,0,none⟩) 6 6) (w.alloc (.cells #[(),(),(),(),(),()] 3)):=by kernel_rfl
theorem ints6_any(g:Nat)(s:Sc)(w:World)(hs:Ss w g s)(hl:s.rest.length≤1099511627776) :
    Calls prog 181 #[.pointer (some ⟨g,0,none⟩),.int .i64 6] w (zeE g (yT 6 s) w):=by
 have H:=hD (zcc g s w hs hl);have lt:=hs.lt;clear hs;obtain⟨p,hp⟩:∃p,p=tkR zy [] s:=⟨_,rfl⟩;obtain⟨xs,s'⟩:=p;by_cases hq:xs.length=6
 · have HR:Hid (yT 6 s=(xs,s')):=hD jef;rw[←hp]at H;have hq1:((xs.length:Int) == 6)=true:=by simp[hq]
   have hq2:((xs.length:Int) != 6)=false:=by simp[hq]
   exact fo71
 · have HR:Hid (yT 6 s=(List.replicate 6 0,⟨s'.rest,true⟩)):=hD jeg;rw[←hp]at H;have hq1:((xs.length:Int) == 6)=false:=by rw[aF];omega
   have hq2:((xs.length:Int) != 6)=true:=by rw[bO];omega
   have hmk:=mk6;clear hp hq;go_in;go_wp2_with fail;refine H.mono ?_;rintro e w' ⟨A,c,rfl,hr,h⟩;have HH:=hD (h.set1 true);have d0:=h.2.c0;have d1:=h.2.c1;have e0:=h.2.f0;have e1:=h.2.f1;have dlt:=h.2.lt;have hsz:w.heap.size≤(w'.setCell ⟨g,1,none⟩ (.bool true)).heap.size:=by have:=h.1.size;simpa using this
   have HQ:=hD (Yx (b:=w.heap.size) (k:=1) (n:=6) (cs:=intC (List.replicate 6 0)) (T:=3) (w:=w'.setCell ⟨g,1,none⟩ (.bool true)) rfl hsz);exact fo107
structure Vr (w:World) (b:Nat) (cs:List Value):Prop where
 lt:b<w.heap.size
 cells:∀j v,cs[j]? =some v→w.cell? ⟨b,j,none⟩=some v
 free:∀j,j<cs.length→w.frozen? ⟨b,j,none⟩=false
theorem Vr.range(h:Vr w b cs):w.rangeAt b 0 cs:=fun j v hv=>by rw[bI];exact h.cells j v hv
theorem Vr.there(h:Vr w b cs)(hn:n=cs.length):w.there b 0 n:=fun j hj=>by
 subst hn
 rw[bI]
 refine⟨by rw[h.cells j _ (aP hj)];rfl,h.free j hj⟩
theorem Vr.new(w:World)(cs:List Value)(T:TypeId):Vr (w.alloc (.cells cs.toArray T)) w.heap.size cs where
 lt:=by simp
 cells j v hv:=by
  have:=zN w cs T w.heap.size rfl j v hv;rw[zaO,bI]at this;exact this
 free j hj:=by simp
theorem Vr.below(h:Vr w b cs)(hb:Below w.heap.size w w'):Vr w' b cs where
 lt:=aN h.lt hb.size
 cells j v hv:=(hb.cell (p:=⟨b,j,none⟩) h.lt).trans (h.cells j v hv)
 free j hj:=(hb.frozen (p:=⟨b,j,none⟩) h.lt).trans (h.free j hj)
theorem Vr.grown(h:Vr w b cs)(hg:w.grownBy w' (some g))(hne:b≠g):Vr w' b cs where
 lt:=aN h.lt hg.size
 cells j v hv:=(hg.cell_far ⟨b,j,none⟩ h.lt jeq).trans (h.cells j v hv)
 free j hj:=(hg.frozen_far ⟨b,j,none⟩ h.lt jeq).trans (h.free j hj)
theorem Vr.set(h:Vr w b cs)(i:Nat)(v:Value):Vr (w.setCell ⟨b,i,none⟩ v) b (cs.set i v) where
 lt:=by simpa using h.lt
 cells j u hu:=by
  by_cases e:i=j
  · subst e;have hj:i<cs.length:=by
     have:=(dD.1 hu).1;simpa using this
    rw[List.getElem?_set_self hj]at hu;rw[←hu];exact dx _ _ _ (h.cells i _ (aP hj))
  · rw[List.getElem?_set_ne e]at hu;exact(bv _ _ _ _ (by simp[])).trans (h.cells j u hu)
 free j hj:=(zbr _ _ _ _).trans (h.free j (by rw[List.length_set]at hj;exact hj))
theorem ZH(w:World)(b:Nat)(vs:List Value)(o:Nat):w.grownBy (w.setCells b o vs) (some b):=by
 induction vs generalizing o w with
 |nil=>exact Zm (ae _ _) _
 |cons v r ih=>exact(ze w ⟨b,o,none⟩ v).trans (ih _ _)
theorem Vr.sets(h:Vr w b cs)(cs':List Value)(hl:cs'.length=cs.length):Vr (w.setCells b 0 cs') b cs' where
 lt:=aN h.lt (ZH w b cs' 0).size
 cells j v hv:=by
  have:=iA w b 0 cs' (h.there hl) j v hv;rwa[bI]at this
 free j hj:=by rw[iy];exact h.free j ja
theorem Vr.eq{cs':List Value}(h:Vr w b cs)(e:cs=cs'):Vr w b cs':=e▸h
theorem zi{P:Program}{q:Tmp}(h:fn.results=#[.cell p ty,.tmp q])(tmps:Array Value)(w:World)(b:Nat)(cs:List Value)(d:TypeDesc)(v:Value)
    (hp:tmps.getD p undef= .pointer (some ⟨b,0,none⟩)) (hq:tmps.getD q undef=v) (hc:w.rangeAt b 0 cs) (hu:P.underlying ty=some d) (hd:d.isRow=true) (hi:(P.info? ty).map (·.size)=some cs.length) :
    (results fn tmps).run P w= .ok (.tuple #[.agg cs.toArray,v]) w:=by
 exact fo128
theorem zW{P:Program}(h:fn.results=#[.cell p ty])(tmps:Array Value)(w:World)(b:Nat)(cs:List Value)(d:TypeDesc)
    (hp:tmps.getD p undef= .pointer (some ⟨b,0,none⟩)) (hc:w.rangeAt b 0 cs) (hu:P.underlying ty=some d) (hd:d.isRow=true) (hi:(P.info? ty).map (·.size)=some cs.length) :
    (results fn tmps).run P w= .ok (.agg cs.toArray) w:=by
 exact fo161
theorem yP(x:Sg):(prog.info? 29).map (·.size)=some (sgC x).length:=fo222
theorem Yr(x:Sg):(sgC x).toArray.all (·.oneCell')=true:=by simp[sgC,Value.oneCell']
def Rs(w:World)(g:Nat)(s:Sc):Prop:=∃c:Int,decide (c=0)= !s.bad∧Vr w g [s.rest,c]
def RetRd(g:Nat)(r:List UInt8 × Sc)(w:World)(e:Ending)(w':World):Prop:=e= .returned (.string ⟨r.1.toArray⟩)∧w.grownBy w' (some g)∧Rs w' g r.2
theorem ret_rd{r r':List UInt8 × Sc}(h:r=r')(k:w.grownBy w' (some g))(k2:Rs w' g r'.2):RetRd g r w (.returned (.string ⟨r'.1.toArray⟩)) w':=by subst h;exact⟨rfl,k,k2⟩
theorem Rs.below(h:Rs w g s)(hb:Below w.heap.size w w'):Rs w' g s:=by
 obtain⟨c,hc,hv⟩:=h;exact⟨c,hc,hv.below hb⟩
theorem Rs.grown(h:Rs w g s)(hb:w.grownBy w' (some q))(hne:g≠q):Rs w' g s:=by
 obtain⟨c,hc,hv⟩:=h;exact⟨c,hc,hv.grown hb hne⟩
theorem Rs.lt(h:Rs w g s):g<w.heap.size:=by
 obtain⟨c,hc,hv⟩:=h;exact hv.lt
theorem newReader_any(s:ByteArray)(w:World):Calls prog 264 #[s] w fun e w'=>e= .returned (.pointer (some ⟨w.heap.size,0,none⟩))∧Below w.heap.size w w'∧Rs w' w.heap.size ⟨s.data.toList,false⟩:=by
 have HV:=hD (Vr.new w [s,()] 303);have HB:=hD (za w (.cells #[s,()] 303));go_in;go_wp2_with fail;go_ret;exact⟨rfl,HB,0,rfl,HV⟩
theorem readText_any(g:Nat)(s:Sc)(w:World)(hs:Rs w g s)(hl:s.rest.length≤1099511627776) :
    Calls prog 280 #[.pointer (some ⟨g,0,none⟩),.func (.func 204) #[] #[]] w (RetRd g (yx s) w):=by
 obtain⟨r,b⟩:=s;obtain⟨c,hc,hv⟩:=hs;have hlen:(ByteArray.mk r.toArray).size≤70368744177664:=by rw[size_mk];exact ah hl jf
 have c0:=hv.cells 0 _ rfl;have c1:=hv.cells 1 _ rfl;have f0:=hv.free 0 jc;have f1:=hv.free 1 jc;have lt:=hv.lt;simp only at c0 c1;have HV:=hD hv;cases b with
 |true=>
  have hz:¬c=0:=by simpa using hc
  have hc1:(c == 0)=false:=by simpa using hz
  have hc2:(c != 0)=true:=by simpa using hz
  have HC:=hD hc;have HR:Hid (yx ⟨r,true⟩=([],⟨r,true⟩)):=hD rfl;clear hv hc hz;go_in;go_wp2_with fail;go_ret;exact ret_rd HR (Zm (ae _ _) _) ⟨c,HC,HV⟩
 |false=>
  obtain rfl:c=0:=by simpa using hc
  clear hv hc;cases hg:yg r with
  |none=>
   have HG:=hD (zc2 ⟨r.toArray⟩ w hlen jcc);have HR:Hid (yx ⟨r,false⟩=([],⟨r,true⟩)):=hD (by unfold yx tkR;simp[hg]);clear hg;go_in;go_wp2_with fail;refine HG.mono ?_;rintro e w' ⟨rfl,c,hc,rfl⟩;have hc1:(c == 0)=false:=by simpa using hc
   have hc2:(c != 0)=true:=by simpa using hc
   go_wp2_with fail;go_ret;exact ret_rd HR (ze _ _ _) ⟨c,by simpa using hc,HV.set 1 _⟩
  |some y=>
   obtain⟨x,k⟩:=y;have HG:=hD (ze4 ⟨r.toArray⟩ w hlen x k jcc);have hk:=Zj hg;obtain⟨k0,k1,k2⟩:=hk;have HR:Hid (yx ⟨r,false⟩=(x,⟨r.drop k,false⟩)):=hD (by unfold yx tkR;simp[hg]);have HX:=hD (ext_list r k k1);clear hg;go_in;go_wp2_with fail;refine HG.mono ?_;rintro e w' ⟨rfl,rfl⟩;go_wp2_with fail;go_ret;exact ret_rd HR (ze _ _ _) ⟨0,rfl,by have:=HV.set 0 (.string ((ByteArray.mk r.toArray).extract k r.length));rw[HX.out]at this⊢;exact this⟩
theorem zgr(g:Nat)(s:Sc)(w:World)(hs:Rs w g s)(hl:s.rest.length≤1099511627776) :
    Calls prog 265 #[.pointer (some ⟨g,0,none⟩)] w (RetRd g (yx s) w):=by
 have H:=hD (readText_any g s w hs hl);exact fo164
def Sc.fine(s:Sc):Bool:= !s.bad && s.rest.isEmpty
theorem rdEnd_any(g:Nat)(s:Sc)(w:World)(hs:Rs w g s) :
    Calls prog 266 #[.pointer (some ⟨g,0,none⟩)] w fun e w'=>w=w'∧∃c:Int,decide (c=0)=s.fine∧e= .returned (.int .i64 c):=by
 obtain⟨r,b⟩:=s;obtain⟨c,hc,hv⟩:=hs;have c0:=hv.cells 0 _ rfl;have c1:=hv.cells 1 _ rfl;have lt:=hv.lt;simp only at c0 c1;clear hv;cases b with
 |true=>
  have hz:¬c=0:=by simpa using hc
  have hc1:(c == 0)=false:=by simpa using hz
  have hc2:(c != 0)=true:=by simpa using hz
  have HC:Hid (decide (c=0)=Sc.fine ⟨r,true⟩):=hD (by simpa[Sc.fine]using hz);clear hc hz;go_in;go_wp2_with fail;go_ret;exact⟨rfl,c,HC,rfl⟩
 |false=>
  obtain rfl:c=0:=by simpa using hc
  clear hc;cases r with
  |nil=>
   go_in;go_wp2_with fail;go_ret;exact⟨rfl,0,rfl,rfl⟩
  |cons x t=>
   go_in;go_wp2_with fail;go_ret;exact⟨rfl,2,rfl,rfl⟩
theorem zee{s:List UInt8}(h:zy s=none):whole rdSg s=none:=by
 unfold whole rdSg Zc off;rw[h]
theorem zfw{s:List UInt8}{n:List Int}(h:zy s=some (n,k))(hn:¬n.length=4):whole rdSg s=none:=by
 unfold whole rdSg Zc off;rw[h];simp only[aa hn]
theorem sg_ints{s:List UInt8}{n0 n1 n2 n3:Int}(h:zy s=some ([n0,n1,n2,n3],k)) :
    whole rdSg s=if(yx (yx ⟨s.drop k,false⟩).2).2.fine then some ⟨n0,n1,n2,n3,(yx ⟨s.drop k,false⟩).1,(yx (yx ⟨s.drop k,false⟩).2).1⟩ else none:=by
 have h1:Zc 4 s=some ([n0,n1,n2,n3],s.drop k):=by
  unfold Zc off;rw[h];rfl
 unfold whole rdSg;rw[h1];simp only;cases h2:Zb (s.drop k) with
 |none=>
  have a1:=ZE.none ⟨s.drop k,false⟩ rfl h2;have a2:=ZE.bad _ a1;exact fo215
 |some y=>
  obtain⟨d,r⟩:=y;have a1:=ZE.some ⟨s.drop k,false⟩ d r rfl h2;rw[a1];simp only;cases h3:Zb r with
  |none=>
   have a2:=ZE.none ⟨r,false⟩ rfl h3;exact fo215
  |some z=>
   obtain⟨g,q⟩:=z;have a2:=ZE.some ⟨r,false⟩ g q rfl h3;rw[a2];cases q with
   |nil=>simp[Sc.fine]
   |cons x t=>simp[Sc.fine]
def zd6(o:Option Sg)(w:World)(e:Ending)(w':World):Prop:=Below w.heap.size w w'∧match o with
 |some x=>e= .returned (.tuple #[.agg (sgC x).toArray,()])
 |none=>∃x:Sg,e= .returned (.tuple #[.agg (sgC x).toArray,.int .i64 2])∧x=sg0
theorem zch{o:Option Sg}(h:o=none)(hb:Below w.heap.size w w'):zd6 o w (.returned (.tuple #[.agg (sgC sg0).toArray,.int .i64 2])) w':=by
 subst h;exact⟨hb,sg0,rfl,rfl⟩
theorem zd7{o:Option Sg}(h:o=some x)(hb:Below w.heap.size w w'):zd6 o w (.returned (.tuple #[.agg (sgC x).toArray,()])) w':=by
 subst h;exact⟨hb,rfl⟩
theorem four_of(n:List Int)(h:n.length=4):∃a b c d,n=[a,b,c,d]:=by
 match n,h with
 | [a,b,c,d],_=>exact⟨a,b,c,d,rfl⟩
theorem Yt{P:Program}{l:List UInt8}{xs:List Int}{m:Nat}(h:Calls P f args w (RetN l w))(hl:zy l=some (xs,k))(hm:xs.length=m) :
    Calls P f args w fun e w'=>(∃A c,e= .returned (.tuple #[.slice A m c,k,()])∧w'.ownsRow w.heap.size 3 1 (.slice A m c) m (intC xs))∧Below w.heap.size w w':=by
 subst hm;exact YX h hl
theorem below_al(h:Below w.heap.size w w1)(o:Obj):Below w.heap.size w (w1.alloc o):=h.alloc h.size o
theorem zcZ(h:Below w.heap.size w w1)(hb:w.heap.size≤b)(vs:List Value):Below w.heap.size w (w1.setCells b 0 vs):=
 below_grown h h.size (ZH w1 b vs 0) (fun g hg=>by simp only[ax]at hg;omega)
theorem sealDec_any(s:ByteArray)(w:World)(hs:s.size≤1099511627776):Calls prog 234 #[s] w (zd6 (whole rdSg s.data.toList) w):=by
 have HA:Hid (∀W,Calls prog 232 #[s] W (RetN s.data.toList W)):=hD (fun W=>zfy s W hs);have HV0:=hD (Vr.new w (sgC sg0) 29);have HB0:=hD (za w (.cells (sgC sg0).toArray 29));have HBs:Hid (w.heap.size+1=(w.alloc (.cells (sgC sg0).toArray 29)).heap.size):=hD jc;cases hg:zy s.data.toList with
 |none=>
  have HR:=hD (zee hg);have HG:Hid (zy s.data.toList=none):=hD hg;clear hg;go_in;go_wp2_with fail;refine(zau (HA _) HG).mono ?_;rintro e w1 ⟨⟨c,hc,rfl⟩,hb⟩;have hc1:(c == 0)=false:=by simpa using hc
  have hc2:(c != 0)=true:=by simpa using hc
  have HV1:=hD (HV0.below hb);have HB1:=hD (bon HB0 hb);clear hb;exact fo77
 |some y=>
  obtain⟨n,k⟩:=y;have HG:Hid (zy s.data.toList=some (n,k)):=hD hg;have hk:=YQ hg;by_cases hn:n.length=4
  · obtain⟨n0,n1,n2,n3,rfl⟩:=four_of n hn;have HR:=hD (sg_ints hg);have HN:=hD hn;have hkl:k≤s.size:=by rwa[zU]at hk
    clear hg hn hk;go_in;go_wp2_with fail;refine(Yt (HA _) HG HN).mono ?_;rintro e w1 ⟨⟨A,c,rfl,hr⟩,hb⟩;have HV1:=hD (HV0.below hb);have HB1:=hD (bon HB0 hb);have HRow:=hD (Yd hr (ag _));clear hb hr;go_wp2_with fail;refine(newReader_any _ _).mono ?_;rintro e w2 ⟨rfl,hb,hrs⟩;have HV2:=hD (HV1.below hb);have HB2:=hD (bon HB1 hb);have HRow2:=hD (HRow.on (zl _ hb));rw[zby s k hkl]at hrs;have HRs:=hD hrs;clear hb hrs;obtain⟨gb,go,rfl,hgl,hgc⟩:=HRow2.out.out.cells (by simp[intC]);have HC:Hid (∀W,Below w2.heap.size w2 W→Below w2.heap.size w2 W∧W.cell? ⟨gb,go,none⟩=some (.int .i64 n0)∧W.cell? ⟨gb,go+1,none⟩=some (.int .i64 n1)∧W.cell? ⟨gb,go+2,none⟩=some (.int .i64 n2)∧W.cell? ⟨gb,go+3,none⟩=some (.int .i64 n3)):=
     hD (fun W hW=>by
      have h9:∀j v,(intC [n0,n1,n2,n3])[j]? =some v→W.cell? ⟨gb,go+j,none⟩=some v:=fun j v hv=>(hW.cell (p:=⟨gb,go+j,none⟩) hgl).trans (hgc j v hv)
      exact⟨hW,h9 0 _ rfl,h9 1 _ rfl,h9 2 _ rfl,h9 3 _ rfl⟩)
    have HV3:=hD (HV2.below ((za w2 (.cells (sgC ⟨n0,n1,n2,n3,[],[]⟩).toArray 29)).drew));have HX3:=hD ((Vr.new w2 (sgC ⟨n0,n1,n2,n3,[],[]⟩) 29).below (ae _ _).drew);have HB3:=hD (bon HB2 (za w2 (.cells (sgC ⟨n0,n1,n2,n3,[],[]⟩).toArray 29)).drew);have HRs3:=hD (HRs.below (za w2 (.cells (sgC ⟨n0,n1,n2,n3,[],[]⟩).toArray 29)).drew);have hne1:w.heap.size<w1.heap.size:=HV1.lt;have hne2:w1.heap.size<w2.heap.size:=HRs.lt;have hdl:(List.drop k s.data.toList).length≤1099511627776:=by rw[aK,zU];omega
    have HDL:=hD hdl;clear hdl;have HQ0:=hD ((ae w2.heap.size w2).drew);clear hgl hgc;go_wp2_with fail;go_region_held3 (fun W=>Below w2.heap.size w2 W∧W.cell? ⟨gb,go,none⟩=some (.int .i64 n0)∧W.cell? ⟨gb,go+1,none⟩=some (.int .i64 n1)∧W.cell? ⟨gb,go+2,none⟩=some (.int .i64 n2)∧W.cell? ⟨gb,go+3,none⟩=some (.int .i64 n3))
     (first|exact HC _ HQ0.out|exact HC _ (below_al (ae _ _) _).drew|exact HC _ (below_al (‹Below _ _ _∧_›).1 _))
     (fail)
    go_wp2_with fail;refine(zgr w1.heap.size ⟨List.drop k s.data.toList,false⟩ _ HRs3 HDL).mono ?_;rintro e w4 ⟨rfl,hgr,hrs⟩;have HV4:=hD (HV3.grown hgr ja);have HX4:=hD (HX3.grown hgr ja);have HB4:Hid (Below w.heap.size w w4):=hD (below_grown HB3 HB3.size hgr (fun g hg=>by simp only[ax]at hg;omega));obtain⟨p,hp⟩:∃p,p=yx ⟨List.drop k s.data.toList,false⟩:=⟨_,rfl⟩;have HRs4:=hD hrs;have HP:=hD hp;have c4:=HX4.cells 4 _ rfl;have f4:=HX4.free 4 (by simp[sgC]);have l4:=HX4.lt;have HDL4:Hid (p.2.rest.length≤1099511627776):=hD (by rw[hp];exact ah (ZE.len _) HDL);rw[←hp]at HRs4⊢;clear hgr hrs hp;go_wp2_with fail;refine(zgr w1.heap.size p.2 _ (HRs4.grown (ze _ _ _) jg) HDL4).mono ?_;rintro e w5 ⟨rfl,hgr,hrs⟩;have HV5:=hD ((HV4.grown (ze _ ⟨w2.heap.size,4,none⟩ (.string ⟨p.1.toArray⟩)) jg).grown hgr ja);have HX5:=hD ((HX4.set 4 (.string ⟨p.1.toArray⟩)).grown hgr ja);have HB5:Hid (Below w.heap.size w w5):=hD (below_grown (below_grown HB4 HB4.size (ze _ ⟨w2.heap.size,4,none⟩ (.string ⟨p.1.toArray⟩)) (fun g hg=>by simp only[ax]at hg;omega)) (by have:=HB4.size;simpa using this) hgr (fun g hg=>by simp only[ax]at hg;omega));obtain⟨q,hq⟩:∃q,q=yx p.2:=⟨_,rfl⟩;have HRs5:=hD hrs;have HQ:=hD hq;clear c4 f4 l4;have c5:=HX5.cells 5 _ rfl;have f5:=HX5.free 5 (by simp[sgC]);have l5:=HX5.lt;rw[←hq]at HRs5⊢;clear hgr hrs hq;go_wp2_with fail;refine(rdEnd_any w1.heap.size q.2 _ (HRs5.grown (ze _ _ _) jg)).mono ?_;rintro e w6 ⟨rfl,ce,hce,rfl⟩;have HV6:=hD (HV5.grown (ze _ ⟨w2.heap.size,5,none⟩ (.string ⟨q.1.toArray⟩)) jg);have HX6:Hid (Vr (w5.setCell ⟨w2.heap.size,5,none⟩ (.string ⟨q.1.toArray⟩)) w2.heap.size (sgC ⟨n0,n1,n2,n3,p.1,q.1⟩)):=hD (HX5.set 5 (.string ⟨q.1.toArray⟩));have HB6:Hid (Below w.heap.size w (w5.setCell ⟨w2.heap.size,5,none⟩ (.string ⟨q.1.toArray⟩))):=hD (below_grown HB5 HB5.size (ze _ ⟨w2.heap.size,5,none⟩ (.string ⟨q.1.toArray⟩)) (fun g hg=>by simp only[ax]at hg;omega));have HSp:Hid (whole rdSg s.data.toList=if q.2.fine then some ⟨n0,n1,n2,n3,p.1,q.1⟩ else none):=hD (by rw[HR.out,HQ.out,HP.out]);clear c5 f5 l5;cases hfine:q.2.fine with
    |true=>
     rw[hfine]at hce;obtain rfl:ce=0:=by simpa using hce
     have HY:Hid (whole rdSg s.data.toList=some ⟨n0,n1,n2,n3,p.1,q.1⟩):=hD (by rw[HSp.out,hfine];rfl);clear hfine hce;go_wp2_with (first
      |(refine ak rfl 29 _ rfl w2.heap.size 0 rfl (sgC ⟨n0,n1,n2,n3,p.1,q.1⟩) _ HX6.range underlying29 rfl (yP _) ?_)
      |(refine ai rfl 29 _ _ rfl w.heap.size 0 (sgC ⟨n0,n1,n2,n3,p.1,q.1⟩).toArray rfl rfl (HV6.there rfl) (yP ⟨n0,n1,n2,n3,p.1,q.1⟩) (Yr _) ?_))
     refine aj (v:= .tuple #[.agg (sgC ⟨n0,n1,n2,n3,p.1,q.1⟩).toArray,()]) ?_ rfl (zd7 HY (zcZ HB6 (ag _) _));exact zi results234 _ _ w.heap.size (sgC ⟨n0,n1,n2,n3,p.1,q.1⟩) _ _ rfl rfl (HV6.sets (sgC ⟨n0,n1,n2,n3,p.1,q.1⟩) rfl).range underlying29 rfl (yP ⟨n0,n1,n2,n3,p.1,q.1⟩)
    |false=>
     rw[hfine]at hce;have hz:¬ce=0:=by simpa using hce
     have hc1:(ce == 0)=false:=by simpa using hz
     have hc2:(ce != 0)=true:=by simpa using hz
     have HY:Hid (whole rdSg s.data.toList=none):=hD (by rw[HSp.out,hfine];rfl);clear hfine hce hz;go_wp2_with (refine ai rfl 29 _ _ rfl w.heap.size 0 (sgC sg0).toArray rfl rfl (HV6.there rfl) (yP sg0) (Yr sg0) ?_);refine aj (v:= .tuple #[.agg (sgC sg0).toArray,.int .i64 2]) ?_ rfl (zch HY (zcZ HB6 (ag _) _));exact zi results234 _ _ w.heap.size (sgC sg0) _ _ rfl rfl (HV6.sets (sgC sg0) rfl).range underlying29 rfl (yP sg0)
  · have HR:=hD (zfw hg hn);have hn1:((n.length:Int) == 4)=false:=by rw[aF];omega
    have hn2:((n.length:Int) != 4)=true:=by rw[bO];omega
    clear hg hn hk;go_in;go_wp2_with fail;refine(YX (HA _) HG).mono ?_;rintro e w1 ⟨⟨A,c,rfl,hr⟩,hb⟩;have HV1:=hD (HV0.below hb);have HB1:=hD (bon HB0 hb);clear hb hr;exact fo77
theorem zd6.cases{o:Option Sg}{e:Ending}(h:zd6 o w e w'):Below w.heap.size w w'∧((∃x,o=some x∧e= .returned (.tuple #[.agg (sgC x).toArray,()]))∨(o=none∧e= .returned (.tuple #[.agg (sgC sg0).toArray,.int .i64 2]))):=by
 refine⟨h.1,?_⟩;cases o with
 |none=>
  obtain⟨x,he,hx⟩:=h.2;subst hx;exact .inr ⟨rfl,he⟩
 |some x=>exact .inl ⟨x,rfl,h.2⟩
theorem sgo_some{P:Program}{o:Option Sg}(h:Calls P f args w (zd6 o w))(ho:o=some x) :
    Calls P f args w fun e w'=>e= .returned (.tuple #[.agg x,()])∧Below w.heap.size w w':=
 h.mono fun _ _ hh=>by
  subst ho
  exact⟨hh.2,hh.1⟩
theorem sgo_none{P:Program}{o:Option Sg}(h:Calls P f args w (zd6 o w))(ho:o=none) :
    Calls P f args w fun e w'=>e= .returned (.tuple #[.agg #[(),(),(),(),"",""],.int .i64 2])∧Below w.heap.size w w':=
 h.mono fun _ _ hh=>by
  subst ho
  obtain⟨x,he,hx⟩:=hh.2
  subst hx
  exact⟨he,hh.1⟩
def RetSg(g:Nat)(r:Sg × Sc)(w:World)(e:Ending)(w':World):Prop:=e= .returned (.agg (sgC r.1).toArray)∧SsTo w g r.2 w'
theorem ret_sg{r r':Sg × Sc}(h:r=r')(k:SsTo w g r'.2 w'):RetSg g r w (.returned (.agg (sgC r'.1).toArray)) w':=by subst h;exact⟨rfl,k⟩
theorem SsTo.alloc(h:SsTo w g s w1)(x:Obj):SsTo w g s (w1.alloc x):=h.below (za _ _)
theorem Ss.grown(h:Ss w g s)(hg:w.grownBy w' (some b))(hne:g≠b):Ss w' g s where
 lt:=aN h.lt hg.size
 c0:=(hg.cell_far ⟨g,0,none⟩ h.lt jeq).trans h.c0
 c1:=(hg.cell_far ⟨g,1,none⟩ h.lt jeq).trans h.c1
 f0:=(hg.frozen_far ⟨g,0,none⟩ h.lt jeq).trans h.f0
 f1:=(hg.frozen_far ⟨g,1,none⟩ h.lt jeq).trans h.f1
theorem grown_own(h:w.grownBy w1 (some g))(k:w1.grownBy w2 (some b))(hb:w.heap.size≤b):w.grownBy w2 (some g):=
 ⟨k.os.trans h.os,k.tape.trans h.tape,k.output.trans h.output,ah h.size k.size,fun i hi hne=>(k.block i (aN hi h.size) (fun e=>by simp only[ax]at e;omega)).trans (h.block i hi hne)⟩
theorem SsTo.own(h:SsTo w g s w1)(k:w1.grownBy w2 (some b))(hb:w.heap.size≤b)(hne:g≠b):SsTo w g s w2:=
 ⟨grown_own h.1 k hb,h.2.grown k hne⟩
theorem zb(vs:List Value):w.grownBy (w.setCells b 0 vs) (some b):=ZH w b vs 0
theorem signature_any(g:Nat)(s:Sc)(w:World)(hs:Ss w g s)(hl:s.rest.length≤1099511627776) :
    Calls prog 184 #[.pointer (some ⟨g,0,none⟩)] w (RetSg g (tkSg s) w):=by
 obtain⟨r,b⟩:=s;have hlen:(ByteArray.mk r.toArray).size≤1099511627776:=by rw[size_mk];exact hl
 have HV0 := hD (Vr.new w (sgC sg0) 29); have HS0 := hD ((SsTo.refl hs).alloc (.cells (sgC sg0).toArray 29)); have hgl := hs.lt; have HD := hD (sealDec_any ⟨r.toArray⟩ (w.alloc (.cells (sgC sg0).toArray 29)) hlen); have c0 := hs.c0; simp only at c0; clear hs; have fin : ∀ (x : Sg) (b' : Bool) (w1 : World), tkSg ⟨r, b⟩ = (x, ⟨[], b'⟩) → Below (w.alloc (.cells (sgC sg0).toArray 29)).heap.size (w.alloc (.cells (sgC sg0).toArray 29)) w1 →
     Hid (Vr w1 w.heap.size (sgC sg0))∧Hid (SsTo w g ⟨r,b⟩ w1):=fun x b' w1 h hb=>⟨hD (HV0.below hb),hD (HS0.below hb)⟩
 cases hw:whole rdSg r with
 |none=>
  have HG:=hD (sgo_none HD jet);have HR:Hid (tkSg ⟨r,b⟩=(sg0,⟨[],true⟩)):=hD (by unfold tkSg;simp only[hw]);clear hw HD;go_in;go_wp2_with fail;refine HG.mono ?_;rintro e w1 ⟨rfl,hb⟩;obtain⟨HV1,HS1⟩:=fin sg0 true w1 HR hb;clear fin hb c0;have hne1:w.heap.size<w1.heap.size:=HV1.lt;have HV2:=hD (HV1.below (za w1 (.cells (sgC sg0).toArray 29)));have HX2:=hD (Vr.new w1 (sgC sg0) 29);have HS2:=hD (HS1.alloc (.cells (sgC sg0).toArray 29));go_upto_region 2 with fail;generalize hw2:w1.alloc (.cells (sgC sg0).toArray 29)=w2 at HV2 HX2 HS2;have e2:w1.alloc (.cells #[(),(),(),(),"",""] 29)=w2:=hw2;rw[e2];clear e2 hw2;have d1:=HS2.2.c1;have e0:=HS2.2.f0;have e1:=HS2.2.f1;have dl:=HS2.2.lt;simp only at d1;have d0:=HS2.2.c0;simp only at d0;have HZ:Hid (SsTo w g ⟨[],true⟩ ((w2.setCell ⟨g,1,none⟩ (.bool true)).setCell ⟨g,0,none⟩ (.string ⟨#[]⟩))):=hD ((HS2.set1 true).set0 []);have HVz:=hD ((HV2.grown (ze w2 ⟨g,1,none⟩ (.bool true)) jav).grown (ze _ ⟨g,0,none⟩ (.string ⟨#[]⟩)) jav);have HXz:=hD ((HX2.grown (ze w2 ⟨g,1,none⟩ (.bool true)) jdx).grown (ze _ ⟨g,0,none⟩ (.string ⟨#[]⟩)) jdx);cases b
  all_goals
   go_wp2_with (first
    |(refine ak rfl 29 _ rfl w1.heap.size 0 rfl (sgC sg0) _ HXz.range underlying29 rfl (yP _) ?_)
    |(refine ai rfl 29 _ _ rfl w.heap.size 0 (sgC sg0).toArray rfl rfl (HVz.there rfl) (yP sg0) (Yr _) ?_))
   refine aj (v:= .agg (sgC sg0).toArray) ?_ rfl (ret_sg HR (HZ.own (zb (b:=w.heap.size) (sgC sg0)) (ag _) ja));exact zW results184 _ _ w.heap.size (sgC sg0) _ rfl (HVz.sets (sgC sg0) rfl).range underlying29 rfl (yP sg0)
 |some x=>
  have HG:=hD (sgo_some HD jet);have HR:Hid (tkSg ⟨r,b⟩=(x,⟨[],b⟩)):=hD (by unfold tkSg;simp only[hw]);clear hw HD;go_in;go_wp2_with fail;refine HG.mono ?_;rintro e w1 ⟨rfl,hb⟩;obtain⟨HV1,HS1⟩:=fin x b w1 HR hb;clear fin hb c0;have hne1:w.heap.size<w1.heap.size:=HV1.lt;have HV2:=hD (HV1.below (za w1 (.cells (sgC x).toArray 29)));have HX2:=hD (Vr.new w1 (sgC x) 29);have HS2:=hD (HS1.alloc (.cells (sgC x).toArray 29));go_upto_region 2 with fail;generalize hw2:w1.alloc (.cells (sgC x).toArray 29)=w2 at HV2 HX2 HS2;have e2:w1.alloc (.cells x 29)=w2:=hw2;rw[e2];clear e2 hw2;have d1:=HS2.2.c1;have e0:=HS2.2.f0;have e1:=HS2.2.f1;have dl:=HS2.2.lt;simp only at d1;have d0:=HS2.2.c0;simp only at d0;have HZ:Hid (SsTo w g ⟨[],b⟩ ((w2.setCell ⟨g,1,none⟩ (.bool b)).setCell ⟨g,0,none⟩ (.string ⟨#[]⟩))):=hD ((HS2.set1 b).set0 []);have HVz:=hD ((HV2.grown (ze w2 ⟨g,1,none⟩ (.bool b)) jav).grown (ze _ ⟨g,0,none⟩ (.string ⟨#[]⟩)) jav);have HXz:=hD ((HX2.grown (ze w2 ⟨g,1,none⟩ (.bool b)) jdx).grown (ze _ ⟨g,0,none⟩ (.string ⟨#[]⟩)) jdx);cases b
  all_goals
   go_wp2_with (first
    |(refine ak rfl 29 _ rfl w1.heap.size 0 rfl (sgC x) _ HXz.range underlying29 rfl (yP _) ?_)
    |(refine ai rfl 29 _ _ rfl w.heap.size 0 (sgC x).toArray rfl rfl (HVz.there rfl) (yP x) (Yr _) ?_))
   refine aj (v:= .agg (sgC x).toArray) ?_ rfl (ret_sg HR (HZ.own (zb (b:=w.heap.size) (sgC x)) (ag _) ja));exact zW results184 _ _ w.heap.size (sgC x) _ rfl (HVz.sets (sgC x) rfl).range underlying29 rfl (yP x)
def Foot(F:Nat→Prop)(P:World→Prop)(w:World):Prop:=∀w',w.heap.size≤w'.heap.size→(∀k,F k→w'.heap[k]? =w.heap[k]?)→P w'
theorem Foot.out(h:Foot F P w):P w:=h w (ag _) (fun _ _=>rfl)
theorem Foot.on(h:Foot F P w)(hs:w.heap.size≤w1.heap.size)(hk:∀k,F k→w1.heap[k]? =w.heap[k]?):Foot F P w1:=
 fun w' h1 h2=>h w' (ah hs h1) (fun k hF=>(h2 k hF).trans (hk k hF))
theorem Foot.mono{F':Nat→Prop}(h:Foot F P w)(hF:∀k,F k→F' k):Foot F' P w:=fun w' h1 h2=>h w' h1 (fun k hk=>h2 k (hF k hk))
theorem Foot.imp2{R:World→Prop}(h:Foot F P w)(k:Foot F Q w)(hi:∀w',P w'→Q w'→R w'):Foot F R w:=fun w' h1 h2=>hi w' (h w' h1 h2) (k w' h1 h2)
theorem zai(h:yG b P w):Foot (fun k=>b≤k∧k<w.heap.size) P w:=fun w' h1 h2=>h w' ⟨h1,fun k hb hk=>h2 k ⟨hb,hk⟩⟩
theorem zgu(h:Foot F P w)(hF:∀k,F k→b≤k∧k<w.heap.size):yG b P w:=fun w' hw=>h w' hw.1 (fun k hk=>hw.2 k (hF k hk).1 (hF k hk).2)
def RetX{α:Type}(C:α→List Value)(er:α→α)(ok:α→World→Prop)(g:Nat)(r:α × Sc)(w:World)(e:Ending)(w':World):Prop:=
 ∃x,e= .returned (.agg (C x).toArray)∧er x=r.1∧yG w.heap.size (ok x) w'∧SsTo w g r.2 w'
theorem zfd{C:α→List Value}{er:α→α}{ok:α→World→Prop}{r r':α × Sc}{e:Ending}{x:α}(h:r=r')(he:e= .returned (.agg (C x).toArray))(hx:er x=r'.1)(hst:yG w.heap.size (ok x) w')(hs:SsTo w g r'.2 w'):RetX C er ok g r w e w':=by
 subst h;exact⟨x,he,hx,hst,hs⟩
def RetXs{α:Type}(k:Nat)(C:α→List Value)(er:α→α)(ok:α→World→Prop)(g:Nat)(r:List α × Sc)(w:World)(e:Ending)(w':World):Prop:=
 ∃x:Sl α,e= .returned (.slice x.a x.l.length x.c)∧x.l.map er=r.1∧yG w.heap.size (fun w=>x.rd k C w∧∀y∈x.l,ok y w) w'∧SsTo w g r.2 w'
theorem Ss.new'(w:World)(r:List UInt8)(b:Bool)(T:TypeId)(hg:g=w.heap.size):Ss (w.alloc (.cells #[r,b] T)) g ⟨r,b⟩:=hg▸Ss.new w r b T
theorem Vr.new'(w:World)(cs:List Value)(T:TypeId)(hb:b=w.heap.size):Vr (w.alloc (.cells cs.toArray T)) b cs:=hb▸Vr.new w cs T
theorem YL(g:Nat)(s:Sc)(w:World)(hs:Ss w g s)(hl:s.rest.length≤1099511627776) :
    Calls prog 184 #[.pointer (some ⟨g,0,none⟩)] w (RetX sgC id (fun x _=>x.ok) g (tkSg s) w):=
 (signature_any g s w hs hl).mono fun _ _ ⟨he,hw⟩=>⟨_,he,rfl,zbD (tkSg_ok s),hw⟩
structure PtSt {α:Type} (T k:Nat) (C:α→List Value) (er:α→α) (ok:α→World→Prop) (tk:Sc→α × Sc) (w:World) (B g:Nat) (A:Option Addr) (l:List (List UInt8)) (s1:Sc) (j:Nat) (o:Value) (xs:List α) (sj:Sc) (F:Nat→Prop) (wr:World):Prop where
 len:xs.length=j
 own:wr.ownsRow B T k o j (xs.flatMap C)
 src:SsTo w g sj wr
 size:B≤wr.heap.size
 foot:Foot F (fun W=>Rd W 1 A l.length (strC l)∧∀y∈xs,ok y W) wr
 fin:∀i,F i→w.heap.size≤i∧i<wr.heap.size∧o.ownBlock≠some i
 all:zaR tk l s1=(xs.map er++(zaR tk (l.drop j) sj).1,(zaR tk (l.drop j) sj).2)
theorem PtSt.start{C:α→List Value}{er:α→α}{ok:α→World→Prop}{tk:Sc→α × Sc}{l:List (List UInt8)}
    (hr:yG w.heap.size (fun w=>Rd w 1 A l.length (strC l)) w1) (h:SsTo w g s1 w1):PtSt T k C er ok tk w w1.heap.size g A l s1 0 (.slice none 0 0) [] s1 (fun i=>w.heap.size≤i∧i<w1.heap.size) w1 where
 len:=rfl
 own:=aR _ _ _ _
 src:=h
 size:=ag _
 foot:=(zai hr).imp2 (zai hr) (fun w' h _=>⟨h,by simp⟩)
 fin i hi:=⟨hi.1,hi.2,by simp[Value.ownBlock]⟩
 all:=by simp
theorem PtSt.row{C:α→List Value}{er:α→α}{ok:α→World→Prop}{tk:Sc→α × Sc}{l:List (List UInt8)}{s2:Sc}
    (h:PtSt T k C er ok tk w B g A l s1 j o xs sj F wr) (hg:g<B) (hs:SsTo wr g s2 w2):w2.ownsRow B T k o j (xs.flatMap C):=
 h.own.kept hs.1 (by
  cases ho:o.ownBlock with
  |none=>exact .inl rfl
  |some b=>
   have:=(h.own.lt b ho).1
   exact .inr (fun e=>by simp only[ax]at e;omega))
theorem PtSt.step{C:α→List Value}{er:α→α}{ok:α→World→Prop}{tk:Sc→α × Sc}{w3 w4:World}{l:List (List UInt8)}{v':Value}{x:α}
    (h:PtSt T k C er ok tk w B g A l s1 j o xs sj F wr) (hw:g<w.heap.size) (hB:w.heap.size≤B) (hj:j<l.length) (hx:er x=(yt tk l[j] sj).1) (hst:yG wr.heap.size (ok x) w2) (hs:SsTo wr g (yt tk l[j] sj).2 w2)
    (h3:Below w2.heap.size w2 w3) (hz:w3.heap.size=w2.heap.size+1) (hown:w4.ownsRow B T k v' (j+1) (xs.flatMap C++C x)) (hgr:w3.grownBy w4 o.ownBlock) (hat:v'.ownBlock=o.ownBlock∨v'.ownBlock=some (w2.heap.size+1)) :
    PtSt T k C er ok tk w B g A l s1 (j+1) v' (xs++ [x]) (yt tk l[j] sj).2 (fun i=>F i∨(wr.heap.size≤i∧i<w2.heap.size)) w4:=by
 have z1:=hs.1.size;have z2:=hgr.size;have z3:=h.size;have hok:∀b,o.ownBlock=some b→B≤b∧b<wr.heap.size:=fun b hb=>h.own.lt b hb
 have h34:∀i,i<w2.heap.size→o.ownBlock≠some i→w4.heap[i]? =w2.heap[i]?:=fun i hi hne=>
  (hgr.block i ja (fun e=>hne e.symm)).trans (h3.block i hi)
 have hF4:∀i,F i→w4.heap[i]? =wr.heap[i]?:=fun i hi=>by
  obtain⟨a1,a2,a3⟩:=h.fin i hi;exact(h34 i ja a3).trans (hs.1.block i a2 (fun e=>by simp only[ax]at e;omega))
 refine⟨by simp[h.len],by simpa using hown,?_,by omega,?_,?_,?_⟩
 · refine⟨?_,?_⟩
   · have g1:=(h.src.1.trans hs.1).trans (Zm h3 (some g));refine⟨hgr.os.trans g1.os,hgr.tape.trans g1.tape,hgr.output.trans g1.output,ah g1.size z2,fun i hi hne=> ?_⟩;exact(hgr.block i (by have:=g1.size;omega) (fun e=>by have:=(hok i e.symm).1;omega)).trans (g1.block i hi hne)
   · have hq:=hs.2.below h3;cases ho:o.ownBlock with
     |none=>rw[ho]at hgr;exact hq.below ⟨hgr.os,hgr.tape,hgr.output,hgr.size,fun i hi=>hgr.block i hi jc⟩
     |some b=>rw[ho]at hgr;exact hq.grown hgr (by have:=(hok b ho).1;omega)
 · refine((h.foot.on ja hF4).mono (fun i hi=>Or.inl hi)).imp2 (Q:=ok x) (((zai hst).on ja (fun i hi=>h34 i hi.2 (fun e=>by have:=(hok i e).2;omega))).mono (fun i hi=>Or.inr hi)) (fun w' a b=>⟨a.1,fun y hy=> ?_⟩);exact fo125
 · intro i hi;rcases hi with hi|⟨a1,a2⟩
   · obtain⟨b1,b2,b3⟩:=h.fin i hi;refine⟨b1,by omega,?_⟩;rcases hat with e|e
     · rw[e];exact b3
     · exact fo261
   · have:=h.src.1.size;refine⟨by omega,by omega,?_⟩;exact fo299
 · rw[h.all,bB hj,zaR];simp[hx]
theorem PtSt.done{C:α→List Value}{er:α→α}{ok:α→World→Prop}{tk:Sc→α × Sc}{l:List (List UInt8)}
    (h:PtSt T k C er ok tk w B g A l s1 l.length o xs sj F wr) (hB:w.heap.size≤B):∃a c,o= .slice a l.length c∧RetXs k C er ok g (zaR tk l s1) w (.returned (.slice a l.length c)) wr:=by
 obtain⟨a,c,rfl⟩:=ownsRow_form h.own;refine⟨a,c,rfl,⟨a,c,xs⟩,by rw[h.len],?_,?_,?_⟩
 · rw[h.all,df];simp[zaR]
 · have h1:yG w.heap.size (fun w=>Rd w k a l.length (xs.flatMap C)) wr:=Yd h.own hB;have h2:yG w.heap.size (fun W=>Rd W 1 A l.length (strC l)∧∀y∈xs,ok y W) wr:=zgu h.foot (fun i hi=>⟨(h.fin i hi).1,(h.fin i hi).2.1⟩);exact(h1.and h2).imp (fun w' hh=>⟨by show Rd w' k a xs.length (xs.flatMap C);rw[h.len];exact hh.1,hh.2.2⟩)
 · rw[h.all,df];exact h.src
theorem ZY{P:Program}{ops:Array Oper}{Q:Exit→Act→World→Prop}{md:Region.Mode}{S S':World→Prop}(h:∀w,S' w→S w) :
    ∀(fuel:Nat) (listed:Array Bool) (a:Act) (w:World),wpAnyH P md ops Q S' fuel listed a w→wpAnyH P md ops Q S fuel listed a w
 |0,_,_,_,k=>k
 |fuel+1,_,_,_,k=>⟨k.1,fun i hi=>wpOp_mono (fun a' w' h'=>⟨h w' h'.1,ZY h fuel _ a' w' h'.2⟩) (k.2 i hi)⟩
theorem Vr.sets_at(h:Vr w b cs)(o:Nat)(cs':List Value)(ho:o+cs'.length≤cs.length):Vr (w.setCells b o cs') b (cs.take o++(cs'++cs.drop (o+cs'.length))) where
 lt:=aN h.lt (ZH w b cs' o).size
 cells j v hv:=by
  have hth:w.there b o cs'.length:=fun i hi=>⟨by rw[h.cells (o+i) _ (aP ja)];rfl,h.free (o+i) ja⟩
  rcases dw j o with hj|hj
  · rw[dh jec,iH hj]at hv;rw[gB b cs' o w ⟨b,j,none⟩ (fun _ _=>Or.inl hj)];exact h.cells j v hv
  · rw[dM jec,bN,iq ja]at hv;rcases dw (j- o) cs'.length with hk|hk
    · rw[dh hk]at hv;have:=iA w b o cs' hth (j- o) v hv;rwa[show o+(j- o)=j from by omega]at this
    · rw[dM hk,fM]at hv;rw[gB b cs' o w ⟨b,j,none⟩ (fun _ _=>Or.inr (by show o+cs'.length≤j;omega))];rw[show o+cs'.length+(j- o- cs'.length)=j from by omega]at hv;exact h.cells j v hv
 free j hj:=by
  rw[iy];refine h.free j ?_;simp only[aG,bN,aK]at hj;omega
theorem Vr.there_at(h:Vr w b cs)(o n:Nat)(hn:o+n≤cs.length):w.there b o n:=fun j hj=>⟨by rw[h.cells (o+j) _ (aP ja)];rfl,h.free (o+j) ja⟩
theorem zge(l:List Int)(h:l.length=1):∃a,l=[a]:=by
 match l,h with
 | [a],_=>exact⟨a,rfl⟩
theorem six_of(l:List Int)(h:l.length=6):∃a b c d e f,l=[a,b,c,d,e,f]:=by
 match l,h with
 | [a,b,c,d,e,f],_=>exact⟨a,b,c,d,e,f,rfl⟩
theorem yD{l:List Int}(h:Rd W 1 A n (intC l))(hl:0<l.length):∃b o,A=some ⟨b,o,none⟩∧b<W.heap.size∧∀j v,(intC l)[j]? =some v→W.cell? ⟨b,o+j,none⟩=some v:=by
 obtain⟨b,o,hA,hb,hc⟩:=h.cells (by rw[intC_len];exact hl);exact⟨b,o,hA,hb,hc⟩
def Held(a b4:Nat)(P:World→Prop)(W:World):Prop:=∃F:Nat→Prop,Foot F P W∧∀k,F k→a≤k∧k<W.heap.size∧k≠b4
theorem Held.row(h:Held a b4 P W)(hg:W.grownBy W' (some q))(hq:q<a∨q=b4):Held a b4 P W':=by
 obtain⟨F,h1,h2⟩:=h;have hz:=hg.size;refine⟨F,h1.on hz (fun k hk=>hg.block k (h2 k hk).2.1 (fun e=> ?_)),fun k hk=>⟨(h2 k hk).1,aN (h2 k hk).2.1 hz,(h2 k hk).2.2⟩⟩;simp only[ax]at e;have h3:=h2 k hk;omega
theorem Held.below(h:Held a b4 P W)(hb:Below W.heap.size W W'):Held a b4 P W':=by
 obtain⟨F,h1,h2⟩:=h;exact⟨F,h1.on hb.size (fun k hk=>hb.block k (h2 k hk).2.1),fun k hk=>⟨(h2 k hk).1,aN (h2 k hk).2.1 hb.size,(h2 k hk).2.2⟩⟩
theorem yI(h:yG b P W)(ha:a≤b)(hb:b4<b∨W.heap.size≤b4):Held a b4 P W:=
 ⟨_,zai h,fun k hk=>⟨ah ha hk.1,hk.2,by omega⟩⟩
theorem Held.stays(h:Held a b4 P W):yG a P W:=by
 obtain⟨F,h1,h2⟩:=h;exact zgu h1 (fun k hk=>⟨(h2 k hk).1,(h2 k hk).2.1⟩)
theorem zbh(h:yV a w W)(hg:W.grownBy W' (some q))(hq:q<a∨w.heap.size≤q):yV a w W':=
 ⟨ah h.1 hg.size,fun k ha hk=>(hg.block k (aN hk h.1) (fun e=>by simp only[ax]at e;omega)).trans (h.2 k ha hk)⟩
theorem part_len(tk:Sc→α × Sc)(t:List UInt8)(s:Sc):(yt tk t s).2.rest.length≤s.rest.length:=ag _
theorem Vr.far(h:Vr W b cs)(hg:W.grownBy W' (some q))(hne:b≠q):Vr W' b cs:=h.grown hg hne
theorem zq{o:Nat}(vs:List Value):w.grownBy (w.setCells b o vs) (some b):=ZH w b vs o
