/- The contract of trace.Parse. -/
import Derived.Test.YtepbbaifpckcpaaGreatDoorPTrPa
import Derived.Test.YtepbbaifpckcpaaGreatDoorPTu
open Go.Proofs.Tryz
namespace Go.Proofs.YtepbbaifpckcpaaGreatDoor
set_option maxRecDepth 100000
set_option maxHeartbeats 2000000
open Go.RowKit
theorem zfV(s:List UInt8)(w:World)(he:Env w)(hs:s.length≤65536) :
    Calls prog 52 #[s,.string ⟨#[10]⟩] w fun e w'=>e= .returned (.slice (some ⟨w.heap.size,0,none⟩) (cutA s).length (cutA s).length)∧w'=w.alloc (.cells (strC (cutA s)).toArray 9):=by
 have hz:(ByteArray.mk s.toArray).size≤65536:=by simpa[ByteArray.size]using hs
 have hl:(ByteArray.mk s.toArray).data.toList=s:=by simp
 have hspl:=splitB_after ⟨s.toArray⟩;rw[hl]at hspl;have hle:=Lib.countB_le ⟨#[10]⟩ jf (ByteArray.mk s.toArray).size ⟨s.toArray⟩ (ag _);have hlen:(Lib.splitB ⟨#[10]⟩ 1 (Lib.countB ⟨s.toArray⟩ ⟨#[10]⟩) ⟨s.toArray⟩).length=Lib.countB ⟨s.toArray⟩ ⟨#[10]⟩+1:=Lib.splitB_all ⟨#[10]⟩ jf 1 _ _ rfl;have hn:Lib.countB ⟨s.toArray⟩ ⟨#[10]⟩+1=(cutA s).length:=by rw[←hlen,←hspl,bF]
 have hstr:(Lib.splitB ⟨#[10]⟩ 1 (Lib.countB ⟨s.toArray⟩ ⟨#[10]⟩) ⟨s.toArray⟩).map Value.string=strC (cutA s):=by
  rw[←hspl];exact fo165
 obtain⟨m,hm⟩:=he.mx;have h:=Tryz.strings_genSplit ⟨s.toArray⟩ ⟨#[10]⟩ 1 (-1) (Lib.countB ⟨s.toArray⟩ ⟨#[10]⟩+1) m w ja hm jf jf jf jf (by rw[af jf];omega);rw[Nat.add_sub_cancel,hlen]at h;have e2:Lib.cellsOf (Lib.splitB ⟨#[10]⟩ 1 (Lib.countB ⟨s.toArray⟩ ⟨#[10]⟩) ⟨s.toArray⟩) (Lib.countB ⟨s.toArray⟩ ⟨#[10]⟩+1)=(strC (cutA s)).toArray:=by
  rw[←hstr];conv=>lhs;rw[←hlen]
  exact Lib.cellsOf_full _
 rw[e2,hn]at h;have H:=hD h;clear h e2 hn hlen hle hspl hl hz hm hstr he hs;go_in;go_wp2_with fail;refine H.mono ?_;rintro e w' ⟨rfl,rfl⟩;exact fo138
structure PaSt (w:World) (acc:List Pt) (o:Value) (W:World):Prop where
 own:W.ownsRow w.heap.size 40 28 o acc.length (acc.flatMap ptC)
 low:Below w.heap.size w W
 ok:∀x∈acc,zeS x∧∀W',W.grownBy W' o.ownBlock→x.ok W'
theorem PaSt.start(w:World):PaSt w [] (.slice none 0 0) w:=⟨aR _ _ _ _,ae _ _,fun x hx=>by cases hx⟩
variable{args:Array Value}{f:FuncId}{s:List UInt8}{c j n:Nat}{A:Option Addr}{P:Program}{x:Pt}{o:Value}{W w w':World}
theorem PaSt.below{W':World}{acc:List Pt}(h:PaSt w acc o W)(hb:Below W.heap.size W W'):PaSt w acc o W':=
 ⟨ownsRow_below h.own hb,bon h.low hb,fun x hx=>⟨(h.ok x hx).1,fun W2 h2=>(h.ok x hx).2 W2 ((Zm hb _).trans h2)⟩⟩
theorem PaSt.more{W3 W6:World}{acc:List Pt}{v':Value}(h:PaSt w acc o W)(hb:Below W.heap.size W W3)(hx:yG W.heap.size x.ok W3)(hf:zeS x)
    (hown:W6.ownsRow w.heap.size 40 28 v' (acc.length+1) (acc.flatMap ptC++ptC x)) (hgr:W3.grownBy W6 o.ownBlock) (hat:v'.ownBlock=o.ownBlock∨v'.ownBlock=some W3.heap.size):PaSt w (acc++ [x]) v' W6:=by
 have hlt:∀g,o.ownBlock=some g→w.heap.size≤g∧g<W.heap.size:=fun g hg=>h.own.lt g hg
 refine⟨by rw[aG,bH];simpa using hown,below_grown (bon h.low hb) (bon h.low hb).size hgr (fun g hg=>(hlt g hg).1),fun y hy=> ?_⟩;have key:∀W',W6.grownBy W' v'.ownBlock→W3.grownBy W' o.ownBlock:=fun W' h6=>hgr.andThen h6 (fun j hj=>by
  rcases hat with e|e
  · exact Or.inr (by rw[←e,hj])
  · rw[e]at hj;cases hj;exact Or.inl (ag _))
 rw[di,dn]at hy;rcases hy with hy|rfl
 · exact⟨(h.ok y hy).1,fun W' h6=>((h.below hb).ok y hy).2 W' (key W' h6)⟩
 · exact⟨hf,fun W' h6=>hx W' (keeps_row (key W' h6) (fun g hg=>(hlt g hg).2))⟩
theorem PaSt.pts{acc:List Pt}(h:PaSt w acc (.slice A n c) W):Yz W A acc∧∀x∈acc,zeS x:=by
 obtain rfl:n=acc.length:=by
  rcases h.own.2 with⟨e,h0⟩|⟨g,cap,cur,e,_⟩
  · injection e with _ e2 _;omega
  · injection e
 exact⟨⟨Rd.own h.own,fun x hx=>(h.ok x hx).2 W (World.grownBy.refl _ _)⟩,fun x hx=>(h.ok x hx).1⟩
def zci(r:List Pt × Int × Int)(w:World)(e:Ending)(w':World):Prop:=
 ∃A c l,e= .returned (.tuple #[.slice A l.length c,.int .i64 r.2.1,.int .i64 r.2.2])∧l.map Pt.er=r.1∧Yz w' A l∧(∀x∈l,zeS x)∧Below w.heap.size w w'
theorem pts_nil(w:World):Yz w none []:=⟨Rd.nil _ _ _,fun x hx=>by cases hx⟩
theorem zdh{r:List Pt × Int × Int}{n e:Int}(h:r=([],n,e))(hb:Below w.heap.size w w'):zci r w (.returned (.tuple #["s",n,e])) w':=by
 subst h;exact⟨none,0,[],rfl,rfl,pts_nil _,(fun x hx=>by cases hx),hb⟩
theorem ret_parse_ok{r:List Pt × Int × Int}{l:List Pt}(hn:n=l.length)(h:r=(l.map Pt.er,0,0))(hp:Yz w' A l∧∀x∈l,zeS x)(hb:Below w.heap.size w w'):zci r w (.returned (.tuple #[.slice A n c,(),()])) w':=by
 subst h hn;exact⟨A,c,l,rfl,rfl,hp.1,hp.2,hb⟩
theorem late_last{acc:List Pt}(h:0<acc.length)(x:Pt):late (acc.map Pt.er) x.er=decide (x.time<acc[acc.length- 1].time):=by
 unfold late;rw[List.getLast?_map,iI,aP ja];rfl
theorem go_bad{pt:List UInt8→Option Pt}{r:List (List UInt8)}{acc:List Pt}(h:pt s=none):yZ pt (s::r) acc=([],(acc.length:Int)+1,2):=by rw[yZ,h]
theorem go_late{pt:List UInt8→Option Pt}{r:List (List UInt8)}{acc:List Pt}(h:pt s=some x)(hl:late acc x=true):yZ pt (s::r) acc=([],(acc.length:Int)+1,1):=by
 rw[yZ,h];simp only;rw[af hl]
theorem go_many{pt:List UInt8→Option Pt}{r:List (List UInt8)}{acc:List Pt}(h:pt s=some x)(hl:late acc x=false)(hn:acc.length=5000):yZ pt (s::r) acc=([],(acc.length:Int)+1,3):=by
 rw[yZ,h];simp only;rw[aa (by rw[hl];decide),af hn]
theorem go_next{pt:List UInt8→Option Pt}{r:List (List UInt8)}{acc:List Pt}(h:pt s=some x)(hl:late acc x=false)(hn:acc.length≠5000):yZ pt (s::r) acc=yZ pt r (acc++ [x]):=by
 rw[yZ,h];simp only;rw[aa (by rw[hl];decide),aa hn]
theorem drop_full{L:List (List UInt8)}(h:j<L.length)(hf:zbN L[j]=true):(L.drop j).filter zbN=L[j]::(L.drop (j+1)).filter zbN:=by
 rw[bB h,List.filter_cons_of_pos hf]
theorem drop_empty{L:List (List UInt8)}(h:j<L.length)(hf:zbN L[j]=false):(L.drop j).filter zbN=(L.drop (j+1)).filter zbN:=by
 rw[bB h,List.filter_cons_of_neg (by rw[hf];decide)]
theorem retPs_none{o:Option Pt}(h:Calls P f args w (RetPs o w))(ho:o=none) :
    Calls P f args w fun e w'=>∃x:Pt,e= .returned (.tuple #[.agg (ptC x).toArray,false])∧Below w.heap.size w w':=
 h.mono fun _ _ hh=>by
  subst ho
  obtain⟨hb,x,he⟩:=hh
  exact⟨x,he,hb⟩
theorem zgd{o:Option Pt}{y:Pt}(h:Calls P f args w (RetPs o w))(ho:o=some y) :
    Calls P f args w fun e w'=>∃x:Pt,x.er=y∧e= .returned (.tuple #[.agg (ptC x).toArray,true])∧yG w.heap.size x.ok w'∧zeS x∧Below w.heap.size w w':=
 h.mono fun _ _ hh=>by
  subst ho
  obtain⟨hb,x,hx,he,hs,hf⟩:=hh
  exact⟨x,hx,he,hs,hf,hb⟩
theorem trParse_any(s:List UInt8)(w:World)(E:List UInt8→Bool)(he:Env w)(hE:EnA 60 E w)(hs:s.length≤65536) :
    Calls prog 33 #[s] w (zci (ZM (pt1 E) s) w):=by
 have HEnv:=hD he;have HE:=hD hE;have HSp:=hD (fun W (hb:Below w.heap.size w W)=>zfV s W (he.below hb) hs);obtain⟨L,hL⟩:∃L,L=cutA s:=⟨_,rfl⟩;rw[←hL]at HSp;have HPt:Hid (ZM (pt1 E) s=yZ (pt1 E) (L.filter zbN) []):=hD (by unfold ZM;rw[aa ja,hL,cutA_lines]);have HLl:Hid (∀p∈L,p.length≤65536):=hD (fun p hp=>by rw[hL]at hp;have:=cutA_le hp;omega);have hLn:L.length≤65537:=by rw[hL];have:=cutA_len s;omega
 have hs1:¬((65536:Int) <(s.length:Int)):=by omega
 obtain⟨i0,hi,hz0,hz1,hz2⟩:=info_parts infoPtr;have HI:=hD hi;have HZ0:=hD hz0;have HZ1:=hD hz1;have HZ2:=hD hz2;clear hi hz0 hz1 hz2 hL he hE;obtain⟨sb,hsb⟩:∃b,b=ByteArray.mk s.toArray:=⟨_,rfl⟩;have hsz:sb.size=s.length:=by rw[hsb];simp[ByteArray.size]
 rw[←hsb];rw[←hsb]at HSp;rw[←hsz]at hs1;clear hs hsb hsz;have HB0:=hD (ae w.heap.size w);go_in;go_wp2_with fail;refine(HSp w HB0).mono ?_;rintro e w1 ⟨rfl,hw1⟩;have HV:=hD (Vr.new w (strC L) 9);have HB1:=hD (za w (.cells (strC L).toArray 9));rw[←hw1]at HV HB1;clear hw1 HSp HB0;generalize w.heap.size=lb at HV⊢;have HPa0:=hD (PaSt.start w1);go_wp2_with fail;go_loopw [5,6,17] (fun o nm i wr=>∃(j:Nat) (acc:List Pt) (q:Value),i= .int .i64 j∧q=o∧nm= .int .i64 acc.length∧j≤L.length∧acc.length≤5000∧PaSt w1 acc q wr∧yZ (pt1 E) (L.filter zbN) []=yZ (pt1 E) ((L.drop j).filter zbN) (acc.map Pt.er)) (fun _ _ i _=>L.length-(intOf i).toNat)
 case atStart=>exact⟨0,[],_,rfl,rfl,rfl,bf _,bf _,HPa0,rfl⟩
 case round=>
  obtain⟨j,acc,o,rfl,rfl,rfl,hj,hn,hst,hgo⟩:=hrel;have HJ:=hD hst;have HGo:=hD hgo;clear hst hgo;have HBr:=hD (bon HB1 HJ.low);by_cases hlt:j<L.length
  · have i0':(0:Int)≤(j:Int):=by omega
    have i1:(j:Int) <(L.length:Int):=by omega
    have HVr:=hD (HV.below HJ.low);have c0:wr.cell? ⟨lb,j,none⟩=some (.string ⟨L[j].toArray⟩):=HVr.cells j _ (by simp[strC,hlt]);have HMem:=hD (HLl _ (aH hlt));have HDf:=hD (fun h=>drop_full hlt h);have HDe:=hD (fun h=>drop_empty hlt h);obtain⟨t,ht⟩:∃t,t=L[j]:=⟨_,rfl⟩;rw[←ht]at c0 HMem HDf HDe;clear ht;by_cases hfl:zbN t=true
    · have e1:t.isEmpty=false:=by simpa[zbN]using hfl
      have HD:=hD (HDf hfl);clear hfl HDf HDe;go_wp2_with fail;have HC:=hD (trParsePt_any t wr E (HEnv.below HBr) (HE.below HBr) HMem);cases hp:pt1 E t with
      |none=>
       have HT:Hid (ZM (pt1 E) s=([],(acc.length:Int)+1,2)):=hD (by rw[HPt.out,HGo.out,HD.out,go_bad hp,bF]);exact fo61
      |some y=>
       refine(zgd HC hp).mono ?_;rintro e w2 ⟨x,hx,rfl,hst,hf,hb⟩;have HY:=hD hp;have HXe:=hD hx;have HSt:=hD hst;have HFw:=hD hf;have HX0:=hD (Vr.new w2 (ptC pt0) 40);have HX:=hD (HX0.sets (ptC x) rfl);have HBn:=hD (zf (bon hb (za w2 (.cells (ptC pt0).toArray 40))) (zb (b:=w2.heap.size) (ptC x)) hb.size);have HSn:=hD (HSt.on (zl _ (zf (za w2 (.cells (ptC pt0).toArray 40)) (zb (b:=w2.heap.size) (ptC x)) (ag _))));clear hb hp hx hst hf HC HSt;go_upto_region 11 with(refine ai rfl 40 _ _ rfl w2.heap.size 0 (ptC x).toArray rfl rfl ?_ (zw x) (yz x) ?_;· exact HX0.there rfl)
       try simp only[ay]
       change Code.wp _ _ _ _ ((w2.alloc (.cells (ptC pt0).toArray 40)).setCells w2.heap.size 0 (ptC x));generalize (w2.alloc (.cells (ptC pt0).toArray 40)).setCells w2.heap.size 0 (ptC x)=w3 at HX HBn HSn⊢;generalize w2.heap.size=b3 at HX⊢;clear HX0;have HJ3:=hD (HJ.below HBn);have cx:=HX.cells 0 _ rfl;have lx:=HX.lt;obtain⟨A,cp,hv⟩:=ownsRow_form HJ3.own;subst hv;generalize hnl:acc.length=n at hn HJ HJ3⊢;have HNl:=hD hnl;obtain⟨lt,hll⟩:∃b,b=late (acc.map Pt.er) y:=⟨_,rfl⟩;have HLt:=hD hll;clear hll hnl;go_upto_region 13 with fail;go_cut [34] from 35 to 49 (fun t wx=>t= .bool lt∧Below w3.heap.size w3 wx)
       case first=>exact fo19
       case rest=>
        rename World=>w4;obtain⟨ht34,hb4⟩:=hcut;subst ht34;have HX4:=hD (HX.below hb4);have HB4:=hD (bon HBn hb4);have HS4:=hD (HSn.on (zl _ hb4));have HJ4:=hD (HJ.below HB4);have HBe:=hD (bon HBr HB4);clear hb4 cx lx HX HJ3 HBn HSn;cases lt with
        |true=>
         have HT:Hid (ZM (pt1 E) s=([],(n:Int)+1,1)):=hD jcm;exact fo124
        |false=>
         by_cases h5:n=5000
         · have q5:((n:Int) == 5000)=true:=by rw[aV];omega
           have HT:Hid (ZM (pt1 E) s=([],(n:Int)+1,3)):=hD jfe;exact fo124
         · have q5:((n:Int) == 5000)=false:=by rw[aF];omega
           have HG2:Hid (yZ (pt1 E) (L.filter zbN) []=yZ (pt1 E) ((L.drop (j+1)).filter zbN) ((acc++ [x]).map Pt.er)):=hD (fo170);have hz:=HJ4.low.size;have HO4:Hid ((w4.alloc (.cells (ptC x).toArray 40)).ownsRow w1.heap.size 40 28 (.slice A n cp) n (acc.flatMap ptC)):=hD jcy;have HN4:=hD (zN w4 (ptC x) 40 _ rfl);have hz4:w1.heap.size≤(w4.alloc (.cells (ptC x).toArray 40)).heap.size:=by simp;omega
           go_upto_region 17 with fail;refine wp_region_list ?_;refine wpList_plain rfl (fun K hK=> ?_);go_simp;refine hK _ _ ?_;clear hK K;refine ak rfl 40 _ rfl b3 0 rfl (ptC x) _ HX4.range underlying40 rfl (zw x) ?_;refine gJ rfl 22 40 1 _ rfl w4.heap.size rfl _ rfl underlying22 (ptC x).toArray jb ?_;refine cB _ rfl _ _ 22 rfl w1.heap.size 40 i0 _ 28 368 underlying22 HI HZ0 HZ1 HZ2 rfl jf (.slice A n cp) n (acc.flatMap ptC) rfl HO4 ⟨w4.heap.size,0,none⟩ 1 1 (ptC x) rfl rfl HN4 (ptC_ones x) jq ja hz4 ?_;intro v' w6 hown' hgrow _ hat;have HN:Hid (PaSt w1 (acc++ [x]) v' w6):=hD (HJ.more (bon HB4 (za w4 (.cells (ptC x).toArray 40))) (HS4.on (zl _ (za w4 (.cells (ptC x).toArray 40)))) HFw (by rw[HNl.out];exact hown') hgrow hat);clear hown' hgrow hat;go_wp2_with fail;go_roundw
           case rel=>exact⟨j+1,acc++ [x],_,by go_num,rfl,by rw[aG,fP,HNl.out];go_num,by omega,by rw[aG,fP,HNl.out];omega,HN,HG2⟩
           case measure=>simp[intOf];omega
    · have e1:t.isEmpty=true:=by simpa[zbN]using hfl
      have HD:=hD (HDe (by simpa using hfl));clear hfl HDf HDe;go_wp2_with fail;go_roundw
      case rel=>exact⟨j+1,acc,_,by go_num,rfl,rfl,by omega,hn,HJ,by rw[←HD.out];exact HGo⟩
      case measure=>simp[intOf];omega
  · obtain rfl:j=L.length:=by omega
    have HT:Hid (ZM (pt1 E) s=(acc.map Pt.er,0,0)):=hD (by rw[HPt.out,HGo.out,df];rfl);exact fo146
