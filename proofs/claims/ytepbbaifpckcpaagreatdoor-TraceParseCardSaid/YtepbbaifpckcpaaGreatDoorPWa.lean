/- The builder of the call's own, tables of types, small steps: at this program. -/
import Derived.Test.YtepbbaifpckcpaaGreatDoorRows
import Derived.Test.YtepbbaifpckcpaaGreatDoorPPl
import Derived.Test.YtepbbaifpckcpaaGreatDoorPShelf
open Go.Proofs.Tryz
namespace Go.Proofs.YtepbbaifpckcpaaGreatDoor
open Go.RowKit
theorem info_parts{t:TypeId}{x:Option Value × Nat × Nat}(h:(prog.info? t).map (fun i=>(i.zero,i.size,i.bytes))=some x):∃i,prog.info? t=some i∧i.zero=x.1∧i.size=x.2.1∧i.bytes=x.2.2:=by
 cases hi:prog.info? t with
 |none=>rw[hi]at h;simp at h
 |some i=>
  rw[hi]at h;simp only[dH,ax]at h;subst h;exact⟨i,rfl,rfl,rfl,rfl⟩
theorem infoB:(prog.info? 5).map (fun i=>(i.zero,i.size,i.bytes))=some (some (.int .u8 0),1,1):=by kernel_rfl
theorem zdC:(prog.info? 9).map (fun i=>(i.zero,i.size,i.bytes))=some (some (.string ⟨#[]⟩),1,16):=by kernel_rfl
def BSt(w0:World)(l:List UInt8)(w:World):Prop:=Lib.IsBuilder 77 5 w0.heap.size w0.heap.size (Lib.byteCells l) w∧Below w0.heap.size w0 w∧w0.heap.size≤w.heap.size
theorem zdJ(w:World):BSt w [] (w.alloc (.cells #[.pointer none,"s"] 77)):=
 ⟨gN 77 5 w,(ae _ _).alloc (ag _) _,by simp⟩
variable{args:Array Value}{k:FuncId}{l:List UInt8}{cs:List Value}{P:Program}{T:TypeId}{w w' w0 w1:World}
theorem bst_drewN(h:BSt w0 l w)(n:Nat):BSt w0 l (w.drewN n):=⟨h.1,bdN h.2.1 n,h.2.2⟩
theorem zdV(h:BSt w0 l w)(s:ByteArray)(hl:l.length+s.size≤140737488355328) :
    Calls prog 47 #[.pointer (some ⟨w0.heap.size,0,none⟩),s] w fun e w'=>e= .returned (.tuple #[s.size,.nilIface])∧BSt w0 (l++s.data.toList) w':=
 (Tryz.Builder_WriteString _ _ _ s w h.1 jdv h.2.2).mono fun _ _ ⟨he,hI,hb⟩=>
  ⟨he, by have : Lib.byteCells l ++ Lib.strCells s = Lib.byteCells (l ++ s.data.toList) := by simp [Lib.byteCells, Lib.strCells]
          rw[this]at hI;exact .inr hI,h.2.1.trans hb,ah h.2.2 hb.size⟩
theorem zcm(h:BSt w0 l w)(c:Int)(h0:0≤c)(h1:c<256)(hl:l.length+1≤140737488355328) :
    Calls prog 114 #[.pointer (some ⟨w0.heap.size,0,none⟩),.int .u8 c] w fun e w'=>e= .returned .nilIface∧BSt w0 (l++ [c.toNat.toUInt8]) w':=
 (Tryz.Builder_WriteByte _ _ _ c w h.1 jdv h.2.2).mono fun _ _ ⟨he,hI,hb⟩=>
  ⟨he,by rw[byteCells_snoc l c h0 h1]at hI;exact .inr hI,h.2.1.trans hb,ah h.2.2 hb.size⟩
theorem zfF(h:BSt w0 l w) :
    Calls prog 50 #[.pointer (some ⟨w0.heap.size,0,none⟩)] w fun e w'=>e= .returned (.string ⟨l.toArray⟩)∧Below w0.heap.size w0 w':=
 (Tryz.Builder_String_any _ _ l w h.1 h.2.2).mono fun _ _ ⟨he,hb⟩=>⟨he,h.2.1.trans hb⟩
theorem zeM{l':List UInt8}(h:BSt w0 l w)(e:l=l'):BSt w0 l' w:=e▸h
def Bx(w:World)(cs:List Value)(T:TypeId)(w':World):Prop:=Below (w.heap.size+1) (w.alloc (.cells cs.toArray T)) w'
theorem Zy(w:World)(cs:List Value)(T:TypeId):Bx w cs T (w.alloc (.cells cs.toArray T)):=ae _ _
theorem zC(h:Bx w cs T w'):Below w.heap.size w w':=(za w _).trans (Below.mono h ja)
theorem ZT(h:Bx w cs T w'):w.heap.size+1≤w'.heap.size:=by
 have:=Below.size h;simpa using this
theorem zg(h:Bx w cs T w')(j:Nat)(v:Value)(hj:cs[j]? =some v):w'.cell? ⟨w.heap.size,j,none⟩=some v:=by
 have h1:=Below.cell h (p:=(⟨w.heap.size,0,none⟩:Addr).add j) (by rw[zaO];simp);rw[zN w cs T w.heap.size rfl j v hj,zaO,bI]at h1;exact h1
theorem yO(h:Bx w cs T w'):Bx w cs T w'.drew:=bP h
theorem yn(h:Bx w cs T w')(o:Obj):Bx w cs T (w'.alloc o):=dY h (ZT h) o
theorem zbv{w2:World}(h:Bx w cs T w1)(k:Below w1.heap.size w1 w2):Bx w cs T w2:=Below.trans h (k.mono (ZT h))
def Gives(w:World)(cs:List Value)(T:TypeId)(l:List UInt8)(e:Ending)(w':World):Prop:=e= .returned (.string ⟨l.toArray⟩)∧Bx w cs T w'
theorem zZ(hb:Bx w cs T w1)(h:Calls P k args w1 (zm l w1)):Calls P k args w1 (Gives w cs T l):=
 h.mono fun _ _ ⟨he,hw⟩=>⟨he,zbv hb hw⟩
def zfl(w:World)(cs:List Value)(T:TypeId)(n:Nat)(l:List (List UInt8))(e:Ending)(w':World):Prop:=∃A c,e= .returned (.slice A n c)∧Rd w' 1 A n (strC l)∧Bx w cs T w'
theorem zgn{l:List (List UInt8)}(hb:Bx w cs T w1){n:Nat}(h:Calls P k args w1 (zbA l w1))(hn:l.length=n):Calls P k args w1 (zfl w cs T n l):=
 h.mono fun _ _ ⟨A,c,he,hr,hw⟩=>⟨A,c,by rw[he,hn],by rw[←hn];exact hr,zbv hb hw⟩
set_option maxRecDepth 100000
set_option maxHeartbeats 2000000
theorem or128':∀n:Fin 256,bits BinOp.or IntKind.u8 (n.val:Int) 128=128+(n.val:Int) % 128:=by decide +kernel
theorem or128(n:Int)(h0:0≤n)(h1:n<256):bits BinOp.or IntKind.u8 n 128=128+n % 128:=by
 obtain⟨k,rfl⟩:=bA h0;exact or128' ⟨k,by omega⟩
def RetNone(w:World)(l:List UInt8)(e:Ending)(w':World):Prop:=e= .returned (.tuple #[])∧BSt w l w'
theorem zcd(m:Nat)(h:¬m<128):varint m=[((128+(m:Int) % 128).toNat).toUInt8]++varint (m / 128):=by
 rw[zbl m h];have:(128+(m:Int) % 128).toNat=128+m % 128:=by omega
 rw[this];rfl
theorem zeK(n:Nat)(hn:n<18446744073709551616)(w0 w:World)(l:List UInt8)(h:BSt w0 l w)(hl:l.length≤70368744177664) :
    Calls prog 218 #[.pointer (some ⟨w0.heap.size,0,none⟩),.int .u64 n] w (RetNone w0 (l++varint n)):=by
 have H:=hD h;have HV:=hD (yS n hn);clear h;go_in;go_wp2_with fail;go_loopw [1] (fun i wr=>∃(m:Nat) (p:List UInt8),i= .int .u64 m∧m≤n∧varint n=p++varint m∧BSt w0 (l++p) wr) (fun i _=>(intOf i).toNat)
 case atStart=>exact⟨n,[],rfl,ag _,by simp,by simpa using H.out⟩
 case round=>
  obtain⟨m,p,rfl,hm,hv,hb⟩:=hrel;have HB:=hD hb;have HS:=hD hv;have hp:=aL List.length hv;rw[aG]at hp;have hp2:=HV.out;have HP:Hid ((l++p).length+1≤140737488355328):=hD jcu;clear hb hv hp hp2;have c1:(m:Int) % 256<256:=by omega
  have c0:0≤(m:Int) % 256:=by omega
  by_cases hlt:m<128
  · have x1:¬(128:Int)≤(m:Int):=by omega
    have c2:(m:Int) % 256=m:=by omega
    have c3:(m:Int).toNat.toUInt8=m.toUInt8:=rfl;have HW:=hD (zcm HB (m:Int) ja ja HP);go_wp2_with fail;refine HW.mono ?_;rintro e w1 ⟨rfl,b1⟩;go_wp2_with fail;go_end0;exact⟨rfl,zeM b1 (by rw[HS.out,Zu m hlt,bM];rfl)⟩
  · have x1:(128:Int)≤(m:Int):=by omega
    have HO:=hD (or128 _ c0 c1);have HW:=hD (fun x (hx:x=bits BinOp.or IntKind.u8 ((m:Int) % 256) 128)=>zcm HB x (by rw[hx,HO.out];omega) (by rw[hx,HO.out];omega) HP);go_wp2_with fail;refine(HW _ rfl).mono ?_;rintro e w1 ⟨rfl,b1⟩;rw[HO.out]at b1;have HB1:=hD b1;clear b1;go_wp2_with fail;go_roundw
    case rel=>
     refine⟨m / 128,p++ [((128+(m:Int) % 128).toNat).toUInt8],by go_num,by omega,by rw[HS.out,zcd m hlt,bM],zeM HB1 ?_⟩;rw[bM];have:(m:Int) % 256 % 128=(m:Int) % 128:=by omega
     rw[this]
    case measure=>simp[intOf];omega
theorem ZF(A:Option Addr)(c:Nat)(l:List (List UInt8))(w:World)(hr:Rd w 1 A l.length (strC l))(hn:l.length≤1099511627776)(ht:tot l≤17592186044416) :
    Calls prog 168 #[.slice A l.length c] w (zm (zk l) w):=by
 have HR:=hD hr;have H0:=hD (zdJ w);have HP:=hD (zeK l.length ja w _ [] H0 jc);have HT:=hD (zdd l);have HG:=hD (tot_get l);have HV:=hD (yS l.length ja);clear hr;go_in;go_wp2_with fail;refine HP.mono ?_;rintro e w1 ⟨rfl,b1⟩;have B1:=hD b1;clear b1;go_wp2_with fail;go_loopw [12] (fun i wr=>∃k:Nat,i= .int .i64 k∧k≤l.length∧BSt w (varint l.length++(l.take k).flatMap zn) wr) (fun i _=>l.length-(intOf i).toNat)
 case atStart=>exact⟨0,rfl,by omega,by simpa using B1.out⟩
 case round=>
  obtain⟨k,rfl,hk,hb⟩:=hrel;have HB:=hD hb;clear hb;by_cases hlt:k<l.length
  · have i0:(0:Int)≤(k:Int):=by omega
    have i1:(k:Int) <(l.length:Int):=by omega
    obtain⟨g,o,rfl,hg,hcc⟩:=HR.cells (by simp[strC];omega);have HR2:=hD (HR.below HB.2.1);have ca:wr.cell? ⟨g,o+k,none⟩=some (.string ⟨(l[k]).toArray⟩):=by
     rw[HB.out.2.1.cell (p:=⟨g,o+k,none⟩) hg];exact hcc k _ (by simp[strC,hlt])
    have hs1:=HT.out k;have hs2:=HG.out k hlt;have hs4:=HV.out;have hs5:((l.take k).flatMap zn).length≤10 * l.length+tot l:=by
     have:=strs_len (l.take k) ja;exact fo143
    have hv:=yS (l[k]).length ja;have HPk:=hD (zeK (l[k]).length ja w wr _ HB jcu);have HE:Hid ((l.take (k+1)).flatMap zn=(l.take k).flatMap zn++(varint (l[k]).length++l[k])):=hD (by
     rw[bq hlt,bH];simp only[aU,eD,bE,zn])
    have HL:Hid ((varint l.length++(l.take k).flatMap zn++varint (l[k]).length).length+(ByteArray.mk (l[k]).toArray).size≤140737488355328):=hD (by
     rw[size_mk];simp only[aG];omega)
    have hs6:(l[k]).length≤17592186044416:=by omega
    clear hcc hs1 hs2 hs4 hs5 hv;go_wp2_with fail;refine HPk.mono ?_;rintro e w2 ⟨rfl,b2⟩;have HW:=hD (zdV b2 ⟨(l[k]).toArray⟩ HL);clear b2;go_wp2_with fail;refine HW.mono ?_;rintro e w3 ⟨rfl,b3⟩;have B3:=hD b3;clear b3;go_wp2_with fail;go_roundw
    case rel=>
     refine⟨k+1,by go_num,by omega,zeM B3.out ?_⟩;rw[HE.out];simp
    case measure=>simp[intOf];omega
  · have HE:Hid (varint l.length++(l.take k).flatMap zn=zk l):=hD jff;exact fo162
theorem xor_ones(a:Nat)(h:a<18446744073709551616):a ^^^ 18446744073709551615=18446744073709551615- a:=by
 have h1:=aL BitVec.toNat (BitVec.xor_allOnes (x:=BitVec.ofNat 64 a));rw[BitVec.toNat_xor,BitVec.toNat_not,BitVec.toNat_ofNat,BitVec.toNat_allOnes,fe h]at h1;exact h1
theorem zig_bits(n:Int)(h0:-9223372036854775808≤n)(h1:n≤9223372036854775807):bits BinOp.xor IntKind.u64 (IntKind.u64.wrap (IntKind.u64.wrap n * 2)) (IntKind.u64.wrap (n / 9223372036854775808))=(zig n:Nat):=by
 have e2:IntKind.u64.wrap (IntKind.u64.wrap n * 2)=((2 * n) % 18446744073709551616).toNat:=fo168;have e3:IntKind.u64.wrap (n / 9223372036854775808)=((if 0≤n then 0 else 18446744073709551615:Nat):Int):=by
  simp[IntKind.wrap,IntKind.signed,IntKind.bits];split <;> omega
 rw[e2,e3,bits_xor_u64_nat _ _ ja (by split <;> omega)];unfold zig;split
 · rw[Nat.xor_zero];omega
 · rw[xor_ones _ ja];omega
theorem wirePut_any(n:Nat)(hn:n<18446744073709551616)(w:World) :
    Calls prog 219 #[.int .u64 n] w (zm (varint n) w):=by
 have H0:=hD (zdJ w);go_in;go_wp2_with fail;refine(zeK n hn w _ [] H0 jc).mono ?_;rintro e w1 ⟨rfl,b1⟩;have B1:=hD b1;clear b1;go_wp2_with fail;refine(zfF B1.out).mono ?_;rintro e w2 ⟨rfl,b2⟩;go_wp2_with fail;go_ret;exact⟨rfl,b2⟩
theorem Z4(s:List UInt8)(hs:s.length≤70368744177664)(w:World) :
    Calls prog 161 #[s] w (zm (zn s) w):=by
 have HP:=hD (wirePut_any s.length ja w);exact fo140
theorem YP(A:Option Addr)(c:Nat)(l:List Int)(w:World)(hr:Rd w 1 A l.length (intC l))(hn:l.length≤1099511627776)(ht:∀n∈l,I64 n) :
    Calls prog 160 #[.slice A l.length c] w (zm (zu l) w):=by
 have HR:=hD hr;have H0:=hD (zdJ w);have HP:=hD (zeK l.length ja w _ [] H0 jc);have HI:=hD ht;have HV:=hD (yS l.length ja);clear hr ht;go_in;go_wp2_with fail;refine HP.mono ?_;rintro e w1 ⟨rfl,b1⟩;have B1:=hD b1;clear b1;go_wp2_with fail;go_loopw [12] (fun i wr=>∃k:Nat,i= .int .i64 k∧k≤l.length∧BSt w (varint l.length++(l.take k).flatMap fun n=>varint (zig n)) wr) (fun i _=>l.length-(intOf i).toNat)
 case atStart=>exact⟨0,rfl,by omega,by simpa using B1.out⟩
 case round=>
  obtain⟨k,rfl,hk,hb⟩:=hrel;have HB:=hD hb;clear hb;by_cases hlt:k<l.length
  · have i0:(0:Int)≤(k:Int):=by omega
    have i1:(k:Int) <(l.length:Int):=by omega
    obtain⟨g,o,rfl,hg,hcc⟩:=HR.cells (by simp[intC];omega);have ca:wr.cell? ⟨g,o+k,none⟩=some (.int .i64 l[k]):=by
     rw[HB.out.2.1.cell (p:=⟨g,o+k,none⟩) hg];exact hcc k _ (by simp[intC,hlt])
    have hI:=HI.out l[k] (aH hlt);have j0:=hI.1;have j1:=hI.2;have HZ:=hD (zig_bits l[k] j0 j1);have hl5:((l.take k).flatMap fun n=>varint (zig n)).length≤10 * l.length:=fo280;have hv:=HV.out;have HPk:=hD (zeK (zig l[k]) (zig_lt _ j0 j1) w wr _ HB jcu);have HE:Hid ((l.take (k+1)).flatMap (fun n=>varint (zig n))=(l.take k).flatMap (fun n=>varint (zig n))++varint (zig l[k])):=hD (fo117);clear hcc hI hl5 hv;go_wp2_with fail;rw[HZ.out];refine HPk.mono ?_;rintro e w2 ⟨rfl,b2⟩;have B2:=hD b2;clear b2;go_wp2_with fail;go_roundw
    case rel=>
     refine⟨k+1,by go_num,by omega,zeM B2.out ?_⟩;rw[HE.out];simp
    case measure=>simp[intOf];omega
  · have HE:Hid (varint l.length++(l.take k).flatMap (fun n=>varint (zig n))=zu l):=hD jff;exact fo162
theorem own_str(w:World)(p:List UInt8)(A:Option Addr)(n c:Nat)(hn:n=p.length)(hp:0<p.length)(h:Rd w 1 A n (Lib.byteCells p)) :
    Sem.run prog (convert 75 9 (.slice A n c)) w= .ok (.string ⟨p.toArray⟩) w:=by
 subst hn;obtain⟨b,o,rfl,_,hc⟩:=h.cells (by simpa[Lib.byteCells]using hp);exact run_convert_bytes_back w _ _ 5 ⟨b,o,none⟩ c p underlying75 underlying5 underlying9 (fun j hj=>by
  rw[add_plain'];exact hc j _ (by simp[Lib.byteCells,hj]))
theorem YH(n:Nat)(hn:n<18446744073709551616)(w:World) :
    Calls prog 110 #[.int .u64 n] w (zm (varint n) w):=by
 obtain⟨i0,hi,hz0,hz1,hz2⟩:=info_parts infoB;have HI:=hD hi;have HZ0:=hD hz0;have HZ1:=hD hz1;have HZ2:=hD hz2;have HV:=hD (yS n hn);clear hi hz0 hz1 hz2;go_in;go_wp2_with fail;go_loopw [0,3] (fun i o wr=>∃(m:Nat) (p:List UInt8),i= .int .u64 m∧m≤n∧varint n=p++varint m∧wr.ownsRow w.heap.size 5 1 o p.length (Lib.byteCells p)∧Below w.heap.size w wr∧w.heap.size≤wr.heap.size) (fun i _ _=>(intOf i).toNat)
 case atStart=>exact⟨n,[],rfl,ag _,by simp,aR _ _ _ _,ae _ _,ag _⟩
 case round=>
  obtain⟨m,p,rfl,hm,hv,hown,hb,hge⟩:=hrel;have HO:=hD hown;have HB:=hD hb;have HS:=hD hv;have hp:=aL List.length hv;rw[aG]at hp;have hp2:=HV.out;have hp3:p.length≤10:=by omega
  clear hb hv hown hp hp2;by_cases hlt:m<128
  · have x1:¬(128:Int)≤(m:Int):=by omega
    have c2:(m:Int) % 256=m:=by omega
    go_wp2_with (at_builtin;refine bu _ rfl _ _ 75 rfl w.heap.size 5 i0 _ 1 1 underlying75 HI HZ0 HZ1 HZ2 rfl jf _ _ _ rfl (HO.alloc _) ⟨wr.heap.size,0,none⟩ 1 1 [.int .u8 (m:Int)] rfl rfl (zN _ _ _ _ rfl) jr jq ja jg ?_);intro v' w2 hown' hgrow _;rw[byteCells_snoc p (m:Int) ja ja]at hown';obtain⟨A,c,hv⟩:=ownsRow_form hown';subst hv;have hcv:=own_str w2 _ A (p.length+1) c jc jc (Rd.own hown');have HG2:=hD hgrow;clear hown' hgrow;go_wp2_with fail;go_ret;refine Z9 (by rw[HS.out,Zu m hlt]) (below_grown (HB.alloc hge _) jg HG2 (fun g hg=>(HO.lt g hg).1))
  · have x1:(128:Int)≤(m:Int):=by omega
    go_wp2_with (at_builtin;refine bu _ rfl _ _ 75 rfl w.heap.size 5 i0 _ 1 1 underlying75 HI HZ0 HZ1 HZ2 rfl jf _ _ _ rfl (HO.alloc _) ⟨wr.heap.size,0,none⟩ 1 1 [.int .u8 (128+(m:Int) % 128)] rfl rfl (zN _ _ _ _ rfl) jr jq ja jg ?_);intro v' w2 hown' hgrow _;rw[byteCells_snoc p (128+(m:Int) % 128) ja ja]at hown';have HO2:=hD hown';have HG2:=hD hgrow;clear hown' hgrow;go_wp2_with fail;go_roundw
    case rel=>
     refine⟨m / 128,p++ [((128+(m:Int) % 128).toNat).toUInt8],by go_num,by omega,by rw[HS.out,zcd m hlt,bM],?_,below_grown (HB.alloc hge _) jg HG2 (fun g hg=>(HO.lt g hg).1),?_⟩
     · have h9:=HO2.out;simpa using h9
     · exact fo59
    case measure=>simp[intOf];omega
theorem zigzag_any(n:Int)(h0:-9223372036854775808≤n)(h1:n≤9223372036854775807)(w:World) :
    Calls prog 111 #[n] w fun e w'=>e= .returned (.int .u64 (zig n:Nat))∧w=w':=by
 by_cases h:0≤n
 · have hz:Hid ((zig n:Int)=2 * n):=hD (by unfold zig;rw[af h];omega);go_in;go_wp2_with fail;go_ret;exact⟨zb0 (by rw[hz.out]),rfl⟩
 · have hz:Hid ((zig n:Int)=-2 * n- 1):=hD (by unfold zig;rw[aa h];omega);go_in;go_wp2_with fail;go_ret;exact⟨zb0 (by rw[hz.out];omega),rfl⟩
theorem Zt(s:List UInt8)(hs:s.length≤70368744177664)(w:World) :
    Calls prog 71 #[s] w (zm (zn s) w):=by
 have HP:=hD (YH s.length ja w);exact fo140
theorem Ze(A:Option Addr)(c:Nat)(l:List (List UInt8))(w:World)(hr:Rd w 1 A l.length (strC l))(hn:l.length≤1099511627776)(ht:tot l≤17592186044416) :
    Calls prog 73 #[.slice A l.length c] w (zm (zk l) w):=by
 have HR:=hD hr;have HP:=hD (YH l.length ja w);have HT:=hD (zdd l);have HG:=hD (tot_get l);have HV:=hD (yS l.length ja);clear hr;go_in;go_wp2_with fail;refine HP.mono ?_;rintro e w1 ⟨rfl,b1⟩;have B1:=hD b1;clear b1;go_wp2_with fail;go_loopw [3,4] (fun o i wr=>∃(k:Nat) (p:List UInt8),i= .int .i64 k∧k≤l.length∧o= .string ⟨p.toArray⟩∧Below w.heap.size w wr∧p=varint l.length++(l.take k).flatMap zn) (fun _ i _=>l.length-(intOf i).toNat)
 case atStart=>exact⟨0,varint l.length,rfl,by omega,rfl,B1.out,by simp⟩
 case round=>
  obtain⟨k,p,rfl,hk,rfl,hb,he0⟩:=hrel;have HB:=hD hb;have HE0:=hD he0;clear hb he0;by_cases hlt:k<l.length
  · have i0:(0:Int)≤(k:Int):=by omega
    have i1:(k:Int) <(l.length:Int):=by omega
    obtain⟨g,o,rfl,hg,hcc⟩:=HR.cells (by simp[strC];omega);have ca:wr.cell? ⟨g,o+k,none⟩=some (.string ⟨(l[k]).toArray⟩):=by
     rw[HB.out.cell (p:=⟨g,o+k,none⟩) hg];exact hcc k _ (by simp[strC,hlt])
    have hs1:=HT.out k;have hs2:=HG.out k hlt;have hs4:=HV.out;have hs5:((l.take k).flatMap zn).length≤10 * l.length+tot l:=by
     have:=strs_len (l.take k) ja;exact fo143
    have hs6:(l[k]).length≤17592186044416:=by omega
    have hs7:p.length≤35184372088832:=by rw[HE0.out];simp only[aG];omega
    have hs8:=zJ (l[k]) ja;have HPk:=hD (Zt (l[k]) ja wr);have HE:Hid ((l.take (k+1)).flatMap zn=(l.take k).flatMap zn++zn (l[k])):=hD (fo117);clear hcc hs1 hs2 hs4 hs5;go_wp2_with fail;refine HPk.mono ?_;exact fo102
  · exact fo130
theorem ZG(A:Option Addr)(c:Nat)(l:List Int)(w:World)(hr:Rd w 1 A l.length (intC l))(hn:l.length≤1099511627776)(ht:∀n∈l,I64 n) :
    Calls prog 70 #[.slice A l.length c] w (zm (zu l) w):=by
 have HR:=hD hr;have HP:=hD (YH l.length ja w);have HI:=hD ht;have HV:=hD (yS l.length ja);clear hr ht;go_in;go_wp2_with fail;refine HP.mono ?_;rintro e w1 ⟨rfl,b1⟩;have B1:=hD b1;clear b1;go_wp2_with fail;go_loopw [3,4] (fun o i wr=>∃(k:Nat) (p:List UInt8),i= .int .i64 k∧k≤l.length∧o= .string ⟨p.toArray⟩∧Below w.heap.size w wr∧p=varint l.length++(l.take k).flatMap fun n=>varint (zig n)) (fun _ i _=>l.length-(intOf i).toNat)
 case atStart=>exact⟨0,varint l.length,rfl,by omega,rfl,B1.out,by simp⟩
 case round=>
  obtain⟨k,p,rfl,hk,rfl,hb,he0⟩:=hrel;have HB:=hD hb;have HE0:=hD he0;clear hb he0;by_cases hlt:k<l.length
  · have i0:(0:Int)≤(k:Int):=by omega
    have i1:(k:Int) <(l.length:Int):=by omega
    obtain⟨g,o,rfl,hg,hcc⟩:=HR.cells (by simp[intC];omega);have ca:wr.cell? ⟨g,o+k,none⟩=some (.int .i64 l[k]):=by
     rw[HB.out.cell (p:=⟨g,o+k,none⟩) hg];exact hcc k _ (by simp[intC,hlt])
    have hI:=HI.out l[k] (aH hlt);have hl5:((l.take k).flatMap fun n=>varint (zig n)).length≤10 * l.length:=fo280;have hv:=HV.out;have hs7:p.length≤35184372088832:=by rw[HE0.out];simp only[aG];omega
    have hs8:=yS (zig l[k]) (zig_lt _ hI.1 hI.2);have HZ:=hD (zigzag_any l[k] hI.1 hI.2);have HPk:=hD (YH (zig l[k]) (zig_lt _ hI.1 hI.2));have HE:Hid ((l.take (k+1)).flatMap (fun n=>varint (zig n))=(l.take k).flatMap (fun n=>varint (zig n))++varint (zig l[k])):=hD (fo117);clear hcc hI hl5 hv;go_wp2_with fail;refine(HZ _).mono ?_;rintro e w2 ⟨rfl,rfl⟩;go_wp2_with fail;refine(HPk _).mono ?_;exact fo102
  · have HE:Hid (varint l.length++(l.take k).flatMap (fun n=>varint (zig n))=zu l):=hD jff;exact fo290
theorem Z6(l:List Int)(_hl:l.length≤100)(_hi:∀n∈l,I64 n)
    (hc:∀(A:Option Addr) (c:Nat) (w:World),Rd w 1 A l.length (intC l)→Calls P k #[.slice A l.length c] w (zm (zu l) w)) (hb:Bx w cs T (w1.alloc (.cells (intC l).toArray 3)).drew) {g:Nat} (hg:w1.heap.size=g) :
    Calls P k #[.slice (some ⟨g,0,none⟩) l.length l.length] (w1.alloc (.cells (intC l).toArray 3)).drew (Gives w cs T (zu l)):=
 hg▸zZ hb (hc _ _ _ ((zdb w1 1 l.length (intC l) 3 (by simp[intC])).below (ae _ _).drew))
theorem content_any(x:Sg)(hok:x.ok)(hs:x.sz≤16777216)(w:World) :
    Calls prog 220 #[.agg x] w (zm (zeV x) w):=by
 have HI:Hid (∀(w1:World) (g:Nat) (R:Prop),(Bx w (sgC x) 29 (w1.alloc (.cells #[x.server,x.kind,x.view,x.slot] 3)).drew∧R)→w1.heap.size=g→Calls prog 160 #[.slice (some ⟨g,0,none⟩) 4 4] (w1.alloc (.cells #[x.server,x.kind,x.view,x.slot] 3)).drew (Gives w (sgC x) 29 (zu [x.server,x.kind,x.view,x.slot]))):=
  hD (fun w1 g _ hb hg=>Z6 [x.server,x.kind,x.view,x.slot] jc jci (fun A c W hr=>YP A c _ W hr jc jci) hb.1 hg)
 have hz:=hs;unfold Sg.sz at hz;have HD:Hid (∀(w1:World) (R:Prop),(Bx w (sgC x) 29 w1∧R)→Calls prog 161 #[x.digest] w1 (Gives w (sgC x) 29 (zn x.digest))):=
  hD (fun w1 _ hb=>zZ hb.1 (Z4 x.digest ja w1))
 have HC : Hid (∀ w1, Bx w (sgC x) 29 w1 → Bx w (sgC x) 29 w1 ∧ w1.cell? ⟨w.heap.size, 0, none⟩ = some (.int .i64 x.server) ∧ w1.cell? ⟨w.heap.size, 1, none⟩ = some (.int .i64 x.kind) ∧ w1.cell? ⟨w.heap.size, 2, none⟩ = some (.int .i64 x.view) ∧
     w1.cell? ⟨w.heap.size,3,none⟩=some (.int .i64 x.slot)∧w1.cell? ⟨w.heap.size,4,none⟩=some (.string ⟨x.digest.toArray⟩)):=
  hD (fun w1 hb=>⟨hb,zg hb 0 _ rfl,zg hb 1 _ rfl,zg hb 2 _ rfl,zg hb 3 _ rfl,zg hb 4 _ rfl⟩)
 have H0:=hD (Zy w (sgC x) 29);have hl1:=ym [x.server,x.kind,x.view,x.slot] jci jc;have hl2:=zJ x.digest ja;simp only[au,aJ]at hl1;have hq1:¬(9223372036854775807<(zu [x.server,x.kind,x.view,x.slot]).length+(zn x.digest).length):=by omega
 clear hok hs; go_in; go_wp2_with fail; go_region_held3 (fun w1 => Bx w (sgC x) 29 w1 ∧ w1.cell? ⟨w.heap.size, 0, none⟩ = some (.int .i64 x.server) ∧ w1.cell? ⟨w.heap.size, 1, none⟩ = some (.int .i64 x.kind) ∧ w1.cell? ⟨w.heap.size, 2, none⟩ = some (.int .i64 x.view) ∧
     w1.cell? ⟨w.heap.size,3,none⟩=some (.int .i64 x.slot)∧w1.cell? ⟨w.heap.size,4,none⟩=some (.string ⟨x.digest.toArray⟩))
  (first|exact HC _ (yO H0)|exact HC _ (yn (‹Bx _ _ _ _∧_›).1 _)|exact HC _ ‹Bx _ _ _ _›)
  (first
   |(go_at_call 160;refine(HI _ _ _ je jc).mono ?_;rintro e w2 ⟨rfl,b2⟩)
   |(go_at_call 161;refine(HD _ _ je).mono ?_;rintro e w3 ⟨rfl,b3⟩))
 all_goals
  go_wp2_with fail;go_ret;exact Z9 rfl (zC ‹_›)
theorem zaU(x:Sg)(hok:x.ok)(hs:x.sz≤16777216)(w:World) :
    Calls prog 162 #[.agg x] w (zm (zQ x) w):=by
 have hz:=hs;unfold Sg.sz at hz;have HI:Hid (∀(w1:World) (R:Prop),(Bx w (sgC x) 29 w1∧R)→Calls prog 220 #[.agg x] w1 (Gives w (sgC x) 29 (zeV x))):=
  hD (fun w1 _ hb=>zZ hb.1 (content_any x hok hs w1))
 have HD:Hid (∀(w1:World) (R:Prop),(Bx w (sgC x) 29 w1∧R)→Calls prog 161 #[x.sig] w1 (Gives w (sgC x) 29 (zn x.sig))):=
  hD (fun w1 _ hb=>zZ hb.1 (Z4 x.sig ja w1))
 have HC : Hid (∀ w1, Bx w (sgC x) 29 w1 → Bx w (sgC x) 29 w1 ∧ w1.cell? ⟨w.heap.size, 0, none⟩ = some (.int .i64 x.server) ∧ w1.cell? ⟨w.heap.size, 1, none⟩ = some (.int .i64 x.kind) ∧ w1.cell? ⟨w.heap.size, 2, none⟩ = some (.int .i64 x.view) ∧
     w1.cell? ⟨w.heap.size,3,none⟩=some (.int .i64 x.slot)∧w1.cell? ⟨w.heap.size,4,none⟩=some (.string ⟨x.digest.toArray⟩)∧w1.cell? ⟨w.heap.size,5,none⟩=some (.string ⟨x.sig.toArray⟩)):=
  hD (fun w1 hb=>⟨hb,zg hb 0 _ rfl,zg hb 1 _ rfl,zg hb 2 _ rfl,zg hb 3 _ rfl,zg hb 4 _ rfl,zg hb 5 _ rfl⟩)
 have H0:=hD (Zy w (sgC x) 29);have hl1:=ym [x.server,x.kind,x.view,x.slot] jci jc;have hl2:=zJ x.digest ja;have hl3:=zJ x.sig ja;simp only[au,aJ]at hl1;have hl4:(zeV x).length≤60+x.digest.length:=by simp only[zeV,aG];omega
 have hq1:¬(9223372036854775807<(zeV x).length+(zn x.sig).length):=by omega
 clear hok hs hl1 hl2; go_in; go_wp2_with fail; go_region_held3 (fun w1 => Bx w (sgC x) 29 w1 ∧ w1.cell? ⟨w.heap.size, 0, none⟩ = some (.int .i64 x.server) ∧ w1.cell? ⟨w.heap.size, 1, none⟩ = some (.int .i64 x.kind) ∧ w1.cell? ⟨w.heap.size, 2, none⟩ = some (.int .i64 x.view) ∧
     w1.cell? ⟨w.heap.size,3,none⟩=some (.int .i64 x.slot)∧w1.cell? ⟨w.heap.size,4,none⟩=some (.string ⟨x.digest.toArray⟩)∧w1.cell? ⟨w.heap.size,5,none⟩=some (.string ⟨x.sig.toArray⟩))
  (first|exact HC _ (yO H0)|exact HC _ ‹Bx _ _ _ _›)
  (first
   |(go_at_call 220;refine(HI _ _ je).mono ?_;rintro e w2 ⟨rfl,b2⟩)
   |(go_at_call 161;refine(HD _ _ je).mono ?_;rintro e w3 ⟨rfl,b3⟩))
 all_goals
  go_wp2_with fail;go_ret;exact Z9 rfl (zC ‹_›)
