/- The contract of the reference's Format of operations. -/
import Derived.Test.YtepbbaifpckcpaaGreatDoorPStE
open Go.Proofs.Tryz
namespace Go.Proofs.YtepbbaifpckcpaaGreatDoor
set_option maxRecDepth 100000
set_option maxHeartbeats 16000000
open Go.RowKit
def zdg(k:Nat)(key old new:List UInt8)(w:World)(e:Ending)(w':World):Prop:=(zP k key old new=true→e= .returned (.tuple #[yw k key old new,()]))∧(zP k key old new=false→e= .returned (.tuple #["",.int .i64 1]))∧Below w.heap.size w w'
variable{key new old s:List UInt8}{k:Nat}{w w':World}
theorem ret_fmt_no(h:zP k key old new=false)(hb:Below w.heap.size w w'):zdg k key old new w (.returned (.tuple #["",.int .i64 1])) w':=
 ⟨fun h1=>(by rw[h]at h1;cases h1),fun _=>rfl,hb⟩
theorem ret_fmt_ok{t:ByteArray}(h:zP k key old new=true)(ht:t=⟨(yw k key old new).toArray⟩)(hb:Below w.heap.size w w'):zdg k key old new w (.returned (.tuple #[t,()])) w':=
 ⟨fun _=>(by rw[ht]),fun h1=>(by rw[h]at h1;cases h1),hb⟩
theorem refNameL1(w:World):Calls prog 147 #[.int .i64 1] w (zm [112,117,116] w):=refName1 w
theorem refNameL2(w:World):Calls prog 147 #[.int .i64 2] w (zm [103,101,116] w):=refName2 w
theorem refNameL3(w:World):Calls prog 147 #[.int .i64 3] w (zm [100,101,108,101,116,101] w):=refName3 w
theorem refNameL4(w:World):Calls prog 147 #[.int .i64 4] w (zm [97,112,112,101,110,100] w):=refName4 w
theorem refNameL5(w:World):Calls prog 147 #[.int .i64 5] w (zm [99,97,115] w):=refName5 w
theorem refNameL6(w:World):Calls prog 147 #[.int .i64 6] w (zm [99,111,117,110,116] w):=refName6 w
theorem refFormat1(key old new:List UInt8)(w:World)(hs:key.length+old.length+new.length≤1048576) :
    Calls prog 148 #[.agg #[.int .i64 1,key,old,new]] w (zdg 1 key old new w):=by
 have HX:=hD (Vr.new w [.int .i64 1,key,old,new] 124);have HB:=hD (za w (.cells #[.int .i64 1,key,old,new] 124));go_in;go_upto_region 1 with fail;change Code.wp _ _ _ _ (w.alloc (.cells #[.int .i64 1,key,old,new] 124));generalize w.alloc (.cells #[.int .i64 1,key,old,new] 124)=w1 at HB HX⊢;generalize w.heap.size=b1 at HX⊢;have c0:=HX.cells 0 _ rfl;have c1:=HX.cells 1 _ rfl;have c2:=HX.cells 2 _ rfl;have c3:=HX.cells 3 _ rfl;have l1:=HX.lt;go_wp2_with fail;refine(refName1 w1).mono ?_;rintro e w2 ⟨rfl,hs2⟩;have HX:=hD (HX.below hs2);have HB:=hD (bon HB hs2);clear hs2 c0 c1 c2 c3 l1;have c0:=HX.cells 0 _ rfl;have c1:=HX.cells 1 _ rfl;have c2:=HX.cells 2 _ rfl;have c3:=HX.cells 3 _ rfl;have l1:=HX.lt;go_wp2_with fail;refine(yl ⟨key.toArray⟩ w2 jy).mono ?_;rintro e w3 ⟨rfl,hw⟩;subst hw;have hgkey:graphic (ByteArray.mk key.toArray).data.toList 64=graphic key 64:=by simp
 rw[hgkey];clear hgkey;cases hkey:graphic key 64 with
 |false=>
  have HF:Hid (zP 1 key old new=false):=hD (by unfold zP;rw[show zH key (zx 1)=false from by exact hkey];simp);exact fo39
 |true=>
  go_wp2_with fail;refine(yl ⟨old.toArray⟩ w3 jy).mono ?_;rintro e w4 ⟨rfl,hw⟩;subst hw;have hgold:graphic (ByteArray.mk old.toArray).data.toList 64=graphic old 64:=by simp
  rw[hgold];clear hgold;cases hold:graphic old 64 with
  |true=>
   have HF:Hid (zP 1 key old new=false):=hD (by unfold zP;rw[show zH old (zB 1)=false from by exact av (yN hold)];simp);exact fo39
  |false=>
   by_cases eold:old=[]
   · subst eold;clear hold;go_wp2_with fail;refine(yl ⟨new.toArray⟩ w4 jy).mono ?_;rintro e w5 ⟨rfl,hw⟩;subst hw;have hgnew:graphic (ByteArray.mk new.toArray).data.toList 64=graphic new 64:=by simp
     rw[hgnew];clear hgnew;cases hnew:graphic new 64 with
     |false=>
      have HF:Hid (zP 1 key [] new=false):=hD (by unfold zP;rw[show zH new (zI 1)=false from by exact hnew];simp);exact fo39
     |true=>
      have HF:Hid (zP 1 key [] new=true):=hD (by unfold zP;rw[show zH key (zx 1)=true from hkey,show zH [] (zB 1)=true from rfl,show zH new (zI 1)=true from hnew];rfl);have HT:Hid (yw 1 key [] new=[112,117,116]++32::key++32::new):=hD (fo118);have q0:¬(9223372036854775807<3+(1+key.length)):=by omega
      have p0:¬(9223372036854775807<3+1+key.length):=by omega
      have q1:¬(9223372036854775807<3+(1+key.length)+(1+new.length)):=by omega
      have p1:¬(9223372036854775807<3+1+key.length+1+new.length):=by omega
      go_wp2_with fail;refine(refNameL1 _).mono ?_;exact fo18
   · have nold:(old ==[])=false:=by simpa using eold
     have mold:(old !=[])=true:=by simpa using eold
     have bold:old.isEmpty=false:=by simpa using eold
     have HF:Hid (zP 1 key old new=false):=hD (by unfold zP;rw[show zH old (zB 1)=false from by exact av eold];simp);exact fo39
theorem refFormat2(key old new:List UInt8)(w:World)(hs:key.length+old.length+new.length≤1048576) :
    Calls prog 148 #[.agg #[.int .i64 2,key,old,new]] w (zdg 2 key old new w):=by
 have HX:=hD (Vr.new w [.int .i64 2,key,old,new] 124);have HB:=hD (za w (.cells #[.int .i64 2,key,old,new] 124));go_in;go_upto_region 1 with fail;change Code.wp _ _ _ _ (w.alloc (.cells #[.int .i64 2,key,old,new] 124));generalize w.alloc (.cells #[.int .i64 2,key,old,new] 124)=w1 at HB HX⊢;generalize w.heap.size=b1 at HX⊢;have c0:=HX.cells 0 _ rfl;have c1:=HX.cells 1 _ rfl;have c2:=HX.cells 2 _ rfl;have c3:=HX.cells 3 _ rfl;have l1:=HX.lt;go_wp2_with fail;refine(refName2 w1).mono ?_;rintro e w2 ⟨rfl,hs2⟩;have HX:=hD (HX.below hs2);have HB:=hD (bon HB hs2);clear hs2 c0 c1 c2 c3 l1;have c0:=HX.cells 0 _ rfl;have c1:=HX.cells 1 _ rfl;have c2:=HX.cells 2 _ rfl;have c3:=HX.cells 3 _ rfl;have l1:=HX.lt;go_wp2_with fail;refine(yl ⟨key.toArray⟩ w2 jy).mono ?_;rintro e w3 ⟨rfl,hw⟩;subst hw;have hgkey:graphic (ByteArray.mk key.toArray).data.toList 64=graphic key 64:=by simp
 rw[hgkey];clear hgkey;cases hkey:graphic key 64 with
 |false=>
  have HF:Hid (zP 2 key old new=false):=hD (by unfold zP;rw[show zH key (zx 2)=false from by exact hkey];simp);exact fo39
 |true=>
  go_wp2_with fail;refine(yl ⟨old.toArray⟩ w3 jy).mono ?_;rintro e w4 ⟨rfl,hw⟩;subst hw;have hgold:graphic (ByteArray.mk old.toArray).data.toList 64=graphic old 64:=by simp
  rw[hgold];clear hgold;cases hold:graphic old 64 with
  |true=>
   have HF:Hid (zP 2 key old new=false):=hD (by unfold zP;rw[show zH old (zB 2)=false from by exact av (yN hold)];simp);exact fo39
  |false=>
   by_cases eold:old=[]
   · subst eold;clear hold;go_wp2_with fail;refine(yl ⟨new.toArray⟩ w4 jy).mono ?_;rintro e w5 ⟨rfl,hw⟩;subst hw;have hgnew:graphic (ByteArray.mk new.toArray).data.toList 64=graphic new 64:=by simp
     rw[hgnew];clear hgnew;cases hnew:graphic new 64 with
     |true=>
      have HF:Hid (zP 2 key [] new=false):=hD (by unfold zP;rw[show zH new (zI 2)=false from by exact av (yN hnew)];simp);exact fo39
     |false=>
      by_cases enew:new=[]
      · subst enew;clear hnew;have HF:Hid (zP 2 key [] []=true):=hD (by unfold zP;rw[show zH key (zx 2)=true from hkey,show zH [] (zB 2)=true from rfl,show zH [] (zI 2)=true from rfl];rfl);have HT:Hid (yw 2 key [] []=[103,101,116]++32::key):=hD (fo123);have q0:¬(9223372036854775807<3+(1+key.length)):=by omega
        have p0:¬(9223372036854775807<3+1+key.length):=by omega
        go_wp2_with fail;refine(refNameL2 _).mono ?_;exact fo18
      · have nnew:(new ==[])=false:=by simpa using enew
        have mnew:(new !=[])=true:=by simpa using enew
        have bnew:new.isEmpty=false:=by simpa using enew
        have HF:Hid (zP 2 key [] new=false):=hD (by unfold zP;rw[show zH new (zI 2)=false from by exact av enew];simp);exact fo39
   · have nold:(old ==[])=false:=by simpa using eold
     have mold:(old !=[])=true:=by simpa using eold
     have bold:old.isEmpty=false:=by simpa using eold
     have HF:Hid (zP 2 key old new=false):=hD (by unfold zP;rw[show zH old (zB 2)=false from by exact av eold];simp);exact fo39
theorem refFormat3(key old new:List UInt8)(w:World)(hs:key.length+old.length+new.length≤1048576) :
    Calls prog 148 #[.agg #[.int .i64 3,key,old,new]] w (zdg 3 key old new w):=by
 have HX:=hD (Vr.new w [.int .i64 3,key,old,new] 124);have HB:=hD (za w (.cells #[.int .i64 3,key,old,new] 124));go_in;go_upto_region 1 with fail;change Code.wp _ _ _ _ (w.alloc (.cells #[.int .i64 3,key,old,new] 124));generalize w.alloc (.cells #[.int .i64 3,key,old,new] 124)=w1 at HB HX⊢;generalize w.heap.size=b1 at HX⊢;have c0:=HX.cells 0 _ rfl;have c1:=HX.cells 1 _ rfl;have c2:=HX.cells 2 _ rfl;have c3:=HX.cells 3 _ rfl;have l1:=HX.lt;go_wp2_with fail;refine(refName3 w1).mono ?_;rintro e w2 ⟨rfl,hs2⟩;have HX:=hD (HX.below hs2);have HB:=hD (bon HB hs2);clear hs2 c0 c1 c2 c3 l1;have c0:=HX.cells 0 _ rfl;have c1:=HX.cells 1 _ rfl;have c2:=HX.cells 2 _ rfl;have c3:=HX.cells 3 _ rfl;have l1:=HX.lt;go_wp2_with fail;refine(yl ⟨key.toArray⟩ w2 jy).mono ?_;rintro e w3 ⟨rfl,hw⟩;subst hw;have hgkey:graphic (ByteArray.mk key.toArray).data.toList 64=graphic key 64:=by simp
 rw[hgkey];clear hgkey;cases hkey:graphic key 64 with
 |false=>
  have HF:Hid (zP 3 key old new=false):=hD (by unfold zP;rw[show zH key (zx 3)=false from by exact hkey];simp);exact fo39
 |true=>
  go_wp2_with fail;refine(yl ⟨old.toArray⟩ w3 jy).mono ?_;rintro e w4 ⟨rfl,hw⟩;subst hw;have hgold:graphic (ByteArray.mk old.toArray).data.toList 64=graphic old 64:=by simp
  rw[hgold];clear hgold;cases hold:graphic old 64 with
  |true=>
   have HF:Hid (zP 3 key old new=false):=hD (by unfold zP;rw[show zH old (zB 3)=false from by exact av (yN hold)];simp);exact fo39
  |false=>
   by_cases eold:old=[]
   · subst eold;clear hold;go_wp2_with fail;refine(yl ⟨new.toArray⟩ w4 jy).mono ?_;rintro e w5 ⟨rfl,hw⟩;subst hw;have hgnew:graphic (ByteArray.mk new.toArray).data.toList 64=graphic new 64:=by simp
     rw[hgnew];clear hgnew;cases hnew:graphic new 64 with
     |true=>
      have HF:Hid (zP 3 key [] new=false):=hD (by unfold zP;rw[show zH new (zI 3)=false from by exact av (yN hnew)];simp);exact fo39
     |false=>
      by_cases enew:new=[]
      · subst enew;clear hnew;have HF:Hid (zP 3 key [] []=true):=hD (by unfold zP;rw[show zH key (zx 3)=true from hkey,show zH [] (zB 3)=true from rfl,show zH [] (zI 3)=true from rfl];rfl);have HT:Hid (yw 3 key [] []=[100,101,108,101,116,101]++32::key):=hD (fo123);have q0:¬(9223372036854775807<6+(1+key.length)):=by omega
        have p0:¬(9223372036854775807<6+1+key.length):=by omega
        go_wp2_with fail;refine(refNameL3 _).mono ?_;exact fo18
      · have nnew:(new ==[])=false:=by simpa using enew
        have mnew:(new !=[])=true:=by simpa using enew
        have bnew:new.isEmpty=false:=by simpa using enew
        have HF:Hid (zP 3 key [] new=false):=hD (by unfold zP;rw[show zH new (zI 3)=false from by exact av enew];simp);exact fo39
   · have nold:(old ==[])=false:=by simpa using eold
     have mold:(old !=[])=true:=by simpa using eold
     have bold:old.isEmpty=false:=by simpa using eold
     have HF:Hid (zP 3 key old new=false):=hD (by unfold zP;rw[show zH old (zB 3)=false from by exact av eold];simp);exact fo39
theorem refFormat4(key old new:List UInt8)(w:World)(hs:key.length+old.length+new.length≤1048576) :
    Calls prog 148 #[.agg #[.int .i64 4,key,old,new]] w (zdg 4 key old new w):=by
 have HX:=hD (Vr.new w [.int .i64 4,key,old,new] 124);have HB:=hD (za w (.cells #[.int .i64 4,key,old,new] 124));go_in;go_upto_region 1 with fail;change Code.wp _ _ _ _ (w.alloc (.cells #[.int .i64 4,key,old,new] 124));generalize w.alloc (.cells #[.int .i64 4,key,old,new] 124)=w1 at HB HX⊢;generalize w.heap.size=b1 at HX⊢;have c0:=HX.cells 0 _ rfl;have c1:=HX.cells 1 _ rfl;have c2:=HX.cells 2 _ rfl;have c3:=HX.cells 3 _ rfl;have l1:=HX.lt;go_wp2_with fail;refine(refName4 w1).mono ?_;rintro e w2 ⟨rfl,hs2⟩;have HX:=hD (HX.below hs2);have HB:=hD (bon HB hs2);clear hs2 c0 c1 c2 c3 l1;have c0:=HX.cells 0 _ rfl;have c1:=HX.cells 1 _ rfl;have c2:=HX.cells 2 _ rfl;have c3:=HX.cells 3 _ rfl;have l1:=HX.lt;go_wp2_with fail;refine(yl ⟨key.toArray⟩ w2 jy).mono ?_;rintro e w3 ⟨rfl,hw⟩;subst hw;have hgkey:graphic (ByteArray.mk key.toArray).data.toList 64=graphic key 64:=by simp
 rw[hgkey];clear hgkey;cases hkey:graphic key 64 with
 |false=>
  have HF:Hid (zP 4 key old new=false):=hD (by unfold zP;rw[show zH key (zx 4)=false from by exact hkey];simp);exact fo39
 |true=>
  go_wp2_with fail;refine(yl ⟨old.toArray⟩ w3 jy).mono ?_;rintro e w4 ⟨rfl,hw⟩;subst hw;have hgold:graphic (ByteArray.mk old.toArray).data.toList 64=graphic old 64:=by simp
  rw[hgold];clear hgold;cases hold:graphic old 64 with
  |true=>
   have HF:Hid (zP 4 key old new=false):=hD (by unfold zP;rw[show zH old (zB 4)=false from by exact av (yN hold)];simp);exact fo39
  |false=>
   by_cases eold:old=[]
   · subst eold;clear hold;go_wp2_with fail;refine(yl ⟨new.toArray⟩ w4 jy).mono ?_;rintro e w5 ⟨rfl,hw⟩;subst hw;have hgnew:graphic (ByteArray.mk new.toArray).data.toList 64=graphic new 64:=by simp
     rw[hgnew];clear hgnew;cases hnew:graphic new 64 with
     |false=>
      have HF:Hid (zP 4 key [] new=false):=hD (by unfold zP;rw[show zH new (zI 4)=false from by exact hnew];simp);exact fo39
     |true=>
      have HF:Hid (zP 4 key [] new=true):=hD (by unfold zP;rw[show zH key (zx 4)=true from hkey,show zH [] (zB 4)=true from rfl,show zH new (zI 4)=true from hnew];rfl);have HT:Hid (yw 4 key [] new=[97,112,112,101,110,100]++32::key++32::new):=hD (fo118);have q0:¬(9223372036854775807<6+(1+key.length)):=by omega
      have p0:¬(9223372036854775807<6+1+key.length):=by omega
      have q1:¬(9223372036854775807<6+(1+key.length)+(1+new.length)):=by omega
      have p1:¬(9223372036854775807<6+1+key.length+1+new.length):=by omega
      go_wp2_with fail;refine(refNameL4 _).mono ?_;exact fo18
   · have nold:(old ==[])=false:=by simpa using eold
     have mold:(old !=[])=true:=by simpa using eold
     have bold:old.isEmpty=false:=by simpa using eold
     have HF:Hid (zP 4 key old new=false):=hD (by unfold zP;rw[show zH old (zB 4)=false from by exact av eold];simp);exact fo39
theorem refFormat5(key old new:List UInt8)(w:World)(hs:key.length+old.length+new.length≤1048576) :
    Calls prog 148 #[.agg #[.int .i64 5,key,old,new]] w (zdg 5 key old new w):=by
 have HX:=hD (Vr.new w [.int .i64 5,key,old,new] 124);have HB:=hD (za w (.cells #[.int .i64 5,key,old,new] 124));go_in;go_upto_region 1 with fail;change Code.wp _ _ _ _ (w.alloc (.cells #[.int .i64 5,key,old,new] 124));generalize w.alloc (.cells #[.int .i64 5,key,old,new] 124)=w1 at HB HX⊢;generalize w.heap.size=b1 at HX⊢;have c0:=HX.cells 0 _ rfl;have c1:=HX.cells 1 _ rfl;have c2:=HX.cells 2 _ rfl;have c3:=HX.cells 3 _ rfl;have l1:=HX.lt;go_wp2_with fail;refine(refName5 w1).mono ?_;rintro e w2 ⟨rfl,hs2⟩;have HX:=hD (HX.below hs2);have HB:=hD (bon HB hs2);clear hs2 c0 c1 c2 c3 l1;have c0:=HX.cells 0 _ rfl;have c1:=HX.cells 1 _ rfl;have c2:=HX.cells 2 _ rfl;have c3:=HX.cells 3 _ rfl;have l1:=HX.lt;go_wp2_with fail;refine(yl ⟨key.toArray⟩ w2 jy).mono ?_;rintro e w3 ⟨rfl,hw⟩;subst hw;have hgkey:graphic (ByteArray.mk key.toArray).data.toList 64=graphic key 64:=by simp
 rw[hgkey];clear hgkey;cases hkey:graphic key 64 with
 |false=>
  have HF:Hid (zP 5 key old new=false):=hD (by unfold zP;rw[show zH key (zx 5)=false from by exact hkey];simp);exact fo39
 |true=>
  go_wp2_with fail;refine(yl ⟨old.toArray⟩ w3 jy).mono ?_;rintro e w4 ⟨rfl,hw⟩;subst hw;have hgold:graphic (ByteArray.mk old.toArray).data.toList 64=graphic old 64:=by simp
  rw[hgold];clear hgold;cases hold:graphic old 64 with
  |false=>
   have HF:Hid (zP 5 key old new=false):=hD (by unfold zP;rw[show zH old (zB 5)=false from by exact hold];simp);exact fo39
  |true=>
   go_wp2_with fail;refine(yl ⟨new.toArray⟩ w4 jy).mono ?_;rintro e w5 ⟨rfl,hw⟩;subst hw;have hgnew:graphic (ByteArray.mk new.toArray).data.toList 64=graphic new 64:=by simp
   rw[hgnew];clear hgnew;cases hnew:graphic new 64 with
   |false=>
    have HF:Hid (zP 5 key old new=false):=hD (by unfold zP;rw[show zH new (zI 5)=false from by exact hnew];simp);exact fo39
   |true=>
    have HF:Hid (zP 5 key old new=true):=hD (by unfold zP;rw[show zH key (zx 5)=true from hkey,show zH old (zB 5)=true from hold,show zH new (zI 5)=true from hnew];rfl);have HT:Hid (yw 5 key old new=[99,97,115]++32::key++32::old++32::new):=hD (by
     unfold yw zaP;simp only[eX,fK,Zh hkey,Zh hold,Zh hnew,ne_eq,aW];simp[Lib.join,zo])
    have q0:¬(9223372036854775807<3+(1+key.length)):=by omega
    have p0:¬(9223372036854775807<3+1+key.length):=by omega
    have q1:¬(9223372036854775807<3+(1+key.length)+(1+old.length)):=by omega
    have p1:¬(9223372036854775807<3+1+key.length+1+old.length):=by omega
    have q2:¬(9223372036854775807<3+(1+key.length)+(1+old.length)+(1+new.length)):=by omega
    have p2:¬(9223372036854775807<3+1+key.length+1+old.length+1+new.length):=by omega
    go_wp2_with fail;refine(refNameL5 _).mono ?_;exact fo18
theorem refFormat6(key old new:List UInt8)(w:World)(hs:key.length+old.length+new.length≤1048576) :
    Calls prog 148 #[.agg #[.int .i64 6,key,old,new]] w (zdg 6 key old new w):=by
 have HX:=hD (Vr.new w [.int .i64 6,key,old,new] 124);have HB:=hD (za w (.cells #[.int .i64 6,key,old,new] 124));go_in;go_upto_region 1 with fail;change Code.wp _ _ _ _ (w.alloc (.cells #[.int .i64 6,key,old,new] 124));generalize w.alloc (.cells #[.int .i64 6,key,old,new] 124)=w1 at HB HX⊢;generalize w.heap.size=b1 at HX⊢;have c0:=HX.cells 0 _ rfl;have c1:=HX.cells 1 _ rfl;have c2:=HX.cells 2 _ rfl;have c3:=HX.cells 3 _ rfl;have l1:=HX.lt;go_wp2_with fail;refine(refName6 w1).mono ?_;rintro e w2 ⟨rfl,hs2⟩;have HX:=hD (HX.below hs2);have HB:=hD (bon HB hs2);clear hs2 c0 c1 c2 c3 l1;have c0:=HX.cells 0 _ rfl;have c1:=HX.cells 1 _ rfl;have c2:=HX.cells 2 _ rfl;have c3:=HX.cells 3 _ rfl;have l1:=HX.lt;go_wp2_with fail;refine(yl ⟨key.toArray⟩ w2 jy).mono ?_;rintro e w3 ⟨rfl,hw⟩;subst hw;have hgkey:graphic (ByteArray.mk key.toArray).data.toList 64=graphic key 64:=by simp
 rw[hgkey];clear hgkey;cases hkey:graphic key 64 with
 |true=>
  have HF:Hid (zP 6 key old new=false):=hD (by unfold zP;rw[show zH key (zx 6)=false from by exact av (yN hkey)];simp);exact fo39
 |false=>
  by_cases ekey:key=[]
  · subst ekey;clear hkey;go_wp2_with fail;refine(yl ⟨old.toArray⟩ w3 jy).mono ?_;rintro e w4 ⟨rfl,hw⟩;subst hw;have hgold:graphic (ByteArray.mk old.toArray).data.toList 64=graphic old 64:=by simp
    rw[hgold];clear hgold;cases hold:graphic old 64 with
    |true=>
     have HF:Hid (zP 6 [] old new=false):=hD (by unfold zP;rw[show zH old (zB 6)=false from by exact av (yN hold)];simp);exact fo39
    |false=>
     by_cases eold:old=[]
     · subst eold;clear hold;go_wp2_with fail;refine(yl ⟨new.toArray⟩ w4 jy).mono ?_;rintro e w5 ⟨rfl,hw⟩;subst hw;have hgnew:graphic (ByteArray.mk new.toArray).data.toList 64=graphic new 64:=by simp
       rw[hgnew];clear hgnew;cases hnew:graphic new 64 with
       |true=>
        have HF:Hid (zP 6 [] [] new=false):=hD (by unfold zP;rw[show zH new (zI 6)=false from by exact av (yN hnew)];simp);exact fo39
       |false=>
        by_cases enew:new=[]
        · subst enew;clear hnew;have HF:Hid (zP 6 [] [] []=true):=hD (by unfold zP;rw[show zH [] (zx 6)=true from rfl,show zH [] (zB 6)=true from rfl,show zH [] (zI 6)=true from rfl];rfl);have HT:Hid (yw 6 [] [] []=[99,111,117,110,116]):=hD (by
           unfold yw zaP;simp only[eX,fK,ne_eq,gG,gD,bW,bU];simp[Lib.join,zo])
          go_wp2_with fail;refine(refNameL6 _).mono ?_;exact fo18
        · have nnew:(new ==[])=false:=by simpa using enew
          have mnew:(new !=[])=true:=by simpa using enew
          have bnew:new.isEmpty=false:=by simpa using enew
          have HF:Hid (zP 6 [] [] new=false):=hD (by unfold zP;rw[show zH new (zI 6)=false from by exact av enew];simp);exact fo39
     · have nold:(old ==[])=false:=by simpa using eold
       have mold:(old !=[])=true:=by simpa using eold
       have bold:old.isEmpty=false:=by simpa using eold
       have HF:Hid (zP 6 [] old new=false):=hD (by unfold zP;rw[show zH old (zB 6)=false from by exact av eold];simp);exact fo39
  · have nkey:(key ==[])=false:=by simpa using ekey
    have mkey:(key !=[])=true:=by simpa using ekey
    have bkey:key.isEmpty=false:=by simpa using ekey
    have HF:Hid (zP 6 key old new=false):=hD (by unfold zP;rw[show zH key (zx 6)=false from by exact av ekey];simp);exact fo39
theorem zaa(k:Nat)(h1:1≤k)(h6:k≤6)(key old new:List UInt8)(w:World)(hs:key.length+old.length+new.length≤1048576) :
    Calls prog 148 #[.agg #[.int .i64 (k:Int),key,old,new]] w (zdg k key old new w):=by
 have:k=1∨k=2∨k=3∨k=4∨k=5∨k=6:=by omega
 rcases this with rfl|rfl|rfl|rfl|rfl|rfl
 · exact refFormat1 key old new w hs
 · exact refFormat2 key old new w hs
 · exact refFormat3 key old new w hs
 · exact refFormat4 key old new w hs
 · exact refFormat5 key old new w hs
 · exact refFormat6 key old new w hs
theorem zbO{r:List (List UInt8)}(h1:1≤k)(h6:k≤6)(h:cut s=zo k::r):kindOk k s=(zP k (zL r) (zM k r) (zG k r) &&(yw k (zL r) (zM k r) (zG k r) == s)):=(ref_kind h1 h6 h).symm
theorem zbc{x:List UInt8}{r:List (List UInt8)}{m:Nat}(h:cut s=x::r)(hm:s.length≤m)(hm2:m≤300000):(zL r).length+(zM k r).length+(zG k r).length≤1048576:=by
 have hl:∀y∈r,y.length≤m:=fun y hy=>ah (cut_len s y (by rw[h];exact dm _ hy)) hm
 have hd:∀t:List (List UInt8),(∀y∈t,y.length≤m)→(t.headD []).length≤m:=fun t ht=>by
  cases t with
  |nil=>simp
  |cons a u=>exact ht a jc
 have h1:(zL r).length≤m:=hd r hl;have ht:∀y∈r.tail,y.length≤m:=fun y hy=>hl y (ib hy)
 have htt:∀y∈r.tail.tail,y.length≤m:=fun y hy=>ht y (ib hy)
 have h2:(zM k r).length≤m:=by
  unfold zM;split
  · exact hd _ ht
  · simp
 have h3:(zG k r).length≤m:=by
  unfold zG;split
  · exact hd _ htt
  · exact hd _ ht
 omega
theorem refParse_any(s:ByteArray)(w:World)(hs:s.size≤300000):Calls prog 103 #[s] w (RetPar (opOk s.data.toList) w):=by
 obtain⟨x,r,hcut⟩:=zer s.data.toList;have HCx:=hD hcut;have HSp:Hid (∀W,Calls prog 146 #[s] W (zbA (x::r) W)):=hD (fun W=>by rw[←hcut];exact refSplit_any s W ja);have HLen:Hid (s.data.toList.length≤300000):=hD (by simpa using hs);have hss:(300000:Nat)≤300000:=ag _;clear hcut;have HX2:=hD (Vr.new w [(),"","",""] 124);have HB:=hD (za w (.cells #[(),"","",""] 124));have HB2:Hid (w.heap.size≤w.heap.size):=hD (ag _);go_in;go_wp2_with fail;generalize w.alloc (.cells #[(),"","",""] 124)=w1 at HX2 HB⊢;generalize hb2:w.heap.size=b2 at HX2⊢;have HB2:Hid (w.heap.size≤b2):=hD (Nat.le_of_eq hb2);clear hb2;refine(HSp w1).mono ?_;rintro e w2 ⟨A,c,rfl,hrd,hs2⟩;have HX2:=hD (HX2.below hs2);have HB:=hD (bon HB hs2);have HR:=hD hrd;obtain⟨gw,ow,rfl,_,_⟩:=hrd.cells (by rw[zbu];simp);have HW:Hid (∀W,Rd W 1 (some ⟨gw,ow,none⟩) (x::r).length (strC (x::r))→World.cell? W ⟨gw,ow,none⟩=some (.string ⟨x.toArray⟩)∧∀j u,(strC (x::r))[j]? =some u→World.cell? W ⟨gw,ow+j,none⟩=some u):=hD (fun W h=>by
  obtain⟨b,o,e1,_,hc⟩:=h.cells (by rw[zbu];simp);simp only[ax,cZ]at e1;obtain⟨rfl,rfl,_⟩:=e1;exact⟨hc 0 _ rfl,hc⟩)
 clear hrd hs2;generalize hm:(x::r).length=m;have HM:=hD hm;have hm0:0<m:=by rw[←hm];simp
 have hm0i:(0:Int) <(m:Int):=by omega
 clear hm;have HJ0:Hid (∀j,1≤j→j<1→kindOk j s.data.toList=false):=hD (fun j h1 h2=>by omega);go_wp2_with fail;go_loopw [5] (fun i wr=>∃k:Nat,i= .int .i64 k∧1≤k∧k≤7∧(∀j,1≤j→j<k→kindOk j s.data.toList=false)∧Vr wr b2 [(),"","",""]∧Rd wr 1 (some ⟨gw,ow,none⟩) (x::r).length (strC (x::r))∧Below w.heap.size w wr) (fun i _=>7-(intOf i).toNat)
 case atStart=>exact⟨1,rfl,by omega,by omega,HJ0,HX2,HR,HB⟩
 case round=>
  obtain⟨k,rfl,hk1,hk7,hj,hx2,hr,hb⟩:=hrel;have HJ:=hD hj;have HX2:=hD hx2;have HR:=hD hr;have HB:=hD hb;clear hj hx2 hr hb;by_cases hk6:k≤6
  · have i0:(k:Int)≤6:=by omega
    have i1:(0:Int)≤(k:Int):=by omega
    by_cases hxk:x=zo k
    · have HCut:Hid (cut s.data.toList=zo k::r):=hD (by rw[HCx.out,hxk]);have hne:(x == zo k)=true:=by simpa using hxk
      have hne2:(x != zo k)=false:=by simp[hxk]
      clear hxk;go_wp2_with fail;refine aD ?_;have HX2:=hD (HX2.below (ae _ _).drew);have HB:=hD (HB.drew);have HR:=hD (HR.below (ae _ _).drew);generalize hv:wr.drew=v0 at HX2 HB HR;refine aC (S:=fun W=>World.cell? W ⟨gw,ow,none⟩=some (.string ⟨x.toArray⟩)) jb (by rw[hv];exact((HW _ HR).1)) (fun hHeld=> ?_);rw[hv]at hHeld⊢;clear hv;refine takes [0,1,2,3] ?_;refine tkr 4 rfl (fun K hK=> ?_);go_simp;go_at_call 147;refine(ze6 k hk1 hk6 _).mono ?_;rintro e v1 ⟨rfl,hs⟩;have HX2:=hD (HX2.below hs);have HB:=hD (bon HB hs);have HR:=hD (HR.below hs);clear hs;go_wp2_with fail;refine hK.out _ _ ((HW _ HR).1) (fun hHeld=> ?_);clear hK K;try simp only[Act.put,qk1,qk2,qk3,qk4,qk5,qk6]
      refine takes [5] ?_;refine aB jb ?_ _;refine aA ?_;have hcell:=(HW.out _ HR).2;have hgl:gw<v1.heap.size:=by
       obtain⟨b,o,e1,hb,_⟩:=HR.cells (by rw[zbu];simp);simp only[ax,cZ]at e1;obtain⟨rfl,rfl,_⟩:=e1;exact hb
      clear hne hne2;by_cases hk5:k=5
      · have k5:((k:Int) == 5)=true:=by simp;omega
        have k5n:((k:Int) != 5)=false:=by simp;omega
        have HK5:=hD hk5;clear hk5;rcases r with _|⟨a,_|⟨b,_|⟨c,t⟩⟩⟩
        · have hmm:m=1:=by have h:=HM.out;simp at h;omega
          have m1:¬((1:Int) <(m:Int)):=by omega
          have e1:¬(1<m):=by omega
          have m2:¬((2:Int) <(m:Int)):=by omega
          have e2:¬(2<m):=by omega
          have m3:¬((3:Int) <(m:Int)):=by omega
          have e3:¬(3<m):=by omega
          clear hmm;have HF6:=hD (Vr.new v1 [.int .i64 (k:Int),"","",""] 124);have HBg:=hD (za v1 (.cells #[.int .i64 (k:Int),"","",""] 124));have hl1:v1.heap.size<(v1.alloc (.cells #[.int .i64 (k:Int),"","",""] 124)).heap.size:=by simp
          go_upto_region 15 with fail;change Code.wp _ _ _ _ (v1.alloc (.cells #[.int .i64 (k:Int),"","",""] 124));clear hl1 m1 m2 m3 e1 e2 e3;have HX2:=hD (HX2.below HBg);have HR:=hD (HR.below HBg);have HB:=hD (bon HB HBg);have HX6:Hid (Vr (v1.alloc (.cells #[.int .i64 (k:Int),"","",""] 124)) v1.heap.size [.int .i64 (k:Int),.string ⟨(zL []).toArray⟩,.string ⟨(zM k []).toArray⟩,.string ⟨(zG k []).toArray⟩]):=hD (HF6.eq jdl);exact fo229
        · have w1:=hcell 1 _ rfl;have hmm:m=2:=by have h:=HM.out;simp at h;omega
          have m1:(1:Int) <(m:Int):=by omega
          have e1:1<m:=by omega
          have m2:¬((2:Int) <(m:Int)):=by omega
          have e2:¬(2<m):=by omega
          have m3:¬((3:Int) <(m:Int)):=by omega
          have e3:¬(3<m):=by omega
          clear hmm;have HF6:=hD (Vr.new v1 [.int .i64 (k:Int),a,"",""] 124);have HBg:=hD (za v1 (.cells #[.int .i64 (k:Int),a,"",""] 124));have hl1:v1.heap.size<(v1.alloc (.cells #[.int .i64 (k:Int),"","",""] 124)).heap.size:=by simp
          go_upto_region 15 with fail;change Code.wp _ _ _ _ (v1.alloc (.cells #[.int .i64 (k:Int),a,"",""] 124));clear hl1 m1 m2 m3 e1 e2 e3 w1;have HX2:=hD (HX2.below HBg);have HR:=hD (HR.below HBg);have HB:=hD (bon HB HBg);have HX6:Hid (Vr (v1.alloc (.cells #[.int .i64 (k:Int),a,"",""] 124)) v1.heap.size [.int .i64 (k:Int),.string ⟨(zL [a]).toArray⟩,.string ⟨(zM k [a]).toArray⟩,.string ⟨(zG k [a]).toArray⟩]):=hD (HF6.eq jdl);exact fo228
        · have w1:=hcell 1 _ rfl;have w2:=hcell 2 _ rfl;have hmm:m=3:=by have h:=HM.out;simp at h;omega
          have m1:(1:Int) <(m:Int):=by omega
          have e1:1<m:=by omega
          have m2:(2:Int) <(m:Int):=by omega
          have e2:2<m:=by omega
          have m3:¬((3:Int) <(m:Int)):=by omega
          have e3:¬(3<m):=by omega
          clear hmm;have HF6:=hD (Vr.new v1 [.int .i64 (k:Int),a,b,""] 124);have HBg:=hD (za v1 (.cells #[.int .i64 (k:Int),a,b,""] 124));have hl1:v1.heap.size<(v1.alloc (.cells #[.int .i64 (k:Int),"","",""] 124)).heap.size:=by simp
          go_upto_region 15 with fail;change Code.wp _ _ _ _ (v1.alloc (.cells #[.int .i64 (k:Int),a,b,""] 124));clear hl1 m1 m2 m3 e1 e2 e3 w1 w2;have HX2:=hD (HX2.below HBg);have HR:=hD (HR.below HBg);have HB:=hD (bon HB HBg);have HX6:Hid (Vr (v1.alloc (.cells #[.int .i64 (k:Int),a,b,""] 124)) v1.heap.size [.int .i64 (k:Int),.string ⟨(zL [a,b]).toArray⟩,.string ⟨(zM k [a,b]).toArray⟩,.string ⟨(zG k [a,b]).toArray⟩]):=hD (HF6.eq jdl);have HSz:Hid ((zL [a,b]).length+(zM k [a,b]).length+(zG k [a,b]).length≤1048576):=hD (zbc HCut HLen hss);clear HF6 HBg;generalize (v1.alloc (.cells #[.int .i64 (k:Int),a,b,""] 124))=wv at HX2 HR HB HX6⊢;exact fo232
        · have w1:=hcell 1 _ rfl;have w2:=hcell 2 _ rfl;have w3:=hcell 3 _ rfl;have hmm:4≤m:=by have h:=HM.out;simp at h;omega
          have m1:(1:Int) <(m:Int):=by omega
          have e1:1<m:=by omega
          have m2:(2:Int) <(m:Int):=by omega
          have e2:2<m:=by omega
          have m3:(3:Int) <(m:Int):=by omega
          have e3:3<m:=by omega
          clear hmm;have HF6:=hD (Vr.new v1 [.int .i64 (k:Int),a,b,c] 124);have HBg:=hD (za v1 (.cells #[.int .i64 (k:Int),a,b,c] 124));have hl1:v1.heap.size<(v1.alloc (.cells #[.int .i64 (k:Int),"","",""] 124)).heap.size:=by simp
          go_upto_region 15 with fail;change Code.wp _ _ _ _ (v1.alloc (.cells #[.int .i64 (k:Int),a,b,c] 124));clear hl1 m1 m2 m3 e1 e2 e3 w1 w2 w3;have HX2:=hD (HX2.below HBg);have HR:=hD (HR.below HBg);have HB:=hD (bon HB HBg);have HX6:Hid (Vr (v1.alloc (.cells #[.int .i64 (k:Int),a,b,c] 124)) v1.heap.size [.int .i64 (k:Int),.string ⟨(zL (a::b::c::t)).toArray⟩,.string ⟨(zM k (a::b::c::t)).toArray⟩,.string ⟨(zG k (a::b::c::t)).toArray⟩]):=hD (HF6.eq jdl);have HSz:Hid ((zL (a::b::c::t)).length+(zM k (a::b::c::t)).length+(zG k (a::b::c::t)).length≤1048576):=hD (zbc HCut HLen hss);clear HF6 HBg;generalize (v1.alloc (.cells #[.int .i64 (k:Int),a,b,c] 124))=wv at HX2 HR HB HX6⊢;exact fo231
      · have k5:((k:Int) == 5)=false:=by simp;omega
        have k5n:((k:Int) != 5)=true:=by simp;omega
        have HK5:=hD hk5;clear hk5;rcases r with _|⟨a,_|⟨b,_|⟨c,t⟩⟩⟩
        · have hmm:m=1:=by have h:=HM.out;simp at h;omega
          have m1:¬((1:Int) <(m:Int)):=by omega
          have e1:¬(1<m):=by omega
          have m2:¬((2:Int) <(m:Int)):=by omega
          have e2:¬(2<m):=by omega
          have m3:¬((3:Int) <(m:Int)):=by omega
          have e3:¬(3<m):=by omega
          clear hmm;have HF6:=hD (Vr.new v1 [.int .i64 (k:Int),"","",""] 124);have HBg:=hD (za v1 (.cells #[.int .i64 (k:Int),"","",""] 124));have hl1:v1.heap.size<(v1.alloc (.cells #[.int .i64 (k:Int),"","",""] 124)).heap.size:=by simp
          go_upto_region 15 with fail;change Code.wp _ _ _ _ (v1.alloc (.cells #[.int .i64 (k:Int),"","",""] 124));clear hl1 m1 m2 m3 e1 e2 e3;have HX2:=hD (HX2.below HBg);have HR:=hD (HR.below HBg);have HB:=hD (bon HB HBg);have HX6:Hid (Vr (v1.alloc (.cells #[.int .i64 (k:Int),"","",""] 124)) v1.heap.size [.int .i64 (k:Int),.string ⟨(zL []).toArray⟩,.string ⟨(zM k []).toArray⟩,.string ⟨(zG k []).toArray⟩]):=hD (HF6.eq jbt);exact fo229
        · have w1:=hcell 1 _ rfl;have hmm:m=2:=by have h:=HM.out;simp at h;omega
          have m1:(1:Int) <(m:Int):=by omega
          have e1:1<m:=by omega
          have m2:¬((2:Int) <(m:Int)):=by omega
          have e2:¬(2<m):=by omega
          have m3:¬((3:Int) <(m:Int)):=by omega
          have e3:¬(3<m):=by omega
          clear hmm;have HF6:=hD (Vr.new v1 [.int .i64 (k:Int),a,"",""] 124);have HBg:=hD (za v1 (.cells #[.int .i64 (k:Int),a,"",""] 124));have hl1:v1.heap.size<(v1.alloc (.cells #[.int .i64 (k:Int),"","",""] 124)).heap.size:=by simp
          go_upto_region 15 with fail;change Code.wp _ _ _ _ (v1.alloc (.cells #[.int .i64 (k:Int),a,"",""] 124));clear hl1 m1 m2 m3 e1 e2 e3 w1;have HX2:=hD (HX2.below HBg);have HR:=hD (HR.below HBg);have HB:=hD (bon HB HBg);have HX6:Hid (Vr (v1.alloc (.cells #[.int .i64 (k:Int),a,"",""] 124)) v1.heap.size [.int .i64 (k:Int),.string ⟨(zL [a]).toArray⟩,.string ⟨(zM k [a]).toArray⟩,.string ⟨(zG k [a]).toArray⟩]):=hD (HF6.eq jbt);exact fo228
        · have w1:=hcell 1 _ rfl;have w2:=hcell 2 _ rfl;have hmm:m=3:=by have h:=HM.out;simp at h;omega
          have m1:(1:Int) <(m:Int):=by omega
          have e1:1<m:=by omega
          have m2:(2:Int) <(m:Int):=by omega
          have e2:2<m:=by omega
          have m3:¬((3:Int) <(m:Int)):=by omega
          have e3:¬(3<m):=by omega
          clear hmm;have HF6:=hD (Vr.new v1 [.int .i64 (k:Int),a,"",b] 124);have HBg:=hD (za v1 (.cells #[.int .i64 (k:Int),a,"",b] 124));have hl1:v1.heap.size<(v1.alloc (.cells #[.int .i64 (k:Int),"","",""] 124)).heap.size:=by simp
          go_upto_region 15 with fail;change Code.wp _ _ _ _ (v1.alloc (.cells #[.int .i64 (k:Int),a,"",b] 124));clear hl1 m1 m2 m3 e1 e2 e3 w1 w2;have HX2:=hD (HX2.below HBg);have HR:=hD (HR.below HBg);have HB:=hD (bon HB HBg);have HX6:Hid (Vr (v1.alloc (.cells #[.int .i64 (k:Int),a,"",b] 124)) v1.heap.size [.int .i64 (k:Int),.string ⟨(zL [a,b]).toArray⟩,.string ⟨(zM k [a,b]).toArray⟩,.string ⟨(zG k [a,b]).toArray⟩]):=hD (HF6.eq jbt);have HSz:Hid ((zL [a,b]).length+(zM k [a,b]).length+(zG k [a,b]).length≤1048576):=hD (zbc HCut HLen hss);clear HF6 HBg;generalize (v1.alloc (.cells #[.int .i64 (k:Int),a,"",b] 124))=wv at HX2 HR HB HX6⊢;exact fo232
        · have w1:=hcell 1 _ rfl;have w2:=hcell 2 _ rfl;have w3:=hcell 3 _ rfl;have hmm:4≤m:=by have h:=HM.out;simp at h;omega
          have m1:(1:Int) <(m:Int):=by omega
          have e1:1<m:=by omega
          have m2:(2:Int) <(m:Int):=by omega
          have e2:2<m:=by omega
          have m3:(3:Int) <(m:Int):=by omega
          have e3:3<m:=by omega
          clear hmm;have HF6:=hD (Vr.new v1 [.int .i64 (k:Int),a,"",b] 124);have HBg:=hD (za v1 (.cells #[.int .i64 (k:Int),a,"",b] 124));have hl1:v1.heap.size<(v1.alloc (.cells #[.int .i64 (k:Int),"","",""] 124)).heap.size:=by simp
          go_upto_region 15 with fail;change Code.wp _ _ _ _ (v1.alloc (.cells #[.int .i64 (k:Int),a,"",b] 124));clear hl1 m1 m2 m3 e1 e2 e3 w1 w2 w3;have HX2:=hD (HX2.below HBg);have HR:=hD (HR.below HBg);have HB:=hD (bon HB HBg);have HX6:Hid (Vr (v1.alloc (.cells #[.int .i64 (k:Int),a,"",b] 124)) v1.heap.size [.int .i64 (k:Int),.string ⟨(zL (a::b::c::t)).toArray⟩,.string ⟨(zM k (a::b::c::t)).toArray⟩,.string ⟨(zG k (a::b::c::t)).toArray⟩]):=hD (HF6.eq jbt);have HSz:Hid ((zL (a::b::c::t)).length+(zM k (a::b::c::t)).length+(zG k (a::b::c::t)).length≤1048576):=hD (zbc HCut HLen hss);clear HF6 HBg;generalize (v1.alloc (.cells #[.int .i64 (k:Int),a,"",b] 124))=wv at HX2 HR HB HX6⊢;exact fo231
    · have HK:Hid (kindOk k s.data.toList=false):=hD (kind_no HCx hxk);have hne:(x == zo k)=false:=by simpa using hxk
      have hne2:(x != zo k)=true:=by simpa using hxk
      clear hxk;go_wp2_with fail;refine aD ?_;have HX2:=hD (HX2.below (ae _ _).drew);have HB:=hD (HB.drew);have HR:=hD (HR.below (ae _ _).drew);generalize hv:wr.drew=v0 at HX2 HB HR;refine aC (S:=fun W=>World.cell? W ⟨gw,ow,none⟩=some (.string ⟨x.toArray⟩)) jb (by rw[hv];exact((HW _ HR).1)) (fun hHeld=> ?_);rw[hv]at hHeld⊢;clear hv;refine takes [0,1,2,3] ?_;refine tkr 4 rfl (fun K hK=> ?_);go_simp;go_at_call 147;refine(ze6 k hk1 hk6 _).mono ?_;rintro e v1 ⟨rfl,hs⟩;have HX2:=hD (HX2.below hs);have HB:=hD (bon HB hs);have HR:=hD (HR.below hs);clear hs;go_wp2_with fail;refine hK.out _ _ ((HW _ HR).1) (fun hHeld=> ?_);clear hK K;try simp only[Act.put,qk1,qk2,qk3,qk4,qk5,qk6]
      refine takes [5] ?_;refine aB jb ?_ _;refine aA ?_;exact fo7
  · obtain rfl:k=7:=by omega
    have HK:Hid (opOk s.data.toList=false):=hD (opOk_no (fun j h1 h2=>HJ.out j h1 ja));have HR2:=hD (HX2.sets [(),"","",""] rfl);have HB3:=hD (zf HB (zb (b:=b2) [(),"","",""]) HB2);go_wp2_with (refine ai rfl 124 _ _ rfl b2 0 #[(),"","",""] rfl rfl ?_ Zk (zcL _ _ _ _) ?_;· exact HX2.there rfl)
    refine aj (v:= .tuple #[.agg #[(),"","",""],.int .i64 2]) ?_ rfl (zcG (ok:=opOk s.data.toList) jex HB3);exact zi results103 _ _ b2 [(),"","",""] _ _ rfl rfl HR2.range underlying124 rfl Zk
