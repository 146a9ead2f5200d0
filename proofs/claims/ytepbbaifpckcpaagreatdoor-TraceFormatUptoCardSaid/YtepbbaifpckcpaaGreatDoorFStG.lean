/- The contract of the reference's Format of operations. -/
import Derived.Test.YtepbbaifpckcpaaGreatDoorFFo
import Derived.Test.YtepbbaifpckcpaaGreatDoorFPl
import Derived.Test.YtepbbaifpckcpaaGreatDoorFSd
namespace Go.Proofs.YtepbbaifpckcpaaGreatDoor
set_option maxRecDepth 100000
set_option maxHeartbeats 4000000
open Go.RowKit
def zcy (k:Nat) (key old new:List UInt8) (w:World) (e:Ending) (w':World):Prop:=(zO k key old new=true→e= .returned (.tuple #[.string ⟨(yo k key old new).toArray⟩, .int .i64 0]))∧(zO k key old new=false→e= .returned (.tuple #[.string ⟨#[]⟩, .int .i64 1]))∧Below w.heap.size w w'
theorem zN {k:Nat} {key old new:List UInt8} {w w':World} (h:zO k key old new=false) (hb:Below w.heap.size w w'):zcy k key old new w (.returned (.tuple #[.string ⟨#[]⟩, .int .i64 1])) w':=
 ⟨fun h1=>(by rw [h] at h1;cases h1),fun _=>rfl,hb⟩
theorem ret_fmt_ok {k:Nat} {key old new:List UInt8} {t:ByteArray} {w w':World} (h:zO k key old new=true) (ht:t=⟨(yo k key old new).toArray⟩) (hb:Below w.heap.size w w'):zcy k key old new w (.returned (.tuple #[.string t, .int .i64 0])) w':=
 ⟨fun _=>(by rw [ht]),fun h1=>(by rw [h] at h1;cases h1),hb⟩
theorem refNameL1 (w:World):Calls Tryz.prog 147 #[.int .i64 1] w (zi [112,117,116] w):=refName1 w
theorem refNameL2 (w:World):Calls Tryz.prog 147 #[.int .i64 2] w (zi [103,101,116] w):=refName2 w
theorem refNameL3 (w:World):Calls Tryz.prog 147 #[.int .i64 3] w (zi [100,101,108,101,116,101] w):=refName3 w
theorem refNameL4 (w:World):Calls Tryz.prog 147 #[.int .i64 4] w (zi [97,112,112,101,110,100] w):=refName4 w
theorem refNameL5 (w:World):Calls Tryz.prog 147 #[.int .i64 5] w (zi [99,97,115] w):=refName5 w
theorem refNameL6 (w:World):Calls Tryz.prog 147 #[.int .i64 6] w (zi [99,111,117,110,116] w):=refName6 w
theorem refFormat1 (key old new:List UInt8) (w:World) (hs:key.length+old.length+new.length≤1048576) :
    Calls Tryz.prog 148 #[.agg #[.int .i64 1, .string ⟨key.toArray⟩, .string ⟨old.toArray⟩, .string ⟨new.toArray⟩]] w (zcy 1 key old new w):=by
 have HX:=hD (Vr.new w [.int .i64 1, .string ⟨key.toArray⟩, .string ⟨old.toArray⟩, .string ⟨new.toArray⟩] 124);have HB:=hD (za w (.cells #[.int .i64 1, .string ⟨key.toArray⟩, .string ⟨old.toArray⟩, .string ⟨new.toArray⟩] 124));go_in;go_upto_region 1 with fail;change Code.wp _ _ _ _ (w.alloc (.cells #[.int .i64 1, .string ⟨key.toArray⟩, .string ⟨old.toArray⟩, .string ⟨new.toArray⟩] 124));generalize w.alloc (.cells #[.int .i64 1, .string ⟨key.toArray⟩, .string ⟨old.toArray⟩, .string ⟨new.toArray⟩] 124)=w1 at HB HX⊢;generalize w.heap.size=b1 at HX⊢;have c0:=HX.out.cells 0 _ rfl;have c1:=HX.out.cells 1 _ rfl;have c2:=HX.out.cells 2 _ rfl;have c3:=HX.out.cells 3 _ rfl;have l1:=HX.out.lt;go_wp2_with fail;refine(refName1 w1).mono ?_;rintro e w2 ⟨rfl,hs2⟩;have HX:=hD (HX.out.below hs2);have HB:=hD (bon HB.out hs2);clear hs2 c0 c1 c2 c3 l1;have c0:=HX.out.cells 0 _ rfl;have c1:=HX.out.cells 1 _ rfl;have c2:=HX.out.cells 2 _ rfl;have c3:=HX.out.cells 3 _ rfl;have l1:=HX.out.lt;go_wp2_with fail;refine(yf ⟨key.toArray⟩ w2 jr).mono ?_;rintro e w3 ⟨rfl,hw⟩;subst hw;have hgkey:graphic (ByteArray.mk key.toArray).data.toList 64=graphic key 64:=by simp
 rw [hgkey];clear hgkey;cases hkey:graphic key 64 with
 |false=>
  have HF:Hid (zO 1 key old new=false):=hD (by unfold zO;rw [show zB key (zt 1)=false from by exact hkey];simp);go_wp2_with fail;go_ret2;exact zN HF.out HB.out
 |true=>
  go_wp2_with fail;refine(yf ⟨old.toArray⟩ w3 jr).mono ?_;rintro e w4 ⟨rfl,hw⟩;subst hw;have hgold:graphic (ByteArray.mk old.toArray).data.toList 64=graphic old 64:=by simp
  rw [hgold];clear hgold;cases hold:graphic old 64 with
  |true=>
   have HF:Hid (zO 1 key old new=false):=hD (by unfold zO;rw [show zB old (zx 1)=false from by exact decide_eq_false (yE hold)];simp);go_wp2_with fail;go_ret2;exact zN HF.out HB.out
  |false=>
   by_cases eold:old= []
   · subst eold;clear hold;go_wp2_with fail;refine(yf ⟨new.toArray⟩ w4 jr).mono ?_;rintro e w5 ⟨rfl,hw⟩;subst hw;have hgnew:graphic (ByteArray.mk new.toArray).data.toList 64=graphic new 64:=by simp
     rw [hgnew];clear hgnew;cases hnew:graphic new 64 with
     |false=>
      have HF:Hid (zO 1 key [] new=false):=hD (by unfold zO;rw [show zB new (zD 1)=false from by exact hnew];simp);go_wp2_with fail;go_ret2;exact zN HF.out HB.out
     |true=>
      have HF:Hid (zO 1 key [] new=true):=hD (by unfold zO;rw [show zB key (zt 1)=true from hkey,show zB [] (zx 1)=true from rfl,show zB new (zD 1)=true from hnew];rfl);have HT:Hid (yo 1 key [] new= [112,117,116]++32::key++32::new):=hD (fo101);have q0:¬(9223372036854775807<3+(1+key.length)):=by omega
      have p0:¬(9223372036854775807<3+1+key.length):=by omega
      have q1:¬(9223372036854775807<3+(1+key.length)+(1+new.length)):=by omega
      have p1:¬(9223372036854775807<3+1+key.length+1+new.length):=by omega
      go_wp2_with fail;refine(refNameL1 _).mono ?_;exact fo15
   · have nold:(old == [])=false:=by simpa using eold
     have mold:(old != [])=true:=by simpa using eold
     have bold:old.isEmpty=false:=by simpa using eold
     have HF:Hid (zO 1 key old new=false):=hD (by unfold zO;rw [show zB old (zx 1)=false from by exact decide_eq_false eold];simp);go_wp2_with fail;go_ret2;exact zN HF.out HB.out
theorem refFormat2 (key old new:List UInt8) (w:World) (hs:key.length+old.length+new.length≤1048576) :
    Calls Tryz.prog 148 #[.agg #[.int .i64 2, .string ⟨key.toArray⟩, .string ⟨old.toArray⟩, .string ⟨new.toArray⟩]] w (zcy 2 key old new w):=by
 have HX:=hD (Vr.new w [.int .i64 2, .string ⟨key.toArray⟩, .string ⟨old.toArray⟩, .string ⟨new.toArray⟩] 124);have HB:=hD (za w (.cells #[.int .i64 2, .string ⟨key.toArray⟩, .string ⟨old.toArray⟩, .string ⟨new.toArray⟩] 124));go_in;go_upto_region 1 with fail;change Code.wp _ _ _ _ (w.alloc (.cells #[.int .i64 2, .string ⟨key.toArray⟩, .string ⟨old.toArray⟩, .string ⟨new.toArray⟩] 124));generalize w.alloc (.cells #[.int .i64 2, .string ⟨key.toArray⟩, .string ⟨old.toArray⟩, .string ⟨new.toArray⟩] 124)=w1 at HB HX⊢;generalize w.heap.size=b1 at HX⊢;have c0:=HX.out.cells 0 _ rfl;have c1:=HX.out.cells 1 _ rfl;have c2:=HX.out.cells 2 _ rfl;have c3:=HX.out.cells 3 _ rfl;have l1:=HX.out.lt;go_wp2_with fail;refine(refName2 w1).mono ?_;rintro e w2 ⟨rfl,hs2⟩;have HX:=hD (HX.out.below hs2);have HB:=hD (bon HB.out hs2);clear hs2 c0 c1 c2 c3 l1;have c0:=HX.out.cells 0 _ rfl;have c1:=HX.out.cells 1 _ rfl;have c2:=HX.out.cells 2 _ rfl;have c3:=HX.out.cells 3 _ rfl;have l1:=HX.out.lt;go_wp2_with fail;refine(yf ⟨key.toArray⟩ w2 jr).mono ?_;rintro e w3 ⟨rfl,hw⟩;subst hw;have hgkey:graphic (ByteArray.mk key.toArray).data.toList 64=graphic key 64:=by simp
 rw [hgkey];clear hgkey;cases hkey:graphic key 64 with
 |false=>
  have HF:Hid (zO 2 key old new=false):=hD (by unfold zO;rw [show zB key (zt 2)=false from by exact hkey];simp);go_wp2_with fail;go_ret2;exact zN HF.out HB.out
 |true=>
  go_wp2_with fail;refine(yf ⟨old.toArray⟩ w3 jr).mono ?_;rintro e w4 ⟨rfl,hw⟩;subst hw;have hgold:graphic (ByteArray.mk old.toArray).data.toList 64=graphic old 64:=by simp
  rw [hgold];clear hgold;cases hold:graphic old 64 with
  |true=>
   have HF:Hid (zO 2 key old new=false):=hD (by unfold zO;rw [show zB old (zx 2)=false from by exact decide_eq_false (yE hold)];simp);go_wp2_with fail;go_ret2;exact zN HF.out HB.out
  |false=>
   by_cases eold:old= []
   · subst eold;clear hold;go_wp2_with fail;refine(yf ⟨new.toArray⟩ w4 jr).mono ?_;rintro e w5 ⟨rfl,hw⟩;subst hw;have hgnew:graphic (ByteArray.mk new.toArray).data.toList 64=graphic new 64:=by simp
     rw [hgnew];clear hgnew;cases hnew:graphic new 64 with
     |true=>
      have HF:Hid (zO 2 key [] new=false):=hD (by unfold zO;rw [show zB new (zD 2)=false from by exact decide_eq_false (yE hnew)];simp);go_wp2_with fail;go_ret2;exact zN HF.out HB.out
     |false=>
      by_cases enew:new= []
      · subst enew;clear hnew;have HF:Hid (zO 2 key [] []=true):=hD (by unfold zO;rw [show zB key (zt 2)=true from hkey,show zB [] (zx 2)=true from rfl,show zB [] (zD 2)=true from rfl];rfl);have HT:Hid (yo 2 key [] []= [103,101,116]++32::key):=hD (fo105);have q0:¬(9223372036854775807<3+(1+key.length)):=by omega
        have p0:¬(9223372036854775807<3+1+key.length):=by omega
        go_wp2_with fail;refine(refNameL2 _).mono ?_;exact fo15
      · have nnew:(new == [])=false:=by simpa using enew
        have mnew:(new != [])=true:=by simpa using enew
        have bnew:new.isEmpty=false:=by simpa using enew
        have HF:Hid (zO 2 key [] new=false):=hD (by unfold zO;rw [show zB new (zD 2)=false from by exact decide_eq_false enew];simp);go_wp2_with fail;go_ret2;exact zN HF.out HB.out
   · have nold:(old == [])=false:=by simpa using eold
     have mold:(old != [])=true:=by simpa using eold
     have bold:old.isEmpty=false:=by simpa using eold
     have HF:Hid (zO 2 key old new=false):=hD (by unfold zO;rw [show zB old (zx 2)=false from by exact decide_eq_false eold];simp);go_wp2_with fail;go_ret2;exact zN HF.out HB.out
theorem refFormat3 (key old new:List UInt8) (w:World) (hs:key.length+old.length+new.length≤1048576) :
    Calls Tryz.prog 148 #[.agg #[.int .i64 3, .string ⟨key.toArray⟩, .string ⟨old.toArray⟩, .string ⟨new.toArray⟩]] w (zcy 3 key old new w):=by
 have HX:=hD (Vr.new w [.int .i64 3, .string ⟨key.toArray⟩, .string ⟨old.toArray⟩, .string ⟨new.toArray⟩] 124);have HB:=hD (za w (.cells #[.int .i64 3, .string ⟨key.toArray⟩, .string ⟨old.toArray⟩, .string ⟨new.toArray⟩] 124));go_in;go_upto_region 1 with fail;change Code.wp _ _ _ _ (w.alloc (.cells #[.int .i64 3, .string ⟨key.toArray⟩, .string ⟨old.toArray⟩, .string ⟨new.toArray⟩] 124));generalize w.alloc (.cells #[.int .i64 3, .string ⟨key.toArray⟩, .string ⟨old.toArray⟩, .string ⟨new.toArray⟩] 124)=w1 at HB HX⊢;generalize w.heap.size=b1 at HX⊢;have c0:=HX.out.cells 0 _ rfl;have c1:=HX.out.cells 1 _ rfl;have c2:=HX.out.cells 2 _ rfl;have c3:=HX.out.cells 3 _ rfl;have l1:=HX.out.lt;go_wp2_with fail;refine(refName3 w1).mono ?_;rintro e w2 ⟨rfl,hs2⟩;have HX:=hD (HX.out.below hs2);have HB:=hD (bon HB.out hs2);clear hs2 c0 c1 c2 c3 l1;have c0:=HX.out.cells 0 _ rfl;have c1:=HX.out.cells 1 _ rfl;have c2:=HX.out.cells 2 _ rfl;have c3:=HX.out.cells 3 _ rfl;have l1:=HX.out.lt;go_wp2_with fail;refine(yf ⟨key.toArray⟩ w2 jr).mono ?_;rintro e w3 ⟨rfl,hw⟩;subst hw;have hgkey:graphic (ByteArray.mk key.toArray).data.toList 64=graphic key 64:=by simp
 rw [hgkey];clear hgkey;cases hkey:graphic key 64 with
 |false=>
  have HF:Hid (zO 3 key old new=false):=hD (by unfold zO;rw [show zB key (zt 3)=false from by exact hkey];simp);go_wp2_with fail;go_ret2;exact zN HF.out HB.out
 |true=>
  go_wp2_with fail;refine(yf ⟨old.toArray⟩ w3 jr).mono ?_;rintro e w4 ⟨rfl,hw⟩;subst hw;have hgold:graphic (ByteArray.mk old.toArray).data.toList 64=graphic old 64:=by simp
  rw [hgold];clear hgold;cases hold:graphic old 64 with
  |true=>
   have HF:Hid (zO 3 key old new=false):=hD (by unfold zO;rw [show zB old (zx 3)=false from by exact decide_eq_false (yE hold)];simp);go_wp2_with fail;go_ret2;exact zN HF.out HB.out
  |false=>
   by_cases eold:old= []
   · subst eold;clear hold;go_wp2_with fail;refine(yf ⟨new.toArray⟩ w4 jr).mono ?_;rintro e w5 ⟨rfl,hw⟩;subst hw;have hgnew:graphic (ByteArray.mk new.toArray).data.toList 64=graphic new 64:=by simp
     rw [hgnew];clear hgnew;cases hnew:graphic new 64 with
     |true=>
      have HF:Hid (zO 3 key [] new=false):=hD (by unfold zO;rw [show zB new (zD 3)=false from by exact decide_eq_false (yE hnew)];simp);go_wp2_with fail;go_ret2;exact zN HF.out HB.out
     |false=>
      by_cases enew:new= []
      · subst enew;clear hnew;have HF:Hid (zO 3 key [] []=true):=hD (by unfold zO;rw [show zB key (zt 3)=true from hkey,show zB [] (zx 3)=true from rfl,show zB [] (zD 3)=true from rfl];rfl);have HT:Hid (yo 3 key [] []= [100,101,108,101,116,101]++32::key):=hD (fo105);have q0:¬(9223372036854775807<6+(1+key.length)):=by omega
        have p0:¬(9223372036854775807<6+1+key.length):=by omega
        go_wp2_with fail;refine(refNameL3 _).mono ?_;exact fo15
      · have nnew:(new == [])=false:=by simpa using enew
        have mnew:(new != [])=true:=by simpa using enew
        have bnew:new.isEmpty=false:=by simpa using enew
        have HF:Hid (zO 3 key [] new=false):=hD (by unfold zO;rw [show zB new (zD 3)=false from by exact decide_eq_false enew];simp);go_wp2_with fail;go_ret2;exact zN HF.out HB.out
   · have nold:(old == [])=false:=by simpa using eold
     have mold:(old != [])=true:=by simpa using eold
     have bold:old.isEmpty=false:=by simpa using eold
     have HF:Hid (zO 3 key old new=false):=hD (by unfold zO;rw [show zB old (zx 3)=false from by exact decide_eq_false eold];simp);go_wp2_with fail;go_ret2;exact zN HF.out HB.out
theorem refFormat4 (key old new:List UInt8) (w:World) (hs:key.length+old.length+new.length≤1048576) :
    Calls Tryz.prog 148 #[.agg #[.int .i64 4, .string ⟨key.toArray⟩, .string ⟨old.toArray⟩, .string ⟨new.toArray⟩]] w (zcy 4 key old new w):=by
 have HX:=hD (Vr.new w [.int .i64 4, .string ⟨key.toArray⟩, .string ⟨old.toArray⟩, .string ⟨new.toArray⟩] 124);have HB:=hD (za w (.cells #[.int .i64 4, .string ⟨key.toArray⟩, .string ⟨old.toArray⟩, .string ⟨new.toArray⟩] 124));go_in;go_upto_region 1 with fail;change Code.wp _ _ _ _ (w.alloc (.cells #[.int .i64 4, .string ⟨key.toArray⟩, .string ⟨old.toArray⟩, .string ⟨new.toArray⟩] 124));generalize w.alloc (.cells #[.int .i64 4, .string ⟨key.toArray⟩, .string ⟨old.toArray⟩, .string ⟨new.toArray⟩] 124)=w1 at HB HX⊢;generalize w.heap.size=b1 at HX⊢;have c0:=HX.out.cells 0 _ rfl;have c1:=HX.out.cells 1 _ rfl;have c2:=HX.out.cells 2 _ rfl;have c3:=HX.out.cells 3 _ rfl;have l1:=HX.out.lt;go_wp2_with fail;refine(refName4 w1).mono ?_;rintro e w2 ⟨rfl,hs2⟩;have HX:=hD (HX.out.below hs2);have HB:=hD (bon HB.out hs2);clear hs2 c0 c1 c2 c3 l1;have c0:=HX.out.cells 0 _ rfl;have c1:=HX.out.cells 1 _ rfl;have c2:=HX.out.cells 2 _ rfl;have c3:=HX.out.cells 3 _ rfl;have l1:=HX.out.lt;go_wp2_with fail;refine(yf ⟨key.toArray⟩ w2 jr).mono ?_;rintro e w3 ⟨rfl,hw⟩;subst hw;have hgkey:graphic (ByteArray.mk key.toArray).data.toList 64=graphic key 64:=by simp
 rw [hgkey];clear hgkey;cases hkey:graphic key 64 with
 |false=>
  have HF:Hid (zO 4 key old new=false):=hD (by unfold zO;rw [show zB key (zt 4)=false from by exact hkey];simp);go_wp2_with fail;go_ret2;exact zN HF.out HB.out
 |true=>
  go_wp2_with fail;refine(yf ⟨old.toArray⟩ w3 jr).mono ?_;rintro e w4 ⟨rfl,hw⟩;subst hw;have hgold:graphic (ByteArray.mk old.toArray).data.toList 64=graphic old 64:=by simp
  rw [hgold];clear hgold;cases hold:graphic old 64 with
  |true=>
   have HF:Hid (zO 4 key old new=false):=hD (by unfold zO;rw [show zB old (zx 4)=false from by exact decide_eq_false (yE hold)];simp);go_wp2_with fail;go_ret2;exact zN HF.out HB.out
  |false=>
   by_cases eold:old= []
   · subst eold;clear hold;go_wp2_with fail;refine(yf ⟨new.toArray⟩ w4 jr).mono ?_;rintro e w5 ⟨rfl,hw⟩;subst hw;have hgnew:graphic (ByteArray.mk new.toArray).data.toList 64=graphic new 64:=by simp
     rw [hgnew];clear hgnew;cases hnew:graphic new 64 with
     |false=>
      have HF:Hid (zO 4 key [] new=false):=hD (by unfold zO;rw [show zB new (zD 4)=false from by exact hnew];simp);go_wp2_with fail;go_ret2;exact zN HF.out HB.out
     |true=>
      have HF:Hid (zO 4 key [] new=true):=hD (by unfold zO;rw [show zB key (zt 4)=true from hkey,show zB [] (zx 4)=true from rfl,show zB new (zD 4)=true from hnew];rfl);have HT:Hid (yo 4 key [] new= [97,112,112,101,110,100]++32::key++32::new):=hD (fo101);have q0:¬(9223372036854775807<6+(1+key.length)):=by omega
      have p0:¬(9223372036854775807<6+1+key.length):=by omega
      have q1:¬(9223372036854775807<6+(1+key.length)+(1+new.length)):=by omega
      have p1:¬(9223372036854775807<6+1+key.length+1+new.length):=by omega
      go_wp2_with fail;refine(refNameL4 _).mono ?_;exact fo15
   · have nold:(old == [])=false:=by simpa using eold
     have mold:(old != [])=true:=by simpa using eold
     have bold:old.isEmpty=false:=by simpa using eold
     have HF:Hid (zO 4 key old new=false):=hD (by unfold zO;rw [show zB old (zx 4)=false from by exact decide_eq_false eold];simp);go_wp2_with fail;go_ret2;exact zN HF.out HB.out
theorem refFormat5 (key old new:List UInt8) (w:World) (hs:key.length+old.length+new.length≤1048576) :
    Calls Tryz.prog 148 #[.agg #[.int .i64 5, .string ⟨key.toArray⟩, .string ⟨old.toArray⟩, .string ⟨new.toArray⟩]] w (zcy 5 key old new w):=by
 have HX:=hD (Vr.new w [.int .i64 5, .string ⟨key.toArray⟩, .string ⟨old.toArray⟩, .string ⟨new.toArray⟩] 124);have HB:=hD (za w (.cells #[.int .i64 5, .string ⟨key.toArray⟩, .string ⟨old.toArray⟩, .string ⟨new.toArray⟩] 124));go_in;go_upto_region 1 with fail;change Code.wp _ _ _ _ (w.alloc (.cells #[.int .i64 5, .string ⟨key.toArray⟩, .string ⟨old.toArray⟩, .string ⟨new.toArray⟩] 124));generalize w.alloc (.cells #[.int .i64 5, .string ⟨key.toArray⟩, .string ⟨old.toArray⟩, .string ⟨new.toArray⟩] 124)=w1 at HB HX⊢;generalize w.heap.size=b1 at HX⊢;have c0:=HX.out.cells 0 _ rfl;have c1:=HX.out.cells 1 _ rfl;have c2:=HX.out.cells 2 _ rfl;have c3:=HX.out.cells 3 _ rfl;have l1:=HX.out.lt;go_wp2_with fail;refine(refName5 w1).mono ?_;rintro e w2 ⟨rfl,hs2⟩;have HX:=hD (HX.out.below hs2);have HB:=hD (bon HB.out hs2);clear hs2 c0 c1 c2 c3 l1;have c0:=HX.out.cells 0 _ rfl;have c1:=HX.out.cells 1 _ rfl;have c2:=HX.out.cells 2 _ rfl;have c3:=HX.out.cells 3 _ rfl;have l1:=HX.out.lt;go_wp2_with fail;refine(yf ⟨key.toArray⟩ w2 jr).mono ?_;rintro e w3 ⟨rfl,hw⟩;subst hw;have hgkey:graphic (ByteArray.mk key.toArray).data.toList 64=graphic key 64:=by simp
 rw [hgkey];clear hgkey;cases hkey:graphic key 64 with
 |false=>
  have HF:Hid (zO 5 key old new=false):=hD (by unfold zO;rw [show zB key (zt 5)=false from by exact hkey];simp);go_wp2_with fail;go_ret2;exact zN HF.out HB.out
 |true=>
  go_wp2_with fail;refine(yf ⟨old.toArray⟩ w3 jr).mono ?_;rintro e w4 ⟨rfl,hw⟩;subst hw;have hgold:graphic (ByteArray.mk old.toArray).data.toList 64=graphic old 64:=by simp
  rw [hgold];clear hgold;cases hold:graphic old 64 with
  |false=>
   have HF:Hid (zO 5 key old new=false):=hD (by unfold zO;rw [show zB old (zx 5)=false from by exact hold];simp);go_wp2_with fail;go_ret2;exact zN HF.out HB.out
  |true=>
   go_wp2_with fail;refine(yf ⟨new.toArray⟩ w4 jr).mono ?_;rintro e w5 ⟨rfl,hw⟩;subst hw;have hgnew:graphic (ByteArray.mk new.toArray).data.toList 64=graphic new 64:=by simp
   rw [hgnew];clear hgnew;cases hnew:graphic new 64 with
   |false=>
    have HF:Hid (zO 5 key old new=false):=hD (by unfold zO;rw [show zB new (zD 5)=false from by exact hnew];simp);go_wp2_with fail;go_ret2;exact zN HF.out HB.out
   |true=>
    have HF:Hid (zO 5 key old new=true):=hD (by unfold zO;rw [show zB key (zt 5)=true from hkey,show zB old (zx 5)=true from hold,show zB new (zD 5)=true from hnew];rfl);have HT:Hid (yo 5 key old new= [99,97,115]++32::key++32::old++32::new):=hD (by
     unfold yo zas;simp only [List.filter_cons,List.filter_nil,yV hkey,yV hold,yV hnew,ne_eq,if_true];simp [Lib.join,zn])
    have q0:¬(9223372036854775807<3+(1+key.length)):=by omega
    have p0:¬(9223372036854775807<3+1+key.length):=by omega
    have q1:¬(9223372036854775807<3+(1+key.length)+(1+old.length)):=by omega
    have p1:¬(9223372036854775807<3+1+key.length+1+old.length):=by omega
    have q2:¬(9223372036854775807<3+(1+key.length)+(1+old.length)+(1+new.length)):=by omega
    have p2:¬(9223372036854775807<3+1+key.length+1+old.length+1+new.length):=by omega
    go_wp2_with fail;refine(refNameL5 _).mono ?_;exact fo15
theorem refFormat6 (key old new:List UInt8) (w:World) (hs:key.length+old.length+new.length≤1048576) :
    Calls Tryz.prog 148 #[.agg #[.int .i64 6, .string ⟨key.toArray⟩, .string ⟨old.toArray⟩, .string ⟨new.toArray⟩]] w (zcy 6 key old new w):=by
 have HX:=hD (Vr.new w [.int .i64 6, .string ⟨key.toArray⟩, .string ⟨old.toArray⟩, .string ⟨new.toArray⟩] 124);have HB:=hD (za w (.cells #[.int .i64 6, .string ⟨key.toArray⟩, .string ⟨old.toArray⟩, .string ⟨new.toArray⟩] 124));go_in;go_upto_region 1 with fail;change Code.wp _ _ _ _ (w.alloc (.cells #[.int .i64 6, .string ⟨key.toArray⟩, .string ⟨old.toArray⟩, .string ⟨new.toArray⟩] 124));generalize w.alloc (.cells #[.int .i64 6, .string ⟨key.toArray⟩, .string ⟨old.toArray⟩, .string ⟨new.toArray⟩] 124)=w1 at HB HX⊢;generalize w.heap.size=b1 at HX⊢;have c0:=HX.out.cells 0 _ rfl;have c1:=HX.out.cells 1 _ rfl;have c2:=HX.out.cells 2 _ rfl;have c3:=HX.out.cells 3 _ rfl;have l1:=HX.out.lt;go_wp2_with fail;refine(refName6 w1).mono ?_;rintro e w2 ⟨rfl,hs2⟩;have HX:=hD (HX.out.below hs2);have HB:=hD (bon HB.out hs2);clear hs2 c0 c1 c2 c3 l1;have c0:=HX.out.cells 0 _ rfl;have c1:=HX.out.cells 1 _ rfl;have c2:=HX.out.cells 2 _ rfl;have c3:=HX.out.cells 3 _ rfl;have l1:=HX.out.lt;go_wp2_with fail;refine(yf ⟨key.toArray⟩ w2 jr).mono ?_;rintro e w3 ⟨rfl,hw⟩;subst hw;have hgkey:graphic (ByteArray.mk key.toArray).data.toList 64=graphic key 64:=by simp
 rw [hgkey];clear hgkey;cases hkey:graphic key 64 with
 |true=>
  have HF:Hid (zO 6 key old new=false):=hD (by unfold zO;rw [show zB key (zt 6)=false from by exact decide_eq_false (yE hkey)];simp);go_wp2_with fail;go_ret2;exact zN HF.out HB.out
 |false=>
  by_cases ekey:key= []
  · subst ekey;clear hkey;go_wp2_with fail;refine(yf ⟨old.toArray⟩ w3 jr).mono ?_;rintro e w4 ⟨rfl,hw⟩;subst hw;have hgold:graphic (ByteArray.mk old.toArray).data.toList 64=graphic old 64:=by simp
    rw [hgold];clear hgold;cases hold:graphic old 64 with
    |true=>
     have HF:Hid (zO 6 [] old new=false):=hD (by unfold zO;rw [show zB old (zx 6)=false from by exact decide_eq_false (yE hold)];simp);go_wp2_with fail;go_ret2;exact zN HF.out HB.out
    |false=>
     by_cases eold:old= []
     · subst eold;clear hold;go_wp2_with fail;refine(yf ⟨new.toArray⟩ w4 jr).mono ?_;rintro e w5 ⟨rfl,hw⟩;subst hw;have hgnew:graphic (ByteArray.mk new.toArray).data.toList 64=graphic new 64:=by simp
       rw [hgnew];clear hgnew;cases hnew:graphic new 64 with
       |true=>
        have HF:Hid (zO 6 [] [] new=false):=hD (by unfold zO;rw [show zB new (zD 6)=false from by exact decide_eq_false (yE hnew)];simp);go_wp2_with fail;go_ret2;exact zN HF.out HB.out
       |false=>
        by_cases enew:new= []
        · subst enew;clear hnew;have HF:Hid (zO 6 [] [] []=true):=hD (by unfold zO;rw [show zB [] (zt 6)=true from rfl,show zB [] (zx 6)=true from rfl,show zB [] (zD 6)=true from rfl];rfl);have HT:Hid (yo 6 [] [] []= [99,111,117,110,116]):=hD (by
           unfold yo zas;simp only [List.filter_cons,List.filter_nil,ne_eq,not_true_eq_false,decide_false,Bool.false_eq_true,if_false];simp [Lib.join,zn])
          go_wp2_with fail;refine(refNameL6 _).mono ?_;exact fo15
        · have nnew:(new == [])=false:=by simpa using enew
          have mnew:(new != [])=true:=by simpa using enew
          have bnew:new.isEmpty=false:=by simpa using enew
          have HF:Hid (zO 6 [] [] new=false):=hD (by unfold zO;rw [show zB new (zD 6)=false from by exact decide_eq_false enew];simp);go_wp2_with fail;go_ret2;exact zN HF.out HB.out
     · have nold:(old == [])=false:=by simpa using eold
       have mold:(old != [])=true:=by simpa using eold
       have bold:old.isEmpty=false:=by simpa using eold
       have HF:Hid (zO 6 [] old new=false):=hD (by unfold zO;rw [show zB old (zx 6)=false from by exact decide_eq_false eold];simp);go_wp2_with fail;go_ret2;exact zN HF.out HB.out
  · have nkey:(key == [])=false:=by simpa using ekey
    have mkey:(key != [])=true:=by simpa using ekey
    have bkey:key.isEmpty=false:=by simpa using ekey
    have HF:Hid (zO 6 key old new=false):=hD (by unfold zO;rw [show zB key (zt 6)=false from by exact decide_eq_false ekey];simp);go_wp2_with fail;go_ret2;exact zN HF.out HB.out
theorem YI (k:Nat) (h1:1≤k) (h6:k≤6) (key old new:List UInt8) (w:World) (hs:key.length+old.length+new.length≤1048576) :
    Calls Tryz.prog 148 #[.agg #[.int .i64 (k:Int), .string ⟨key.toArray⟩, .string ⟨old.toArray⟩, .string ⟨new.toArray⟩]] w (zcy k key old new w):=by
 have:k=1∨k=2∨k=3∨k=4∨k=5∨k=6:=by omega
 rcases this with rfl|rfl|rfl|rfl|rfl|rfl
 · exact refFormat1 key old new w hs
 · exact refFormat2 key old new w hs
 · exact refFormat3 key old new w hs
 · exact refFormat4 key old new w hs
 · exact refFormat5 key old new w hs
 · exact refFormat6 key old new w hs
end Go.Proofs.YtepbbaifpckcpaaGreatDoor
