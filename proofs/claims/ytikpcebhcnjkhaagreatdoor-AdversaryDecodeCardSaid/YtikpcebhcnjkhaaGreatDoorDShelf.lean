/- The contracts of the library at this seat: one application each. -/
import Derived.Shelf.Strings.Builder1
import Derived.Shelf.Small.Bits
import Derived.Shelf.Strings.BuilderF
import Derived.Shelf.Strings.BuilderK
import Derived.Shelf.Strconv.Atoi
import Derived.Shelf.Strconv.Itoa0
import Derived.Shelf.Strconv.Itoa1
import Derived.Shelf.LaysM
import Derived.Shelf.Strconv.Itoa2
import Derived.Shelf.Strconv.Itoa3
import Derived.Shelf.Strconv.AtoiErrFast
import Derived.Shelf.Strconv.ParseIntEmpty
import Derived.Shelf.Strconv.AtoiFail
import Derived.Shelf.Strconv.Clone
import Derived.Shelf.Strconv.SyntaxError
import Derived.Shelf.LaysC
import Derived.Shelf.Strconv.ToError
import Derived.Shelf.Strconv.Lower
import Derived.Shelf.Strconv.ParseUint10
import Derived.Shelf.Strconv.ParseUint10Empty
import Derived.Shelf.Strconv.ParseUint10Any
import Derived.Shelf.Strconv.ParseInt10
import Derived.Shelf.Strconv.AtoiLong
import Derived.Shelf.Strconv.AtoiInnerAll
import Derived.Shelf.Strconv.RangeError
import Derived.Shelf.Strconv.ToErrorRange
import Derived.Shelf.Strconv.AtoiAll
import Derived.Shelf.Strconv.ErrVarAll
import Derived.Shelf.Strings.BuilderCap
import Derived.Ground.Names2Prog
import Derived.Shelf.Slices.Clone
import Derived.Ground.SlgfProg
import Derived.Shelf.SlicesE.IndexFunc
import Derived.Shelf.SlicesE.DeleteFunc
import Derived.Test.YtikpcebhcnjkhaaGreatDoorProg
namespace Go.Proofs
open Go.Shelf
def Tryz.lays169_ren : Go.Shelf.Ren := ⟨fun | 169 => 135 | n => n, fun | 70 => 205 | 9 => 9 | 0 => 0 | 72 => 207 | 37 => 53 | 127 => 229 | 3 => 3 | 5 => 5 | n => n, fun | n => n⟩
theorem Tryz.lays169 : Go.Proofs.Lays.n169 Tryz.prog Tryz.lays169_ren := {
 mixed := by kernel_rfl
 f169 := Tryz.func135.trans (congrArg some (by kernel_rfl))
 t0 := Tryz.underlying0
 a0 := Tryz.isAgg0
 z0 := Tryz.sizeOf0
 v0 := Tryz.zeroValue0
 t3 := Tryz.underlying3
 a3 := Tryz.isAgg3
 z3 := Tryz.sizeOf3
 v3 := Tryz.zeroValue3
 t9 := Tryz.underlying9
 a9 := Tryz.isAgg9
 z9 := Tryz.sizeOf9
 v9 := Tryz.zeroValue9
 t37 := Tryz.underlying53
 a37 := Tryz.isAgg53
 z37 := Tryz.sizeOf53
 v37 := Tryz.zeroValue53
 t70 := Tryz.underlying205
 a70 := Tryz.isAgg205
 z70 := Tryz.sizeOf205
 v70 := Tryz.zeroValue205
 t72 := Tryz.underlying207
 a72 := Tryz.isAgg207
 z72 := Tryz.sizeOf207
 v72 := Tryz.zeroValue207
 t127 := Tryz.underlying229
 a127 := Tryz.isAgg229
 z127 := Tryz.sizeOf229
 v127 := Tryz.zeroValue229 }
theorem Tryz.Builder_Extra_169 : Builder.Extra Tryz.prog Tryz.lays169_ren := {
 sizeBuilder := by kernel_rfl
 liesBuilder := by kernel_rfl
 t5 := Tryz.underlying5
 a5 := Tryz.isAgg5
 z5 := Tryz.sizeOf5
 v5 := Tryz.zeroValue5
 infoByte := by kernel_rfl
 cellsByte := by kernel_rfl
 sizeByte := by kernel_rfl
 neB5 := by decide }
open Go.RowKit in
theorem Tryz.Builder_String_any (B b : Nat) (l : List UInt8) (w : World) (h : Lib.IsBuilder 207 5 B b (Lib.byteCells l) w) (hBw : B ≤ w.heap.size) :
    Calls Tryz.prog 135 #[.pointer (some ⟨b, 0, none⟩)] w fun e w' => e = .returned (.string ⟨l.toArray⟩) ∧ Below B w w' := Any.Builder_String_any Tryz.lays169 Tryz.Builder_Extra_169 B b l w h hBw
def Tryz.laysM171_ren : Go.Shelf.Ren := ⟨fun | 171 => 101 | 243 => 136 | 246 => 159 | 283 => 170 | 284 => 171 | 285 => 172 | 286 => 173 | 129 => 177 | 317 => 176 | 318 => 178 | 319 => 179 | 320 => 180 | 337 => 181 | 338 => 182 | n => n, fun | 3 => 3 | 9 => 9 | 2 => 2 | 4 => 4 | 171 => 244 | 0 => 0 | 53 => 163 | 37 => 53 | 5 => 5 | 173 => 247 | 212 => 251 | 51 => 167 | 20 => 20 | 213 => 252 | 46 => 168 | 232 => 144 | 233 => 255 | n => n, fun | 17 => 3 | 18 => 0 | 19 => 4 | n => n⟩
theorem Tryz.laysM171 : Go.Proofs.LaysM.n171 Tryz.prog Tryz.laysM171_ren := {
 mixed := by kernel_rfl
 f129 := Tryz.func177.trans (congrArg some (by kernel_rfl))
 f171 := Tryz.func101.trans (congrArg some (by kernel_rfl))
 f243 := Tryz.func136.trans (congrArg some (by kernel_rfl))
 f246 := Tryz.func159.trans (congrArg some (by kernel_rfl))
 f283 := Tryz.func170.trans (congrArg some (by kernel_rfl))
 f284 := Tryz.func171.trans (congrArg some (by kernel_rfl))
 f285 := Tryz.func172.trans (congrArg some (by kernel_rfl))
 f286 := Tryz.func173.trans (congrArg some (by kernel_rfl))
 f317 := Tryz.func176.trans (congrArg some (by kernel_rfl))
 f318 := Tryz.func178.trans (congrArg some (by kernel_rfl))
 f319 := Tryz.func179.trans (congrArg some (by kernel_rfl))
 f320 := Tryz.func180.trans (congrArg some (by kernel_rfl))
 f337 := Tryz.func181.trans (congrArg some (by kernel_rfl))
 f338 := Tryz.func182.trans (congrArg some (by kernel_rfl))
 t0 := Tryz.underlying0
 a0 := Tryz.isAgg0
 z0 := Tryz.sizeOf0
 v0 := Tryz.zeroValue0
 t2 := Tryz.underlying2
 a2 := Tryz.isAgg2
 z2 := Tryz.sizeOf2
 v2 := Tryz.zeroValue2
 t3 := Tryz.underlying3
 a3 := Tryz.isAgg3
 z3 := Tryz.sizeOf3
 v3 := Tryz.zeroValue3
 t4 := Tryz.underlying4
 a4 := Tryz.isAgg4
 z4 := Tryz.sizeOf4
 v4 := Tryz.zeroValue4
 t5 := Tryz.underlying5
 a5 := Tryz.isAgg5
 z5 := Tryz.sizeOf5
 v5 := Tryz.zeroValue5
 t9 := Tryz.underlying9
 a9 := Tryz.isAgg9
 z9 := Tryz.sizeOf9
 v9 := Tryz.zeroValue9
 t20 := Tryz.underlying20
 a20 := Tryz.isAgg20
 z20 := Tryz.sizeOf20
 v20 := Tryz.zeroValue20
 t37 := Tryz.underlying53
 a37 := Tryz.isAgg53
 z37 := Tryz.sizeOf53
 v37 := Tryz.zeroValue53
 t46 := Tryz.underlying168
 a46 := Tryz.isAgg168
 z46 := Tryz.sizeOf168
 v46 := Tryz.zeroValue168
 t51 := Tryz.underlying167
 a51 := Tryz.isAgg167
 z51 := Tryz.sizeOf167
 v51 := Tryz.zeroValue167
 t53 := Tryz.underlying163
 a53 := Tryz.isAgg163
 z53 := Tryz.sizeOf163
 v53 := Tryz.zeroValue163
 t171 := Tryz.underlying244
 a171 := Tryz.isAgg244
 z171 := Tryz.sizeOf244
 v171 := Tryz.zeroValue244
 t173 := Tryz.underlying247
 a173 := Tryz.isAgg247
 z173 := Tryz.sizeOf247
 v173 := Tryz.zeroValue247
 t212 := Tryz.underlying251
 a212 := Tryz.isAgg251
 z212 := Tryz.sizeOf251
 v212 := Tryz.zeroValue251
 t213 := Tryz.underlying252
 a213 := Tryz.isAgg252
 z213 := Tryz.sizeOf252
 t232 := Tryz.underlying144
 a232 := Tryz.isAgg144
 z232 := Tryz.sizeOf144
 v232 := Tryz.zeroValue144
 t233 := Tryz.underlying255
 a233 := Tryz.isAgg255
 z233 := Tryz.sizeOf255
 v233 := Tryz.zeroValue255
 g17 := by kernel_rfl
 g18 := by kernel_rfl
 g19 := by kernel_rfl
 i0 := by kernel_rfl
 i2 := by kernel_rfl
 i3 := by kernel_rfl
 i4 := by kernel_rfl
 i5 := by kernel_rfl
 i9 := by kernel_rfl
 i20 := by kernel_rfl
 i37 := by kernel_rfl
 i46 := by kernel_rfl
 i51 := by kernel_rfl
 i53 := by kernel_rfl
 i171 := by kernel_rfl
 i173 := by kernel_rfl
 i212 := by kernel_rfl
 i232 := by kernel_rfl
 i233 := by kernel_rfl
 m17 := by kernel_rfl
 m18 := by kernel_rfl
 m19 := by kernel_rfl }
open Go.RowKit Go.Sort Go.Lib in
theorem Tryz.strconv_Itoa (n : Int) (h0 : -9223372036854775808 ≤ n) (h1 : n ≤ 9223372036854775807) (w : World) (htab : Lib.TabIs Tryz.prog w "internal/strconv.uint64pow10" .u64 Lib.pow10Tab) :
    Calls Tryz.prog 101 #[.int .i64 n] w fun e w' => e = .returned (.string ⟨(Lib.itoa n).toArray⟩) ∧ ∃ k os, w' = grow (w.drewN k) os := Any.strconv_Itoa Tryz.laysM171 n h0 h1 w htab
def Tryz.laysSlH10_f33_ren : Go.Shelf.Ren := ⟨fun | 10 => 33 | 6 => 64 | n => n, fun | 22 => 33 | 23 => 3 | 25 => 89 | 3 => 3 | 4 => 4 | 0 => 0 | n => n, fun | n => n⟩
theorem Tryz.laysSlH10_f33 : Go.Proofs.SlLaysH.n10 Tryz.prog Tryz.laysSlH10_f33_ren := {
 mixed := by kernel_rfl
 f6 := ⟨Tryz.f64.name, by decide, Tryz.func64.trans (congrArg some (by kernel_rfl))⟩
 f10 := ⟨Tryz.f33.name, by decide, Tryz.func33.trans (congrArg some (by kernel_rfl))⟩
 t0 := Tryz.underlying0
 a0 := Tryz.isAgg0
 z0 := Tryz.sizeOf0
 v0 := Tryz.zeroValue0
 t3 := Tryz.underlying3
 a3 := Tryz.isAgg3
 z3 := Tryz.sizeOf3
 v3 := Tryz.zeroValue3
 t4 := Tryz.underlying4
 a4 := Tryz.isAgg4
 z4 := Tryz.sizeOf4
 v4 := Tryz.zeroValue4
 t22 := Tryz.underlying33
 a22 := Tryz.isAgg33
 z22 := Tryz.sizeOf33
 v22 := Tryz.zeroValue33
 a23 := Tryz.isAgg3
 z23 := Tryz.sizeOf3
 t25 := Tryz.underlying89
 a25 := Tryz.isAgg89
 z25 := Tryz.sizeOf89
 v25 := Tryz.zeroValue89 }
open Go.RowKit Go.Lib Go.Sort in
theorem Tryz.slices_DeleteFunc {α : Type} [Inhabited α] (enc : α → Value) (hO : OneCell enc) (p : α → Bool) (g : Nat) (lb : Array Value) (eg : ∀ args w, (callFunc g args).run Tryz.prog w = .ok (.enter g args) w) (zr : α) (v23 : ∀ w, (zeroValue 3).run Tryz.prog w = .ok (enc zr) w) (blk off cap : Nat) (d : Array α) (w : World) (hp : PredAt Tryz.prog g lb enc p w) (hpo : PredOver Tryz.prog g lb enc p blk off d.size w) (hH : Holds enc w blk off d) (hsz : d.size ≤ 9223372036854775807) (hcap : d.size ≤ cap) :
    Calls Tryz.prog 33 #[.slice (some ⟨blk, off, none⟩) d.size cap, .func (.func g) #[] lb] w fun e w' => e = .returned (.slice (some ⟨blk, off, none⟩) (d.toList.filter fun x => !p x).length cap) ∧ ∃ q, w' = putRow enc (Sort.ahead w q) blk off ((d.toList.filter fun x => !p x) ++ List.replicate (d.size - (d.toList.filter fun x => !p x).length) zr).toArray := AnyE.slices_DeleteFunc Tryz.laysSlH10_f33 enc hO p g lb eg zr v23 blk off cap d w hp hpo hH hsz hcap
def Tryz.lays167_ren : Go.Shelf.Ren := ⟨fun | 240 => 158 | 276 => 169 | 167 => 157 | 166 => 134 | n => n, fun | 0 => 0 | 3 => 3 | 4 => 4 | 5 => 5 | 9 => 9 | 20 => 20 | 37 => 53 | 70 => 205 | 72 => 207 | 75 => 129 | 80 => 181 | 127 => 229 | 164 => 242 | n => n, fun | n => n⟩
theorem Tryz.lays167 : Go.Proofs.Lays.n167 Tryz.prog Tryz.lays167_ren := {
 mixed := by kernel_rfl
 f167 := Tryz.func157.trans (congrArg some (by kernel_rfl))
 f240 := Tryz.func158.trans (congrArg some (by kernel_rfl))
 f276 := Tryz.func169.trans (congrArg some (by kernel_rfl))
 t0 := Tryz.underlying0
 a0 := Tryz.isAgg0
 z0 := Tryz.sizeOf0
 v0 := Tryz.zeroValue0
 t4 := Tryz.underlying4
 a4 := Tryz.isAgg4
 z4 := Tryz.sizeOf4
 v4 := Tryz.zeroValue4
 t5 := Tryz.underlying5
 a5 := Tryz.isAgg5
 z5 := Tryz.sizeOf5
 v5 := Tryz.zeroValue5
 t9 := Tryz.underlying9
 a9 := Tryz.isAgg9
 z9 := Tryz.sizeOf9
 v9 := Tryz.zeroValue9
 t20 := Tryz.underlying20
 a20 := Tryz.isAgg20
 z20 := Tryz.sizeOf20
 v20 := Tryz.zeroValue20
 t37 := Tryz.underlying53
 a37 := Tryz.isAgg53
 z37 := Tryz.sizeOf53
 v37 := Tryz.zeroValue53
 t70 := Tryz.underlying205
 a70 := Tryz.isAgg205
 z70 := Tryz.sizeOf205
 v70 := Tryz.zeroValue205
 t72 := Tryz.underlying207
 a72 := Tryz.isAgg207
 z72 := Tryz.sizeOf207
 v72 := Tryz.zeroValue207
 t75 := Tryz.underlying129
 a75 := Tryz.isAgg129
 z75 := Tryz.sizeOf129
 v75 := Tryz.zeroValue129
 t164 := Tryz.underlying242
 a164 := Tryz.isAgg242
 z164 := Tryz.sizeOf242
 v164 := Tryz.zeroValue242 }
def Tryz.lays166_ren : Go.Shelf.Ren := ⟨fun | 240 => 158 | 276 => 169 | 167 => 157 | 166 => 134 | n => n, fun | 0 => 0 | 3 => 3 | 4 => 4 | 5 => 5 | 9 => 9 | 20 => 20 | 37 => 53 | 70 => 205 | 72 => 207 | 75 => 129 | 80 => 181 | 127 => 229 | 164 => 242 | n => n, fun | n => n⟩
theorem Tryz.lays166 : Go.Proofs.Lays.n166 Tryz.prog Tryz.lays166_ren := {
 mixed := by kernel_rfl
 f166 := Tryz.func134.trans (congrArg some (by kernel_rfl))
 f240 := Tryz.func158.trans (congrArg some (by kernel_rfl))
 f276 := Tryz.func169.trans (congrArg some (by kernel_rfl))
 t0 := Tryz.underlying0
 a0 := Tryz.isAgg0
 z0 := Tryz.sizeOf0
 v0 := Tryz.zeroValue0
 t3 := Tryz.underlying3
 a3 := Tryz.isAgg3
 z3 := Tryz.sizeOf3
 v3 := Tryz.zeroValue3
 t4 := Tryz.underlying4
 a4 := Tryz.isAgg4
 z4 := Tryz.sizeOf4
 v4 := Tryz.zeroValue4
 t9 := Tryz.underlying9
 a9 := Tryz.isAgg9
 z9 := Tryz.sizeOf9
 v9 := Tryz.zeroValue9
 t20 := Tryz.underlying20
 a20 := Tryz.isAgg20
 z20 := Tryz.sizeOf20
 v20 := Tryz.zeroValue20
 t37 := Tryz.underlying53
 a37 := Tryz.isAgg53
 z37 := Tryz.sizeOf53
 v37 := Tryz.zeroValue53
 t70 := Tryz.underlying205
 a70 := Tryz.isAgg205
 z70 := Tryz.sizeOf205
 v70 := Tryz.zeroValue205
 t72 := Tryz.underlying207
 a72 := Tryz.isAgg207
 z72 := Tryz.sizeOf207
 v72 := Tryz.zeroValue207
 t75 := Tryz.underlying129
 a75 := Tryz.isAgg129
 z75 := Tryz.sizeOf129
 v75 := Tryz.zeroValue129
 t164 := Tryz.underlying242
 a164 := Tryz.isAgg242
 z164 := Tryz.sizeOf242
 v164 := Tryz.zeroValue242 }
theorem Tryz.Builder_Extra_167 : Builder.Extra Tryz.prog Tryz.lays167_ren := {
 sizeBuilder := by kernel_rfl
 liesBuilder := by kernel_rfl
 t5 := Tryz.underlying5
 a5 := Tryz.isAgg5
 z5 := Tryz.sizeOf5
 v5 := Tryz.zeroValue5
 infoByte := by kernel_rfl
 cellsByte := by kernel_rfl
 sizeByte := by kernel_rfl
 neB5 := by decide }
open Go.RowKit in
theorem Tryz.Builder_WriteByte (B b : Nat) (bs : List Value) (c : Int) (w : World) (h : Lib.IsBuilder 207 5 B b bs w) (hlen : bs.length + 1 ≤ 140737488355328) (hBw : B ≤ w.heap.size) :
    Calls Tryz.prog 157 #[.pointer (some ⟨b, 0, none⟩), .int .u8 c] w fun e w' => e = .returned .nilIface ∧ (Lib.BuilderAt 207 5 B b (.pointer (some ⟨b, 0, none⟩)) (bs ++ [.int .u8 c]) w' ∧ Below B w w') := Any.Builder_WriteByte Tryz.lays167 Tryz.Builder_Extra_167 B b bs c w h hlen hBw
theorem Tryz.Builder_Extra_166 : Builder.Extra Tryz.prog Tryz.lays166_ren := {
 sizeBuilder := by kernel_rfl
 liesBuilder := by kernel_rfl
 t5 := Tryz.underlying5
 a5 := Tryz.isAgg5
 z5 := Tryz.sizeOf5
 v5 := Tryz.zeroValue5
 infoByte := by kernel_rfl
 cellsByte := by kernel_rfl
 sizeByte := by kernel_rfl
 neB5 := by decide }
open Go.RowKit in
theorem Tryz.Builder_WriteString (B b : Nat) (bs : List Value) (s : ByteArray) (w : World) (h : Lib.IsBuilder 207 5 B b bs w) (hlen : bs.length + s.size ≤ 140737488355328) (hBw : B ≤ w.heap.size) :
    Calls Tryz.prog 134 #[.pointer (some ⟨b, 0, none⟩), .string s] w fun e w' => e = .returned (.tuple #[.int .i64 s.size, .nilIface]) ∧ (Lib.BuilderAt 207 5 B b (.pointer (some ⟨b, 0, none⟩)) (bs ++ Lib.strCells s) w' ∧ Below B w w') := Any.Builder_WriteString Tryz.lays166 Tryz.Builder_Extra_166 B b bs s w h hlen hBw
end Go.Proofs
