/- The contracts of the library at this seat: one application each. -/
import Derived.Shelf.Strings.Builder1
import Derived.Shelf.Strings.Builder2
import Derived.Shelf.Strings.OnBuilder
import Derived.Shelf.Small.Bits
import Derived.Shelf.Small.Strs
import Derived.Shelf.Strings.BuilderF
import Derived.Shelf.Strings.BuilderK
import Derived.Shelf.Strings.Builder2Cap
import Derived.Shelf.Strconv.Atoi
import Derived.Shelf.Strconv.Itoa0
import Derived.Shelf.Strconv.Itoa1
import Derived.Shelf.LaysM
import Derived.Shelf.Strconv.Itoa2
import Derived.Shelf.Strconv.Itoa3
import Derived.Shelf.Strconv.AtoiErrFast
import Derived.Shelf.Strconv.ParseIntEmpty
import Derived.Shelf.Strconv.AtoiFail
import Derived.Shelf.Strconv.Clone
import Derived.Shelf.Strconv.SyntaxError
import Derived.Shelf.LaysC
import Derived.Shelf.Strconv.ToError
import Derived.Shelf.Strconv.Lower
import Derived.Shelf.Strconv.ParseUint10
import Derived.Shelf.Strconv.ParseUint10Empty
import Derived.Shelf.Strconv.ParseUint10Any
import Derived.Shelf.Strconv.ParseInt10
import Derived.Shelf.Strconv.AtoiLong
import Derived.Shelf.Strconv.AtoiInnerAll
import Derived.Shelf.Strconv.RangeError
import Derived.Shelf.Strconv.ToErrorRange
import Derived.Shelf.Strconv.AtoiAll
import Derived.Shelf.Strconv.ErrVarAll
import Derived.Shelf.Strings.Search1
import Derived.Shelf.Strings.Search2
import Derived.Shelf.Strings.Search3
import Derived.Shelf.Strings.Count
import Derived.Shelf.Strings.Shaped
import Derived.Shelf.Strings.Prefix
import Derived.Shelf.Strings.Split
import Derived.Shelf.Unicode.DecodeSlow
import Derived.Shelf.Strings.BuilderCap
import Derived.Test.YtepbbaifpckcpaaGreatDoorProg
namespace Go.Proofs
open Go.Shelf
def Tryz.lays170_ren:Go.Shelf.Ren:=⟨fun|170=>49|n=>n,fun|70=>74|3=>3|0=>0|72=>77|37=>75|5=>5|n=>n,fun|n=>n⟩
theorem Tryz.lays170:Go.Proofs.Lays.n170 Tryz.prog Tryz.lays170_ren:={
 mixed:=by kernel_rfl
 f170:=Tryz.func49.trans (congrArg some (by kernel_rfl))
 t0:=Tryz.underlying0
 a0:=Tryz.isAgg0
 z0:=Tryz.sizeOf0
 v0:=Tryz.zeroValue0
 t3:=Tryz.underlying3
 a3:=Tryz.isAgg3
 z3:=Tryz.sizeOf3
 v3:=Tryz.zeroValue3
 t37:=Tryz.underlying75
 a37:=Tryz.isAgg75
 z37:=Tryz.sizeOf75
 v37:=Tryz.zeroValue75
 t70:=Tryz.underlying74
 a70:=Tryz.isAgg74
 z70:=Tryz.sizeOf74
 v70:=Tryz.zeroValue74
 t72:=Tryz.underlying77
 a72:=Tryz.isAgg77
 z72:=Tryz.sizeOf77
 v72:=Tryz.zeroValue77}
open Go.RowKit in
theorem Tryz.Builder_Len(B b:Nat)(bs:List Value)(w:World)(h:Lib.IsBuilder 77 5 B b bs w) :
    Calls Tryz.prog 49 #[.pointer (some ⟨b,0,none⟩)] w fun e w'=>e= .returned (.int .i64 bs.length)∧w'=w:=Any.Builder_Len Tryz.lays170 B b bs w h
def Tryz.lays169_ren:Go.Shelf.Ren:=⟨fun|169=>50|n=>n,fun|70=>74|9=>9|0=>0|72=>77|37=>75|127=>108|3=>3|5=>5|n=>n,fun|n=>n⟩
theorem Tryz.lays169:Go.Proofs.Lays.n169 Tryz.prog Tryz.lays169_ren:={
 mixed:=by kernel_rfl
 f169:=Tryz.func50.trans (congrArg some (by kernel_rfl))
 t0:=Tryz.underlying0
 a0:=Tryz.isAgg0
 z0:=Tryz.sizeOf0
 v0:=Tryz.zeroValue0
 t3:=Tryz.underlying3
 a3:=Tryz.isAgg3
 z3:=Tryz.sizeOf3
 v3:=Tryz.zeroValue3
 t9:=Tryz.underlying9
 a9:=Tryz.isAgg9
 z9:=Tryz.sizeOf9
 v9:=Tryz.zeroValue9
 t37:=Tryz.underlying75
 a37:=Tryz.isAgg75
 z37:=Tryz.sizeOf75
 v37:=Tryz.zeroValue75
 t70:=Tryz.underlying74
 a70:=Tryz.isAgg74
 z70:=Tryz.sizeOf74
 v70:=Tryz.zeroValue74
 t72:=Tryz.underlying77
 a72:=Tryz.isAgg77
 z72:=Tryz.sizeOf77
 v72:=Tryz.zeroValue77
 t127:=Tryz.underlying108
 a127:=Tryz.isAgg108
 z127:=Tryz.sizeOf108
 v127:=Tryz.zeroValue108}
theorem Tryz.Builder_Extra_169:Builder.Extra Tryz.prog Tryz.lays169_ren:={
 sizeBuilder:=by kernel_rfl
 liesBuilder:=by kernel_rfl
 t5:=Tryz.underlying5
 a5:=Tryz.isAgg5
 z5:=Tryz.sizeOf5
 v5:=Tryz.zeroValue5
 infoByte:=by kernel_rfl
 cellsByte:=by kernel_rfl
 sizeByte:=by kernel_rfl
 neB5:=by decide}
open Go.RowKit in
theorem Tryz.Builder_String_any(B b:Nat)(l:List UInt8)(w:World)(h:Lib.IsBuilder 77 5 B b (Lib.byteCells l) w)(hBw:B≤w.heap.size) :
    Calls Tryz.prog 50 #[.pointer (some ⟨b,0,none⟩)] w fun e w'=>e= .returned (.string ⟨l.toArray⟩)∧Below B w w':=Any.Builder_String_any Tryz.lays169 Tryz.Builder_Extra_169 B b l w h hBw
def Tryz.lays156_ren:Go.Shelf.Ren:=⟨fun|156=>79|165=>116|166=>47|169=>50|240=>75|241=>169|276=>112|277=>224|n=>n,fun|31=>32|9=>9|3=>3|4=>4|0=>0|20=>20|72=>77|76=>80|70=>74|37=>75|75=>79|127=>108|164=>148|5=>5|80=>84|n=>n,fun|n=>n⟩
theorem Tryz.lays156:Go.Proofs.Lays.n156 Tryz.prog Tryz.lays156_ren:={
 mixed:=by kernel_rfl
 f156:=Tryz.func79.trans (congrArg some (by kernel_rfl))
 f165:=Tryz.func116.trans (congrArg some (by kernel_rfl))
 f166:=Tryz.func47.trans (congrArg some (by kernel_rfl))
 f169:=Tryz.func50.trans (congrArg some (by kernel_rfl))
 f240:=Tryz.func75.trans (congrArg some (by kernel_rfl))
 f241:=Tryz.func169.trans (congrArg some (by kernel_rfl))
 f276:=Tryz.func112.trans (congrArg some (by kernel_rfl))
 f277:=Tryz.func224.trans (congrArg some (by kernel_rfl))
 t0:=Tryz.underlying0
 a0:=Tryz.isAgg0
 z0:=Tryz.sizeOf0
 v0:=Tryz.zeroValue0
 t3:=Tryz.underlying3
 a3:=Tryz.isAgg3
 z3:=Tryz.sizeOf3
 v3:=Tryz.zeroValue3
 t4:=Tryz.underlying4
 a4:=Tryz.isAgg4
 z4:=Tryz.sizeOf4
 v4:=Tryz.zeroValue4
 t9:=Tryz.underlying9
 a9:=Tryz.isAgg9
 z9:=Tryz.sizeOf9
 v9:=Tryz.zeroValue9
 t20:=Tryz.underlying20
 a20:=Tryz.isAgg20
 z20:=Tryz.sizeOf20
 v20:=Tryz.zeroValue20
 t31:=Tryz.underlying32
 a31:=Tryz.isAgg32
 z31:=Tryz.sizeOf32
 v31:=Tryz.zeroValue32
 t37:=Tryz.underlying75
 a37:=Tryz.isAgg75
 z37:=Tryz.sizeOf75
 v37:=Tryz.zeroValue75
 t70:=Tryz.underlying74
 a70:=Tryz.isAgg74
 z70:=Tryz.sizeOf74
 v70:=Tryz.zeroValue74
 t72:=Tryz.underlying77
 a72:=Tryz.isAgg77
 z72:=Tryz.sizeOf77
 v72:=Tryz.zeroValue77
 t75:=Tryz.underlying79
 a75:=Tryz.isAgg79
 z75:=Tryz.sizeOf79
 v75:=Tryz.zeroValue79
 t76:=Tryz.underlying80
 a76:=Tryz.isAgg80
 z76:=Tryz.sizeOf80
 v76:=Tryz.zeroValue80
 t127:=Tryz.underlying108
 a127:=Tryz.isAgg108
 z127:=Tryz.sizeOf108
 v127:=Tryz.zeroValue108
 t164:=Tryz.underlying148
 a164:=Tryz.isAgg148
 z164:=Tryz.sizeOf148
 v164:=Tryz.zeroValue148}
theorem Tryz.Builder_Extra_156:Builder.Extra Tryz.prog Tryz.lays156_ren:={
 sizeBuilder:=by kernel_rfl
 liesBuilder:=by kernel_rfl
 t5:=Tryz.underlying5
 a5:=Tryz.isAgg5
 z5:=Tryz.sizeOf5
 v5:=Tryz.zeroValue5
 infoByte:=by kernel_rfl
 cellsByte:=by kernel_rfl
 sizeByte:=by kernel_rfl
 neB5:=by decide}
open Go.RowKit in
theorem Tryz.strings_Join(bk o c:Nat)(xs:List ByteArray)(sep:ByteArray)(w:World)(hcells:∀(j:Nat) x,xs[j]? =some x→w.cell? ⟨bk,o+j,none⟩=some (.string x))(hbk:bk<w.heap.size)(hN:xs.length≤140737488355328)(hcap:xs.length≤c)(hlen:(Lib.join (xs.map (·.data.toList)) sep.data.toList).length≤140737488355328) :
    Calls Tryz.prog 79 #[.slice (some ⟨bk,o,none⟩) xs.length c,.string sep] w fun e w'=>e= .returned (.string ⟨(Lib.join (xs.map (·.data.toList)) sep.data.toList).toArray⟩)∧Below w.heap.size w w':=Any.strings_Join Tryz.lays156 Tryz.Builder_Extra_156 bk o c xs sep w hcells hbk hN hcap hlen
def Tryz.lays126_ren:Go.Shelf.Ren:=⟨fun|126=>270|n=>n,fun|5=>5|3=>3|9=>9|n=>n,fun|n=>n⟩
theorem Tryz.lays126:Go.Proofs.Lays.n126 Tryz.prog Tryz.lays126_ren:={
 mixed:=by kernel_rfl
 f126:=Tryz.func270.trans (congrArg some (by kernel_rfl))
 t3:=Tryz.underlying3
 a3:=Tryz.isAgg3
 z3:=Tryz.sizeOf3
 v3:=Tryz.zeroValue3
 t5:=Tryz.underlying5
 a5:=Tryz.isAgg5
 z5:=Tryz.sizeOf5
 v5:=Tryz.zeroValue5
 t9:=Tryz.underlying9
 a9:=Tryz.isAgg9
 z9:=Tryz.sizeOf9
 v9:=Tryz.zeroValue9}
theorem Tryz.bits_Len8(x:Int)(w:World)(h0:0≤x)(h1:x≤255) :
    Calls Tryz.prog 270 #[.int .u8 x] w fun e w'=>e= .returned (.int .i64 (Lib.bitLen x.toNat))∧w'=w:=Any.bits_Len8 Tryz.lays126 x w h0 h1
def Tryz.lays137_ren:Go.Shelf.Ren:=⟨fun|137=>123|217=>175|266=>229|n=>n,fun|9=>9|5=>5|3=>3|n=>n,fun|n=>n⟩
theorem Tryz.lays137:Go.Proofs.Lays.n137 Tryz.prog Tryz.lays137_ren:={
 mixed:=by kernel_rfl
 f137:=Tryz.func123.trans (congrArg some (by kernel_rfl))
 f217:=Tryz.func175.trans (congrArg some (by kernel_rfl))
 f266:=Tryz.func229.trans (congrArg some (by kernel_rfl))
 t3:=Tryz.underlying3
 a3:=Tryz.isAgg3
 z3:=Tryz.sizeOf3
 v3:=Tryz.zeroValue3
 t5:=Tryz.underlying5
 a5:=Tryz.isAgg5
 z5:=Tryz.sizeOf5
 v5:=Tryz.zeroValue5
 t9:=Tryz.underlying9
 a9:=Tryz.isAgg9
 z9:=Tryz.sizeOf9
 v9:=Tryz.zeroValue9}
open Go.RowKit in
theorem Tryz.strings_IndexByte(s:ByteArray)(c:Int)(w:World) :
    Calls Tryz.prog 123 #[.string s,.int .u8 c] w fun e w'=>e= .returned (.int .i64 (Lib.indexByte s.data.toList c.toNat.toUInt8))∧w'=w:=Any.strings_IndexByte Tryz.lays137 s c w
def Tryz.laysM171_ren:Go.Shelf.Ren:=⟨fun|171=>76|243=>113|246=>159|283=>214|284=>215|285=>216|286=>217|129=>257|317=>256|318=>258|319=>259|320=>260|337=>278|338=>279|n=>n,fun|3=>3|9=>9|2=>2|4=>4|171=>242|0=>0|53=>144|37=>75|5=>5|173=>245|212=>276|51=>277|20=>20|213=>278|46=>151|232=>310|233=>311|n=>n,fun|17=>2|18=>7|19=>8|n=>n⟩
theorem Tryz.laysM171:Go.Proofs.LaysM.n171 Tryz.prog Tryz.laysM171_ren:={
 mixed:=by kernel_rfl
 f129:=Tryz.func257.trans (congrArg some (by kernel_rfl))
 f171:=Tryz.func76.trans (congrArg some (by kernel_rfl))
 f243:=Tryz.func113.trans (congrArg some (by kernel_rfl))
 f246:=Tryz.func159.trans (congrArg some (by kernel_rfl))
 f283:=Tryz.func214.trans (congrArg some (by kernel_rfl))
 f284:=Tryz.func215.trans (congrArg some (by kernel_rfl))
 f285:=Tryz.func216.trans (congrArg some (by kernel_rfl))
 f286:=Tryz.func217.trans (congrArg some (by kernel_rfl))
 f317:=Tryz.func256.trans (congrArg some (by kernel_rfl))
 f318:=Tryz.func258.trans (congrArg some (by kernel_rfl))
 f319:=Tryz.func259.trans (congrArg some (by kernel_rfl))
 f320:=Tryz.func260.trans (congrArg some (by kernel_rfl))
 f337:=Tryz.func278.trans (congrArg some (by kernel_rfl))
 f338:=Tryz.func279.trans (congrArg some (by kernel_rfl))
 t0:=Tryz.underlying0
 a0:=Tryz.isAgg0
 z0:=Tryz.sizeOf0
 v0:=Tryz.zeroValue0
 t2:=Tryz.underlying2
 a2:=Tryz.isAgg2
 z2:=Tryz.sizeOf2
 v2:=Tryz.zeroValue2
 t3:=Tryz.underlying3
 a3:=Tryz.isAgg3
 z3:=Tryz.sizeOf3
 v3:=Tryz.zeroValue3
 t4:=Tryz.underlying4
 a4:=Tryz.isAgg4
 z4:=Tryz.sizeOf4
 v4:=Tryz.zeroValue4
 t5:=Tryz.underlying5
 a5:=Tryz.isAgg5
 z5:=Tryz.sizeOf5
 v5:=Tryz.zeroValue5
 t9:=Tryz.underlying9
 a9:=Tryz.isAgg9
 z9:=Tryz.sizeOf9
 v9:=Tryz.zeroValue9
 t20:=Tryz.underlying20
 a20:=Tryz.isAgg20
 z20:=Tryz.sizeOf20
 v20:=Tryz.zeroValue20
 t37:=Tryz.underlying75
 a37:=Tryz.isAgg75
 z37:=Tryz.sizeOf75
 v37:=Tryz.zeroValue75
 t46:=Tryz.underlying151
 a46:=Tryz.isAgg151
 z46:=Tryz.sizeOf151
 v46:=Tryz.zeroValue151
 t51:=Tryz.underlying277
 a51:=Tryz.isAgg277
 z51:=Tryz.sizeOf277
 v51:=Tryz.zeroValue277
 t53:=Tryz.underlying144
 a53:=Tryz.isAgg144
 z53:=Tryz.sizeOf144
 v53:=Tryz.zeroValue144
 t171:=Tryz.underlying242
 a171:=Tryz.isAgg242
 z171:=Tryz.sizeOf242
 v171:=Tryz.zeroValue242
 t173:=Tryz.underlying245
 a173:=Tryz.isAgg245
 z173:=Tryz.sizeOf245
 v173:=Tryz.zeroValue245
 t212:=Tryz.underlying276
 a212:=Tryz.isAgg276
 z212:=Tryz.sizeOf276
 v212:=Tryz.zeroValue276
 t213:=Tryz.underlying278
 a213:=Tryz.isAgg278
 z213:=Tryz.sizeOf278
 t232:=Tryz.underlying310
 a232:=Tryz.isAgg310
 z232:=Tryz.sizeOf310
 v232:=Tryz.zeroValue310
 t233:=Tryz.underlying311
 a233:=Tryz.isAgg311
 z233:=Tryz.sizeOf311
 v233:=Tryz.zeroValue311
 g17:=by kernel_rfl
 g18:=by kernel_rfl
 g19:=by kernel_rfl
 i0:=by kernel_rfl
 i2:=by kernel_rfl
 i3:=by kernel_rfl
 i4:=by kernel_rfl
 i5:=by kernel_rfl
 i9:=by kernel_rfl
 i20:=by kernel_rfl
 i37:=by kernel_rfl
 i46:=by kernel_rfl
 i51:=by kernel_rfl
 i53:=by kernel_rfl
 i171:=by kernel_rfl
 i173:=by kernel_rfl
 i212:=by kernel_rfl
 i232:=by kernel_rfl
 i233:=by kernel_rfl
 m17:=by kernel_rfl
 m18:=by kernel_rfl
 m19:=by kernel_rfl}
open Go.RowKit Go.Sort Go.Lib in
theorem Tryz.strconv_Itoa(n:Int)(h0:-9223372036854775808≤n)(h1:n≤9223372036854775807)(w:World)(htab:Lib.TabIs Tryz.prog w "internal/strconv.uint64pow10" .u64 Lib.pow10Tab) :
    Calls Tryz.prog 76 #[.int .i64 n] w fun e w'=>e= .returned (.string ⟨(Lib.itoa n).toArray⟩)∧∃k os,w'=grow (w.drewN k) os:=Any.strconv_Itoa Tryz.laysM171 n h0 h1 w htab
def Tryz.laysC172_ren:Go.Shelf.Ren:=⟨fun|172=>141|244=>205|245=>206|247=>246|279=>247|280=>248|281=>249|282=>250|287=>271|316=>272|171=>76|205=>273|321=>281|322=>282|243=>113|246=>159|283=>214|284=>215|285=>216|286=>217|129=>257|317=>256|318=>258|319=>259|320=>260|337=>278|338=>279|n=>n,fun|9=>9|3=>3|75=>79|76=>80|4=>4|5=>5|167=>266|37=>75|0=>0|85=>267|2=>2|168=>269|53=>144|175=>292|46=>151|210=>295|127=>108|145=>308|143=>306|21=>21|171=>242|173=>245|212=>276|51=>277|20=>20|213=>278|232=>310|233=>311|80=>84|n=>n,fun|15=>5|16=>6|17=>2|18=>7|19=>8|n=>n⟩
theorem Tryz.laysC172:Go.Proofs.LaysC.n172 Tryz.prog Tryz.laysC172_ren:={
 mixed:=by kernel_rfl
 f129:=Tryz.func257.trans (congrArg some (by kernel_rfl))
 f171:=Tryz.func76.trans (congrArg some (by kernel_rfl))
 f172:=Tryz.func141.trans (congrArg some (by kernel_rfl))
 f205:=Tryz.func273.trans (congrArg some (by kernel_rfl))
 f243:=Tryz.func113.trans (congrArg some (by kernel_rfl))
 f244:=Tryz.func205.trans (congrArg some (by kernel_rfl))
 f245:=Tryz.func206.trans (congrArg some (by kernel_rfl))
 f246:=Tryz.func159.trans (congrArg some (by kernel_rfl))
 f247:=Tryz.func246.trans (congrArg some (by kernel_rfl))
 f279:=Tryz.func247.trans (congrArg some (by kernel_rfl))
 f280:=Tryz.func248.trans (congrArg some (by kernel_rfl))
 f281:=Tryz.func249.trans (congrArg some (by kernel_rfl))
 f282:=Tryz.func250.trans (congrArg some (by kernel_rfl))
 f283:=Tryz.func214.trans (congrArg some (by kernel_rfl))
 f284:=Tryz.func215.trans (congrArg some (by kernel_rfl))
 f285:=Tryz.func216.trans (congrArg some (by kernel_rfl))
 f286:=Tryz.func217.trans (congrArg some (by kernel_rfl))
 f287:=Tryz.func271.trans (congrArg some (by kernel_rfl))
 f316:=Tryz.func272.trans (congrArg some (by kernel_rfl))
 f317:=Tryz.func256.trans (congrArg some (by kernel_rfl))
 f318:=Tryz.func258.trans (congrArg some (by kernel_rfl))
 f319:=Tryz.func259.trans (congrArg some (by kernel_rfl))
 f320:=Tryz.func260.trans (congrArg some (by kernel_rfl))
 f321:=Tryz.func281.trans (congrArg some (by kernel_rfl))
 f322:=Tryz.func282.trans (congrArg some (by kernel_rfl))
 f337:=Tryz.func278.trans (congrArg some (by kernel_rfl))
 f338:=Tryz.func279.trans (congrArg some (by kernel_rfl))
 t0:=Tryz.underlying0
 a0:=Tryz.isAgg0
 z0:=Tryz.sizeOf0
 v0:=Tryz.zeroValue0
 t2:=Tryz.underlying2
 a2:=Tryz.isAgg2
 z2:=Tryz.sizeOf2
 v2:=Tryz.zeroValue2
 t3:=Tryz.underlying3
 a3:=Tryz.isAgg3
 z3:=Tryz.sizeOf3
 v3:=Tryz.zeroValue3
 t4:=Tryz.underlying4
 a4:=Tryz.isAgg4
 z4:=Tryz.sizeOf4
 v4:=Tryz.zeroValue4
 t5:=Tryz.underlying5
 a5:=Tryz.isAgg5
 z5:=Tryz.sizeOf5
 v5:=Tryz.zeroValue5
 t9:=Tryz.underlying9
 a9:=Tryz.isAgg9
 z9:=Tryz.sizeOf9
 v9:=Tryz.zeroValue9
 t20:=Tryz.underlying20
 a20:=Tryz.isAgg20
 z20:=Tryz.sizeOf20
 v20:=Tryz.zeroValue20
 t21:=Tryz.underlying21
 a21:=Tryz.isAgg21
 z21:=Tryz.sizeOf21
 v21:=Tryz.zeroValue21
 t37:=Tryz.underlying75
 a37:=Tryz.isAgg75
 z37:=Tryz.sizeOf75
 v37:=Tryz.zeroValue75
 t46:=Tryz.underlying151
 a46:=Tryz.isAgg151
 z46:=Tryz.sizeOf151
 v46:=Tryz.zeroValue151
 t51:=Tryz.underlying277
 a51:=Tryz.isAgg277
 z51:=Tryz.sizeOf277
 v51:=Tryz.zeroValue277
 t53:=Tryz.underlying144
 a53:=Tryz.isAgg144
 z53:=Tryz.sizeOf144
 v53:=Tryz.zeroValue144
 t75:=Tryz.underlying79
 a75:=Tryz.isAgg79
 z75:=Tryz.sizeOf79
 v75:=Tryz.zeroValue79
 t76:=Tryz.underlying80
 a76:=Tryz.isAgg80
 z76:=Tryz.sizeOf80
 v76:=Tryz.zeroValue80
 t85:=Tryz.underlying267
 a85:=Tryz.isAgg267
 z85:=Tryz.sizeOf267
 v85:=Tryz.zeroValue267
 t127:=Tryz.underlying108
 a127:=Tryz.isAgg108
 z127:=Tryz.sizeOf108
 v127:=Tryz.zeroValue108
 t143:=Tryz.underlying306
 a143:=Tryz.isAgg306
 z143:=Tryz.sizeOf306
 v143:=Tryz.zeroValue306
 t145:=Tryz.underlying308
 a145:=Tryz.isAgg308
 z145:=Tryz.sizeOf308
 v145:=Tryz.zeroValue308
 t167:=Tryz.underlying266
 a167:=Tryz.isAgg266
 z167:=Tryz.sizeOf266
 v167:=Tryz.zeroValue266
 t168:=Tryz.underlying269
 a168:=Tryz.isAgg269
 z168:=Tryz.sizeOf269
 v168:=Tryz.zeroValue269
 t171:=Tryz.underlying242
 a171:=Tryz.isAgg242
 z171:=Tryz.sizeOf242
 v171:=Tryz.zeroValue242
 t173:=Tryz.underlying245
 a173:=Tryz.isAgg245
 z173:=Tryz.sizeOf245
 v173:=Tryz.zeroValue245
 t175:=Tryz.underlying292
 a175:=Tryz.isAgg292
 z175:=Tryz.sizeOf292
 v175:=Tryz.zeroValue292
 t210:=Tryz.underlying295
 a210:=Tryz.isAgg295
 z210:=Tryz.sizeOf295
 v210:=Tryz.zeroValue295
 t212:=Tryz.underlying276
 a212:=Tryz.isAgg276
 z212:=Tryz.sizeOf276
 v212:=Tryz.zeroValue276
 t213:=Tryz.underlying278
 a213:=Tryz.isAgg278
 z213:=Tryz.sizeOf278
 t232:=Tryz.underlying310
 a232:=Tryz.isAgg310
 z232:=Tryz.sizeOf310
 v232:=Tryz.zeroValue310
 t233:=Tryz.underlying311
 a233:=Tryz.isAgg311
 z233:=Tryz.sizeOf311
 v233:=Tryz.zeroValue311
 g15:=by kernel_rfl
 g16:=by kernel_rfl
 g17:=by kernel_rfl
 g18:=by kernel_rfl
 g19:=by kernel_rfl
 t80:=Tryz.underlying84
 a80:=Tryz.isAgg84
 z80:=Tryz.sizeOf84
 v80:=Tryz.zeroValue84
 i0:=by kernel_rfl
 i2:=by kernel_rfl
 i3:=by kernel_rfl
 i4:=by kernel_rfl
 i5:=by kernel_rfl
 i9:=by kernel_rfl
 i20:=by kernel_rfl
 i21:=by kernel_rfl
 i37:=by kernel_rfl
 i46:=by kernel_rfl
 i51:=by kernel_rfl
 i53:=by kernel_rfl
 i75:=by kernel_rfl
 i76:=by kernel_rfl
 i80:=by kernel_rfl
 i85:=by kernel_rfl
 i127:=by kernel_rfl
 i143:=by kernel_rfl
 i145:=by kernel_rfl
 i167:=by kernel_rfl
 i168:=by kernel_rfl
 i171:=by kernel_rfl
 i173:=by kernel_rfl
 i175:=by kernel_rfl
 i210:=by kernel_rfl
 i212:=by kernel_rfl
 i232:=by kernel_rfl
 i233:=by kernel_rfl
 m15:=by kernel_rfl
 m16:=by kernel_rfl
 m17:=by kernel_rfl
 m18:=by kernel_rfl
 m19:=by kernel_rfl
 c0:=by kernel_rfl
 c2:=by kernel_rfl
 c3:=by kernel_rfl
 c4:=by kernel_rfl
 c5:=by kernel_rfl
 c9:=by kernel_rfl
 c20:=by kernel_rfl
 c21:=by kernel_rfl
 c37:=by kernel_rfl
 c46:=by kernel_rfl
 c51:=by kernel_rfl
 c53:=by kernel_rfl
 c75:=by kernel_rfl
 c76:=by kernel_rfl
 c80:=by kernel_rfl
 c85:=by kernel_rfl
 c127:=by kernel_rfl
 c143:=by kernel_rfl
 c145:=by kernel_rfl
 c167:=by kernel_rfl
 c168:=by kernel_rfl
 c171:=by kernel_rfl
 c173:=by kernel_rfl
 c175:=by kernel_rfl
 c210:=by kernel_rfl
 c212:=by kernel_rfl
 c213:=by kernel_rfl
 c232:=by kernel_rfl
 c233:=by kernel_rfl}
open Go.RowKit in
theorem Tryz.strconv_Atoi_ok(s:ByteArray)(hmax:s.size≤9223372036854775806)(v:Int)(h:Lib.atoiAll s.data.toList= .ok v)(w:World) :
    Calls Tryz.prog 141 #[.string s] w fun e w'=>e= .returned (.tuple #[.int .i64 v,.nilIface])∧(w'=w∨∃t,w'=Lib.bytesWorld w 5 t):=Any.strconv_Atoi_ok Tryz.laysC172 s hmax v h w
open Go.RowKit in
theorem Tryz.strconv_Atoi_range(s:ByteArray)(hlim:s.size≤281474976710656)(h:Lib.atoiAll s.data.toList= .range)(ev:Value)(w:World)(hv:w.cell? ⟨6,0,none⟩=some ev)(hev:ev= .nilIface∨∃te pe,ev= .iface te pe) :
    Calls Tryz.prog 141 #[.string s] w fun e w'=>∃N,e= .returned (.tuple #[.int .i64 (Lib.atoiSat s.data.toList),.iface 269 (.pointer (some ⟨N,0,none⟩))])∧w.heap.size≤N∧w'.heap[N]? =some (.cells #[.string ⟨#[65,116,111,105]⟩,.string s,ev] 295 (0,0))∧Below w.heap.size w w':=Any.strconv_Atoi_range Tryz.laysC172 s hlim h ev w hv hev
def Tryz.lays138_ren:Go.Shelf.Ren:=⟨fun|138=>118|195=>170|218=>172|143=>119|219=>173|217=>175|225=>226|224=>227|267=>228|266=>229|314=>261|n=>n,fun|9=>9|3=>3|4=>4|5=>5|0=>0|46=>151|146=>284|51=>277|n=>n,fun|1=>1|n=>n⟩
theorem Tryz.lays138:Go.Proofs.Lays.n138 Tryz.prog Tryz.lays138_ren:={
 mixed:=by kernel_rfl
 f138:=Tryz.func118.trans (congrArg some (by kernel_rfl))
 f143:=Tryz.func119.trans (congrArg some (by kernel_rfl))
 f195:=Tryz.func170.trans (congrArg some (by kernel_rfl))
 f217:=Tryz.func175.trans (congrArg some (by kernel_rfl))
 f218:=Tryz.func172.trans (congrArg some (by kernel_rfl))
 f219:=Tryz.func173.trans (congrArg some (by kernel_rfl))
 f224:=Tryz.func227.trans (congrArg some (by kernel_rfl))
 f225:=Tryz.func226.trans (congrArg some (by kernel_rfl))
 f266:=Tryz.func229.trans (congrArg some (by kernel_rfl))
 f267:=Tryz.func228.trans (congrArg some (by kernel_rfl))
 f314:=Tryz.func261.trans (congrArg some (by kernel_rfl))
 t0:=Tryz.underlying0
 a0:=Tryz.isAgg0
 z0:=Tryz.sizeOf0
 v0:=Tryz.zeroValue0
 t3:=Tryz.underlying3
 a3:=Tryz.isAgg3
 z3:=Tryz.sizeOf3
 v3:=Tryz.zeroValue3
 t4:=Tryz.underlying4
 a4:=Tryz.isAgg4
 z4:=Tryz.sizeOf4
 v4:=Tryz.zeroValue4
 t5:=Tryz.underlying5
 a5:=Tryz.isAgg5
 z5:=Tryz.sizeOf5
 v5:=Tryz.zeroValue5
 t9:=Tryz.underlying9
 a9:=Tryz.isAgg9
 z9:=Tryz.sizeOf9
 v9:=Tryz.zeroValue9
 t46:=Tryz.underlying151
 a46:=Tryz.isAgg151
 z46:=Tryz.sizeOf151
 v46:=Tryz.zeroValue151
 t51:=Tryz.underlying277
 a51:=Tryz.isAgg277
 z51:=Tryz.sizeOf277
 v51:=Tryz.zeroValue277
 t146:=Tryz.underlying284
 a146:=Tryz.isAgg284
 z146:=Tryz.sizeOf284
 v146:=Tryz.zeroValue284
 g1:=by kernel_rfl}
open Go.RowKit Go.Lib in
theorem Tryz.strings_Count_one(s:ByteArray)(c:UInt8)(w:World) :
    Calls Tryz.prog 118 #[.string s,.string ⟨#[c]⟩] w fun e w'=>e= .returned (.int .i64 (Lib.countByte s.data.toList c))∧w'=w:=Any.strings_Count_one Tryz.lays138 s c w
def Tryz.lays99_ren:Go.Shelf.Ren:=⟨fun|99=>122|206=>174|n=>n,fun|9=>9|4=>4|3=>3|n=>n,fun|n=>n⟩
theorem Tryz.lays99:Go.Proofs.Lays.n99 Tryz.prog Tryz.lays99_ren:={
 mixed:=by kernel_rfl
 f99:=Tryz.func122.trans (congrArg some (by kernel_rfl))
 f206:=Tryz.func174.trans (congrArg some (by kernel_rfl))
 t3:=Tryz.underlying3
 a3:=Tryz.isAgg3
 z3:=Tryz.sizeOf3
 v3:=Tryz.zeroValue3
 t4:=Tryz.underlying4
 a4:=Tryz.isAgg4
 z4:=Tryz.sizeOf4
 v4:=Tryz.zeroValue4
 t9:=Tryz.underlying9
 a9:=Tryz.isAgg9
 z9:=Tryz.sizeOf9
 v9:=Tryz.zeroValue9}
open Go.RowKit Go.Lib in
theorem Tryz.strings_HasPrefix(s p:ByteArray)(w:World) :
    Calls Tryz.prog 122 #[.string s,.string p] w fun e w'=>e= .returned (.bool (Lib.hasPrefix s.data.toList p.data.toList))∧w'=w:=Any.strings_HasPrefix Tryz.lays99 s p w
def Tryz.lays221_ren:Go.Shelf.Ren:=⟨fun|221=>82|268=>117|138=>118|143=>119|195=>170|197=>171|218=>172|219=>173|260=>225|217=>175|225=>226|224=>227|267=>228|266=>229|314=>261|n=>n,fun|9=>9|3=>3|31=>32|4=>4|0=>0|105=>208|21=>21|5=>5|46=>151|119=>280|139=>283|138=>282|146=>284|51=>277|n=>n,fun|1=>1|3=>3|4=>4|n=>n⟩
theorem Tryz.lays221:Go.Proofs.Lays.n221 Tryz.prog Tryz.lays221_ren:={
 mixed:=by kernel_rfl
 f138:=Tryz.func118.trans (congrArg some (by kernel_rfl))
 f143:=Tryz.func119.trans (congrArg some (by kernel_rfl))
 f195:=Tryz.func170.trans (congrArg some (by kernel_rfl))
 f197:=Tryz.func171.trans (congrArg some (by kernel_rfl))
 f217:=Tryz.func175.trans (congrArg some (by kernel_rfl))
 f218:=Tryz.func172.trans (congrArg some (by kernel_rfl))
 f219:=Tryz.func173.trans (congrArg some (by kernel_rfl))
 f221:=Tryz.func82.trans (congrArg some (by kernel_rfl))
 f224:=Tryz.func227.trans (congrArg some (by kernel_rfl))
 f225:=Tryz.func226.trans (congrArg some (by kernel_rfl))
 f260:=Tryz.func225.trans (congrArg some (by kernel_rfl))
 f266:=Tryz.func229.trans (congrArg some (by kernel_rfl))
 f267:=Tryz.func228.trans (congrArg some (by kernel_rfl))
 f268:=Tryz.func117.trans (congrArg some (by kernel_rfl))
 f314:=Tryz.func261.trans (congrArg some (by kernel_rfl))
 t0:=Tryz.underlying0
 a0:=Tryz.isAgg0
 z0:=Tryz.sizeOf0
 v0:=Tryz.zeroValue0
 t3:=Tryz.underlying3
 a3:=Tryz.isAgg3
 z3:=Tryz.sizeOf3
 v3:=Tryz.zeroValue3
 t4:=Tryz.underlying4
 a4:=Tryz.isAgg4
 z4:=Tryz.sizeOf4
 v4:=Tryz.zeroValue4
 t5:=Tryz.underlying5
 a5:=Tryz.isAgg5
 z5:=Tryz.sizeOf5
 v5:=Tryz.zeroValue5
 t9:=Tryz.underlying9
 a9:=Tryz.isAgg9
 z9:=Tryz.sizeOf9
 v9:=Tryz.zeroValue9
 t21:=Tryz.underlying21
 a21:=Tryz.isAgg21
 z21:=Tryz.sizeOf21
 v21:=Tryz.zeroValue21
 t31:=Tryz.underlying32
 a31:=Tryz.isAgg32
 z31:=Tryz.sizeOf32
 v31:=Tryz.zeroValue32
 t46:=Tryz.underlying151
 a46:=Tryz.isAgg151
 z46:=Tryz.sizeOf151
 v46:=Tryz.zeroValue151
 t51:=Tryz.underlying277
 a51:=Tryz.isAgg277
 z51:=Tryz.sizeOf277
 v51:=Tryz.zeroValue277
 t105:=Tryz.underlying208
 a105:=Tryz.isAgg208
 z105:=Tryz.sizeOf208
 v105:=Tryz.zeroValue208
 t119:=Tryz.underlying280
 a119:=Tryz.isAgg280
 z119:=Tryz.sizeOf280
 t138:=Tryz.underlying282
 a138:=Tryz.isAgg282
 z138:=Tryz.sizeOf282
 v138:=Tryz.zeroValue282
 t139:=Tryz.underlying283
 a139:=Tryz.isAgg283
 z139:=Tryz.sizeOf283
 v139:=Tryz.zeroValue283
 t146:=Tryz.underlying284
 a146:=Tryz.isAgg284
 z146:=Tryz.sizeOf284
 v146:=Tryz.zeroValue284
 g1:=by kernel_rfl
 g3:=by kernel_rfl
 g4:=by kernel_rfl}
open Go.RowKit Go.Lib in
theorem Tryz.strings_genSplit(s sep:ByteArray)(sv:Nat)(n:Int)(N:Nat)(m:Int)(w:World)(hs:s.size<4294967281)(hm:w.cell? ⟨1,0,none⟩=some (.int .i64 m))(h1:1≤sep.size)(hsv:sv≤sep.size)(hn0:n≠0)(hn63:n≤9223372036854775807)(hN:(N:Int)=min (if n<0 then(Lib.countB s sep:Int)+1 else n) ((s.size:Int)+1)) :
    Calls Tryz.prog 82 #[.string s,.string sep,.int .i64 sv,.int .i64 n] w fun e w'=>
     e= .returned (.slice (some ⟨w.heap.size,0,none⟩) (Lib.splitB sep sv (N- 1) s).length N)∧w'=w.alloc (.cells (Lib.cellsOf (Lib.splitB sep sv (N- 1) s) N) 9):=Any.strings_genSplit Tryz.lays221 (by kernel_rfl) s sep sv n N m w hs hm h1 hsv hn0 hn63 hN
def Tryz.lays146_ren:Go.Shelf.Ren:=⟨fun|146=>136|221=>82|268=>117|138=>118|143=>119|195=>170|197=>171|218=>172|219=>173|260=>225|217=>175|225=>226|224=>227|267=>228|266=>229|314=>261|n=>n,fun|9=>9|31=>32|3=>3|4=>4|0=>0|105=>208|21=>21|5=>5|46=>151|119=>280|139=>283|138=>282|146=>284|51=>277|n=>n,fun|1=>1|3=>3|4=>4|n=>n⟩
theorem Tryz.lays146:Go.Proofs.Lays.n146 Tryz.prog Tryz.lays146_ren:={
 mixed:=by kernel_rfl
 f138:=Tryz.func118.trans (congrArg some (by kernel_rfl))
 f143:=Tryz.func119.trans (congrArg some (by kernel_rfl))
 f146:=Tryz.func136.trans (congrArg some (by kernel_rfl))
 f195:=Tryz.func170.trans (congrArg some (by kernel_rfl))
 f197:=Tryz.func171.trans (congrArg some (by kernel_rfl))
 f217:=Tryz.func175.trans (congrArg some (by kernel_rfl))
 f218:=Tryz.func172.trans (congrArg some (by kernel_rfl))
 f219:=Tryz.func173.trans (congrArg some (by kernel_rfl))
 f221:=Tryz.func82.trans (congrArg some (by kernel_rfl))
 f224:=Tryz.func227.trans (congrArg some (by kernel_rfl))
 f225:=Tryz.func226.trans (congrArg some (by kernel_rfl))
 f260:=Tryz.func225.trans (congrArg some (by kernel_rfl))
 f266:=Tryz.func229.trans (congrArg some (by kernel_rfl))
 f267:=Tryz.func228.trans (congrArg some (by kernel_rfl))
 f268:=Tryz.func117.trans (congrArg some (by kernel_rfl))
 f314:=Tryz.func261.trans (congrArg some (by kernel_rfl))
 t0:=Tryz.underlying0
 a0:=Tryz.isAgg0
 z0:=Tryz.sizeOf0
 v0:=Tryz.zeroValue0
 t3:=Tryz.underlying3
 a3:=Tryz.isAgg3
 z3:=Tryz.sizeOf3
 v3:=Tryz.zeroValue3
 t4:=Tryz.underlying4
 a4:=Tryz.isAgg4
 z4:=Tryz.sizeOf4
 v4:=Tryz.zeroValue4
 t5:=Tryz.underlying5
 a5:=Tryz.isAgg5
 z5:=Tryz.sizeOf5
 v5:=Tryz.zeroValue5
 t9:=Tryz.underlying9
 a9:=Tryz.isAgg9
 z9:=Tryz.sizeOf9
 v9:=Tryz.zeroValue9
 t21:=Tryz.underlying21
 a21:=Tryz.isAgg21
 z21:=Tryz.sizeOf21
 v21:=Tryz.zeroValue21
 t31:=Tryz.underlying32
 a31:=Tryz.isAgg32
 z31:=Tryz.sizeOf32
 v31:=Tryz.zeroValue32
 t46:=Tryz.underlying151
 a46:=Tryz.isAgg151
 z46:=Tryz.sizeOf151
 v46:=Tryz.zeroValue151
 t51:=Tryz.underlying277
 a51:=Tryz.isAgg277
 z51:=Tryz.sizeOf277
 v51:=Tryz.zeroValue277
 t105:=Tryz.underlying208
 a105:=Tryz.isAgg208
 z105:=Tryz.sizeOf208
 v105:=Tryz.zeroValue208
 t119:=Tryz.underlying280
 a119:=Tryz.isAgg280
 z119:=Tryz.sizeOf280
 t138:=Tryz.underlying282
 a138:=Tryz.isAgg282
 z138:=Tryz.sizeOf282
 v138:=Tryz.zeroValue282
 t139:=Tryz.underlying283
 a139:=Tryz.isAgg283
 z139:=Tryz.sizeOf283
 v139:=Tryz.zeroValue283
 t146:=Tryz.underlying284
 a146:=Tryz.isAgg284
 z146:=Tryz.sizeOf284
 v146:=Tryz.zeroValue284
 g1:=by kernel_rfl
 g3:=by kernel_rfl
 g4:=by kernel_rfl}
open Go.RowKit Go.Lib in
theorem Tryz.strings_Split(s sep:ByteArray)(m:Int)(w:World)(hs:s.size<4294967281)(hm:w.cell? ⟨1,0,none⟩=some (.int .i64 m))(h1:1≤sep.size) :
    Calls Tryz.prog 136 #[.string s,.string sep] w fun e w'=>
     e= .returned (.slice (some ⟨w.heap.size,0,none⟩) (Lib.countB s sep+1) (Lib.countB s sep+1))∧w'=w.alloc (.cells ((Lib.splitB sep 0 (Lib.countB s sep) s).map Value.string).toArray 9):=Any.strings_Split Tryz.lays146 (by kernel_rfl) s sep m w hs hm h1
def Tryz.lays167_ren:Go.Shelf.Ren:=⟨fun|240=>75|276=>112|167=>114|166=>47|n=>n,fun|0=>0|3=>3|4=>4|5=>5|9=>9|20=>20|37=>75|70=>74|72=>77|75=>79|80=>84|127=>108|164=>148|n=>n,fun|n=>n⟩
theorem Tryz.lays167:Go.Proofs.Lays.n167 Tryz.prog Tryz.lays167_ren:={
 mixed:=by kernel_rfl
 f167:=Tryz.func114.trans (congrArg some (by kernel_rfl))
 f240:=Tryz.func75.trans (congrArg some (by kernel_rfl))
 f276:=Tryz.func112.trans (congrArg some (by kernel_rfl))
 t0:=Tryz.underlying0
 a0:=Tryz.isAgg0
 z0:=Tryz.sizeOf0
 v0:=Tryz.zeroValue0
 t4:=Tryz.underlying4
 a4:=Tryz.isAgg4
 z4:=Tryz.sizeOf4
 v4:=Tryz.zeroValue4
 t5:=Tryz.underlying5
 a5:=Tryz.isAgg5
 z5:=Tryz.sizeOf5
 v5:=Tryz.zeroValue5
 t9:=Tryz.underlying9
 a9:=Tryz.isAgg9
 z9:=Tryz.sizeOf9
 v9:=Tryz.zeroValue9
 t20:=Tryz.underlying20
 a20:=Tryz.isAgg20
 z20:=Tryz.sizeOf20
 v20:=Tryz.zeroValue20
 t37:=Tryz.underlying75
 a37:=Tryz.isAgg75
 z37:=Tryz.sizeOf75
 v37:=Tryz.zeroValue75
 t70:=Tryz.underlying74
 a70:=Tryz.isAgg74
 z70:=Tryz.sizeOf74
 v70:=Tryz.zeroValue74
 t72:=Tryz.underlying77
 a72:=Tryz.isAgg77
 z72:=Tryz.sizeOf77
 v72:=Tryz.zeroValue77
 t75:=Tryz.underlying79
 a75:=Tryz.isAgg79
 z75:=Tryz.sizeOf79
 v75:=Tryz.zeroValue79
 t164:=Tryz.underlying148
 a164:=Tryz.isAgg148
 z164:=Tryz.sizeOf148
 v164:=Tryz.zeroValue148}
def Tryz.lays166_ren:Go.Shelf.Ren:=⟨fun|240=>75|276=>112|167=>114|166=>47|n=>n,fun|0=>0|3=>3|4=>4|5=>5|9=>9|20=>20|37=>75|70=>74|72=>77|75=>79|80=>84|127=>108|164=>148|n=>n,fun|n=>n⟩
theorem Tryz.lays166:Go.Proofs.Lays.n166 Tryz.prog Tryz.lays166_ren:={
 mixed:=by kernel_rfl
 f166:=Tryz.func47.trans (congrArg some (by kernel_rfl))
 f240:=Tryz.func75.trans (congrArg some (by kernel_rfl))
 f276:=Tryz.func112.trans (congrArg some (by kernel_rfl))
 t0:=Tryz.underlying0
 a0:=Tryz.isAgg0
 z0:=Tryz.sizeOf0
 v0:=Tryz.zeroValue0
 t3:=Tryz.underlying3
 a3:=Tryz.isAgg3
 z3:=Tryz.sizeOf3
 v3:=Tryz.zeroValue3
 t4:=Tryz.underlying4
 a4:=Tryz.isAgg4
 z4:=Tryz.sizeOf4
 v4:=Tryz.zeroValue4
 t9:=Tryz.underlying9
 a9:=Tryz.isAgg9
 z9:=Tryz.sizeOf9
 v9:=Tryz.zeroValue9
 t20:=Tryz.underlying20
 a20:=Tryz.isAgg20
 z20:=Tryz.sizeOf20
 v20:=Tryz.zeroValue20
 t37:=Tryz.underlying75
 a37:=Tryz.isAgg75
 z37:=Tryz.sizeOf75
 v37:=Tryz.zeroValue75
 t70:=Tryz.underlying74
 a70:=Tryz.isAgg74
 z70:=Tryz.sizeOf74
 v70:=Tryz.zeroValue74
 t72:=Tryz.underlying77
 a72:=Tryz.isAgg77
 z72:=Tryz.sizeOf77
 v72:=Tryz.zeroValue77
 t75:=Tryz.underlying79
 a75:=Tryz.isAgg79
 z75:=Tryz.sizeOf79
 v75:=Tryz.zeroValue79
 t164:=Tryz.underlying148
 a164:=Tryz.isAgg148
 z164:=Tryz.sizeOf148
 v164:=Tryz.zeroValue148}
theorem Tryz.Builder_Extra_167:Builder.Extra Tryz.prog Tryz.lays167_ren:={
 sizeBuilder:=by kernel_rfl
 liesBuilder:=by kernel_rfl
 t5:=Tryz.underlying5
 a5:=Tryz.isAgg5
 z5:=Tryz.sizeOf5
 v5:=Tryz.zeroValue5
 infoByte:=by kernel_rfl
 cellsByte:=by kernel_rfl
 sizeByte:=by kernel_rfl
 neB5:=by decide}
open Go.RowKit in
theorem Tryz.Builder_WriteByte(B b:Nat)(bs:List Value)(c:Int)(w:World)(h:Lib.IsBuilder 77 5 B b bs w)(hlen:bs.length+1≤140737488355328)(hBw:B≤w.heap.size) :
    Calls Tryz.prog 114 #[.pointer (some ⟨b,0,none⟩),.int .u8 c] w fun e w'=>e= .returned .nilIface∧(Lib.BuilderAt 77 5 B b (.pointer (some ⟨b,0,none⟩)) (bs++ [.int .u8 c]) w'∧Below B w w'):=Any.Builder_WriteByte Tryz.lays167 Tryz.Builder_Extra_167 B b bs c w h hlen hBw
theorem Tryz.Builder_Extra_166:Builder.Extra Tryz.prog Tryz.lays166_ren:={
 sizeBuilder:=by kernel_rfl
 liesBuilder:=by kernel_rfl
 t5:=Tryz.underlying5
 a5:=Tryz.isAgg5
 z5:=Tryz.sizeOf5
 v5:=Tryz.zeroValue5
 infoByte:=by kernel_rfl
 cellsByte:=by kernel_rfl
 sizeByte:=by kernel_rfl
 neB5:=by decide}
open Go.RowKit in
theorem Tryz.Builder_WriteString(B b:Nat)(bs:List Value)(s:ByteArray)(w:World)(h:Lib.IsBuilder 77 5 B b bs w)(hlen:bs.length+s.size≤140737488355328)(hBw:B≤w.heap.size) :
    Calls Tryz.prog 47 #[.pointer (some ⟨b,0,none⟩),.string s] w fun e w'=>e= .returned (.tuple #[.int .i64 s.size,.nilIface])∧(Lib.BuilderAt 77 5 B b (.pointer (some ⟨b,0,none⟩)) (bs++Lib.strCells s) w'∧Below B w w'):=Any.Builder_WriteString Tryz.lays166 Tryz.Builder_Extra_166 B b bs s w h hlen hBw
