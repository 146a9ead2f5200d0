/- The contracts of the library at this seat: one application each. -/
import Derived.Shelf.Strings.Builder1
import Derived.Shelf.Strings.Builder2
import Derived.Shelf.Strings.OnBuilder
import Derived.Shelf.Small.Bits
import Derived.Shelf.Small.Strs
import Derived.Shelf.Strings.BuilderF
import Derived.Shelf.Strings.BuilderK
import Derived.Shelf.Strings.Builder2Cap
import Derived.Shelf.Strconv.Atoi
import Derived.Shelf.Strconv.Itoa0
import Derived.Shelf.Strconv.Itoa1
import Derived.Shelf.LaysM
import Derived.Shelf.Strconv.Itoa2
import Derived.Shelf.Strconv.Itoa3
import Derived.Shelf.Strconv.AtoiErrFast
import Derived.Shelf.Strconv.ParseIntEmpty
import Derived.Shelf.Strconv.AtoiFail
import Derived.Shelf.Strconv.Clone
import Derived.Shelf.Strconv.SyntaxError
import Derived.Shelf.LaysC
import Derived.Shelf.Strconv.ToError
import Derived.Shelf.Strconv.Lower
import Derived.Shelf.Strconv.ParseUint10
import Derived.Shelf.Strconv.ParseUint10Empty
import Derived.Shelf.Strconv.ParseUint10Any
import Derived.Shelf.Strconv.ParseInt10
import Derived.Shelf.Strconv.AtoiLong
import Derived.Shelf.Strconv.AtoiInnerAll
import Derived.Shelf.Strconv.RangeError
import Derived.Shelf.Strconv.ToErrorRange
import Derived.Shelf.Strconv.AtoiAll
import Derived.Shelf.Strconv.ErrVarAll
import Derived.Shelf.Strings.Search1
import Derived.Shelf.Strings.Search2
import Derived.Shelf.Strings.Search3
import Derived.Shelf.Strings.Count
import Derived.Shelf.Strings.Shaped
import Derived.Shelf.Strings.Prefix
import Derived.Shelf.Strings.Split
import Derived.Shelf.Unicode.DecodeSlow
import Derived.Shelf.Strings.BuilderCap
import Derived.Test.YtepbbaifpckcpaaGreatDoorProg
open Go.Lib renaming IsBuilder→zE,countB→zc
open Go.Proofs.Tryz renaming prog→zj,underlying0→zr,isAgg0→zv,sizeOf0→qA,zeroValue0→qB,underlying3→qC,isAgg3→qD,sizeOf3→qE,zeroValue3→qF,underlying75→qG,isAgg75→qH,sizeOf75→qI,zeroValue75→qJ,underlying74→qK,isAgg74→qL,sizeOf74→qM,zeroValue74→qN,underlying77→qO,isAgg77→qP,sizeOf77→qQ,zeroValue77→qR,underlying9→qS,isAgg9→qT,sizeOf9→qU,zeroValue9→qV,underlying108→qW,isAgg108→qX,sizeOf108→qY,zeroValue108→qZ,underlying5→qa,isAgg5→qb,sizeOf5→qc,zeroValue5→qd,underlying4→qe,isAgg4→qf,sizeOf4→qg,zeroValue4→qh,underlying20→qi,isAgg20→qj,sizeOf20→qm,zeroValue20→qn,underlying32→qo,isAgg32→qp,sizeOf32→qq,zeroValue32→qr,underlying79→qt,isAgg79→qu,sizeOf79→qv,zeroValue79→qw,underlying148→qx,isAgg148→qy,sizeOf148→qz,zeroValue148→xA,underlying151→xB,isAgg151→xC,sizeOf151→xD,zeroValue151→xE,underlying277→xF,isAgg277→xG,sizeOf277→xH,zeroValue277→xI,underlying144→xJ,underlying242→xK,underlying245→xL,underlying276→xM,underlying278→xN,underlying310→xO,underlying311→xP,underlying21→xQ,isAgg21→xR,sizeOf21→xS,zeroValue21→xT,underlying284→xU,isAgg284→xV,sizeOf284→xW,zeroValue284→xX,underlying208→xY,underlying280→xZ,underlying282→xa,underlying283→xb
open Go.Shelf renaming Ren→xc
open _root_ renaming congrArg→xd,ByteArray→xe
namespace Go.Proofs
open Go.Shelf
def Tryz.lays170_ren:xc:=⟨fun|170=>49|n=>n,fun|70=>74|3=>3|0=>0|72=>77|37=>75|5=>5|n=>n,fun|n=>n⟩
theorem Tryz.lays170:Go.Proofs.Lays.n170 zj Tryz.lays170_ren:={
 mixed:=by kernel_rfl
 f170:=Tryz.func49.trans (xd some (by kernel_rfl))
 t0:=zr
 a0:=zv
 z0:=qA
 v0:=qB
 t3:=qC
 a3:=qD
 z3:=qE
 v3:=qF
 t37:=qG
 a37:=qH
 z37:=qI
 v37:=qJ
 t70:=qK
 a70:=qL
 z70:=qM
 v70:=qN
 t72:=qO
 a72:=qP
 z72:=qQ
 v72:=qR}
open Go.RowKit in
theorem Tryz.Builder_Len(B b:Nat)(bs:List Value)(w:World)(h:zE 77 5 B b bs w) :
    Calls zj 49 #[.pointer (some ⟨b,0,none⟩)] w fun e w'=>e= .returned (.int .i64 bs.length)∧w'=w:=Any.Builder_Len Tryz.lays170 B b bs w h
def Tryz.lays169_ren:xc:=⟨fun|169=>50|n=>n,fun|70=>74|9=>9|0=>0|72=>77|37=>75|127=>108|3=>3|5=>5|n=>n,fun|n=>n⟩
theorem Tryz.lays169:Go.Proofs.Lays.n169 zj Tryz.lays169_ren:={
 mixed:=by kernel_rfl
 f169:=Tryz.func50.trans (xd some (by kernel_rfl))
 t0:=zr
 a0:=zv
 z0:=qA
 v0:=qB
 t3:=qC
 a3:=qD
 z3:=qE
 v3:=qF
 t9:=qS
 a9:=qT
 z9:=qU
 v9:=qV
 t37:=qG
 a37:=qH
 z37:=qI
 v37:=qJ
 t70:=qK
 a70:=qL
 z70:=qM
 v70:=qN
 t72:=qO
 a72:=qP
 z72:=qQ
 v72:=qR
 t127:=qW
 a127:=qX
 z127:=qY
 v127:=qZ}
theorem Tryz.Builder_Extra_169:Builder.Extra zj Tryz.lays169_ren:={
 sizeBuilder:=by kernel_rfl
 liesBuilder:=by kernel_rfl
 t5:=qa
 a5:=qb
 z5:=qc
 v5:=qd
 infoByte:=by kernel_rfl
 cellsByte:=by kernel_rfl
 sizeByte:=by kernel_rfl
 neB5:=by decide}
open Go.RowKit in
theorem Tryz.Builder_String_any(B b:Nat)(l:List UInt8)(w:World)(h:zE 77 5 B b (Lib.byteCells l) w)(hBw:B≤w.heap.size) :
    Calls zj 50 #[.pointer (some ⟨b,0,none⟩)] w fun e w'=>e= .returned (.string ⟨l.toArray⟩)∧Below B w w':=Any.Builder_String_any Tryz.lays169 Tryz.Builder_Extra_169 B b l w h hBw
def Tryz.lays156_ren:xc:=⟨fun|156=>79|165=>116|166=>47|169=>50|240=>75|241=>169|276=>112|277=>224|n=>n,fun|31=>32|9=>9|3=>3|4=>4|0=>0|20=>20|72=>77|76=>80|70=>74|37=>75|75=>79|127=>108|164=>148|5=>5|80=>84|n=>n,fun|n=>n⟩
theorem Tryz.lays156:Go.Proofs.Lays.n156 zj Tryz.lays156_ren:={
 mixed:=by kernel_rfl
 f156:=Tryz.func79.trans (xd some (by kernel_rfl))
 f165:=Tryz.func116.trans (xd some (by kernel_rfl))
 f166:=Tryz.func47.trans (xd some (by kernel_rfl))
 f169:=Tryz.func50.trans (xd some (by kernel_rfl))
 f240:=Tryz.func75.trans (xd some (by kernel_rfl))
 f241:=Tryz.func169.trans (xd some (by kernel_rfl))
 f276:=Tryz.func112.trans (xd some (by kernel_rfl))
 f277:=Tryz.func224.trans (xd some (by kernel_rfl))
 t0:=zr
 a0:=zv
 z0:=qA
 v0:=qB
 t3:=qC
 a3:=qD
 z3:=qE
 v3:=qF
 t4:=qe
 a4:=qf
 z4:=qg
 v4:=qh
 t9:=qS
 a9:=qT
 z9:=qU
 v9:=qV
 t20:=qi
 a20:=qj
 z20:=qm
 v20:=qn
 t31:=qo
 a31:=qp
 z31:=qq
 v31:=qr
 t37:=qG
 a37:=qH
 z37:=qI
 v37:=qJ
 t70:=qK
 a70:=qL
 z70:=qM
 v70:=qN
 t72:=qO
 a72:=qP
 z72:=qQ
 v72:=qR
 t75:=qt
 a75:=qu
 z75:=qv
 v75:=qw
 t76:=Tryz.underlying80
 a76:=Tryz.isAgg80
 z76:=Tryz.sizeOf80
 v76:=Tryz.zeroValue80
 t127:=qW
 a127:=qX
 z127:=qY
 v127:=qZ
 t164:=qx
 a164:=qy
 z164:=qz
 v164:=xA}
theorem Tryz.Builder_Extra_156:Builder.Extra zj Tryz.lays156_ren:={
 sizeBuilder:=by kernel_rfl
 liesBuilder:=by kernel_rfl
 t5:=qa
 a5:=qb
 z5:=qc
 v5:=qd
 infoByte:=by kernel_rfl
 cellsByte:=by kernel_rfl
 sizeByte:=by kernel_rfl
 neB5:=by decide}
open Go.RowKit in
theorem Tryz.strings_Join(bk o c:Nat)(xs:List xe)(sep:xe)(w:World)(hcells:∀(j:Nat) x,xs[j]? =some x→w.cell? ⟨bk,o+j,none⟩=some (.string x))(hbk:bk<w.heap.size)(hN:xs.length≤140737488355328)(hcap:xs.length≤c)(hlen:(Lib.join (xs.map (·.data.toList)) sep.data.toList).length≤140737488355328) :
    Calls zj 79 #[.slice (some ⟨bk,o,none⟩) xs.length c,.string sep] w fun e w'=>e= .returned (.string ⟨(Lib.join (xs.map (·.data.toList)) sep.data.toList).toArray⟩)∧Below w.heap.size w w':=Any.strings_Join Tryz.lays156 Tryz.Builder_Extra_156 bk o c xs sep w hcells hbk hN hcap hlen
def Tryz.lays126_ren:xc:=⟨fun|126=>270|n=>n,fun|5=>5|3=>3|9=>9|n=>n,fun|n=>n⟩
theorem Tryz.lays126:Go.Proofs.Lays.n126 zj Tryz.lays126_ren:={
 mixed:=by kernel_rfl
 f126:=Tryz.func270.trans (xd some (by kernel_rfl))
 t3:=qC
 a3:=qD
 z3:=qE
 v3:=qF
 t5:=qa
 a5:=qb
 z5:=qc
 v5:=qd
 t9:=qS
 a9:=qT
 z9:=qU
 v9:=qV}
theorem Tryz.bits_Len8(x:Int)(w:World)(h0:0≤x)(h1:x≤255) :
    Calls zj 270 #[.int .u8 x] w fun e w'=>e= .returned (.int .i64 (Lib.bitLen x.toNat))∧w'=w:=Any.bits_Len8 Tryz.lays126 x w h0 h1
def Tryz.lays137_ren:xc:=⟨fun|137=>123|217=>175|266=>229|n=>n,fun|9=>9|5=>5|3=>3|n=>n,fun|n=>n⟩
theorem Tryz.lays137:Go.Proofs.Lays.n137 zj Tryz.lays137_ren:={
 mixed:=by kernel_rfl
 f137:=Tryz.func123.trans (xd some (by kernel_rfl))
 f217:=Tryz.func175.trans (xd some (by kernel_rfl))
 f266:=Tryz.func229.trans (xd some (by kernel_rfl))
 t3:=qC
 a3:=qD
 z3:=qE
 v3:=qF
 t5:=qa
 a5:=qb
 z5:=qc
 v5:=qd
 t9:=qS
 a9:=qT
 z9:=qU
 v9:=qV}
open Go.RowKit in
theorem Tryz.strings_IndexByte(s:xe)(c:Int)(w:World) :
    Calls zj 123 #[.string s,.int .u8 c] w fun e w'=>e= .returned (.int .i64 (Lib.indexByte s.data.toList c.toNat.toUInt8))∧w'=w:=Any.strings_IndexByte Tryz.lays137 s c w
def Tryz.laysM171_ren:xc:=⟨fun|171=>76|243=>113|246=>159|283=>214|284=>215|285=>216|286=>217|129=>257|317=>256|318=>258|319=>259|320=>260|337=>278|338=>279|n=>n,fun|3=>3|9=>9|2=>2|4=>4|171=>242|0=>0|53=>144|37=>75|5=>5|173=>245|212=>276|51=>277|20=>20|213=>278|46=>151|232=>310|233=>311|n=>n,fun|17=>2|18=>7|19=>8|n=>n⟩
theorem Tryz.laysM171:Go.Proofs.LaysM.n171 zj Tryz.laysM171_ren:={
 mixed:=by kernel_rfl
 f129:=Tryz.func257.trans (xd some (by kernel_rfl))
 f171:=Tryz.func76.trans (xd some (by kernel_rfl))
 f243:=Tryz.func113.trans (xd some (by kernel_rfl))
 f246:=Tryz.func159.trans (xd some (by kernel_rfl))
 f283:=Tryz.func214.trans (xd some (by kernel_rfl))
 f284:=Tryz.func215.trans (xd some (by kernel_rfl))
 f285:=Tryz.func216.trans (xd some (by kernel_rfl))
 f286:=Tryz.func217.trans (xd some (by kernel_rfl))
 f317:=Tryz.func256.trans (xd some (by kernel_rfl))
 f318:=Tryz.func258.trans (xd some (by kernel_rfl))
 f319:=Tryz.func259.trans (xd some (by kernel_rfl))
 f320:=Tryz.func260.trans (xd some (by kernel_rfl))
 f337:=Tryz.func278.trans (xd some (by kernel_rfl))
 f338:=Tryz.func279.trans (xd some (by kernel_rfl))
 t0:=zr
 a0:=zv
 z0:=qA
 v0:=qB
 t2:=Tryz.underlying2
 a2:=Tryz.isAgg2
 z2:=Tryz.sizeOf2
 v2:=Tryz.zeroValue2
 t3:=qC
 a3:=qD
 z3:=qE
 v3:=qF
 t4:=qe
 a4:=qf
 z4:=qg
 v4:=qh
 t5:=qa
 a5:=qb
 z5:=qc
 v5:=qd
 t9:=qS
 a9:=qT
 z9:=qU
 v9:=qV
 t20:=qi
 a20:=qj
 z20:=qm
 v20:=qn
 t37:=qG
 a37:=qH
 z37:=qI
 v37:=qJ
 t46:=xB
 a46:=xC
 z46:=xD
 v46:=xE
 t51:=xF
 a51:=xG
 z51:=xH
 v51:=xI
 t53:=xJ
 a53:=Tryz.isAgg144
 z53:=Tryz.sizeOf144
 v53:=Tryz.zeroValue144
 t171:=xK
 a171:=Tryz.isAgg242
 z171:=Tryz.sizeOf242
 v171:=Tryz.zeroValue242
 t173:=xL
 a173:=Tryz.isAgg245
 z173:=Tryz.sizeOf245
 v173:=Tryz.zeroValue245
 t212:=xM
 a212:=Tryz.isAgg276
 z212:=Tryz.sizeOf276
 v212:=Tryz.zeroValue276
 t213:=xN
 a213:=Tryz.isAgg278
 z213:=Tryz.sizeOf278
 t232:=xO
 a232:=Tryz.isAgg310
 z232:=Tryz.sizeOf310
 v232:=Tryz.zeroValue310
 t233:=xP
 a233:=Tryz.isAgg311
 z233:=Tryz.sizeOf311
 v233:=Tryz.zeroValue311
 g17:=by kernel_rfl
 g18:=by kernel_rfl
 g19:=by kernel_rfl
 i0:=by kernel_rfl
 i2:=by kernel_rfl
 i3:=by kernel_rfl
 i4:=by kernel_rfl
 i5:=by kernel_rfl
 i9:=by kernel_rfl
 i20:=by kernel_rfl
 i37:=by kernel_rfl
 i46:=by kernel_rfl
 i51:=by kernel_rfl
 i53:=by kernel_rfl
 i171:=by kernel_rfl
 i173:=by kernel_rfl
 i212:=by kernel_rfl
 i232:=by kernel_rfl
 i233:=by kernel_rfl
 m17:=by kernel_rfl
 m18:=by kernel_rfl
 m19:=by kernel_rfl}
open Go.RowKit Go.Sort Go.Lib in
theorem Tryz.strconv_Itoa(n:Int)(h0:-9223372036854775808≤n)(h1:n≤9223372036854775807)(w:World)(htab:Lib.TabIs zj w "internal/strconv.uint64pow10" .u64 Lib.pow10Tab) :
    Calls zj 76 #[.int .i64 n] w fun e w'=>e= .returned (.string ⟨(Lib.itoa n).toArray⟩)∧∃k os,w'=grow (w.drewN k) os:=Any.strconv_Itoa Tryz.laysM171 n h0 h1 w htab
def Tryz.laysC172_ren:xc:=⟨fun|172=>141|244=>205|245=>206|247=>246|279=>247|280=>248|281=>249|282=>250|287=>271|316=>272|171=>76|205=>273|321=>281|322=>282|243=>113|246=>159|283=>214|284=>215|285=>216|286=>217|129=>257|317=>256|318=>258|319=>259|320=>260|337=>278|338=>279|n=>n,fun|9=>9|3=>3|75=>79|76=>80|4=>4|5=>5|167=>266|37=>75|0=>0|85=>267|2=>2|168=>269|53=>144|175=>292|46=>151|210=>295|127=>108|145=>308|143=>306|21=>21|171=>242|173=>245|212=>276|51=>277|20=>20|213=>278|232=>310|233=>311|80=>84|n=>n,fun|15=>5|16=>6|17=>2|18=>7|19=>8|n=>n⟩
theorem Tryz.laysC172:Go.Proofs.LaysC.n172 zj Tryz.laysC172_ren:={
 mixed:=by kernel_rfl
 f129:=Tryz.func257.trans (xd some (by kernel_rfl))
 f171:=Tryz.func76.trans (xd some (by kernel_rfl))
 f172:=Tryz.func141.trans (xd some (by kernel_rfl))
 f205:=Tryz.func273.trans (xd some (by kernel_rfl))
 f243:=Tryz.func113.trans (xd some (by kernel_rfl))
 f244:=Tryz.func205.trans (xd some (by kernel_rfl))
 f245:=Tryz.func206.trans (xd some (by kernel_rfl))
 f246:=Tryz.func159.trans (xd some (by kernel_rfl))
 f247:=Tryz.func246.trans (xd some (by kernel_rfl))
 f279:=Tryz.func247.trans (xd some (by kernel_rfl))
 f280:=Tryz.func248.trans (xd some (by kernel_rfl))
 f281:=Tryz.func249.trans (xd some (by kernel_rfl))
 f282:=Tryz.func250.trans (xd some (by kernel_rfl))
 f283:=Tryz.func214.trans (xd some (by kernel_rfl))
 f284:=Tryz.func215.trans (xd some (by kernel_rfl))
 f285:=Tryz.func216.trans (xd some (by kernel_rfl))
 f286:=Tryz.func217.trans (xd some (by kernel_rfl))
 f287:=Tryz.func271.trans (xd some (by kernel_rfl))
 f316:=Tryz.func272.trans (xd some (by kernel_rfl))
 f317:=Tryz.func256.trans (xd some (by kernel_rfl))
 f318:=Tryz.func258.trans (xd some (by kernel_rfl))
 f319:=Tryz.func259.trans (xd some (by kernel_rfl))
 f320:=Tryz.func260.trans (xd some (by kernel_rfl))
 f321:=Tryz.func281.trans (xd some (by kernel_rfl))
 f322:=Tryz.func282.trans (xd some (by kernel_rfl))
 f337:=Tryz.func278.trans (xd some (by kernel_rfl))
 f338:=Tryz.func279.trans (xd some (by kernel_rfl))
 t0:=zr
 a0:=zv
 z0:=qA
 v0:=qB
 t2:=Tryz.underlying2
 a2:=Tryz.isAgg2
 z2:=Tryz.sizeOf2
 v2:=Tryz.zeroValue2
 t3:=qC
 a3:=qD
 z3:=qE
 v3:=qF
 t4:=qe
 a4:=qf
 z4:=qg
 v4:=qh
 t5:=qa
 a5:=qb
 z5:=qc
 v5:=qd
 t9:=qS
 a9:=qT
 z9:=qU
 v9:=qV
 t20:=qi
 a20:=qj
 z20:=qm
 v20:=qn
 t21:=xQ
 a21:=xR
 z21:=xS
 v21:=xT
 t37:=qG
 a37:=qH
 z37:=qI
 v37:=qJ
 t46:=xB
 a46:=xC
 z46:=xD
 v46:=xE
 t51:=xF
 a51:=xG
 z51:=xH
 v51:=xI
 t53:=xJ
 a53:=Tryz.isAgg144
 z53:=Tryz.sizeOf144
 v53:=Tryz.zeroValue144
 t75:=qt
 a75:=qu
 z75:=qv
 v75:=qw
 t76:=Tryz.underlying80
 a76:=Tryz.isAgg80
 z76:=Tryz.sizeOf80
 v76:=Tryz.zeroValue80
 t85:=Tryz.underlying267
 a85:=Tryz.isAgg267
 z85:=Tryz.sizeOf267
 v85:=Tryz.zeroValue267
 t127:=qW
 a127:=qX
 z127:=qY
 v127:=qZ
 t143:=Tryz.underlying306
 a143:=Tryz.isAgg306
 z143:=Tryz.sizeOf306
 v143:=Tryz.zeroValue306
 t145:=Tryz.underlying308
 a145:=Tryz.isAgg308
 z145:=Tryz.sizeOf308
 v145:=Tryz.zeroValue308
 t167:=Tryz.underlying266
 a167:=Tryz.isAgg266
 z167:=Tryz.sizeOf266
 v167:=Tryz.zeroValue266
 t168:=Tryz.underlying269
 a168:=Tryz.isAgg269
 z168:=Tryz.sizeOf269
 v168:=Tryz.zeroValue269
 t171:=xK
 a171:=Tryz.isAgg242
 z171:=Tryz.sizeOf242
 v171:=Tryz.zeroValue242
 t173:=xL
 a173:=Tryz.isAgg245
 z173:=Tryz.sizeOf245
 v173:=Tryz.zeroValue245
 t175:=Tryz.underlying292
 a175:=Tryz.isAgg292
 z175:=Tryz.sizeOf292
 v175:=Tryz.zeroValue292
 t210:=Tryz.underlying295
 a210:=Tryz.isAgg295
 z210:=Tryz.sizeOf295
 v210:=Tryz.zeroValue295
 t212:=xM
 a212:=Tryz.isAgg276
 z212:=Tryz.sizeOf276
 v212:=Tryz.zeroValue276
 t213:=xN
 a213:=Tryz.isAgg278
 z213:=Tryz.sizeOf278
 t232:=xO
 a232:=Tryz.isAgg310
 z232:=Tryz.sizeOf310
 v232:=Tryz.zeroValue310
 t233:=xP
 a233:=Tryz.isAgg311
 z233:=Tryz.sizeOf311
 v233:=Tryz.zeroValue311
 g15:=by kernel_rfl
 g16:=by kernel_rfl
 g17:=by kernel_rfl
 g18:=by kernel_rfl
 g19:=by kernel_rfl
 t80:=Tryz.underlying84
 a80:=Tryz.isAgg84
 z80:=Tryz.sizeOf84
 v80:=Tryz.zeroValue84
 i0:=by kernel_rfl
 i2:=by kernel_rfl
 i3:=by kernel_rfl
 i4:=by kernel_rfl
 i5:=by kernel_rfl
 i9:=by kernel_rfl
 i20:=by kernel_rfl
 i21:=by kernel_rfl
 i37:=by kernel_rfl
 i46:=by kernel_rfl
 i51:=by kernel_rfl
 i53:=by kernel_rfl
 i75:=by kernel_rfl
 i76:=by kernel_rfl
 i80:=by kernel_rfl
 i85:=by kernel_rfl
 i127:=by kernel_rfl
 i143:=by kernel_rfl
 i145:=by kernel_rfl
 i167:=by kernel_rfl
 i168:=by kernel_rfl
 i171:=by kernel_rfl
 i173:=by kernel_rfl
 i175:=by kernel_rfl
 i210:=by kernel_rfl
 i212:=by kernel_rfl
 i232:=by kernel_rfl
 i233:=by kernel_rfl
 m15:=by kernel_rfl
 m16:=by kernel_rfl
 m17:=by kernel_rfl
 m18:=by kernel_rfl
 m19:=by kernel_rfl
 c0:=by kernel_rfl
 c2:=by kernel_rfl
 c3:=by kernel_rfl
 c4:=by kernel_rfl
 c5:=by kernel_rfl
 c9:=by kernel_rfl
 c20:=by kernel_rfl
 c21:=by kernel_rfl
 c37:=by kernel_rfl
 c46:=by kernel_rfl
 c51:=by kernel_rfl
 c53:=by kernel_rfl
 c75:=by kernel_rfl
 c76:=by kernel_rfl
 c80:=by kernel_rfl
 c85:=by kernel_rfl
 c127:=by kernel_rfl
 c143:=by kernel_rfl
 c145:=by kernel_rfl
 c167:=by kernel_rfl
 c168:=by kernel_rfl
 c171:=by kernel_rfl
 c173:=by kernel_rfl
 c175:=by kernel_rfl
 c210:=by kernel_rfl
 c212:=by kernel_rfl
 c213:=by kernel_rfl
 c232:=by kernel_rfl
 c233:=by kernel_rfl}
open Go.RowKit in
theorem Tryz.strconv_Atoi_ok(s:xe)(hmax:s.size≤9223372036854775806)(v:Int)(h:Lib.atoiAll s.data.toList= .ok v)(w:World) :
    Calls zj 141 #[.string s] w fun e w'=>e= .returned (.tuple #[.int .i64 v,.nilIface])∧(w'=w∨∃t,w'=Lib.bytesWorld w 5 t):=Any.strconv_Atoi_ok Tryz.laysC172 s hmax v h w
open Go.RowKit in
theorem Tryz.strconv_Atoi_range(s:xe)(hlim:s.size≤281474976710656)(h:Lib.atoiAll s.data.toList= .range)(ev:Value)(w:World)(hv:w.cell? ⟨6,0,none⟩=some ev)(hev:ev= .nilIface∨∃te pe,ev= .iface te pe) :
    Calls zj 141 #[.string s] w fun e w'=>∃N,e= .returned (.tuple #[.int .i64 (Lib.atoiSat s.data.toList),.iface 269 (.pointer (some ⟨N,0,none⟩))])∧w.heap.size≤N∧w'.heap[N]? =some (.cells #[.string ⟨#[65,116,111,105]⟩,.string s,ev] 295 (0,0))∧Below w.heap.size w w':=Any.strconv_Atoi_range Tryz.laysC172 s hlim h ev w hv hev
def Tryz.lays138_ren:xc:=⟨fun|138=>118|195=>170|218=>172|143=>119|219=>173|217=>175|225=>226|224=>227|267=>228|266=>229|314=>261|n=>n,fun|9=>9|3=>3|4=>4|5=>5|0=>0|46=>151|146=>284|51=>277|n=>n,fun|1=>1|n=>n⟩
theorem Tryz.lays138:Go.Proofs.Lays.n138 zj Tryz.lays138_ren:={
 mixed:=by kernel_rfl
 f138:=Tryz.func118.trans (xd some (by kernel_rfl))
 f143:=Tryz.func119.trans (xd some (by kernel_rfl))
 f195:=Tryz.func170.trans (xd some (by kernel_rfl))
 f217:=Tryz.func175.trans (xd some (by kernel_rfl))
 f218:=Tryz.func172.trans (xd some (by kernel_rfl))
 f219:=Tryz.func173.trans (xd some (by kernel_rfl))
 f224:=Tryz.func227.trans (xd some (by kernel_rfl))
 f225:=Tryz.func226.trans (xd some (by kernel_rfl))
 f266:=Tryz.func229.trans (xd some (by kernel_rfl))
 f267:=Tryz.func228.trans (xd some (by kernel_rfl))
 f314:=Tryz.func261.trans (xd some (by kernel_rfl))
 t0:=zr
 a0:=zv
 z0:=qA
 v0:=qB
 t3:=qC
 a3:=qD
 z3:=qE
 v3:=qF
 t4:=qe
 a4:=qf
 z4:=qg
 v4:=qh
 t5:=qa
 a5:=qb
 z5:=qc
 v5:=qd
 t9:=qS
 a9:=qT
 z9:=qU
 v9:=qV
 t46:=xB
 a46:=xC
 z46:=xD
 v46:=xE
 t51:=xF
 a51:=xG
 z51:=xH
 v51:=xI
 t146:=xU
 a146:=xV
 z146:=xW
 v146:=xX
 g1:=by kernel_rfl}
open Go.RowKit Go.Lib in
theorem Tryz.strings_Count_one(s:xe)(c:UInt8)(w:World) :
    Calls zj 118 #[.string s,.string ⟨#[c]⟩] w fun e w'=>e= .returned (.int .i64 (Lib.countByte s.data.toList c))∧w'=w:=Any.strings_Count_one Tryz.lays138 s c w
def Tryz.lays99_ren:xc:=⟨fun|99=>122|206=>174|n=>n,fun|9=>9|4=>4|3=>3|n=>n,fun|n=>n⟩
theorem Tryz.lays99:Go.Proofs.Lays.n99 zj Tryz.lays99_ren:={
 mixed:=by kernel_rfl
 f99:=Tryz.func122.trans (xd some (by kernel_rfl))
 f206:=Tryz.func174.trans (xd some (by kernel_rfl))
 t3:=qC
 a3:=qD
 z3:=qE
 v3:=qF
 t4:=qe
 a4:=qf
 z4:=qg
 v4:=qh
 t9:=qS
 a9:=qT
 z9:=qU
 v9:=qV}
open Go.RowKit Go.Lib in
theorem Tryz.strings_HasPrefix(s p:xe)(w:World) :
    Calls zj 122 #[.string s,.string p] w fun e w'=>e= .returned (.bool (Lib.hasPrefix s.data.toList p.data.toList))∧w'=w:=Any.strings_HasPrefix Tryz.lays99 s p w
def Tryz.lays221_ren:xc:=⟨fun|221=>82|268=>117|138=>118|143=>119|195=>170|197=>171|218=>172|219=>173|260=>225|217=>175|225=>226|224=>227|267=>228|266=>229|314=>261|n=>n,fun|9=>9|3=>3|31=>32|4=>4|0=>0|105=>208|21=>21|5=>5|46=>151|119=>280|139=>283|138=>282|146=>284|51=>277|n=>n,fun|1=>1|3=>3|4=>4|n=>n⟩
theorem Tryz.lays221:Go.Proofs.Lays.n221 zj Tryz.lays221_ren:={
 mixed:=by kernel_rfl
 f138:=Tryz.func118.trans (xd some (by kernel_rfl))
 f143:=Tryz.func119.trans (xd some (by kernel_rfl))
 f195:=Tryz.func170.trans (xd some (by kernel_rfl))
 f197:=Tryz.func171.trans (xd some (by kernel_rfl))
 f217:=Tryz.func175.trans (xd some (by kernel_rfl))
 f218:=Tryz.func172.trans (xd some (by kernel_rfl))
 f219:=Tryz.func173.trans (xd some (by kernel_rfl))
 f221:=Tryz.func82.trans (xd some (by kernel_rfl))
 f224:=Tryz.func227.trans (xd some (by kernel_rfl))
 f225:=Tryz.func226.trans (xd some (by kernel_rfl))
 f260:=Tryz.func225.trans (xd some (by kernel_rfl))
 f266:=Tryz.func229.trans (xd some (by kernel_rfl))
 f267:=Tryz.func228.trans (xd some (by kernel_rfl))
 f268:=Tryz.func117.trans (xd some (by kernel_rfl))
 f314:=Tryz.func261.trans (xd some (by kernel_rfl))
 t0:=zr
 a0:=zv
 z0:=qA
 v0:=qB
 t3:=qC
 a3:=qD
 z3:=qE
 v3:=qF
 t4:=qe
 a4:=qf
 z4:=qg
 v4:=qh
 t5:=qa
 a5:=qb
 z5:=qc
 v5:=qd
 t9:=qS
 a9:=qT
 z9:=qU
 v9:=qV
 t21:=xQ
 a21:=xR
 z21:=xS
 v21:=xT
 t31:=qo
 a31:=qp
 z31:=qq
 v31:=qr
 t46:=xB
 a46:=xC
 z46:=xD
 v46:=xE
 t51:=xF
 a51:=xG
 z51:=xH
 v51:=xI
 t105:=xY
 a105:=Tryz.isAgg208
 z105:=Tryz.sizeOf208
 v105:=Tryz.zeroValue208
 t119:=xZ
 a119:=Tryz.isAgg280
 z119:=Tryz.sizeOf280
 t138:=xa
 a138:=Tryz.isAgg282
 z138:=Tryz.sizeOf282
 v138:=Tryz.zeroValue282
 t139:=xb
 a139:=Tryz.isAgg283
 z139:=Tryz.sizeOf283
 v139:=Tryz.zeroValue283
 t146:=xU
 a146:=xV
 z146:=xW
 v146:=xX
 g1:=by kernel_rfl
 g3:=by kernel_rfl
 g4:=by kernel_rfl}
open Go.RowKit Go.Lib in
theorem Tryz.strings_genSplit(s sep:xe)(sv:Nat)(n:Int)(N:Nat)(m:Int)(w:World)(hs:s.size<4294967281)(hm:w.cell? ⟨1,0,none⟩=some (.int .i64 m))(h1:1≤sep.size)(hsv:sv≤sep.size)(hn0:n≠0)(hn63:n≤9223372036854775807)(hN:(N:Int)=min (if n<0 then(zc s sep:Int)+1 else n) ((s.size:Int)+1)) :
    Calls zj 82 #[.string s,.string sep,.int .i64 sv,.int .i64 n] w fun e w'=>
     e= .returned (.slice (some ⟨w.heap.size,0,none⟩) (Lib.splitB sep sv (N- 1) s).length N)∧w'=w.alloc (.cells (Lib.cellsOf (Lib.splitB sep sv (N- 1) s) N) 9):=Any.strings_genSplit Tryz.lays221 (by kernel_rfl) s sep sv n N m w hs hm h1 hsv hn0 hn63 hN
def Tryz.lays146_ren:xc:=⟨fun|146=>136|221=>82|268=>117|138=>118|143=>119|195=>170|197=>171|218=>172|219=>173|260=>225|217=>175|225=>226|224=>227|267=>228|266=>229|314=>261|n=>n,fun|9=>9|31=>32|3=>3|4=>4|0=>0|105=>208|21=>21|5=>5|46=>151|119=>280|139=>283|138=>282|146=>284|51=>277|n=>n,fun|1=>1|3=>3|4=>4|n=>n⟩
theorem Tryz.lays146:Go.Proofs.Lays.n146 zj Tryz.lays146_ren:={
 mixed:=by kernel_rfl
 f138:=Tryz.func118.trans (xd some (by kernel_rfl))
 f143:=Tryz.func119.trans (xd some (by kernel_rfl))
 f146:=Tryz.func136.trans (xd some (by kernel_rfl))
 f195:=Tryz.func170.trans (xd some (by kernel_rfl))
 f197:=Tryz.func171.trans (xd some (by kernel_rfl))
 f217:=Tryz.func175.trans (xd some (by kernel_rfl))
 f218:=Tryz.func172.trans (xd some (by kernel_rfl))
 f219:=Tryz.func173.trans (xd some (by kernel_rfl))
 f221:=Tryz.func82.trans (xd some (by kernel_rfl))
 f224:=Tryz.func227.trans (xd some (by kernel_rfl))
 f225:=Tryz.func226.trans (xd some (by kernel_rfl))
 f260:=Tryz.func225.trans (xd some (by kernel_rfl))
 f266:=Tryz.func229.trans (xd some (by kernel_rfl))
 f267:=Tryz.func228.trans (xd some (by kernel_rfl))
 f268:=Tryz.func117.trans (xd some (by kernel_rfl))
 f314:=Tryz.func261.trans (xd some (by kernel_rfl))
 t0:=zr
 a0:=zv
 z0:=qA
 v0:=qB
 t3:=qC
 a3:=qD
 z3:=qE
 v3:=qF
 t4:=qe
 a4:=qf
 z4:=qg
 v4:=qh
 t5:=qa
 a5:=qb
 z5:=qc
 v5:=qd
 t9:=qS
 a9:=qT
 z9:=qU
 v9:=qV
 t21:=xQ
 a21:=xR
 z21:=xS
 v21:=xT
 t31:=qo
 a31:=qp
 z31:=qq
 v31:=qr
 t46:=xB
 a46:=xC
 z46:=xD
 v46:=xE
 t51:=xF
 a51:=xG
 z51:=xH
 v51:=xI
 t105:=xY
 a105:=Tryz.isAgg208
 z105:=Tryz.sizeOf208
 v105:=Tryz.zeroValue208
 t119:=xZ
 a119:=Tryz.isAgg280
 z119:=Tryz.sizeOf280
 t138:=xa
 a138:=Tryz.isAgg282
 z138:=Tryz.sizeOf282
 v138:=Tryz.zeroValue282
 t139:=xb
 a139:=Tryz.isAgg283
 z139:=Tryz.sizeOf283
 v139:=Tryz.zeroValue283
 t146:=xU
 a146:=xV
 z146:=xW
 v146:=xX
 g1:=by kernel_rfl
 g3:=by kernel_rfl
 g4:=by kernel_rfl}
open Go.RowKit Go.Lib in
theorem Tryz.strings_Split(s sep:xe)(m:Int)(w:World)(hs:s.size<4294967281)(hm:w.cell? ⟨1,0,none⟩=some (.int .i64 m))(h1:1≤sep.size) :
    Calls zj 136 #[.string s,.string sep] w fun e w'=>
     e= .returned (.slice (some ⟨w.heap.size,0,none⟩) (zc s sep+1) (zc s sep+1))∧w'=w.alloc (.cells ((Lib.splitB sep 0 (zc s sep) s).map Value.string).toArray 9):=Any.strings_Split Tryz.lays146 (by kernel_rfl) s sep m w hs hm h1
def Tryz.lays167_ren:xc:=⟨fun|240=>75|276=>112|167=>114|166=>47|n=>n,fun|0=>0|3=>3|4=>4|5=>5|9=>9|20=>20|37=>75|70=>74|72=>77|75=>79|80=>84|127=>108|164=>148|n=>n,fun|n=>n⟩
theorem Tryz.lays167:Go.Proofs.Lays.n167 zj Tryz.lays167_ren:={
 mixed:=by kernel_rfl
 f167:=Tryz.func114.trans (xd some (by kernel_rfl))
 f240:=Tryz.func75.trans (xd some (by kernel_rfl))
 f276:=Tryz.func112.trans (xd some (by kernel_rfl))
 t0:=zr
 a0:=zv
 z0:=qA
 v0:=qB
 t4:=qe
 a4:=qf
 z4:=qg
 v4:=qh
 t5:=qa
 a5:=qb
 z5:=qc
 v5:=qd
 t9:=qS
 a9:=qT
 z9:=qU
 v9:=qV
 t20:=qi
 a20:=qj
 z20:=qm
 v20:=qn
 t37:=qG
 a37:=qH
 z37:=qI
 v37:=qJ
 t70:=qK
 a70:=qL
 z70:=qM
 v70:=qN
 t72:=qO
 a72:=qP
 z72:=qQ
 v72:=qR
 t75:=qt
 a75:=qu
 z75:=qv
 v75:=qw
 t164:=qx
 a164:=qy
 z164:=qz
 v164:=xA}
def Tryz.lays166_ren:xc:=⟨fun|240=>75|276=>112|167=>114|166=>47|n=>n,fun|0=>0|3=>3|4=>4|5=>5|9=>9|20=>20|37=>75|70=>74|72=>77|75=>79|80=>84|127=>108|164=>148|n=>n,fun|n=>n⟩
theorem Tryz.lays166:Go.Proofs.Lays.n166 zj Tryz.lays166_ren:={
 mixed:=by kernel_rfl
 f166:=Tryz.func47.trans (xd some (by kernel_rfl))
 f240:=Tryz.func75.trans (xd some (by kernel_rfl))
 f276:=Tryz.func112.trans (xd some (by kernel_rfl))
 t0:=zr
 a0:=zv
 z0:=qA
 v0:=qB
 t3:=qC
 a3:=qD
 z3:=qE
 v3:=qF
 t4:=qe
 a4:=qf
 z4:=qg
 v4:=qh
 t9:=qS
 a9:=qT
 z9:=qU
 v9:=qV
 t20:=qi
 a20:=qj
 z20:=qm
 v20:=qn
 t37:=qG
 a37:=qH
 z37:=qI
 v37:=qJ
 t70:=qK
 a70:=qL
 z70:=qM
 v70:=qN
 t72:=qO
 a72:=qP
 z72:=qQ
 v72:=qR
 t75:=qt
 a75:=qu
 z75:=qv
 v75:=qw
 t164:=qx
 a164:=qy
 z164:=qz
 v164:=xA}
theorem Tryz.Builder_Extra_167:Builder.Extra zj Tryz.lays167_ren:={
 sizeBuilder:=by kernel_rfl
 liesBuilder:=by kernel_rfl
 t5:=qa
 a5:=qb
 z5:=qc
 v5:=qd
 infoByte:=by kernel_rfl
 cellsByte:=by kernel_rfl
 sizeByte:=by kernel_rfl
 neB5:=by decide}
open Go.RowKit in
theorem Tryz.Builder_WriteByte(B b:Nat)(bs:List Value)(c:Int)(w:World)(h:zE 77 5 B b bs w)(hlen:bs.length+1≤140737488355328)(hBw:B≤w.heap.size) :
    Calls zj 114 #[.pointer (some ⟨b,0,none⟩),.int .u8 c] w fun e w'=>e= .returned .nilIface∧(Lib.BuilderAt 77 5 B b (.pointer (some ⟨b,0,none⟩)) (bs++ [.int .u8 c]) w'∧Below B w w'):=Any.Builder_WriteByte Tryz.lays167 Tryz.Builder_Extra_167 B b bs c w h hlen hBw
theorem Tryz.Builder_Extra_166:Builder.Extra zj Tryz.lays166_ren:={
 sizeBuilder:=by kernel_rfl
 liesBuilder:=by kernel_rfl
 t5:=qa
 a5:=qb
 z5:=qc
 v5:=qd
 infoByte:=by kernel_rfl
 cellsByte:=by kernel_rfl
 sizeByte:=by kernel_rfl
 neB5:=by decide}
open Go.RowKit in
theorem Tryz.Builder_WriteString(B b:Nat)(bs:List Value)(s:xe)(w:World)(h:zE 77 5 B b bs w)(hlen:bs.length+s.size≤140737488355328)(hBw:B≤w.heap.size) :
    Calls zj 47 #[.pointer (some ⟨b,0,none⟩),.string s] w fun e w'=>e= .returned (.tuple #[.int .i64 s.size,.nilIface])∧(Lib.BuilderAt 77 5 B b (.pointer (some ⟨b,0,none⟩)) (bs++Lib.strCells s) w'∧Below B w w'):=Any.Builder_WriteString Tryz.lays166 Tryz.Builder_Extra_166 B b bs s w h hlen hBw
