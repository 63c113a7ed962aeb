/- Part of the proof of TopBoundsUptoCardSaid. Conditions: none beyond the statement. -/
import Derived.Shelf.Strings.OnBuilder
import Derived.Shelf.Strings.Trim
import Derived.Shelf.Small.Wraps
import Derived.Shelf.Utf8.RuneCount
import Derived.Shelf.Strconv.Itoa3
import Derived.Shelf.Strings.Shaped
import Derived.Shelf.Strings.LastIndex
import Derived.Shelf.Strconv.AppendInt10
import Derived.Shelf.Strings.SplitShaped
import Derived.Shelf.Strings.IndexAnyAll
import Derived.Shelf.Strings.Explode
import Derived.Shelf.Unicode.DecodeLast
import Derived.Shelf.Strings.BuilderCap
import Derived.Shelf.Slices.Turned
import Derived.Shelf.Slices.Clone
import Derived.Shelf.Slices.Cells
import Derived.Shelf.Bytes.SlIndexAt
import Derived.Shelf.Slices.Empties2
import Derived.Shelf.Bytes.SlSearch1
import Derived.Shelf.SlicesE.Reverse
import Derived.Shelf.SlicesE.Clone
import Derived.Shelf.Bytes.SlEqualAll
import Derived.Test.YtmgmclkplepapaaGreatDoorProg
set_option linter.all false
set_option maxRecDepth 100000
set_option maxHeartbeats 64000000
namespace Go.Proofs
open Go.Shelf
theorem dK {α:Type} {a b:α} {x:Option α} (h:x=some a) (k:a=b):x=some b:=k▸h
noncomputable def gN (k:Nat):String:=match Tryz.prog.globals[k]? with|some g=>g.name|none=> ""
def Tryz.FI:Go.Shelf.Ren:=⟨fun|169=>28|n=>n,fun|70=>63|9=>9|0=>0|72=>65|37=>25|127=>99|3=>3|5=>5|n=>n,fun|n=>n⟩
theorem Tryz.acB:Go.Proofs.Lays.n169 Tryz.prog Tryz.FI:={
 mixed:=by kernel_rfl
 f169:=(dK Tryz.func28 (by kernel_rfl))
 t0:=Tryz.underlying0
 a0:=Tryz.isAgg0
 z0:=Tryz.sizeOf0
 v0:=Tryz.zeroValue0
 t3:=Tryz.underlying3
 a3:=Tryz.isAgg3
 z3:=Tryz.sizeOf3
 v3:=Tryz.zeroValue3
 t9:=Tryz.underlying9
 a9:=Tryz.isAgg9
 z9:=Tryz.sizeOf9
 v9:=Tryz.zeroValue9
 t37:=Tryz.underlying25
 a37:=Tryz.isAgg25
 z37:=Tryz.sizeOf25
 v37:=Tryz.zeroValue25
 t70:=Tryz.underlying63
 a70:=Tryz.isAgg63
 z70:=Tryz.sizeOf63
 v70:=Tryz.zeroValue63
 t72:=Tryz.underlying65
 a72:=Tryz.isAgg65
 z72:=Tryz.sizeOf65
 v72:=Tryz.zeroValue65
 t127:=Tryz.underlying99
 a127:=Tryz.isAgg99
 z127:=Tryz.sizeOf99
 v127:=Tryz.zeroValue99}
theorem Tryz.DE:Builder.Extra Tryz.prog Tryz.FI:={
 sizeBuilder:=by kernel_rfl
 liesBuilder:=by kernel_rfl
 t5:=Tryz.underlying5
 a5:=Tryz.isAgg5
 z5:=Tryz.sizeOf5
 v5:=Tryz.zeroValue5
 infoByte:=by kernel_rfl
 cellsByte:=by kernel_rfl
 sizeByte:=by kernel_rfl
 neB5:=by decide}
open Go.RowKit in
theorem Tryz.Builder_String_any (B b:Nat) (l:List UInt8) (w:World) (h:Lib.IsBuilder 65 5 B b (Lib.byteCells l) w) (Ie:B≤w.heap.size):
 Calls Tryz.prog 28 #[.pointer (some ⟨b,0,none⟩)] w fun e w'=>e= .returned (.string ⟨l.toArray⟩)∧Below B w w':=Any.Builder_String_any Tryz.acB Tryz.DE B b l w h Ie
def Tryz.FJ:Go.Shelf.Ren:=⟨fun|156=>220|165=>234|166=>22|169=>28|240=>49|241=>246|276=>86|277=>253|n=>n,fun|31=>22|9=>9|3=>3|4=>4|0=>0|20=>20|72=>65|76=>68|70=>63|37=>25|75=>67|127=>99|164=>127|5=>5|80=>74|n=>n,fun|n=>n⟩
theorem Tryz.Un:Go.Proofs.Lays.n156 Tryz.prog Tryz.FJ:={
 mixed:=by kernel_rfl
 f156:=(dK Tryz.func220 (by kernel_rfl))
 f165:=(dK Tryz.func234 (by kernel_rfl))
 f166:=(dK Tryz.func22 (by kernel_rfl))
 f169:=(dK Tryz.func28 (by kernel_rfl))
 f240:=(dK Tryz.func49 (by kernel_rfl))
 f241:=(dK Tryz.func246 (by kernel_rfl))
 f276:=(dK Tryz.func86 (by kernel_rfl))
 f277:=(dK Tryz.func253 (by kernel_rfl))
 t0:=Tryz.underlying0
 a0:=Tryz.isAgg0
 z0:=Tryz.sizeOf0
 v0:=Tryz.zeroValue0
 t3:=Tryz.underlying3
 a3:=Tryz.isAgg3
 z3:=Tryz.sizeOf3
 v3:=Tryz.zeroValue3
 t4:=Tryz.underlying4
 a4:=Tryz.isAgg4
 z4:=Tryz.sizeOf4
 v4:=Tryz.zeroValue4
 t9:=Tryz.underlying9
 a9:=Tryz.isAgg9
 z9:=Tryz.sizeOf9
 v9:=Tryz.zeroValue9
 t20:=Tryz.underlying20
 a20:=Tryz.isAgg20
 z20:=Tryz.sizeOf20
 v20:=Tryz.zeroValue20
 t31:=Tryz.underlying22
 a31:=Tryz.isAgg22
 z31:=Tryz.sizeOf22
 v31:=Tryz.zeroValue22
 t37:=Tryz.underlying25
 a37:=Tryz.isAgg25
 z37:=Tryz.sizeOf25
 v37:=Tryz.zeroValue25
 t70:=Tryz.underlying63
 a70:=Tryz.isAgg63
 z70:=Tryz.sizeOf63
 v70:=Tryz.zeroValue63
 t72:=Tryz.underlying65
 a72:=Tryz.isAgg65
 z72:=Tryz.sizeOf65
 v72:=Tryz.zeroValue65
 t75:=Tryz.underlying67
 a75:=Tryz.isAgg67
 z75:=Tryz.sizeOf67
 v75:=Tryz.zeroValue67
 t76:=Tryz.underlying68
 a76:=Tryz.isAgg68
 z76:=Tryz.sizeOf68
 v76:=Tryz.zeroValue68
 t127:=Tryz.underlying99
 a127:=Tryz.isAgg99
 z127:=Tryz.sizeOf99
 v127:=Tryz.zeroValue99
 t164:=Tryz.underlying127
 a164:=Tryz.isAgg127
 z164:=Tryz.sizeOf127
 v164:=Tryz.zeroValue127}
theorem Tryz.wH:Builder.Extra Tryz.prog Tryz.FJ:={
 sizeBuilder:=by kernel_rfl
 liesBuilder:=by kernel_rfl
 t5:=Tryz.underlying5
 a5:=Tryz.isAgg5
 z5:=Tryz.sizeOf5
 v5:=Tryz.zeroValue5
 infoByte:=by kernel_rfl
 cellsByte:=by kernel_rfl
 sizeByte:=by kernel_rfl
 neB5:=by decide}
open Go.RowKit in
theorem Tryz.strings_Join_none (a:Option Addr) (c:Nat) (sep:ByteArray) (w:World):
 Calls Tryz.prog 220 #[.slice a 0 c,.string sep] w fun e w'=>e= .returned (.string ⟨#[]⟩)∧w'=w:=Any.strings_Join_none Tryz.Un Tryz.wH a c sep w
open Go.RowKit in
theorem Tryz.strings_Join (bk o c:Nat) (xs:List ByteArray) (sep:ByteArray) (w:World) (CM:∀(j:Nat) x,xs[j]? =some x→w.cell? ⟨bk,o+j,none⟩=some (.string x)) (Dt:bk < w.heap.size) (hN:xs.length≤140737488355328) (agH:xs.length≤c) (hlen:(Lib.join (xs.map (·.data.toList)) sep.data.toList).length≤140737488355328):
 Calls Tryz.prog 220 #[.slice (some ⟨bk,o,none⟩) xs.length c,.string sep] w fun e w'=>e= .returned (.string ⟨(Lib.join (xs.map (·.data.toList)) sep.data.toList).toArray⟩)∧Below w.heap.size w w':=Any.strings_Join Tryz.Un Tryz.wH bk o c xs sep w CM Dt hN agH hlen
def Tryz.OE:Go.Shelf.Ren:=⟨fun|161=>77|231=>115|227=>110|233=>116|235=>117|228=>150|197=>155|151=>152|260=>191|152=>187|137=>81|119=>207|224=>162|225=>173|217=>121|266=>164|n=>n,fun|9=>9|4=>4|3=>3|5=>5|117=>144|116=>143|0=>0|124=>147|105=>123|21=>21|119=>183|46=>182|139=>186|138=>185|n=>n,fun|3=>1|4=>2|n=>n⟩
theorem Tryz.acC:Go.Proofs.Lays.n161 Tryz.prog Tryz.OE:={
 mixed:=by kernel_rfl
 f119:=(dK Tryz.func207 (by kernel_rfl))
 f137:=(dK Tryz.func81 (by kernel_rfl))
 f151:=(dK Tryz.func152 (by kernel_rfl))
 f152:=(dK Tryz.func187 (by kernel_rfl))
 f161:=(dK Tryz.func77 (by kernel_rfl))
 f197:=(dK Tryz.func155 (by kernel_rfl))
 f217:=(dK Tryz.func121 (by kernel_rfl))
 f224:=(dK Tryz.func162 (by kernel_rfl))
 f225:=(dK Tryz.func173 (by kernel_rfl))
 f227:=(dK Tryz.func110 (by kernel_rfl))
 f228:=(dK Tryz.func150 (by kernel_rfl))
 f231:=(dK Tryz.func115 (by kernel_rfl))
 f233:=(dK Tryz.func116 (by kernel_rfl))
 f235:=(dK Tryz.func117 (by kernel_rfl))
 f260:=(dK Tryz.func191 (by kernel_rfl))
 f266:=(dK Tryz.func164 (by kernel_rfl))
 t0:=Tryz.underlying0
 a0:=Tryz.isAgg0
 z0:=Tryz.sizeOf0
 v0:=Tryz.zeroValue0
 t3:=Tryz.underlying3
 a3:=Tryz.isAgg3
 z3:=Tryz.sizeOf3
 v3:=Tryz.zeroValue3
 t4:=Tryz.underlying4
 a4:=Tryz.isAgg4
 z4:=Tryz.sizeOf4
 v4:=Tryz.zeroValue4
 t5:=Tryz.underlying5
 a5:=Tryz.isAgg5
 z5:=Tryz.sizeOf5
 v5:=Tryz.zeroValue5
 t9:=Tryz.underlying9
 a9:=Tryz.isAgg9
 z9:=Tryz.sizeOf9
 v9:=Tryz.zeroValue9
 t21:=Tryz.underlying21
 a21:=Tryz.isAgg21
 z21:=Tryz.sizeOf21
 v21:=Tryz.zeroValue21
 t46:=Tryz.underlying182
 a46:=Tryz.isAgg182
 z46:=Tryz.sizeOf182
 v46:=Tryz.zeroValue182
 t105:=Tryz.underlying123
 a105:=Tryz.isAgg123
 z105:=Tryz.sizeOf123
 v105:=Tryz.zeroValue123
 t116:=Tryz.underlying143
 a116:=Tryz.isAgg143
 z116:=Tryz.sizeOf143
 t117:=Tryz.underlying144
 a117:=Tryz.isAgg144
 z117:=Tryz.sizeOf144
 v117:=Tryz.zeroValue144
 t119:=Tryz.underlying183
 a119:=Tryz.isAgg183
 z119:=Tryz.sizeOf183
 t124:=Tryz.underlying147
 a124:=Tryz.isAgg147
 z124:=Tryz.sizeOf147
 v124:=Tryz.zeroValue147
 t138:=Tryz.underlying185
 a138:=Tryz.isAgg185
 z138:=Tryz.sizeOf185
 v138:=Tryz.zeroValue185
 t139:=Tryz.underlying186
 a139:=Tryz.isAgg186
 z139:=Tryz.sizeOf186
 v139:=Tryz.zeroValue186
 g3:=by kernel_rfl
 g4:=by kernel_rfl}
open Go.RowKit in
theorem Tryz.strings_TrimLeft_one (s:ByteArray) (c:UInt8) (hc:c.toNat < 128) (w:World):
 Calls Tryz.prog 77 #[.string s,.string ⟨#[c]⟩] w fun e w'=>e= .returned (.string ⟨(Lib.trimLeftB s.data.toList c).toArray⟩)∧w'=w:=Any.strings_TrimLeft_one Tryz.acC s c hc w
def Tryz.OF:Go.Shelf.Ren:=⟨fun|162=>72|232=>109|227=>110|234=>111|236=>112|228=>150|271=>151|151=>152|120=>186|197=>155|152=>187|260=>191|137=>81|119=>207|224=>162|225=>173|217=>121|266=>164|n=>n,fun|9=>9|4=>4|3=>3|5=>5|117=>144|116=>143|0=>0|124=>147|21=>21|105=>123|46=>182|119=>183|139=>186|138=>185|n=>n,fun|3=>1|4=>2|n=>n⟩
theorem Tryz.Uo:Go.Proofs.Lays.n162 Tryz.prog Tryz.OF:={
 mixed:=by kernel_rfl
 f119:=(dK Tryz.func207 (by kernel_rfl))
 f120:=(dK Tryz.func186 (by kernel_rfl))
 f137:=(dK Tryz.func81 (by kernel_rfl))
 f151:=(dK Tryz.func152 (by kernel_rfl))
 f152:=(dK Tryz.func187 (by kernel_rfl))
 f162:=(dK Tryz.func72 (by kernel_rfl))
 f197:=(dK Tryz.func155 (by kernel_rfl))
 f217:=(dK Tryz.func121 (by kernel_rfl))
 f224:=(dK Tryz.func162 (by kernel_rfl))
 f225:=(dK Tryz.func173 (by kernel_rfl))
 f227:=(dK Tryz.func110 (by kernel_rfl))
 f228:=(dK Tryz.func150 (by kernel_rfl))
 f232:=(dK Tryz.func109 (by kernel_rfl))
 f234:=(dK Tryz.func111 (by kernel_rfl))
 f236:=(dK Tryz.func112 (by kernel_rfl))
 f260:=(dK Tryz.func191 (by kernel_rfl))
 f266:=(dK Tryz.func164 (by kernel_rfl))
 f271:=(dK Tryz.func151 (by kernel_rfl))
 t0:=Tryz.underlying0
 a0:=Tryz.isAgg0
 z0:=Tryz.sizeOf0
 v0:=Tryz.zeroValue0
 t3:=Tryz.underlying3
 a3:=Tryz.isAgg3
 z3:=Tryz.sizeOf3
 v3:=Tryz.zeroValue3
 t4:=Tryz.underlying4
 a4:=Tryz.isAgg4
 z4:=Tryz.sizeOf4
 v4:=Tryz.zeroValue4
 t5:=Tryz.underlying5
 a5:=Tryz.isAgg5
 z5:=Tryz.sizeOf5
 v5:=Tryz.zeroValue5
 t9:=Tryz.underlying9
 a9:=Tryz.isAgg9
 z9:=Tryz.sizeOf9
 v9:=Tryz.zeroValue9
 t21:=Tryz.underlying21
 a21:=Tryz.isAgg21
 z21:=Tryz.sizeOf21
 v21:=Tryz.zeroValue21
 t46:=Tryz.underlying182
 a46:=Tryz.isAgg182
 z46:=Tryz.sizeOf182
 v46:=Tryz.zeroValue182
 t105:=Tryz.underlying123
 a105:=Tryz.isAgg123
 z105:=Tryz.sizeOf123
 v105:=Tryz.zeroValue123
 t116:=Tryz.underlying143
 a116:=Tryz.isAgg143
 z116:=Tryz.sizeOf143
 t117:=Tryz.underlying144
 a117:=Tryz.isAgg144
 z117:=Tryz.sizeOf144
 v117:=Tryz.zeroValue144
 t119:=Tryz.underlying183
 a119:=Tryz.isAgg183
 z119:=Tryz.sizeOf183
 t124:=Tryz.underlying147
 a124:=Tryz.isAgg147
 z124:=Tryz.sizeOf147
 v124:=Tryz.zeroValue147
 t138:=Tryz.underlying185
 a138:=Tryz.isAgg185
 z138:=Tryz.sizeOf185
 v138:=Tryz.zeroValue185
 t139:=Tryz.underlying186
 a139:=Tryz.isAgg186
 z139:=Tryz.sizeOf186
 v139:=Tryz.zeroValue186
 g3:=by kernel_rfl
 g4:=by kernel_rfl}
open Go.RowKit in
theorem Tryz.strings_TrimRight_one (s:ByteArray) (c:UInt8) (hc:c.toNat < 128) (w:World) (hs:s.size≤9223372036854775807):
 Calls Tryz.prog 72 #[.string s,.string ⟨#[c]⟩] w fun e w'=>e= .returned (.string ⟨(Lib.trimRightB s.data.toList c).toArray⟩)∧w'=w:=Any.strings_TrimRight_one Tryz.Uo s c hc w hs
def Tryz.OG:Go.Shelf.Ren:=⟨fun|160=>148|232=>109|231=>115|227=>110|234=>111|233=>116|236=>112|235=>117|228=>150|271=>151|151=>152|197=>155|120=>186|152=>187|260=>191|137=>81|119=>207|224=>162|225=>173|217=>121|266=>164|n=>n,fun|9=>9|4=>4|3=>3|5=>5|117=>144|116=>143|0=>0|124=>147|21=>21|105=>123|46=>182|119=>183|139=>186|138=>185|n=>n,fun|3=>1|4=>2|n=>n⟩
theorem Tryz.acD:Go.Proofs.Lays.n160 Tryz.prog Tryz.OG:={
 mixed:=by kernel_rfl
 f119:=(dK Tryz.func207 (by kernel_rfl))
 f120:=(dK Tryz.func186 (by kernel_rfl))
 f137:=(dK Tryz.func81 (by kernel_rfl))
 f151:=(dK Tryz.func152 (by kernel_rfl))
 f152:=(dK Tryz.func187 (by kernel_rfl))
 f160:=(dK Tryz.func148 (by kernel_rfl))
 f197:=(dK Tryz.func155 (by kernel_rfl))
 f217:=(dK Tryz.func121 (by kernel_rfl))
 f224:=(dK Tryz.func162 (by kernel_rfl))
 f225:=(dK Tryz.func173 (by kernel_rfl))
 f227:=(dK Tryz.func110 (by kernel_rfl))
 f228:=(dK Tryz.func150 (by kernel_rfl))
 f231:=(dK Tryz.func115 (by kernel_rfl))
 f232:=(dK Tryz.func109 (by kernel_rfl))
 f233:=(dK Tryz.func116 (by kernel_rfl))
 f234:=(dK Tryz.func111 (by kernel_rfl))
 f235:=(dK Tryz.func117 (by kernel_rfl))
 f236:=(dK Tryz.func112 (by kernel_rfl))
 f260:=(dK Tryz.func191 (by kernel_rfl))
 f266:=(dK Tryz.func164 (by kernel_rfl))
 f271:=(dK Tryz.func151 (by kernel_rfl))
 t0:=Tryz.underlying0
 a0:=Tryz.isAgg0
 z0:=Tryz.sizeOf0
 v0:=Tryz.zeroValue0
 t3:=Tryz.underlying3
 a3:=Tryz.isAgg3
 z3:=Tryz.sizeOf3
 v3:=Tryz.zeroValue3
 t4:=Tryz.underlying4
 a4:=Tryz.isAgg4
 z4:=Tryz.sizeOf4
 v4:=Tryz.zeroValue4
 t5:=Tryz.underlying5
 a5:=Tryz.isAgg5
 z5:=Tryz.sizeOf5
 v5:=Tryz.zeroValue5
 t9:=Tryz.underlying9
 a9:=Tryz.isAgg9
 z9:=Tryz.sizeOf9
 v9:=Tryz.zeroValue9
 t21:=Tryz.underlying21
 a21:=Tryz.isAgg21
 z21:=Tryz.sizeOf21
 v21:=Tryz.zeroValue21
 t46:=Tryz.underlying182
 a46:=Tryz.isAgg182
 z46:=Tryz.sizeOf182
 v46:=Tryz.zeroValue182
 t105:=Tryz.underlying123
 a105:=Tryz.isAgg123
 z105:=Tryz.sizeOf123
 v105:=Tryz.zeroValue123
 t116:=Tryz.underlying143
 a116:=Tryz.isAgg143
 z116:=Tryz.sizeOf143
 t117:=Tryz.underlying144
 a117:=Tryz.isAgg144
 z117:=Tryz.sizeOf144
 v117:=Tryz.zeroValue144
 t119:=Tryz.underlying183
 a119:=Tryz.isAgg183
 z119:=Tryz.sizeOf183
 t124:=Tryz.underlying147
 a124:=Tryz.isAgg147
 z124:=Tryz.sizeOf147
 v124:=Tryz.zeroValue147
 t138:=Tryz.underlying185
 a138:=Tryz.isAgg185
 z138:=Tryz.sizeOf185
 v138:=Tryz.zeroValue185
 t139:=Tryz.underlying186
 a139:=Tryz.isAgg186
 z139:=Tryz.sizeOf186
 v139:=Tryz.zeroValue186
 g3:=by kernel_rfl
 g4:=by kernel_rfl}
def Tryz.OH:Go.Shelf.Ren:=⟨fun|119=>207|n=>n,fun|21=>21|4=>4|n=>n,fun|n=>n⟩
theorem Tryz.acE:Go.Proofs.Lays.n119 Tryz.prog Tryz.OH:={
 mixed:=by kernel_rfl
 f119:=(dK Tryz.func207 (by kernel_rfl))
 t4:=Tryz.underlying4
 a4:=Tryz.isAgg4
 z4:=Tryz.sizeOf4
 v4:=Tryz.zeroValue4
 t21:=Tryz.underlying21
 a21:=Tryz.isAgg21
 z21:=Tryz.sizeOf21
 v21:=Tryz.zeroValue21}
theorem Tryz.utf8_ValidRune (r:Int) (w:World):
 Calls Tryz.prog 207 #[.int .i32 r] w fun e w'=>e= .returned (.bool (Lib.validRune r))∧w'=w:=Any.utf8_ValidRune Tryz.acE r w
def Tryz.OI:Go.Shelf.Ren:=⟨fun|137=>81|217=>121|266=>164|n=>n,fun|9=>9|5=>5|3=>3|n=>n,fun|n=>n⟩
theorem Tryz.acF:Go.Proofs.Lays.n137 Tryz.prog Tryz.OI:={
 mixed:=by kernel_rfl
 f137:=(dK Tryz.func81 (by kernel_rfl))
 f217:=(dK Tryz.func121 (by kernel_rfl))
 f266:=(dK Tryz.func164 (by kernel_rfl))
 t3:=Tryz.underlying3
 a3:=Tryz.isAgg3
 z3:=Tryz.sizeOf3
 v3:=Tryz.zeroValue3
 t5:=Tryz.underlying5
 a5:=Tryz.isAgg5
 z5:=Tryz.sizeOf5
 v5:=Tryz.zeroValue5
 t9:=Tryz.underlying9
 a9:=Tryz.isAgg9
 z9:=Tryz.sizeOf9
 v9:=Tryz.zeroValue9}
open Go.RowKit in
theorem Tryz.strings_IndexByte (s:ByteArray) (c:Int) (w:World):
 Calls Tryz.prog 81 #[.string s,.int .u8 c] w fun e w'=>e= .returned (.int .i64 (Lib.indexByte s.data.toList c.toNat.toUInt8))∧w'=w:=Any.strings_IndexByte Tryz.acF s c w
def Tryz.OJ:Go.Shelf.Ren:=⟨fun|103=>118|210=>156|206=>107|n=>n,fun|9=>9|4=>4|24=>107|3=>3|n=>n,fun|n=>n⟩
theorem Tryz.acG:Go.Proofs.Lays.n103 Tryz.prog Tryz.OJ:={
 mixed:=by kernel_rfl
 f103:=(dK Tryz.func118 (by kernel_rfl))
 f206:=(dK Tryz.func107 (by kernel_rfl))
 f210:=(dK Tryz.func156 (by kernel_rfl))
 t3:=Tryz.underlying3
 a3:=Tryz.isAgg3
 z3:=Tryz.sizeOf3
 v3:=Tryz.zeroValue3
 t4:=Tryz.underlying4
 a4:=Tryz.isAgg4
 z4:=Tryz.sizeOf4
 v4:=Tryz.zeroValue4
 t9:=Tryz.underlying9
 a9:=Tryz.isAgg9
 z9:=Tryz.sizeOf9
 v9:=Tryz.zeroValue9
 t24:=Tryz.underlying107
 a24:=Tryz.isAgg107
 z24:=Tryz.sizeOf107
 v24:=Tryz.zeroValue107}
open Go.RowKit in
theorem Tryz.strings_CutPrefix (s p:ByteArray) (w:World):
 Calls Tryz.prog 118 #[.string s,.string p] w fun e w'=>e= .returned (.tuple #[.string ⟨(Lib.trimPrefix s.data.toList p.data.toList).toArray⟩,.bool (Lib.hasPrefix s.data.toList p.data.toList)])∧w'=w:=Any.strings_CutPrefix Tryz.acG s p w
def Tryz.OK:Go.Shelf.Ren:=⟨fun|104=>144|211=>185|207=>108|n=>n,fun|9=>9|4=>4|24=>107|3=>3|n=>n,fun|n=>n⟩
theorem Tryz.acH:Go.Proofs.Lays.n104 Tryz.prog Tryz.OK:={
 mixed:=by kernel_rfl
 f104:=(dK Tryz.func144 (by kernel_rfl))
 f207:=(dK Tryz.func108 (by kernel_rfl))
 f211:=(dK Tryz.func185 (by kernel_rfl))
 t3:=Tryz.underlying3
 a3:=Tryz.isAgg3
 z3:=Tryz.sizeOf3
 v3:=Tryz.zeroValue3
 t4:=Tryz.underlying4
 a4:=Tryz.isAgg4
 z4:=Tryz.sizeOf4
 v4:=Tryz.zeroValue4
 t9:=Tryz.underlying9
 a9:=Tryz.isAgg9
 z9:=Tryz.sizeOf9
 v9:=Tryz.zeroValue9
 t24:=Tryz.underlying107
 a24:=Tryz.isAgg107
 z24:=Tryz.sizeOf107
 v24:=Tryz.zeroValue107}
open Go.RowKit in
theorem Tryz.strings_CutSuffix (s p:ByteArray) (w:World) (hs:s.size≤9223372036854775807):
 Calls Tryz.prog 144 #[.string s,.string p] w fun e w'=>e= .returned (.tuple #[.string ⟨(Lib.trimSuffix s.data.toList p.data.toList).toArray⟩,.bool (Lib.hasSuffix s.data.toList p.data.toList)])∧w'=w:=Any.strings_CutSuffix Tryz.acH s p w hs
def Tryz.Mw:Go.Shelf.Ren:=⟨fun|243=>52|246=>89|283=>128|284=>129|285=>130|286=>131|129=>169|317=>168|318=>170|319=>171|320=>172|337=>197|338=>198|n=>n,fun|3=>3|9=>9|2=>2|4=>4|171=>154|0=>0|53=>130|37=>25|5=>5|173=>157|212=>188|51=>28|20=>20|213=>189|46=>182|232=>212|233=>213|n=>n,fun|17=>3|18=>4|19=>5|n=>n⟩
theorem Tryz.YF:Go.Proofs.LaysM.n243 Tryz.prog Tryz.Mw:={
 mixed:=by kernel_rfl
 f129:=(dK Tryz.func169 (by kernel_rfl))
 f243:=(dK Tryz.func52 (by kernel_rfl))
 f246:=(dK Tryz.func89 (by kernel_rfl))
 f283:=(dK Tryz.func128 (by kernel_rfl))
 f284:=(dK Tryz.func129 (by kernel_rfl))
 f285:=(dK Tryz.func130 (by kernel_rfl))
 f286:=(dK Tryz.func131 (by kernel_rfl))
 f317:=(dK Tryz.func168 (by kernel_rfl))
 f318:=(dK Tryz.func170 (by kernel_rfl))
 f319:=(dK Tryz.func171 (by kernel_rfl))
 f320:=(dK Tryz.func172 (by kernel_rfl))
 f337:=(dK Tryz.func197 (by kernel_rfl))
 f338:=(dK Tryz.func198 (by kernel_rfl))
 t0:=Tryz.underlying0
 a0:=Tryz.isAgg0
 z0:=Tryz.sizeOf0
 v0:=Tryz.zeroValue0
 t2:=Tryz.underlying2
 a2:=Tryz.isAgg2
 z2:=Tryz.sizeOf2
 v2:=Tryz.zeroValue2
 t3:=Tryz.underlying3
 a3:=Tryz.isAgg3
 z3:=Tryz.sizeOf3
 v3:=Tryz.zeroValue3
 t4:=Tryz.underlying4
 a4:=Tryz.isAgg4
 z4:=Tryz.sizeOf4
 v4:=Tryz.zeroValue4
 t5:=Tryz.underlying5
 a5:=Tryz.isAgg5
 z5:=Tryz.sizeOf5
 v5:=Tryz.zeroValue5
 t9:=Tryz.underlying9
 a9:=Tryz.isAgg9
 z9:=Tryz.sizeOf9
 v9:=Tryz.zeroValue9
 t20:=Tryz.underlying20
 a20:=Tryz.isAgg20
 z20:=Tryz.sizeOf20
 v20:=Tryz.zeroValue20
 t37:=Tryz.underlying25
 a37:=Tryz.isAgg25
 z37:=Tryz.sizeOf25
 v37:=Tryz.zeroValue25
 t46:=Tryz.underlying182
 a46:=Tryz.isAgg182
 z46:=Tryz.sizeOf182
 v46:=Tryz.zeroValue182
 t51:=Tryz.underlying28
 a51:=Tryz.isAgg28
 z51:=Tryz.sizeOf28
 v51:=Tryz.zeroValue28
 t53:=Tryz.underlying130
 a53:=Tryz.isAgg130
 z53:=Tryz.sizeOf130
 v53:=Tryz.zeroValue130
 t171:=Tryz.underlying154
 a171:=Tryz.isAgg154
 z171:=Tryz.sizeOf154
 v171:=Tryz.zeroValue154
 t173:=Tryz.underlying157
 a173:=Tryz.isAgg157
 z173:=Tryz.sizeOf157
 v173:=Tryz.zeroValue157
 t212:=Tryz.underlying188
 a212:=Tryz.isAgg188
 z212:=Tryz.sizeOf188
 v212:=Tryz.zeroValue188
 t213:=Tryz.underlying189
 a213:=Tryz.isAgg189
 z213:=Tryz.sizeOf189
 t232:=Tryz.underlying212
 a232:=Tryz.isAgg212
 z232:=Tryz.sizeOf212
 v232:=Tryz.zeroValue212
 t233:=Tryz.underlying213
 a233:=Tryz.isAgg213
 z233:=Tryz.sizeOf213
 v233:=Tryz.zeroValue213
 g17:=by kernel_rfl
 g18:=by kernel_rfl
 g19:=by kernel_rfl
 i0:=by kernel_rfl
 i2:=by kernel_rfl
 i3:=by kernel_rfl
 i4:=by kernel_rfl
 i5:=by kernel_rfl
 i9:=by kernel_rfl
 i20:=by kernel_rfl
 i37:=by kernel_rfl
 i46:=by kernel_rfl
 i51:=by kernel_rfl
 i53:=by kernel_rfl
 i171:=by kernel_rfl
 i173:=by kernel_rfl
 i212:=by kernel_rfl
 i232:=by kernel_rfl
 i233:=by kernel_rfl
 m17:=by kernel_rfl
 m18:=by kernel_rfl
 m19:=by kernel_rfl}
open Go.RowKit Go.Sort Go.Lib in
theorem Tryz.internal_strconv_Itoa (n:Int) (h0: -9223372036854775808≤n) (h1:n≤9223372036854775807) (w:World) (agO:Lib.TabIs Tryz.prog w (gN 3) .u64 Lib.pow10Tab):
 Calls Tryz.prog 52 #[.int .i64 n] w fun e w'=>e= .returned (.string ⟨(Lib.itoa n).toArray⟩)∧∃k os,w'=grow (w.drewN k) os:=Any.internal_strconv_Itoa Tryz.YF n h0 h1 w agO
def Tryz.OL:Go.Shelf.Ren:=⟨fun|145=>53|220=>90|219=>132|217=>121|225=>173|224=>162|267=>174|266=>164|314=>199|n=>n,fun|9=>9|4=>4|59=>100|3=>3|5=>5|46=>182|146=>201|51=>28|n=>n,fun|1=>0|n=>n⟩
theorem Tryz.acI:Go.Proofs.Lays.n145 Tryz.prog Tryz.OL:={
 mixed:=by kernel_rfl
 f145:=(dK Tryz.func53 (by kernel_rfl))
 f217:=(dK Tryz.func121 (by kernel_rfl))
 f219:=(dK Tryz.func132 (by kernel_rfl))
 f220:=(dK Tryz.func90 (by kernel_rfl))
 f224:=(dK Tryz.func162 (by kernel_rfl))
 f225:=(dK Tryz.func173 (by kernel_rfl))
 f266:=(dK Tryz.func164 (by kernel_rfl))
 f267:=(dK Tryz.func174 (by kernel_rfl))
 f314:=(dK Tryz.func199 (by kernel_rfl))
 t3:=Tryz.underlying3
 a3:=Tryz.isAgg3
 z3:=Tryz.sizeOf3
 v3:=Tryz.zeroValue3
 t4:=Tryz.underlying4
 a4:=Tryz.isAgg4
 z4:=Tryz.sizeOf4
 v4:=Tryz.zeroValue4
 t5:=Tryz.underlying5
 a5:=Tryz.isAgg5
 z5:=Tryz.sizeOf5
 v5:=Tryz.zeroValue5
 t9:=Tryz.underlying9
 a9:=Tryz.isAgg9
 z9:=Tryz.sizeOf9
 v9:=Tryz.zeroValue9
 t46:=Tryz.underlying182
 a46:=Tryz.isAgg182
 z46:=Tryz.sizeOf182
 v46:=Tryz.zeroValue182
 t51:=Tryz.underlying28
 a51:=Tryz.isAgg28
 z51:=Tryz.sizeOf28
 v51:=Tryz.zeroValue28
 t59:=Tryz.underlying100
 a59:=Tryz.isAgg100
 z59:=Tryz.sizeOf100
 v59:=Tryz.zeroValue100
 t146:=Tryz.underlying201
 a146:=Tryz.isAgg201
 z146:=Tryz.sizeOf201
 v146:=Tryz.zeroValue201
 g1:=by kernel_rfl}
open Go.RowKit Go.Lib in
theorem Tryz.strings_Cut (s sep:ByteArray) (m:Int) (w:World) (hs:s.size < 4294967281) (hm:w.cell? ⟨0,0,none⟩=some (.int .i64 m)):
 Calls Tryz.prog 53 #[.string s,.string sep] w fun e w'=>e= .returned (.tuple #[.string ⟨(Lib.cut s.data.toList sep.data.toList).1.toArray⟩,.string ⟨(Lib.cut s.data.toList sep.data.toList).2.1.toArray⟩,.bool (Lib.cut s.data.toList sep.data.toList).2.2])∧∃n,w'=w.drewN n:=Any.strings_Cut Tryz.acI s sep m w hs hm
def Tryz.OM:Go.Shelf.Ren:=⟨fun|149=>182|222=>205|n=>n,fun|9=>9|5=>5|3=>3|4=>4|n=>n,fun|n=>n⟩
theorem Tryz.acJ:Go.Proofs.Lays.n149 Tryz.prog Tryz.OM:={
 mixed:=by kernel_rfl
 f149:=(dK Tryz.func182 (by kernel_rfl))
 f222:=(dK Tryz.func205 (by kernel_rfl))
 t3:=Tryz.underlying3
 a3:=Tryz.isAgg3
 z3:=Tryz.sizeOf3
 v3:=Tryz.zeroValue3
 t4:=Tryz.underlying4
 a4:=Tryz.isAgg4
 z4:=Tryz.sizeOf4
 v4:=Tryz.zeroValue4
 t5:=Tryz.underlying5
 a5:=Tryz.isAgg5
 z5:=Tryz.sizeOf5
 v5:=Tryz.zeroValue5
 t9:=Tryz.underlying9
 a9:=Tryz.isAgg9
 z9:=Tryz.sizeOf9
 v9:=Tryz.zeroValue9}
open Go.RowKit Go.Lib in
theorem Tryz.strings_LastIndexByte (s:ByteArray) (c:Int) (hs:s.size < 4611686018427387904) (w:World):
 Calls Tryz.prog 182 #[.string s,.int .u8 c] w fun e w'=>e= .returned (.int .i64 (Lib.lastIndexByte s c))∧w'=w:=Any.strings_LastIndexByte Tryz.acJ s c hs w
def Tryz.Mx:Go.Shelf.Ren:=⟨fun|288=>127|283=>128|284=>129|285=>130|286=>131|129=>169|317=>168|318=>170|319=>171|320=>172|337=>197|338=>198|n=>n,fun|37=>25|53=>130|3=>3|4=>4|9=>9|171=>154|0=>0|173=>157|212=>188|51=>28|5=>5|20=>20|213=>189|46=>182|232=>212|233=>213|n=>n,fun|17=>3|18=>4|19=>5|n=>n⟩
theorem Tryz.YG:Go.Proofs.LaysM.n288 Tryz.prog Tryz.Mx:={
 mixed:=by kernel_rfl
 f129:=(dK Tryz.func169 (by kernel_rfl))
 f283:=(dK Tryz.func128 (by kernel_rfl))
 f284:=(dK Tryz.func129 (by kernel_rfl))
 f285:=(dK Tryz.func130 (by kernel_rfl))
 f286:=(dK Tryz.func131 (by kernel_rfl))
 f288:=(dK Tryz.func127 (by kernel_rfl))
 f317:=(dK Tryz.func168 (by kernel_rfl))
 f318:=(dK Tryz.func170 (by kernel_rfl))
 f319:=(dK Tryz.func171 (by kernel_rfl))
 f320:=(dK Tryz.func172 (by kernel_rfl))
 f337:=(dK Tryz.func197 (by kernel_rfl))
 f338:=(dK Tryz.func198 (by kernel_rfl))
 t0:=Tryz.underlying0
 a0:=Tryz.isAgg0
 z0:=Tryz.sizeOf0
 v0:=Tryz.zeroValue0
 t3:=Tryz.underlying3
 a3:=Tryz.isAgg3
 z3:=Tryz.sizeOf3
 v3:=Tryz.zeroValue3
 t4:=Tryz.underlying4
 a4:=Tryz.isAgg4
 z4:=Tryz.sizeOf4
 v4:=Tryz.zeroValue4
 t5:=Tryz.underlying5
 a5:=Tryz.isAgg5
 z5:=Tryz.sizeOf5
 v5:=Tryz.zeroValue5
 t9:=Tryz.underlying9
 a9:=Tryz.isAgg9
 z9:=Tryz.sizeOf9
 v9:=Tryz.zeroValue9
 t20:=Tryz.underlying20
 a20:=Tryz.isAgg20
 z20:=Tryz.sizeOf20
 v20:=Tryz.zeroValue20
 t37:=Tryz.underlying25
 a37:=Tryz.isAgg25
 z37:=Tryz.sizeOf25
 v37:=Tryz.zeroValue25
 t46:=Tryz.underlying182
 a46:=Tryz.isAgg182
 z46:=Tryz.sizeOf182
 v46:=Tryz.zeroValue182
 t51:=Tryz.underlying28
 a51:=Tryz.isAgg28
 z51:=Tryz.sizeOf28
 v51:=Tryz.zeroValue28
 t53:=Tryz.underlying130
 a53:=Tryz.isAgg130
 z53:=Tryz.sizeOf130
 v53:=Tryz.zeroValue130
 t171:=Tryz.underlying154
 a171:=Tryz.isAgg154
 z171:=Tryz.sizeOf154
 v171:=Tryz.zeroValue154
 t173:=Tryz.underlying157
 a173:=Tryz.isAgg157
 z173:=Tryz.sizeOf157
 v173:=Tryz.zeroValue157
 t212:=Tryz.underlying188
 a212:=Tryz.isAgg188
 z212:=Tryz.sizeOf188
 v212:=Tryz.zeroValue188
 t213:=Tryz.underlying189
 a213:=Tryz.isAgg189
 z213:=Tryz.sizeOf189
 t232:=Tryz.underlying212
 a232:=Tryz.isAgg212
 z232:=Tryz.sizeOf212
 v232:=Tryz.zeroValue212
 t233:=Tryz.underlying213
 a233:=Tryz.isAgg213
 z233:=Tryz.sizeOf213
 v233:=Tryz.zeroValue213
 g17:=by kernel_rfl
 g18:=by kernel_rfl
 g19:=by kernel_rfl
 i0:=by kernel_rfl
 i3:=by kernel_rfl
 i4:=by kernel_rfl
 i5:=by kernel_rfl
 i9:=by kernel_rfl
 i20:=by kernel_rfl
 i37:=by kernel_rfl
 i46:=by kernel_rfl
 i51:=by kernel_rfl
 i53:=by kernel_rfl
 i171:=by kernel_rfl
 i173:=by kernel_rfl
 i212:=by kernel_rfl
 i232:=by kernel_rfl
 i233:=by kernel_rfl
 m17:=by kernel_rfl
 m18:=by kernel_rfl
 m19:=by kernel_rfl}
open Go.RowKit Go.Sort Go.Lib in
theorem Tryz.internal_strconv_AppendUint_10 (B n u:Nat) (anH:u < 18446744073709551616) (sv:Value) (xs:List Value) (w:World) (bE:w.ownsRow B 5 1 sv n xs) (Ie:B≤w.heap.size) (anI:n+20≤140737488355328) (agO:Lib.TabIs Tryz.prog w (gN 3) .u64 Lib.pow10Tab):
 Calls Tryz.prog 127 #[sv,.int .u64 u,.int .i64 10] w fun e w'=>∃v',e= .returned v'∧w'.ownsRow B 5 1 v' (n+(Lib.decDigits u).length) (xs++Lib.byteCells (Lib.decDigits u))∧Below B w w'∧Lib.OthersKept 5 none w w':=Any.internal_strconv_AppendUint_10 Tryz.YG B n u anH sv xs w bE Ie anI agO
def Tryz.R4:Go.Shelf.Ren:=⟨fun|99=>65|206=>107|n=>n,fun|9=>9|4=>4|3=>3|n=>n,fun|n=>n⟩
theorem Tryz.agP:Go.Proofs.Lays.n99 Tryz.prog Tryz.R4:={
 mixed:=by kernel_rfl
 f99:=(dK Tryz.func65 (by kernel_rfl))
 f206:=(dK Tryz.func107 (by kernel_rfl))
 t3:=Tryz.underlying3
 a3:=Tryz.isAgg3
 z3:=Tryz.sizeOf3
 v3:=Tryz.zeroValue3
 t4:=Tryz.underlying4
 a4:=Tryz.isAgg4
 z4:=Tryz.sizeOf4
 v4:=Tryz.zeroValue4
 t9:=Tryz.underlying9
 a9:=Tryz.isAgg9
 z9:=Tryz.sizeOf9
 v9:=Tryz.zeroValue9}
open Go.RowKit Go.Lib in
theorem Tryz.strings_HasPrefix (s p:ByteArray) (w:World):
 Calls Tryz.prog 65 #[.string s,.string p] w fun e w'=>e= .returned (.bool (Lib.hasPrefix s.data.toList p.data.toList))∧w'=w:=Any.strings_HasPrefix Tryz.agP s p w
def Tryz.ON:Go.Shelf.Ren:=⟨fun|207=>108|n=>n,fun|9=>9|4=>4|3=>3|n=>n,fun|n=>n⟩
theorem Tryz.acK:Go.Proofs.Lays.n207 Tryz.prog Tryz.ON:={
 mixed:=by kernel_rfl
 f207:=(dK Tryz.func108 (by kernel_rfl))
 t3:=Tryz.underlying3
 a3:=Tryz.isAgg3
 z3:=Tryz.sizeOf3
 v3:=Tryz.zeroValue3
 t4:=Tryz.underlying4
 a4:=Tryz.isAgg4
 z4:=Tryz.sizeOf4
 v4:=Tryz.zeroValue4
 t9:=Tryz.underlying9
 a9:=Tryz.isAgg9
 z9:=Tryz.sizeOf9
 v9:=Tryz.zeroValue9}
open Go.RowKit Go.Lib in
theorem Tryz.stringslite_HasSuffix (s p:ByteArray) (w:World) (hs:s.size≤9223372036854775807):
 Calls Tryz.prog 108 #[.string s,.string p] w fun e w'=>e= .returned (.bool (Lib.hasSuffix s.data.toList p.data.toList))∧w'=w:=Any.stringslite_HasSuffix Tryz.acK s p w hs
def Tryz.OO:Go.Shelf.Ren:=⟨fun|100=>66|207=>108|n=>n,fun|9=>9|4=>4|3=>3|n=>n,fun|n=>n⟩
theorem Tryz.acL:Go.Proofs.Lays.n100 Tryz.prog Tryz.OO:={
 mixed:=by kernel_rfl
 f100:=(dK Tryz.func66 (by kernel_rfl))
 f207:=(dK Tryz.func108 (by kernel_rfl))
 t3:=Tryz.underlying3
 a3:=Tryz.isAgg3
 z3:=Tryz.sizeOf3
 v3:=Tryz.zeroValue3
 t4:=Tryz.underlying4
 a4:=Tryz.isAgg4
 z4:=Tryz.sizeOf4
 v4:=Tryz.zeroValue4
 t9:=Tryz.underlying9
 a9:=Tryz.isAgg9
 z9:=Tryz.sizeOf9
 v9:=Tryz.zeroValue9}
open Go.RowKit Go.Lib in
theorem Tryz.strings_HasSuffix (s p:ByteArray) (w:World) (hs:s.size≤9223372036854775807):
 Calls Tryz.prog 66 #[.string s,.string p] w fun e w'=>e= .returned (.bool (Lib.hasSuffix s.data.toList p.data.toList))∧w'=w:=Any.strings_HasSuffix Tryz.acL s p w hs
def Tryz.OP:Go.Shelf.Ren:=⟨fun|101=>105|208=>147|206=>107|n=>n,fun|9=>9|4=>4|3=>3|n=>n,fun|n=>n⟩
theorem Tryz.acM:Go.Proofs.Lays.n101 Tryz.prog Tryz.OP:={
 mixed:=by kernel_rfl
 f101:=(dK Tryz.func105 (by kernel_rfl))
 f206:=(dK Tryz.func107 (by kernel_rfl))
 f208:=(dK Tryz.func147 (by kernel_rfl))
 t3:=Tryz.underlying3
 a3:=Tryz.isAgg3
 z3:=Tryz.sizeOf3
 v3:=Tryz.zeroValue3
 t4:=Tryz.underlying4
 a4:=Tryz.isAgg4
 z4:=Tryz.sizeOf4
 v4:=Tryz.zeroValue4
 t9:=Tryz.underlying9
 a9:=Tryz.isAgg9
 z9:=Tryz.sizeOf9
 v9:=Tryz.zeroValue9}
open Go.RowKit Go.Lib in
theorem Tryz.strings_TrimPrefix (s p:ByteArray) (w:World):
 Calls Tryz.prog 105 #[.string s,.string p] w fun e w'=>e= .returned (.string ⟨(Lib.trimPrefix s.data.toList p.data.toList).toArray⟩)∧w'=w:=Any.strings_TrimPrefix Tryz.acM s p w
def Tryz.OQ:Go.Shelf.Ren:=⟨fun|146=>218|221=>229|268=>237|138=>238|143=>239|195=>192|197=>155|218=>247|219=>132|260=>191|217=>121|225=>173|224=>162|267=>174|266=>164|314=>199|n=>n,fun|9=>9|31=>22|3=>3|4=>4|0=>0|105=>123|21=>21|5=>5|46=>182|119=>183|139=>186|138=>185|146=>201|51=>28|n=>n,fun|1=>0|3=>1|4=>2|n=>n⟩
theorem Tryz.acN:Go.Proofs.Lays.n146 Tryz.prog Tryz.OQ:={
 mixed:=by kernel_rfl
 f138:=(dK Tryz.func238 (by kernel_rfl))
 f143:=(dK Tryz.func239 (by kernel_rfl))
 f146:=(dK Tryz.func218 (by kernel_rfl))
 f195:=(dK Tryz.func192 (by kernel_rfl))
 f197:=(dK Tryz.func155 (by kernel_rfl))
 f217:=(dK Tryz.func121 (by kernel_rfl))
 f218:=(dK Tryz.func247 (by kernel_rfl))
 f219:=(dK Tryz.func132 (by kernel_rfl))
 f221:=(dK Tryz.func229 (by kernel_rfl))
 f224:=(dK Tryz.func162 (by kernel_rfl))
 f225:=(dK Tryz.func173 (by kernel_rfl))
 f260:=(dK Tryz.func191 (by kernel_rfl))
 f266:=(dK Tryz.func164 (by kernel_rfl))
 f267:=(dK Tryz.func174 (by kernel_rfl))
 f268:=(dK Tryz.func237 (by kernel_rfl))
 f314:=(dK Tryz.func199 (by kernel_rfl))
 t0:=Tryz.underlying0
 a0:=Tryz.isAgg0
 z0:=Tryz.sizeOf0
 v0:=Tryz.zeroValue0
 t3:=Tryz.underlying3
 a3:=Tryz.isAgg3
 z3:=Tryz.sizeOf3
 v3:=Tryz.zeroValue3
 t4:=Tryz.underlying4
 a4:=Tryz.isAgg4
 z4:=Tryz.sizeOf4
 v4:=Tryz.zeroValue4
 t5:=Tryz.underlying5
 a5:=Tryz.isAgg5
 z5:=Tryz.sizeOf5
 v5:=Tryz.zeroValue5
 t9:=Tryz.underlying9
 a9:=Tryz.isAgg9
 z9:=Tryz.sizeOf9
 v9:=Tryz.zeroValue9
 t21:=Tryz.underlying21
 a21:=Tryz.isAgg21
 z21:=Tryz.sizeOf21
 v21:=Tryz.zeroValue21
 t31:=Tryz.underlying22
 a31:=Tryz.isAgg22
 z31:=Tryz.sizeOf22
 v31:=Tryz.zeroValue22
 t46:=Tryz.underlying182
 a46:=Tryz.isAgg182
 z46:=Tryz.sizeOf182
 v46:=Tryz.zeroValue182
 t51:=Tryz.underlying28
 a51:=Tryz.isAgg28
 z51:=Tryz.sizeOf28
 v51:=Tryz.zeroValue28
 t105:=Tryz.underlying123
 a105:=Tryz.isAgg123
 z105:=Tryz.sizeOf123
 v105:=Tryz.zeroValue123
 t119:=Tryz.underlying183
 a119:=Tryz.isAgg183
 z119:=Tryz.sizeOf183
 t138:=Tryz.underlying185
 a138:=Tryz.isAgg185
 z138:=Tryz.sizeOf185
 v138:=Tryz.zeroValue185
 t139:=Tryz.underlying186
 a139:=Tryz.isAgg186
 z139:=Tryz.sizeOf186
 v139:=Tryz.zeroValue186
 t146:=Tryz.underlying201
 a146:=Tryz.isAgg201
 z146:=Tryz.sizeOf201
 v146:=Tryz.zeroValue201
 g1:=by kernel_rfl
 g3:=by kernel_rfl
 g4:=by kernel_rfl}
open Go.RowKit Go.Lib in
theorem Tryz.strings_Split (s sep:ByteArray) (m:Int) (w:World) (hs:s.size < 4294967281) (hm:w.cell? ⟨0,0,none⟩=some (.int .i64 m)) (h1:1≤sep.size):
 Calls Tryz.prog 218 #[.string s,.string sep] w fun e w'=>
  e= .returned (.slice (some ⟨w.heap.size,0,none⟩) (Lib.countB s sep+1) (Lib.countB s sep+1))∧w'=w.alloc (.cells ((Lib.splitB sep 0 (Lib.countB s sep) s).map Value.string).toArray 9):=Any.strings_Split Tryz.acN (by kernel_rfl) s sep m w hs hm h1
def Tryz.OR:Go.Shelf.Ren:=⟨fun|152=>187|137=>81|119=>207|224=>162|225=>173|217=>121|266=>164|n=>n,fun|9=>9|21=>21|3=>3|4=>4|5=>5|0=>0|46=>182|n=>n,fun|n=>n⟩
theorem Tryz.acO:Go.Proofs.Lays.n152 Tryz.prog Tryz.OR:={
 mixed:=by kernel_rfl
 f119:=(dK Tryz.func207 (by kernel_rfl))
 f137:=(dK Tryz.func81 (by kernel_rfl))
 f152:=(dK Tryz.func187 (by kernel_rfl))
 f217:=(dK Tryz.func121 (by kernel_rfl))
 f224:=(dK Tryz.func162 (by kernel_rfl))
 f225:=(dK Tryz.func173 (by kernel_rfl))
 f266:=(dK Tryz.func164 (by kernel_rfl))
 t0:=Tryz.underlying0
 a0:=Tryz.isAgg0
 z0:=Tryz.sizeOf0
 v0:=Tryz.zeroValue0
 t3:=Tryz.underlying3
 a3:=Tryz.isAgg3
 z3:=Tryz.sizeOf3
 v3:=Tryz.zeroValue3
 t4:=Tryz.underlying4
 a4:=Tryz.isAgg4
 z4:=Tryz.sizeOf4
 v4:=Tryz.zeroValue4
 t5:=Tryz.underlying5
 a5:=Tryz.isAgg5
 z5:=Tryz.sizeOf5
 v5:=Tryz.zeroValue5
 t9:=Tryz.underlying9
 a9:=Tryz.isAgg9
 z9:=Tryz.sizeOf9
 v9:=Tryz.zeroValue9
 t21:=Tryz.underlying21
 a21:=Tryz.isAgg21
 z21:=Tryz.sizeOf21
 v21:=Tryz.zeroValue21
 t46:=Tryz.underlying182
 a46:=Tryz.isAgg182
 z46:=Tryz.sizeOf182
 v46:=Tryz.zeroValue182}
open Go.RowKit Go.Lib in
theorem Tryz.strings_IndexRune_ascii (s:ByteArray) (r:Int) (w:World) (h0:0≤r) (h1:r < 128):
 Calls Tryz.prog 187 #[.string s,.int .i32 r] w fun e w'=>e= .returned (.int .i64 (Lib.indexByte s.data.toList r.toNat.toUInt8))∧w'=w:=Any.strings_IndexRune_ascii Tryz.acO s r w h0 h1
def Tryz.OS:Go.Shelf.Ren:=⟨fun|226=>208|n=>n,fun|3=>3|4=>4|n=>n,fun|n=>n⟩
theorem Tryz.acP:Go.Proofs.Lays.n226 Tryz.prog Tryz.OS:={
 mixed:=by kernel_rfl
 f226:=(dK Tryz.func208 (by kernel_rfl))
 t3:=Tryz.underlying3
 a3:=Tryz.isAgg3
 z3:=Tryz.sizeOf3
 v3:=Tryz.zeroValue3
 t4:=Tryz.underlying4
 a4:=Tryz.isAgg4
 z4:=Tryz.sizeOf4
 v4:=Tryz.zeroValue4}
open Go.RowKit Go.Lib in
theorem Tryz.strings_shouldUseASCIISet (n:Int) (w:World):
 Calls Tryz.prog 208 #[.int .i64 n] w fun e w'=>e= .returned (.bool (decide (8 < n)))∧w'=w:=Any.strings_shouldUseASCIISet Tryz.acP n w
def Tryz.OT:Go.Shelf.Ren:=⟨fun|153=>188|152=>187|226=>208|227=>110|228=>150|137=>81|119=>207|224=>162|225=>173|217=>121|266=>164|n=>n,fun|9=>9|3=>3|4=>4|5=>5|21=>21|117=>144|116=>143|0=>0|46=>182|124=>147|n=>n,fun|n=>n⟩
theorem Tryz.acQ:Go.Proofs.Lays.n153 Tryz.prog Tryz.OT:={
 mixed:=by kernel_rfl
 f119:=(dK Tryz.func207 (by kernel_rfl))
 f137:=(dK Tryz.func81 (by kernel_rfl))
 f152:=(dK Tryz.func187 (by kernel_rfl))
 f153:=(dK Tryz.func188 (by kernel_rfl))
 f217:=(dK Tryz.func121 (by kernel_rfl))
 f224:=(dK Tryz.func162 (by kernel_rfl))
 f225:=(dK Tryz.func173 (by kernel_rfl))
 f226:=(dK Tryz.func208 (by kernel_rfl))
 f227:=(dK Tryz.func110 (by kernel_rfl))
 f228:=(dK Tryz.func150 (by kernel_rfl))
 f266:=(dK Tryz.func164 (by kernel_rfl))
 t0:=Tryz.underlying0
 a0:=Tryz.isAgg0
 z0:=Tryz.sizeOf0
 v0:=Tryz.zeroValue0
 t3:=Tryz.underlying3
 a3:=Tryz.isAgg3
 z3:=Tryz.sizeOf3
 v3:=Tryz.zeroValue3
 t4:=Tryz.underlying4
 a4:=Tryz.isAgg4
 z4:=Tryz.sizeOf4
 v4:=Tryz.zeroValue4
 t5:=Tryz.underlying5
 a5:=Tryz.isAgg5
 z5:=Tryz.sizeOf5
 v5:=Tryz.zeroValue5
 t9:=Tryz.underlying9
 a9:=Tryz.isAgg9
 z9:=Tryz.sizeOf9
 v9:=Tryz.zeroValue9
 t21:=Tryz.underlying21
 a21:=Tryz.isAgg21
 z21:=Tryz.sizeOf21
 v21:=Tryz.zeroValue21
 t46:=Tryz.underlying182
 a46:=Tryz.isAgg182
 z46:=Tryz.sizeOf182
 v46:=Tryz.zeroValue182
 t116:=Tryz.underlying143
 a116:=Tryz.isAgg143
 z116:=Tryz.sizeOf143
 t117:=Tryz.underlying144
 a117:=Tryz.isAgg144
 z117:=Tryz.sizeOf144
 v117:=Tryz.zeroValue144
 t124:=Tryz.underlying147
 a124:=Tryz.isAgg147
 z124:=Tryz.sizeOf147
 v124:=Tryz.zeroValue147}
open Go.RowKit Go.Lib in
theorem Tryz.strings_IndexAny_long (akD:∀w,(zeroValue 143).run Tryz.prog w= .ok (.agg (Array.replicate 256 (.bool false))) w) (s chars:ByteArray) (w:World) (h2:2≤chars.size) (h8:8 < s.size) (hs:s.size < 4294967281) (AB:chars.size < 4294967281) (agQ:∀(j:Nat) b,chars.data.toList[j]? =some b→b.toNat < 128):
 Calls Tryz.prog 188 #[.string s,.string chars] w fun e w'=>e= .returned (.int .i64 (Lib.indexAny s.data.toList chars.data.toList))∧w'=((w.alloc (.cells (Lib.setCells chars.data.toList) 143)).alloc (.cells (Lib.setCells chars.data.toList) 143)):=Any.strings_IndexAny_long Tryz.acQ akD (by kernel_rfl) s chars w h2 h8 hs AB agQ
def Tryz.OU:Go.Shelf.Ren:=⟨fun|110=>102|109=>146|n=>n,fun|31=>22|9=>9|4=>4|3=>3|0=>0|n=>n,fun|n=>n⟩
theorem Tryz.Up:Go.Proofs.Lays.n110 Tryz.prog Tryz.OU:={
 mixed:=by kernel_rfl
 f109:=(dK Tryz.func146 (by kernel_rfl))
 f110:=(dK Tryz.func102 (by kernel_rfl))
 t0:=Tryz.underlying0
 a0:=Tryz.isAgg0
 z0:=Tryz.sizeOf0
 v0:=Tryz.zeroValue0
 t3:=Tryz.underlying3
 a3:=Tryz.isAgg3
 z3:=Tryz.sizeOf3
 v3:=Tryz.zeroValue3
 t4:=Tryz.underlying4
 a4:=Tryz.isAgg4
 z4:=Tryz.sizeOf4
 v4:=Tryz.zeroValue4
 t9:=Tryz.underlying9
 a9:=Tryz.isAgg9
 z9:=Tryz.sizeOf9
 v9:=Tryz.zeroValue9
 t31:=Tryz.underlying22
 a31:=Tryz.isAgg22
 z31:=Tryz.sizeOf22
 v31:=Tryz.zeroValue22}
open Go.Lib in
theorem Tryz.slices_Contains_string (b off n c:Nat) (zs:List ByteArray) (x:ByteArray) (w:World) (hz:n≤zs.length) (vC:n≤9223372036854775807) (hc:∀j,j < zs.length→w.cell? ⟨b,off+j,none⟩=some (.string (zs.getD j ByteArray.empty))):
 Calls Tryz.prog 102 #[.slice (some ⟨b,off,none⟩) n c,.string x] w fun e w'=>e= .returned (.bool (Lib.containsS (zs.take n) x))∧w'=w:=Any.slices_Contains_string Tryz.Up b off n c zs x w hz vC hc
open Go.Lib in
theorem Tryz.slices_Contains_string_empty (a:Option Addr) (c:Nat) (x:ByteArray) (w:World):
 Calls Tryz.prog 102 #[.slice a 0 c,.string x] w fun e w'=>e= .returned (.bool false)∧w'=w:=Any.slices_Contains_string_empty Tryz.Up a c x w
def Tryz.OV:Go.Shelf.Ren:=⟨fun|193=>59|n=>n,fun|31=>22|9=>9|4=>4|3=>3|0=>0|n=>n,fun|n=>n⟩
theorem Tryz.Uq:Go.Proofs.Lays.n193 Tryz.prog Tryz.OV:={
 mixed:=by kernel_rfl
 f193:=(dK Tryz.func59 (by kernel_rfl))
 t0:=Tryz.underlying0
 a0:=Tryz.isAgg0
 z0:=Tryz.sizeOf0
 v0:=Tryz.zeroValue0
 t3:=Tryz.underlying3
 a3:=Tryz.isAgg3
 z3:=Tryz.sizeOf3
 v3:=Tryz.zeroValue3
 t4:=Tryz.underlying4
 a4:=Tryz.isAgg4
 z4:=Tryz.sizeOf4
 v4:=Tryz.zeroValue4
 t9:=Tryz.underlying9
 a9:=Tryz.isAgg9
 z9:=Tryz.sizeOf9
 v9:=Tryz.zeroValue9
 t31:=Tryz.underlying22
 a31:=Tryz.isAgg22
 z31:=Tryz.sizeOf22
 v31:=Tryz.zeroValue22}
open Go.RowKit Go.Lib in
theorem Tryz.slices_Equal_string (b1 o1 n c b2 o2 m d:Nat) (xs ys:List ByteArray) (w:World) (hx:n≤xs.length) (hy:m≤ys.length) (vC:n≤9223372036854775807) (YH:m≤9223372036854775807) (Od:∀j,j < xs.length→w.cell? ⟨b1,o1+j,none⟩=some (.string (xs.getD j ByteArray.empty))) (Gm:∀j,j < ys.length→w.cell? ⟨b2,o2+j,none⟩=some (.string (ys.getD j ByteArray.empty))):
 Calls Tryz.prog 59 #[.slice (some ⟨b1,o1,none⟩) n c,.slice (some ⟨b2,o2,none⟩) m d] w fun e w'=>e= .returned (.bool (decide (xs.take n=ys.take m)))∧∃q,w'=w.drewN q:=Any.slices_Equal_string Tryz.Uq b1 o1 n c b2 o2 m d xs ys w hx hy vC YH Od Gm
open Go.RowKit Go.Lib in
theorem Tryz.slices_Equal_string_empty (a1 a2:Option Addr) (c m d:Nat) (w:World) (YH:m≤9223372036854775807):
 Calls Tryz.prog 59 #[.slice a1 0 c,.slice a2 m d] w fun e w'=>e= .returned (.bool (decide (m=0)))∧w'=w:=Any.slices_Equal_string_empty Tryz.Uq a1 a2 c m d w YH
def Tryz.Ki:Go.Shelf.Ren:=⟨fun|16=>43|n=>n,fun|24=>22|9=>9|4=>4|n=>n,fun|n=>n⟩
theorem Tryz.La:Go.Proofs.Lays2.n16 Tryz.prog Tryz.Ki:={
 mixed:=by kernel_rfl
 f16:=(dK Tryz.func43 (by kernel_rfl))
 t4:=Tryz.underlying4
 a4:=Tryz.isAgg4
 z4:=Tryz.sizeOf4
 v4:=Tryz.zeroValue4
 t9:=Tryz.underlying9
 a9:=Tryz.isAgg9
 z9:=Tryz.sizeOf9
 v9:=Tryz.zeroValue9
 t24:=Tryz.underlying22
 a24:=Tryz.isAgg22
 z24:=Tryz.sizeOf22
 v24:=Tryz.zeroValue22
 i9:=by kernel_rfl}
open Go.RowKit Go.Lib in
theorem Tryz.slices_Clone_string (b off n c:Nat) (zs:List ByteArray) (w:World) (hz:n≤zs.length) (vC:n*16≤140737488355328) (hc:∀j,j < zs.length→w.cell? ⟨b,off+j,none⟩=some (.string (zs.getD j ByteArray.empty))):
 Calls Tryz.prog 43 #[.slice (some ⟨b,off,none⟩) n c] w fun e w'=>∃v',e= .returned v'∧w'.ownsRow w.heap.size 9 1 v' n ((zs.take n).map (Value.string))∧v'≠ .slice none 0 0∧Below w.heap.size w w':=Any.slices_Clone_string Tryz.La b off n c zs w hz vC hc
open Go.RowKit Go.Lib in
theorem Tryz.slices_Clone_string_nil (n c:Nat) (w:World):
 Calls Tryz.prog 43 #[.slice none n c] w fun e w'=>e= .returned (.slice none 0 0)∧w'=w:=Any.slices_Clone_string_nil Tryz.La n c w
def Tryz.OW:Go.Shelf.Ren:=⟨fun|185=>120|187=>159|115=>160|253=>161|224=>162|254=>163|255=>193|291=>194|n=>n,fun|37=>25|3=>3|4=>4|0=>0|5=>5|46=>182|9=>9|146=>201|51=>28|n=>n,fun|1=>0|n=>n⟩
theorem Tryz.acR:Go.Proofs.Lays.n185 Tryz.prog Tryz.OW:={
 mixed:=by kernel_rfl
 f115:=(dK Tryz.func160 (by kernel_rfl))
 f185:=(dK Tryz.func120 (by kernel_rfl))
 f187:=(dK Tryz.func159 (by kernel_rfl))
 f224:=(dK Tryz.func162 (by kernel_rfl))
 f253:=(dK Tryz.func161 (by kernel_rfl))
 f254:=(dK Tryz.func163 (by kernel_rfl))
 f255:=(dK Tryz.func193 (by kernel_rfl))
 f291:=(dK Tryz.func194 (by kernel_rfl))
 t0:=Tryz.underlying0
 a0:=Tryz.isAgg0
 z0:=Tryz.sizeOf0
 v0:=Tryz.zeroValue0
 t3:=Tryz.underlying3
 a3:=Tryz.isAgg3
 z3:=Tryz.sizeOf3
 v3:=Tryz.zeroValue3
 t4:=Tryz.underlying4
 a4:=Tryz.isAgg4
 z4:=Tryz.sizeOf4
 v4:=Tryz.zeroValue4
 t5:=Tryz.underlying5
 a5:=Tryz.isAgg5
 z5:=Tryz.sizeOf5
 v5:=Tryz.zeroValue5
 t9:=Tryz.underlying9
 a9:=Tryz.isAgg9
 z9:=Tryz.sizeOf9
 v9:=Tryz.zeroValue9
 t37:=Tryz.underlying25
 a37:=Tryz.isAgg25
 z37:=Tryz.sizeOf25
 v37:=Tryz.zeroValue25
 t46:=Tryz.underlying182
 a46:=Tryz.isAgg182
 z46:=Tryz.sizeOf182
 v46:=Tryz.zeroValue182
 t51:=Tryz.underlying28
 a51:=Tryz.isAgg28
 z51:=Tryz.sizeOf28
 v51:=Tryz.zeroValue28
 t146:=Tryz.underlying201
 a146:=Tryz.isAgg201
 z146:=Tryz.sizeOf201
 v146:=Tryz.zeroValue201
 g1:=by kernel_rfl}
open Go.RowKit Go.Lib in
theorem Tryz.bytes_Index_one_at (a:Addr) (n c b2 o2 d:Nat) (xs:List Int) (cv:Int) (w:World) (hx:xs.length=n) (hc:∀i,i < n→w.cell? (a.add i)=some (.int .u8 (xs.getD i 0))) (Gm:w.cell? ⟨b2,o2,none⟩=some (.int .u8 cv)):
 Calls Tryz.prog 120 #[.slice (some a) n c,.slice (some ⟨b2,o2,none⟩) 1 d] w fun e w'=>e= .returned (.int .i64 (Lib.indexByte (Lib.bytesOf xs) cv.toNat.toUInt8))∧w'=w:=Any.bytes_Index_one_at Tryz.acR a n c b2 o2 d xs cv w hx hc Gm
end Go.Proofs
