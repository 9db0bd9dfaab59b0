import Derived.Shelf.Strings.Builder1
import Derived.Shelf.Strings.Builder2
import Derived.Shelf.Small.Utf8
import Derived.Shelf.Small.Strs
import Derived.Shelf.Strings.BuilderF
import Derived.Shelf.Strings.Search1
import Derived.Shelf.Strings.Search2
import Derived.Shelf.Strings.Search3
import Derived.Shelf.Strings.Count
import Derived.Shelf.LaysM
import Derived.Shelf.Strings.Shaped
import Derived.Shelf.Strings.LastIndex
import Derived.Shelf.Strings.Prefix
import Derived.Shelf.Strings.Split
import Derived.Shelf.Strings.Replace
import Derived.Shelf.Strings.SplitShaped
import Derived.Shelf.Strings.Runes
import Derived.Shelf.Strings.IndexAny
import Derived.Shelf.Strings.AsciiSet
import Derived.Shelf.Strings.IndexAnyAll
import Derived.Shelf.Unicode.DecodeSlow
import Derived.Ground.SlbCloneProg
import Derived.Shelf.Bytes.SlClone
import Derived.Shelf.Bytes.SlEqualAll
import Derived.Shelf.Bytes.Small
import Derived.Test.YtknihldkhedpkaaGreatDoorProg
import Derived.Test.YtknihldkhedpkaaGreatDoorDDW
import Derived.WalkLawsBesides
import Derived.Lib.IndexAny
import Derived.Lib.IndexBytes
import Derived.Laws.RangeString
import Derived.Laws.RangeAny
import Derived.Laws.Strings3
import Derived.Deep.LoopGhost
import Derived.Lib.AsciiSet
import Derived.Lib.Builder
import Derived.Lib.OthersKept
import Derived.Deep.QuietTactic
import Derived.BigQuiet
import Derived.WalkKit
import Derived.WalkMore
import Derived.Shelf.Strings.SplitCore
import Derived.Lib.SplitLaws
set_option linter.all false
set_option maxHeartbeats 16000000
set_option maxRecDepth 100000
section
namespace Go.Proofs
open Go.Shelf
def Tryz.lays169_ren:Go.Shelf.Ren:=⟨fun|169=>155|n=>n,fun|70=>184|9=>9|0=>0|72=>186|37=>27|127=>196|3=>3|5=>5|n=>n,fun|n=>n⟩
theorem Tryz.lays169:Go.Proofs.Lays.n169 Tryz.prog Tryz.lays169_ren:={
 mixed:=by kernel_rfl
 f169:=Tryz.func155.trans (congrArg some aD)
 t0:=Tryz.underlying0
 a0:=Tryz.isAgg0
 z0:=Tryz.sizeOf0
 v0:=Tryz.zeroValue0
 t3:=Tryz.underlying3
 a3:=Tryz.isAgg3
 z3:=Tryz.sizeOf3
 v3:=Tryz.zeroValue3
 t9:=Tryz.underlying9
 a9:=Tryz.isAgg9
 z9:=Tryz.sizeOf9
 v9:=Tryz.zeroValue9
 t37:=Tryz.underlying27
 a37:=Tryz.isAgg27
 z37:=Tryz.sizeOf27
 v37:=Tryz.zeroValue27
 t70:=Tryz.underlying184
 a70:=Tryz.isAgg184
 z70:=Tryz.sizeOf184
 v70:=Tryz.zeroValue184
 t72:=Tryz.underlying186
 a72:=Tryz.isAgg186
 z72:=Tryz.sizeOf186
 v72:=Tryz.zeroValue186
 t127:=Tryz.underlying196
 a127:=Tryz.isAgg196
 z127:=Tryz.sizeOf196
 v127:=Tryz.zeroValue196 }
theorem Tryz.Builder_Extra_169:Builder.Extra Tryz.prog Tryz.lays169_ren:={
 sizeBuilder:=by kernel_rfl
 liesBuilder:=by kernel_rfl
 t5:=Tryz.underlying5
 a5:=Tryz.isAgg5
 z5:=Tryz.sizeOf5
 v5:=Tryz.zeroValue5
 infoByte:=by kernel_rfl
 cellsByte:=by kernel_rfl
 sizeByte:=by kernel_rfl
 neB5:=by decide }
open Go.RowKit in
theorem Tryz.Builder_String_any (B b:Nat) (l:List UInt8) (w:World) (h:Lib.IsBuilder 186 5 B b (Lib.byteCells l) w) (hBw:B≤w.heap.size) :
  Calls Tryz.prog 155 #[.pointer (some ⟨b,0,none⟩)] w fun e w'=>e=.returned (.string ⟨l.toArray⟩)∧Below B w w':=Any.Builder_String_any Tryz.lays169 Tryz.Builder_Extra_169 B b l w h hBw
def Tryz.lays165_ren:Go.Shelf.Ren:=⟨fun|165=>152|240=>162|241=>163|276=>172|277=>173|n=>n,fun|70=>184|3=>3|0=>0|4=>4|9=>9|20=>20|72=>186|37=>27|164=>204|5=>5|n=>n,fun|n=>n⟩
theorem Tryz.lays165:Go.Proofs.Lays.n165 Tryz.prog Tryz.lays165_ren:={
 mixed:=by kernel_rfl
 f165:=Tryz.func152.trans (congrArg some aD)
 f240:=Tryz.func162.trans (congrArg some aD)
 f241:=Tryz.func163.trans (congrArg some aD)
 f276:=Tryz.func172.trans (congrArg some aD)
 f277:=Tryz.func173.trans (congrArg some aD)
 t0:=Tryz.underlying0
 a0:=Tryz.isAgg0
 z0:=Tryz.sizeOf0
 v0:=Tryz.zeroValue0
 t3:=Tryz.underlying3
 a3:=Tryz.isAgg3
 z3:=Tryz.sizeOf3
 v3:=Tryz.zeroValue3
 t4:=Tryz.underlying4
 a4:=Tryz.isAgg4
 z4:=Tryz.sizeOf4
 v4:=Tryz.zeroValue4
 t9:=Tryz.underlying9
 a9:=Tryz.isAgg9
 z9:=Tryz.sizeOf9
 v9:=Tryz.zeroValue9
 t20:=Tryz.underlying20
 a20:=Tryz.isAgg20
 z20:=Tryz.sizeOf20
 v20:=Tryz.zeroValue20
 t37:=Tryz.underlying27
 a37:=Tryz.isAgg27
 z37:=Tryz.sizeOf27
 v37:=Tryz.zeroValue27
 t70:=Tryz.underlying184
 a70:=Tryz.isAgg184
 z70:=Tryz.sizeOf184
 v70:=Tryz.zeroValue184
 t72:=Tryz.underlying186
 a72:=Tryz.isAgg186
 z72:=Tryz.sizeOf186
 v72:=Tryz.zeroValue186
 t164:=Tryz.underlying204
 a164:=Tryz.isAgg204
 z164:=Tryz.sizeOf204
 v164:=Tryz.zeroValue204 }
theorem Tryz.Builder_Extra_165:Builder.Extra Tryz.prog Tryz.lays165_ren:={
 sizeBuilder:=by kernel_rfl
 liesBuilder:=by kernel_rfl
 t5:=Tryz.underlying5
 a5:=Tryz.isAgg5
 z5:=Tryz.sizeOf5
 v5:=Tryz.zeroValue5
 infoByte:=by kernel_rfl
 cellsByte:=by kernel_rfl
 sizeByte:=by kernel_rfl
 neB5:=by decide }
open Go.RowKit in
theorem Tryz.Builder_Grow_fresh (B b n:Nat) (w:World) (hB:B≤b) (hbk:w.heap[b]?=some (.cells #[.pointer none,.slice none 0 0] 186 (0,0))) (hBw:B≤w.heap.size) (hn:n≤281474976710656) :
  Calls Tryz.prog 152 #[.pointer (some ⟨b,0,none⟩),.int .i64 n] w fun e w'=>e=.returned (.tuple #[])∧(Lib.BuilderAt 186 5 B b (.pointer (some ⟨b,0,none⟩)) [] w'∧Below B w w'):=Any.Builder_Grow_fresh Tryz.lays165 Tryz.Builder_Extra_165 B b n w hB hbk hBw hn
def Tryz.lays119_ren:Go.Shelf.Ren:=⟨fun|119=>174|n=>n,fun|21=>21|4=>4|n=>n,fun|n=>n⟩
theorem Tryz.lays119:Go.Proofs.Lays.n119 Tryz.prog Tryz.lays119_ren:={
 mixed:=by kernel_rfl
 f119:=Tryz.func174.trans (congrArg some aD)
 t4:=Tryz.underlying4
 a4:=Tryz.isAgg4
 z4:=Tryz.sizeOf4
 v4:=Tryz.zeroValue4
 t21:=Tryz.underlying21
 a21:=Tryz.isAgg21
 z21:=Tryz.sizeOf21
 v21:=Tryz.zeroValue21 }
theorem Tryz.utf8_ValidRune (r:Int) (w:World) :
  Calls Tryz.prog 174 #[.int .i32 r] w fun e w'=>e=.returned (.bool (Lib.validRune r))∧w'=w:=Any.utf8_ValidRune Tryz.lays119 r w
def Tryz.lays137_ren:Go.Shelf.Ren:=⟨fun|137=>117|217=>141|266=>150|n=>n,fun|9=>9|5=>5|3=>3|n=>n,fun|n=>n⟩
theorem Tryz.lays137:Go.Proofs.Lays.n137 Tryz.prog Tryz.lays137_ren:={
 mixed:=by kernel_rfl
 f137:=Tryz.func117.trans (congrArg some aD)
 f217:=Tryz.func141.trans (congrArg some aD)
 f266:=Tryz.func150.trans (congrArg some aD)
 t3:=Tryz.underlying3
 a3:=Tryz.isAgg3
 z3:=Tryz.sizeOf3
 v3:=Tryz.zeroValue3
 t5:=Tryz.underlying5
 a5:=Tryz.isAgg5
 z5:=Tryz.sizeOf5
 v5:=Tryz.zeroValue5
 t9:=Tryz.underlying9
 a9:=Tryz.isAgg9
 z9:=Tryz.sizeOf9
 v9:=Tryz.zeroValue9 }
open Go.RowKit in
theorem Tryz.strings_IndexByte (s:ByteArray) (c:Int) (w:World) :
  Calls Tryz.prog 117 #[.string s,.int .u8 c] w fun e w'=>e=.returned (.int .i64 (Lib.indexByte s.data.toList c.toNat.toUInt8))∧w'=w:=Any.strings_IndexByte Tryz.lays137 s c w
def Tryz.lays219_ren:Go.Shelf.Ren:=⟨fun|219=>158|217=>141|225=>169|224=>170|267=>171|266=>150|314=>175|n=>n,fun|9=>9|3=>3|4=>4|5=>5|46=>130|146=>212|51=>150|n=>n,fun|1=>0|n=>n⟩
def Tryz.lays143_ren:Go.Shelf.Ren:=⟨fun|143=>148|219=>158|217=>141|225=>169|224=>170|267=>171|266=>150|314=>175|n=>n,fun|9=>9|3=>3|4=>4|5=>5|46=>130|146=>212|51=>150|n=>n,fun|1=>0|n=>n⟩
theorem Tryz.lays143:Go.Proofs.Lays.n143 Tryz.prog Tryz.lays143_ren:={
 mixed:=by kernel_rfl
 f143:=Tryz.func148.trans (congrArg some aD)
 f217:=Tryz.func141.trans (congrArg some aD)
 f219:=Tryz.func158.trans (congrArg some aD)
 f224:=Tryz.func170.trans (congrArg some aD)
 f225:=Tryz.func169.trans (congrArg some aD)
 f266:=Tryz.func150.trans (congrArg some aD)
 f267:=Tryz.func171.trans (congrArg some aD)
 f314:=Tryz.func175.trans (congrArg some aD)
 t3:=Tryz.underlying3
 a3:=Tryz.isAgg3
 z3:=Tryz.sizeOf3
 v3:=Tryz.zeroValue3
 t4:=Tryz.underlying4
 a4:=Tryz.isAgg4
 z4:=Tryz.sizeOf4
 v4:=Tryz.zeroValue4
 t5:=Tryz.underlying5
 a5:=Tryz.isAgg5
 z5:=Tryz.sizeOf5
 v5:=Tryz.zeroValue5
 t9:=Tryz.underlying9
 a9:=Tryz.isAgg9
 z9:=Tryz.sizeOf9
 v9:=Tryz.zeroValue9
 t46:=Tryz.underlying130
 a46:=Tryz.isAgg130
 z46:=Tryz.sizeOf130
 v46:=Tryz.zeroValue130
 t51:=Tryz.underlying150
 a51:=Tryz.isAgg150
 z51:=Tryz.sizeOf150
 v51:=Tryz.zeroValue150
 t146:=Tryz.underlying212
 a146:=Tryz.isAgg212
 z146:=Tryz.sizeOf212
 v146:=Tryz.zeroValue212
 g1:=by kernel_rfl }
open Go.RowKit Go.Lib in
theorem Tryz.strings_Index_one (s:ByteArray) (c:UInt8) (w:World) :
  Calls Tryz.prog 148 #[.string s,.string ⟨#[c]⟩] w fun e w'=>e=.returned (.int .i64 (Lib.indexByte s.data.toList c))∧w'=w:=Any.strings_Index_one Tryz.lays143 s c w
def Tryz.lays144_ren:Go.Shelf.Ren:=⟨fun|144=>135|143=>148|219=>158|217=>141|225=>169|224=>170|267=>171|266=>150|314=>175|n=>n,fun|9=>9|4=>4|3=>3|5=>5|46=>130|146=>212|51=>150|n=>n,fun|1=>0|n=>n⟩
theorem Tryz.lays144:Go.Proofs.Lays.n144 Tryz.prog Tryz.lays144_ren:={
 mixed:=by kernel_rfl
 f143:=Tryz.func148.trans (congrArg some aD)
 f144:=Tryz.func135.trans (congrArg some aD)
 f217:=Tryz.func141.trans (congrArg some aD)
 f219:=Tryz.func158.trans (congrArg some aD)
 f224:=Tryz.func170.trans (congrArg some aD)
 f225:=Tryz.func169.trans (congrArg some aD)
 f266:=Tryz.func150.trans (congrArg some aD)
 f267:=Tryz.func171.trans (congrArg some aD)
 f314:=Tryz.func175.trans (congrArg some aD)
 t3:=Tryz.underlying3
 a3:=Tryz.isAgg3
 z3:=Tryz.sizeOf3
 v3:=Tryz.zeroValue3
 t4:=Tryz.underlying4
 a4:=Tryz.isAgg4
 z4:=Tryz.sizeOf4
 v4:=Tryz.zeroValue4
 t5:=Tryz.underlying5
 a5:=Tryz.isAgg5
 z5:=Tryz.sizeOf5
 v5:=Tryz.zeroValue5
 t9:=Tryz.underlying9
 a9:=Tryz.isAgg9
 z9:=Tryz.sizeOf9
 v9:=Tryz.zeroValue9
 t46:=Tryz.underlying130
 a46:=Tryz.isAgg130
 z46:=Tryz.sizeOf130
 v46:=Tryz.zeroValue130
 t51:=Tryz.underlying150
 a51:=Tryz.isAgg150
 z51:=Tryz.sizeOf150
 v51:=Tryz.zeroValue150
 t146:=Tryz.underlying212
 a146:=Tryz.isAgg212
 z146:=Tryz.sizeOf212
 v146:=Tryz.zeroValue212
 g1:=by kernel_rfl }
open Go.RowKit Go.Lib in
theorem Tryz.strings_Contains_one (s:ByteArray) (c:UInt8) (w:World) :
  Calls Tryz.prog 135 #[.string s,.string ⟨#[c]⟩] w fun e w'=>e=.returned (.bool (decide (0≤Lib.indexByte s.data.toList c)))∧w'=w:=Any.strings_Contains_one Tryz.lays144 s c w
def Tryz.lays138_ren:Go.Shelf.Ren:=⟨fun|138=>151|195=>160|218=>161|143=>148|219=>158|217=>141|225=>169|224=>170|267=>171|266=>150|314=>175|n=>n,fun|9=>9|3=>3|4=>4|5=>5|0=>0|46=>130|146=>212|51=>150|n=>n,fun|1=>0|n=>n⟩
theorem Tryz.lays138:Go.Proofs.Lays.n138 Tryz.prog Tryz.lays138_ren:={
 mixed:=by kernel_rfl
 f138:=Tryz.func151.trans (congrArg some aD)
 f143:=Tryz.func148.trans (congrArg some aD)
 f195:=Tryz.func160.trans (congrArg some aD)
 f217:=Tryz.func141.trans (congrArg some aD)
 f218:=Tryz.func161.trans (congrArg some aD)
 f219:=Tryz.func158.trans (congrArg some aD)
 f224:=Tryz.func170.trans (congrArg some aD)
 f225:=Tryz.func169.trans (congrArg some aD)
 f266:=Tryz.func150.trans (congrArg some aD)
 f267:=Tryz.func171.trans (congrArg some aD)
 f314:=Tryz.func175.trans (congrArg some aD)
 t0:=Tryz.underlying0
 a0:=Tryz.isAgg0
 z0:=Tryz.sizeOf0
 v0:=Tryz.zeroValue0
 t3:=Tryz.underlying3
 a3:=Tryz.isAgg3
 z3:=Tryz.sizeOf3
 v3:=Tryz.zeroValue3
 t4:=Tryz.underlying4
 a4:=Tryz.isAgg4
 z4:=Tryz.sizeOf4
 v4:=Tryz.zeroValue4
 t5:=Tryz.underlying5
 a5:=Tryz.isAgg5
 z5:=Tryz.sizeOf5
 v5:=Tryz.zeroValue5
 t9:=Tryz.underlying9
 a9:=Tryz.isAgg9
 z9:=Tryz.sizeOf9
 v9:=Tryz.zeroValue9
 t46:=Tryz.underlying130
 a46:=Tryz.isAgg130
 z46:=Tryz.sizeOf130
 v46:=Tryz.zeroValue130
 t51:=Tryz.underlying150
 a51:=Tryz.isAgg150
 z51:=Tryz.sizeOf150
 v51:=Tryz.zeroValue150
 t146:=Tryz.underlying212
 a146:=Tryz.isAgg212
 z146:=Tryz.sizeOf212
 v146:=Tryz.zeroValue212
 g1:=by kernel_rfl }
open Go.RowKit Go.Lib in
theorem Tryz.strings_Count_one (s:ByteArray) (c:UInt8) (w:World) :
  Calls Tryz.prog 151 #[.string s,.string ⟨#[c]⟩] w fun e w'=>e=.returned (.int .i64 (Lib.countByte s.data.toList c))∧w'=w:=Any.strings_Count_one Tryz.lays138 s c w
def Tryz.lays222_ren:Go.Shelf.Ren:=⟨fun|222=>140|n=>n,fun|9=>9|5=>5|3=>3|4=>4|n=>n,fun|n=>n⟩
def Tryz.lays149_ren:Go.Shelf.Ren:=⟨fun|149=>115|222=>140|n=>n,fun|9=>9|5=>5|3=>3|4=>4|n=>n,fun|n=>n⟩
theorem Tryz.lays149:Go.Proofs.Lays.n149 Tryz.prog Tryz.lays149_ren:={
 mixed:=by kernel_rfl
 f149:=Tryz.func115.trans (congrArg some aD)
 f222:=Tryz.func140.trans (congrArg some aD)
 t3:=Tryz.underlying3
 a3:=Tryz.isAgg3
 z3:=Tryz.sizeOf3
 v3:=Tryz.zeroValue3
 t4:=Tryz.underlying4
 a4:=Tryz.isAgg4
 z4:=Tryz.sizeOf4
 v4:=Tryz.zeroValue4
 t5:=Tryz.underlying5
 a5:=Tryz.isAgg5
 z5:=Tryz.sizeOf5
 v5:=Tryz.zeroValue5
 t9:=Tryz.underlying9
 a9:=Tryz.isAgg9
 z9:=Tryz.sizeOf9
 v9:=Tryz.zeroValue9 }
open Go.RowKit Go.Lib in
theorem Tryz.strings_LastIndexByte (s:ByteArray) (c:Int) (hs:s.size<4611686018427387904) (w:World) :
  Calls Tryz.prog 115 #[.string s,.int .u8 c] w fun e w'=>e=.returned (.int .i64 (Lib.lastIndexByte s c))∧w'=w:=Any.strings_LastIndexByte Tryz.lays149 s c hs w
def Tryz.lays206_ren:Go.Shelf.Ren:=⟨fun|206=>144|n=>n,fun|9=>9|4=>4|3=>3|n=>n,fun|n=>n⟩
theorem Tryz.lays206:Go.Proofs.Lays.n206 Tryz.prog Tryz.lays206_ren:={
 mixed:=by kernel_rfl
 f206:=Tryz.func144.trans (congrArg some aD)
 t3:=Tryz.underlying3
 a3:=Tryz.isAgg3
 z3:=Tryz.sizeOf3
 v3:=Tryz.zeroValue3
 t4:=Tryz.underlying4
 a4:=Tryz.isAgg4
 z4:=Tryz.sizeOf4
 v4:=Tryz.zeroValue4
 t9:=Tryz.underlying9
 a9:=Tryz.isAgg9
 z9:=Tryz.sizeOf9
 v9:=Tryz.zeroValue9 }
open Go.RowKit Go.Lib in
theorem Tryz.stringslite_HasPrefix (s p:ByteArray) (w:World) :
  Calls Tryz.prog 144 #[.string s,.string p] w fun e w'=>e=.returned (.bool (Lib.hasPrefix s.data.toList p.data.toList))∧w'=w:=Any.stringslite_HasPrefix Tryz.lays206 s p w
def Tryz.lays99_ren:Go.Shelf.Ren:=⟨fun|99=>130|206=>144|n=>n,fun|9=>9|4=>4|3=>3|n=>n,fun|n=>n⟩
theorem Tryz.lays99:Go.Proofs.Lays.n99 Tryz.prog Tryz.lays99_ren:={
 mixed:=by kernel_rfl
 f99:=Tryz.func130.trans (congrArg some aD)
 f206:=Tryz.func144.trans (congrArg some aD)
 t3:=Tryz.underlying3
 a3:=Tryz.isAgg3
 z3:=Tryz.sizeOf3
 v3:=Tryz.zeroValue3
 t4:=Tryz.underlying4
 a4:=Tryz.isAgg4
 z4:=Tryz.sizeOf4
 v4:=Tryz.zeroValue4
 t9:=Tryz.underlying9
 a9:=Tryz.isAgg9
 z9:=Tryz.sizeOf9
 v9:=Tryz.zeroValue9 }
open Go.RowKit Go.Lib in
theorem Tryz.strings_HasPrefix (s p:ByteArray) (w:World) :
  Calls Tryz.prog 130 #[.string s,.string p] w fun e w'=>e=.returned (.bool (Lib.hasPrefix s.data.toList p.data.toList))∧w'=w:=Any.strings_HasPrefix Tryz.lays99 s p w
def Tryz.lays221_ren:Go.Shelf.Ren:=⟨fun|221=>149|268=>159|138=>151|143=>148|195=>160|197=>154|218=>161|219=>158|260=>164|217=>141|225=>169|224=>170|267=>171|266=>150|314=>175|n=>n,fun|9=>9|3=>3|31=>73|4=>4|0=>0|105=>192|21=>21|5=>5|46=>130|119=>206|139=>209|138=>208|146=>212|51=>150|n=>n,fun|1=>0|3=>1|4=>2|n=>n⟩
theorem Tryz.lays221:Go.Proofs.Lays.n221 Tryz.prog Tryz.lays221_ren:={
 mixed:=by kernel_rfl
 f138:=Tryz.func151.trans (congrArg some aD)
 f143:=Tryz.func148.trans (congrArg some aD)
 f195:=Tryz.func160.trans (congrArg some aD)
 f197:=Tryz.func154.trans (congrArg some aD)
 f217:=Tryz.func141.trans (congrArg some aD)
 f218:=Tryz.func161.trans (congrArg some aD)
 f219:=Tryz.func158.trans (congrArg some aD)
 f221:=Tryz.func149.trans (congrArg some aD)
 f224:=Tryz.func170.trans (congrArg some aD)
 f225:=Tryz.func169.trans (congrArg some aD)
 f260:=Tryz.func164.trans (congrArg some aD)
 f266:=Tryz.func150.trans (congrArg some aD)
 f267:=Tryz.func171.trans (congrArg some aD)
 f268:=Tryz.func159.trans (congrArg some aD)
 f314:=Tryz.func175.trans (congrArg some aD)
 t0:=Tryz.underlying0
 a0:=Tryz.isAgg0
 z0:=Tryz.sizeOf0
 v0:=Tryz.zeroValue0
 t3:=Tryz.underlying3
 a3:=Tryz.isAgg3
 z3:=Tryz.sizeOf3
 v3:=Tryz.zeroValue3
 t4:=Tryz.underlying4
 a4:=Tryz.isAgg4
 z4:=Tryz.sizeOf4
 v4:=Tryz.zeroValue4
 t5:=Tryz.underlying5
 a5:=Tryz.isAgg5
 z5:=Tryz.sizeOf5
 v5:=Tryz.zeroValue5
 t9:=Tryz.underlying9
 a9:=Tryz.isAgg9
 z9:=Tryz.sizeOf9
 v9:=Tryz.zeroValue9
 t21:=Tryz.underlying21
 a21:=Tryz.isAgg21
 z21:=Tryz.sizeOf21
 v21:=Tryz.zeroValue21
 t31:=Tryz.underlying73
 a31:=Tryz.isAgg73
 z31:=Tryz.sizeOf73
 v31:=Tryz.zeroValue73
 t46:=Tryz.underlying130
 a46:=Tryz.isAgg130
 z46:=Tryz.sizeOf130
 v46:=Tryz.zeroValue130
 t51:=Tryz.underlying150
 a51:=Tryz.isAgg150
 z51:=Tryz.sizeOf150
 v51:=Tryz.zeroValue150
 t105:=Tryz.underlying192
 a105:=Tryz.isAgg192
 z105:=Tryz.sizeOf192
 v105:=Tryz.zeroValue192
 t119:=Tryz.underlying206
 a119:=Tryz.isAgg206
 z119:=Tryz.sizeOf206
 t138:=Tryz.underlying208
 a138:=Tryz.isAgg208
 z138:=Tryz.sizeOf208
 v138:=Tryz.zeroValue208
 t139:=Tryz.underlying209
 a139:=Tryz.isAgg209
 z139:=Tryz.sizeOf209
 v139:=Tryz.zeroValue209
 t146:=Tryz.underlying212
 a146:=Tryz.isAgg212
 z146:=Tryz.sizeOf212
 v146:=Tryz.zeroValue212
 g1:=by kernel_rfl
 g3:=by kernel_rfl
 g4:=by kernel_rfl }
def Tryz.lays146_ren:Go.Shelf.Ren:=⟨fun|146=>139|221=>149|268=>159|138=>151|143=>148|195=>160|197=>154|218=>161|219=>158|260=>164|217=>141|225=>169|224=>170|267=>171|266=>150|314=>175|n=>n,fun|9=>9|31=>73|3=>3|4=>4|0=>0|105=>192|21=>21|5=>5|46=>130|119=>206|139=>209|138=>208|146=>212|51=>150|n=>n,fun|1=>0|3=>1|4=>2|n=>n⟩
theorem Tryz.lays146:Go.Proofs.Lays.n146 Tryz.prog Tryz.lays146_ren:={
 mixed:=by kernel_rfl
 f138:=Tryz.func151.trans (congrArg some aD)
 f143:=Tryz.func148.trans (congrArg some aD)
 f146:=Tryz.func139.trans (congrArg some aD)
 f195:=Tryz.func160.trans (congrArg some aD)
 f197:=Tryz.func154.trans (congrArg some aD)
 f217:=Tryz.func141.trans (congrArg some aD)
 f218:=Tryz.func161.trans (congrArg some aD)
 f219:=Tryz.func158.trans (congrArg some aD)
 f221:=Tryz.func149.trans (congrArg some aD)
 f224:=Tryz.func170.trans (congrArg some aD)
 f225:=Tryz.func169.trans (congrArg some aD)
 f260:=Tryz.func164.trans (congrArg some aD)
 f266:=Tryz.func150.trans (congrArg some aD)
 f267:=Tryz.func171.trans (congrArg some aD)
 f268:=Tryz.func159.trans (congrArg some aD)
 f314:=Tryz.func175.trans (congrArg some aD)
 t0:=Tryz.underlying0
 a0:=Tryz.isAgg0
 z0:=Tryz.sizeOf0
 v0:=Tryz.zeroValue0
 t3:=Tryz.underlying3
 a3:=Tryz.isAgg3
 z3:=Tryz.sizeOf3
 v3:=Tryz.zeroValue3
 t4:=Tryz.underlying4
 a4:=Tryz.isAgg4
 z4:=Tryz.sizeOf4
 v4:=Tryz.zeroValue4
 t5:=Tryz.underlying5
 a5:=Tryz.isAgg5
 z5:=Tryz.sizeOf5
 v5:=Tryz.zeroValue5
 t9:=Tryz.underlying9
 a9:=Tryz.isAgg9
 z9:=Tryz.sizeOf9
 v9:=Tryz.zeroValue9
 t21:=Tryz.underlying21
 a21:=Tryz.isAgg21
 z21:=Tryz.sizeOf21
 v21:=Tryz.zeroValue21
 t31:=Tryz.underlying73
 a31:=Tryz.isAgg73
 z31:=Tryz.sizeOf73
 v31:=Tryz.zeroValue73
 t46:=Tryz.underlying130
 a46:=Tryz.isAgg130
 z46:=Tryz.sizeOf130
 v46:=Tryz.zeroValue130
 t51:=Tryz.underlying150
 a51:=Tryz.isAgg150
 z51:=Tryz.sizeOf150
 v51:=Tryz.zeroValue150
 t105:=Tryz.underlying192
 a105:=Tryz.isAgg192
 z105:=Tryz.sizeOf192
 v105:=Tryz.zeroValue192
 t119:=Tryz.underlying206
 a119:=Tryz.isAgg206
 z119:=Tryz.sizeOf206
 t138:=Tryz.underlying208
 a138:=Tryz.isAgg208
 z138:=Tryz.sizeOf208
 v138:=Tryz.zeroValue208
 t139:=Tryz.underlying209
 a139:=Tryz.isAgg209
 z139:=Tryz.sizeOf209
 v139:=Tryz.zeroValue209
 t146:=Tryz.underlying212
 a146:=Tryz.isAgg212
 z146:=Tryz.sizeOf212
 v146:=Tryz.zeroValue212
 g1:=by kernel_rfl
 g3:=by kernel_rfl
 g4:=by kernel_rfl }
open Go.RowKit Go.Lib in
theorem Tryz.strings_Split (s sep:ByteArray) (m:Int) (w:World) (hs:s.size<4294967281) (hm:w.cell? ⟨0,0,none⟩=some (.int .i64 m)) (h1:1≤sep.size) :
  Calls Tryz.prog 139 #[.string s,.string sep] w fun e w'=>
   e=.returned (.slice (some ⟨w.heap.size,0,none⟩) (Lib.countB s sep+1) (Lib.countB s sep+1))∧w'=w.alloc (.cells ((Lib.splitB sep 0 (Lib.countB s sep) s).map Value.string).toArray 9):=Any.strings_Split Tryz.lays146 aD s sep m w hs hm h1
def Tryz.lays154_ren:Go.Shelf.Ren:=⟨fun|154=>142|138=>151|165=>152|143=>148|166=>153|197=>154|169=>155|195=>160|218=>161|240=>162|241=>163|219=>158|260=>164|276=>172|277=>173|217=>141|225=>169|224=>170|267=>171|266=>150|314=>175|n=>n,fun|9=>9|3=>3|4=>4|72=>186|0=>0|76=>190|105=>192|21=>21|5=>5|70=>184|20=>20|37=>27|75=>189|127=>196|164=>204|46=>130|119=>206|139=>209|138=>208|146=>212|51=>150|80=>166|n=>n,fun|1=>0|3=>1|4=>2|n=>n⟩
theorem Tryz.lays154:Go.Proofs.Lays.n154 Tryz.prog Tryz.lays154_ren:={
 mixed:=by kernel_rfl
 f138:=Tryz.func151.trans (congrArg some aD)
 f143:=Tryz.func148.trans (congrArg some aD)
 f154:=Tryz.func142.trans (congrArg some aD)
 f165:=Tryz.func152.trans (congrArg some aD)
 f166:=Tryz.func153.trans (congrArg some aD)
 f169:=Tryz.func155.trans (congrArg some aD)
 f195:=Tryz.func160.trans (congrArg some aD)
 f197:=Tryz.func154.trans (congrArg some aD)
 f217:=Tryz.func141.trans (congrArg some aD)
 f218:=Tryz.func161.trans (congrArg some aD)
 f219:=Tryz.func158.trans (congrArg some aD)
 f224:=Tryz.func170.trans (congrArg some aD)
 f225:=Tryz.func169.trans (congrArg some aD)
 f240:=Tryz.func162.trans (congrArg some aD)
 f241:=Tryz.func163.trans (congrArg some aD)
 f260:=Tryz.func164.trans (congrArg some aD)
 f266:=Tryz.func150.trans (congrArg some aD)
 f267:=Tryz.func171.trans (congrArg some aD)
 f276:=Tryz.func172.trans (congrArg some aD)
 f277:=Tryz.func173.trans (congrArg some aD)
 f314:=Tryz.func175.trans (congrArg some aD)
 t0:=Tryz.underlying0
 a0:=Tryz.isAgg0
 z0:=Tryz.sizeOf0
 v0:=Tryz.zeroValue0
 t3:=Tryz.underlying3
 a3:=Tryz.isAgg3
 z3:=Tryz.sizeOf3
 v3:=Tryz.zeroValue3
 t4:=Tryz.underlying4
 a4:=Tryz.isAgg4
 z4:=Tryz.sizeOf4
 v4:=Tryz.zeroValue4
 t5:=Tryz.underlying5
 a5:=Tryz.isAgg5
 z5:=Tryz.sizeOf5
 v5:=Tryz.zeroValue5
 t9:=Tryz.underlying9
 a9:=Tryz.isAgg9
 z9:=Tryz.sizeOf9
 v9:=Tryz.zeroValue9
 t20:=Tryz.underlying20
 a20:=Tryz.isAgg20
 z20:=Tryz.sizeOf20
 v20:=Tryz.zeroValue20
 t21:=Tryz.underlying21
 a21:=Tryz.isAgg21
 z21:=Tryz.sizeOf21
 v21:=Tryz.zeroValue21
 t37:=Tryz.underlying27
 a37:=Tryz.isAgg27
 z37:=Tryz.sizeOf27
 v37:=Tryz.zeroValue27
 t46:=Tryz.underlying130
 a46:=Tryz.isAgg130
 z46:=Tryz.sizeOf130
 v46:=Tryz.zeroValue130
 t51:=Tryz.underlying150
 a51:=Tryz.isAgg150
 z51:=Tryz.sizeOf150
 v51:=Tryz.zeroValue150
 t70:=Tryz.underlying184
 a70:=Tryz.isAgg184
 z70:=Tryz.sizeOf184
 v70:=Tryz.zeroValue184
 t72:=Tryz.underlying186
 a72:=Tryz.isAgg186
 z72:=Tryz.sizeOf186
 v72:=Tryz.zeroValue186
 t75:=Tryz.underlying189
 a75:=Tryz.isAgg189
 z75:=Tryz.sizeOf189
 v75:=Tryz.zeroValue189
 t76:=Tryz.underlying190
 a76:=Tryz.isAgg190
 z76:=Tryz.sizeOf190
 v76:=Tryz.zeroValue190
 t105:=Tryz.underlying192
 a105:=Tryz.isAgg192
 z105:=Tryz.sizeOf192
 v105:=Tryz.zeroValue192
 t119:=Tryz.underlying206
 a119:=Tryz.isAgg206
 z119:=Tryz.sizeOf206
 t127:=Tryz.underlying196
 a127:=Tryz.isAgg196
 z127:=Tryz.sizeOf196
 v127:=Tryz.zeroValue196
 t138:=Tryz.underlying208
 a138:=Tryz.isAgg208
 z138:=Tryz.sizeOf208
 v138:=Tryz.zeroValue208
 t139:=Tryz.underlying209
 a139:=Tryz.isAgg209
 z139:=Tryz.sizeOf209
 v139:=Tryz.zeroValue209
 t146:=Tryz.underlying212
 a146:=Tryz.isAgg212
 z146:=Tryz.sizeOf212
 v146:=Tryz.zeroValue212
 t164:=Tryz.underlying204
 a164:=Tryz.isAgg204
 z164:=Tryz.sizeOf204
 v164:=Tryz.zeroValue204
 g1:=by kernel_rfl
 g3:=by kernel_rfl
 g4:=by kernel_rfl }
theorem Tryz.Builder_Extra_154:Builder.Extra Tryz.prog Tryz.lays154_ren:={
 sizeBuilder:=by kernel_rfl
 liesBuilder:=by kernel_rfl
 t5:=Tryz.underlying5
 a5:=Tryz.isAgg5
 z5:=Tryz.sizeOf5
 v5:=Tryz.zeroValue5
 infoByte:=by kernel_rfl
 cellsByte:=by kernel_rfl
 sizeByte:=by kernel_rfl
 neB5:=by decide }
def Tryz.lays152_ren:Go.Shelf.Ren:=⟨fun|152=>165|137=>117|119=>174|224=>170|225=>169|217=>141|266=>150|n=>n,fun|9=>9|21=>21|3=>3|4=>4|5=>5|0=>0|46=>130|n=>n,fun|n=>n⟩
theorem Tryz.lays152:Go.Proofs.Lays.n152 Tryz.prog Tryz.lays152_ren:={
 mixed:=by kernel_rfl
 f119:=Tryz.func174.trans (congrArg some aD)
 f137:=Tryz.func117.trans (congrArg some aD)
 f152:=Tryz.func165.trans (congrArg some aD)
 f217:=Tryz.func141.trans (congrArg some aD)
 f224:=Tryz.func170.trans (congrArg some aD)
 f225:=Tryz.func169.trans (congrArg some aD)
 f266:=Tryz.func150.trans (congrArg some aD)
 t0:=Tryz.underlying0
 a0:=Tryz.isAgg0
 z0:=Tryz.sizeOf0
 v0:=Tryz.zeroValue0
 t3:=Tryz.underlying3
 a3:=Tryz.isAgg3
 z3:=Tryz.sizeOf3
 v3:=Tryz.zeroValue3
 t4:=Tryz.underlying4
 a4:=Tryz.isAgg4
 z4:=Tryz.sizeOf4
 v4:=Tryz.zeroValue4
 t5:=Tryz.underlying5
 a5:=Tryz.isAgg5
 z5:=Tryz.sizeOf5
 v5:=Tryz.zeroValue5
 t9:=Tryz.underlying9
 a9:=Tryz.isAgg9
 z9:=Tryz.sizeOf9
 v9:=Tryz.zeroValue9
 t21:=Tryz.underlying21
 a21:=Tryz.isAgg21
 z21:=Tryz.sizeOf21
 v21:=Tryz.zeroValue21
 t46:=Tryz.underlying130
 a46:=Tryz.isAgg130
 z46:=Tryz.sizeOf130
 v46:=Tryz.zeroValue130 }
open Go.RowKit Go.Lib in
theorem Tryz.strings_IndexRune_ascii (s:ByteArray) (r:Int) (w:World) (h0:0≤r) (h1:r<128) :
  Calls Tryz.prog 165 #[.string s,.int .i32 r] w fun e w'=>e=.returned (.int .i64 (Lib.indexByte s.data.toList r.toNat.toUInt8))∧w'=w:=Any.strings_IndexRune_ascii Tryz.lays152 s r w h0 h1
def Tryz.lays226_ren:Go.Shelf.Ren:=⟨fun|226=>166|n=>n,fun|3=>3|4=>4|n=>n,fun|n=>n⟩
theorem Tryz.lays226:Go.Proofs.Lays.n226 Tryz.prog Tryz.lays226_ren:={
 mixed:=by kernel_rfl
 f226:=Tryz.func166.trans (congrArg some aD)
 t3:=Tryz.underlying3
 a3:=Tryz.isAgg3
 z3:=Tryz.sizeOf3
 v3:=Tryz.zeroValue3
 t4:=Tryz.underlying4
 a4:=Tryz.isAgg4
 z4:=Tryz.sizeOf4
 v4:=Tryz.zeroValue4 }
open Go.RowKit Go.Lib in
theorem Tryz.strings_shouldUseASCIISet (n:Int) (w:World) :
  Calls Tryz.prog 166 #[.int .i64 n] w fun e w'=>e=.returned (.bool (decide (8<n)))∧w'=w:=Any.strings_shouldUseASCIISet Tryz.lays226 n w
def Tryz.lays227_ren:Go.Shelf.Ren:=⟨fun|227=>167|n=>n,fun|9=>9|116=>200|4=>4|0=>0|3=>3|5=>5|n=>n,fun|n=>n⟩
theorem Tryz.lays227:Go.Proofs.Lays.n227 Tryz.prog Tryz.lays227_ren:={
 mixed:=by kernel_rfl
 f227:=Tryz.func167.trans (congrArg some aD)
 t0:=Tryz.underlying0
 a0:=Tryz.isAgg0
 z0:=Tryz.sizeOf0
 v0:=Tryz.zeroValue0
 t3:=Tryz.underlying3
 a3:=Tryz.isAgg3
 z3:=Tryz.sizeOf3
 v3:=Tryz.zeroValue3
 t4:=Tryz.underlying4
 a4:=Tryz.isAgg4
 z4:=Tryz.sizeOf4
 v4:=Tryz.zeroValue4
 t5:=Tryz.underlying5
 a5:=Tryz.isAgg5
 z5:=Tryz.sizeOf5
 v5:=Tryz.zeroValue5
 t9:=Tryz.underlying9
 a9:=Tryz.isAgg9
 z9:=Tryz.sizeOf9
 v9:=Tryz.zeroValue9
 t116:=Tryz.underlying200
 a116:=Tryz.isAgg200
 z116:=Tryz.sizeOf200 }
open Go.RowKit Go.Lib in
theorem Tryz.strings_makeASCIISet (hv116:∀w,(zeroValue 200).run Tryz.prog w=.ok (.agg (Array.replicate 256 (.bool false))) w) (chars:ByteArray) (w:World) (hs:chars.size<4294967281) (hascii:∀(j:Nat) b,chars.data.toList[j]?=some b→b.toNat<128) :
  Calls Tryz.prog 167 #[.string chars] w fun e w'=>e=.returned (.tuple #[.agg (Lib.setCells chars.data.toList),.bool true])∧w'=w.alloc (.cells (Lib.setCells chars.data.toList) 200):=Any.strings_makeASCIISet Tryz.lays227 hv116 aD chars w hs hascii
def Tryz.lays228_ren:Go.Shelf.Ren:=⟨fun|228=>168|n=>n,fun|124=>211|5=>5|4=>4|0=>0|116=>200|n=>n,fun|n=>n⟩
theorem Tryz.lays228:Go.Proofs.Lays.n228 Tryz.prog Tryz.lays228_ren:={
 mixed:=by kernel_rfl
 f228:=Tryz.func168.trans (congrArg some aD)
 t0:=Tryz.underlying0
 a0:=Tryz.isAgg0
 z0:=Tryz.sizeOf0
 v0:=Tryz.zeroValue0
 t4:=Tryz.underlying4
 a4:=Tryz.isAgg4
 z4:=Tryz.sizeOf4
 v4:=Tryz.zeroValue4
 t5:=Tryz.underlying5
 a5:=Tryz.isAgg5
 z5:=Tryz.sizeOf5
 v5:=Tryz.zeroValue5
 t116:=Tryz.underlying200
 a116:=Tryz.isAgg200
 z116:=Tryz.sizeOf200
 t124:=Tryz.underlying211
 a124:=Tryz.isAgg211
 z124:=Tryz.sizeOf211
 v124:=Tryz.zeroValue211 }
open Go.RowKit Go.Lib in
theorem Tryz.asciiSet_contains (b:Nat) (x:UInt8) (v:Bool) (w:World) (hc:w.cell? ⟨b,x.toNat,none⟩=some (.bool v)) :
  Calls Tryz.prog 168 #[.pointer (some ⟨b,0,none⟩),.int .u8 x.toNat] w fun e w'=>e=.returned (.bool v)∧w'=w:=Any.asciiSet_contains Tryz.lays228 b x v w hc
def Tryz.laysSlK4_ren:Go.Shelf.Ren:=⟨fun|4=>143|n=>n,fun|22=>27|4=>4|5=>5|n=>n,fun|n=>n⟩
theorem Tryz.laysSlK4:Go.Proofs.SlLaysK.n4 Tryz.prog Tryz.laysSlK4_ren:={
 mixed:=by kernel_rfl
 f4:=Tryz.func143.trans (congrArg some aD)
 t4:=Tryz.underlying4
 a4:=Tryz.isAgg4
 z4:=Tryz.sizeOf4
 v4:=Tryz.zeroValue4
 t22:=Tryz.underlying27
 a22:=Tryz.isAgg27
 z22:=Tryz.sizeOf27
 v22:=Tryz.zeroValue27
 t5:=Tryz.underlying5
 i5:=by kernel_rfl }
open Go.RowKit Go.Lib in
theorem Tryz.bytes_Clone_at (a:Addr) (n c:Nat) (xs:List Int) (w:World) (hx:xs.length=n) (hbig:n≤140737488355328) (hc:∀i,i<n→w.cell? (a.add i)=some (.int .u8 (xs.getD i 0))) :
  Calls Tryz.prog 143 #[.slice (some a) n c] w fun e w'=>∃v',e=.returned v'∧w'.ownsRow w.heap.size 5 1 v' n (xs.map (Value.int .u8))∧v'≠.slice none 0 0∧Below w.heap.size w w':=Any.bytes_Clone_at Tryz.laysSlK4 a n c xs w hx hbig hc
open Go.RowKit Go.Lib in
theorem Tryz.bytes_Clone_nil (n c:Nat) (w:World) :
  Calls Tryz.prog 143 #[.slice none n c] w fun e w'=>e=.returned (.slice none 0 0)∧w'=w:=Any.bytes_Clone_nil Tryz.laysSlK4 n c w
def Tryz.lays115_ren:Go.Shelf.Ren:=⟨fun|115=>62|n=>n,fun|37=>27|4=>4|9=>9|5=>5|n=>n,fun|n=>n⟩
theorem Tryz.lays115:Go.Proofs.Lays.n115 Tryz.prog Tryz.lays115_ren:={
 mixed:=by kernel_rfl
 f115:=Tryz.func62.trans (congrArg some aD)
 t4:=Tryz.underlying4
 a4:=Tryz.isAgg4
 z4:=Tryz.sizeOf4
 v4:=Tryz.zeroValue4
 t9:=Tryz.underlying9
 a9:=Tryz.isAgg9
 z9:=Tryz.sizeOf9
 v9:=Tryz.zeroValue9
 t37:=Tryz.underlying27
 a37:=Tryz.isAgg27
 z37:=Tryz.sizeOf27
 v37:=Tryz.zeroValue27 }
theorem Tryz.bytes_Equal (v1 v2:Value) (xs ys:List Int) (w:World) (h1:(convert 27 9 v1).run Tryz.prog w=.ok (.string (strOfNums xs)) w) (h2:(convert 27 9 v2).run Tryz.prog w=.ok (.string (strOfNums ys)) w) :
  Calls Tryz.prog 62 #[v1,v2] w fun e w'=>e=.returned (.bool (Lib.bytesOf xs == Lib.bytesOf ys))∧w'=w:=Any.bytes_Equal Tryz.lays115 v1 v2 xs ys w h1 h2
end Go.Proofs
end
section
namespace Go.Proofs.YtknihldkhedpkaaGreatDoor
open Go.RowKit Go.Lib
open Go.Proofs.YtknihldkhedpkaaGreatDoorW.PrintWords
theorem hid {p:Prop} (h:p):Hid p:=h
theorem Ig {P:Program} {f:FuncId} {args:Array Value} {w:World} {a n:Nat} {v:Value}
  (h:Calls P f args (w.drewN (a+n)) fun e w'=>e=.returned v∧w'=w.drewN (a+n)) :
  Calls P f args (w.drewN (a+n)) fun e w''=>e=.returned v∧∃m,w''=w.drewN (a+m) :=
 h.mono fun _ _ ⟨he,hm⟩=>⟨he,n,hm⟩
def uQ:ByteArray:=⟨#[47,0]⟩
theorem LQ (r:Int) (h0:128≤r) (hv:Utf8.valid r=true) :
  (∃a b:UInt8,Utf8.encode r=⟨#[a,b]⟩∧128≤b.toNat)∨(∃a b c:UInt8,Utf8.encode r=⟨#[a,b,c]⟩)∨∃a b c d:UInt8,Utf8.encode r=⟨#[a,b,c,d]⟩:=by
 have hc:(if Utf8.valid r then r.toNat else Utf8.runeError)=r.toNat:=by rw[if_pos hv]
 unfold Utf8.encode;rw[hc];by_cases h1:r.toNat<2048
 ·refine .inl ⟨_,_,by rw[if_neg (show ¬r.toNat<128 by omega),if_pos h1],?_⟩;rw[UInt8.toNat_ofNat'];omega
 by_cases h2:r.toNat<65536
 ·exact .inr (.inl ⟨_,_,_,by rw[if_neg (show ¬r.toNat<128 by omega),if_neg h1,if_pos h2]⟩)
 exact .inr (.inr ⟨_,_,_,_,by rw[if_neg (show ¬r.toNat<128 by omega),if_neg h1,if_neg h2]⟩)
theorem I5 (i:Nat) (h:i<2):∃x:UInt8,uQ[i]'h=x∧x.toNat<128:=by
 match i,h with
 | 0,_=>exact⟨47,rfl,by decide⟩
 | 1,_=>exact⟨0,rfl,by decide⟩
theorem I6:uQ.size=2:=rfl
theorem Rh (w:World) :
  Calls Tryz.prog 165 #[.string uQ,.int .i32 65533] w fun e w'=>e=.returned (.int .i64 (-1))∧Below w.heap.size w w':=by
 go_enter Tryz.func165,Tryz.ntmps165
 go_wp2
 go_loopg [5,6] 2 (fun g _ _ wx=>∃i:Nat,i+g=2∧wx=w.iter uQ i)
 case atStart=>exact⟨0,by omega,rfl⟩
 case round=>
  obtain⟨i,hig,rfl⟩:=hrel
  cases gk with
  | zero=>
   obtain rfl:i=2:=by omega
   have hnx:=fun ty=>run_next_end (P:=Tryz.prog) w uQ 2 ty aH
   go_wp2
   go_ret
   exact⟨rfl,(Below.refl _ _).alloc (Nat.le_refl _) _⟩
  | succ g=>
   have hi:i<2:=by omega
   obtain⟨x,hx,hx128⟩:=I5 i hi
   have hnx:=fun ty=>run_next_ascii (P:=Tryz.prog) w uQ i ty hi (by rw[hx];exact hx128)
   rw[hx] at hnx;have hne:((x.toNat:Int) == 65533)=false:=beq_eq_false_iff_ne.2 aj;clear hx
   go_wp2
   go_roundg g
   case measure=>omega
   case rel=>exact⟨i+1,by omega,rfl⟩
theorem Vx (r:Int) (w:World) (h0:128≤r) :
  Calls Tryz.prog 165 #[.string ⟨#[47,0]⟩,.int .i32 r] w fun e w'=>e=.returned (.int .i64 (-1))∧Below w.heap.size w w':=by
 by_cases h1:r=65533
 ·subst h1;exact Rh w
 by_cases h2:Go.Lib.validRune r=true
 ·have hne:(r == 65533)=false:=beq_eq_false_iff_ne.2 h1
  have hv:Utf8.valid r=true:=by
   unfold Go.Lib.validRune at h2;have h2:=of_decide_eq_true h2;simp[Utf8.valid];omega
  have hsz:=I6
  rcases LQ r h0 hv with⟨a,b,he,hb⟩|⟨a,b,c,he⟩|⟨a,b,c,d,he⟩
  ·clear h1;have HE:=hid he;clear he
   go_enter Tryz.func165,Tryz.ntmps165
   go_wp2_with (go_at_call 174;refine (Tryz.utf8_ValidRune _ _).mono ?_;rintro e w' ⟨rfl,hw⟩;rw[hw,h2])
   go_step3
   have he:=HE.out
   go_wp2_with (fail)
   clear he
   have hne2:∀h h',(((((⟨#[47,0]⟩:ByteArray)[1]'h).toNat:Int)) != ((((⟨#[a,b]⟩:ByteArray)[1]'h').toNat:Int)))=true:=fun _ _=>bne_iff_ne.2 (show (0:Int)≠(b.toNat:Int) by omega)
   refine wp_loop_rounds 1 ?_;rw[rounds_succ]
   go_wp2_with (fail)
   go_step3
   go_wp2_with (fail)
   go_quiet (fail)
   go_wp2_with (fail)
   go_quiet ((go_at_call 117;exact Ig (Tryz.strings_IndexByte _ _ _)))
   have hi0:Lib.indexByte (ByteArray.mk #[]).data.toList b = -1:=by rfl
   go_wp2_with (fail)
   go_ret
   exact⟨rfl,(av (Below.refl _ _) _)⟩
  ·clear h1;have HE:=hid he;clear he
   go_enter Tryz.func165,Tryz.ntmps165
   go_wp2_with (go_at_call 174;refine (Tryz.utf8_ValidRune _ _).mono ?_;rintro e w' ⟨rfl,hw⟩;rw[hw,h2])
   go_step3
   have he:=HE.out
   go_wp2_with (fail)
   clear he;refine wp_loop_rounds 1 ?_;rw[rounds_succ]
   go_wp2_with (fail)
   rw[Exit.noGoto_ret]
   go_ret
   exact⟨rfl,Below.refl _ _⟩
  clear h1;have HE:=hid he;clear he
  go_enter Tryz.func165,Tryz.ntmps165
  go_wp2_with (go_at_call 174;refine (Tryz.utf8_ValidRune _ _).mono ?_;rintro e w' ⟨rfl,hw⟩;rw[hw,h2])
  go_step3
  have he:=HE.out
  go_wp2_with (fail)
  clear he;refine wp_loop_rounds 1 ?_;rw[rounds_succ]
  go_wp2_with (fail)
  rw[Exit.noGoto_ret]
  go_ret
  exact⟨rfl,Below.refl _ _⟩
 have hne:(r == 65533)=false:=beq_eq_false_iff_ne.2 h1;have h2:=Bool.eq_false_iff.2 h2
 go_enter Tryz.func165,Tryz.ntmps165
 go_wp2_with (go_at_call 174;refine (Tryz.utf8_ValidRune _ _).mono ?_;rintro e w' ⟨rfl,hw⟩;rw[hw,h2])
 go_ret
 exact⟨rfl,Below.refl _ _⟩
theorem Eu (s:ByteArray) (pos:Nat) (h:pos<s.size) (ha:128≤(s[pos]'h).toNat) :
  ∀k,k<(Utf8.decode s pos).2→pos+k<s.size∧128≤(s.get! (pos+k)).toNat:=by
 have g0:s.get! pos=s[pos]:=by
  simp[ByteArray.get!,getElem!_pos,h];rfl
 have hn:¬(s.get! (pos+0)).toNat<128:=by rw[Nat.add_zero,g0];omega
 have h0:pos+0<s.size∧128≤(s.get! (pos+0)).toNat:=⟨h,by omega⟩
 intro k hk;simp only[Utf8.decode] at hk;rw[if_neg hn] at hk
 match k,hk with
 | 0,_=>exact h0
 | 1,hk=>
  split at hk
  ·rename_i hc;simp at hc;omega
  split at hk
  ·rename_i hc;simp at hc;omega
  split at hk
  ·rename_i hc;simp at hc;omega
  simp at hk
 | 2,hk=>
  split at hk
  ·split at hk <;> simp at hk
  split at hk
  ·rename_i hc;simp at hc;omega
  split at hk
  ·rename_i hc;simp at hc;omega
  simp at hk
 | 3,hk=>
  split at hk
  ·split at hk <;> simp at hk
  split at hk
  ·split at hk <;> simp at hk
  split at hk
  ·rename_i hc;simp at hc;omega
  simp at hk
 | k+4,hk=>
  split at hk
  ·split at hk <;> (dsimp only at hk;omega)
  split at hk
  ·split at hk <;> (dsimp only at hk;omega)
  split at hk
  ·split at hk <;> (dsimp only at hk;omega)
  dsimp only at hk;omega
theorem Ih {s:ByteArray} {chars:List UInt8} {i:Nat} (hc:∀x:UInt8,128≤x.toNat→chars.contains x=false) (h:i<s.size) (ha:128≤(s[i]'h).toNat)
  (hn:Lib.NoAny s.data.toList chars i):∀k,k≤(Utf8.decode s i).2→Lib.NoAny s.data.toList chars (i+k)
 | 0,_=>hn
 | k+1,hk=>by
  obtain⟨h1,h2⟩:=Eu s i h ha k aj;have hx:s.data.toList[i+k]?=some (s[i+k]'h1):=Lib.data_getElem? s (i+k) h1
  have hg:s.get! (i+k)=s[i+k]'h1:=by
   simp[ByteArray.get!,getElem!_pos,h1];rfl
  rw[hg] at h2;exact (Ih hc h ha hn k aj).succ hx (hc _ h2)
theorem Ri (x:UInt8) (h:128≤x.toNat):[(47:UInt8),0].contains x=false:=by
 have h1:x≠47:=by rintro rfl;exact absurd h aH
 have h2:x≠0:=by rintro rfl;exact absurd h aH
 simp[h1,h2]
theorem Rj {w w1 w2:World} {o:Obj} (h:Below w.heap.size w w1) (hi:w1.heap[w.heap.size]?=some o) (h2:Below w1.heap.size w1 w2):Below w.heap.size w w2∧w2.heap[w.heap.size]?=some o :=
 ⟨Ii h h.size h2,(h2.block _ (Array.getElem?_eq_some_iff.1 hi).1).trans hi⟩
theorem Ij (s:ByteArray) (w:World) (h8:s.size≤8) :
  Calls Tryz.prog 157 #[.string s,.string ⟨#[47,0]⟩] w fun e w'=>e=.returned (.int .i64 (Lib.indexAny s.data.toList [47,0]))∧Below w.heap.size w w':=by
 have h8z:decide ((8:Int)<(s.size:Int))=false:=decide_eq_false aj
 go_enter Tryz.func157,Tryz.ntmps157
 go_wp2_with (go_at_call 166;refine (Tryz.strings_shouldUseASCIISet _ _).mono ?_;rintro e w' ⟨rfl,hw⟩;rw[hw,h8z])
 have hb0:w.heap.size<(w.iter s 0).heap.size:=by simp[World.iter]
 have hbel:Below w.heap.size w (w.iter s 0):=(Below.refl _ _).alloc (Nat.le_refl _) _;have HB:=hid hbel;clear hbel hb0
 go_loopg [9,10] s.size (fun g _ _ wx=>∃i:Nat,i+g=s.size∧ah (Below w.heap.size w wx)∧ah (wx.heap[w.heap.size]?=some (.stringIter s i))∧ah (Lib.NoAny s.data.toList [47,0] i))
 case atStart=>exact⟨0,by omega,⟨HB⟩,⟨World.iter_heap _ _ _⟩,⟨Lib.NoAny.zero _ _⟩⟩
 case round=>
  obtain⟨i,hig,HBx,HI,HN⟩:=hrel;by_cases hp:i<s.size
  ·obtain⟨x,hx⟩:∃x:UInt8,s[i]'hp=x:=⟨_,rfl⟩
   have hxl:s.data.toList[i]?=some x:=by rw[← hx];exact Lib.data_getElem? s i hp
   have Hx:ah (s.data.toList[i]?=some x):=⟨hxl⟩
   have hblk:w.heap.size≤w.heap.size:=Nat.le_refl _;by_cases ha:x.toNat<128
   ·have hnx:=fun ty=>run_next_ascii_at (P:=Tryz.prog) wr w.heap.size s i ty HI.out hp (by rw[hx];exact ha)
    rw[hx] at hnx;have hcon:=Lib.contains_iff_indexByte [47,0] x
    have hback:((x.toNat:Int)).toNat.toUInt8=x:=by simp
    clear hxl hx;cases hin:[(47:UInt8),0].contains x
    ·rw[hin] at hcon;have hlt:¬((0:Int)≤Lib.indexByte [47,0] x):=of_decide_eq_false hcon.symm;clear hcon
     go_wp2_with (go_at_call 165;refine (Tryz.strings_IndexRune_ascii _ _ _ aj aj).mono ?_;rintro e w' ⟨rfl,hw⟩;rw[hw,hback])
     go_roundg (s.size - (i+1))
     case measure=>omega
     case rel=>exact⟨i+1,by omega,⟨below_iterAt HBx.out hblk _ _⟩,⟨iterAt_heap _ _ _ _ _ HI.out⟩,⟨HN.out.succ Hx.out hin⟩⟩
    rw[hin] at hcon;have hge:(0:Int)≤Lib.indexByte [47,0] x:=of_decide_eq_true hcon.symm;clear hcon
    go_wp2_with (go_at_call 165;refine (Tryz.strings_IndexRune_ascii _ _ _ aj aj).mono ?_;rintro e w' ⟨rfl,hw⟩;rw[hw,hback])
    go_ret
    exact⟨by rw[Lib.indexAny_hit HN.out Hx.out hin];rfl,below_iterAt HBx.out hblk _ _⟩
   have hhi:128≤(s[i]'hp).toNat:=by rw[hx];omega
   have hd:=decode_high s i hp hhi
   have HD:=fun k hk=>Eu s i hp hhi k hk
   have HL:=hid (HD ((Utf8.decode s i).2 - 1) aj).1
   have hL:i+(Utf8.decode s i).2≤s.size:=by have:=(HD ((Utf8.decode s i).2 - 1) aj).1;omega
   have FT:=ah.mk (Ih Ri hp hhi HN.out (Utf8.decode s i).2 (Nat.le_refl _));clear HD
   obtain⟨rn,wd,hde⟩:∃rn wd,Utf8.decode s i=(rn,wd):=⟨_,_,rfl⟩
   have hnx:=fun ty=>run_next_any_at (P:=Tryz.prog) wr w.heap.size s i ty HI.out hp
   rw[hde] at hnx hd hL FT;have hd1:=hd.1;have hd2:=hd.2;clear hd hxl hx hhi hde HL;dsimp only at hnx hd1 hd2 hL
   have HN3:ah (Lib.NoAny s.data.toList [47,0] (i+wd)):=⟨FT.out⟩
   clear FT;have HI2:=ah.mk (iterAt_heap wr w.heap.size s i (i+wd) HI.out);have HB2:=ah.mk (below_iterAt HBx.out hblk s (i+wd))
   go_wp2_with (go_at_call 165;refine (Vx _ _ aj).mono ?_;rintro e w' ⟨rfl,hw⟩)
   have HB3:=ah.mk (Rj HB2.out HI2.out (by assumption))
   go_roundg (s.size - (i+wd))
   case measure=>omega
   case rel=>exact⟨i+wd,by omega,⟨HB3.out.1⟩,⟨HB3.out.2⟩,⟨HN3.out⟩⟩
  have hnx:=fun ty=>run_next_end_at (P:=Tryz.prog) wr w.heap.size s i ty HI.out hp
  go_wp2
  go_ret
  have hi:i=s.data.toList.length:=by rw[← Lib.size_eq];omega
  exact⟨by rw[Lib.indexAny_none (by rw[← hi];exact HN.out)];rfl,HBx.out⟩
theorem YL:(Tryz.prog.info? 200).map (fun i=>(i.zero,i.size))=some (some (.agg (Array.replicate 256 (.bool false))),256):=by kernel_rfl
theorem YM:∀w,(zeroValue 200).run Tryz.prog w=.ok (.agg (Array.replicate 256 (.bool false))) w:=(zero_of_info YL).1
theorem afP:(Tryz.prog.info? 200).map (·.size)=some 256:=(zero_of_info YL).2
theorem I7 (s:ByteArray) (w:World) (h8:8<s.size) (hs:s.size<4294967281) :
  Calls Tryz.prog 157 #[.string s,.string ⟨#[47,0]⟩] w fun e w'=>e=.returned (.int .i64 (Lib.indexAny s.data.toList [47,0]))∧Below w.heap.size w w':=by
 have hM:=Tryz.strings_makeASCIISet YM ⟨#[47,0]⟩ w aH (by
  intro j b hj
  match j,hj with
  | 0,hj=>simp at hj;subst hj;decide
  | 1,hj=>simp at hj;subst hj;decide)
 have h8z:decide ((8:Int)<(s.size:Int))=true:=decide_eq_true aj
 have afQ:(storeCells ⟨w.heap.size+1,0,none⟩ (Lib.setCells [47,0]).toList 0).run Tryz.prog ((w.alloc (.cells (Lib.setCells [47,0]) 200)).alloc (.cells (Array.replicate 256 (.bool false)) 200))=.ok () ((w.alloc (.cells (Lib.setCells [47,0]) 200)).alloc (.cells (Lib.setCells [47,0]) 200)):=by
  have:=run_storeCells_new (P:=Tryz.prog) (w.alloc (.cells (Lib.setCells [47,0]) 200)) 200 (Array.replicate 256 (.bool false)) (Lib.setCells [47,0]) (by rw[Lib.setCells_size];exact afP) (by rw[Lib.setCells_size,Array.size_replicate]) (Lib.setCells_one _)
  simpa using this
 have hsz0:=Lib.setCells_size [47,0]
 have hcellAt:∀x:UInt8,((w.alloc (.cells (Lib.setCells [47,0]) 200)).alloc (.cells (Lib.setCells [47,0]) 200)).cell? ⟨w.heap.size+1,x.toNat,none⟩=some (.bool ([(47:UInt8),0].contains x)):=fun x=>by
  rw[World.cell?_alloc_at _ _ _ _ bB,Lib.setCells_at]
 have hM:Calls Tryz.prog 167 #[.string ⟨#[47,0]⟩] w fun e w'=>e=.returned (.tuple #[.agg (Lib.setCells [47,0]),.bool true])∧w'=w.alloc (.cells (Lib.setCells [47,0]) 200):=hM
 obtain⟨SC,hSC⟩:∃SC,Lib.setCells [47,0]=SC:=⟨_,rfl⟩
 rw[hSC] at afQ hsz0 hM;simp only[hSC] at hcellAt;have HC:=ah.mk hcellAt;have hsc:=afQ;have hsz:=hsz0;clear hcellAt hSC afQ hsz0;have t53:=Tryz.underlying200;have ao3:=YM
 go_enter Tryz.func157,Tryz.ntmps157
 go_wp2_with (first
  | (go_at_call 166;refine (Tryz.strings_shouldUseASCIISet _ _).mono ?_;rintro e w' ⟨rfl,hw⟩;rw[hw,h8z])
  | (go_at_call 167;refine hM.mono ?_;rintro e w' ⟨rfl,hw⟩;rw[hw]))
 clear hM hsc ao3 t53
 go_loopg [8] s.size (fun g s8 wx=>∃i:Nat,i+g=s.size∧s8=.int .i64 i∧wx=((w.alloc (.cells SC 200)).alloc (.cells SC 200))∧ah (Lib.NoAny s.data.toList [47,0] i))
 case atStart=>exact⟨0,by omega,rfl,rfl,⟨Lib.NoAny.zero _ _⟩⟩
 case round=>
  obtain⟨i,hig,rfl,rfl,HN⟩:=hrel;by_cases hi:i<s.size
  ·have hiz:(i:Int)<(s.size:Int):=by omega
   obtain⟨x,hx⟩:∃x:UInt8,s[i]'hi=x:=⟨_,rfl⟩
   have hxl:s.data.toList[i]?=some x:=by rw[← hx];exact Lib.data_getElem? s i hi
   have Hx:ah (s.data.toList[i]?=some x):=⟨hxl⟩
   clear hxl;have hcx:=HC.out x
   cases hin:[(47:UInt8),0].contains x <;> rw[hin] at hcx
   ·go_wp2_with (go_at_call 168;refine (Tryz.asciiSet_contains _ x _ _ hcx).mono ?_;rintro e w' ⟨rfl,hw⟩;rw[hw])
    go_roundg (s.size - (i+1))
    case measure=>omega
    case rel=>exact⟨i+1,by omega,by first|rfl|simp,rfl,⟨HN.out.succ Hx.out hin⟩⟩
   go_wp2_with (go_at_call 168;refine (Tryz.asciiSet_contains _ x _ _ hcx).mono ?_;rintro e w' ⟨rfl,hw⟩;rw[hw])
   go_ret
   exact⟨by rw[Lib.indexAny_hit HN.out Hx.out hin];rfl,((Below.refl _ _).alloc (Nat.le_refl _) _).alloc bB _⟩
  have hiz:¬((i:Int)<(s.size:Int)):=by omega
  go_wp2
  go_ret
  have hi:i=s.data.toList.length:=by rw[← Lib.size_eq];omega
  exact⟨by rw[Lib.indexAny_none (by rw[← hi];exact HN.out)];rfl,((Below.refl _ _).alloc (Nat.le_refl _) _).alloc bB _⟩
theorem LU (s:ByteArray) (w:World) (hs:s.size<4294967281) :
  Calls Tryz.prog 157 #[.string s,.string ⟨#[47,0]⟩] w fun e w'=>e=.returned (.int .i64 (Lib.indexAny s.data.toList [47,0]))∧Below w.heap.size w w':=by
 by_cases h8:s.size≤8
 ·exact Ij s w h8
 exact I7 s w aj hs
theorem ES (s:ByteArray) (w:World) (hs:s.size<4294967281) :
  Calls Tryz.prog 146 #[.string s,.string ⟨#[47,0]⟩] w fun e w'=>e=.returned (.bool (Lib.containsAny s.data.toList [47,0]))∧Below w.heap.size w w':=by
 have c:=LU s w hs
 go_enter Tryz.func146,Tryz.ntmps146
 go_wp2_with (go_at_call 157;refine c.mono ?_;rintro e w' ⟨rfl,hw⟩)
 go_ret
 exact⟨rfl,hw⟩
def iq.f (a0:ByteArray):Option Int :=
 if 54<a0.size then some 7
 else if a0.toList=([]:List UInt8) then some 21
 else if a0.toList=([46]:List UInt8) then some 21
 else if a0.toList=([46,46]:List UInt8) then some 21
 else if Lib.containsAny a0.data.toList [47,0]=true then some 21
 else some 0
theorem iq.calls (a0:ByteArray) (r:Int) (w:World) (h:iq.f a0=some r) :
  Calls Tryz.prog 132 #[.string a0] w fun e w'=>e=.returned (.int .i64 r)∧Below w.heap.size w w':=by
 unfold iq.f at h;by_cases h1:54<a0.size
 ·rw[if_pos h1] at h;obtain rfl:=Option.some.inj h
  go_enter Tryz.func132,Tryz.ntmps132
  go_wp2
  go_ret
  exact⟨rfl,Below.refl _ _⟩
 rw[if_neg h1] at h;have c:=ES a0 w aj;have H:=ah.mk h;clear h
 by_cases h2:a0.toList=([]:List UInt8)
 ·have h:=H.out;rw[if_pos h2] at h;obtain rfl:=Option.some.inj h;clear h H c
  go_enter Tryz.func132,Tryz.ntmps132
  go_wp2
  go_ret
  exact⟨rfl,Below.refl _ _⟩
 have h:=H.out;rw[if_neg h2] at h;have b2:(a0.toList == ([]:List UInt8))=false:=beq_eq_false_iff_ne.mpr h2;clear h2 H
 by_cases h3:a0.toList=([46]:List UInt8)
 ·rw[if_pos h3] at h;obtain rfl:=Option.some.inj h;have b3:(a0.toList == ([46]:List UInt8))=true:=beq_iff_eq.mpr h3;clear h h3 c
  go_enter Tryz.func132,Tryz.ntmps132
  go_wp2
  go_ret
  exact⟨rfl,Below.refl _ _⟩
 rw[if_neg h3] at h;have b3:(a0.toList == ([46]:List UInt8))=false:=beq_eq_false_iff_ne.mpr h3;clear h3
 by_cases h4:a0.toList=([46,46]:List UInt8)
 ·rw[if_pos h4] at h;obtain rfl:=Option.some.inj h;have b4:(a0.toList == ([46,46]:List UInt8))=true:=beq_iff_eq.mpr h4;clear h h4 c
  go_enter Tryz.func132,Tryz.ntmps132
  go_wp2
  go_ret
  exact⟨rfl,Below.refl _ _⟩
 rw[if_neg h4] at h;have b4:(a0.toList == ([46,46]:List UInt8))=false:=beq_eq_false_iff_ne.mpr h4;clear h4
 cases h5:Lib.containsAny a0.data.toList [47,0] with
 | true=>
  rw[h5,if_pos rfl] at h;obtain rfl:=Option.some.inj h;rw[h5] at c;clear h h5
  go_enter Tryz.func132,Tryz.ntmps132
  go_wp2_with (go_at_call 146;refine c.mono ?_;rintro e w' ⟨rfl,hw⟩)
  go_ret
  exact⟨rfl,by assumption⟩
 | false=>
  rw[h5,if_neg aH] at h;obtain rfl:=Option.some.inj h;rw[h5] at c;clear h h5
  go_enter Tryz.func132,Tryz.ntmps132
  go_wp2_with (go_at_call 146;refine c.mono ?_;rintro e w' ⟨rfl,hw⟩)
  go_ret
  exact⟨rfl,by assumption⟩
end Go.Proofs.YtknihldkhedpkaaGreatDoor
end
section
namespace Go.Proofs.YtknihldkhedpkaaGreatDoor
open Go.RowKit Go.Lib Go.Shelf
open Go.Proofs.YtknihldkhedpkaaGreatDoorW.PrintWords Go.Proofs.YtknihldkhedpkaaGreatDoorW.PrintLast
def jZ (s sep:ByteArray):List ByteArray:=Lib.splitB sep 0 (Lib.countB s sep) s
def strings_Split.f (a0 a1:ByteArray):Option (List ByteArray):=if a0.size<4294967281∧a1.size=1 then some (jZ a0 a1) else none
theorem I8 (s sep:ByteArray) (h:sep.size=1) (w:World) :
  Calls Tryz.prog 151 #[.string s,.string sep] w fun e w'=>e=.returned (.int .i64 (Lib.countB s sep))∧w'=w:=by
 obtain⟨c,rfl⟩:=Lib.one_byte sep h
 refine (Tryz.strings_Count_one s c w).mono fun e w' ⟨he,hw⟩=>⟨?_,hw⟩
 rw[he]
 show _=Ending.returned (Value.int .i64 ((Lib.count s.data.toList [c]:Nat):Int))
 rw[Lib.count_one];rfl
theorem tY (s sep:ByteArray) (h:sep.size=1) (w:World) :
  Calls Tryz.prog 148 #[.string s,.string sep] w fun e w'=>e=.returned (.int .i64 (Lib.indexB s sep))∧w'=w:=by
 obtain⟨c,rfl⟩:=Lib.one_byte sep h
 refine (Tryz.strings_Index_one s c w).mono fun e w' ⟨he,hw⟩=>⟨?_,hw⟩
 rw[he]
 show _=Ending.returned (Value.int .i64 (Lib.index s.data.toList [c]))
 rw[Lib.index_one]
theorem Vy (s sep:ByteArray) (hs:s.size<4294967281) (h:sep.size=1) (w:World) :
  Calls Tryz.prog 139 #[.string s,.string sep] w fun e w'=>
   e=.returned (.slice (some ⟨w.heap.size,0,none⟩) (jZ s sep).length (jZ s sep).length)∧w'=w.alloc (.cells ((jZ s sep).map Value.string).toArray 9):=by
 have hle:=Lib.countB_le sep aj s.size s (Nat.le_refl _);have hlen:=Lib.splitB_all sep aj 0 _ s rfl
 have c:=Any.strings_genSplit_core (P:=Tryz.prog) (ρ:=Tryz.lays221_ren) Tryz.lays221 aD s sep 0 (-1) (Lib.countB s sep+1) w hs aj (Nat.zero_le _)
  (fun x c hx=>tY x sep h _) (I8 s sep h w) aH aH (by rw[if_pos aH];omega)
 rw[Nat.add_sub_cancel,hlen] at c
 have e2:Lib.cellsOf (Lib.splitB sep 0 (Lib.countB s sep) s) (Lib.countB s sep+1)=((Lib.splitB sep 0 (Lib.countB s sep) s).map Value.string).toArray:=by rw[← hlen];exact Lib.cellsOf_full _
 rw[e2] at c
 have c2:Calls Tryz.prog 149 #[.string s,.string sep,.int .i64 0,.int .i64 (-1)] w fun e w'=>e=.returned (.slice (some ⟨w.heap.size,0,none⟩) (Lib.countB s sep+1) (Lib.countB s sep+1))∧w'=w.alloc (.cells ((Lib.splitB sep 0 (Lib.countB s sep) s).map Value.string).toArray 9):=c
 have adx:(jZ s sep).length=Lib.countB s sep+1:=hlen;rw[adx];clear hle hlen e2 c adx
 go_enter Tryz.func139,Tryz.ntmps139
 go_wp2_with (go_at_call 149;refine c2.mono ?_;rintro e w' ⟨rfl,hw⟩;rw[hw])
 go_ret
 exact⟨rfl,rfl⟩
theorem strings_Split.calls (a0 a1:ByteArray) (r:List ByteArray) (w:World) (h:strings_Split.f a0 a1=some r) :
  Calls Tryz.prog 139 #[.string a0,.string a1] w fun e w'=>∃wI:Value,e=.returned wI∧Kd.R Kd.string 9 w' w.heap.size (fun _=>True) wI r∧Below w.heap.size w w':=by
 unfold strings_Split.f at h;by_cases hc:a0.size<4294967281∧a1.size=1
 ·rw[if_pos hc] at h;obtain rfl:=Option.some.inj h;refine (Vy a0 a1 hc.1 hc.2 w).mono ?_;rintro e w' ⟨rfl,rfl⟩;have hle:=Lib.countB_le a1 aj a0.size a0 (Nat.le_refl _);have hlen:(jZ a0 a1).length=Lib.countB a0 a1+1:=Lib.splitB_all a1 aj 0 _ a0 rfl;exact⟨_,rfl,Kd.qm (Rk (enc:=Value.string) w w.heap.size 9 (jZ a0 a1) (Nat.le_refl _) aj) (fun _ _=>trivial),(Below.refl _ _).alloc (Nat.le_refl _) _⟩
 rw[if_neg hc] at h;cases h
def iR (a b:UInt8) (l:List UInt8):List UInt8:=l.map fun c=>if c=a then b else c
def bY (a b:UInt8) (s:ByteArray):ByteArray:=⟨(iR a b s.data.toList).toArray⟩
theorem rM {a b:UInt8}:∀{l:List UInt8},l.count a=0→iR a b l=l
 | [],_=>rfl
 | c::l,h=>by
  rw[List.count_cons] at h
  have hc:¬c=a:=by
   intro e;rw[e] at h;simp at h
  have ih:=rM (a:=a) (b:=b) (l:=l) aj;unfold iR at ih ⊢;rw[List.map_cons,ih,if_neg hc]
theorem J9 {a b:UInt8}:∀{l:List UInt8},0<l.count a→∃j:Nat,Lib.indexByte l a=j∧j<l.length∧iR a b (l.take (j+1))=l.take j++[b]∧(l.drop (j+1)).count a+1=l.count a
 | [],h=>by simp at h
 | c::l,h=>by
  by_cases hc:c=a
  ·subst hc;refine⟨0,by simp[Lib.indexByte],by simp,by simp[iR],by simp⟩
  rw[List.count_cons_of_ne hc] at h;obtain⟨j,h1,h2,h3,h4⟩:=J9 (a:=a) (b:=b) h;refine⟨j+1,?_,by simp;omega,?_,by rw[List.drop_succ_cons,h4,List.count_cons_of_ne hc]⟩
  ·unfold Lib.indexByte;rw[h1,if_neg (by simpa using hc),if_neg (by rw[beq_eq_false_iff_ne.2 (show (j:Int)≠-1 by omega)];exact Bool.false_ne_true)];omega
  rw[List.take_succ_cons,List.take_succ_cons,List.cons_append,← h3];unfold iR;rw[List.map_cons,if_neg hc]
theorem mO (a b:UInt8) (l m:List UInt8):iR a b (l++m)=iR a b l++iR a b m:=List.map_append
theorem Vz {a b:UInt8} {L:List UInt8} {start j:Nat} (hs:start≤L.length) (h3:iR a b ((L.drop start).take (j+1))=(L.drop start).take j++[b]) :
  iR a b (L.take (start+j+1))=iR a b (L.take start)++(L.drop start).take j++[b]:=by
 rw[Nat.add_assoc,List.take_add,mO,h3,List.append_assoc]
theorem afR {a b:UInt8} (h:a≠b):((⟨#[a]⟩:ByteArray).toList == (⟨#[b]⟩:ByteArray).toList)=false:=(Lib.bytes_beq_false_iff _ _).2 (fun e=>h (by injection e with e;injection e with e;injection e))
theorem Oi (s:ByteArray) (a b:UInt8) (w:World) (hs:s.size<4294967281) (hab:a≠b) :
  Calls Tryz.prog 142 #[.string s,.string ⟨#[a]⟩,.string ⟨#[b]⟩,.int .i64 (-1)] w fun e w'=>e=.returned (.string (bY a b s))∧Below w.heap.size w w':=by
 have hC:=Tryz.strings_Count_one s a w;have hbeq:=afR hab;have aq5:(a == b)=false:=beq_eq_false_iff_ne.2 hab
 obtain⟨cn,hcn⟩:∃cn:Nat,Lib.countByte s.data.toList a=cn:=⟨_,rfl⟩
 have hcn':s.data.toList.count a=cn:=hcn;have hlenL:s.data.toList.length=s.size:=(Lib.size_eq s).symm
 have hcl:cn≤s.size:=by rw[← hcn',← hlenL];exact List.count_le_length
 rw[hcn] at hC;by_cases hc0:cn=0
 ·subst hc0
  have hR:bY a b s=s:=by
   unfold bY;rw[rM hcn']
  rw[hR];clear hR hcn hcn' hcl hlenL
  go_enter Tryz.func142,Tryz.ntmps142
  go_wp2_with (go_at_call 151;refine hC.mono ?_;rintro e w' ⟨rfl,hw⟩;rw[hw])
  go_ret
  exact⟨rfl,Below.refl _ _⟩
 have hcz:((cn:Int) == 0)=false:=beq_eq_false_iff_ne.2 aj;have hcd:decide (cn<s.size+1)=true:=decide_eq_true aj;have HC:=ah.mk hcn';have HL:=ah.mk hlenL;clear hcn hcn' hlenL
 go_enter Tryz.func142,Tryz.ntmps142
 go_wp2_with (first|(go_at_call 151;refine hC.mono ?_;rintro e w' ⟨rfl,hw⟩;rw[hw]))
 clear hC
 have hsz0:wrap64 ((s.size:Int)+wrap64 ((cn:Int)*wrap64 ((1:Int) - 1)))=(s.size:Int):=by unfold wrap64;omega
 refine (Tryz.Builder_Grow_fresh w.heap.size w.heap.size s.size _ (Nat.le_refl _) (heap_alloc_new w _) bB aj).mono ?_;rintro e w1 ⟨rfl,hb0,hb1⟩;have H1:=ah.mk (Or.inr hb0:Lib.IsBuilder 186 5 w.heap.size w.heap.size (Lib.byteCells []) w1);have Hb1:=ah.mk (((Below.refl w.heap.size w).alloc (Nat.le_refl _) _).trans hb1);clear hb0 hb1 hsz0
 go_wp2_with fail
 go_loopg [11,53] cn (fun g s11 s53 wx=>∃(i start:Nat) (acc:List UInt8),s53=.int .i64 i∧s11=.int .i64 start∧i+g=cn∧start≤s.size ∧
  ah (Lib.IsBuilder 186 5 w.heap.size w.heap.size (Lib.byteCells acc) wx)∧ah (Below w.heap.size w wx)∧ah (acc=iR a b (s.data.toList.take start))∧ah ((s.data.toList.drop start).count a=g))
 case atStart=>exact⟨0,0,[],rfl,rfl,by omega,Nat.zero_le _,H1,Hb1,⟨by simp[iR]⟩,⟨by rw[List.drop_zero];exact HC.out⟩⟩
 case round=>
  obtain⟨i,start,acc,rfl,rfl,hig,hst,HB,HW,HA,HG⟩:=hrel;have hBw:w.heap.size≤wr.heap.size:=HW.out.size
  have c1:(0:Int)≤(start:Int):=by omega
  have c2:(start:Int)≤(s.size:Int):=by omega
  cases gk with
  | zero=>
   have hiK:¬((i:Int)<(cn:Int)):=by omega
   have hal:acc.length≤s.size:=by rw[HA.out,iR,List.length_map,List.length_take];have:=HL.out;omega
   go_wp2_with fail
   refine (Any.Builder_WriteString (P:=Tryz.prog) (ρ:=Tryz.lays154_ren) { Tryz.lays154 with } Tryz.Builder_Extra_154 w.heap.size w.heap.size _ _ wr HB.out (by rw[Lib.byteCells_length,ByteArray.size_extract];omega) hBw).mono ?_;rintro e w3 ⟨rfl,h3,hb3⟩;rw[Lib.strCells_eq,Lib.extract_to_end,← Lib.byteCells_append] at h3
   have hfin:acc++s.data.toList.drop start=iR a b s.data.toList:=by
    rw[HA.out]
    conv=>rhs;rw[← List.take_append_drop start s.data.toList,mO,rM HG.out]
   rw[hfin] at h3;have H3:=ah.mk (Or.inr h3:Lib.IsBuilder 186 5 w.heap.size w.heap.size _ w3);have Hb3:=ah.mk (HW.out.trans hb3);have hBw3:w.heap.size≤w3.heap.size:=Hb3.out.size;clear h3 hb3 hfin
   go_wp2_with fail
   refine (Tryz.Builder_String_any w.heap.size w.heap.size _ w3 H3.out hBw3).mono ?_;rintro e w5 ⟨rfl,hb5⟩;have Hb5:=ah.mk (Hb3.out.trans hb5);clear hb5
   go_wp2
   go_ret
   exact⟨rfl,Hb5.out⟩
  | succ g=>
   have hiK:(i:Int)<(cn:Int):=by omega
   obtain⟨j,hj,hjl,hsw,hct⟩:=J9 (a:=a) (b:=b) (l:=s.data.toList.drop start) (by rw[HG.out];omega)
   have hroom:start+j+1≤s.size:=by rw[List.length_drop,HL.out] at hjl;omega
   have c3:(start:Int)≤(start:Int)+(j:Int):=by omega
   have c4:(start:Int)+(j:Int)≤(s.size:Int):=by omega
   have hal:acc.length≤s.size:=by rw[HA.out,iR,List.length_map,List.length_take];have:=HL.out;omega
   have hnext:Lib.byteCells acc++Lib.strCells (s.extract start (start+j))++Lib.strCells ⟨#[b]⟩=Lib.byteCells (iR a b (s.data.toList.take (start+j+1))):=by
    rw[Lib.strCells_eq,Lib.strCells_eq,Lib.extract_data,Nat.add_sub_cancel_left,← Lib.byteCells_append,← Lib.byteCells_append,Vz (by rw[HL.out];omega) hsw,HA.out]
   have hcnt:(s.data.toList.drop (start+j+1)).count a=g:=by
    have h1:=HG.out;rw[List.drop_drop] at hct;rw[show start+j+1=start+(j+1) by omega];omega
   have hj2:Lib.indexByte (s.extract start s.size).data.toList a=j:=by rw[Lib.extract_to_end];exact hj
   have Hn:=ah.mk hnext;have Hc:=ah.mk hcnt;clear hnext hcnt HG hj hsw hct hjl HA
   go_wp2_with (first|(go_at_call 148;refine (Tryz.strings_Index_one _ a _).mono ?_;rintro e w' ⟨rfl,hw⟩;rw[hw,hj2]))
   clear hj2;refine (Any.Builder_WriteString (P:=Tryz.prog) (ρ:=Tryz.lays154_ren) { Tryz.lays154 with } Tryz.Builder_Extra_154 w.heap.size w.heap.size _ (s.extract start (start+j)) wr HB.out (by rw[Lib.byteCells_length,ByteArray.size_extract];omega) hBw).mono ?_;rintro e w3 ⟨rfl,h3,hb3⟩;have hBw3:w.heap.size≤w3.heap.size:=Nat.le_trans hBw hb3.size;have H3:=ah.mk h3;have Hb3:=ah.mk hb3;clear h3 hb3
   go_wp2_with fail
   refine (Any.Builder_WriteString (P:=Tryz.prog) (ρ:=Tryz.lays154_ren) { Tryz.lays154 with } Tryz.Builder_Extra_154 w.heap.size w.heap.size _ ⟨#[b]⟩ w3 (Or.inr H3.out) (by rw[List.length_append,Lib.byteCells_length,Lib.strCells_length,ByteArray.size_extract];show _+1≤_;omega) hBw3).mono ?_;rintro e w4 ⟨rfl,h4,hb4⟩;rw[Hn.out] at h4;have H4:=ah.mk (Or.inr h4:Lib.IsBuilder 186 5 w.heap.size w.heap.size _ w4);have Hb4:=ah.mk ((HW.out.trans Hb3.out).trans hb4);clear h4 hb4
   go_wp2
   go_roundg g
   case measure=>omega
   case rel=>exact⟨i+1,start+j+1,_,by first|rfl|simp,by first|rfl|simp,by omega,by omega,H4,Hb4,⟨rfl⟩,Hc⟩
theorem Ik (s:ByteArray) (a b:UInt8) (w:World) (hs:s.size<4294967281) (hab:a≠b) :
  Calls Tryz.prog 120 #[.string s,.string ⟨#[a]⟩,.string ⟨#[b]⟩] w fun e w'=>e=.returned (.string (bY a b s))∧Below w.heap.size w w':=by
 have c:=Oi s a b w hs hab
 go_enter Tryz.func120,Tryz.ntmps120
 go_wp2_with (go_at_call 142;refine c.mono ?_;rintro e w' ⟨rfl,hb⟩)
 go_ret
 exact⟨rfl,hb⟩
end Go.Proofs.YtknihldkhedpkaaGreatDoor
end
