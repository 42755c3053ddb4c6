/- robotsMay_holds: a part of its proof (the texts Plain, Bts, GivA, GivO, QBasex0, Open, ArgsRobotsMay, MSpec, MO, QMBx0, QMBx1, MA, MB, MC, QMMx0 without what this claim does not lean on). -/
import Derived.Shelf.Strings.Builder1
import Derived.Shelf.Strings.Trim
import Derived.Shelf.Small.Utf8
import Derived.Shelf.Small.Strs
import Derived.Shelf.Strings.BuilderF
import Derived.Shelf.Strings.BuilderK
import Derived.Shelf.Strings.BuilderRune
import Derived.Shelf.Utf8.AppendRune
import Derived.Shelf.Utf8.AppendRunePlain
import Derived.Shelf.Utf8.RuneCount
import Derived.Shelf.Strings.Search1
import Derived.Shelf.Strings.Search2
import Derived.Shelf.Strings.Search3
import Derived.Shelf.Strings.Cut
import Derived.Shelf.Strings.Count
import Derived.Shelf.LaysM
import Derived.Shelf.Strings.Shaped
import Derived.Shelf.Strings.Prefix
import Derived.Shelf.Strings.Split
import Derived.Shelf.Strings.SplitShaped
import Derived.Shelf.Unicode.Decode
import Derived.Shelf.Strings.Runes
import Derived.Shelf.Strings.RuneCount
import Derived.Shelf.Strings.AsciiSet
import Derived.Shelf.Strings.Explode
import Derived.Shelf.Unicode.DecodeSlow
import Derived.Shelf.Unicode.DecodeAny
import Derived.Shelf.Unicode.DecodeLast
import Derived.Shelf.Strings.FieldsFuncAny
import Derived.Shelf.Strings.FieldsFuncGrows
import Derived.Shelf.Strings.BuilderCap
import Derived.Test.YtdnaddignhjihaaDoorProg
import Derived.WalkKit
import Derived.Below
import Derived.Lib.ConvBytes
import Derived.Laws.IdiomStrings
import Derived.OwnWalk
import Derived.Shelf.Strings.SlTrimAscii
import Derived.Deep.Draws
import Derived.Deep.AppendLies
import Derived.Maps.AppendAt
import Derived.Laws.BytesArg
import Derived.Laws.MakeOwn
import Derived.Laws.OwnMore
import Derived.Deep.OwnRows
import Derived.Tactics
import Derived.Laws.Slices
import Derived.KernelRfl
import Derived.RowKit3
import Derived.Deep.LoopGhost
import Derived.Deep.QuietTactic
import Derived.BigQuiet
import Derived.WideLaws
import Derived.Deep.DeepCutAuto
import Derived.Deep.CutBlock
import Derived.Deep.RegionHeld3
import Derived.Laws.Rows
import Derived.Lib.AppendStr
import Derived.ArgAppend
import Derived.Laws.IdiomCopy
import Derived.OrdersHeld
import Derived.Laws.BitsLemmas
import Derived.RowKit
import Derived.SizedLaws
import Derived.ChangeSlices
import Derived.ChangeArms
import Derived.ChangeSame
import Derived.DataElems
import Derived.BigCall
import Derived.Test.YtdnaddignhjihaaDoorZM1
namespace Go.Proofs
open Go.Shelf
def Tryd.lays167_ren : Go.Shelf.Ren := ⟨fun | 167 => 69 | 240 => 43 | 276 => 64 | n => n, fun | 70 => 54 | 5 => 5 | 75 => 59 | 0 => 0 | 72 => 57 | 37 => 55 | 4 => 4 | 164 => 101 | 80 => 62 | 9 => 9 | n => n, fun | n => n⟩
theorem Tryd.lays167 : Go.Proofs.Lays.n167 Tryd.prog Tryd.lays167_ren := {
  mixed := by kernel_rfl
  f167 := Tryd.func69.trans (congrArg some (by kernel_rfl))
  f240 := Tryd.func43.trans (congrArg some (by kernel_rfl))
  f276 := Tryd.func64.trans (congrArg some (by kernel_rfl))
  t0 := Tryd.underlying0
  a0 := Tryd.isAgg0
  z0 := Tryd.sizeOf0
  v0 := Tryd.zeroValue0
  t4 := Tryd.underlying4
  a4 := Tryd.isAgg4
  z4 := Tryd.sizeOf4
  v4 := Tryd.zeroValue4
  t5 := Tryd.underlying5
  a5 := Tryd.isAgg5
  z5 := Tryd.sizeOf5
  v5 := Tryd.zeroValue5
  t9 := Tryd.underlying9
  a9 := Tryd.isAgg9
  z9 := Tryd.sizeOf9
  v9 := Tryd.zeroValue9
  t20 := Tryd.underlying20
  a20 := Tryd.isAgg20
  z20 := Tryd.sizeOf20
  v20 := Tryd.zeroValue20
  t37 := Tryd.underlying55
  a37 := Tryd.isAgg55
  z37 := Tryd.sizeOf55
  v37 := Tryd.zeroValue55
  t70 := Tryd.underlying54
  a70 := Tryd.isAgg54
  z70 := Tryd.sizeOf54
  v70 := Tryd.zeroValue54
  t72 := Tryd.underlying57
  a72 := Tryd.isAgg57
  z72 := Tryd.sizeOf57
  v72 := Tryd.zeroValue57
  t75 := Tryd.underlying59
  a75 := Tryd.isAgg59
  z75 := Tryd.sizeOf59
  v75 := Tryd.zeroValue59
  t164 := Tryd.underlying101
  a164 := Tryd.isAgg101
  z164 := Tryd.sizeOf101
  v164 := Tryd.zeroValue101 }
theorem Tryd.Builder_Extra_167 : Builder.Extra Tryd.prog Tryd.lays167_ren := {
  sizeBuilder := by kernel_rfl
  liesBuilder := by kernel_rfl
  t5 := Tryd.underlying5
  a5 := Tryd.isAgg5
  z5 := Tryd.sizeOf5
  v5 := Tryd.zeroValue5
  infoByte := by kernel_rfl
  cellsByte := by kernel_rfl
  sizeByte := by kernel_rfl
  neB5 := by decide }
def Tryd.lays166_ren : Go.Shelf.Ren := ⟨fun | 166 => 70 | 240 => 43 | 276 => 64 | n => n, fun | 70 => 54 | 9 => 9 | 3 => 3 | 75 => 59 | 0 => 0 | 72 => 57 | 37 => 55 | 4 => 4 | 164 => 101 | 80 => 62 | 5 => 5 | n => n, fun | n => n⟩
theorem Tryd.lays166 : Go.Proofs.Lays.n166 Tryd.prog Tryd.lays166_ren := {
  mixed := by kernel_rfl
  f166 := Tryd.func70.trans (congrArg some (by kernel_rfl))
  f240 := Tryd.func43.trans (congrArg some (by kernel_rfl))
  f276 := Tryd.func64.trans (congrArg some (by kernel_rfl))
  t0 := Tryd.underlying0
  a0 := Tryd.isAgg0
  z0 := Tryd.sizeOf0
  v0 := Tryd.zeroValue0
  t3 := Tryd.underlying3
  a3 := Tryd.isAgg3
  z3 := Tryd.sizeOf3
  v3 := Tryd.zeroValue3
  t4 := Tryd.underlying4
  a4 := Tryd.isAgg4
  z4 := Tryd.sizeOf4
  v4 := Tryd.zeroValue4
  t9 := Tryd.underlying9
  a9 := Tryd.isAgg9
  z9 := Tryd.sizeOf9
  v9 := Tryd.zeroValue9
  t20 := Tryd.underlying20
  a20 := Tryd.isAgg20
  z20 := Tryd.sizeOf20
  v20 := Tryd.zeroValue20
  t37 := Tryd.underlying55
  a37 := Tryd.isAgg55
  z37 := Tryd.sizeOf55
  v37 := Tryd.zeroValue55
  t70 := Tryd.underlying54
  a70 := Tryd.isAgg54
  z70 := Tryd.sizeOf54
  v70 := Tryd.zeroValue54
  t72 := Tryd.underlying57
  a72 := Tryd.isAgg57
  z72 := Tryd.sizeOf57
  v72 := Tryd.zeroValue57
  t75 := Tryd.underlying59
  a75 := Tryd.isAgg59
  z75 := Tryd.sizeOf59
  v75 := Tryd.zeroValue59
  t164 := Tryd.underlying101
  a164 := Tryd.isAgg101
  z164 := Tryd.sizeOf101
  v164 := Tryd.zeroValue101 }
theorem Tryd.Builder_Extra_166 : Builder.Extra Tryd.prog Tryd.lays166_ren := {
  sizeBuilder := by kernel_rfl
  liesBuilder := by kernel_rfl
  t5 := Tryd.underlying5
  a5 := Tryd.isAgg5
  z5 := Tryd.sizeOf5
  v5 := Tryd.zeroValue5
  infoByte := by kernel_rfl
  cellsByte := by kernel_rfl
  sizeByte := by kernel_rfl
  neB5 := by decide }
def Tryd.lays169_ren : Go.Shelf.Ren := ⟨fun | 169 => 28 | n => n, fun | 70 => 54 | 9 => 9 | 0 => 0 | 72 => 57 | 37 => 55 | 127 => 85 | 3 => 3 | 5 => 5 | n => n, fun | n => n⟩
theorem Tryd.lays169 : Go.Proofs.Lays.n169 Tryd.prog Tryd.lays169_ren := {
  mixed := by kernel_rfl
  f169 := Tryd.func28.trans (congrArg some (by kernel_rfl))
  t0 := Tryd.underlying0
  a0 := Tryd.isAgg0
  z0 := Tryd.sizeOf0
  v0 := Tryd.zeroValue0
  t3 := Tryd.underlying3
  a3 := Tryd.isAgg3
  z3 := Tryd.sizeOf3
  v3 := Tryd.zeroValue3
  t9 := Tryd.underlying9
  a9 := Tryd.isAgg9
  z9 := Tryd.sizeOf9
  v9 := Tryd.zeroValue9
  t37 := Tryd.underlying55
  a37 := Tryd.isAgg55
  z37 := Tryd.sizeOf55
  v37 := Tryd.zeroValue55
  t70 := Tryd.underlying54
  a70 := Tryd.isAgg54
  z70 := Tryd.sizeOf54
  v70 := Tryd.zeroValue54
  t72 := Tryd.underlying57
  a72 := Tryd.isAgg57
  z72 := Tryd.sizeOf57
  v72 := Tryd.zeroValue57
  t127 := Tryd.underlying85
  a127 := Tryd.isAgg85
  z127 := Tryd.sizeOf85
  v127 := Tryd.zeroValue85 }
theorem Tryd.Builder_Extra_169 : Builder.Extra Tryd.prog Tryd.lays169_ren := {
  sizeBuilder := by kernel_rfl
  liesBuilder := by kernel_rfl
  t5 := Tryd.underlying5
  a5 := Tryd.isAgg5
  z5 := Tryd.sizeOf5
  v5 := Tryd.zeroValue5
  infoByte := by kernel_rfl
  cellsByte := by kernel_rfl
  sizeByte := by kernel_rfl
  neB5 := by decide }
def Tryd.lays160_ren : Go.Shelf.Ren := ⟨fun | 160 => 42 | 232 => 58 | 231 => 57 | 227 => 59 | 234 => 61 | 233 => 60 | 236 => 63 | 235 => 62 | 228 => 84 | 271 => 86 | 151 => 72 | 197 => 85 | 120 => 96 | 152 => 88 | 260 => 95 | 137 => 97 | 119 => 98 | 224 => 93 | 225 => 92 | 217 => 91 | 266 => 101 | n => n, fun | 9 => 9 | 4 => 4 | 3 => 3 | 5 => 5 | 117 => 97 | 116 => 96 | 0 => 0 | 124 => 100 | 21 => 21 | 105 => 118 | 46 => 120 | 119 => 127 | 139 => 130 | 138 => 129 | n => n, fun | 3 => 1 | 4 => 2 | n => n⟩
theorem Tryd.lays160 : Go.Proofs.Lays.n160 Tryd.prog Tryd.lays160_ren := {
  mixed := by kernel_rfl
  f119 := Tryd.func98.trans (congrArg some (by kernel_rfl))
  f120 := Tryd.func96.trans (congrArg some (by kernel_rfl))
  f137 := Tryd.func97.trans (congrArg some (by kernel_rfl))
  f151 := Tryd.func72.trans (congrArg some (by kernel_rfl))
  f152 := Tryd.func88.trans (congrArg some (by kernel_rfl))
  f160 := Tryd.func42.trans (congrArg some (by kernel_rfl))
  f197 := Tryd.func85.trans (congrArg some (by kernel_rfl))
  f217 := Tryd.func91.trans (congrArg some (by kernel_rfl))
  f224 := Tryd.func93.trans (congrArg some (by kernel_rfl))
  f225 := Tryd.func92.trans (congrArg some (by kernel_rfl))
  f227 := Tryd.func59.trans (congrArg some (by kernel_rfl))
  f228 := Tryd.func84.trans (congrArg some (by kernel_rfl))
  f231 := Tryd.func57.trans (congrArg some (by kernel_rfl))
  f232 := Tryd.func58.trans (congrArg some (by kernel_rfl))
  f233 := Tryd.func60.trans (congrArg some (by kernel_rfl))
  f234 := Tryd.func61.trans (congrArg some (by kernel_rfl))
  f235 := Tryd.func62.trans (congrArg some (by kernel_rfl))
  f236 := Tryd.func63.trans (congrArg some (by kernel_rfl))
  f260 := Tryd.func95.trans (congrArg some (by kernel_rfl))
  f266 := Tryd.func101.trans (congrArg some (by kernel_rfl))
  f271 := Tryd.func86.trans (congrArg some (by kernel_rfl))
  t0 := Tryd.underlying0
  a0 := Tryd.isAgg0
  z0 := Tryd.sizeOf0
  v0 := Tryd.zeroValue0
  t3 := Tryd.underlying3
  a3 := Tryd.isAgg3
  z3 := Tryd.sizeOf3
  v3 := Tryd.zeroValue3
  t4 := Tryd.underlying4
  a4 := Tryd.isAgg4
  z4 := Tryd.sizeOf4
  v4 := Tryd.zeroValue4
  t5 := Tryd.underlying5
  a5 := Tryd.isAgg5
  z5 := Tryd.sizeOf5
  v5 := Tryd.zeroValue5
  t9 := Tryd.underlying9
  a9 := Tryd.isAgg9
  z9 := Tryd.sizeOf9
  v9 := Tryd.zeroValue9
  t21 := Tryd.underlying21
  a21 := Tryd.isAgg21
  z21 := Tryd.sizeOf21
  v21 := Tryd.zeroValue21
  t46 := Tryd.underlying120
  a46 := Tryd.isAgg120
  z46 := Tryd.sizeOf120
  v46 := Tryd.zeroValue120
  t105 := Tryd.underlying118
  a105 := Tryd.isAgg118
  z105 := Tryd.sizeOf118
  v105 := Tryd.zeroValue118
  t116 := Tryd.underlying96
  a116 := Tryd.isAgg96
  z116 := Tryd.sizeOf96
  t117 := Tryd.underlying97
  a117 := Tryd.isAgg97
  z117 := Tryd.sizeOf97
  v117 := Tryd.zeroValue97
  t119 := Tryd.underlying127
  a119 := Tryd.isAgg127
  z119 := Tryd.sizeOf127
  t124 := Tryd.underlying100
  a124 := Tryd.isAgg100
  z124 := Tryd.sizeOf100
  v124 := Tryd.zeroValue100
  t138 := Tryd.underlying129
  a138 := Tryd.isAgg129
  z138 := Tryd.sizeOf129
  v138 := Tryd.zeroValue129
  t139 := Tryd.underlying130
  a139 := Tryd.isAgg130
  z139 := Tryd.sizeOf130
  v139 := Tryd.zeroValue130
  g3 := by kernel_rfl
  g4 := by kernel_rfl }
open Go.RowKit in
/-- (*strings.Builder).WriteByte: "WriteByte appends the byte c to b's buffer. The returned error is always nil.": UNDER Go's OWN LIMIT: the new length takes at most 2^47 bytes. (LAID: no walk: one application.) -/
theorem Tryd.Builder_WriteByte_k (B b : Nat) (bs : List Value) (c : Int) (w : World) (h : Lib.IsBuilderF 57 5 B b bs w) (hlen : bs.length + 1 ≤ 140737488355328) (hBw : B ≤ w.heap.size) :
    Calls Tryd.prog 69 #[.pointer (some ⟨b, 0, none⟩), .int .u8 c] w fun e w' => e = .returned .nilIface ∧ (Lib.BuilderAtF 57 5 B b (.pointer (some ⟨b, 0, none⟩)) (bs ++ [.int .u8 c]) w' ∧ Below B w w' ∧ Lib.OthersKept 5 (some b) w w') := Any.Builder_WriteByte_k Tryd.lays167 Tryd.Builder_Extra_167 B b bs c w h hlen hBw
open Go.RowKit in
/-- (*strings.Builder).WriteString: "WriteString appends the contents of s to b's buffer. It returns the length of s and a nil error.": UNDER Go's OWN LIMIT: the new length takes at most 2^47 bytes. THE FORM '_k': OVER 'Lib.IsBuilderF' (a builder that 'String()' may have read), AND WITH THE FRAME THAT REACHES ABOVE THE BUILDER: 'Lib.OthersKept': every block that is not b and is no row of uint8's stands as it stood: the iterator of a range among them.' HAS READ, TOO: the bytes go in BEHIND what is frozen, or, where there is no room, all goes over into a new row.) (LAID: no walk: one application.) -/
theorem Tryd.Builder_WriteString_k (B b : Nat) (bs : List Value) (s : ByteArray) (w : World) (h : Lib.IsBuilderF 57 5 B b bs w) (hlen : bs.length + s.size ≤ 140737488355328) (hBw : B ≤ w.heap.size) :
    Calls Tryd.prog 70 #[.pointer (some ⟨b, 0, none⟩), .string s] w fun e w' => e = .returned (.tuple #[.int .i64 s.size, .nilIface]) ∧ (Lib.BuilderAtF 57 5 B b (.pointer (some ⟨b, 0, none⟩)) (bs ++ Lib.strCells s) w' ∧ Below B w w' ∧ Lib.OthersKept 5 (some b) w w') := Any.Builder_WriteString_k Tryd.lays166 Tryd.Builder_Extra_166 B b bs s w h hlen hBw
open Go.RowKit in
/-- (*strings.Builder).String: "String returns the accumulated string.": WHATEVER THE BUILDER HOLDS; THE FORM '_k': OVER 'Lib.IsBuilderF' (a builder that 'String()' may have read), AND WITH THE FRAME THAT REACHES ABOVE THE BUILDER: 'Lib.OthersKept': every block that is not b and is no row of uint8's stands as it stood: the iterator of a range among them. (LAID: no walk: one application.) -/
theorem Tryd.Builder_String_any_k (B b : Nat) (l : List UInt8) (w : World) (h : Lib.IsBuilderF 57 5 B b (Lib.byteCells l) w) (hBw : B ≤ w.heap.size) :
    Calls Tryd.prog 28 #[.pointer (some ⟨b, 0, none⟩)] w fun e w' => e = .returned (.string ⟨l.toArray⟩) ∧ (Lib.IsBuilderF 57 5 B b (Lib.byteCells l) w' ∧ Below B w w' ∧ Lib.OthersKept 5 (some b) w w') := Any.Builder_String_any_k Tryd.lays169 Tryd.Builder_Extra_169 B b l w h hBw
def Tryd.lays168_ren : Go.Shelf.Ren := ⟨fun | 168 => 27 | 240 => 43 | 242 => 44 | 276 => 64 | 278 => 65 | n => n, fun | 70 => 54 | 21 => 21 | 3 => 3 | 75 => 59 | 0 => 0 | 72 => 57 | 37 => 55 | 4 => 4 | 164 => 101 | 51 => 103 | 5 => 5 | 46 => 120 | 80 => 62 | 9 => 9 | n => n, fun | n => n⟩
theorem Tryd.lays168 : Go.Proofs.Lays.n168 Tryd.prog Tryd.lays168_ren := {
  mixed := by kernel_rfl
  f168 := Tryd.func27.trans (congrArg some (by kernel_rfl))
  f240 := Tryd.func43.trans (congrArg some (by kernel_rfl))
  f242 := Tryd.func44.trans (congrArg some (by kernel_rfl))
  f276 := Tryd.func64.trans (congrArg some (by kernel_rfl))
  f278 := Tryd.func65.trans (congrArg some (by kernel_rfl))
  t0 := Tryd.underlying0
  a0 := Tryd.isAgg0
  z0 := Tryd.sizeOf0
  v0 := Tryd.zeroValue0
  t3 := Tryd.underlying3
  a3 := Tryd.isAgg3
  z3 := Tryd.sizeOf3
  v3 := Tryd.zeroValue3
  t4 := Tryd.underlying4
  a4 := Tryd.isAgg4
  z4 := Tryd.sizeOf4
  v4 := Tryd.zeroValue4
  t5 := Tryd.underlying5
  a5 := Tryd.isAgg5
  z5 := Tryd.sizeOf5
  v5 := Tryd.zeroValue5
  t9 := Tryd.underlying9
  a9 := Tryd.isAgg9
  z9 := Tryd.sizeOf9
  v9 := Tryd.zeroValue9
  t20 := Tryd.underlying20
  a20 := Tryd.isAgg20
  z20 := Tryd.sizeOf20
  v20 := Tryd.zeroValue20
  t21 := Tryd.underlying21
  a21 := Tryd.isAgg21
  z21 := Tryd.sizeOf21
  v21 := Tryd.zeroValue21
  t37 := Tryd.underlying55
  a37 := Tryd.isAgg55
  z37 := Tryd.sizeOf55
  v37 := Tryd.zeroValue55
  t46 := Tryd.underlying120
  a46 := Tryd.isAgg120
  z46 := Tryd.sizeOf120
  v46 := Tryd.zeroValue120
  t51 := Tryd.underlying103
  a51 := Tryd.isAgg103
  z51 := Tryd.sizeOf103
  v51 := Tryd.zeroValue103
  t70 := Tryd.underlying54
  a70 := Tryd.isAgg54
  z70 := Tryd.sizeOf54
  v70 := Tryd.zeroValue54
  t72 := Tryd.underlying57
  a72 := Tryd.isAgg57
  z72 := Tryd.sizeOf57
  v72 := Tryd.zeroValue57
  t75 := Tryd.underlying59
  a75 := Tryd.isAgg59
  z75 := Tryd.sizeOf59
  v75 := Tryd.zeroValue59
  t164 := Tryd.underlying101
  a164 := Tryd.isAgg101
  z164 := Tryd.sizeOf101
  v164 := Tryd.zeroValue101 }
theorem Tryd.Builder_Extra_168 : Builder.Extra Tryd.prog Tryd.lays168_ren := {
  sizeBuilder := by kernel_rfl
  liesBuilder := by kernel_rfl
  t5 := Tryd.underlying5
  a5 := Tryd.isAgg5
  z5 := Tryd.sizeOf5
  v5 := Tryd.zeroValue5
  infoByte := by kernel_rfl
  cellsByte := by kernel_rfl
  sizeByte := by kernel_rfl
  neB5 := by decide }
open Go.RowKit in
/-- (*strings.Builder).WriteRune: "WriteRune appends the UTF-8 encoding of Unicode code point r to b's buffer. It returns the length of r and a nil error.": EVERY RUNE (every int32: what is no rune goes in as U+FFFD's three bytes): 'Lib.runeCells r' (as bytes: 'Lib.encodeRune r': 'Lib.byteCells_encodeRune'); UNDER Go's OWN LIMIT: the new length takes at most 2^47 bytes. THE FORM '_k': OVER 'Lib.IsBuilderF', WITH THE FRAME THAT REACHES ABOVE THE BUILDER ('Lib.OthersKept'). (LAID: no walk: one application.) -/
theorem Tryd.Builder_WriteRune_k (B b : Nat) (bs : List Value) (r : Int) (hr0 : -2147483648 ≤ r) (hr1 : r ≤ 2147483647) (w : World) (h : Lib.IsBuilderF 57 5 B b bs w) (hlen : bs.length + 4 ≤ 140737488355328) (hBw : B ≤ w.heap.size) :
    Calls Tryd.prog 27 #[.pointer (some ⟨b, 0, none⟩), .int .i32 r] w fun e w' => e = .returned (.tuple #[.int .i64 (Lib.runeCells r).length, .nilIface]) ∧ (Lib.BuilderAtF 57 5 B b (.pointer (some ⟨b, 0, none⟩)) (bs ++ Lib.runeCells r) w' ∧ Below B w w' ∧ Lib.OthersKept 5 (some b) w w') := Any.Builder_WriteRune_k Tryd.lays168 Tryd.Builder_Extra_168 B b bs r hr0 hr1 w h hlen hBw
def Tryd.lays143_ren : Go.Shelf.Ren := ⟨fun | 143 => 77 | 219 => 83 | 217 => 91 | 225 => 92 | 224 => 93 | 267 => 94 | 266 => 101 | 314 => 102 | n => n, fun | 9 => 9 | 3 => 3 | 4 => 4 | 5 => 5 | 46 => 120 | 146 => 125 | 51 => 103 | n => n, fun | 1 => 0 | n => n⟩
theorem Tryd.lays143 : Go.Proofs.Lays.n143 Tryd.prog Tryd.lays143_ren := {
  mixed := by kernel_rfl
  f143 := Tryd.func77.trans (congrArg some (by kernel_rfl))
  f217 := Tryd.func91.trans (congrArg some (by kernel_rfl))
  f219 := Tryd.func83.trans (congrArg some (by kernel_rfl))
  f224 := Tryd.func93.trans (congrArg some (by kernel_rfl))
  f225 := Tryd.func92.trans (congrArg some (by kernel_rfl))
  f266 := Tryd.func101.trans (congrArg some (by kernel_rfl))
  f267 := Tryd.func94.trans (congrArg some (by kernel_rfl))
  f314 := Tryd.func102.trans (congrArg some (by kernel_rfl))
  t3 := Tryd.underlying3
  a3 := Tryd.isAgg3
  z3 := Tryd.sizeOf3
  v3 := Tryd.zeroValue3
  t4 := Tryd.underlying4
  a4 := Tryd.isAgg4
  z4 := Tryd.sizeOf4
  v4 := Tryd.zeroValue4
  t5 := Tryd.underlying5
  a5 := Tryd.isAgg5
  z5 := Tryd.sizeOf5
  v5 := Tryd.zeroValue5
  t9 := Tryd.underlying9
  a9 := Tryd.isAgg9
  z9 := Tryd.sizeOf9
  v9 := Tryd.zeroValue9
  t46 := Tryd.underlying120
  a46 := Tryd.isAgg120
  z46 := Tryd.sizeOf120
  v46 := Tryd.zeroValue120
  t51 := Tryd.underlying103
  a51 := Tryd.isAgg103
  z51 := Tryd.sizeOf103
  v51 := Tryd.zeroValue103
  t146 := Tryd.underlying125
  a146 := Tryd.isAgg125
  z146 := Tryd.sizeOf125
  v146 := Tryd.zeroValue125
  g1 := by kernel_rfl }
open Go.RowKit Go.Lib in
/-- strings.Index: "Index returns the index of the first instance of substr in s, or -1 if substr is not present in s.": IT RETURNS 'Lib.index s substr'; the world is as it was. (LAID: no walk: one application.) -/
theorem Tryd.strings_Index (s sub : ByteArray) (m : Int) (w : World) (hs : s.size < 4294967281) (hm : w.cell? ⟨0, 0, none⟩ = some (.int .i64 m)) :
    Calls Tryd.prog 77 #[.string s, .string sub] w fun e w' => e = .returned (.int .i64 (Lib.index s.data.toList sub.data.toList)) ∧ w' = w := Any.strings_Index Tryd.lays143 s sub m w hs hm
def Tryd.lays145_ren : Go.Shelf.Ren := ⟨fun | 145 => 40 | 220 => 56 | 219 => 83 | 217 => 91 | 225 => 92 | 224 => 93 | 267 => 94 | 266 => 101 | 314 => 102 | n => n, fun | 9 => 9 | 4 => 4 | 59 => 82 | 3 => 3 | 5 => 5 | 46 => 120 | 146 => 125 | 51 => 103 | n => n, fun | 1 => 0 | n => n⟩
theorem Tryd.lays145 : Go.Proofs.Lays.n145 Tryd.prog Tryd.lays145_ren := {
  mixed := by kernel_rfl
  f145 := Tryd.func40.trans (congrArg some (by kernel_rfl))
  f217 := Tryd.func91.trans (congrArg some (by kernel_rfl))
  f219 := Tryd.func83.trans (congrArg some (by kernel_rfl))
  f220 := Tryd.func56.trans (congrArg some (by kernel_rfl))
  f224 := Tryd.func93.trans (congrArg some (by kernel_rfl))
  f225 := Tryd.func92.trans (congrArg some (by kernel_rfl))
  f266 := Tryd.func101.trans (congrArg some (by kernel_rfl))
  f267 := Tryd.func94.trans (congrArg some (by kernel_rfl))
  f314 := Tryd.func102.trans (congrArg some (by kernel_rfl))
  t3 := Tryd.underlying3
  a3 := Tryd.isAgg3
  z3 := Tryd.sizeOf3
  v3 := Tryd.zeroValue3
  t4 := Tryd.underlying4
  a4 := Tryd.isAgg4
  z4 := Tryd.sizeOf4
  v4 := Tryd.zeroValue4
  t5 := Tryd.underlying5
  a5 := Tryd.isAgg5
  z5 := Tryd.sizeOf5
  v5 := Tryd.zeroValue5
  t9 := Tryd.underlying9
  a9 := Tryd.isAgg9
  z9 := Tryd.sizeOf9
  v9 := Tryd.zeroValue9
  t46 := Tryd.underlying120
  a46 := Tryd.isAgg120
  z46 := Tryd.sizeOf120
  v46 := Tryd.zeroValue120
  t51 := Tryd.underlying103
  a51 := Tryd.isAgg103
  z51 := Tryd.sizeOf103
  v51 := Tryd.zeroValue103
  t59 := Tryd.underlying82
  a59 := Tryd.isAgg82
  z59 := Tryd.sizeOf82
  v59 := Tryd.zeroValue82
  t146 := Tryd.underlying125
  a146 := Tryd.isAgg125
  z146 := Tryd.sizeOf125
  v146 := Tryd.zeroValue125
  g1 := by kernel_rfl }
open Go.RowKit Go.Lib in
/-- strings.Cut: "Cut slices s around the first instance of sep, returning the text before and after sep. The found result reports whether sep appears in s. If sep does not appear in s, cut returns s, "", false.": IT RETURNS 'Lib.cut s sep'; the world is as it was but for the count of draws. (LAID: no walk: one application.) -/
theorem Tryd.strings_Cut (s sep : ByteArray) (m : Int) (w : World) (hs : s.size < 4294967281) (hm : w.cell? ⟨0, 0, none⟩ = some (.int .i64 m)) :
    Calls Tryd.prog 40 #[.string s, .string sep] w fun e w' => e = .returned (.tuple #[.string ⟨(Lib.cut s.data.toList sep.data.toList).1.toArray⟩, .string ⟨(Lib.cut s.data.toList sep.data.toList).2.1.toArray⟩, .bool (Lib.cut s.data.toList sep.data.toList).2.2]) ∧ ∃ n, w' = w.drewN n := Any.strings_Cut Tryd.lays145 s sep m w hs hm
def Tryd.laysM145_ren : Go.Shelf.Ren := ⟨fun | 145 => 40 | 220 => 56 | 219 => 83 | 217 => 91 | 225 => 92 | 224 => 93 | 267 => 94 | 266 => 101 | 314 => 102 | n => n, fun | 9 => 9 | 4 => 4 | 59 => 82 | 3 => 3 | 5 => 5 | 46 => 120 | 146 => 125 | 51 => 103 | n => n, fun | 1 => 0 | n => n⟩
theorem Tryd.laysM145 : Go.Proofs.LaysM.n145 Tryd.prog Tryd.laysM145_ren := {
  mixed := by kernel_rfl
  f145 := Tryd.func40.trans (congrArg some (by kernel_rfl))
  f217 := Tryd.func91.trans (congrArg some (by kernel_rfl))
  f219 := Tryd.func83.trans (congrArg some (by kernel_rfl))
  f220 := Tryd.func56.trans (congrArg some (by kernel_rfl))
  f224 := Tryd.func93.trans (congrArg some (by kernel_rfl))
  f225 := Tryd.func92.trans (congrArg some (by kernel_rfl))
  f266 := Tryd.func101.trans (congrArg some (by kernel_rfl))
  f267 := Tryd.func94.trans (congrArg some (by kernel_rfl))
  f314 := Tryd.func102.trans (congrArg some (by kernel_rfl))
  t3 := Tryd.underlying3
  a3 := Tryd.isAgg3
  z3 := Tryd.sizeOf3
  v3 := Tryd.zeroValue3
  t4 := Tryd.underlying4
  a4 := Tryd.isAgg4
  z4 := Tryd.sizeOf4
  v4 := Tryd.zeroValue4
  t5 := Tryd.underlying5
  a5 := Tryd.isAgg5
  z5 := Tryd.sizeOf5
  v5 := Tryd.zeroValue5
  t9 := Tryd.underlying9
  a9 := Tryd.isAgg9
  z9 := Tryd.sizeOf9
  v9 := Tryd.zeroValue9
  t46 := Tryd.underlying120
  a46 := Tryd.isAgg120
  z46 := Tryd.sizeOf120
  v46 := Tryd.zeroValue120
  t51 := Tryd.underlying103
  a51 := Tryd.isAgg103
  z51 := Tryd.sizeOf103
  v51 := Tryd.zeroValue103
  t59 := Tryd.underlying82
  a59 := Tryd.isAgg82
  z59 := Tryd.sizeOf82
  v59 := Tryd.zeroValue82
  t146 := Tryd.underlying125
  a146 := Tryd.isAgg125
  z146 := Tryd.sizeOf125
  v146 := Tryd.zeroValue125
  g1 := by kernel_rfl
  i3 := by kernel_rfl
  i4 := by kernel_rfl
  i5 := by kernel_rfl
  i9 := by kernel_rfl
  i46 := by kernel_rfl
  i51 := by kernel_rfl
  i59 := by kernel_rfl
  i146 := by kernel_rfl
  m1 := by kernel_rfl
  s1_3 := fun w h => Go.Proofs.cell_of_shapedOpen_int (zero := #[.int .i64 0]) (t := 3) h (of_decide_eq_true (by kernel_rfl)) (by kernel_rfl) rfl (by kernel_rfl) (by kernel_rfl) Tryd.underlying3 }
def Tryd.lays99_ren : Go.Shelf.Ren := ⟨fun | 99 => 76 | 206 => 55 | n => n, fun | 9 => 9 | 4 => 4 | 3 => 3 | n => n, fun | n => n⟩
theorem Tryd.lays99 : Go.Proofs.Lays.n99 Tryd.prog Tryd.lays99_ren := {
  mixed := by kernel_rfl
  f99 := Tryd.func76.trans (congrArg some (by kernel_rfl))
  f206 := Tryd.func55.trans (congrArg some (by kernel_rfl))
  t3 := Tryd.underlying3
  a3 := Tryd.isAgg3
  z3 := Tryd.sizeOf3
  v3 := Tryd.zeroValue3
  t4 := Tryd.underlying4
  a4 := Tryd.isAgg4
  z4 := Tryd.sizeOf4
  v4 := Tryd.zeroValue4
  t9 := Tryd.underlying9
  a9 := Tryd.isAgg9
  z9 := Tryd.sizeOf9
  v9 := Tryd.zeroValue9 }
open Go.RowKit Go.Lib in
/-- strings.HasPrefix: "HasPrefix reports whether the string s begins with prefix.": IT RETURNS 'Lib.hasPrefix s prefix'; the world is as it was. (LAID: no walk: one application.) -/
theorem Tryd.strings_HasPrefix (s p : ByteArray) (w : World) :
    Calls Tryd.prog 76 #[.string s, .string p] w fun e w' => e = .returned (.bool (Lib.hasPrefix s.data.toList p.data.toList)) ∧ w' = w := Any.strings_HasPrefix Tryd.lays99 s p w
def Tryd.lays100_ren : Go.Shelf.Ren := ⟨fun | 100 => 50 | 207 => 75 | n => n, fun | 9 => 9 | 4 => 4 | 3 => 3 | n => n, fun | n => n⟩
theorem Tryd.lays100 : Go.Proofs.Lays.n100 Tryd.prog Tryd.lays100_ren := {
  mixed := by kernel_rfl
  f100 := Tryd.func50.trans (congrArg some (by kernel_rfl))
  f207 := Tryd.func75.trans (congrArg some (by kernel_rfl))
  t3 := Tryd.underlying3
  a3 := Tryd.isAgg3
  z3 := Tryd.sizeOf3
  v3 := Tryd.zeroValue3
  t4 := Tryd.underlying4
  a4 := Tryd.isAgg4
  z4 := Tryd.sizeOf4
  v4 := Tryd.zeroValue4
  t9 := Tryd.underlying9
  a9 := Tryd.isAgg9
  z9 := Tryd.sizeOf9
  v9 := Tryd.zeroValue9 }
open Go.RowKit Go.Lib in
/-- strings.HasSuffix: "HasSuffix reports whether the string s ends with suffix.": IT RETURNS 'Lib.hasSuffix s suffix'; the world is as it was. ('hs': no Go string is longer: a caller has it of every string that it was handed.) (LAID: no walk: one application.) -/
theorem Tryd.strings_HasSuffix (s p : ByteArray) (w : World) (hs : s.size ≤ 9223372036854775807) :
    Calls Tryd.prog 50 #[.string s, .string p] w fun e w' => e = .returned (.bool (Lib.hasSuffix s.data.toList p.data.toList)) ∧ w' = w := Any.strings_HasSuffix Tryd.lays100 s p w hs
def Tryd.lays101_ren : Go.Shelf.Ren := ⟨fun | 101 => 23 | 208 => 39 | 206 => 55 | n => n, fun | 9 => 9 | 4 => 4 | 3 => 3 | n => n, fun | n => n⟩
theorem Tryd.lays101 : Go.Proofs.Lays.n101 Tryd.prog Tryd.lays101_ren := {
  mixed := by kernel_rfl
  f101 := Tryd.func23.trans (congrArg some (by kernel_rfl))
  f206 := Tryd.func55.trans (congrArg some (by kernel_rfl))
  f208 := Tryd.func39.trans (congrArg some (by kernel_rfl))
  t3 := Tryd.underlying3
  a3 := Tryd.isAgg3
  z3 := Tryd.sizeOf3
  v3 := Tryd.zeroValue3
  t4 := Tryd.underlying4
  a4 := Tryd.isAgg4
  z4 := Tryd.sizeOf4
  v4 := Tryd.zeroValue4
  t9 := Tryd.underlying9
  a9 := Tryd.isAgg9
  z9 := Tryd.sizeOf9
  v9 := Tryd.zeroValue9 }
open Go.RowKit Go.Lib in
/-- strings.TrimPrefix: "TrimPrefix returns s without the provided leading prefix string. If s doesn't start with prefix, s is returned unchanged.": IT RETURNS 'Lib.trimPrefix s prefix'; the world is as it was. (LAID: no walk: one application.) -/
theorem Tryd.strings_TrimPrefix (s p : ByteArray) (w : World) :
    Calls Tryd.prog 23 #[.string s, .string p] w fun e w' => e = .returned (.string ⟨(Lib.trimPrefix s.data.toList p.data.toList).toArray⟩) ∧ w' = w := Any.strings_TrimPrefix Tryd.lays101 s p w
def Tryd.lays146_ren : Go.Shelf.Ren := ⟨fun | 146 => 52 | 221 => 78 | 268 => 89 | 138 => 90 | 143 => 77 | 195 => 99 | 197 => 85 | 218 => 100 | 219 => 83 | 260 => 95 | 217 => 91 | 225 => 92 | 224 => 93 | 267 => 94 | 266 => 101 | 314 => 102 | n => n, fun | 9 => 9 | 31 => 49 | 3 => 3 | 4 => 4 | 0 => 0 | 105 => 118 | 21 => 21 | 5 => 5 | 46 => 120 | 119 => 127 | 139 => 130 | 138 => 129 | 146 => 125 | 51 => 103 | n => n, fun | 1 => 0 | 3 => 1 | 4 => 2 | n => n⟩
theorem Tryd.lays146 : Go.Proofs.Lays.n146 Tryd.prog Tryd.lays146_ren := {
  mixed := by kernel_rfl
  f138 := Tryd.func90.trans (congrArg some (by kernel_rfl))
  f143 := Tryd.func77.trans (congrArg some (by kernel_rfl))
  f146 := Tryd.func52.trans (congrArg some (by kernel_rfl))
  f195 := Tryd.func99.trans (congrArg some (by kernel_rfl))
  f197 := Tryd.func85.trans (congrArg some (by kernel_rfl))
  f217 := Tryd.func91.trans (congrArg some (by kernel_rfl))
  f218 := Tryd.func100.trans (congrArg some (by kernel_rfl))
  f219 := Tryd.func83.trans (congrArg some (by kernel_rfl))
  f221 := Tryd.func78.trans (congrArg some (by kernel_rfl))
  f224 := Tryd.func93.trans (congrArg some (by kernel_rfl))
  f225 := Tryd.func92.trans (congrArg some (by kernel_rfl))
  f260 := Tryd.func95.trans (congrArg some (by kernel_rfl))
  f266 := Tryd.func101.trans (congrArg some (by kernel_rfl))
  f267 := Tryd.func94.trans (congrArg some (by kernel_rfl))
  f268 := Tryd.func89.trans (congrArg some (by kernel_rfl))
  f314 := Tryd.func102.trans (congrArg some (by kernel_rfl))
  t0 := Tryd.underlying0
  a0 := Tryd.isAgg0
  z0 := Tryd.sizeOf0
  v0 := Tryd.zeroValue0
  t3 := Tryd.underlying3
  a3 := Tryd.isAgg3
  z3 := Tryd.sizeOf3
  v3 := Tryd.zeroValue3
  t4 := Tryd.underlying4
  a4 := Tryd.isAgg4
  z4 := Tryd.sizeOf4
  v4 := Tryd.zeroValue4
  t5 := Tryd.underlying5
  a5 := Tryd.isAgg5
  z5 := Tryd.sizeOf5
  v5 := Tryd.zeroValue5
  t9 := Tryd.underlying9
  a9 := Tryd.isAgg9
  z9 := Tryd.sizeOf9
  v9 := Tryd.zeroValue9
  t21 := Tryd.underlying21
  a21 := Tryd.isAgg21
  z21 := Tryd.sizeOf21
  v21 := Tryd.zeroValue21
  t31 := Tryd.underlying49
  a31 := Tryd.isAgg49
  z31 := Tryd.sizeOf49
  v31 := Tryd.zeroValue49
  t46 := Tryd.underlying120
  a46 := Tryd.isAgg120
  z46 := Tryd.sizeOf120
  v46 := Tryd.zeroValue120
  t51 := Tryd.underlying103
  a51 := Tryd.isAgg103
  z51 := Tryd.sizeOf103
  v51 := Tryd.zeroValue103
  t105 := Tryd.underlying118
  a105 := Tryd.isAgg118
  z105 := Tryd.sizeOf118
  v105 := Tryd.zeroValue118
  t119 := Tryd.underlying127
  a119 := Tryd.isAgg127
  z119 := Tryd.sizeOf127
  t138 := Tryd.underlying129
  a138 := Tryd.isAgg129
  z138 := Tryd.sizeOf129
  v138 := Tryd.zeroValue129
  t139 := Tryd.underlying130
  a139 := Tryd.isAgg130
  z139 := Tryd.sizeOf130
  v139 := Tryd.zeroValue130
  t146 := Tryd.underlying125
  a146 := Tryd.isAgg125
  z146 := Tryd.sizeOf125
  v146 := Tryd.zeroValue125
  g1 := by kernel_rfl
  g3 := by kernel_rfl
  g4 := by kernel_rfl }
open Go.RowKit Go.Lib in
/-- strings.Split. (LAID: no walk: one application.) -/
theorem Tryd.strings_Split (s sep : ByteArray) (m : Int) (w : World) (hs : s.size < 4294967281) (hm : w.cell? ⟨0, 0, none⟩ = some (.int .i64 m)) (h1 : 1 ≤ sep.size) :
    Calls Tryd.prog 52 #[.string s, .string sep] w fun e w' =>
      e = .returned (.slice (some ⟨w.heap.size, 0, none⟩) (Lib.countB s sep + 1) (Lib.countB s sep + 1)) ∧ w' = w.alloc (.cells ((Lib.splitB sep 0 (Lib.countB s sep) s).map Value.string).toArray 9) := Any.strings_Split Tryd.lays146 (by kernel_rfl) s sep m w hs hm h1
def Tryd.lays151_ren : Go.Shelf.Ren := ⟨fun | 151 => 72 | 152 => 88 | 137 => 97 | 119 => 98 | 224 => 93 | 225 => 92 | 217 => 91 | 266 => 101 | n => n, fun | 9 => 9 | 21 => 21 | 4 => 4 | 3 => 3 | 5 => 5 | 0 => 0 | 46 => 120 | n => n, fun | n => n⟩
theorem Tryd.lays151 : Go.Proofs.Lays.n151 Tryd.prog Tryd.lays151_ren := {
  mixed := by kernel_rfl
  f119 := Tryd.func98.trans (congrArg some (by kernel_rfl))
  f137 := Tryd.func97.trans (congrArg some (by kernel_rfl))
  f151 := Tryd.func72.trans (congrArg some (by kernel_rfl))
  f152 := Tryd.func88.trans (congrArg some (by kernel_rfl))
  f217 := Tryd.func91.trans (congrArg some (by kernel_rfl))
  f224 := Tryd.func93.trans (congrArg some (by kernel_rfl))
  f225 := Tryd.func92.trans (congrArg some (by kernel_rfl))
  f266 := Tryd.func101.trans (congrArg some (by kernel_rfl))
  t0 := Tryd.underlying0
  a0 := Tryd.isAgg0
  z0 := Tryd.sizeOf0
  v0 := Tryd.zeroValue0
  t3 := Tryd.underlying3
  a3 := Tryd.isAgg3
  z3 := Tryd.sizeOf3
  v3 := Tryd.zeroValue3
  t4 := Tryd.underlying4
  a4 := Tryd.isAgg4
  z4 := Tryd.sizeOf4
  v4 := Tryd.zeroValue4
  t5 := Tryd.underlying5
  a5 := Tryd.isAgg5
  z5 := Tryd.sizeOf5
  v5 := Tryd.zeroValue5
  t9 := Tryd.underlying9
  a9 := Tryd.isAgg9
  z9 := Tryd.sizeOf9
  v9 := Tryd.zeroValue9
  t21 := Tryd.underlying21
  a21 := Tryd.isAgg21
  z21 := Tryd.sizeOf21
  v21 := Tryd.zeroValue21
  t46 := Tryd.underlying120
  a46 := Tryd.isAgg120
  z46 := Tryd.sizeOf120
  v46 := Tryd.zeroValue120 }
open Go.RowKit Go.Lib in
theorem Tryd.strings_ContainsRune_ascii (s : ByteArray) (r : Int) (w : World) (h0 : 0 ≤ r) (h1 : r < 128) :
    Calls Tryd.prog 72 #[.string s, .int .i32 r] w fun e w' => e = .returned (.bool (decide (0 ≤ Lib.indexByte s.data.toList r.toNat.toUInt8))) ∧ w' = w := Any.strings_ContainsRune_ascii Tryd.lays151 s r w h0 h1
def Tryd.lays229_ren : Go.Shelf.Ren := ⟨fun | 229 => 24 | n => n, fun | 9 => 9 | 40 => 51 | 31 => 49 | 152 => 79 | 3 => 3 | 0 => 0 | 4 => 4 | 21 => 21 | 154 => 81 | n => n, fun | n => n⟩
theorem Tryd.lays229 : Go.Proofs.Lays.n229 Tryd.prog Tryd.lays229_ren := {
  mixed := by kernel_rfl
  f229 := Tryd.func24.trans (congrArg some (by kernel_rfl))
  t0 := Tryd.underlying0
  a0 := Tryd.isAgg0
  z0 := Tryd.sizeOf0
  v0 := Tryd.zeroValue0
  t3 := Tryd.underlying3
  a3 := Tryd.isAgg3
  z3 := Tryd.sizeOf3
  v3 := Tryd.zeroValue3
  t4 := Tryd.underlying4
  a4 := Tryd.isAgg4
  z4 := Tryd.sizeOf4
  v4 := Tryd.zeroValue4
  t9 := Tryd.underlying9
  a9 := Tryd.isAgg9
  z9 := Tryd.sizeOf9
  v9 := Tryd.zeroValue9
  t21 := Tryd.underlying21
  a21 := Tryd.isAgg21
  z21 := Tryd.sizeOf21
  v21 := Tryd.zeroValue21
  t31 := Tryd.underlying49
  a31 := Tryd.isAgg49
  z31 := Tryd.sizeOf49
  v31 := Tryd.zeroValue49
  t40 := Tryd.underlying51
  a40 := Tryd.isAgg51
  z40 := Tryd.sizeOf51
  v40 := Tryd.zeroValue51
  t152 := Tryd.underlying79
  a152 := Tryd.isAgg79
  z152 := Tryd.sizeOf79
  v152 := Tryd.zeroValue79
  t154 := Tryd.underlying81
  a154 := Tryd.isAgg81
  z154 := Tryd.sizeOf81
  v154 := Tryd.zeroValue81 }
open Go.RowKit Go.Lib in
theorem Tryd.strings_FieldsFunc_runes (g : Nat) (lb : Array Value) (eg : ∀ args w, (callFunc g args).run Tryd.prog w = .ok (.enter g args) w) (p : Nat → Bool) (s : ByteArray) (w : World) (hs : s.size ≤ 4294967296) (hp : PredAtRunes Tryd.prog g lb p w) :
    Calls Tryd.prog 24 #[.string s, .func (.func g) #[] lb] w fun e w' => ∃ A, e = .returned (.slice (some ⟨A, 0, none⟩) (Lib.goFieldsP p s).length (Lib.goFieldsP p s).length) ∧ w.heap.size ≤ A ∧
      w'.ownsRow w.heap.size 9 1 (.slice (some ⟨A, 0, none⟩) (Lib.goFieldsP p s).length (Lib.goFieldsP p s).length) (Lib.goFieldsP p s).length ((Lib.goFieldsP p s).map Value.string) ∧ Below w.heap.size w w' := Any.strings_FieldsFunc_runes Tryd.lays229 g lb eg p s w hs hp (by kernel_rfl) (by kernel_rfl)
end Go.Proofs
namespace Go.Proofs.YtdnaddignhjihaaDoor.Given
open Go.RowKit
set_option linter.unusedVariables false
/-- Block b's cells begin with the bytes l; the mark stands behind them. -/
def Bts (w : World) (b : Nat) (l : List UInt8) : Prop :=
  ∃ cs : Array Value, w.heap[b]? = some (.cells cs 5 (cs.size, cs.size + 1)) ∧ l.length ≤ cs.size ∧ ∀ j (h : j < l.length), cs[j]? = some (.int .u8 ((l[j]).toNat : Int))
theorem Bts.of (w : World) (s : ByteArray) : Bts (Lib.bytesWorld w 5 s) w.heap.size s.data.toList := by
  refine ⟨_, Lib.bytesWorld_at_new w 5 s, by simp [Lib.bytesCells], ?_⟩
  intro j h
  have h' : j < s.size := by simpa using h
  simp [Lib.bytesCells, Array.getElem?_append, h']
theorem Bts.cell {w : World} {b : Nat} {l : List UInt8} (h : Bts w b l) (j : Nat) (hj : j < l.length) : w.cell? ⟨b, j, none⟩ = some (.int .u8 ((l[j]).toNat : Int)) := by
  obtain ⟨cs, h1, h2, h3⟩ := h
  simp only [World.cell?, h1]
  simpa using h3 j hj
theorem Bts.frozen {w : World} {b : Nat} {l : List UInt8} (h : Bts w b l) (j : Nat) (hj : j < l.length) : w.frozen? ⟨b, j, none⟩ = false := by
  obtain ⟨cs, h1, h2, h3⟩ := h
  simp only [World.frozen?, h1]
  rw [Bool.and_eq_false_iff]
  left
  simp
  omega
theorem Bts.set {w : World} {b : Nat} {l : List UInt8} (h : Bts w b l) (j : Nat) (hj : j < l.length) (c : UInt8) : Bts (w.setCell ⟨b, j, none⟩ (.int .u8 (c.toNat : Int))) b (l.set j c) := by
  obtain ⟨cs, h1, h2, h3⟩ := h
  refine ⟨cs.setIfInBounds j (.int .u8 (c.toNat : Int)), ?_, by simpa using h2, ?_⟩
  · simp [World.setCell, Array.getElem?_modify, h1]
  · intro i hi
    have hi' : i < l.length := by simpa using hi
    rw [Array.getElem?_setIfInBounds]
    by_cases e : j = i
    · subst e
      rw [if_pos rfl, if_pos (by omega)]
      simp
    · rw [if_neg e, h3 i hi']
      simp [e]
theorem Bts.below (w : World) (s : ByteArray) : Below w.heap.size w (Lib.bytesWorld w 5 s) :=
  ⟨by simp [Lib.bytesWorld, World.freeze, World.alloc, World.drew, -World.alloc_eq, -World.drew_eq], by simp [Lib.bytesWorld, World.freeze, World.alloc, World.drew, -World.alloc_eq, -World.drew_eq], by simp [Lib.bytesWorld, World.freeze, World.alloc, World.drew, -World.alloc_eq, -World.drew_eq],
    by rw [Lib.bytesWorld_size]; omega, fun k hk => Lib.bytesWorld_at_old w 5 s k hk⟩
/-- A byte in small letters. -/
def lowB (c : UInt8) : UInt8 := if 65 ≤ c.toNat ∧ c.toNat ≤ 90 then UInt8.ofNat (c.toNat + 32) else c
def lowL (l : List UInt8) : List UInt8 := l.map lowB
theorem low_next (s : List UInt8) (i : Nat) (h : i < s.length) : ((s.take i).map lowB ++ s.drop i).set i (lowB s[i]) = (s.take (i + 1)).map lowB ++ s.drop (i + 1) := by
  rw [List.set_append_right _ _ (by simp; omega)]
  rw [List.drop_eq_getElem_cons h, List.take_add_one, List.getElem?_eq_getElem h]
  have e : i - (List.map lowB (List.take i s)).length = 0 := by simp; omega
  rw [e, List.set_cons_zero]
  simp only [Option.toList_some, List.map_append, List.map_cons, List.map_nil, List.append_assoc, List.singleton_append]
theorem low_at (s : List UInt8) (i : Nat) (h : i < s.length) (h2 : i < ((s.take i).map lowB ++ s.drop i).length) : ((s.take i).map lowB ++ s.drop i)[i]'h2 = s[i] := by
  rw [List.getElem_append_right (by simp; omega)]
  have e : i - (List.map lowB (List.take i s)).length = 0 := by simp; omega
  simp only [e]
  rw [List.getElem_drop]
  rfl
theorem low_skip (s : List UInt8) (i : Nat) (h : i < s.length) (hl : lowB s[i] = s[i]) : (s.take i).map lowB ++ s.drop i = (s.take (i + 1)).map lowB ++ s.drop (i + 1) := by
  rw [← low_next s i h, hl]
  have := low_at s i h (by simp; omega)
  conv => rhs; rw [← this]
  rw [List.set_getElem_self]
theorem low_len (s : List UInt8) (i : Nat) : ((s.take i).map lowB ++ s.drop i).length = s.length := by simp; omega
end Go.Proofs.YtdnaddignhjihaaDoor.Given
namespace Go.Proofs.YtdnaddignhjihaaDoor.Given
open Go.RowKit
set_option linter.unusedVariables false
theorem wrap_low (c : UInt8) (h : 65 ≤ c.toNat ∧ c.toNat ≤ 90) : IntKind.u8.wrap ((c.toNat : Int) + 32) = ((lowB c).toNat : Int) := by
  unfold lowB
  rw [if_pos h]
  have : (UInt8.ofNat (c.toNat + 32)).toNat = c.toNat + 32 := by simp; omega
  rw [this]
  simp [IntKind.wrap, IntKind.signed, IntKind.bits]
  omega
theorem low_not (c : UInt8) (h : ¬ (65 ≤ c.toNat ∧ c.toNat ≤ 90)) : lowB c = c := by unfold lowB; rw [if_neg h]
theorem low_back (w wr : World) (b cap n : Nat) (l : List UInt8) (h : Bts wr b l) (hn : l.length = n) :
    (convert 55 9 (.slice (some ⟨b, 0, none⟩) n cap)).run Tryd.prog wr = .ok (.string ⟨l.toArray⟩) wr := by
  subst hn
  exact Go.run_convert_bytes_back wr 55 9 5 ⟨b, 0, none⟩ cap l Tryd.underlying55 Tryd.underlying5 Tryd.underlying9 (fun j hj => by
    have e : (⟨b, 0, none⟩ : Addr).add j = ⟨b, j, none⟩ := by unfold Addr.add; split <;> simp_all
    rw [e]
    exact h.cell j hj)

set_option maxHeartbeats 4000000 in
set_option maxRecDepth 1000000 in
theorem lower_calls (s : ByteArray) (w : World) (hs : s.size ≤ 140737488351232) :
    Calls Tryd.prog 41 #[.string s] w fun e w' => e = .returned (.string ⟨(lowL s.data.toList).toArray⟩) ∧ Below w.heap.size w w' := by
  have hconv := Lib.run_convert_string_bytes w 9 55 5 s Tryd.underlying9 Tryd.underlying55 Tryd.underlying5
  have hB : Hid (Bts (Lib.bytesWorld w 5 s) w.heap.size s.data.toList) := Bts.of w s
  have hb : Hid (Below w.heap.size w (Lib.bytesWorld w 5 s)) := Bts.below w s
  have hsl : Hid (s.data.toList.length = s.size) := by show _ = _; simp
  generalize Lib.bytesWorld w 5 s = w1 at hconv hB hb
  generalize grownCap w s.size 0 5 = cap at hconv
  go_enter Tryd.func41, Tryd.ntmps41
  go_wp2
  clear hconv
  go_loopw [10] (fun v wr => ∃ i : Nat, i ≤ s.size ∧ v = .int .i64 i ∧ Hid (Bts wr w.heap.size ((s.data.toList.take i).map lowB ++ s.data.toList.drop i)) ∧ Hid (Below w.heap.size w wr)) (fun v wr => s.size - (intOf v).toNat)
  case atStart =>
    refine ⟨0, by omega, rfl, ?_, hb⟩
    have e : (s.data.toList.take 0).map lowB ++ s.data.toList.drop 0 = s.data.toList := by simp
    rw [e]; exact hB
  case round =>
    clear hB hb
    obtain ⟨i, hi, rfl, hB, hb⟩ := hrel
    have hll := low_len s.data.toList i
    by_cases hlt : i < s.size
    · have hlt' : ((i : Int) < (s.size : Int)) = True := eq_true (by omega)
      have hil : i < s.data.toList.length := by rw [hsl.out]; exact hlt
      have hcell := hB.out.cell i (by rw [hll]; exact hil)
      rw [low_at s.data.toList i hil] at hcell
      have hfr := hB.out.frozen i (by rw [hll]; exact hil)
      have hset := hB.out.set i (by rw [hll]; exact hil) (lowB s.data.toList[i])
      rw [low_next s.data.toList i hil] at hset
      have hskip := low_skip s.data.toList i hil
      have hwl := wrap_low s.data.toList[i]
      have hln := low_not s.data.toList[i]
      generalize s.data.toList[i] = c at hcell hset hskip hwl hln
      have hset : Hid _ := hset
      clear hll
      by_cases hc : 65 ≤ c.toNat ∧ c.toNat ≤ 90
      · have hw2 := hwl hc
        have h1 : (65 ≤ (c.toNat : Int)) = True := eq_true (by omega)
        have h2 : ((c.toNat : Int) ≤ 90) = True := eq_true (by omega)
        clear hwl hln hskip hc hil
        go_wp2
        go_roundw
        case rel =>
          refine ⟨i + 1, by omega, by go_num, hset, ?_⟩
          exact Below.setCell hb.out (p := ⟨w.heap.size, i, none⟩) (Nat.le_refl _) _
        case measure => simp [intOf]; omega
      · have hl2 := hskip (hln hc)
        have hB2 : Hid _ := (hl2 ▸ hB.out : Bts wr w.heap.size ((s.data.toList.take (i + 1)).map lowB ++ s.data.toList.drop (i + 1)))
        clear hwl hln hskip hil hset hl2 hB
        have key : ((65 ≤ (c.toNat : Int)) = True ∧ ((c.toNat : Int) ≤ 90) = False) ∨ (65 ≤ (c.toNat : Int)) = False := by
          by_cases h : 65 ≤ c.toNat
          · exact .inl ⟨eq_true (by omega), eq_false (by omega)⟩
          · exact .inr (eq_false (by omega))
        clear hc
        rcases key with ⟨h1, h2⟩ | h1
        · go_wp2
          go_roundw
          case rel => exact ⟨i + 1, by omega, by go_num, hB2, hb⟩
          case measure => simp [intOf]; omega
        · go_wp2
          go_roundw
          case rel => exact ⟨i + 1, by omega, by go_num, hB2, hb⟩
          case measure => simp [intOf]; omega
    · have hlt' : ((i : Int) < (s.size : Int)) = False := eq_false (by omega)
      obtain rfl : i = s.size := by omega
      have hB2 : Bts wr w.heap.size (lowL s.data.toList) := by
        have := hB.out
        rw [List.take_of_length_le (Nat.le_of_eq hsl.out), List.drop_of_length_le (Nat.le_of_eq hsl.out), List.append_nil] at this
        exact this
      have hback := low_back w wr w.heap.size cap s.size (lowL s.data.toList) hB2 (by rw [lowL, List.length_map]; exact hsl.out)
      clear hB hB2
      go_wp2
      go_ret
      exact ⟨rfl, hb.out⟩
set_option maxHeartbeats 4000000 in
set_option maxRecDepth 1000000 in
theorem Lower_calls (s : ByteArray) (w : World) (hs : s.size ≤ 140737488351232) :
    Calls Tryd.prog 29 #[.string s] w fun e w' => e = .returned (.string ⟨(lowL s.data.toList).toArray⟩) ∧ Below w.heap.size w w' := by
  have hconv := Lib.run_convert_string_bytes w 9 55 5 s Tryd.underlying9 Tryd.underlying55 Tryd.underlying5
  have hB : Hid (Bts (Lib.bytesWorld w 5 s) w.heap.size s.data.toList) := Bts.of w s
  have hb : Hid (Below w.heap.size w (Lib.bytesWorld w 5 s)) := Bts.below w s
  have hsl : Hid (s.data.toList.length = s.size) := by show _ = _; simp
  generalize Lib.bytesWorld w 5 s = w1 at hconv hB hb
  generalize grownCap w s.size 0 5 = cap at hconv
  go_enter Tryd.func29, Tryd.ntmps29
  go_wp2
  clear hconv
  go_loopw [4] (fun v wr => ∃ i : Nat, i ≤ s.size ∧ v = .int .i64 i ∧ Hid (Bts wr w.heap.size ((s.data.toList.take i).map lowB ++ s.data.toList.drop i)) ∧ Hid (Below w.heap.size w wr)) (fun v wr => s.size - (intOf v).toNat)
  case atStart =>
    refine ⟨0, by omega, rfl, ?_, hb⟩
    have e : (s.data.toList.take 0).map lowB ++ s.data.toList.drop 0 = s.data.toList := by simp
    rw [e]; exact hB
  case round =>
    clear hB hb
    obtain ⟨i, hi, rfl, hB, hb⟩ := hrel
    have hll := low_len s.data.toList i
    by_cases hlt : i < s.size
    · have hlt' : ((i : Int) < (s.size : Int)) = True := eq_true (by omega)
      have hil : i < s.data.toList.length := by rw [hsl.out]; exact hlt
      have hcell := hB.out.cell i (by rw [hll]; exact hil)
      rw [low_at s.data.toList i hil] at hcell
      have hfr := hB.out.frozen i (by rw [hll]; exact hil)
      have hset := hB.out.set i (by rw [hll]; exact hil) (lowB s.data.toList[i])
      rw [low_next s.data.toList i hil] at hset
      have hskip := low_skip s.data.toList i hil
      have hwl := wrap_low s.data.toList[i]
      have hln := low_not s.data.toList[i]
      generalize s.data.toList[i] = c at hcell hset hskip hwl hln
      have hset : Hid _ := hset
      clear hll
      by_cases hc : 65 ≤ c.toNat ∧ c.toNat ≤ 90
      · have hw2 := hwl hc
        have h1 : (65 ≤ (c.toNat : Int)) = True := eq_true (by omega)
        have h2 : ((c.toNat : Int) ≤ 90) = True := eq_true (by omega)
        clear hwl hln hskip hc hil
        go_wp2
        go_roundw
        case rel =>
          refine ⟨i + 1, by omega, by go_num, hset, ?_⟩
          exact Below.setCell hb.out (p := ⟨w.heap.size, i, none⟩) (Nat.le_refl _) _
        case measure => simp [intOf]; omega
      · have hl2 := hskip (hln hc)
        have hB2 : Hid _ := (hl2 ▸ hB.out : Bts wr w.heap.size ((s.data.toList.take (i + 1)).map lowB ++ s.data.toList.drop (i + 1)))
        clear hwl hln hskip hil hset hl2 hB
        have key : ((65 ≤ (c.toNat : Int)) = True ∧ ((c.toNat : Int) ≤ 90) = False) ∨ (65 ≤ (c.toNat : Int)) = False := by
          by_cases h : 65 ≤ c.toNat
          · exact .inl ⟨eq_true (by omega), eq_false (by omega)⟩
          · exact .inr (eq_false (by omega))
        clear hc
        rcases key with ⟨h1, h2⟩ | h1
        · go_wp2
          go_roundw
          case rel => exact ⟨i + 1, by omega, by go_num, hB2, hb⟩
          case measure => simp [intOf]; omega
        · go_wp2
          go_roundw
          case rel => exact ⟨i + 1, by omega, by go_num, hB2, hb⟩
          case measure => simp [intOf]; omega
    · have hlt' : ((i : Int) < (s.size : Int)) = False := eq_false (by omega)
      obtain rfl : i = s.size := by omega
      have hB2 : Bts wr w.heap.size (lowL s.data.toList) := by
        have := hB.out
        rw [List.take_of_length_le (Nat.le_of_eq hsl.out), List.drop_of_length_le (Nat.le_of_eq hsl.out), List.append_nil] at this
        exact this
      have hback := low_back w wr w.heap.size cap s.size (lowL s.data.toList) hB2 (by rw [lowL, List.length_map]; exact hsl.out)
      clear hB hB2
      go_wp2
      go_ret
      exact ⟨rfl, hb.out⟩
end Go.Proofs.YtdnaddignhjihaaDoor.Given
namespace Go.Proofs.YtdnaddignhjihaaDoor.Given
open Go.RowKit Go.Proofs.YtdnaddignhjihaaDoorW.PrintWords
set_option linter.unusedVariables false
/-- The package variable that Index reads. -/
def Shp (w : World) : Prop := ∃ m : Int, w.cell? ⟨0, 0, none⟩ = some (.int .i64 m)
theorem Shp.lt {w : World} (h : Shp w) : 0 < w.heap.size := by
  obtain ⟨m, hm⟩ := h
  apply Decidable.byContradiction
  intro hh
  simp only [World.cell?] at hm
  rw [Array.getElem?_eq_none (by omega)] at hm
  cases hm
theorem Shp.below {w w' : World} (h : Shp w) (hb : Below w.heap.size w w') : Shp w' := by
  have h0 := h.lt
  obtain ⟨m, hm⟩ := h
  exact ⟨m, (hb.cell (p := ⟨0, 0, none⟩) h0).trans hm⟩

theorem empty_bne (l : List UInt8) : l.isEmpty = !(l != []) := by cases l <;> rfl
def strings_Cut.f (a0 a1 : ByteArray) : Option (ByteArray × ByteArray × Bool) :=
  if a0.size < 4294967281 then some (⟨(Lib.cut a0.data.toList a1.data.toList).1.toArray⟩, ⟨(Lib.cut a0.data.toList a1.data.toList).2.1.toArray⟩, (Lib.cut a0.data.toList a1.data.toList).2.2) else none
theorem strings_Cut.calls (a0 a1 : ByteArray) (r1 r2 : ByteArray) (r3 : Bool) (w : World) (h : strings_Cut.f a0 a1 = some (r1, r2, r3)) (hS_ : Shp w) :
    Calls Tryd.prog 40 #[.string a0, .string a1] w fun e w' => e = .returned (.tuple #[.string r1, .string r2, .bool r3]) ∧ Drawn0 w w' := by
  obtain ⟨m, hm⟩ := hS_
  unfold strings_Cut.f at h
  split at h
  · rename_i hc
    obtain ⟨rfl, h2⟩ := Prod.mk.inj (Option.some.inj h)
    obtain ⟨rfl, rfl⟩ := Prod.mk.inj h2
    exact (Tryd.strings_Cut a0 a1 m w hc hm).mono fun e w' ⟨h1, h2⟩ => ⟨h1, ⟨h2⟩⟩
  · cases h

def strings_Trim.f (a0 a1 : ByteArray) : Option ByteArray :=
  if a0.size ≤ 140737488351232 ∧ a1.size < 1000 ∧ (a1.data.toList.all fun b => decide (b.toNat < 128)) = true then some ⟨(Lib.trimS a0.data.toList a1.data.toList).toArray⟩ else none
theorem strings_Trim.calls (a0 a1 : ByteArray) (r : ByteArray) (w : World) (h : strings_Trim.f a0 a1 = some r) :
    Calls Tryd.prog 42 #[.string a0, .string a1] w fun e w' => e = .returned (.string r) ∧ Below w.heap.size w w' := by
  unfold strings_Trim.f at h
  split at h
  · rename_i hc
    obtain rfl := Option.some.inj h
    refine Any.strings_Trim_laid Tryd.lays160 (by kernel_rfl) a0 a1 w (by omega) (by omega) ?_
    intro j b hj
    have := List.all_eq_true.mp hc.2.2 b (List.mem_of_getElem? hj)
    simpa using this
  · cases h

def strings_TrimPrefix.f (a0 a1 : ByteArray) : Option ByteArray := some ⟨(Lib.trimPrefix a0.data.toList a1.data.toList).toArray⟩
theorem strings_TrimPrefix.calls (a0 a1 : ByteArray) (r : ByteArray) (w : World) (h : strings_TrimPrefix.f a0 a1 = some r) :
    Calls Tryd.prog 23 #[.string a0, .string a1] w fun e w' => e = .returned (.string r) ∧ Drawn0 w w' := by
  obtain rfl := Option.some.inj h
  exact (Tryd.strings_TrimPrefix a0 a1 w).mono fun e w' ⟨h1, h2⟩ => ⟨h1, h2 ▸ Drawn0.refl w⟩

def lines_lower.f (a0 : ByteArray) : Option ByteArray := if a0.size ≤ 140737488351232 then some ⟨(lowL a0.data.toList).toArray⟩ else none
theorem lines_lower.calls (a0 : ByteArray) (r : ByteArray) (w : World) (h : lines_lower.f a0 = some r) :
    Calls Tryd.prog 41 #[.string a0] w fun e w' => e = .returned (.string r) ∧ Below w.heap.size w w' := by
  unfold lines_lower.f at h
  split at h
  · rename_i hc
    obtain rfl := Option.some.inj h
    exact lower_calls a0 w hc
  · cases h
def decorumref09_Lower.f (a0 : ByteArray) : Option ByteArray := if a0.size ≤ 140737488351232 then some ⟨(lowL a0.data.toList).toArray⟩ else none
theorem decorumref09_Lower.calls (a0 : ByteArray) (r : ByteArray) (w : World) (h : decorumref09_Lower.f a0 = some r) :
    Calls Tryd.prog 29 #[.string a0] w fun e w' => e = .returned (.string r) ∧ Below w.heap.size w w' := by
  unfold decorumref09_Lower.f at h
  split at h
  · rename_i hc
    obtain rfl := Option.some.inj h
    exact Lower_calls a0 w hc
  · cases h
end Go.Proofs.YtdnaddignhjihaaDoor.Given
namespace Go.Proofs.YtdnaddignhjihaaDoor.QBase
open Go.Proofs.YtdnaddignhjihaaDoor.Given
open Go.RowKit Go.Proofs.YtdnaddignhjihaaDoorW.PrintWords Go.Proofs.YtdnaddignhjihaaDoorW.PrintLast Go.Proofs.YtdnaddignhjihaaDoorW.PrintMore
attribute [local go_sem] max2_int min2_int max_two min_two max_three min_three max_four min_four   -- for this text's walks alone
set_option linter.unusedVariables false
set_option linter.unusedSimpArgs false
def errW : Option Int → Value
  | none => .nilIface
  | some c => .iface 0 (.int .i64 c)
theorem errW_none : errW none = .nilIface := rfl
theorem errW_some (c : Int) : errW (some c) = .iface 0 (.int .i64 c) := rfl

structure S30 where
  f0 : Bool
  f1 : ByteArray
def z30 : S30 := ⟨false, (⟨#[]⟩ : ByteArray)⟩
def k30 : Kd S30 := Kd.iso (Kd.pair Kd.bool Kd.string) (fun x : S30 => (x.f0, x.f1))
theorem k30_open {w : World} {x : S30} {cs : List Value} (h : k30.K w x cs) : cs = [.bool x.f0, .string x.f1] := by
  obtain ⟨_, _, rfl, rfl, rfl⟩ := h
  exact rfl
theorem k30_mkM (w : World) (base : Nat) (ok : Nat → Prop) (x : S30)  : k30.M w base ok x [.bool x.f0, .string x.f1] := ⟨[.bool x.f0], [.string x.f1], rfl, rfl, rfl⟩
def rd_T30 (xs : List S30) (i : Int) : S30 := xs.getD i.toNat z30
theorem at_T30 {w : World} {A : Option Addr} {n : Nat} {xs : List S30} (h : Kd.C k30 w A n xs) (i : Int) (h0 : 0 ≤ i) (h1 : i < n) : ∃ ad , A = some ad ∧ w.cell? (ad.add (i.toNat * 2)) = some (.bool (rd_T30 xs i).f0) ∧ w.cell? ⟨(ad.add (i.toNat * 2)).block, (ad.add (i.toNat * 2)).off + 1, none⟩ = some (.string (rd_T30 xs i).f1) := by
  obtain ⟨ad, c, e, _, hK, hc0⟩ := Kd.C_get h z30 i h0 h1
  have hc : ∀ j u, c[j]? = some u → w.cell? (ad.add (i.toNat * 2 + j)) = some u := hc0
  obtain rfl := k30_open hK
  exact ⟨ad, e, hc 0 _ rfl, by rw [← add_field _ _ 1 (by omega)]; exact hc 1 _ rfl⟩

structure S86 where
  f0 : (List ByteArray)
  f1 : (List S30)
  f2 : Int
def z86 : S86 := ⟨([] : List ByteArray), ([] : List S30), (0 : Int)⟩
def k86 : Kd S86 := Kd.iso (Kd.pair (Kd.slice 9 Kd.string) (Kd.pair (Kd.slice 30 k30) (Kd.int .i64))) (fun x : S86 => (x.f0, x.f1, x.f2))
theorem k86_open {w : World} {x : S86} {cs : List Value} (h : k86.K w x cs) : ∃ A0 c0 A1 c1, cs = [.slice A0 x.f0.length c0, .slice A1 x.f1.length c1, .int .i64 x.f2] ∧ x.f0.length ≤ c0 ∧ Kd.string.C w A0 x.f0.length x.f0 ∧ x.f1.length ≤ c1 ∧ k30.C w A1 x.f1.length x.f1 := by
  obtain ⟨_, _, rfl, ⟨A0, c0, rfl, l0, g0⟩, ⟨_, _, rfl, ⟨A1, c1, rfl, l1, g1⟩, rfl⟩⟩ := h
  exact ⟨A0, c0, A1, c1, rfl, l0, g0, l1, g1⟩
theorem k86_openM {w : World} {base : Nat} {ok : Nat → Prop} {x : S86} {cs : List Value} (h : k86.M w base ok x cs) : ∃ v0 v1, cs = [v0, v1, .int .i64 x.f2] ∧ Kd.string.R 9 w base ok v0 x.f0 ∧ k30.R 30 w base ok v1 x.f1 := by
  obtain ⟨_, _, rfl, ⟨v0, rfl, g0⟩, ⟨_, _, rfl, ⟨v1, rfl, g1⟩, rfl⟩⟩ := h
  exact ⟨v0, v1, rfl, g0, g1⟩
theorem k86_mkM (w : World) (base : Nat) (ok : Nat → Prop) (x : S86) {v0 : Value} (g0 : Kd.string.R 9 w base ok v0 x.f0) {v1 : Value} (g1 : k30.R 30 w base ok v1 x.f1) : k86.M w base ok x [v0, v1, .int .i64 x.f2] := ⟨[v0], [v1, .int .i64 x.f2], rfl, ⟨v0, rfl, g0⟩, ⟨[v1], [.int .i64 x.f2], rfl, ⟨v1, rfl, g1⟩, rfl⟩⟩
def rd_T86 (xs : List S86) (i : Int) : S86 := xs.getD i.toNat z86
theorem at_T86 {w : World} {A : Option Addr} {n : Nat} {xs : List S86} (h : Kd.C k86 w A n xs) (i : Int) (h0 : 0 ≤ i) (h1 : i < n) : ∃ ad A0 c0 A1 c1, A = some ad ∧ w.cell? (ad.add (i.toNat * 3)) = some (.slice A0 (rd_T86 xs i).f0.length c0) ∧ w.cell? ⟨(ad.add (i.toNat * 3)).block, (ad.add (i.toNat * 3)).off + 1, none⟩ = some (.slice A1 (rd_T86 xs i).f1.length c1) ∧ w.cell? ⟨(ad.add (i.toNat * 3)).block, (ad.add (i.toNat * 3)).off + 2, none⟩ = some (.int .i64 (rd_T86 xs i).f2) ∧ (rd_T86 xs i).f0.length ≤ c0 ∧ Kd.string.C w A0 (rd_T86 xs i).f0.length (rd_T86 xs i).f0 ∧ (rd_T86 xs i).f1.length ≤ c1 ∧ k30.C w A1 (rd_T86 xs i).f1.length (rd_T86 xs i).f1 := by
  obtain ⟨ad, c, e, _, hK, hc0⟩ := Kd.C_get h z86 i h0 h1
  have hc : ∀ j u, c[j]? = some u → w.cell? (ad.add (i.toNat * 3 + j)) = some u := hc0
  obtain ⟨A0, c0, A1, c1, rfl, l0, g0, l1, g1⟩ := k86_open hK
  exact ⟨ad, A0, c0, A1, c1, e, hc 0 _ rfl, by rw [← add_field _ _ 1 (by omega)]; exact hc 1 _ rfl, by rw [← add_field _ _ 2 (by omega)]; exact hc 2 _ rfl, l0, g0, l1, g1⟩

structure S35 where
  f0 : ByteArray
  f1 : ByteArray
def z35 : S35 := ⟨(⟨#[]⟩ : ByteArray), (⟨#[]⟩ : ByteArray)⟩
def k35 : Kd S35 := Kd.iso (Kd.pair Kd.string Kd.string) (fun x : S35 => (x.f0, x.f1))
theorem k35_open {w : World} {x : S35} {cs : List Value} (h : k35.K w x cs) : cs = [.string x.f0, .string x.f1] := by
  obtain ⟨_, _, rfl, rfl, rfl⟩ := h
  exact rfl
theorem k35_mkM (w : World) (base : Nat) (ok : Nat → Prop) (x : S35)  : k35.M w base ok x [.string x.f0, .string x.f1] := ⟨[.string x.f0], [.string x.f1], rfl, rfl, rfl⟩
def rd_T35 (xs : List S35) (i : Int) : S35 := xs.getD i.toNat z35
theorem at_T35 {w : World} {A : Option Addr} {n : Nat} {xs : List S35} (h : Kd.C k35 w A n xs) (i : Int) (h0 : 0 ≤ i) (h1 : i < n) : ∃ ad , A = some ad ∧ w.cell? (ad.add (i.toNat * 2)) = some (.string (rd_T35 xs i).f0) ∧ w.cell? ⟨(ad.add (i.toNat * 2)).block, (ad.add (i.toNat * 2)).off + 1, none⟩ = some (.string (rd_T35 xs i).f1) := by
  obtain ⟨ad, c, e, _, hK, hc0⟩ := Kd.C_get h z35 i h0 h1
  have hc : ∀ j u, c[j]? = some u → w.cell? (ad.add (i.toNat * 2 + j)) = some u := hc0
  obtain rfl := k35_open hK
  exact ⟨ad, e, hc 0 _ rfl, by rw [← add_field _ _ 1 (by omega)]; exact hc 1 _ rfl⟩

end Go.Proofs.YtdnaddignhjihaaDoor.QBase
namespace Go.Proofs.YtdnaddignhjihaaDoor.Open
open Go.RowKit Go.Proofs.YtdnaddignhjihaaDoorW.PrintWords
set_option linter.unusedVariables false
/-- Whatever reads as data at type t is of the kind d, and good. -/
def Opens {α : Type} (P : Program) (t : TypeId) (d : Kd α) (good : α → Prop) : Prop :=
  d.sz = P.cellsOf t ∧ ∀ (H : Type) (enc : TypeId × Value → H) (w : World) (base : Nat) (spare : Nat → Bool) (held : Bool) (fuel : Nat) (cs : List Value) (D : DataW H) (ps : List MemPlace),
    DataW.trod enc P w base spare held fuel t cs = some (D, ps) → (∀ n ∈ D.weights P t, n ≤ reachBytes) → ∃ x, d.K w x cs ∧ good x
theorem opens_int {P : Program} {t : TypeId} {k : IntKind} (hu : P.underlying t = some (.int k)) (hc : P.cellsOf t = 1) : Opens P t (Kd.int k) (fun x => (Lit.int k x).wf = true) :=
  ⟨hc.symm, fun H enc w base spare held fuel cs D ps ht hw => by
    obtain ⟨n, rfl, _, hn⟩ := DataW.trod_int hu ht
    exact ⟨n, rfl, hn⟩⟩
theorem opens_bool {P : Program} {t : TypeId} (hu : P.underlying t = some .bool) (hc : P.cellsOf t = 1) : Opens P t Kd.bool (fun _ => True) :=
  ⟨hc.symm, fun H enc w base spare held fuel cs D ps ht hw => by
    obtain ⟨b, rfl, _⟩ := DataW.trod_bool hu ht
    exact ⟨b, rfl, trivial⟩⟩
theorem opens_string {P : Program} {t : TypeId} (hu : P.underlying t = some .string) (hc : P.cellsOf t = 1) : Opens P t Kd.string (fun x => x.size ≤ 140737488351232) :=
  ⟨hc.symm, fun H enc w base spare held fuel cs D ps ht hw => by
    obtain ⟨s, rfl, hx, _⟩ := DataW.trod_string hu ht
    obtain ⟨rfl, _⟩ := Prod.mk.inj hx
    refine ⟨s, rfl, ?_⟩
    have := hw s.data.toList.length (by simp [DataW.weights])
    rw [data_length] at this
    exact this⟩
theorem exists_list {α : Type} (Q : Nat → α → Prop) : ∀ n, (∀ i, i < n → ∃ x, Q i x) → ∃ l : List α, l.length = n ∧ ∀ i x, l[i]? = some x → Q i x
  | 0, _ => ⟨[], rfl, fun i x h => by simp at h⟩
  | n + 1, h => by
    obtain ⟨l, hl, hq⟩ := exists_list Q n (fun i hi => h i (by omega))
    obtain ⟨x, hx⟩ := h n (by omega)
    refine ⟨l ++ [x], by simp [hl], fun i y hy => ?_⟩
    by_cases hi : i < n
    · rw [List.getElem?_append_left (by omega)] at hy
      exact hq i y hy
    · have hlt := (List.getElem?_eq_some_iff.1 hy).1
      have : i = n := by simp [hl] at hlt; omega
      subst this
      rw [List.getElem?_append_right (by omega), hl] at hy
      simp at hy
      exact hy ▸ hx
theorem cells_at {w : World} {base n : Nat} {a : Addr} {cs : List Value} (h : w.cells? base a n = some cs) : cs.length = n ∧ ∀ i u, cs[i]? = some u → w.cell? (a.add i) = some u := by
  unfold World.cells? at h
  split at h
  · have hl := mapM_some_length h
    simp only [List.length_range] at hl
    refine ⟨hl, fun i u hu => ?_⟩
    have hi := (List.getElem?_eq_some_iff.1 hu).1
    have := mapM_some_get h i i (by rw [List.getElem?_range (by omega)])
    rw [this, hu]
  · cases h
theorem weightsAll_mem {H : Type} {P : Program} {e : TypeId} : ∀ {l : List (DataW H)} {d : DataW H} {n : Nat}, d ∈ l → n ∈ d.weights P e → n ∈ DataW.weightsAll P e l
  | a :: l, d, n, hd, hn => by
    simp only [DataW.weightsAll, List.mem_append]
    rcases List.mem_cons.1 hd with rfl | hd
    · exact Or.inl hn
    · exact Or.inr (weightsAll_mem hd hn)
theorem opens_slice {α : Type} {P : Program} {t e : TypeId} {d : Kd α} {good : α → Prop} (hu : P.underlying t = some (.slice e)) (hc : P.cellsOf t = 1) {b : Nat} (hb : P.bytesOf e = b) (ho : Opens P e d good) :
    Opens P t (Kd.slice e d) (fun l => l.length * b ≤ 140737488351232 ∧ l.length ≤ maxLen ∧ ∀ x ∈ l, good x) :=
  ⟨hc.symm, fun H enc w base spare held fuel cs D ps ht hw => by
    rcases DataW.trod_slice hu ht with ⟨rfl, _⟩ | ⟨a, len, cap, elems, rest, n, _, rfl, hx, hbb, hl, hm, hlen, hel, _, _⟩
    · exact ⟨[], ⟨none, 0, rfl, Nat.le_refl _, Kd.C_nil d w⟩, by simp, by simp, fun x hx => by simp at hx⟩
    · obtain ⟨rfl, _⟩ := Prod.mk.inj hx
      have hs : (elems.length + rest.length) * b ≤ reachBytes := by
        have := hw ((elems.length + rest.length) * P.bytesOf e) (by simp [DataW.weights, hu])
        rw [hb] at this
        exact this
      have each : ∀ i, i < len → ∃ x, good x ∧ ∃ c, c.length = d.sz ∧ d.K w x c ∧ ∀ j u, c[j]? = some u → w.cell? (a.add (i * d.sz + j)) = some u := by
        intro i hi
        have h1 := hel i hi
        have hi2 : i < elems.length := by omega
        rw [List.getElem?_eq_getElem hi2, Option.bind_eq_some_iff] at h1
        obtain ⟨c, hcs, htr⟩ := h1
        obtain ⟨x, hK, hg⟩ := ho.2 H enc w base spare held n c elems[i].1 elems[i].2 htr (fun m hm => by
          refine hw m ?_
          simp only [DataW.weights, hu, List.mem_cons, List.mem_append]
          exact Or.inr (Or.inl (weightsAll_mem (List.mem_map_of_mem (List.getElem_mem hi2)) hm)))
        obtain ⟨hl1, hcell⟩ := cells_at hcs
        refine ⟨x, hg, c, by rw [ho.1]; exact hl1, hK, fun j u hu => ?_⟩
        have := hcell j u hu
        rw [Addr.add_add] at this
        rw [ho.1]
        exact this
      obtain ⟨l, hl1, hq⟩ := exists_list _ len each
      have hcap : len * b ≤ 140737488351232 := by
        have h2 : len * b ≤ (elems.length + rest.length) * b := Nat.mul_le_mul_right _ (by omega)
        have h3 : reachBytes = 140737488351232 := rfl
        omega
      subst hl1
      refine ⟨l, ⟨some a, cap, rfl, hl, rfl, by unfold maxLen at hm; omega, fun _ => ⟨a, rfl, fun j p hj => (hq j p hj).2⟩⟩, hcap, by omega, fun x hx => ?_⟩
      obtain ⟨i, hi⟩ := List.getElem?_of_mem hx
      exact (hq i x hi).1⟩
/-- The same of a struct's fields, from one on. -/
def OpensF {α : Type} (P : Program) (fs : List Field) (o : Nat) (d : Kd α) (good : α → Prop) : Prop :=
  ∀ (H : Type) (enc : TypeId × Value → H) (w : World) (base : Nat) (spare : Nat → Bool) (held : Bool) (fuel : Nat) (cs : List Value) (xs : List (DataW H × List MemPlace)),
    o + d.sz = cs.length → xs.length = fs.length → (∀ (i : Nat) (f : Field), fs[i]? = some f → DataW.trod enc P w base spare held fuel f.type ((cs.drop f.offset).take (P.cellsOf f.type)) = xs[i]?) →
    (∀ n ∈ DataW.weightsEach P (fs.map (·.type)) (xs.map (·.1)), n ≤ reachBytes) → ∃ x, d.K w x (cs.drop o) ∧ good x
theorem opensF_one {α : Type} {P : Program} {f : Field} {o : Nat} {d : Kd α} {good : α → Prop} (hf : f.offset = o) (h : Opens P f.type d good) : OpensF P [f] o d good := by
  intro H enc w base spare held fuel cs xs hl hx ht hw
  match xs, hx with
  | [y], _ =>
    have h0 := ht 0 f rfl
    rw [hf, List.take_of_length_le (by rw [List.length_drop, ← h.1]; omega)] at h0
    refine h.2 H enc w base spare held fuel _ y.1 y.2 h0 (fun n hn => hw n ?_)
    simp [DataW.weightsEach, hn]
theorem opensF_cons {α β : Type} {P : Program} {f : Field} {fs : List Field} {o : Nat} {a : Kd α} {b : Kd β} {ga : α → Prop} {gb : β → Prop} (hf : f.offset = o) (h : Opens P f.type a ga) (hr : OpensF P fs (o + a.sz) b gb) :
    OpensF P (f :: fs) o (Kd.pair a b) (fun x => ga x.1 ∧ gb x.2) := by
  intro H enc w base spare held fuel cs xs hl hx ht hw
  have hl2 : o + (a.sz + b.sz) = cs.length := hl
  match xs, hx with
  | y :: ys, hx =>
    have h0 := ht 0 f rfl
    rw [hf] at h0
    obtain ⟨x0, k0, g0⟩ := h.2 H enc w base spare held fuel _ y.1 y.2 h0 (fun n hn => hw n (by simp [DataW.weightsEach, hn]))
    obtain ⟨x1, k1, g1⟩ := hr H enc w base spare held fuel cs ys (by omega) (by simpa using hx) (fun i f' hi => ht (i + 1) f' (by simpa using hi)) (fun n hn => hw n (by simp [DataW.weightsEach, hn]))
    refine ⟨(x0, x1), ⟨_, _, ?_, k0, k1⟩, g0, g1⟩
    rw [← h.1, ← List.drop_drop, List.take_append_drop]
theorem opens_struct {α : Type} {P : Program} {t : TypeId} {fs : Array Field} {d : Kd α} {good : α → Prop} (hu : P.underlying t = some (.struct fs)) (hc : P.cellsOf t = d.sz) (h : OpensF P fs.toList 0 d good) : Opens P t d good :=
  ⟨hc.symm, fun H enc w base spare held fuel cs D ps ht hw => by
    obtain ⟨xs, n, _, hx, hl, hlen, hf⟩ := DataW.trod_struct hu ht
    obtain ⟨rfl, _⟩ := Prod.mk.inj hx
    have := h H enc w base spare held n cs xs (by omega) (by rw [hlen, Array.length_toList]) (fun i f hi => hf i f (by simpa using hi)) (fun m hm => hw m (by simp only [DataW.weights, hu]; exact hm))
    simpa using this⟩
theorem opens_iso {α β : Type} {P : Program} {t : TypeId} {d : Kd α} {good : α → Prop} (f : β → α) (g : α → β) (hg : ∀ y, f (g y) = y) (h : Opens P t d good) : Opens P t (Kd.iso d f) (fun x => good (f x)) :=
  ⟨h.1, fun H enc w base spare held fuel cs D ps ht hw => by
    obtain ⟨x, hx, gx⟩ := h.2 H enc w base spare held fuel cs D ps ht hw
    refine ⟨g x, ?_, by show good (f (g x)); rw [hg]; exact gx⟩
    show d.K w (f (g x)) cs
    rw [hg]
    exact hx⟩
/-- An argument opened. -/
theorem Opens.arg {α : Type} {P : Program} {t : TypeId} {d : Kd α} {good : α → Prop} (h : Opens P t d good) {H : Type} {enc : TypeId × Value → H} {w : World} {base : Nat} {spare : Nat → Bool} {held : Bool} {v : Value} {D : DataW H} {ps : List MemPlace}
    (ht : DataW.Trod enc P w base spare held t v D ps) {ts : List TypeId} {ds : List (DataW H)} {j : Nat} (hsz : (DataW.weightsEach P ts ds).all (· ≤ reachBytes) = true) (hj : ts[j]? = some t) (hd : ds[j]? = some D) : ∃ x, d.K w x v.cells.toList ∧ good x := by
  obtain ⟨fuel, hf⟩ := ht
  refine h.2 H enc w base spare held fuel _ D ps hf (fun n hn => ?_)
  have := List.all_eq_true.1 hsz n (DataW.weights_mem_each hj hd n hn)
  simpa using this
end Go.Proofs.YtdnaddignhjihaaDoor.Open
namespace Go.Proofs.YtdnaddignhjihaaDoor.ArgsRobotsMay
open Go.RowKit Go.Proofs.YtdnaddignhjihaaDoorW.PrintWords Go.Proofs.YtdnaddignhjihaaDoor.Open Go.Proofs.YtdnaddignhjihaaDoor.QBase
set_option linter.unusedVariables false
def good24 (x : List S30) : Prop := (x.length * 24 ≤ 140737488351232 ∧ x.length ≤ maxLen ∧ ∀ y30 ∈ x, (True ∧ y30.f1.size ≤ 140737488351232))
set_option maxRecDepth 10000 in
theorem opens24 : Opens Tryd.prog 24 (Kd.slice 30 k30) good24 := (opens_slice Tryd.underlying24 (by kernel_rfl) (b := 24) (by kernel_rfl) (opens_iso (fun x : S30 => (x.f0, x.f1)) (fun y => ⟨y.1, y.2⟩) (fun _ => rfl) (opens_struct Tryd.underlying30 (by kernel_rfl) (opensF_cons rfl (opens_bool Tryd.underlying4 (by kernel_rfl)) (opensF_one rfl (opens_string Tryd.underlying9 (by kernel_rfl)))))))
abbrev D26 : Type := (Bool × Bool × (List S30) × Int)
abbrev kd26 : Kd D26 := (Kd.pair Kd.bool (Kd.pair Kd.bool (Kd.pair (Kd.slice 30 k30) (Kd.int .i64))))
def good26 (x : D26) : Prop := (True ∧ (True ∧ (good24 x.2.2.1 ∧ (Lit.int .i64 x.2.2.2).wf = true)))
set_option maxRecDepth 10000 in
theorem opens26 : Opens Tryd.prog 26 kd26 good26 := (opens_struct Tryd.underlying26 (by kernel_rfl) (opensF_cons rfl (opens_bool Tryd.underlying4 (by kernel_rfl)) (opensF_cons rfl (opens_bool Tryd.underlying4 (by kernel_rfl)) (opensF_cons rfl opens24 (opensF_one rfl (opens_int Tryd.underlying3 (by kernel_rfl)))))))
end Go.Proofs.YtdnaddignhjihaaDoor.ArgsRobotsMay
namespace Go.Proofs.YtdnaddignhjihaaDoor.GivenM
/-- The value of a sign as a digit of base 16. -/
def hexv (c : Nat) : Option Nat :=
  if 48 ≤ c ∧ c ≤ 57 then some (c - 48) else if 97 ≤ c ∧ c ≤ 102 then some (c - 87) else if 65 ≤ c ∧ c ≤ 70 then some (c - 55) else none
def dig (n : Nat) : UInt8 := if n < 10 then UInt8.ofNat (48 + n) else UInt8.ofNat (55 + n)
/-- A byte with a percent ahead. -/
def codeB (c : UInt8) : List UInt8 := [37, dig (c.toNat / 16), dig (c.toNat % 16)]
/-- A letter, a digit, or one of -._~ -/
def freeN (c : Nat) : Bool :=
  (decide (97 ≤ c) && decide (c ≤ 122)) || (decide (65 ≤ c) && decide (c ≤ 90)) || (decide (48 ≤ c) && decide (c ≤ 57)) || c == 45 || c == 46 || c == 95 || c == 126
def otherN (c : Nat) : Bool := ([33, 36, 38, 39, 40, 41, 42, 43, 44, 59, 61, 58, 64, 47, 63, 91, 93] : List Nat).contains c
def outB (c : UInt8) : List UInt8 := if freeN c.toNat then [c] else codeB c
def out1 (c : UInt8) : List UInt8 := if freeN c.toNat || otherN c.toNat then [c] else codeB c
/-- Norm, on bytes; none: a percent is wrong. -/
def normB : List UInt8 → Option (List UInt8)
  | [] => some []
  | c :: t => if c = 37 then
      match t with
      | h :: l :: u => match hexv h.toNat, hexv l.toNat with
        | some x, some y => (normB u).map (outB (UInt8.ofNat (16 * x + y)) ++ ·)
        | _, _ => none
      | _ => none
    else (normB t).map (out1 c ++ ·)
/-- What stands at a percent: the list begins with the percent. -/
def tripB : List UInt8 → Option UInt8
  | _ :: h :: l :: _ => match hexv h.toNat, hexv l.toNat with
    | some x, some y => some (UInt8.ofNat (16 * x + y))
    | _, _ => none
  | _ => none

theorem normB_nil : normB [] = some [] := by rw [normB]
theorem normB_one (c : UInt8) (t : List UInt8) (h : c ≠ 37) : normB (c :: t) = (normB t).map (out1 c ++ ·) := by
  rw [normB.eq_def]; simp only [if_neg h]
theorem normB_pct (c : UInt8) (t : List UInt8) (h : c = 37) : normB (c :: t) = (tripB (c :: t)).bind fun b => (normB (t.drop 2)).map (outB b ++ ·) := by
  subst h
  rw [normB.eq_def]
  match t with
  | [] => simp [tripB]
  | [_] => simp [tripB]
  | h :: l :: u =>
    simp only [tripB, if_true]
    cases hexv h.toNat <;> cases hexv l.toNat <;> simp

theorem hexv_lt {c x : Nat} (h : hexv c = some x) : x < 16 := by
  unfold hexv at h
  split at h <;> (try split at h) <;> (try split at h) <;> simp at h <;> omega
theorem hexv_ascii {c x : Nat} (h : hexv c = some x) : c < 128 := by
  unfold hexv at h
  split at h <;> (try split at h) <;> (try split at h) <;> simp at h <;> omega
theorem tripB_ascii {a h l : UInt8} {u : List UInt8} {b : UInt8} (e : tripB (a :: h :: l :: u) = some b) : h.toNat < 128 ∧ l.toNat < 128 := by
  simp only [tripB] at e
  split at e
  · rename_i x y hx hy
    exact ⟨hexv_ascii hx, hexv_ascii hy⟩
  · cases e
theorem tripB_len {t : List UInt8} {b : UInt8} (e : tripB t = some b) : 3 ≤ t.length := by
  match t with
  | [] => simp [tripB] at e
  | [_] => simp [tripB] at e
  | [_, _] => simp [tripB] at e
  | _ :: _ :: _ :: _ => simp

theorem codeB_length (c : UInt8) : (codeB c).length = 3 := rfl
theorem outB_length (c : UInt8) : (outB c).length ≤ 3 := by unfold outB; split <;> simp [codeB]
theorem out1_length (c : UInt8) : (out1 c).length ≤ 3 := by unfold out1; split <;> simp [codeB]
theorem freeN_lt {c : Nat} (h : freeN c = true) : c < 128 := by
  simp [freeN] at h; omega
theorem otherN_lt {c : Nat} (h : otherN c = true) : c < 128 := by
  simp [otherN] at h; omega
theorem out1_high (c : UInt8) (h : 128 ≤ c.toNat) : out1 c = codeB c := by
  unfold out1
  rw [if_neg]
  intro hh
  rcases (Bool.or_eq_true _ _).mp hh with h1 | h1
  · have := freeN_lt h1; omega
  · have := otherN_lt h1; omega

end Go.Proofs.YtdnaddignhjihaaDoor.GivenM
namespace Go.Proofs.YtdnaddignhjihaaDoor.GivenM
open Go.RowKit Go.Proofs.YtdnaddignhjihaaDoorW.PrintWords
def strings_ContainsRune.f (a0 : ByteArray) (a1 : Int) : Option Bool :=
  if 0 ≤ a1 ∧ a1 < 128 then some (decide (0 ≤ Lib.indexByte a0.data.toList a1.toNat.toUInt8)) else none
theorem strings_ContainsRune.calls (a0 : ByteArray) (a1 : Int) (r : Bool) (w : World) (h : strings_ContainsRune.f a0 a1 = some r) :
    Calls Tryd.prog 72 #[.string a0, .int .i32 a1] w fun e w' => e = .returned (.bool r) ∧ Drawn0 w w' := by
  unfold strings_ContainsRune.f at h
  split at h
  · rename_i hc
    obtain rfl := Option.some.inj h
    exact (Tryd.strings_ContainsRune_ascii a0 a1 w hc.1 hc.2).mono fun e w' ⟨h1, h2⟩ => ⟨h1, h2 ▸ Drawn0.refl w⟩
  · cases h
end Go.Proofs.YtdnaddignhjihaaDoor.GivenM
namespace Go.Proofs.YtdnaddignhjihaaDoor.QMB
open Go.Proofs.YtdnaddignhjihaaDoor.GivenM
open Go.RowKit Go.Proofs.YtdnaddignhjihaaDoorW.PrintWords Go.Proofs.YtdnaddignhjihaaDoorW.PrintLast Go.Proofs.YtdnaddignhjihaaDoorW.PrintMore
attribute [local go_sem] max2_int min2_int max_two min_two max_three min_three max_four min_four   -- for this text's walks alone
set_option linter.unusedVariables false
set_option linter.unusedSimpArgs false
def errW : Option Int → Value
  | none => .nilIface
  | some c => .iface 0 (.int .i64 c)
theorem errW_none : errW none = .nilIface := rfl
theorem errW_some (c : Int) : errW (some c) = .iface 0 (.int .i64 c) := rfl

end Go.Proofs.YtdnaddignhjihaaDoor.QMB
namespace Go.Proofs.YtdnaddignhjihaaDoor.QMB
open Go.Proofs.YtdnaddignhjihaaDoor.GivenM
open Go.RowKit Go.Proofs.YtdnaddignhjihaaDoorW.PrintWords Go.Proofs.YtdnaddignhjihaaDoorW.PrintLast Go.Proofs.YtdnaddignhjihaaDoorW.PrintMore
attribute [local go_sem] max2_int min2_int max_two min_two max_three min_three max_four min_four   -- for this text's walks alone
set_option linter.unusedVariables false
set_option linter.unusedSimpArgs false
def pct_coded.f (a0 : Int) : Option (ByteArray) := if 0 ≤ (a0 / 16) then (if (a0 / 16) < 16 then (if 0 ≤ (Go.bits .and .u8 a0 15) then (if (Go.bits .and .u8 a0 15) < 16 then (some (strOfNums (([37, bt (⟨#[48, 49, 50, 51, 52, 53, 54, 55, 56, 57, 65, 66, 67, 68, 69, 70]⟩ : ByteArray) (a0 / 16), bt (⟨#[48, 49, 50, 51, 52, 53, 54, 55, 56, 57, 65, 66, 67, 68, 69, 70]⟩ : ByteArray) (Go.bits .and .u8 a0 15)] : List Int)))) else (none)) else (none)) else (none)) else (none)
def pct_coded.T1 : Bool × List (List Nat × List Nat) := (true, [([], []), ([0], [0]), ([1], [1]), ([], []), ([3], [3]), ([4], [4]), ([2, 5], [2, 5]), ([6], [6]), ([7, 0, 1, 2, 3, 4, 5, 6, 7], [7])])
def pct_coded.B1 : List Nat := [0, 1, 3, 0, 8, 24, 63, 127, 255]
theorem pct_coded.tab1 : rtab .any (opsOf Tryd.f71 1) = pct_coded.T1 := by kernel_rfl
theorem pct_coded.bits1 : waitsOk pct_coded.T1.2 pct_coded.B1 = true := by kernel_rfl
set_option maxHeartbeats 8000000 in
set_option maxRecDepth 100000 in
theorem pct_coded.calls (a0 : Int) (r : ByteArray) (w : World) (h : pct_coded.f a0 = some r) :
    Calls Tryd.prog 71 #[.int .u8 a0] w fun e w' => e = .returned (.string r) ∧ Below w.heap.size w w' := by
  have HB := Aside0.mk (Below.refl w.heap.size w)
  have H : (if 0 ≤ (a0 / 16) then (if (a0 / 16) < 16 then (if 0 ≤ (Go.bits .and .u8 a0 15) then (if (Go.bits .and .u8 a0 15) < 16 then (some (strOfNums (([37, bt (⟨#[48, 49, 50, 51, 52, 53, 54, 55, 56, 57, 65, 66, 67, 68, 69, 70]⟩ : ByteArray) (a0 / 16), bt (⟨#[48, 49, 50, 51, 52, 53, 54, 55, 56, 57, 65, 66, 67, 68, 69, 70]⟩ : ByteArray) (Go.bits .and .u8 a0 15)] : List Int)))) else (none)) else (none)) else (none)) else (none)) = some r := h
  clear h
  obtain ⟨ji2, hji2⟩ : ∃ j_ : Int, (a0 / 16) = j_ := ⟨_, rfl⟩
  replace H : (if 0 ≤ (ji2) then (if (ji2) < 16 then (if 0 ≤ (Go.bits .and .u8 a0 15) then (if (Go.bits .and .u8 a0 15) < 16 then (some (strOfNums (([37, bt (⟨#[48, 49, 50, 51, 52, 53, 54, 55, 56, 57, 65, 66, 67, 68, 69, 70]⟩ : ByteArray) (ji2), bt (⟨#[48, 49, 50, 51, 52, 53, 54, 55, 56, 57, 65, 66, 67, 68, 69, 70]⟩ : ByteArray) (Go.bits .and .u8 a0 15)] : List Int)))) else (none)) else (none)) else (none)) else (none)) = some r := by first | (rw [hji2] at H; exact H) | (simp only [hji2] at H ⊢; exact H)
  by_cases c3 : 0 ≤ (ji2)
  · rw [if_pos c3] at H
    have c3b0 : decide (0 ≤ (ji2)) = true := decide_eq_true c3
    clear c3
    by_cases c4 : (ji2) < 16
    · rw [if_pos c4] at H
      have c4b0 : decide ((ji2) < 16) = true := decide_eq_true c4
      clear c4
      by_cases c6 : 0 ≤ (Go.bits .and .u8 a0 15)
      · rw [if_pos c6] at H
        have c6b0 : decide (0 ≤ (Go.bits .and .u8 a0 15)) = true := decide_eq_true c6
        clear c6
        by_cases c7 : (Go.bits .and .u8 a0 15) < 16
        · rw [if_pos c7] at H
          have c7b0 : decide ((Go.bits .and .u8 a0 15) < 16) = true := decide_eq_true c7
          clear c7
          obtain ⟨y101, hy101⟩ : ∃ y_ : List Int, y_ = (([37, bt (⟨#[48, 49, 50, 51, 52, 53, 54, 55, 56, 57, 65, 66, 67, 68, 69, 70]⟩ : ByteArray) (ji2), bt (⟨#[48, 49, 50, 51, 52, 53, 54, 55, 56, 57, 65, 66, 67, 68, 69, 70]⟩ : ByteArray) (Go.bits .and .u8 a0 15)] : List Int)) := ⟨_, rfl⟩
          replace H : (some (strOfNums y101)) = some r := by first | (rw [hy101]; with_reducible exact H) | (have H2_ := (Option.bind_some _ _).symm.trans H; rw [hy101]; with_reducible exact H2_) | (have H2_ := (Option.bind_some _ _).symm.trans H; with_reducible exact H2_) | with_reducible exact H | (rw [hy101]; exact H) | exact H
          have Ny101 := Aside0.mk hy101
          clear hy101
          obtain rfl := Option.some.inj H
          go_enter Tryd.func71, Tryd.ntmps71
          try go_wp2
          have n0_ := Aside0.mk (below_drew1 HB.out)
          clear HB
          have HB := n0_
          clear n0_
          have p5 : 0 ≤ ((ji2) : Int) := of_decide_eq_true (by first | (with_reducible assumption) | assumption)
          have q5 : (ji2) < (16 : Int) := of_decide_eq_true (by first | (with_reducible assumption) | assumption)
          have hx5 := bt_at (⟨#[48, 49, 50, 51, 52, 53, 54, 55, 56, 57, 65, 66, 67, 68, 69, 70]⟩ : ByteArray) (ji2)
          replace p5 := eq_true p5
          replace q5 := eq_true q5
          have p8 : 0 ≤ ((Go.bits .and .u8 a0 15) : Int) := of_decide_eq_true (by first | (with_reducible assumption) | assumption)
          have q8 : (Go.bits .and .u8 a0 15) < (16 : Int) := of_decide_eq_true (by first | (with_reducible assumption) | assumption)
          have hx8 := bt_at (⟨#[48, 49, 50, 51, 52, 53, 54, 55, 56, 57, 65, 66, 67, 68, 69, 70]⟩ : ByteArray) (Go.bits .and .u8 a0 15)
          replace p8 := eq_true p8
          replace q8 := eq_true q8
          refine start_ (n := 9) (S := fun w' => True) (ds := []) #[false, false, false, false, false, false, false, false, false] (by kernel_rfl) rfl rfl trivial (fun hHeld => ?_); refine with_tabW pct_coded.tab1 pct_coded.bits1 (fun HT_ HW_ => ?_)
          generalize w.drew = w9 at HB hHeld ⊢
          refine pure_ (i := 0) (N := some 3) (v := ?_) (a' := ?_) #[true, false, false, false, false, false, false, false, false] rfl rfl (any_of HT_.out (by kernel_rfl)) (fun _ _ _ h => h) (Or.inl ⟨by rfl, ?_⟩) ?_ ?_
          rotate_left
          · intro w'
            go_simp
            with_reducible rfl
          rotate_left
          · simp only [Act.put, List.setIfInBounds_toArray, List.set_cons_zero, List.set_cons_succ, i64_w, i32_w]
            rfl
          refine pure_ (i := 1) (N := some 4) (v := ?_) (a' := ?_) #[true, true, false, false, false, false, false, false, false] rfl rfl (any_of HT_.out (by kernel_rfl)) (fun _ _ _ h => h) (Or.inl ⟨by rfl, ?_⟩) ?_ ?_
          rotate_left
          · intro w'
            go_simp
            with_reducible rfl
          rotate_left
          · simp only [Act.put, List.setIfInBounds_toArray, List.set_cons_zero, List.set_cons_succ, i64_w, i32_w]
            rfl
          refine pure_ (i := 3) (N := some 6) (v := ?_) (a' := ?_) #[true, true, false, true, false, false, false, false, false] rfl rfl (any_of HT_.out (by kernel_rfl)) (fun _ _ _ h => h) (Or.inl ⟨by rfl, ?_⟩) ?_ ?_
          rotate_left
          · intro w'
            go_simp
            with_reducible rfl
          rotate_left
          · simp only [Act.put, List.setIfInBounds_toArray, List.set_cons_zero, List.set_cons_succ, i64_w, i32_w]
            rfl
          refine pure_ (i := 4) (N := some 7) (v := ?_) (a' := ?_) #[true, true, false, true, true, false, false, false, false] rfl rfl (any_of HT_.out (by kernel_rfl)) (fun _ _ _ h => h) (Or.inl ⟨by rfl, ?_⟩) ?_ ?_
          rotate_left
          · intro w'
            go_simp
            with_reducible rfl
          rotate_left
          · simp only [Act.put, List.setIfInBounds_toArray, List.set_cons_zero, List.set_cons_succ, i64_w, i32_w]
            rfl
          refine take_ (i := 2) (N := some 5) (v := ?_) (a' := ?_) #[true, true, true, true, true, false, false, false, false] rfl rfl (take_ofW HT_.out HW_.out (by kernel_rfl)) (fun _ _ _ h => h) (Or.inl ⟨by rfl, ?_⟩) hHeld ?_ ?_
          rotate_left
          · intro w' _
            go_simp
            with_reducible rfl
          rotate_left
          · simp only [Act.put, List.setIfInBounds_toArray, List.set_cons_zero, List.set_cons_succ, i64_w, i32_w]
            rfl
          refine take_ (i := 5) (N := some 8) (v := ?_) (a' := ?_) #[true, true, true, true, true, true, false, false, false] rfl rfl (take_ofW HT_.out HW_.out (by kernel_rfl)) (fun _ _ _ h => h) (Or.inl ⟨by rfl, ?_⟩) hHeld ?_ ?_
          rotate_left
          · intro w' _
            go_simp
            with_reducible rfl
          rotate_left
          · simp only [Act.put, List.setIfInBounds_toArray, List.set_cons_zero, List.set_cons_succ, i64_w, i32_w]
            rfl
          refine one_ (i := 6) (N := some 9) #[true, true, true, true, true, true, true, false, false] rfl rfl (one_of HT_.out (by kernel_rfl)) (by decide) (fun K hK => ?_)
          refine Kd.R_lit_step (Kd.int .u8) _ 5 ?hg (N := 9) ?hd (xs := ([37, bt (⟨#[48, 49, 50, 51, 52, 53, 54, 55, 56, 57, 65, 66, 67, 68, 69, 70]⟩ : ByteArray) (ji2), bt (⟨#[48, 49, 50, 51, 52, 53, 54, 55, 56, 57, 65, 66, 67, 68, 69, 70]⟩ : ByteArray) (Go.bits .and .u8 a0 15)] : List Int)) (inner := [.int .u8 37, .int .u8 (bt (⟨#[48, 49, 50, 51, 52, 53, 54, 55, 56, 57, 65, 66, 67, 68, 69, 70]⟩ : ByteArray) (ji2)), .int .u8 (bt (⟨#[48, 49, 50, 51, 52, 53, 54, 55, 56, 57, 65, 66, 67, 68, 69, 70]⟩ : ByteArray) (Go.bits .and .u8 a0 15))]) (ok := fun _ => True) (okp := fun _ => True) ?hr ?hp (fun _ hk => hk) trivial (Below.refl _ _) (Nat.le_refl _) (by simp) ?_; (case hd => rfl); (case hg => rfl); (case hr => first | (go_simp; done) | (go_simp; rfl)); (case hp => exact (Reps.one (show Kd.M (Kd.int .u8) _ _ _ 37 [.int .u8 37] from rfl) (Reps.one (show Kd.M (Kd.int .u8) _ _ _ (bt (⟨#[48, 49, 50, 51, 52, 53, 54, 55, 56, 57, 65, 66, 67, 68, 69, 70]⟩ : ByteArray) (ji2)) [.int .u8 (bt (⟨#[48, 49, 50, 51, 52, 53, 54, 55, 56, 57, 65, 66, 67, 68, 69, 70]⟩ : ByteArray) (ji2))] from rfl) (Reps.one (show Kd.M (Kd.int .u8) _ _ _ (bt (⟨#[48, 49, 50, 51, 52, 53, 54, 55, 56, 57, 65, 66, 67, 68, 69, 70]⟩ : ByteArray) (Go.bits .and .u8 a0 15)) [.int .u8 (bt (⟨#[48, 49, 50, 51, 52, 53, 54, 55, 56, 57, 65, 66, 67, 68, 69, 70]⟩ : ByteArray) (Go.bits .and .u8 a0 15))] from rfl) (Reps.none _ _)))))
          intro v102 w10 ho11 hb hg_ hnew_
          clear hg_ hnew_
          (first | rw [← Ny101.out] at ho11 | (simp only [Int.reduceToNat] at ho11; rw [← Ny101.out] at ho11))
          have n0_ := Aside0.mk (Kd.R_lower ho11 (below_size (by repeat (first | (with_reducible first | exact HB.out | apply below_alloc | apply pw_below_drewN | apply below_drew1) | exact HB.out))))
          have n1_ := Aside0.mk (below_step (by repeat (first | (with_reducible first | exact HB.out | apply below_alloc | apply pw_below_drewN | apply below_drew1) | exact HB.out)) hb)
          clear HB
          have HO103 := n0_
          have HB := n1_
          clear n0_ n1_
          clear hb ho11
          refine hK.out _ _ trivial (fun hHeld => ?_)
          clear hK K
          refine norm_ (a' := ?_) ?_ ?_
          rotate_left
          · show Act.put _ (some 9) _ = _
            simp only [Act.put, List.setIfInBounds_toArray, List.set_cons_zero, List.set_cons_succ, i64_w, i32_w]
            rfl
          refine one_ (i := 7) (N := some 10) #[true, true, true, true, true, true, true, true, false] rfl rfl (one_of HT_.out (by kernel_rfl)) (by decide) (fun K hK => ?_)
          have hcv12 := own_string (P := Tryd.prog) Tryd.underlying55 Tryd.underlying5 Tryd.underlying9 (Kd.own_of_R HO103.out)
          refine value_ (w1 := ?_) (v := ?_) (by rfl) rfl ?_ ?_
          rotate_left 2
          · go_simp
            constructor
            · rfl
            · rfl
          clear hcv12
          refine hK.out _ _ trivial (fun hHeld => ?_)
          clear hK K
          refine norm_ (a' := ?_) ?_ ?_
          rotate_left
          · show Act.put _ (some 10) _ = _
            simp only [Act.put, List.setIfInBounds_toArray, List.set_cons_zero, List.set_cons_succ, i64_w, i32_w]
            rfl
          refine pure_ (i := 8) (N := some 2) (v := ?_) (a' := ?_) #[true, true, true, true, true, true, true, true, true] rfl rfl (any_of HT_.out (by kernel_rfl)) (fun _ _ _ h => h) (Or.inl ⟨by rfl, ?_⟩) ?_ ?_
          rotate_left
          · intro w'
            go_simp
            with_reducible rfl
          rotate_left
          · simp only [Act.put, List.setIfInBounds_toArray, List.set_cons_zero, List.set_cons_succ, i64_w, i32_w]
            rfl
          refine done_ (done_of HT_.out (by kernel_rfl)) ?_
          try go_wp2
          go_ret
          exact ⟨by first | rfl | (simp [errW_none, errW_some] <;> rfl) | (simp only [← hji2]; first | rfl | (simp [errW_none, errW_some] <;> rfl)) | (simp [*, errW_none, errW_some] <;> rfl) | (simp [wrap64]; done), by repeat (first | (with_reducible first | exact HB.out | apply below_alloc | apply pw_below_drewN | apply below_drew1) | exact HB.out)⟩
        · rw [if_neg c7] at H
          exact absurd H (by simp)
      · rw [if_neg c6] at H
        exact absurd H (by simp)
    · rw [if_neg c4] at H
      exact absurd H (by simp)
  · rw [if_neg c3] at H
    exact absurd H (by simp)

mutual
def pct_value.j0 : Nat → Int → Bool → Option (Int)
  | 0, _, _ => none
  | k + 1, x0, x3 => if x3 = true then (some ((x0 - 48) % 256)) else (if x0 ≥ 97 then (pct_value.j1 k x0 (decide (x0 ≤ 102))) else (pct_value.j1 k x0 false))
def pct_value.j1 : Nat → Int → Bool → Option (Int)
  | 0, _, _ => none
  | k + 1, x0, x13 => if x13 = true then (some (((x0 - 97) % 256) + 10)) else (if x0 ≥ 65 then (if x0 ≤ 70 then (some (((x0 - 65) % 256) + 10)) else (some (-1))) else (some (-1)))
end
def pct_value.f (k : Nat) (a0 : Int) : Option (Int) := if a0 ≥ 48 then (pct_value.j0 k a0 (decide (a0 ≤ 57))) else (pct_value.j0 k a0 false)
theorem pct_value.mono_l : ∀ k, (∀ y0 y1, LeO (pct_value.j0 k y0 y1) (pct_value.j0 (k + 1) y0 y1)) ∧ (∀ y0 y1, LeO (pct_value.j1 k y0 y1) (pct_value.j1 (k + 1) y0 y1))
  | 0 => ⟨fun _ _ r h => by simp [pct_value.j0] at h, fun _ _ r h => by simp [pct_value.j1] at h⟩
  | k + 1 => by
    obtain ⟨ih0, ih1⟩ := pct_value.mono_l k
    refine ⟨?_, ?_⟩
    · intro y0 y1
      unfold pct_value.j0
      repeat' first
      | (with_reducible exact ih0 _ _)
      | (with_reducible exact ih1 _ _)
      | (with_reducible exact LeO.refl _)
      | (with_reducible exact LeO.none _)
      | (with_reducible refine LeO.ite ?_ ?_)
      | (with_reducible refine LeO.bind ?_ (fun _ => ?_))
      | exact ih0 _ _
      | exact ih1 _ _
      | exact LeO.none _
      | refine LeO.ite ?_ ?_
      | refine LeO.bind ?_ (fun _ => ?_)
    · intro y0 y1
      unfold pct_value.j1
      repeat' first
      | (with_reducible exact ih0 _ _)
      | (with_reducible exact ih1 _ _)
      | (with_reducible exact LeO.refl _)
      | (with_reducible exact LeO.none _)
      | (with_reducible refine LeO.ite ?_ ?_)
      | (with_reducible refine LeO.bind ?_ (fun _ => ?_))
      | exact ih0 _ _
      | exact ih1 _ _
      | exact LeO.none _
      | refine LeO.ite ?_ ?_
      | refine LeO.bind ?_ (fun _ => ?_)
theorem pct_value.mono : ∀ a0 k, LeO (pct_value.f k a0) (pct_value.f (k + 1) a0) := by
  intro a0 k
  obtain ⟨ih0, ih1⟩ := pct_value.mono_l k
  unfold pct_value.f
  repeat' first
      | (with_reducible exact ih0 _ _)
      | (with_reducible exact ih1 _ _)
      | (with_reducible exact LeO.refl _)
      | (with_reducible exact LeO.none _)
      | (with_reducible refine LeO.ite ?_ ?_)
      | (with_reducible refine LeO.bind ?_ (fun _ => ?_))
      | exact ih0 _ _
      | exact ih1 _ _
      | exact LeO.none _
      | refine LeO.ite ?_ ?_
      | refine LeO.bind ?_ (fun _ => ?_)
set_option maxHeartbeats 8000000 in
set_option maxRecDepth 100000 in
theorem pct_value.calls (k : Nat) (a0 : Int) (r : Int) (w : World) (h : pct_value.f k a0 = some r) :
    Calls Tryd.prog 87 #[.int .u8 a0] w fun e w' => e = .returned (.int .i64 r) ∧ Drawn0 w w' := by
  have H : (if a0 ≥ 48 then (pct_value.j0 k a0 (decide (a0 ≤ 57))) else (pct_value.j0 k a0 false)) = some r := h
  clear h
  have HC2 := Aside0.mk H
  clear H
  go_enter Tryd.func87, Tryd.ntmps87
  go_upto_region 1 with (fail)
  go_cut [3] (fun v3 wc => ∃ (kq : Nat) (x3_1 : Bool), v3 = .bool x3_1 ∧ Aside0 (pct_value.j0 kq a0 x3_1 = some r) ∧ Aside0 (kq ≤ k) ∧ Drawn0 w wc)
  case first =>
    have H := HC2.out
    clear HC2
    by_cases c3 : a0 ≥ 48
    · rw [if_pos c3] at H
      have c3b0 : decide (48 ≤ a0) = true := decide_eq_true c3
      clear c3
      (first | rw [c3b0] | (simp only [i64_w, i32_w]; rw [c3b0]) | skip)
      have H' := Aside0.mk H
      clear H
      go_wp2
      go_meet
      case rel => exact ⟨_, (decide (a0 ≤ 57)), (by first | rfl | (simp; done) | (simp [*]; done)), H', ⟨by first | omega | exact Nat.le_refl _⟩, by repeat (first | exact Drawn0.refl _ | apply Drawn0.step)⟩
    · rw [if_neg c3] at H
      have c3b0 : decide (48 ≤ a0) = false := decide_eq_false c3
      clear c3
      (first | rw [c3b0] | (simp only [i64_w, i32_w]; rw [c3b0]) | skip)
      have H' := Aside0.mk H
      clear H
      go_wp2
      go_meet
      case rel => exact ⟨_, (false), (by first | rfl | (simp; done) | (simp [*]; done)), H', ⟨by first | omega | exact Nat.le_refl _⟩, by repeat (first | exact Drawn0.refl _ | apply Drawn0.step)⟩
  case rest =>
    clear HC2
    try clear p2
    try clear c3
    try clear c3b0
    obtain ⟨kq, x3_1, rfl, HA, HJ1, ⟨mc1, rfl⟩⟩ := hcut
    cases kq with
    | zero => exact absurd HA.out (by simp [pct_value.j0])
    | succ kj1 =>
      have H := HA.out
      clear HA
      simp only [pct_value.j0] at H
      by_cases c4 : x3_1 = true
      · subst c4
        have H1 : (some ((a0 - 48) % 256)) = some r := by rw [if_pos rfl] at H; exact H
        clear H
        have H := H1
        clear H1
        obtain rfl := Option.some.inj H
        go_wp2
        go_ret
        exact ⟨by first | rfl | (simp; done) | (simp [*]; done), by repeat (first | exact Drawn0.refl _ | apply Drawn0.step)⟩
      · replace c4 := Bool.eq_false_iff.mpr c4
        subst c4
        have H1 : (if a0 ≥ 97 then (pct_value.j1 kj1 a0 (decide (a0 ≤ 102))) else (pct_value.j1 kj1 a0 false)) = some r := by rw [if_neg (show ¬ (false = true) by decide)] at H; exact H
        clear H
        have H := H1
        clear H1
        have HC5 := Aside0.mk H
        clear H
        go_upto_region 3 with (fail)
        go_cut [13] (fun v13 wc => ∃ (kq : Nat) (x13_4 : Bool), v13 = .bool x13_4 ∧ Aside0 (pct_value.j1 kq a0 x13_4 = some r) ∧ Aside0 (kq ≤ kj1) ∧ Drawn0 w wc)
        case first =>
          have H := HC5.out
          clear HC5
          by_cases c6 : a0 ≥ 97
          · rw [if_pos c6] at H
            have c6b0 : decide (97 ≤ a0) = true := decide_eq_true c6
            clear c6
            (first | rw [c6b0] | (simp only [i64_w, i32_w]; rw [c6b0]) | skip)
            have H' := Aside0.mk H
            clear H
            go_wp2
            go_meet
            case rel => exact ⟨_, (decide (a0 ≤ 102)), (by first | rfl | (simp; done) | (simp [*]; done)), H', ⟨by have := HJ1.out; first | omega | exact Nat.le_refl _⟩, by repeat (first | exact Drawn0.refl _ | apply Drawn0.step)⟩
          · rw [if_neg c6] at H
            have c6b0 : decide (97 ≤ a0) = false := decide_eq_false c6
            clear c6
            (first | rw [c6b0] | (simp only [i64_w, i32_w]; rw [c6b0]) | skip)
            have H' := Aside0.mk H
            clear H
            go_wp2
            go_meet
            case rel => exact ⟨_, (false), (by first | rfl | (simp; done) | (simp [*]; done)), H', ⟨by have := HJ1.out; first | omega | exact Nat.le_refl _⟩, by repeat (first | exact Drawn0.refl _ | apply Drawn0.step)⟩
        case rest =>
          clear HC5
          try clear c1
          try clear p2
          try clear c3
          try clear c3b0
          try clear c4
          try clear c6
          try clear c6b0
          try clear p2
          obtain ⟨kq, x13_4, rfl, HA, HJ4, ⟨mc4, rfl⟩⟩ := hcut
          cases kq with
          | zero => exact absurd HA.out (by simp [pct_value.j1])
          | succ kj4 =>
            have H := HA.out
            clear HA
            simp only [pct_value.j1] at H
            by_cases c7 : x13_4 = true
            · subst c7
              have H1 : (some (((a0 - 97) % 256) + 10)) = some r := by rw [if_pos rfl] at H; exact H
              clear H
              have H := H1
              clear H1
              obtain rfl := Option.some.inj H
              go_wp2
              go_ret
              exact ⟨by first | rfl | (simp; done) | (simp [*]; done), by repeat (first | exact Drawn0.refl _ | apply Drawn0.step)⟩
            · replace c7 := Bool.eq_false_iff.mpr c7
              subst c7
              have H1 : (if a0 ≥ 65 then (if a0 ≤ 70 then (some (((a0 - 65) % 256) + 10)) else (some (-1))) else (some (-1))) = some r := by rw [if_neg (show ¬ (false = true) by decide)] at H; exact H
              clear H
              have H := H1
              clear H1
              by_cases c8 : a0 ≥ 65
              · rw [if_pos c8] at H
                have c8b0 : decide (65 ≤ a0) = true := decide_eq_true c8
                clear c8
                by_cases c9 : a0 ≤ 70
                · rw [if_pos c9] at H
                  have c9b0 : decide (a0 ≤ 70) = true := decide_eq_true c9
                  clear c9
                  obtain rfl := Option.some.inj H
                  go_wp2
                  go_ret
                  exact ⟨by first | rfl | (simp; done) | (simp [*]; done), by repeat (first | exact Drawn0.refl _ | apply Drawn0.step)⟩
                · rw [if_neg c9] at H
                  have c9b0 : decide (a0 ≤ 70) = false := decide_eq_false c9
                  clear c9
                  obtain rfl := Option.some.inj H
                  go_wp2
                  go_ret
                  exact ⟨by first | rfl | (simp; done) | (simp [*]; done), by repeat (first | exact Drawn0.refl _ | apply Drawn0.step)⟩
              · rw [if_neg c8] at H
                have c8b0 : decide (65 ≤ a0) = false := decide_eq_false c8
                clear c8
                obtain rfl := Option.some.inj H
                go_wp2
                go_ret
                exact ⟨by first | rfl | (simp; done) | (simp [*]; done), by repeat (first | exact Drawn0.refl _ | apply Drawn0.step)⟩

def pct_triple.f (k : Nat) (a0 : ByteArray) : Option (Int × Bool) := if (a0.size : Int) < 3 then (some (0, false)) else (if 1 < (a0.size : Int) then ((pct_value.f k (bt a0 1)).bind fun t104 => (if 2 < (a0.size : Int) then ((pct_value.f k (bt a0 2)).bind fun t105 => (if t104 ≥ 0 then (some ((Go.bits .or .i64 (wrap64 (t104 * 16)) (Go.bits .and .i64 t105 15)) % 256, decide (t105 ≥ 0))) else (some ((Go.bits .or .i64 (wrap64 (t104 * 16)) (Go.bits .and .i64 t105 15)) % 256, false)))) else (none))) else (none))
set_option maxHeartbeats 8000000 in
set_option maxRecDepth 100000 in
theorem pct_triple.calls (k : Nat) (a0 : ByteArray) (r1 : Int) (r2 : Bool) (w : World) (h : pct_triple.f k a0 = some (r1, r2)) :
    Calls Tryd.prog 67 #[.string a0] w fun e w' => e = .returned (.tuple #[.int .u8 r1, .bool r2]) ∧ Drawn0 w w' := by
  have H : (if (a0.size : Int) < 3 then (some (0, false)) else (if 1 < (a0.size : Int) then ((pct_value.f k (bt a0 1)).bind fun t104 => (if 2 < (a0.size : Int) then ((pct_value.f k (bt a0 2)).bind fun t105 => (if t104 ≥ 0 then (some ((Go.bits .or .i64 (wrap64 (t104 * 16)) (Go.bits .and .i64 t105 15)) % 256, decide (t105 ≥ 0))) else (some ((Go.bits .or .i64 (wrap64 (t104 * 16)) (Go.bits .and .i64 t105 15)) % 256, false)))) else (none))) else (none))) = some (r1, r2) := h
  clear h
  by_cases c2 : (a0.size : Int) < 3
  · rw [if_pos c2] at H
    have c2b0 : decide ((a0.size : Int) < 3) = true := decide_eq_true c2
    have c2b1 : decide (a0.size < 3) = true := decide_eq_true (by omega)
    clear c2
    simp only [Option.some.injEq, Prod.mk.injEq] at H
    obtain ⟨rfl, rfl⟩ := H
    go_enter Tryd.func67, Tryd.ntmps67
    go_wp2
    repeat (go_quiet (fail); try go_wp2)
    go_ret2
    exact ⟨by first | rfl | (simp; done) | (simp [*]; done), by repeat (first | exact Drawn0.refl _ | apply Drawn0.step)⟩
  · rw [if_neg c2] at H
    have c2b0 : decide ((a0.size : Int) < 3) = false := decide_eq_false c2
    have c2b1 : decide (a0.size < 3) = false := decide_eq_false (by omega)
    clear c2
    by_cases c3 : 1 < (a0.size : Int)
    · rw [if_pos c3] at H
      have c3b0 : decide (1 < (a0.size : Int)) = true := decide_eq_true c3
      have c3b1 : decide (1 < a0.size) = true := decide_eq_true (by omega)
      clear c3
      replace H := Option.bind_eq_some_iff.mp H
      obtain ⟨t104, A50, H⟩ := H
      replace H : (if 2 < (a0.size : Int) then ((pct_value.f k (bt a0 2)).bind fun t105 => (if t104 ≥ 0 then (some ((Go.bits .or .i64 (wrap64 (t104 * 16)) (Go.bits .and .i64 t105 15)) % 256, decide (t105 ≥ 0))) else (some ((Go.bits .or .i64 (wrap64 (t104 * 16)) (Go.bits .and .i64 t105 15)) % 256, false)))) else (none)) = some (r1, r2) := H
      have A5 := Aside0.mk A50
      clear A50
      by_cases c6 : 2 < (a0.size : Int)
      · rw [if_pos c6] at H
        have c6b0 : decide (2 < (a0.size : Int)) = true := decide_eq_true c6
        have c6b1 : decide (2 < a0.size) = true := decide_eq_true (by omega)
        clear c6
        replace H := Option.bind_eq_some_iff.mp H
        obtain ⟨t105, A80, H⟩ := H
        replace H : (if t104 ≥ 0 then (some ((Go.bits .or .i64 (wrap64 (t104 * 16)) (Go.bits .and .i64 t105 15)) % 256, decide (t105 ≥ 0))) else (some ((Go.bits .or .i64 (wrap64 (t104 * 16)) (Go.bits .and .i64 t105 15)) % 256, false))) = some (r1, r2) := H
        have A8 := Aside0.mk A80
        clear A80
        by_cases c9 : t104 ≥ 0
        · rw [if_pos c9] at H
          have c9b0 : decide (0 ≤ t104) = true := decide_eq_true c9
          clear c9
          simp only [Option.some.injEq, Prod.mk.injEq] at H
          obtain ⟨rfl, rfl⟩ := H
          have p4 : 0 ≤ (1 : Int) := (by omega)
          have q4 : 1 < a0.size := (by have : (1 : Int) < (a0.size : Int) := of_decide_eq_true (by first | (with_reducible assumption) | assumption); omega)
          have hx4 : ∀ h : 1 < a0.size, ((a0[1]'h).toNat : Int) = bt a0 1 := bt_at a0 1
          clear p4
          have qi4 : (1 < (a0.size : Int)) = True := eq_true (of_decide_eq_true (by first | (with_reducible assumption) | assumption))
          replace q4 := eq_true q4
          go_enter Tryd.func67, Tryd.ntmps67
          go_wp2_with (first | (go_at_call 87; (with_reducible refine (pct_value.calls k (bt a0 1) t104 _ A5.out).mono ?_); rintro e w' ⟨rfl, ⟨nd, rfl⟩⟩; (try first | exact ⟨rfl, _, World.drewN_drewN _ _ _⟩ | exact ⟨rfl, _, Eq.trans (World.drewN_drewN _ _ _) (congrArg (World.drewN _) (Nat.add_assoc _ _ _))⟩); have p7 : 0 ≤ (2 : Int) := (by omega); have q7 : 2 < a0.size := (by have : (2 : Int) < (a0.size : Int) := of_decide_eq_true (by first | (with_reducible assumption) | assumption); omega); have hx7 : ∀ h : 2 < a0.size, ((a0[2]'h).toNat : Int) = bt a0 2 := bt_at a0 2; clear p7; have qi7 : (2 < (a0.size : Int)) = True := eq_true (of_decide_eq_true (by first | (with_reducible assumption) | assumption)); replace q7 := eq_true q7) | (go_at_call 87; (with_reducible refine (pct_value.calls k (bt a0 2) t105 _ A8.out).mono ?_); rintro e w' ⟨rfl, ⟨nd, rfl⟩⟩; (try first | exact ⟨rfl, _, World.drewN_drewN _ _ _⟩ | exact ⟨rfl, _, Eq.trans (World.drewN_drewN _ _ _) (congrArg (World.drewN _) (Nat.add_assoc _ _ _))⟩)))
          repeat (go_quiet (first | (go_at_call 87; (with_reducible refine (pct_value.calls k (bt a0 1) t104 _ A5.out).mono ?_); rintro e w' ⟨rfl, ⟨nd, rfl⟩⟩; (try first | exact ⟨rfl, _, World.drewN_drewN _ _ _⟩ | exact ⟨rfl, _, Eq.trans (World.drewN_drewN _ _ _) (congrArg (World.drewN _) (Nat.add_assoc _ _ _))⟩); have p7 : 0 ≤ (2 : Int) := (by omega); have q7 : 2 < a0.size := (by have : (2 : Int) < (a0.size : Int) := of_decide_eq_true (by first | (with_reducible assumption) | assumption); omega); have hx7 : ∀ h : 2 < a0.size, ((a0[2]'h).toNat : Int) = bt a0 2 := bt_at a0 2; clear p7; have qi7 : (2 < (a0.size : Int)) = True := eq_true (of_decide_eq_true (by first | (with_reducible assumption) | assumption)); replace q7 := eq_true q7) | (go_at_call 87; (with_reducible refine (pct_value.calls k (bt a0 2) t105 _ A8.out).mono ?_); rintro e w' ⟨rfl, ⟨nd, rfl⟩⟩; (try first | exact ⟨rfl, _, World.drewN_drewN _ _ _⟩ | exact ⟨rfl, _, Eq.trans (World.drewN_drewN _ _ _) (congrArg (World.drewN _) (Nat.add_assoc _ _ _))⟩))); try go_wp2_with (first | (go_at_call 87; (with_reducible refine (pct_value.calls k (bt a0 1) t104 _ A5.out).mono ?_); rintro e w' ⟨rfl, ⟨nd, rfl⟩⟩; (try first | exact ⟨rfl, _, World.drewN_drewN _ _ _⟩ | exact ⟨rfl, _, Eq.trans (World.drewN_drewN _ _ _) (congrArg (World.drewN _) (Nat.add_assoc _ _ _))⟩); have p7 : 0 ≤ (2 : Int) := (by omega); have q7 : 2 < a0.size := (by have : (2 : Int) < (a0.size : Int) := of_decide_eq_true (by first | (with_reducible assumption) | assumption); omega); have hx7 : ∀ h : 2 < a0.size, ((a0[2]'h).toNat : Int) = bt a0 2 := bt_at a0 2; clear p7; have qi7 : (2 < (a0.size : Int)) = True := eq_true (of_decide_eq_true (by first | (with_reducible assumption) | assumption)); replace q7 := eq_true q7) | (go_at_call 87; (with_reducible refine (pct_value.calls k (bt a0 2) t105 _ A8.out).mono ?_); rintro e w' ⟨rfl, ⟨nd, rfl⟩⟩; (try first | exact ⟨rfl, _, World.drewN_drewN _ _ _⟩ | exact ⟨rfl, _, Eq.trans (World.drewN_drewN _ _ _) (congrArg (World.drewN _) (Nat.add_assoc _ _ _))⟩))))
          go_ret2
          exact ⟨by first | rfl | (simp; done) | (simp [*]; done), by repeat (first | exact Drawn0.refl _ | apply Drawn0.step)⟩
        · rw [if_neg c9] at H
          have c9b0 : decide (0 ≤ t104) = false := decide_eq_false c9
          clear c9
          simp only [Option.some.injEq, Prod.mk.injEq] at H
          obtain ⟨rfl, rfl⟩ := H
          have p4 : 0 ≤ (1 : Int) := (by omega)
          have q4 : 1 < a0.size := (by have : (1 : Int) < (a0.size : Int) := of_decide_eq_true (by first | (with_reducible assumption) | assumption); omega)
          have hx4 : ∀ h : 1 < a0.size, ((a0[1]'h).toNat : Int) = bt a0 1 := bt_at a0 1
          clear p4
          have qi4 : (1 < (a0.size : Int)) = True := eq_true (of_decide_eq_true (by first | (with_reducible assumption) | assumption))
          replace q4 := eq_true q4
          go_enter Tryd.func67, Tryd.ntmps67
          go_wp2_with (first | (go_at_call 87; (with_reducible refine (pct_value.calls k (bt a0 1) t104 _ A5.out).mono ?_); rintro e w' ⟨rfl, ⟨nd, rfl⟩⟩; (try first | exact ⟨rfl, _, World.drewN_drewN _ _ _⟩ | exact ⟨rfl, _, Eq.trans (World.drewN_drewN _ _ _) (congrArg (World.drewN _) (Nat.add_assoc _ _ _))⟩); have p7 : 0 ≤ (2 : Int) := (by omega); have q7 : 2 < a0.size := (by have : (2 : Int) < (a0.size : Int) := of_decide_eq_true (by first | (with_reducible assumption) | assumption); omega); have hx7 : ∀ h : 2 < a0.size, ((a0[2]'h).toNat : Int) = bt a0 2 := bt_at a0 2; clear p7; have qi7 : (2 < (a0.size : Int)) = True := eq_true (of_decide_eq_true (by first | (with_reducible assumption) | assumption)); replace q7 := eq_true q7) | (go_at_call 87; (with_reducible refine (pct_value.calls k (bt a0 2) t105 _ A8.out).mono ?_); rintro e w' ⟨rfl, ⟨nd, rfl⟩⟩; (try first | exact ⟨rfl, _, World.drewN_drewN _ _ _⟩ | exact ⟨rfl, _, Eq.trans (World.drewN_drewN _ _ _) (congrArg (World.drewN _) (Nat.add_assoc _ _ _))⟩)))
          repeat (go_quiet (first | (go_at_call 87; (with_reducible refine (pct_value.calls k (bt a0 1) t104 _ A5.out).mono ?_); rintro e w' ⟨rfl, ⟨nd, rfl⟩⟩; (try first | exact ⟨rfl, _, World.drewN_drewN _ _ _⟩ | exact ⟨rfl, _, Eq.trans (World.drewN_drewN _ _ _) (congrArg (World.drewN _) (Nat.add_assoc _ _ _))⟩); have p7 : 0 ≤ (2 : Int) := (by omega); have q7 : 2 < a0.size := (by have : (2 : Int) < (a0.size : Int) := of_decide_eq_true (by first | (with_reducible assumption) | assumption); omega); have hx7 : ∀ h : 2 < a0.size, ((a0[2]'h).toNat : Int) = bt a0 2 := bt_at a0 2; clear p7; have qi7 : (2 < (a0.size : Int)) = True := eq_true (of_decide_eq_true (by first | (with_reducible assumption) | assumption)); replace q7 := eq_true q7) | (go_at_call 87; (with_reducible refine (pct_value.calls k (bt a0 2) t105 _ A8.out).mono ?_); rintro e w' ⟨rfl, ⟨nd, rfl⟩⟩; (try first | exact ⟨rfl, _, World.drewN_drewN _ _ _⟩ | exact ⟨rfl, _, Eq.trans (World.drewN_drewN _ _ _) (congrArg (World.drewN _) (Nat.add_assoc _ _ _))⟩))); try go_wp2_with (first | (go_at_call 87; (with_reducible refine (pct_value.calls k (bt a0 1) t104 _ A5.out).mono ?_); rintro e w' ⟨rfl, ⟨nd, rfl⟩⟩; (try first | exact ⟨rfl, _, World.drewN_drewN _ _ _⟩ | exact ⟨rfl, _, Eq.trans (World.drewN_drewN _ _ _) (congrArg (World.drewN _) (Nat.add_assoc _ _ _))⟩); have p7 : 0 ≤ (2 : Int) := (by omega); have q7 : 2 < a0.size := (by have : (2 : Int) < (a0.size : Int) := of_decide_eq_true (by first | (with_reducible assumption) | assumption); omega); have hx7 : ∀ h : 2 < a0.size, ((a0[2]'h).toNat : Int) = bt a0 2 := bt_at a0 2; clear p7; have qi7 : (2 < (a0.size : Int)) = True := eq_true (of_decide_eq_true (by first | (with_reducible assumption) | assumption)); replace q7 := eq_true q7) | (go_at_call 87; (with_reducible refine (pct_value.calls k (bt a0 2) t105 _ A8.out).mono ?_); rintro e w' ⟨rfl, ⟨nd, rfl⟩⟩; (try first | exact ⟨rfl, _, World.drewN_drewN _ _ _⟩ | exact ⟨rfl, _, Eq.trans (World.drewN_drewN _ _ _) (congrArg (World.drewN _) (Nat.add_assoc _ _ _))⟩))))
          go_ret2
          exact ⟨by first | rfl | (simp; done) | (simp [*]; done), by repeat (first | exact Drawn0.refl _ | apply Drawn0.step)⟩
      · rw [if_neg c6] at H
        exact absurd H (by simp)
    · rw [if_neg c3] at H
      exact absurd H (by simp)

def pct_plain.f (a0 : Int) : Option (Bool) := if a0 ≥ 97 then (if a0 ≤ 122 then (some true) else (if a0 ≥ 65 then (if a0 ≤ 90 then (some true) else (if a0 ≥ 48 then (if a0 ≤ 57 then (some true) else (if a0 < 128 then ((strings_ContainsRune.f (⟨#[45, 46, 95, 126]⟩ : ByteArray) a0).bind fun t106 => (some t106)) else (some false))) else (if a0 < 128 then ((strings_ContainsRune.f (⟨#[45, 46, 95, 126]⟩ : ByteArray) a0).bind fun t107 => (some t107)) else (some false)))) else (if a0 ≥ 48 then (if a0 ≤ 57 then (some true) else (if a0 < 128 then ((strings_ContainsRune.f (⟨#[45, 46, 95, 126]⟩ : ByteArray) a0).bind fun t108 => (some t108)) else (some false))) else (if a0 < 128 then ((strings_ContainsRune.f (⟨#[45, 46, 95, 126]⟩ : ByteArray) a0).bind fun t109 => (some t109)) else (some false))))) else (if a0 ≥ 65 then (if a0 ≤ 90 then (some true) else (if a0 ≥ 48 then (if a0 ≤ 57 then (some true) else (if a0 < 128 then ((strings_ContainsRune.f (⟨#[45, 46, 95, 126]⟩ : ByteArray) a0).bind fun t110 => (some t110)) else (some false))) else (if a0 < 128 then ((strings_ContainsRune.f (⟨#[45, 46, 95, 126]⟩ : ByteArray) a0).bind fun t111 => (some t111)) else (some false)))) else (if a0 ≥ 48 then (if a0 ≤ 57 then (some true) else (if a0 < 128 then ((strings_ContainsRune.f (⟨#[45, 46, 95, 126]⟩ : ByteArray) a0).bind fun t112 => (some t112)) else (some false))) else (if a0 < 128 then ((strings_ContainsRune.f (⟨#[45, 46, 95, 126]⟩ : ByteArray) a0).bind fun t113 => (some t113)) else (some false))))
set_option maxHeartbeats 8000000 in
set_option maxRecDepth 100000 in
theorem pct_plain.calls (a0 : Int) (r : Bool) (w : World) (h : pct_plain.f a0 = some r) :
    Calls Tryd.prog 68 #[.int .i32 a0] w fun e w' => e = .returned (.bool r) ∧ Drawn0 w w' := by
  have H : (if a0 ≥ 97 then (if a0 ≤ 122 then (some true) else (if a0 ≥ 65 then (if a0 ≤ 90 then (some true) else (if a0 ≥ 48 then (if a0 ≤ 57 then (some true) else (if a0 < 128 then ((strings_ContainsRune.f (⟨#[45, 46, 95, 126]⟩ : ByteArray) a0).bind fun t106 => (some t106)) else (some false))) else (if a0 < 128 then ((strings_ContainsRune.f (⟨#[45, 46, 95, 126]⟩ : ByteArray) a0).bind fun t107 => (some t107)) else (some false)))) else (if a0 ≥ 48 then (if a0 ≤ 57 then (some true) else (if a0 < 128 then ((strings_ContainsRune.f (⟨#[45, 46, 95, 126]⟩ : ByteArray) a0).bind fun t108 => (some t108)) else (some false))) else (if a0 < 128 then ((strings_ContainsRune.f (⟨#[45, 46, 95, 126]⟩ : ByteArray) a0).bind fun t109 => (some t109)) else (some false))))) else (if a0 ≥ 65 then (if a0 ≤ 90 then (some true) else (if a0 ≥ 48 then (if a0 ≤ 57 then (some true) else (if a0 < 128 then ((strings_ContainsRune.f (⟨#[45, 46, 95, 126]⟩ : ByteArray) a0).bind fun t110 => (some t110)) else (some false))) else (if a0 < 128 then ((strings_ContainsRune.f (⟨#[45, 46, 95, 126]⟩ : ByteArray) a0).bind fun t111 => (some t111)) else (some false)))) else (if a0 ≥ 48 then (if a0 ≤ 57 then (some true) else (if a0 < 128 then ((strings_ContainsRune.f (⟨#[45, 46, 95, 126]⟩ : ByteArray) a0).bind fun t112 => (some t112)) else (some false))) else (if a0 < 128 then ((strings_ContainsRune.f (⟨#[45, 46, 95, 126]⟩ : ByteArray) a0).bind fun t113 => (some t113)) else (some false))))) = some r := h
  clear h
  by_cases c2 : a0 ≥ 97
  · rw [if_pos c2] at H
    have c2b0 : decide (97 ≤ a0) = true := decide_eq_true c2
    clear c2
    by_cases c3 : a0 ≤ 122
    · rw [if_pos c3] at H
      have c3b0 : decide (a0 ≤ 122) = true := decide_eq_true c3
      clear c3
      obtain rfl := Option.some.inj H
      go_enter Tryd.func68, Tryd.ntmps68
      go_wp2
      go_ret
      exact ⟨by first | rfl | (simp; done) | (simp [*]; done), by repeat (first | exact Drawn0.refl _ | apply Drawn0.step)⟩
    · rw [if_neg c3] at H
      have c3b0 : decide (a0 ≤ 122) = false := decide_eq_false c3
      clear c3
      by_cases c4 : a0 ≥ 65
      · rw [if_pos c4] at H
        have c4b0 : decide (65 ≤ a0) = true := decide_eq_true c4
        clear c4
        by_cases c5 : a0 ≤ 90
        · rw [if_pos c5] at H
          have c5b0 : decide (a0 ≤ 90) = true := decide_eq_true c5
          clear c5
          obtain rfl := Option.some.inj H
          go_enter Tryd.func68, Tryd.ntmps68
          go_wp2
          go_ret
          exact ⟨by first | rfl | (simp; done) | (simp [*]; done), by repeat (first | exact Drawn0.refl _ | apply Drawn0.step)⟩
        · rw [if_neg c5] at H
          have c5b0 : decide (a0 ≤ 90) = false := decide_eq_false c5
          clear c5
          by_cases c6 : a0 ≥ 48
          · rw [if_pos c6] at H
            have c6b0 : decide (48 ≤ a0) = true := decide_eq_true c6
            clear c6
            by_cases c7 : a0 ≤ 57
            · rw [if_pos c7] at H
              have c7b0 : decide (a0 ≤ 57) = true := decide_eq_true c7
              clear c7
              obtain rfl := Option.some.inj H
              go_enter Tryd.func68, Tryd.ntmps68
              go_wp2
              go_ret
              exact ⟨by first | rfl | (simp; done) | (simp [*]; done), by repeat (first | exact Drawn0.refl _ | apply Drawn0.step)⟩
            · rw [if_neg c7] at H
              have c7b0 : decide (a0 ≤ 57) = false := decide_eq_false c7
              clear c7
              by_cases c8 : a0 < 128
              · rw [if_pos c8] at H
                have c8b0 : decide (a0 < 128) = true := decide_eq_true c8
                clear c8
                replace H := Option.bind_eq_some_iff.mp H
                obtain ⟨t106, A90, H⟩ := H
                replace H : (some t106) = some r := H
                have A9 := Aside0.mk A90
                clear A90
                obtain rfl := Option.some.inj H
                go_enter Tryd.func68, Tryd.ntmps68
                go_wp2_with (first | (go_at_call 72; (with_reducible refine (strings_ContainsRune.calls (⟨#[45, 46, 95, 126]⟩ : ByteArray) a0 t106 _ A9.out).mono ?_); rintro e w' ⟨rfl, ⟨nd, rfl⟩⟩))
                go_ret
                exact ⟨by first | rfl | (simp; done) | (simp [*]; done), by repeat (first | exact Drawn0.refl _ | apply Drawn0.step)⟩
              · rw [if_neg c8] at H
                have c8b0 : decide (a0 < 128) = false := decide_eq_false c8
                clear c8
                obtain rfl := Option.some.inj H
                go_enter Tryd.func68, Tryd.ntmps68
                go_wp2
                go_ret
                exact ⟨by first | rfl | (simp; done) | (simp [*]; done), by repeat (first | exact Drawn0.refl _ | apply Drawn0.step)⟩
          · rw [if_neg c6] at H
            have c6b0 : decide (48 ≤ a0) = false := decide_eq_false c6
            clear c6
            by_cases c10 : a0 < 128
            · rw [if_pos c10] at H
              have c10b0 : decide (a0 < 128) = true := decide_eq_true c10
              clear c10
              replace H := Option.bind_eq_some_iff.mp H
              obtain ⟨t107, A110, H⟩ := H
              replace H : (some t107) = some r := H
              have A11 := Aside0.mk A110
              clear A110
              obtain rfl := Option.some.inj H
              go_enter Tryd.func68, Tryd.ntmps68
              go_wp2_with (first | (go_at_call 72; (with_reducible refine (strings_ContainsRune.calls (⟨#[45, 46, 95, 126]⟩ : ByteArray) a0 t107 _ A11.out).mono ?_); rintro e w' ⟨rfl, ⟨nd, rfl⟩⟩))
              go_ret
              exact ⟨by first | rfl | (simp; done) | (simp [*]; done), by repeat (first | exact Drawn0.refl _ | apply Drawn0.step)⟩
            · rw [if_neg c10] at H
              have c10b0 : decide (a0 < 128) = false := decide_eq_false c10
              clear c10
              obtain rfl := Option.some.inj H
              go_enter Tryd.func68, Tryd.ntmps68
              go_wp2
              go_ret
              exact ⟨by first | rfl | (simp; done) | (simp [*]; done), by repeat (first | exact Drawn0.refl _ | apply Drawn0.step)⟩
      · rw [if_neg c4] at H
        have c4b0 : decide (65 ≤ a0) = false := decide_eq_false c4
        clear c4
        by_cases c12 : a0 ≥ 48
        · rw [if_pos c12] at H
          have c12b0 : decide (48 ≤ a0) = true := decide_eq_true c12
          clear c12
          by_cases c13 : a0 ≤ 57
          · rw [if_pos c13] at H
            have c13b0 : decide (a0 ≤ 57) = true := decide_eq_true c13
            clear c13
            obtain rfl := Option.some.inj H
            go_enter Tryd.func68, Tryd.ntmps68
            go_wp2
            go_ret
            exact ⟨by first | rfl | (simp; done) | (simp [*]; done), by repeat (first | exact Drawn0.refl _ | apply Drawn0.step)⟩
          · rw [if_neg c13] at H
            have c13b0 : decide (a0 ≤ 57) = false := decide_eq_false c13
            clear c13
            by_cases c14 : a0 < 128
            · rw [if_pos c14] at H
              have c14b0 : decide (a0 < 128) = true := decide_eq_true c14
              clear c14
              replace H := Option.bind_eq_some_iff.mp H
              obtain ⟨t108, A150, H⟩ := H
              replace H : (some t108) = some r := H
              have A15 := Aside0.mk A150
              clear A150
              obtain rfl := Option.some.inj H
              go_enter Tryd.func68, Tryd.ntmps68
              go_wp2_with (first | (go_at_call 72; (with_reducible refine (strings_ContainsRune.calls (⟨#[45, 46, 95, 126]⟩ : ByteArray) a0 t108 _ A15.out).mono ?_); rintro e w' ⟨rfl, ⟨nd, rfl⟩⟩))
              go_ret
              exact ⟨by first | rfl | (simp; done) | (simp [*]; done), by repeat (first | exact Drawn0.refl _ | apply Drawn0.step)⟩
            · rw [if_neg c14] at H
              have c14b0 : decide (a0 < 128) = false := decide_eq_false c14
              clear c14
              obtain rfl := Option.some.inj H
              go_enter Tryd.func68, Tryd.ntmps68
              go_wp2
              go_ret
              exact ⟨by first | rfl | (simp; done) | (simp [*]; done), by repeat (first | exact Drawn0.refl _ | apply Drawn0.step)⟩
        · rw [if_neg c12] at H
          have c12b0 : decide (48 ≤ a0) = false := decide_eq_false c12
          clear c12
          by_cases c16 : a0 < 128
          · rw [if_pos c16] at H
            have c16b0 : decide (a0 < 128) = true := decide_eq_true c16
            clear c16
            replace H := Option.bind_eq_some_iff.mp H
            obtain ⟨t109, A170, H⟩ := H
            replace H : (some t109) = some r := H
            have A17 := Aside0.mk A170
            clear A170
            obtain rfl := Option.some.inj H
            go_enter Tryd.func68, Tryd.ntmps68
            go_wp2_with (first | (go_at_call 72; (with_reducible refine (strings_ContainsRune.calls (⟨#[45, 46, 95, 126]⟩ : ByteArray) a0 t109 _ A17.out).mono ?_); rintro e w' ⟨rfl, ⟨nd, rfl⟩⟩))
            go_ret
            exact ⟨by first | rfl | (simp; done) | (simp [*]; done), by repeat (first | exact Drawn0.refl _ | apply Drawn0.step)⟩
          · rw [if_neg c16] at H
            have c16b0 : decide (a0 < 128) = false := decide_eq_false c16
            clear c16
            obtain rfl := Option.some.inj H
            go_enter Tryd.func68, Tryd.ntmps68
            go_wp2
            go_ret
            exact ⟨by first | rfl | (simp; done) | (simp [*]; done), by repeat (first | exact Drawn0.refl _ | apply Drawn0.step)⟩
  · rw [if_neg c2] at H
    have c2b0 : decide (97 ≤ a0) = false := decide_eq_false c2
    clear c2
    by_cases c18 : a0 ≥ 65
    · rw [if_pos c18] at H
      have c18b0 : decide (65 ≤ a0) = true := decide_eq_true c18
      clear c18
      by_cases c19 : a0 ≤ 90
      · rw [if_pos c19] at H
        have c19b0 : decide (a0 ≤ 90) = true := decide_eq_true c19
        clear c19
        obtain rfl := Option.some.inj H
        go_enter Tryd.func68, Tryd.ntmps68
        go_wp2
        go_ret
        exact ⟨by first | rfl | (simp; done) | (simp [*]; done), by repeat (first | exact Drawn0.refl _ | apply Drawn0.step)⟩
      · rw [if_neg c19] at H
        have c19b0 : decide (a0 ≤ 90) = false := decide_eq_false c19
        clear c19
        by_cases c20 : a0 ≥ 48
        · rw [if_pos c20] at H
          have c20b0 : decide (48 ≤ a0) = true := decide_eq_true c20
          clear c20
          by_cases c21 : a0 ≤ 57
          · rw [if_pos c21] at H
            have c21b0 : decide (a0 ≤ 57) = true := decide_eq_true c21
            clear c21
            obtain rfl := Option.some.inj H
            go_enter Tryd.func68, Tryd.ntmps68
            go_wp2
            go_ret
            exact ⟨by first | rfl | (simp; done) | (simp [*]; done), by repeat (first | exact Drawn0.refl _ | apply Drawn0.step)⟩
          · rw [if_neg c21] at H
            have c21b0 : decide (a0 ≤ 57) = false := decide_eq_false c21
            clear c21
            by_cases c22 : a0 < 128
            · rw [if_pos c22] at H
              have c22b0 : decide (a0 < 128) = true := decide_eq_true c22
              clear c22
              replace H := Option.bind_eq_some_iff.mp H
              obtain ⟨t110, A230, H⟩ := H
              replace H : (some t110) = some r := H
              have A23 := Aside0.mk A230
              clear A230
              obtain rfl := Option.some.inj H
              go_enter Tryd.func68, Tryd.ntmps68
              go_wp2_with (first | (go_at_call 72; (with_reducible refine (strings_ContainsRune.calls (⟨#[45, 46, 95, 126]⟩ : ByteArray) a0 t110 _ A23.out).mono ?_); rintro e w' ⟨rfl, ⟨nd, rfl⟩⟩))
              go_ret
              exact ⟨by first | rfl | (simp; done) | (simp [*]; done), by repeat (first | exact Drawn0.refl _ | apply Drawn0.step)⟩
            · rw [if_neg c22] at H
              have c22b0 : decide (a0 < 128) = false := decide_eq_false c22
              clear c22
              obtain rfl := Option.some.inj H
              go_enter Tryd.func68, Tryd.ntmps68
              go_wp2
              go_ret
              exact ⟨by first | rfl | (simp; done) | (simp [*]; done), by repeat (first | exact Drawn0.refl _ | apply Drawn0.step)⟩
        · rw [if_neg c20] at H
          have c20b0 : decide (48 ≤ a0) = false := decide_eq_false c20
          clear c20
          by_cases c24 : a0 < 128
          · rw [if_pos c24] at H
            have c24b0 : decide (a0 < 128) = true := decide_eq_true c24
            clear c24
            replace H := Option.bind_eq_some_iff.mp H
            obtain ⟨t111, A250, H⟩ := H
            replace H : (some t111) = some r := H
            have A25 := Aside0.mk A250
            clear A250
            obtain rfl := Option.some.inj H
            go_enter Tryd.func68, Tryd.ntmps68
            go_wp2_with (first | (go_at_call 72; (with_reducible refine (strings_ContainsRune.calls (⟨#[45, 46, 95, 126]⟩ : ByteArray) a0 t111 _ A25.out).mono ?_); rintro e w' ⟨rfl, ⟨nd, rfl⟩⟩))
            go_ret
            exact ⟨by first | rfl | (simp; done) | (simp [*]; done), by repeat (first | exact Drawn0.refl _ | apply Drawn0.step)⟩
          · rw [if_neg c24] at H
            have c24b0 : decide (a0 < 128) = false := decide_eq_false c24
            clear c24
            obtain rfl := Option.some.inj H
            go_enter Tryd.func68, Tryd.ntmps68
            go_wp2
            go_ret
            exact ⟨by first | rfl | (simp; done) | (simp [*]; done), by repeat (first | exact Drawn0.refl _ | apply Drawn0.step)⟩
    · rw [if_neg c18] at H
      have c18b0 : decide (65 ≤ a0) = false := decide_eq_false c18
      clear c18
      by_cases c26 : a0 ≥ 48
      · rw [if_pos c26] at H
        have c26b0 : decide (48 ≤ a0) = true := decide_eq_true c26
        clear c26
        by_cases c27 : a0 ≤ 57
        · rw [if_pos c27] at H
          have c27b0 : decide (a0 ≤ 57) = true := decide_eq_true c27
          clear c27
          obtain rfl := Option.some.inj H
          go_enter Tryd.func68, Tryd.ntmps68
          go_wp2
          go_ret
          exact ⟨by first | rfl | (simp; done) | (simp [*]; done), by repeat (first | exact Drawn0.refl _ | apply Drawn0.step)⟩
        · rw [if_neg c27] at H
          have c27b0 : decide (a0 ≤ 57) = false := decide_eq_false c27
          clear c27
          by_cases c28 : a0 < 128
          · rw [if_pos c28] at H
            have c28b0 : decide (a0 < 128) = true := decide_eq_true c28
            clear c28
            replace H := Option.bind_eq_some_iff.mp H
            obtain ⟨t112, A290, H⟩ := H
            replace H : (some t112) = some r := H
            have A29 := Aside0.mk A290
            clear A290
            obtain rfl := Option.some.inj H
            go_enter Tryd.func68, Tryd.ntmps68
            go_wp2_with (first | (go_at_call 72; (with_reducible refine (strings_ContainsRune.calls (⟨#[45, 46, 95, 126]⟩ : ByteArray) a0 t112 _ A29.out).mono ?_); rintro e w' ⟨rfl, ⟨nd, rfl⟩⟩))
            go_ret
            exact ⟨by first | rfl | (simp; done) | (simp [*]; done), by repeat (first | exact Drawn0.refl _ | apply Drawn0.step)⟩
          · rw [if_neg c28] at H
            have c28b0 : decide (a0 < 128) = false := decide_eq_false c28
            clear c28
            obtain rfl := Option.some.inj H
            go_enter Tryd.func68, Tryd.ntmps68
            go_wp2
            go_ret
            exact ⟨by first | rfl | (simp; done) | (simp [*]; done), by repeat (first | exact Drawn0.refl _ | apply Drawn0.step)⟩
      · rw [if_neg c26] at H
        have c26b0 : decide (48 ≤ a0) = false := decide_eq_false c26
        clear c26
        by_cases c30 : a0 < 128
        · rw [if_pos c30] at H
          have c30b0 : decide (a0 < 128) = true := decide_eq_true c30
          clear c30
          replace H := Option.bind_eq_some_iff.mp H
          obtain ⟨t113, A310, H⟩ := H
          replace H : (some t113) = some r := H
          have A31 := Aside0.mk A310
          clear A310
          obtain rfl := Option.some.inj H
          go_enter Tryd.func68, Tryd.ntmps68
          go_wp2_with (first | (go_at_call 72; (with_reducible refine (strings_ContainsRune.calls (⟨#[45, 46, 95, 126]⟩ : ByteArray) a0 t113 _ A31.out).mono ?_); rintro e w' ⟨rfl, ⟨nd, rfl⟩⟩))
          go_ret
          exact ⟨by first | rfl | (simp; done) | (simp [*]; done), by repeat (first | exact Drawn0.refl _ | apply Drawn0.step)⟩
        · rw [if_neg c30] at H
          have c30b0 : decide (a0 < 128) = false := decide_eq_false c30
          clear c30
          obtain rfl := Option.some.inj H
          go_enter Tryd.func68, Tryd.ntmps68
          go_wp2
          go_ret
          exact ⟨by first | rfl | (simp; done) | (simp [*]; done), by repeat (first | exact Drawn0.refl _ | apply Drawn0.step)⟩

end Go.Proofs.YtdnaddignhjihaaDoor.QMB
namespace Go.Proofs.YtdnaddignhjihaaDoor.GivenM
open Go.RowKit Go.Proofs.YtdnaddignhjihaaDoor.QMB Go.Proofs.YtdnaddignhjihaaDoorW.PrintWords Go.Proofs.YtdnaddignhjihaaDoorW.PrintLast
set_option linter.unusedVariables false
theorem value_eq (k : Nat) (c : Nat) (h : c < 256) : pct_value.f (k + 3) (c : Int) = some (match hexv c with | some x => (x : Int) | none => -1) := by
  have h0 : ∀ c : Fin 256, pct_value.f 3 ((c.val : Nat) : Int) = some (match hexv c.val with | some x => (x : Int) | none => -1) := by decide +kernel
  have := h0 ⟨c, h⟩
  exact at_rounds (pct_value.mono _) (Nat.le_add_left 3 k) this

theorem bt_list (s : ByteArray) (i : Nat) (h : i < s.data.toList.length) : bt s (i : Int) = (((s.data.toList)[i]).toNat : Int) := by
  have h2 : i < s.size := by simpa using h
  simp [bt, h2]
  rfl

theorem or_eq : ∀ x : Fin 16, ∀ y : Fin 16, (Go.bits .or .i64 (wrap64 (((x.val : Nat) : Int) * 16)) (Go.bits .and .i64 ((y.val : Nat) : Int) 15)) % 256 = ((16 * x.val + y.val : Nat) : Int) := by decide +kernel

theorem triple_eq (s : ByteArray) : ∃ r, pct_triple.f 3 s = some (r, (tripB s.data.toList).isSome) ∧ ∀ b, tripB s.data.toList = some b → r = (b.toNat : Int) := by
  unfold pct_triple.f
  have hsz : s.size = s.data.toList.length := by simp
  rcases hl : s.data.toList with _ | ⟨a, _ | ⟨h, _ | ⟨l, u⟩⟩⟩
  · rw [hl] at hsz; replace hsz : s.size = 0 := hsz; rw [if_pos (by omega)]; exact ⟨0, by simp [tripB], by simp [tripB]⟩
  · rw [hl] at hsz; replace hsz : s.size = 1 := hsz; rw [if_pos (by omega)]; exact ⟨0, by simp [tripB], by simp [tripB]⟩
  · rw [hl] at hsz; replace hsz : s.size = 2 := hsz; rw [if_pos (by omega)]; exact ⟨0, by simp [tripB], by simp [tripB]⟩
  · have e1 : bt s 1 = ((h.toNat : Nat) : Int) := by
      have := bt_list s 1 (by rw [hl]; simp)
      simp only [hl] at this; exact this
    have e2 : bt s 2 = ((l.toNat : Nat) : Int) := by
      have := bt_list s 2 (by rw [hl]; simp)
      simp only [hl] at this; exact this
    rw [hl] at hsz; replace hsz : s.size = u.length + 3 := hsz
    rw [if_neg (by omega), if_pos (by omega), e1, e2, value_eq 0 _ h.toNat_lt, value_eq 0 _ l.toNat_lt]
    simp only [Option.bind_some]
    rw [if_pos (by omega)]
    rcases hx : hexv h.toNat with _ | x <;> rcases hy : hexv l.toNat with _ | y <;> simp only [tripB, hx, hy]
    · exact ⟨_, by rw [if_neg (by omega)]; rfl, by simp⟩
    · exact ⟨_, by rw [if_neg (by omega)]; rfl, by simp⟩
    · exact ⟨_, by rw [if_pos (by omega)]; rfl, by simp⟩
    · refine ⟨_, by rw [if_pos (by omega), Option.some.injEq, Prod.mk.injEq]; exact ⟨rfl, decide_eq_true (by omega)⟩, ?_⟩
      intro b hb
      obtain rfl := Option.some.inj hb
      have hx' := hexv_lt hx; have hy' := hexv_lt hy
      rw [or_eq ⟨x, hx'⟩ ⟨y, hy'⟩]
      simp; omega

theorem triple_calls (s : ByteArray) (w : World) :
    Calls Tryd.prog 67 #[.string s] w fun e w' => ∃ r, e = .returned (.tuple #[.int .u8 r, .bool (tripB s.data.toList).isSome]) ∧ (∀ b, tripB s.data.toList = some b → r = (b.toNat : Int)) ∧ Drawn0 w w' := by
  obtain ⟨r, h, hb⟩ := triple_eq s
  exact (pct_triple.calls 3 s r _ w h).mono fun e w' ⟨h1, h2⟩ => ⟨r, h1, hb, h2⟩

theorem coded_eq (c : UInt8) : pct_coded.f (c.toNat : Int) = some ⟨(codeB c).toArray⟩ := by
  have h0 : ∀ c : Fin 256, pct_coded.f ((c.val : Nat) : Int) = some ⟨(codeB (UInt8.ofNat c.val)).toArray⟩ := by decide +kernel
  have := h0 ⟨c.toNat, c.toNat_lt⟩
  simpa using this

theorem coded_calls (c : UInt8) (w : World) :
    Calls Tryd.prog 71 #[.int .u8 (c.toNat : Int)] w fun e w' => e = .returned (.string ⟨(codeB c).toArray⟩) ∧ Below w.heap.size w w' :=
  pct_coded.calls _ _ w (coded_eq c)

theorem plain_eq (c : Nat) : pct_plain.f (c : Int) = some (freeN c) := by
  by_cases h : c < 128
  · have h0 : ∀ c : Fin 128, pct_plain.f ((c.val : Nat) : Int) = some (freeN c.val) := by decide +kernel
    exact h0 ⟨c, h⟩
  · have h2 : freeN c = false := by
      cases hf : freeN c
      · rfl
      · exact absurd (freeN_lt hf) h
    rw [h2]
    unfold pct_plain.f
    repeat (first | rw [if_pos (by omega)] | rw [if_neg (by omega)])
/-- plain, at a number that is not below 0. -/
theorem plain_calls (c : Nat) (w : World) :
    Calls Tryd.prog 68 #[.int .i32 (c : Int)] w fun e w' => e = .returned (.bool (freeN c)) ∧ Drawn0 w w' :=
  pct_plain.calls _ _ w (plain_eq c)
theorem rune_other (c : Nat) (h : c < 128) (w : World) :
    Calls Tryd.prog 72 #[.string ⟨#[33, 36, 38, 39, 40, 41, 42, 43, 44, 59, 61, 58, 64, 47, 63, 91, 93]⟩, .int .i32 (c : Int)] w fun e w' => e = .returned (.bool (otherN c)) ∧ w' = w := by
  have h0 : ∀ c : Fin 128, decide (0 ≤ Lib.indexByte ([33, 36, 38, 39, 40, 41, 42, 43, 44, 59, 61, 58, 64, 47, 63, 91, 93] : List UInt8) (((c.val : Nat) : Int).toNat.toUInt8)) = otherN c.val := by decide +kernel
  refine (Tryd.strings_ContainsRune_ascii _ (c : Int) w (by omega) (by omega)).mono fun e w' ⟨h1, h2⟩ => ⟨?_, h2⟩
  rw [h1, ← h0 ⟨c, h⟩]

end Go.Proofs.YtdnaddignhjihaaDoor.GivenM
namespace Go.Proofs.YtdnaddignhjihaaDoor.GivenM
open Go.RowKit Go.Proofs.YtdnaddignhjihaaDoor.QMB Go.Proofs.YtdnaddignhjihaaDoorW.PrintWords Go.Proofs.YtdnaddignhjihaaDoorW.PrintLast
set_option linter.unusedVariables false
theorem isB_below {T e : TypeId} {B b : Nat} {bs : List Value} {W W' : World} (h : Lib.IsBuilderF T e B b bs W) (hb : Below W.heap.size W W') : Lib.IsBuilderF T e B b bs W' := by
  have one : ∀ p : Value, Lib.BuilderAtF T e B b p bs W → Lib.BuilderAtF T e B b p bs W' := by
    rintro p h
    have hlt := h.lt
    obtain ⟨hB, v, hv, hown, hne⟩ := h
    exact ⟨hB, v, (hb.block b hlt).trans hv, hown.kept (row := none) ⟨hb.os, hb.tape, hb.output, hb.size, fun k hk _ => hb.block k hk⟩ (Classical.em _), hne⟩
  exact h.elim (fun x => .inl (one _ x)) (fun x => .inr (one _ x))

def codeAll (l : List UInt8) : List UInt8 := l.flatMap codeB
theorem codeAll_length (l : List UInt8) : (codeAll l).length = 3 * l.length := by
  induction l with
  | nil => rfl
  | cons c t ih => simp only [codeAll, List.flatMap_cons, List.length_append, codeB_length, List.length_cons] at *; omega
theorem codeAll_snoc (l : List UInt8) (i : Nat) (h : i < l.length) : codeAll (l.take (i + 1)) = codeAll (l.take i) ++ codeB l[i] := by
  rw [List.take_add_one, List.getElem?_eq_getElem h]; simp only [codeAll, List.flatMap_append, Option.toList_some, List.flatMap_cons, List.flatMap_nil, List.append_nil]

set_option maxHeartbeats 4000000 in
set_option maxRecDepth 1000000 in
theorem all_calls (s : ByteArray) (w : World) (hs : s.size ≤ 1099511627776) :
    Calls Tryd.prog 73 #[.string s] w fun e w' => e = .returned (.string ⟨(codeAll s.data.toList).toArray⟩) ∧ Below w.heap.size w w' := by
  go_enter Tryd.func73, Tryd.ntmps73
  go_wp2
  go_loopw [7] (fun v wr => ∃ k : Nat, k ≤ s.size ∧ v = .int .i64 k ∧ Lib.IsBuilderF 57 5 w.heap.size w.heap.size (Lib.byteCells (codeAll (s.data.toList.take k))) wr ∧ Below w.heap.size w wr) (fun v wr => s.size - (intOf v).toNat)
  case atStart =>
    refine ⟨0, by omega, rfl, (Lib.IsBuilderF.of (Lib.fresh_isBuilder 57 5 w)), (Below.refl _ w).alloc (Nat.le_refl _) _⟩
  case round =>
    obtain ⟨k, hk, rfl, hI, hbw⟩ := hrel
    have hsz := hbw.size
    by_cases hlt : k < s.size
    · have hlt' : ((k : Int) < (s.size : Int)) = True := eq_true (by omega)
      have hx : (s[k]'hlt) = s.data.toList[k]'(by simpa using hlt) := by simp; rfl
      have h3 : ∀ c : UInt8, (Lib.byteCells (codeAll (s.data.toList.take k))).length + ByteArray.size ⟨(codeB c).toArray⟩ ≤ 140737488355328 := by
        intro c
        rw [Lib.byteCells_length, codeAll_length]
        have := List.length_take_le k s.data.toList
        show 3 * _ + 3 ≤ _
        omega
      go_wp2_with (first
        | (go_at_call 71; refine (coded_calls _ _).mono ?_; rintro e w1 ⟨rfl, hb1⟩)
        | (go_at_call 70; refine (Tryd.Builder_WriteString_k w.heap.size w.heap.size _ _ _ (isB_below hI hb1) (h3 _) (Nat.le_trans hsz hb1.size)).mono ?_; rintro e W1 ⟨rfl, h1, b1, k1⟩))
      go_roundw
      case rel =>
        refine ⟨k + 1, by omega, by go_num, ?_, hbw.trans ((hb1.mono hsz).trans b1)⟩
        rw [codeAll_snoc _ k (by simpa using hlt), Lib.byteCells_append, ← hx]
        exact Or.inr h1
      case measure =>
        simp [intOf]; omega
    · have hlt' : ((k : Int) < (s.size : Int)) = False := eq_false (by omega)
      obtain rfl : k = s.size := by omega
      have ht : s.data.toList.take s.size = s.data.toList := List.take_of_length_le (by simp)
      rw [ht] at hI
      go_wp2_with (go_at_call 28; refine (Tryd.Builder_String_any_k w.heap.size w.heap.size _ _ hI hsz).mono ?_)
      rintro e W1 ⟨rfl, _, b1, _⟩
      go_wp2
      go_ret
      exact ⟨rfl, hbw.trans b1⟩

/-- A sign's bytes lie in the text; those of one beyond ASCII are 128 or more. -/
theorem dec_in (s : ByteArray) (pos : Nat) (h : pos < s.size) :
    1 ≤ (Utf8.decode s pos).2 ∧ pos + (Utf8.decode s pos).2 ≤ s.size ∧ (128 ≤ (s.get! pos).toNat → ∀ i, i < (Utf8.decode s pos).2 → 128 ≤ (s.get! (pos + i)).toNat) := by
  unfold Utf8.decode
  simp only [Nat.add_zero, Bool.and_eq_true, decide_eq_true_eq, beq_iff_eq]
  have one : ∀ x : Nat, 1 ≤ (x, 1).2 ∧ pos + (x, 1).2 ≤ s.size ∧ (128 ≤ (s.get! pos).toNat → ∀ i, i < (x, 1).2 → 128 ≤ (s.get! (pos + i)).toNat) := by
    intro x
    refine ⟨Nat.le_refl _, by simp; omega, fun h1 i hi => ?_⟩
    obtain rfl : i = 0 := by simp at hi; omega
    exact h1
  split
  · exact one _
  split
  · rename_i hc
    split
    · refine ⟨by simp, by simp; omega, fun h1 i hi => ?_⟩
      simp only at hi
      rcases (by omega : i = 0 ∨ i = 1) with rfl | rfl
      · exact h1
      · omega
    · exact one _
  split
  · rename_i hc
    split
    · refine ⟨by simp, by simp; omega, fun h1 i hi => ?_⟩
      simp only at hi
      rcases (by omega : i = 0 ∨ i = 1 ∨ i = 2) with rfl | rfl | rfl
      · exact h1
      · omega
      · omega
    · exact one _
  split
  · rename_i hc
    split
    · refine ⟨by simp, by simp; omega, fun h1 i hi => ?_⟩
      simp only at hi
      rcases (by omega : i = 0 ∨ i = 1 ∨ i = 2 ∨ i = 3) with rfl | rfl | rfl | rfl
      · exact h1
      · omega
      · omega
      · omega
    · exact one _
  · exact one _
theorem dec_pos (s : ByteArray) (pos : Nat) (h : pos < s.size) : 1 ≤ (Utf8.decode s pos).2 := (dec_in s pos h).1

set_option maxHeartbeats 4000000 in
set_option maxRecDepth 1000000 in
theorem width_calls (s : ByteArray) (w : World) (h0 : 0 < s.size) (hs : s.size ≤ 1099511627776) :
    Calls Tryd.prog 74 #[.string s] w fun e w' => e = .returned (.int .i64 ((Utf8.decode s 0).2 : Int)) ∧ Below w.heap.size w w' := by
  have hd0 := dec_pos s 0 h0
  have hd1 := (dec_in s 0 h0).2.1
  go_enter Tryd.func74, Tryd.ntmps74
  go_wp2
  go_loopw [] (fun wr => ∃ pos : Nat, wr.heap[w.heap.size]? = some (.stringIter s pos) ∧ Below w.heap.size w wr ∧ (pos = 0 ∨ pos = (Utf8.decode s 0).2)) (fun wr => s.size - wr.iterPos w.heap.size)
  case atStart =>
    refine ⟨0, ?_, (Below.refl _ w).alloc (by simp) _, .inl rfl⟩
    exact World.iter_heap w s 0
  case round =>
    obtain ⟨pos, hit, hbw, hp0⟩ := hrel
    have hsz : w.heap.size < wr.heap.size := (Array.getElem?_eq_some_iff.1 hit).1
    by_cases hp : pos < s.size
    · have hnx : ∀ ty, (Instr.next (.pointer (some ⟨w.heap.size, 0, none⟩)) true ty).run Tryd.prog wr = _ := fun ty => Lib.run_next_any_at wr (w.heap.size) s pos ty hit hp
      have hwd := dec_pos s pos hp
      have hit2 := Lib.iterAt_heap wr (w.heap.size) s pos (pos + (Utf8.decode s pos).2) hit
      have hbw2 := Lib.below_iterAt hbw (k := w.heap.size) (Nat.le_refl _) s (pos + (Utf8.decode s pos).2)
      by_cases hz : pos = 0
      · subst hz
        rw [Nat.zero_add] at hit2 hbw2
        go_wp2
        go_roundw
        case rel =>
          exact ⟨_, hit2, hbw2, .inr rfl⟩
        case measure =>
          simp only [World.iterPos, hit2, hit]
          omega
      · obtain rfl : pos = (Utf8.decode s 0).2 := by omega
        have hgt : ((0 : Int) < (((Utf8.decode s 0).2 : Nat) : Int)) = True := eq_true (by omega)
        go_wp2
        go_ret
        exact ⟨rfl, hbw2⟩
    · have hnx : ∀ ty, (Instr.next (.pointer (some ⟨w.heap.size, 0, none⟩)) true ty).run Tryd.prog wr = _ := fun ty => Lib.run_next_end_at wr (w.heap.size) s pos ty hit hp
      have he : (s.size : Int) = ((Utf8.decode s 0).2 : Int) := by omega
      go_wp2
      go_ret
      exact ⟨by rw [← he]; rfl, hbw⟩

end Go.Proofs.YtdnaddignhjihaaDoor.GivenM
namespace Go.Proofs.YtdnaddignhjihaaDoor.GivenM
open Go.RowKit Go.Proofs.YtdnaddignhjihaaDoor.QMB Go.Proofs.YtdnaddignhjihaaDoorW.PrintWords Go.Proofs.YtdnaddignhjihaaDoorW.PrintLast
set_option linter.unusedVariables false
theorem get_list (s : ByteArray) (i : Nat) (h : i < s.data.toList.length) : s.get! i = (s.data.toList)[i] := by
  have h2 : i < s.data.size := by simpa using h
  simp only [ByteArray.get!]
  rw [getElem!_pos (c := s.data) i h2]
  simp
theorem drop_cons (l : List UInt8) (i : Nat) (h : i < l.length) : l.drop i = l[i] :: l.drop (i + 1) := List.drop_eq_getElem_cons h

theorem ext_list (s : ByteArray) (pos : Nat) : (s.extract pos s.size).data.toList = s.data.toList.drop pos := by
  rw [ByteArray.data_extract, Array.toList_extract, List.extract_eq_take_drop]
  exact List.take_of_length_le (by simp)

theorem ext_list2 (s : ByteArray) (a n : Nat) : (s.extract a (a + n)).data.toList = (s.data.toList.drop a).take n := by
  rw [ByteArray.data_extract, Array.toList_extract, List.extract_eq_take_drop, Nat.add_sub_cancel_left]

/-- A stretch of bytes of 128 or more is coded, byte by byte. -/
theorem normB_high : ∀ (xs t : List UInt8), (∀ c ∈ xs, 128 ≤ c.toNat) → normB (xs ++ t) = (normB t).map (codeAll xs ++ ·)
  | [], t, _ => by
    rw [List.nil_append]; cases normB t <;> simp [codeAll]
  | c :: xs, t, h => by
    have hc : 128 ≤ c.toNat := h c (List.mem_cons_self ..)
    have ih := normB_high xs t fun x hx => h x (List.mem_cons_of_mem _ hx)
    rw [List.cons_append, normB_one _ _ (by rintro rfl; simp at hc), ih, out1_high c hc]
    cases normB t <;> simp [codeAll]

theorem map_map (o : Option (List UInt8)) (a b : List UInt8) : (o.map (b ++ ·)).map (a ++ ·) = o.map ((a ++ b) ++ ·) := by
  cases o <;> simp

/-- A sign of the text that begins at a place. -/
theorem decode_drop (s : ByteArray) (pos : Nat) : Utf8.decode (s.extract pos s.size) 0 = Utf8.decode s pos := by
  have hsz : (s.extract pos s.size).size = s.size - pos := by simp
  have hg : ∀ k, (s.extract pos s.size).get! (0 + k) = s.get! (pos + k) := by
    intro k
    by_cases h : pos + k < s.size
    · have h1 : k < (s.extract pos s.size).data.toList.length := by simp; omega
      have h2 : pos + k < s.data.toList.length := by simpa using h
      rw [Nat.zero_add, get_list _ _ h1, get_list _ _ h2]
      simp [ByteArray.data_extract]
    · have h1 : ¬ k < (s.extract pos s.size).data.size := by simp; omega
      have h2 : ¬ pos + k < s.data.size := by simpa using h
      rw [Nat.zero_add]
      simp only [ByteArray.get!]
      rw [getElem!_neg (c := (s.extract pos s.size).data) k h1, getElem!_neg (c := s.data) (pos + k) h2]
  unfold Utf8.decode
  simp only [hg, hsz]
  have : ∀ k, (decide (0 + k < s.size - pos)) = decide (pos + k < s.size) := fun k => by rw [decide_eq_decide]; omega
  simp only [this]

theorem triple_b (s : ByteArray) (w : World) :
    Calls Tryd.prog 67 #[.string s] w fun e w' => ∃ r, e = .returned (.tuple #[.int .u8 r, .bool (tripB s.data.toList).isSome]) ∧ (∀ b, tripB s.data.toList = some b → r = (b.toNat : Int)) ∧ Below w.heap.size w w' :=
  (triple_calls s w).mono fun e w' ⟨r, h1, h2, n, h3⟩ => ⟨r, h1, h2, h3 ▸ pw_below_drewN (Below.refl _ w) n⟩
theorem plain_b (c : Nat) (w : World) :
    Calls Tryd.prog 68 #[.int .i32 (c : Int)] w fun e w' => e = .returned (.bool (freeN c)) ∧ Below w.heap.size w w' :=
  (plain_calls c w).mono fun e w' ⟨h1, n, h3⟩ => ⟨h1, h3 ▸ pw_below_drewN (Below.refl _ w) n⟩
theorem slice_two (s : ByteArray) (pos n : Nat) (h : pos + n ≤ s.size) (W : World) :
    Sem.run Tryd.prog (Instr.slice 9 (.string s) (some (.int .i64 (pos : Int))) (some (.int .i64 ((pos : Int) + (n : Int)))) none) W = .ok (.string (s.extract pos (pos + n))) W := by
  have e1 : ((pos : Int)).toNat = pos := by omega
  have e2 : ((pos : Int) + (n : Int)).toNat = pos + n := by omega
  rw [Go.run_slice_string W 9 s .i64 .i64 _ _ Tryd.underlying9 (by omega) (by omega) (by omega), e1, e2]
theorem blk_below {W W' : World} {k : Nat} {o : Obj} (h : W.heap[k]? = some o) (hb : Below W.heap.size W W') : W'.heap[k]? = some o :=
  (hb.block k (Array.getElem?_eq_some_iff.1 h).1).trans h
def normV : Option (List UInt8) → Value
  | some l => .tuple #[.string ⟨l.toArray⟩, .bool true]
  | none => .tuple #[.string ⟨#[]⟩, .bool false]
def pct_Norm.f (a0 : ByteArray) : Option (ByteArray × Bool) :=
  if a0.size ≤ 1099511627776 then some (match normB a0.data.toList with | some l => (⟨l.toArray⟩, true) | none => (⟨#[]⟩, false)) else none

set_option maxHeartbeats 8000000 in
set_option maxRecDepth 1000000 in
theorem norm_calls (s : ByteArray) (w : World) (hs : s.size ≤ 1099511627776) :
    Calls Tryd.prog 49 #[.string s] w fun e w' => e = .returned (normV (normB s.data.toList)) ∧ Below w.heap.size w w' := by
  have hl : s.data.toList.length = s.size := by simp
  go_enter Tryd.func49, Tryd.ntmps49
  go_wp2
  go_loopw [5] (fun sk wr => ∃ (pos skip : Nat) (acc : List UInt8), sk = .int .i64 skip ∧ Lib.IsBuilderF 57 5 w.heap.size w.heap.size (Lib.byteCells acc) wr ∧ wr.heap[w.heap.size + 1]? = some (.stringIter s pos) ∧ Below w.heap.size w wr ∧ Hid ((normB (s.data.toList.drop (max pos skip))).map (acc ++ ·) = normB s.data.toList) ∧ skip ≤ s.size ∧ (∀ i, pos ≤ i → i < skip → (s.get! i).toNat < 128) ∧ acc.length ≤ 3 * max pos skip) (fun _ wr => s.size - wr.iterPos (w.heap.size + 1))
  case atStart =>
    refine ⟨0, 0, [], rfl, (Lib.IsBuilderF.of (Lib.fresh_isBuilder 57 5 w)).alloc _, ?_, ((Below.refl _ w).alloc (Nat.le_refl _) _).alloc (by simp) _, ?_, by omega, by omega, by simp⟩
    · have := World.iter_heap (w.alloc (.cells #[.pointer none, .slice none 0 0] 57)) s 0
      simpa using this
    · show (normB (s.data.toList.drop 0)).map ([] ++ ·) = normB s.data.toList
      cases h : normB s.data.toList <;> simp [h]
  case round =>
    obtain ⟨pos, skip, acc, rfl, hI, hit, hbw, hacc, hsk, hasc, hal⟩ := hrel
    have hsz : w.heap.size + 1 < wr.heap.size := (Array.getElem?_eq_some_iff.1 hit).1
    by_cases hp : pos < s.size
    · have hnx : ∀ ty, (Instr.next (.pointer (some ⟨w.heap.size + 1, 0, none⟩)) true ty).run Tryd.prog wr = _ := fun ty => Lib.run_next_any_at wr (w.heap.size + 1) s pos ty hit hp
      obtain ⟨hw1, hw2, hw3⟩ := dec_in s pos hp
      have hd1 := decode_le s pos
      have hI2 := hI.iterAt hit (pos + (Utf8.decode s pos).2)
      have hit2 := Lib.iterAt_heap wr (w.heap.size + 1) s pos (pos + (Utf8.decode s pos).2) hit
      have hbw2 := Lib.below_iterAt hbw (k := w.heap.size + 1) (by omega) s (pos + (Utf8.decode s pos).2)
      have hsz2 : w.heap.size ≤ (wr.iterAt (w.heap.size + 1) s (pos + (Utf8.decode s pos).2)).heap.size := by rw [Lib.iterAt_size]; omega
      have hg : s.get! pos = s.data.toList[pos]'(by omega) := get_list s pos (by omega)
      have hgs : (s[pos]'hp) = s.data.toList[pos]'(by omega) := by simp; rfl
      by_cases hps : pos < skip
      · -- what a triple took
        have ha := hasc pos (Nat.le_refl _) hps
        have hd := decode_ascii s pos hp (by rw [hgs, ← hg]; exact ha)
        rw [hd] at hit2 hbw2 hI2 hsz2
        have e1 : max pos skip = skip := Nat.max_eq_right (by omega)
        have e2 : max (pos + 1) skip = skip := Nat.max_eq_right (by omega)
        rw [e1] at hacc hal
        go_wp2
        go_roundw
        case rel => exact ⟨pos + 1, skip, acc, rfl, hI2, hit2, hbw2, by rw [e2]; exact hacc, hsk, fun i h1 h2 => hasc i (by omega) h2, by rw [e2]; exact hal⟩
        case measure =>
          simp only [World.iterPos, hit2, hit]
          omega
      · have e1 : max pos skip = pos := Nat.max_eq_left (by omega)
        rw [e1] at hacc hal
        have hdc := drop_cons s.data.toList pos (by omega)
        by_cases h37 : (Utf8.decode s pos).1 = 37
        · -- a percent
          have hb : (s.data.toList[pos]'(by omega)).toNat < 128 := by
            apply Decidable.byContradiction
            intro hh
            have := (decode_high s pos hp (by rw [hgs]; omega)).1
            omega
          have hd : Utf8.decode s pos = (37, 1) := by
            have hd0 := decode_ascii s pos hp (by rw [hgs]; exact hb)
            rw [hd0] at h37 ⊢
            simp only at h37
            rw [h37]
          have hb37 : s.data.toList[pos]'(by omega) = 37 := by
            have hd0 := decode_ascii s pos hp (by rw [hgs]; exact hb)
            rw [hd, hgs] at hd0
            have := congrArg Prod.fst hd0
            simp only at this
            exact UInt8.toNat_inj.mp (by rw [← this]; rfl)
          rw [hd] at hit2 hbw2 hI2 hsz2
          clear h37 hw1 hw2 hw3 hd1
          have hX : (s.extract pos s.size).data.toList = s.data.toList.drop pos := ext_list s pos
          have hnB := normB_pct _ (s.data.toList.drop (pos + 1)) hb37
          rw [← hdc, ← hX, List.drop_drop] at hnB
          rcases ht : tripB (s.extract pos s.size).data.toList with _ | b
          · rw [ht, hX] at hnB
            have hno : normB s.data.toList = none := by rw [← hacc.out, hnB]; rfl
            go_wp2_with (go_at_call 67; refine (triple_b (s.extract pos s.size) _).mono ?_; rintro e W1 ⟨r, rfl, -, hb1⟩; rw [ht, Option.isSome_none])
            go_ret2
            rw [hno]
            exact ⟨rfl, hbw2.trans (hb1.mono hsz2)⟩
          · rw [ht, hX] at hnB
            have ht0 := ht
            rw [hX, hdc] at ht0
            have hlen := tripB_len ht0
            have hlen' : pos + 3 ≤ s.size := by
              rw [← hdc, List.length_drop] at hlen; omega
            have hq1 := drop_cons s.data.toList (pos + 1) (by omega)
            have hq2 := drop_cons s.data.toList (pos + 2) (by omega)
            rw [hq1, hq2] at ht0
            obtain ⟨ha1, ha2⟩ := tripB_ascii ht0
            clear hlen ht0 hq1 hq2
            have hasc3 : ∀ i, pos + 1 ≤ i → i < pos + 3 → (s.get! i).toNat < 128 := by
              intro i h1 h2
              rcases (by omega : i = pos + 1 ∨ i = pos + 2) with rfl | rfl
              · rw [get_list s _ (by omega)]; exact ha1
              · rw [get_list s _ (by omega)]; exact ha2
            have hnB2 : (normB (s.data.toList.drop (pos + 3))).map ((acc ++ outB b) ++ ·) = normB s.data.toList := by
              rw [← hacc.out, hnB, ← map_map]; rfl
            have hnB3 := outB_length b
            clear hnB hX hdc ha1 ha2
            have e3 : max (pos + 1) (pos + 3) = pos + 3 := Nat.max_eq_right (by omega)
            have hbl := b.toNat_lt
            by_cases hf : freeN b.toNat = true
            · have ho : outB b = [b] := by rw [outB, if_pos hf]
              go_wp2_with (first
                | (go_at_call 67; refine (triple_b (s.extract pos s.size) _).mono ?_; rintro e W1 ⟨r, rfl, hr, hb1⟩; obtain rfl := hr b ht; rw [ht, Option.isSome_some])
                | (go_at_call 68; refine (plain_b b.toNat _).mono ?_; rintro e W2 ⟨rfl, hb2⟩; rw [hf])
                | (go_at_call 69; refine (Tryd.Builder_WriteByte_k w.heap.size w.heap.size _ _ _ (isB_below (isB_below hI2 hb1) hb2) (by rw [Lib.byteCells_length]; omega) (Nat.le_trans hsz2 (Nat.le_trans hb1.size hb2.size))).mono ?_; rintro e W3 ⟨rfl, h3, b3, k3⟩))
              have hz1 := Nat.le_trans hsz2 hb1.size
              have hz2 := Nat.le_trans hz1 hb2.size
              go_roundw
              case rel =>
                refine ⟨pos + 1, pos + 3, acc ++ outB b, by go_num, ?_, k3.iter (blk_below (blk_below hit2 hb1) hb2) (by omega), hbw2.trans ((hb1.mono hsz2).trans ((hb2.mono hz1).trans b3)), ?_, hlen', hasc3, ?_⟩
                · rw [ho, Lib.byteCells_append]; exact Or.inr h3
                · rw [e3]; exact hnB2
                · rw [e3, List.length_append]; omega
              case measure =>
                simp only [World.iterPos, k3.iter (blk_below (blk_below hit2 hb1) hb2) (show w.heap.size + 1 ≠ w.heap.size by omega), hit]
                omega
            · have ho : outB b = codeB b := by rw [outB, if_neg hf]
              have hf' : freeN b.toNat = false := by simpa using hf
              have h3 : (Lib.byteCells acc).length + ByteArray.size ⟨(codeB b).toArray⟩ ≤ 140737488355328 := by
                rw [Lib.byteCells_length]
                show _ + 3 ≤ _
                omega
              go_wp2_with (first
                | (go_at_call 67; refine (triple_b (s.extract pos s.size) _).mono ?_; rintro e W1 ⟨r, rfl, hr, hb1⟩; obtain rfl := hr b ht; rw [ht, Option.isSome_some])
                | (go_at_call 68; refine (plain_b b.toNat _).mono ?_; rintro e W2 ⟨rfl, hb2⟩; rw [hf'])
                | (go_at_call 71; refine (coded_calls b _).mono ?_; rintro e W3 ⟨rfl, hb3⟩)
                | (go_at_call 70; refine (Tryd.Builder_WriteString_k w.heap.size w.heap.size _ _ _ (isB_below (isB_below (isB_below hI2 hb1) hb2) hb3) h3 (Nat.le_trans hsz2 (Nat.le_trans hb1.size (Nat.le_trans hb2.size hb3.size)))).mono ?_; rintro e W4 ⟨rfl, h4, b4, k4⟩))
              have hz1 := Nat.le_trans hsz2 hb1.size
              have hz2 := Nat.le_trans hz1 hb2.size
              have hit4 := k4.iter (blk_below (blk_below (blk_below hit2 hb1) hb2) hb3) (show w.heap.size + 1 ≠ w.heap.size by omega)
              go_roundw
              case rel =>
                refine ⟨pos + 1, pos + 3, acc ++ outB b, by go_num, ?_, hit4, hbw2.trans ((hb1.mono hsz2).trans ((hb2.mono hz1).trans ((hb3.mono hz2).trans b4))), ?_, hlen', hasc3, ?_⟩
                · rw [ho, Lib.byteCells_append]; exact Or.inr h4
                · rw [e3]; exact hnB2
                · rw [e3, List.length_append]; omega
              case measure =>
                simp only [World.iterPos, hit4, hit]
                omega
        · -- no percent
          by_cases hb : (s.data.toList[pos]'(by omega)).toNat < 128
          · have hd : Utf8.decode s pos = ((s.data.toList[pos]'(by omega)).toNat, 1) := by
              rw [← hgs]; exact decode_ascii s pos hp (by rw [hgs]; exact hb)
            have hnB := normB_one (s.data.toList[pos]'(by omega)) (s.data.toList.drop (pos + 1)) (by intro h; rw [hd, h] at h37; exact h37 rfl)
            rw [← hdc] at hnB
            have hX : (s.extract pos (pos + 1)).data.toList = [s.data.toList[pos]'(by omega)] := by
              rw [ext_list2, hdc]; rfl
            clear hdc hg hgs hw3
            rw [hd] at hit2 hbw2 hI2 hsz2 h37
            generalize (s.data.toList[pos]'(by omega)) = c at *
            have hnB2 : (normB (s.data.toList.drop (pos + 1))).map ((acc ++ out1 c) ++ ·) = normB s.data.toList := by
              rw [← hacc.out, hnB, ← map_map]
            have ho3 := out1_length c
            have h37' : ¬ ((c.toNat : Int) = 37) := by simp only at h37; omega
            have hrc : Lib.runeCells (c.toNat : Int) = [.int .u8 (c.toNat : Int)] := by
              rw [Lib.runeCells, Lib.encodeRuneZ_one (by omega) (by omega)]; rfl
            have e2 : max (pos + 1) skip = pos + 1 := Nat.max_eq_left (by omega)
            clear hnB h37 hw1 hd1
            by_cases hf : freeN c.toNat = true
            · have ho : out1 c = [c] := by rw [out1, if_pos (by simp [hf])]
              go_wp2_with (first
                | (go_at_call 68; refine (plain_b c.toNat _).mono ?_; rintro e W1 ⟨rfl, hb1⟩; rw [hf])
                | (go_at_call 27; refine (Tryd.Builder_WriteRune_k w.heap.size w.heap.size _ _ (by omega) (by omega) _ (isB_below hI2 hb1) (by rw [Lib.byteCells_length]; omega) (Nat.le_trans hsz2 hb1.size)).mono ?_; rintro e W2 ⟨rfl, h2, b2, k2⟩))
              have hit3 := k2.iter (blk_below hit2 hb1) (show w.heap.size + 1 ≠ w.heap.size by omega)
              go_roundw
              case rel =>
                refine ⟨pos + 1, skip, acc ++ out1 c, rfl, ?_, hit3, hbw2.trans ((hb1.mono hsz2).trans b2), ?_, hsk, fun i h1 h2 => absurd h2 (by omega), ?_⟩
                · rw [ho, Lib.byteCells_append]; rw [hrc] at h2; exact Or.inr h2
                · rw [e2]; exact hnB2
                · rw [e2, List.length_append]; omega
              case measure =>
                simp only [World.iterPos, hit3, hit]
                omega
            · have hf' : freeN c.toNat = false := by simpa using hf
              by_cases hh : otherN c.toNat = true
              · have ho : out1 c = [c] := by rw [out1, if_pos (by simp [hh])]
                go_wp2_with (first
                  | (go_at_call 68; refine (plain_b c.toNat _).mono ?_; rintro e W1 ⟨rfl, hb1⟩; rw [hf'])
                  | (go_at_call 72; refine (rune_other c.toNat hb _).mono ?_; rintro e W9 ⟨rfl, rfl⟩; rw [hh])
                  | (go_at_call 27; refine (Tryd.Builder_WriteRune_k w.heap.size w.heap.size _ _ (by omega) (by omega) _ (isB_below hI2 hb1) (by rw [Lib.byteCells_length]; omega) (Nat.le_trans hsz2 hb1.size)).mono ?_; rintro e W2 ⟨rfl, h2, b2, k2⟩))
                have hit3 := k2.iter (blk_below hit2 hb1) (show w.heap.size + 1 ≠ w.heap.size by omega)
                go_roundw
                case rel =>
                  refine ⟨pos + 1, skip, acc ++ out1 c, rfl, ?_, hit3, hbw2.trans ((hb1.mono hsz2).trans b2), ?_, hsk, fun i h1 h2 => absurd h2 (by omega), ?_⟩
                  · rw [ho, Lib.byteCells_append]; rw [hrc] at h2; exact Or.inr h2
                  · rw [e2]; exact hnB2
                  · rw [e2, List.length_append]; omega
                case measure =>
                  simp only [World.iterPos, hit3, hit]
                  omega
              · have hh' : otherN c.toNat = false := by simpa using hh
                have h3 : acc.length + ByteArray.size ⟨(codeAll (s.extract pos (pos + 1)).data.toList).toArray⟩ ≤ 140737488355328 := by
                  rw [hX]
                  show _ + 3 ≤ _
                  omega
                have hsl : ∀ W, Sem.run Tryd.prog (Instr.slice 9 (.string s) (some (.int .i64 (pos : Int))) (some (.int .i64 ((pos : Int) + 1))) none) W = .ok (.string (s.extract pos (pos + 1))) W := fun W => slice_two s pos 1 (by omega) W
                have ho : out1 c = codeB c := by rw [out1, if_neg (by simp [hf', hh'])]
                go_wp2_with (first
                  | (go_at_call 68; refine (plain_b c.toNat _).mono ?_; rintro e W1 ⟨rfl, hb1⟩; rw [hf'])
                  | (go_at_call 72; refine (rune_other c.toNat hb _).mono ?_; rintro e W9 ⟨rfl, rfl⟩; rw [hh'])
                  | (go_at_call 74; refine (width_calls (s.extract pos s.size) _ (by simp; omega) (by simp; omega)).mono ?_; rintro e W2 ⟨rfl, hb2⟩; rw [decode_drop, hd])
                  | (go_at_call 73; refine (all_calls (s.extract pos (pos + 1)) _ (by simp; omega)).mono ?_; rintro e W3 ⟨rfl, hb3⟩)
                  | (go_at_call 70; go_loud (refine (Tryd.Builder_WriteString_k w.heap.size w.heap.size _ _ _ (isB_below (isB_below (isB_below hI2 hb1) hb2) hb3) (by rw [Lib.byteCells_length, ← ext_list2]; exact h3) (Nat.le_trans hsz2 (Nat.le_trans hb1.size (Nat.le_trans hb2.size hb3.size)))).mono ?_; rintro e W4 ⟨rfl, h4, b4, k4⟩)))
                have hz1 := Nat.le_trans hsz2 hb1.size
                have hz2 := Nat.le_trans hz1 hb2.size
                have hit3 := k4.iter (blk_below (blk_below (blk_below hit2 hb1) hb2) hb3) (show w.heap.size + 1 ≠ w.heap.size by omega)
                go_roundw
                case rel =>
                  refine ⟨pos + 1, skip, acc ++ out1 c, rfl, ?_, hit3, hbw2.trans ((hb1.mono hsz2).trans ((hb2.mono hz1).trans ((hb3.mono hz2).trans b4))), ?_, hsk, fun i h1 h2 => absurd h2 (by omega), ?_⟩
                  · rw [ho, Lib.byteCells_append]; rw [Lib.strCells_eq, ← ext_list2, hX] at h4; simp only [codeAll, List.flatMap_cons, List.flatMap_nil, List.append_nil] at h4; exact Or.inr h4
                  · rw [e2]; exact hnB2
                  · rw [e2, List.length_append]; omega
                case measure =>
                  simp only [World.iterPos, hit3, hit]
                  omega
          · -- beyond ASCII
            have hb' : 128 ≤ (s.data.toList[pos]'(by omega)).toNat := by omega
            have hc := (decode_high s pos hp (by rw [hgs]; exact hb')).1
            have hf' : freeN (Utf8.decode s pos).1 = false := by
              cases h : freeN (Utf8.decode s pos).1
              · rfl
              · exact absurd (freeN_lt h) (by omega)
            have hx := ext_list2 s pos (Utf8.decode s pos).2
            have hX : ∀ c ∈ (s.data.toList.drop pos).take (Utf8.decode s pos).2, 128 ≤ c.toNat := by
              intro c hc'
              obtain ⟨i, hi, rfl⟩ := List.mem_iff_getElem.mp hc'
              have hi1 : i < (Utf8.decode s pos).2 := by
                have := List.length_take_le (Utf8.decode s pos).2 (s.data.toList.drop pos)
                omega
              have := hw3 (by rw [hg]; exact hb') i hi1
              rw [get_list s _ (by omega)] at this
              simpa using this
            have hnB := normB_high _ ((s.data.toList.drop pos).drop (Utf8.decode s pos).2) hX
            rw [List.take_append_drop, List.drop_drop] at hnB
            rw [← hx] at hnB
            have hnB2 : (normB (s.data.toList.drop (pos + (Utf8.decode s pos).2))).map ((acc ++ codeAll (s.extract pos (pos + (Utf8.decode s pos).2)).data.toList) ++ ·) = normB s.data.toList := by
              rw [← hacc.out, hnB, ← map_map]
            have hlx : (codeAll (s.extract pos (pos + (Utf8.decode s pos).2)).data.toList).length = 3 * (Utf8.decode s pos).2 := by
              rw [codeAll_length, hx, List.length_take, List.length_drop]
              omega
            have h3 : acc.length + ByteArray.size ⟨(codeAll (s.extract pos (pos + (Utf8.decode s pos).2)).data.toList).toArray⟩ ≤ 140737488355328 := by
              show _ + Array.size _ ≤ _
              rw [List.size_toArray, hlx]
              omega
            have e2 : max (pos + (Utf8.decode s pos).2) skip = pos + (Utf8.decode s pos).2 := Nat.max_eq_left (by omega)
            clear hX hx hnB hw3 hdc
            have hsl := fun W => slice_two s pos (Utf8.decode s pos).2 hw2 W
            go_wp2_with (first
              | (go_at_call 68; refine (plain_b (Utf8.decode s pos).1 _).mono ?_; rintro e W1 ⟨rfl, hb1⟩; rw [hf'])
              | (go_at_call 74; refine (width_calls (s.extract pos s.size) _ (by simp; omega) (by simp; omega)).mono ?_; rintro e W2 ⟨rfl, hb2⟩; rw [decode_drop])
              | (go_at_call 73; go_loud (refine (all_calls (s.extract pos (pos + (Utf8.decode s pos).2)) _ (by simp; omega)).mono ?_; rintro e W3 ⟨rfl, hb3⟩))
              | (go_at_call 70; go_loud (refine (Tryd.Builder_WriteString_k w.heap.size w.heap.size _ _ _ (isB_below (isB_below (isB_below hI2 hb1) hb2) hb3) (by rw [Lib.byteCells_length, ← ext_list2]; exact h3) (Nat.le_trans hsz2 (Nat.le_trans hb1.size (Nat.le_trans hb2.size hb3.size)))).mono ?_; rintro e W4 ⟨rfl, h4, b4, k4⟩)))
            have hz1 := Nat.le_trans hsz2 hb1.size
            have hz2 := Nat.le_trans hz1 hb2.size
            have hit3 := k4.iter (blk_below (blk_below (blk_below hit2 hb1) hb2) hb3) (show w.heap.size + 1 ≠ w.heap.size by omega)
            go_roundw
            case rel =>
              refine ⟨pos + (Utf8.decode s pos).2, skip, _, rfl, ?_, hit3, hbw2.trans ((hb1.mono hsz2).trans ((hb2.mono hz1).trans ((hb3.mono hz2).trans b4))), by rw [e2]; exact hnB2, hsk, fun i h1 h2 => absurd h2 (by omega), ?_⟩
              · rw [Lib.byteCells_append]; rw [Lib.strCells_eq, ← ext_list2] at h4; exact Or.inr h4
              · rw [e2, List.length_append, hlx]; omega
            case measure =>
              simp only [World.iterPos, hit3, hit]
              omega
    · -- the text is through
      have hnx : ∀ ty, (Instr.next (.pointer (some ⟨w.heap.size + 1, 0, none⟩)) true ty).run Tryd.prog wr = _ := fun ty => Lib.run_next_end_at wr (w.heap.size + 1) s pos ty hit hp
      go_wp2_with (go_at_call 28; refine (Tryd.Builder_String_any_k w.heap.size w.heap.size acc _ hI (by omega)).mono ?_)
      rintro e W1 ⟨rfl, _, b1, _⟩
      go_wp2
      go_ret2
      have hn : normB s.data.toList = some acc := by
        rw [← hacc.out, List.drop_of_length_le (by omega), normB_nil]
        simp
      rw [hn]
      exact ⟨rfl, hbw.trans b1⟩
theorem pct_Norm.calls (a0 : ByteArray) (r1 : ByteArray) (r2 : Bool) (w : World) (h : pct_Norm.f a0 = some (r1, r2)) :
    Calls Tryd.prog 49 #[.string a0] w fun e w' => e = .returned (.tuple #[.string r1, .bool r2]) ∧ Below w.heap.size w w' := by
  unfold pct_Norm.f at h
  split at h
  · rename_i hc
    refine (norm_calls a0 w hc).mono fun e w' ⟨h1, h2⟩ => ⟨?_, h2⟩
    rw [h1]
    have h' := Option.some.inj h
    revert h'
    cases normB a0.data.toList <;> (intro h'; cases h'; rfl)
  · cases h

end Go.Proofs.YtdnaddignhjihaaDoor.GivenM
namespace Go.Proofs.YtdnaddignhjihaaDoor.QMM
open Go.Proofs.YtdnaddignhjihaaDoor.GivenM Go.Proofs.YtdnaddignhjihaaDoor.QMB Go.Proofs.YtdnaddignhjihaaDoor.QBase
open Go.RowKit Go.Proofs.YtdnaddignhjihaaDoorW.PrintWords Go.Proofs.YtdnaddignhjihaaDoorW.PrintLast Go.Proofs.YtdnaddignhjihaaDoorW.PrintMore
attribute [local go_sem] max2_int min2_int max_two min_two max_three min_three max_four min_four   -- for this text's walks alone
set_option linter.unusedVariables false
set_option linter.unusedSimpArgs false
def errW : Option Int → Value
  | none => .nilIface
  | some c => .iface 0 (.int .i64 c)
theorem errW_none : errW none = .nilIface := rfl
theorem errW_some (c : Int) : errW (some c) = .iface 0 (.int .i64 c) := rfl

theorem info4 : (Tryd.prog.info? 4).map (fun i => (i.zero, i.size, i.bytes)) = some (some (.bool false), 1, 1) := by kernel_rfl
theorem info5 : (Tryd.prog.info? 5).map (fun i => (i.zero, i.size, i.bytes)) = some (some (.int .u8 0), 1, 1) := by kernel_rfl
-- the values' own types

end Go.Proofs.YtdnaddignhjihaaDoor.QMM
