/- robotsOthers_holds: a part of its proof (the texts Dec, Plain, Bts, GivA, GivO, GivD, Tok, QBasex0, OfA, GivN, GivG without what this claim does not lean on). -/
import Derived.WalkKit
import Derived.Lib.OthersKept
import Derived.Shelf.Strings.Builder1
import Derived.Shelf.Strings.Trim
import Derived.Shelf.Small.Utf8
import Derived.Shelf.Small.Strs
import Derived.Shelf.Strings.BuilderF
import Derived.Shelf.Strings.BuilderK
import Derived.Shelf.Strings.BuilderRune
import Derived.Shelf.Utf8.AppendRune
import Derived.Shelf.Utf8.AppendRunePlain
import Derived.Shelf.Utf8.RuneCount
import Derived.Shelf.Strings.Search1
import Derived.Shelf.Strings.Search2
import Derived.Shelf.Strings.Search3
import Derived.Shelf.Strings.Cut
import Derived.Shelf.Strings.Count
import Derived.Shelf.LaysM
import Derived.Shelf.Strings.Shaped
import Derived.Shelf.Strings.Prefix
import Derived.Shelf.Strings.Split
import Derived.Shelf.Strings.SplitShaped
import Derived.Shelf.Unicode.Decode
import Derived.Shelf.Strings.Runes
import Derived.Shelf.Strings.RuneCount
import Derived.Shelf.Strings.AsciiSet
import Derived.Shelf.Strings.Explode
import Derived.Shelf.Unicode.DecodeSlow
import Derived.Shelf.Unicode.DecodeAny
import Derived.Shelf.Unicode.DecodeLast
import Derived.Shelf.Strings.FieldsFuncAny
import Derived.Shelf.Strings.FieldsFuncGrows
import Derived.Shelf.Strings.BuilderCap
import Derived.Test.YtdnaddignhjihaaDoorProg
import Derived.Below
import Derived.Lib.ConvBytes
import Derived.Laws.IdiomStrings
import Derived.OwnWalk
import Derived.Shelf.Strings.SlTrimAscii
import Derived.BigCall
import Derived.Deep.Draws
import Derived.Deep.AppendLies
import Derived.Maps.AppendAt
import Derived.Laws.BytesArg
import Derived.Laws.MakeOwn
import Derived.Laws.OwnMore
import Derived.Deep.OwnRows
import Derived.Tactics
import Derived.Laws.Slices
import Derived.KernelRfl
import Derived.RowKit3
import Derived.Deep.LoopGhost
import Derived.Deep.QuietTactic
import Derived.BigQuiet
import Derived.WideLaws
import Derived.Deep.DeepCutAuto
import Derived.Deep.CutBlock
import Derived.Deep.RegionHeld3
import Derived.Laws.Rows
import Derived.Lib.AppendStr
import Derived.ArgAppend
import Derived.Laws.IdiomCopy
import Derived.OrdersHeld
import Derived.Laws.BitsLemmas
import Derived.RowKit
import Derived.Outline
import Derived.Test.YtdnaddignhjihaaDoorZO1
namespace Go.Proofs.YtdnaddignhjihaaDoor.Given
open Go.RowKit
set_option linter.unusedVariables false
/-- A sign's bytes lie in the text; those of one beyond ASCII are 128 or more. -/
theorem dec_in (s : ByteArray) (pos : Nat) (h : pos < s.size) :
    1 ≤ (Utf8.decode s pos).2 ∧ pos + (Utf8.decode s pos).2 ≤ s.size ∧ (128 ≤ (s.get! pos).toNat → ∀ i, i < (Utf8.decode s pos).2 → 128 ≤ (s.get! (pos + i)).toNat) := by
  unfold Utf8.decode
  simp only [Nat.add_zero, Bool.and_eq_true, decide_eq_true_eq, beq_iff_eq]
  have one : ∀ x : Nat, 1 ≤ (x, 1).2 ∧ pos + (x, 1).2 ≤ s.size ∧ (128 ≤ (s.get! pos).toNat → ∀ i, i < (x, 1).2 → 128 ≤ (s.get! (pos + i)).toNat) := by
    intro x
    refine ⟨Nat.le_refl _, by simp; omega, fun h1 i hi => ?_⟩
    obtain rfl : i = 0 := by simp at hi; omega
    exact h1
  split
  · exact one _
  split
  · rename_i hc
    split
    · refine ⟨by simp, by simp; omega, fun h1 i hi => ?_⟩
      simp only at hi
      rcases (by omega : i = 0 ∨ i = 1) with rfl | rfl
      · exact h1
      · omega
    · exact one _
  split
  · rename_i hc
    split
    · refine ⟨by simp, by simp; omega, fun h1 i hi => ?_⟩
      simp only at hi
      rcases (by omega : i = 0 ∨ i = 1 ∨ i = 2) with rfl | rfl | rfl
      · exact h1
      · omega
      · omega
    · exact one _
  split
  · rename_i hc
    split
    · refine ⟨by simp, by simp; omega, fun h1 i hi => ?_⟩
      simp only at hi
      rcases (by omega : i = 0 ∨ i = 1 ∨ i = 2 ∨ i = 3) with rfl | rfl | rfl | rfl
      · exact h1
      · omega
      · omega
      · omega
    · exact one _
  · exact one _
/-- What begins with a byte of 128 or more is no sign below 128. -/
theorem dec_big (s : ByteArray) (pos : Nat) (h : 128 ≤ (s.get! pos).toNat) : 128 ≤ (Utf8.decode s pos).1 := by
  unfold Utf8.decode
  simp only [Nat.add_zero, Bool.and_eq_true, decide_eq_true_eq, beq_iff_eq]
  have e : 128 ≤ Utf8.runeError := by decide
  split
  · omega
  split
  · split
    · assumption
    · exact e
  split
  · split
    · rename_i h1; have := h1.1; simp only; omega
    · exact e
  split
  · split
    · rename_i h1; have := h1.1; simp only; omega
    · exact e
  · exact e
theorem get_list (s : ByteArray) (i : Nat) (h : i < s.size) : s.get! i = s.data.toList[i]'(by simpa using h) := by
  have : s.get! i = s[i]'h := by
    show s.data[i]! = _
    rw [getElem!_pos s.data i h]
    rfl
  rw [this]
  simp
  rfl
end Go.Proofs.YtdnaddignhjihaaDoor.Given
namespace Go.Proofs
open Go.Shelf
def Tryd.lays167_ren : Go.Shelf.Ren := ⟨fun | 167 => 69 | 240 => 43 | 276 => 64 | n => n, fun | 70 => 54 | 5 => 5 | 75 => 59 | 0 => 0 | 72 => 57 | 37 => 55 | 4 => 4 | 164 => 101 | 80 => 62 | 9 => 9 | n => n, fun | n => n⟩
theorem Tryd.lays167 : Go.Proofs.Lays.n167 Tryd.prog Tryd.lays167_ren := {
  mixed := by kernel_rfl
  f167 := Tryd.func69.trans (congrArg some (by kernel_rfl))
  f240 := Tryd.func43.trans (congrArg some (by kernel_rfl))
  f276 := Tryd.func64.trans (congrArg some (by kernel_rfl))
  t0 := Tryd.underlying0
  a0 := Tryd.isAgg0
  z0 := Tryd.sizeOf0
  v0 := Tryd.zeroValue0
  t4 := Tryd.underlying4
  a4 := Tryd.isAgg4
  z4 := Tryd.sizeOf4
  v4 := Tryd.zeroValue4
  t5 := Tryd.underlying5
  a5 := Tryd.isAgg5
  z5 := Tryd.sizeOf5
  v5 := Tryd.zeroValue5
  t9 := Tryd.underlying9
  a9 := Tryd.isAgg9
  z9 := Tryd.sizeOf9
  v9 := Tryd.zeroValue9
  t20 := Tryd.underlying20
  a20 := Tryd.isAgg20
  z20 := Tryd.sizeOf20
  v20 := Tryd.zeroValue20
  t37 := Tryd.underlying55
  a37 := Tryd.isAgg55
  z37 := Tryd.sizeOf55
  v37 := Tryd.zeroValue55
  t70 := Tryd.underlying54
  a70 := Tryd.isAgg54
  z70 := Tryd.sizeOf54
  v70 := Tryd.zeroValue54
  t72 := Tryd.underlying57
  a72 := Tryd.isAgg57
  z72 := Tryd.sizeOf57
  v72 := Tryd.zeroValue57
  t75 := Tryd.underlying59
  a75 := Tryd.isAgg59
  z75 := Tryd.sizeOf59
  v75 := Tryd.zeroValue59
  t164 := Tryd.underlying101
  a164 := Tryd.isAgg101
  z164 := Tryd.sizeOf101
  v164 := Tryd.zeroValue101 }
theorem Tryd.Builder_Extra_167 : Builder.Extra Tryd.prog Tryd.lays167_ren := {
  sizeBuilder := by kernel_rfl
  liesBuilder := by kernel_rfl
  t5 := Tryd.underlying5
  a5 := Tryd.isAgg5
  z5 := Tryd.sizeOf5
  v5 := Tryd.zeroValue5
  infoByte := by kernel_rfl
  cellsByte := by kernel_rfl
  sizeByte := by kernel_rfl
  neB5 := by decide }
def Tryd.lays166_ren : Go.Shelf.Ren := ⟨fun | 166 => 70 | 240 => 43 | 276 => 64 | n => n, fun | 70 => 54 | 9 => 9 | 3 => 3 | 75 => 59 | 0 => 0 | 72 => 57 | 37 => 55 | 4 => 4 | 164 => 101 | 80 => 62 | 5 => 5 | n => n, fun | n => n⟩
theorem Tryd.lays166 : Go.Proofs.Lays.n166 Tryd.prog Tryd.lays166_ren := {
  mixed := by kernel_rfl
  f166 := Tryd.func70.trans (congrArg some (by kernel_rfl))
  f240 := Tryd.func43.trans (congrArg some (by kernel_rfl))
  f276 := Tryd.func64.trans (congrArg some (by kernel_rfl))
  t0 := Tryd.underlying0
  a0 := Tryd.isAgg0
  z0 := Tryd.sizeOf0
  v0 := Tryd.zeroValue0
  t3 := Tryd.underlying3
  a3 := Tryd.isAgg3
  z3 := Tryd.sizeOf3
  v3 := Tryd.zeroValue3
  t4 := Tryd.underlying4
  a4 := Tryd.isAgg4
  z4 := Tryd.sizeOf4
  v4 := Tryd.zeroValue4
  t9 := Tryd.underlying9
  a9 := Tryd.isAgg9
  z9 := Tryd.sizeOf9
  v9 := Tryd.zeroValue9
  t20 := Tryd.underlying20
  a20 := Tryd.isAgg20
  z20 := Tryd.sizeOf20
  v20 := Tryd.zeroValue20
  t37 := Tryd.underlying55
  a37 := Tryd.isAgg55
  z37 := Tryd.sizeOf55
  v37 := Tryd.zeroValue55
  t70 := Tryd.underlying54
  a70 := Tryd.isAgg54
  z70 := Tryd.sizeOf54
  v70 := Tryd.zeroValue54
  t72 := Tryd.underlying57
  a72 := Tryd.isAgg57
  z72 := Tryd.sizeOf57
  v72 := Tryd.zeroValue57
  t75 := Tryd.underlying59
  a75 := Tryd.isAgg59
  z75 := Tryd.sizeOf59
  v75 := Tryd.zeroValue59
  t164 := Tryd.underlying101
  a164 := Tryd.isAgg101
  z164 := Tryd.sizeOf101
  v164 := Tryd.zeroValue101 }
theorem Tryd.Builder_Extra_166 : Builder.Extra Tryd.prog Tryd.lays166_ren := {
  sizeBuilder := by kernel_rfl
  liesBuilder := by kernel_rfl
  t5 := Tryd.underlying5
  a5 := Tryd.isAgg5
  z5 := Tryd.sizeOf5
  v5 := Tryd.zeroValue5
  infoByte := by kernel_rfl
  cellsByte := by kernel_rfl
  sizeByte := by kernel_rfl
  neB5 := by decide }
def Tryd.lays169_ren : Go.Shelf.Ren := ⟨fun | 169 => 28 | n => n, fun | 70 => 54 | 9 => 9 | 0 => 0 | 72 => 57 | 37 => 55 | 127 => 85 | 3 => 3 | 5 => 5 | n => n, fun | n => n⟩
theorem Tryd.lays169 : Go.Proofs.Lays.n169 Tryd.prog Tryd.lays169_ren := {
  mixed := by kernel_rfl
  f169 := Tryd.func28.trans (congrArg some (by kernel_rfl))
  t0 := Tryd.underlying0
  a0 := Tryd.isAgg0
  z0 := Tryd.sizeOf0
  v0 := Tryd.zeroValue0
  t3 := Tryd.underlying3
  a3 := Tryd.isAgg3
  z3 := Tryd.sizeOf3
  v3 := Tryd.zeroValue3
  t9 := Tryd.underlying9
  a9 := Tryd.isAgg9
  z9 := Tryd.sizeOf9
  v9 := Tryd.zeroValue9
  t37 := Tryd.underlying55
  a37 := Tryd.isAgg55
  z37 := Tryd.sizeOf55
  v37 := Tryd.zeroValue55
  t70 := Tryd.underlying54
  a70 := Tryd.isAgg54
  z70 := Tryd.sizeOf54
  v70 := Tryd.zeroValue54
  t72 := Tryd.underlying57
  a72 := Tryd.isAgg57
  z72 := Tryd.sizeOf57
  v72 := Tryd.zeroValue57
  t127 := Tryd.underlying85
  a127 := Tryd.isAgg85
  z127 := Tryd.sizeOf85
  v127 := Tryd.zeroValue85 }
theorem Tryd.Builder_Extra_169 : Builder.Extra Tryd.prog Tryd.lays169_ren := {
  sizeBuilder := by kernel_rfl
  liesBuilder := by kernel_rfl
  t5 := Tryd.underlying5
  a5 := Tryd.isAgg5
  z5 := Tryd.sizeOf5
  v5 := Tryd.zeroValue5
  infoByte := by kernel_rfl
  cellsByte := by kernel_rfl
  sizeByte := by kernel_rfl
  neB5 := by decide }
def Tryd.lays160_ren : Go.Shelf.Ren := ⟨fun | 160 => 42 | 232 => 58 | 231 => 57 | 227 => 59 | 234 => 61 | 233 => 60 | 236 => 63 | 235 => 62 | 228 => 84 | 271 => 86 | 151 => 72 | 197 => 85 | 120 => 96 | 152 => 88 | 260 => 95 | 137 => 97 | 119 => 98 | 224 => 93 | 225 => 92 | 217 => 91 | 266 => 101 | n => n, fun | 9 => 9 | 4 => 4 | 3 => 3 | 5 => 5 | 117 => 97 | 116 => 96 | 0 => 0 | 124 => 100 | 21 => 21 | 105 => 118 | 46 => 120 | 119 => 127 | 139 => 130 | 138 => 129 | n => n, fun | 3 => 1 | 4 => 2 | n => n⟩
theorem Tryd.lays160 : Go.Proofs.Lays.n160 Tryd.prog Tryd.lays160_ren := {
  mixed := by kernel_rfl
  f119 := Tryd.func98.trans (congrArg some (by kernel_rfl))
  f120 := Tryd.func96.trans (congrArg some (by kernel_rfl))
  f137 := Tryd.func97.trans (congrArg some (by kernel_rfl))
  f151 := Tryd.func72.trans (congrArg some (by kernel_rfl))
  f152 := Tryd.func88.trans (congrArg some (by kernel_rfl))
  f160 := Tryd.func42.trans (congrArg some (by kernel_rfl))
  f197 := Tryd.func85.trans (congrArg some (by kernel_rfl))
  f217 := Tryd.func91.trans (congrArg some (by kernel_rfl))
  f224 := Tryd.func93.trans (congrArg some (by kernel_rfl))
  f225 := Tryd.func92.trans (congrArg some (by kernel_rfl))
  f227 := Tryd.func59.trans (congrArg some (by kernel_rfl))
  f228 := Tryd.func84.trans (congrArg some (by kernel_rfl))
  f231 := Tryd.func57.trans (congrArg some (by kernel_rfl))
  f232 := Tryd.func58.trans (congrArg some (by kernel_rfl))
  f233 := Tryd.func60.trans (congrArg some (by kernel_rfl))
  f234 := Tryd.func61.trans (congrArg some (by kernel_rfl))
  f235 := Tryd.func62.trans (congrArg some (by kernel_rfl))
  f236 := Tryd.func63.trans (congrArg some (by kernel_rfl))
  f260 := Tryd.func95.trans (congrArg some (by kernel_rfl))
  f266 := Tryd.func101.trans (congrArg some (by kernel_rfl))
  f271 := Tryd.func86.trans (congrArg some (by kernel_rfl))
  t0 := Tryd.underlying0
  a0 := Tryd.isAgg0
  z0 := Tryd.sizeOf0
  v0 := Tryd.zeroValue0
  t3 := Tryd.underlying3
  a3 := Tryd.isAgg3
  z3 := Tryd.sizeOf3
  v3 := Tryd.zeroValue3
  t4 := Tryd.underlying4
  a4 := Tryd.isAgg4
  z4 := Tryd.sizeOf4
  v4 := Tryd.zeroValue4
  t5 := Tryd.underlying5
  a5 := Tryd.isAgg5
  z5 := Tryd.sizeOf5
  v5 := Tryd.zeroValue5
  t9 := Tryd.underlying9
  a9 := Tryd.isAgg9
  z9 := Tryd.sizeOf9
  v9 := Tryd.zeroValue9
  t21 := Tryd.underlying21
  a21 := Tryd.isAgg21
  z21 := Tryd.sizeOf21
  v21 := Tryd.zeroValue21
  t46 := Tryd.underlying120
  a46 := Tryd.isAgg120
  z46 := Tryd.sizeOf120
  v46 := Tryd.zeroValue120
  t105 := Tryd.underlying118
  a105 := Tryd.isAgg118
  z105 := Tryd.sizeOf118
  v105 := Tryd.zeroValue118
  t116 := Tryd.underlying96
  a116 := Tryd.isAgg96
  z116 := Tryd.sizeOf96
  t117 := Tryd.underlying97
  a117 := Tryd.isAgg97
  z117 := Tryd.sizeOf97
  v117 := Tryd.zeroValue97
  t119 := Tryd.underlying127
  a119 := Tryd.isAgg127
  z119 := Tryd.sizeOf127
  t124 := Tryd.underlying100
  a124 := Tryd.isAgg100
  z124 := Tryd.sizeOf100
  v124 := Tryd.zeroValue100
  t138 := Tryd.underlying129
  a138 := Tryd.isAgg129
  z138 := Tryd.sizeOf129
  v138 := Tryd.zeroValue129
  t139 := Tryd.underlying130
  a139 := Tryd.isAgg130
  z139 := Tryd.sizeOf130
  v139 := Tryd.zeroValue130
  g3 := by kernel_rfl
  g4 := by kernel_rfl }
open Go.RowKit in
/-- (*strings.Builder).WriteByte: "WriteByte appends the byte c to b's buffer. The returned error is always nil.": UNDER Go's OWN LIMIT: the new length takes at most 2^47 bytes. (LAID: no walk: one application.) -/
theorem Tryd.Builder_WriteByte_k (B b : Nat) (bs : List Value) (c : Int) (w : World) (h : Lib.IsBuilderF 57 5 B b bs w) (hlen : bs.length + 1 ≤ 140737488355328) (hBw : B ≤ w.heap.size) :
    Calls Tryd.prog 69 #[.pointer (some ⟨b, 0, none⟩), .int .u8 c] w fun e w' => e = .returned .nilIface ∧ (Lib.BuilderAtF 57 5 B b (.pointer (some ⟨b, 0, none⟩)) (bs ++ [.int .u8 c]) w' ∧ Below B w w' ∧ Lib.OthersKept 5 (some b) w w') := Any.Builder_WriteByte_k Tryd.lays167 Tryd.Builder_Extra_167 B b bs c w h hlen hBw
open Go.RowKit in
/-- (*strings.Builder).WriteString: "WriteString appends the contents of s to b's buffer. It returns the length of s and a nil error.": UNDER Go's OWN LIMIT: the new length takes at most 2^47 bytes. THE FORM '_k': OVER 'Lib.IsBuilderF' (a builder that 'String()' may have read), AND WITH THE FRAME THAT REACHES ABOVE THE BUILDER: 'Lib.OthersKept': every block that is not b and is no row of uint8's stands as it stood: the iterator of a range among them.' HAS READ, TOO: the bytes go in BEHIND what is frozen, or, where there is no room, all goes over into a new row.) (LAID: no walk: one application.) -/
theorem Tryd.Builder_WriteString_k (B b : Nat) (bs : List Value) (s : ByteArray) (w : World) (h : Lib.IsBuilderF 57 5 B b bs w) (hlen : bs.length + s.size ≤ 140737488355328) (hBw : B ≤ w.heap.size) :
    Calls Tryd.prog 70 #[.pointer (some ⟨b, 0, none⟩), .string s] w fun e w' => e = .returned (.tuple #[.int .i64 s.size, .nilIface]) ∧ (Lib.BuilderAtF 57 5 B b (.pointer (some ⟨b, 0, none⟩)) (bs ++ Lib.strCells s) w' ∧ Below B w w' ∧ Lib.OthersKept 5 (some b) w w') := Any.Builder_WriteString_k Tryd.lays166 Tryd.Builder_Extra_166 B b bs s w h hlen hBw
open Go.RowKit in
/-- (*strings.Builder).String: "String returns the accumulated string.": WHATEVER THE BUILDER HOLDS; THE FORM '_k': OVER 'Lib.IsBuilderF' (a builder that 'String()' may have read), AND WITH THE FRAME THAT REACHES ABOVE THE BUILDER: 'Lib.OthersKept': every block that is not b and is no row of uint8's stands as it stood: the iterator of a range among them. (LAID: no walk: one application.) -/
theorem Tryd.Builder_String_any_k (B b : Nat) (l : List UInt8) (w : World) (h : Lib.IsBuilderF 57 5 B b (Lib.byteCells l) w) (hBw : B ≤ w.heap.size) :
    Calls Tryd.prog 28 #[.pointer (some ⟨b, 0, none⟩)] w fun e w' => e = .returned (.string ⟨l.toArray⟩) ∧ (Lib.IsBuilderF 57 5 B b (Lib.byteCells l) w' ∧ Below B w w' ∧ Lib.OthersKept 5 (some b) w w') := Any.Builder_String_any_k Tryd.lays169 Tryd.Builder_Extra_169 B b l w h hBw
def Tryd.lays168_ren : Go.Shelf.Ren := ⟨fun | 168 => 27 | 240 => 43 | 242 => 44 | 276 => 64 | 278 => 65 | n => n, fun | 70 => 54 | 21 => 21 | 3 => 3 | 75 => 59 | 0 => 0 | 72 => 57 | 37 => 55 | 4 => 4 | 164 => 101 | 51 => 103 | 5 => 5 | 46 => 120 | 80 => 62 | 9 => 9 | n => n, fun | n => n⟩
theorem Tryd.lays168 : Go.Proofs.Lays.n168 Tryd.prog Tryd.lays168_ren := {
  mixed := by kernel_rfl
  f168 := Tryd.func27.trans (congrArg some (by kernel_rfl))
  f240 := Tryd.func43.trans (congrArg some (by kernel_rfl))
  f242 := Tryd.func44.trans (congrArg some (by kernel_rfl))
  f276 := Tryd.func64.trans (congrArg some (by kernel_rfl))
  f278 := Tryd.func65.trans (congrArg some (by kernel_rfl))
  t0 := Tryd.underlying0
  a0 := Tryd.isAgg0
  z0 := Tryd.sizeOf0
  v0 := Tryd.zeroValue0
  t3 := Tryd.underlying3
  a3 := Tryd.isAgg3
  z3 := Tryd.sizeOf3
  v3 := Tryd.zeroValue3
  t4 := Tryd.underlying4
  a4 := Tryd.isAgg4
  z4 := Tryd.sizeOf4
  v4 := Tryd.zeroValue4
  t5 := Tryd.underlying5
  a5 := Tryd.isAgg5
  z5 := Tryd.sizeOf5
  v5 := Tryd.zeroValue5
  t9 := Tryd.underlying9
  a9 := Tryd.isAgg9
  z9 := Tryd.sizeOf9
  v9 := Tryd.zeroValue9
  t20 := Tryd.underlying20
  a20 := Tryd.isAgg20
  z20 := Tryd.sizeOf20
  v20 := Tryd.zeroValue20
  t21 := Tryd.underlying21
  a21 := Tryd.isAgg21
  z21 := Tryd.sizeOf21
  v21 := Tryd.zeroValue21
  t37 := Tryd.underlying55
  a37 := Tryd.isAgg55
  z37 := Tryd.sizeOf55
  v37 := Tryd.zeroValue55
  t46 := Tryd.underlying120
  a46 := Tryd.isAgg120
  z46 := Tryd.sizeOf120
  v46 := Tryd.zeroValue120
  t51 := Tryd.underlying103
  a51 := Tryd.isAgg103
  z51 := Tryd.sizeOf103
  v51 := Tryd.zeroValue103
  t70 := Tryd.underlying54
  a70 := Tryd.isAgg54
  z70 := Tryd.sizeOf54
  v70 := Tryd.zeroValue54
  t72 := Tryd.underlying57
  a72 := Tryd.isAgg57
  z72 := Tryd.sizeOf57
  v72 := Tryd.zeroValue57
  t75 := Tryd.underlying59
  a75 := Tryd.isAgg59
  z75 := Tryd.sizeOf59
  v75 := Tryd.zeroValue59
  t164 := Tryd.underlying101
  a164 := Tryd.isAgg101
  z164 := Tryd.sizeOf101
  v164 := Tryd.zeroValue101 }
theorem Tryd.Builder_Extra_168 : Builder.Extra Tryd.prog Tryd.lays168_ren := {
  sizeBuilder := by kernel_rfl
  liesBuilder := by kernel_rfl
  t5 := Tryd.underlying5
  a5 := Tryd.isAgg5
  z5 := Tryd.sizeOf5
  v5 := Tryd.zeroValue5
  infoByte := by kernel_rfl
  cellsByte := by kernel_rfl
  sizeByte := by kernel_rfl
  neB5 := by decide }
open Go.RowKit in
/-- (*strings.Builder).WriteRune: "WriteRune appends the UTF-8 encoding of Unicode code point r to b's buffer. It returns the length of r and a nil error.": EVERY RUNE (every int32: what is no rune goes in as U+FFFD's three bytes): 'Lib.runeCells r' (as bytes: 'Lib.encodeRune r': 'Lib.byteCells_encodeRune'); UNDER Go's OWN LIMIT: the new length takes at most 2^47 bytes. THE FORM '_k': OVER 'Lib.IsBuilderF', WITH THE FRAME THAT REACHES ABOVE THE BUILDER ('Lib.OthersKept'). (LAID: no walk: one application.) -/
theorem Tryd.Builder_WriteRune_k (B b : Nat) (bs : List Value) (r : Int) (hr0 : -2147483648 ≤ r) (hr1 : r ≤ 2147483647) (w : World) (h : Lib.IsBuilderF 57 5 B b bs w) (hlen : bs.length + 4 ≤ 140737488355328) (hBw : B ≤ w.heap.size) :
    Calls Tryd.prog 27 #[.pointer (some ⟨b, 0, none⟩), .int .i32 r] w fun e w' => e = .returned (.tuple #[.int .i64 (Lib.runeCells r).length, .nilIface]) ∧ (Lib.BuilderAtF 57 5 B b (.pointer (some ⟨b, 0, none⟩)) (bs ++ Lib.runeCells r) w' ∧ Below B w w' ∧ Lib.OthersKept 5 (some b) w w') := Any.Builder_WriteRune_k Tryd.lays168 Tryd.Builder_Extra_168 B b bs r hr0 hr1 w h hlen hBw
def Tryd.lays143_ren : Go.Shelf.Ren := ⟨fun | 143 => 77 | 219 => 83 | 217 => 91 | 225 => 92 | 224 => 93 | 267 => 94 | 266 => 101 | 314 => 102 | n => n, fun | 9 => 9 | 3 => 3 | 4 => 4 | 5 => 5 | 46 => 120 | 146 => 125 | 51 => 103 | n => n, fun | 1 => 0 | n => n⟩
theorem Tryd.lays143 : Go.Proofs.Lays.n143 Tryd.prog Tryd.lays143_ren := {
  mixed := by kernel_rfl
  f143 := Tryd.func77.trans (congrArg some (by kernel_rfl))
  f217 := Tryd.func91.trans (congrArg some (by kernel_rfl))
  f219 := Tryd.func83.trans (congrArg some (by kernel_rfl))
  f224 := Tryd.func93.trans (congrArg some (by kernel_rfl))
  f225 := Tryd.func92.trans (congrArg some (by kernel_rfl))
  f266 := Tryd.func101.trans (congrArg some (by kernel_rfl))
  f267 := Tryd.func94.trans (congrArg some (by kernel_rfl))
  f314 := Tryd.func102.trans (congrArg some (by kernel_rfl))
  t3 := Tryd.underlying3
  a3 := Tryd.isAgg3
  z3 := Tryd.sizeOf3
  v3 := Tryd.zeroValue3
  t4 := Tryd.underlying4
  a4 := Tryd.isAgg4
  z4 := Tryd.sizeOf4
  v4 := Tryd.zeroValue4
  t5 := Tryd.underlying5
  a5 := Tryd.isAgg5
  z5 := Tryd.sizeOf5
  v5 := Tryd.zeroValue5
  t9 := Tryd.underlying9
  a9 := Tryd.isAgg9
  z9 := Tryd.sizeOf9
  v9 := Tryd.zeroValue9
  t46 := Tryd.underlying120
  a46 := Tryd.isAgg120
  z46 := Tryd.sizeOf120
  v46 := Tryd.zeroValue120
  t51 := Tryd.underlying103
  a51 := Tryd.isAgg103
  z51 := Tryd.sizeOf103
  v51 := Tryd.zeroValue103
  t146 := Tryd.underlying125
  a146 := Tryd.isAgg125
  z146 := Tryd.sizeOf125
  v146 := Tryd.zeroValue125
  g1 := by kernel_rfl }
open Go.RowKit Go.Lib in
/-- strings.Index: "Index returns the index of the first instance of substr in s, or -1 if substr is not present in s.": IT RETURNS 'Lib.index s substr'; the world is as it was. (LAID: no walk: one application.) -/
theorem Tryd.strings_Index (s sub : ByteArray) (m : Int) (w : World) (hs : s.size < 4294967281) (hm : w.cell? ⟨0, 0, none⟩ = some (.int .i64 m)) :
    Calls Tryd.prog 77 #[.string s, .string sub] w fun e w' => e = .returned (.int .i64 (Lib.index s.data.toList sub.data.toList)) ∧ w' = w := Any.strings_Index Tryd.lays143 s sub m w hs hm
def Tryd.lays145_ren : Go.Shelf.Ren := ⟨fun | 145 => 40 | 220 => 56 | 219 => 83 | 217 => 91 | 225 => 92 | 224 => 93 | 267 => 94 | 266 => 101 | 314 => 102 | n => n, fun | 9 => 9 | 4 => 4 | 59 => 82 | 3 => 3 | 5 => 5 | 46 => 120 | 146 => 125 | 51 => 103 | n => n, fun | 1 => 0 | n => n⟩
theorem Tryd.lays145 : Go.Proofs.Lays.n145 Tryd.prog Tryd.lays145_ren := {
  mixed := by kernel_rfl
  f145 := Tryd.func40.trans (congrArg some (by kernel_rfl))
  f217 := Tryd.func91.trans (congrArg some (by kernel_rfl))
  f219 := Tryd.func83.trans (congrArg some (by kernel_rfl))
  f220 := Tryd.func56.trans (congrArg some (by kernel_rfl))
  f224 := Tryd.func93.trans (congrArg some (by kernel_rfl))
  f225 := Tryd.func92.trans (congrArg some (by kernel_rfl))
  f266 := Tryd.func101.trans (congrArg some (by kernel_rfl))
  f267 := Tryd.func94.trans (congrArg some (by kernel_rfl))
  f314 := Tryd.func102.trans (congrArg some (by kernel_rfl))
  t3 := Tryd.underlying3
  a3 := Tryd.isAgg3
  z3 := Tryd.sizeOf3
  v3 := Tryd.zeroValue3
  t4 := Tryd.underlying4
  a4 := Tryd.isAgg4
  z4 := Tryd.sizeOf4
  v4 := Tryd.zeroValue4
  t5 := Tryd.underlying5
  a5 := Tryd.isAgg5
  z5 := Tryd.sizeOf5
  v5 := Tryd.zeroValue5
  t9 := Tryd.underlying9
  a9 := Tryd.isAgg9
  z9 := Tryd.sizeOf9
  v9 := Tryd.zeroValue9
  t46 := Tryd.underlying120
  a46 := Tryd.isAgg120
  z46 := Tryd.sizeOf120
  v46 := Tryd.zeroValue120
  t51 := Tryd.underlying103
  a51 := Tryd.isAgg103
  z51 := Tryd.sizeOf103
  v51 := Tryd.zeroValue103
  t59 := Tryd.underlying82
  a59 := Tryd.isAgg82
  z59 := Tryd.sizeOf82
  v59 := Tryd.zeroValue82
  t146 := Tryd.underlying125
  a146 := Tryd.isAgg125
  z146 := Tryd.sizeOf125
  v146 := Tryd.zeroValue125
  g1 := by kernel_rfl }
open Go.RowKit Go.Lib in
/-- strings.Cut: "Cut slices s around the first instance of sep, returning the text before and after sep. The found result reports whether sep appears in s. If sep does not appear in s, cut returns s, "", false.": IT RETURNS 'Lib.cut s sep'; the world is as it was but for the count of draws. (LAID: no walk: one application.) -/
theorem Tryd.strings_Cut (s sep : ByteArray) (m : Int) (w : World) (hs : s.size < 4294967281) (hm : w.cell? ⟨0, 0, none⟩ = some (.int .i64 m)) :
    Calls Tryd.prog 40 #[.string s, .string sep] w fun e w' => e = .returned (.tuple #[.string ⟨(Lib.cut s.data.toList sep.data.toList).1.toArray⟩, .string ⟨(Lib.cut s.data.toList sep.data.toList).2.1.toArray⟩, .bool (Lib.cut s.data.toList sep.data.toList).2.2]) ∧ ∃ n, w' = w.drewN n := Any.strings_Cut Tryd.lays145 s sep m w hs hm
def Tryd.laysM145_ren : Go.Shelf.Ren := ⟨fun | 145 => 40 | 220 => 56 | 219 => 83 | 217 => 91 | 225 => 92 | 224 => 93 | 267 => 94 | 266 => 101 | 314 => 102 | n => n, fun | 9 => 9 | 4 => 4 | 59 => 82 | 3 => 3 | 5 => 5 | 46 => 120 | 146 => 125 | 51 => 103 | n => n, fun | 1 => 0 | n => n⟩
theorem Tryd.laysM145 : Go.Proofs.LaysM.n145 Tryd.prog Tryd.laysM145_ren := {
  mixed := by kernel_rfl
  f145 := Tryd.func40.trans (congrArg some (by kernel_rfl))
  f217 := Tryd.func91.trans (congrArg some (by kernel_rfl))
  f219 := Tryd.func83.trans (congrArg some (by kernel_rfl))
  f220 := Tryd.func56.trans (congrArg some (by kernel_rfl))
  f224 := Tryd.func93.trans (congrArg some (by kernel_rfl))
  f225 := Tryd.func92.trans (congrArg some (by kernel_rfl))
  f266 := Tryd.func101.trans (congrArg some (by kernel_rfl))
  f267 := Tryd.func94.trans (congrArg some (by kernel_rfl))
  f314 := Tryd.func102.trans (congrArg some (by kernel_rfl))
  t3 := Tryd.underlying3
  a3 := Tryd.isAgg3
  z3 := Tryd.sizeOf3
  v3 := Tryd.zeroValue3
  t4 := Tryd.underlying4
  a4 := Tryd.isAgg4
  z4 := Tryd.sizeOf4
  v4 := Tryd.zeroValue4
  t5 := Tryd.underlying5
  a5 := Tryd.isAgg5
  z5 := Tryd.sizeOf5
  v5 := Tryd.zeroValue5
  t9 := Tryd.underlying9
  a9 := Tryd.isAgg9
  z9 := Tryd.sizeOf9
  v9 := Tryd.zeroValue9
  t46 := Tryd.underlying120
  a46 := Tryd.isAgg120
  z46 := Tryd.sizeOf120
  v46 := Tryd.zeroValue120
  t51 := Tryd.underlying103
  a51 := Tryd.isAgg103
  z51 := Tryd.sizeOf103
  v51 := Tryd.zeroValue103
  t59 := Tryd.underlying82
  a59 := Tryd.isAgg82
  z59 := Tryd.sizeOf82
  v59 := Tryd.zeroValue82
  t146 := Tryd.underlying125
  a146 := Tryd.isAgg125
  z146 := Tryd.sizeOf125
  v146 := Tryd.zeroValue125
  g1 := by kernel_rfl
  i3 := by kernel_rfl
  i4 := by kernel_rfl
  i5 := by kernel_rfl
  i9 := by kernel_rfl
  i46 := by kernel_rfl
  i51 := by kernel_rfl
  i59 := by kernel_rfl
  i146 := by kernel_rfl
  m1 := by kernel_rfl
  s1_3 := fun w h => Go.Proofs.cell_of_shapedOpen_int (zero := #[.int .i64 0]) (t := 3) h (of_decide_eq_true (by kernel_rfl)) (by kernel_rfl) rfl (by kernel_rfl) (by kernel_rfl) Tryd.underlying3 }
def Tryd.lays99_ren : Go.Shelf.Ren := ⟨fun | 99 => 76 | 206 => 55 | n => n, fun | 9 => 9 | 4 => 4 | 3 => 3 | n => n, fun | n => n⟩
theorem Tryd.lays99 : Go.Proofs.Lays.n99 Tryd.prog Tryd.lays99_ren := {
  mixed := by kernel_rfl
  f99 := Tryd.func76.trans (congrArg some (by kernel_rfl))
  f206 := Tryd.func55.trans (congrArg some (by kernel_rfl))
  t3 := Tryd.underlying3
  a3 := Tryd.isAgg3
  z3 := Tryd.sizeOf3
  v3 := Tryd.zeroValue3
  t4 := Tryd.underlying4
  a4 := Tryd.isAgg4
  z4 := Tryd.sizeOf4
  v4 := Tryd.zeroValue4
  t9 := Tryd.underlying9
  a9 := Tryd.isAgg9
  z9 := Tryd.sizeOf9
  v9 := Tryd.zeroValue9 }
open Go.RowKit Go.Lib in
/-- strings.HasPrefix: "HasPrefix reports whether the string s begins with prefix.": IT RETURNS 'Lib.hasPrefix s prefix'; the world is as it was. (LAID: no walk: one application.) -/
theorem Tryd.strings_HasPrefix (s p : ByteArray) (w : World) :
    Calls Tryd.prog 76 #[.string s, .string p] w fun e w' => e = .returned (.bool (Lib.hasPrefix s.data.toList p.data.toList)) ∧ w' = w := Any.strings_HasPrefix Tryd.lays99 s p w
def Tryd.lays100_ren : Go.Shelf.Ren := ⟨fun | 100 => 50 | 207 => 75 | n => n, fun | 9 => 9 | 4 => 4 | 3 => 3 | n => n, fun | n => n⟩
theorem Tryd.lays100 : Go.Proofs.Lays.n100 Tryd.prog Tryd.lays100_ren := {
  mixed := by kernel_rfl
  f100 := Tryd.func50.trans (congrArg some (by kernel_rfl))
  f207 := Tryd.func75.trans (congrArg some (by kernel_rfl))
  t3 := Tryd.underlying3
  a3 := Tryd.isAgg3
  z3 := Tryd.sizeOf3
  v3 := Tryd.zeroValue3
  t4 := Tryd.underlying4
  a4 := Tryd.isAgg4
  z4 := Tryd.sizeOf4
  v4 := Tryd.zeroValue4
  t9 := Tryd.underlying9
  a9 := Tryd.isAgg9
  z9 := Tryd.sizeOf9
  v9 := Tryd.zeroValue9 }
open Go.RowKit Go.Lib in
/-- strings.HasSuffix: "HasSuffix reports whether the string s ends with suffix.": IT RETURNS 'Lib.hasSuffix s suffix'; the world is as it was. ('hs': no Go string is longer: a caller has it of every string that it was handed.) (LAID: no walk: one application.) -/
theorem Tryd.strings_HasSuffix (s p : ByteArray) (w : World) (hs : s.size ≤ 9223372036854775807) :
    Calls Tryd.prog 50 #[.string s, .string p] w fun e w' => e = .returned (.bool (Lib.hasSuffix s.data.toList p.data.toList)) ∧ w' = w := Any.strings_HasSuffix Tryd.lays100 s p w hs
def Tryd.lays101_ren : Go.Shelf.Ren := ⟨fun | 101 => 23 | 208 => 39 | 206 => 55 | n => n, fun | 9 => 9 | 4 => 4 | 3 => 3 | n => n, fun | n => n⟩
theorem Tryd.lays101 : Go.Proofs.Lays.n101 Tryd.prog Tryd.lays101_ren := {
  mixed := by kernel_rfl
  f101 := Tryd.func23.trans (congrArg some (by kernel_rfl))
  f206 := Tryd.func55.trans (congrArg some (by kernel_rfl))
  f208 := Tryd.func39.trans (congrArg some (by kernel_rfl))
  t3 := Tryd.underlying3
  a3 := Tryd.isAgg3
  z3 := Tryd.sizeOf3
  v3 := Tryd.zeroValue3
  t4 := Tryd.underlying4
  a4 := Tryd.isAgg4
  z4 := Tryd.sizeOf4
  v4 := Tryd.zeroValue4
  t9 := Tryd.underlying9
  a9 := Tryd.isAgg9
  z9 := Tryd.sizeOf9
  v9 := Tryd.zeroValue9 }
open Go.RowKit Go.Lib in
/-- strings.TrimPrefix: "TrimPrefix returns s without the provided leading prefix string. If s doesn't start with prefix, s is returned unchanged.": IT RETURNS 'Lib.trimPrefix s prefix'; the world is as it was. (LAID: no walk: one application.) -/
theorem Tryd.strings_TrimPrefix (s p : ByteArray) (w : World) :
    Calls Tryd.prog 23 #[.string s, .string p] w fun e w' => e = .returned (.string ⟨(Lib.trimPrefix s.data.toList p.data.toList).toArray⟩) ∧ w' = w := Any.strings_TrimPrefix Tryd.lays101 s p w
def Tryd.lays146_ren : Go.Shelf.Ren := ⟨fun | 146 => 52 | 221 => 78 | 268 => 89 | 138 => 90 | 143 => 77 | 195 => 99 | 197 => 85 | 218 => 100 | 219 => 83 | 260 => 95 | 217 => 91 | 225 => 92 | 224 => 93 | 267 => 94 | 266 => 101 | 314 => 102 | n => n, fun | 9 => 9 | 31 => 49 | 3 => 3 | 4 => 4 | 0 => 0 | 105 => 118 | 21 => 21 | 5 => 5 | 46 => 120 | 119 => 127 | 139 => 130 | 138 => 129 | 146 => 125 | 51 => 103 | n => n, fun | 1 => 0 | 3 => 1 | 4 => 2 | n => n⟩
theorem Tryd.lays146 : Go.Proofs.Lays.n146 Tryd.prog Tryd.lays146_ren := {
  mixed := by kernel_rfl
  f138 := Tryd.func90.trans (congrArg some (by kernel_rfl))
  f143 := Tryd.func77.trans (congrArg some (by kernel_rfl))
  f146 := Tryd.func52.trans (congrArg some (by kernel_rfl))
  f195 := Tryd.func99.trans (congrArg some (by kernel_rfl))
  f197 := Tryd.func85.trans (congrArg some (by kernel_rfl))
  f217 := Tryd.func91.trans (congrArg some (by kernel_rfl))
  f218 := Tryd.func100.trans (congrArg some (by kernel_rfl))
  f219 := Tryd.func83.trans (congrArg some (by kernel_rfl))
  f221 := Tryd.func78.trans (congrArg some (by kernel_rfl))
  f224 := Tryd.func93.trans (congrArg some (by kernel_rfl))
  f225 := Tryd.func92.trans (congrArg some (by kernel_rfl))
  f260 := Tryd.func95.trans (congrArg some (by kernel_rfl))
  f266 := Tryd.func101.trans (congrArg some (by kernel_rfl))
  f267 := Tryd.func94.trans (congrArg some (by kernel_rfl))
  f268 := Tryd.func89.trans (congrArg some (by kernel_rfl))
  f314 := Tryd.func102.trans (congrArg some (by kernel_rfl))
  t0 := Tryd.underlying0
  a0 := Tryd.isAgg0
  z0 := Tryd.sizeOf0
  v0 := Tryd.zeroValue0
  t3 := Tryd.underlying3
  a3 := Tryd.isAgg3
  z3 := Tryd.sizeOf3
  v3 := Tryd.zeroValue3
  t4 := Tryd.underlying4
  a4 := Tryd.isAgg4
  z4 := Tryd.sizeOf4
  v4 := Tryd.zeroValue4
  t5 := Tryd.underlying5
  a5 := Tryd.isAgg5
  z5 := Tryd.sizeOf5
  v5 := Tryd.zeroValue5
  t9 := Tryd.underlying9
  a9 := Tryd.isAgg9
  z9 := Tryd.sizeOf9
  v9 := Tryd.zeroValue9
  t21 := Tryd.underlying21
  a21 := Tryd.isAgg21
  z21 := Tryd.sizeOf21
  v21 := Tryd.zeroValue21
  t31 := Tryd.underlying49
  a31 := Tryd.isAgg49
  z31 := Tryd.sizeOf49
  v31 := Tryd.zeroValue49
  t46 := Tryd.underlying120
  a46 := Tryd.isAgg120
  z46 := Tryd.sizeOf120
  v46 := Tryd.zeroValue120
  t51 := Tryd.underlying103
  a51 := Tryd.isAgg103
  z51 := Tryd.sizeOf103
  v51 := Tryd.zeroValue103
  t105 := Tryd.underlying118
  a105 := Tryd.isAgg118
  z105 := Tryd.sizeOf118
  v105 := Tryd.zeroValue118
  t119 := Tryd.underlying127
  a119 := Tryd.isAgg127
  z119 := Tryd.sizeOf127
  t138 := Tryd.underlying129
  a138 := Tryd.isAgg129
  z138 := Tryd.sizeOf129
  v138 := Tryd.zeroValue129
  t139 := Tryd.underlying130
  a139 := Tryd.isAgg130
  z139 := Tryd.sizeOf130
  v139 := Tryd.zeroValue130
  t146 := Tryd.underlying125
  a146 := Tryd.isAgg125
  z146 := Tryd.sizeOf125
  v146 := Tryd.zeroValue125
  g1 := by kernel_rfl
  g3 := by kernel_rfl
  g4 := by kernel_rfl }
open Go.RowKit Go.Lib in
/-- strings.Split. (LAID: no walk: one application.) -/
theorem Tryd.strings_Split (s sep : ByteArray) (m : Int) (w : World) (hs : s.size < 4294967281) (hm : w.cell? ⟨0, 0, none⟩ = some (.int .i64 m)) (h1 : 1 ≤ sep.size) :
    Calls Tryd.prog 52 #[.string s, .string sep] w fun e w' =>
      e = .returned (.slice (some ⟨w.heap.size, 0, none⟩) (Lib.countB s sep + 1) (Lib.countB s sep + 1)) ∧ w' = w.alloc (.cells ((Lib.splitB sep 0 (Lib.countB s sep) s).map Value.string).toArray 9) := Any.strings_Split Tryd.lays146 (by kernel_rfl) s sep m w hs hm h1
def Tryd.lays151_ren : Go.Shelf.Ren := ⟨fun | 151 => 72 | 152 => 88 | 137 => 97 | 119 => 98 | 224 => 93 | 225 => 92 | 217 => 91 | 266 => 101 | n => n, fun | 9 => 9 | 21 => 21 | 4 => 4 | 3 => 3 | 5 => 5 | 0 => 0 | 46 => 120 | n => n, fun | n => n⟩
theorem Tryd.lays151 : Go.Proofs.Lays.n151 Tryd.prog Tryd.lays151_ren := {
  mixed := by kernel_rfl
  f119 := Tryd.func98.trans (congrArg some (by kernel_rfl))
  f137 := Tryd.func97.trans (congrArg some (by kernel_rfl))
  f151 := Tryd.func72.trans (congrArg some (by kernel_rfl))
  f152 := Tryd.func88.trans (congrArg some (by kernel_rfl))
  f217 := Tryd.func91.trans (congrArg some (by kernel_rfl))
  f224 := Tryd.func93.trans (congrArg some (by kernel_rfl))
  f225 := Tryd.func92.trans (congrArg some (by kernel_rfl))
  f266 := Tryd.func101.trans (congrArg some (by kernel_rfl))
  t0 := Tryd.underlying0
  a0 := Tryd.isAgg0
  z0 := Tryd.sizeOf0
  v0 := Tryd.zeroValue0
  t3 := Tryd.underlying3
  a3 := Tryd.isAgg3
  z3 := Tryd.sizeOf3
  v3 := Tryd.zeroValue3
  t4 := Tryd.underlying4
  a4 := Tryd.isAgg4
  z4 := Tryd.sizeOf4
  v4 := Tryd.zeroValue4
  t5 := Tryd.underlying5
  a5 := Tryd.isAgg5
  z5 := Tryd.sizeOf5
  v5 := Tryd.zeroValue5
  t9 := Tryd.underlying9
  a9 := Tryd.isAgg9
  z9 := Tryd.sizeOf9
  v9 := Tryd.zeroValue9
  t21 := Tryd.underlying21
  a21 := Tryd.isAgg21
  z21 := Tryd.sizeOf21
  v21 := Tryd.zeroValue21
  t46 := Tryd.underlying120
  a46 := Tryd.isAgg120
  z46 := Tryd.sizeOf120
  v46 := Tryd.zeroValue120 }
open Go.RowKit Go.Lib in
theorem Tryd.strings_ContainsRune_ascii (s : ByteArray) (r : Int) (w : World) (h0 : 0 ≤ r) (h1 : r < 128) :
    Calls Tryd.prog 72 #[.string s, .int .i32 r] w fun e w' => e = .returned (.bool (decide (0 ≤ Lib.indexByte s.data.toList r.toNat.toUInt8))) ∧ w' = w := Any.strings_ContainsRune_ascii Tryd.lays151 s r w h0 h1
def Tryd.lays229_ren : Go.Shelf.Ren := ⟨fun | 229 => 24 | n => n, fun | 9 => 9 | 40 => 51 | 31 => 49 | 152 => 79 | 3 => 3 | 0 => 0 | 4 => 4 | 21 => 21 | 154 => 81 | n => n, fun | n => n⟩
theorem Tryd.lays229 : Go.Proofs.Lays.n229 Tryd.prog Tryd.lays229_ren := {
  mixed := by kernel_rfl
  f229 := Tryd.func24.trans (congrArg some (by kernel_rfl))
  t0 := Tryd.underlying0
  a0 := Tryd.isAgg0
  z0 := Tryd.sizeOf0
  v0 := Tryd.zeroValue0
  t3 := Tryd.underlying3
  a3 := Tryd.isAgg3
  z3 := Tryd.sizeOf3
  v3 := Tryd.zeroValue3
  t4 := Tryd.underlying4
  a4 := Tryd.isAgg4
  z4 := Tryd.sizeOf4
  v4 := Tryd.zeroValue4
  t9 := Tryd.underlying9
  a9 := Tryd.isAgg9
  z9 := Tryd.sizeOf9
  v9 := Tryd.zeroValue9
  t21 := Tryd.underlying21
  a21 := Tryd.isAgg21
  z21 := Tryd.sizeOf21
  v21 := Tryd.zeroValue21
  t31 := Tryd.underlying49
  a31 := Tryd.isAgg49
  z31 := Tryd.sizeOf49
  v31 := Tryd.zeroValue49
  t40 := Tryd.underlying51
  a40 := Tryd.isAgg51
  z40 := Tryd.sizeOf51
  v40 := Tryd.zeroValue51
  t152 := Tryd.underlying79
  a152 := Tryd.isAgg79
  z152 := Tryd.sizeOf79
  v152 := Tryd.zeroValue79
  t154 := Tryd.underlying81
  a154 := Tryd.isAgg81
  z154 := Tryd.sizeOf81
  v154 := Tryd.zeroValue81 }
open Go.RowKit Go.Lib in
theorem Tryd.strings_FieldsFunc_runes (g : Nat) (lb : Array Value) (eg : ∀ args w, (callFunc g args).run Tryd.prog w = .ok (.enter g args) w) (p : Nat → Bool) (s : ByteArray) (w : World) (hs : s.size ≤ 4294967296) (hp : PredAtRunes Tryd.prog g lb p w) :
    Calls Tryd.prog 24 #[.string s, .func (.func g) #[] lb] w fun e w' => ∃ A, e = .returned (.slice (some ⟨A, 0, none⟩) (Lib.goFieldsP p s).length (Lib.goFieldsP p s).length) ∧ w.heap.size ≤ A ∧
      w'.ownsRow w.heap.size 9 1 (.slice (some ⟨A, 0, none⟩) (Lib.goFieldsP p s).length (Lib.goFieldsP p s).length) (Lib.goFieldsP p s).length ((Lib.goFieldsP p s).map Value.string) ∧ Below w.heap.size w w' := Any.strings_FieldsFunc_runes Tryd.lays229 g lb eg p s w hs hp (by kernel_rfl) (by kernel_rfl)
end Go.Proofs
namespace Go.Proofs.YtdnaddignhjihaaDoor.Given
open Go.RowKit
set_option linter.unusedVariables false
/-- Block b's cells begin with the bytes l; the mark stands behind them. -/
def Bts (w : World) (b : Nat) (l : List UInt8) : Prop :=
  ∃ cs : Array Value, w.heap[b]? = some (.cells cs 5 (cs.size, cs.size + 1)) ∧ l.length ≤ cs.size ∧ ∀ j (h : j < l.length), cs[j]? = some (.int .u8 ((l[j]).toNat : Int))
theorem Bts.of (w : World) (s : ByteArray) : Bts (Lib.bytesWorld w 5 s) w.heap.size s.data.toList := by
  refine ⟨_, Lib.bytesWorld_at_new w 5 s, by simp [Lib.bytesCells], ?_⟩
  intro j h
  have h' : j < s.size := by simpa using h
  simp [Lib.bytesCells, Array.getElem?_append, h']
theorem Bts.cell {w : World} {b : Nat} {l : List UInt8} (h : Bts w b l) (j : Nat) (hj : j < l.length) : w.cell? ⟨b, j, none⟩ = some (.int .u8 ((l[j]).toNat : Int)) := by
  obtain ⟨cs, h1, h2, h3⟩ := h
  simp only [World.cell?, h1]
  simpa using h3 j hj
theorem Bts.frozen {w : World} {b : Nat} {l : List UInt8} (h : Bts w b l) (j : Nat) (hj : j < l.length) : w.frozen? ⟨b, j, none⟩ = false := by
  obtain ⟨cs, h1, h2, h3⟩ := h
  simp only [World.frozen?, h1]
  rw [Bool.and_eq_false_iff]
  left
  simp
  omega
theorem Bts.set {w : World} {b : Nat} {l : List UInt8} (h : Bts w b l) (j : Nat) (hj : j < l.length) (c : UInt8) : Bts (w.setCell ⟨b, j, none⟩ (.int .u8 (c.toNat : Int))) b (l.set j c) := by
  obtain ⟨cs, h1, h2, h3⟩ := h
  refine ⟨cs.setIfInBounds j (.int .u8 (c.toNat : Int)), ?_, by simpa using h2, ?_⟩
  · simp [World.setCell, Array.getElem?_modify, h1]
  · intro i hi
    have hi' : i < l.length := by simpa using hi
    rw [Array.getElem?_setIfInBounds]
    by_cases e : j = i
    · subst e
      rw [if_pos rfl, if_pos (by omega)]
      simp
    · rw [if_neg e, h3 i hi']
      simp [e]
theorem Bts.below (w : World) (s : ByteArray) : Below w.heap.size w (Lib.bytesWorld w 5 s) :=
  ⟨by simp [Lib.bytesWorld, World.freeze, World.alloc, World.drew, -World.alloc_eq, -World.drew_eq], by simp [Lib.bytesWorld, World.freeze, World.alloc, World.drew, -World.alloc_eq, -World.drew_eq], by simp [Lib.bytesWorld, World.freeze, World.alloc, World.drew, -World.alloc_eq, -World.drew_eq],
    by rw [Lib.bytesWorld_size]; omega, fun k hk => Lib.bytesWorld_at_old w 5 s k hk⟩
/-- A byte in small letters. -/
def lowB (c : UInt8) : UInt8 := if 65 ≤ c.toNat ∧ c.toNat ≤ 90 then UInt8.ofNat (c.toNat + 32) else c
def lowL (l : List UInt8) : List UInt8 := l.map lowB
theorem low_next (s : List UInt8) (i : Nat) (h : i < s.length) : ((s.take i).map lowB ++ s.drop i).set i (lowB s[i]) = (s.take (i + 1)).map lowB ++ s.drop (i + 1) := by
  rw [List.set_append_right _ _ (by simp; omega)]
  rw [List.drop_eq_getElem_cons h, List.take_add_one, List.getElem?_eq_getElem h]
  have e : i - (List.map lowB (List.take i s)).length = 0 := by simp; omega
  rw [e, List.set_cons_zero]
  simp only [Option.toList_some, List.map_append, List.map_cons, List.map_nil, List.append_assoc, List.singleton_append]
theorem low_at (s : List UInt8) (i : Nat) (h : i < s.length) (h2 : i < ((s.take i).map lowB ++ s.drop i).length) : ((s.take i).map lowB ++ s.drop i)[i]'h2 = s[i] := by
  rw [List.getElem_append_right (by simp; omega)]
  have e : i - (List.map lowB (List.take i s)).length = 0 := by simp; omega
  simp only [e]
  rw [List.getElem_drop]
  rfl
theorem low_skip (s : List UInt8) (i : Nat) (h : i < s.length) (hl : lowB s[i] = s[i]) : (s.take i).map lowB ++ s.drop i = (s.take (i + 1)).map lowB ++ s.drop (i + 1) := by
  rw [← low_next s i h, hl]
  have := low_at s i h (by simp; omega)
  conv => rhs; rw [← this]
  rw [List.set_getElem_self]
theorem low_len (s : List UInt8) (i : Nat) : ((s.take i).map lowB ++ s.drop i).length = s.length := by simp; omega
end Go.Proofs.YtdnaddignhjihaaDoor.Given
namespace Go.Proofs.YtdnaddignhjihaaDoor.Given
open Go.RowKit
set_option linter.unusedVariables false
theorem wrap_low (c : UInt8) (h : 65 ≤ c.toNat ∧ c.toNat ≤ 90) : IntKind.u8.wrap ((c.toNat : Int) + 32) = ((lowB c).toNat : Int) := by
  unfold lowB
  rw [if_pos h]
  have : (UInt8.ofNat (c.toNat + 32)).toNat = c.toNat + 32 := by simp; omega
  rw [this]
  simp [IntKind.wrap, IntKind.signed, IntKind.bits]
  omega
theorem low_not (c : UInt8) (h : ¬ (65 ≤ c.toNat ∧ c.toNat ≤ 90)) : lowB c = c := by unfold lowB; rw [if_neg h]
theorem low_back (w wr : World) (b cap n : Nat) (l : List UInt8) (h : Bts wr b l) (hn : l.length = n) :
    (convert 55 9 (.slice (some ⟨b, 0, none⟩) n cap)).run Tryd.prog wr = .ok (.string ⟨l.toArray⟩) wr := by
  subst hn
  exact Go.run_convert_bytes_back wr 55 9 5 ⟨b, 0, none⟩ cap l Tryd.underlying55 Tryd.underlying5 Tryd.underlying9 (fun j hj => by
    have e : (⟨b, 0, none⟩ : Addr).add j = ⟨b, j, none⟩ := by unfold Addr.add; split <;> simp_all
    rw [e]
    exact h.cell j hj)

set_option maxHeartbeats 4000000 in
set_option maxRecDepth 1000000 in
theorem lower_calls (s : ByteArray) (w : World) (hs : s.size ≤ 140737488351232) :
    Calls Tryd.prog 41 #[.string s] w fun e w' => e = .returned (.string ⟨(lowL s.data.toList).toArray⟩) ∧ Below w.heap.size w w' := by
  have hconv := Lib.run_convert_string_bytes w 9 55 5 s Tryd.underlying9 Tryd.underlying55 Tryd.underlying5
  have hB : Hid (Bts (Lib.bytesWorld w 5 s) w.heap.size s.data.toList) := Bts.of w s
  have hb : Hid (Below w.heap.size w (Lib.bytesWorld w 5 s)) := Bts.below w s
  have hsl : Hid (s.data.toList.length = s.size) := by show _ = _; simp
  generalize Lib.bytesWorld w 5 s = w1 at hconv hB hb
  generalize grownCap w s.size 0 5 = cap at hconv
  go_enter Tryd.func41, Tryd.ntmps41
  go_wp2
  clear hconv
  go_loopw [10] (fun v wr => ∃ i : Nat, i ≤ s.size ∧ v = .int .i64 i ∧ Hid (Bts wr w.heap.size ((s.data.toList.take i).map lowB ++ s.data.toList.drop i)) ∧ Hid (Below w.heap.size w wr)) (fun v wr => s.size - (intOf v).toNat)
  case atStart =>
    refine ⟨0, by omega, rfl, ?_, hb⟩
    have e : (s.data.toList.take 0).map lowB ++ s.data.toList.drop 0 = s.data.toList := by simp
    rw [e]; exact hB
  case round =>
    clear hB hb
    obtain ⟨i, hi, rfl, hB, hb⟩ := hrel
    have hll := low_len s.data.toList i
    by_cases hlt : i < s.size
    · have hlt' : ((i : Int) < (s.size : Int)) = True := eq_true (by omega)
      have hil : i < s.data.toList.length := by rw [hsl.out]; exact hlt
      have hcell := hB.out.cell i (by rw [hll]; exact hil)
      rw [low_at s.data.toList i hil] at hcell
      have hfr := hB.out.frozen i (by rw [hll]; exact hil)
      have hset := hB.out.set i (by rw [hll]; exact hil) (lowB s.data.toList[i])
      rw [low_next s.data.toList i hil] at hset
      have hskip := low_skip s.data.toList i hil
      have hwl := wrap_low s.data.toList[i]
      have hln := low_not s.data.toList[i]
      generalize s.data.toList[i] = c at hcell hset hskip hwl hln
      have hset : Hid _ := hset
      clear hll
      by_cases hc : 65 ≤ c.toNat ∧ c.toNat ≤ 90
      · have hw2 := hwl hc
        have h1 : (65 ≤ (c.toNat : Int)) = True := eq_true (by omega)
        have h2 : ((c.toNat : Int) ≤ 90) = True := eq_true (by omega)
        clear hwl hln hskip hc hil
        go_wp2
        go_roundw
        case rel =>
          refine ⟨i + 1, by omega, by go_num, hset, ?_⟩
          exact Below.setCell hb.out (p := ⟨w.heap.size, i, none⟩) (Nat.le_refl _) _
        case measure => simp [intOf]; omega
      · have hl2 := hskip (hln hc)
        have hB2 : Hid _ := (hl2 ▸ hB.out : Bts wr w.heap.size ((s.data.toList.take (i + 1)).map lowB ++ s.data.toList.drop (i + 1)))
        clear hwl hln hskip hil hset hl2 hB
        have key : ((65 ≤ (c.toNat : Int)) = True ∧ ((c.toNat : Int) ≤ 90) = False) ∨ (65 ≤ (c.toNat : Int)) = False := by
          by_cases h : 65 ≤ c.toNat
          · exact .inl ⟨eq_true (by omega), eq_false (by omega)⟩
          · exact .inr (eq_false (by omega))
        clear hc
        rcases key with ⟨h1, h2⟩ | h1
        · go_wp2
          go_roundw
          case rel => exact ⟨i + 1, by omega, by go_num, hB2, hb⟩
          case measure => simp [intOf]; omega
        · go_wp2
          go_roundw
          case rel => exact ⟨i + 1, by omega, by go_num, hB2, hb⟩
          case measure => simp [intOf]; omega
    · have hlt' : ((i : Int) < (s.size : Int)) = False := eq_false (by omega)
      obtain rfl : i = s.size := by omega
      have hB2 : Bts wr w.heap.size (lowL s.data.toList) := by
        have := hB.out
        rw [List.take_of_length_le (Nat.le_of_eq hsl.out), List.drop_of_length_le (Nat.le_of_eq hsl.out), List.append_nil] at this
        exact this
      have hback := low_back w wr w.heap.size cap s.size (lowL s.data.toList) hB2 (by rw [lowL, List.length_map]; exact hsl.out)
      clear hB hB2
      go_wp2
      go_ret
      exact ⟨rfl, hb.out⟩
set_option maxHeartbeats 4000000 in
set_option maxRecDepth 1000000 in
theorem Lower_calls (s : ByteArray) (w : World) (hs : s.size ≤ 140737488351232) :
    Calls Tryd.prog 29 #[.string s] w fun e w' => e = .returned (.string ⟨(lowL s.data.toList).toArray⟩) ∧ Below w.heap.size w w' := by
  have hconv := Lib.run_convert_string_bytes w 9 55 5 s Tryd.underlying9 Tryd.underlying55 Tryd.underlying5
  have hB : Hid (Bts (Lib.bytesWorld w 5 s) w.heap.size s.data.toList) := Bts.of w s
  have hb : Hid (Below w.heap.size w (Lib.bytesWorld w 5 s)) := Bts.below w s
  have hsl : Hid (s.data.toList.length = s.size) := by show _ = _; simp
  generalize Lib.bytesWorld w 5 s = w1 at hconv hB hb
  generalize grownCap w s.size 0 5 = cap at hconv
  go_enter Tryd.func29, Tryd.ntmps29
  go_wp2
  clear hconv
  go_loopw [4] (fun v wr => ∃ i : Nat, i ≤ s.size ∧ v = .int .i64 i ∧ Hid (Bts wr w.heap.size ((s.data.toList.take i).map lowB ++ s.data.toList.drop i)) ∧ Hid (Below w.heap.size w wr)) (fun v wr => s.size - (intOf v).toNat)
  case atStart =>
    refine ⟨0, by omega, rfl, ?_, hb⟩
    have e : (s.data.toList.take 0).map lowB ++ s.data.toList.drop 0 = s.data.toList := by simp
    rw [e]; exact hB
  case round =>
    clear hB hb
    obtain ⟨i, hi, rfl, hB, hb⟩ := hrel
    have hll := low_len s.data.toList i
    by_cases hlt : i < s.size
    · have hlt' : ((i : Int) < (s.size : Int)) = True := eq_true (by omega)
      have hil : i < s.data.toList.length := by rw [hsl.out]; exact hlt
      have hcell := hB.out.cell i (by rw [hll]; exact hil)
      rw [low_at s.data.toList i hil] at hcell
      have hfr := hB.out.frozen i (by rw [hll]; exact hil)
      have hset := hB.out.set i (by rw [hll]; exact hil) (lowB s.data.toList[i])
      rw [low_next s.data.toList i hil] at hset
      have hskip := low_skip s.data.toList i hil
      have hwl := wrap_low s.data.toList[i]
      have hln := low_not s.data.toList[i]
      generalize s.data.toList[i] = c at hcell hset hskip hwl hln
      have hset : Hid _ := hset
      clear hll
      by_cases hc : 65 ≤ c.toNat ∧ c.toNat ≤ 90
      · have hw2 := hwl hc
        have h1 : (65 ≤ (c.toNat : Int)) = True := eq_true (by omega)
        have h2 : ((c.toNat : Int) ≤ 90) = True := eq_true (by omega)
        clear hwl hln hskip hc hil
        go_wp2
        go_roundw
        case rel =>
          refine ⟨i + 1, by omega, by go_num, hset, ?_⟩
          exact Below.setCell hb.out (p := ⟨w.heap.size, i, none⟩) (Nat.le_refl _) _
        case measure => simp [intOf]; omega
      · have hl2 := hskip (hln hc)
        have hB2 : Hid _ := (hl2 ▸ hB.out : Bts wr w.heap.size ((s.data.toList.take (i + 1)).map lowB ++ s.data.toList.drop (i + 1)))
        clear hwl hln hskip hil hset hl2 hB
        have key : ((65 ≤ (c.toNat : Int)) = True ∧ ((c.toNat : Int) ≤ 90) = False) ∨ (65 ≤ (c.toNat : Int)) = False := by
          by_cases h : 65 ≤ c.toNat
          · exact .inl ⟨eq_true (by omega), eq_false (by omega)⟩
          · exact .inr (eq_false (by omega))
        clear hc
        rcases key with ⟨h1, h2⟩ | h1
        · go_wp2
          go_roundw
          case rel => exact ⟨i + 1, by omega, by go_num, hB2, hb⟩
          case measure => simp [intOf]; omega
        · go_wp2
          go_roundw
          case rel => exact ⟨i + 1, by omega, by go_num, hB2, hb⟩
          case measure => simp [intOf]; omega
    · have hlt' : ((i : Int) < (s.size : Int)) = False := eq_false (by omega)
      obtain rfl : i = s.size := by omega
      have hB2 : Bts wr w.heap.size (lowL s.data.toList) := by
        have := hB.out
        rw [List.take_of_length_le (Nat.le_of_eq hsl.out), List.drop_of_length_le (Nat.le_of_eq hsl.out), List.append_nil] at this
        exact this
      have hback := low_back w wr w.heap.size cap s.size (lowL s.data.toList) hB2 (by rw [lowL, List.length_map]; exact hsl.out)
      clear hB hB2
      go_wp2
      go_ret
      exact ⟨rfl, hb.out⟩
end Go.Proofs.YtdnaddignhjihaaDoor.Given
namespace Go.Proofs.YtdnaddignhjihaaDoor.Given
open Go.RowKit Go.Proofs.YtdnaddignhjihaaDoorW.PrintWords
set_option linter.unusedVariables false
/-- The package variable that Index reads. -/
def Shp (w : World) : Prop := ∃ m : Int, w.cell? ⟨0, 0, none⟩ = some (.int .i64 m)
theorem Shp.lt {w : World} (h : Shp w) : 0 < w.heap.size := by
  obtain ⟨m, hm⟩ := h
  apply Decidable.byContradiction
  intro hh
  simp only [World.cell?] at hm
  rw [Array.getElem?_eq_none (by omega)] at hm
  cases hm
theorem Shp.below {w w' : World} (h : Shp w) (hb : Below w.heap.size w w') : Shp w' := by
  have h0 := h.lt
  obtain ⟨m, hm⟩ := h
  exact ⟨m, (hb.cell (p := ⟨0, 0, none⟩) h0).trans hm⟩

theorem empty_bne (l : List UInt8) : l.isEmpty = !(l != []) := by cases l <;> rfl
def strings_Cut.f (a0 a1 : ByteArray) : Option (ByteArray × ByteArray × Bool) :=
  if a0.size < 4294967281 then some (⟨(Lib.cut a0.data.toList a1.data.toList).1.toArray⟩, ⟨(Lib.cut a0.data.toList a1.data.toList).2.1.toArray⟩, (Lib.cut a0.data.toList a1.data.toList).2.2) else none
theorem strings_Cut.calls (a0 a1 : ByteArray) (r1 r2 : ByteArray) (r3 : Bool) (w : World) (h : strings_Cut.f a0 a1 = some (r1, r2, r3)) (hS_ : Shp w) :
    Calls Tryd.prog 40 #[.string a0, .string a1] w fun e w' => e = .returned (.tuple #[.string r1, .string r2, .bool r3]) ∧ Drawn0 w w' := by
  obtain ⟨m, hm⟩ := hS_
  unfold strings_Cut.f at h
  split at h
  · rename_i hc
    obtain ⟨rfl, h2⟩ := Prod.mk.inj (Option.some.inj h)
    obtain ⟨rfl, rfl⟩ := Prod.mk.inj h2
    exact (Tryd.strings_Cut a0 a1 m w hc hm).mono fun e w' ⟨h1, h2⟩ => ⟨h1, ⟨h2⟩⟩
  · cases h

def strings_Trim.f (a0 a1 : ByteArray) : Option ByteArray :=
  if a0.size ≤ 140737488351232 ∧ a1.size < 1000 ∧ (a1.data.toList.all fun b => decide (b.toNat < 128)) = true then some ⟨(Lib.trimS a0.data.toList a1.data.toList).toArray⟩ else none
theorem strings_Trim.calls (a0 a1 : ByteArray) (r : ByteArray) (w : World) (h : strings_Trim.f a0 a1 = some r) :
    Calls Tryd.prog 42 #[.string a0, .string a1] w fun e w' => e = .returned (.string r) ∧ Below w.heap.size w w' := by
  unfold strings_Trim.f at h
  split at h
  · rename_i hc
    obtain rfl := Option.some.inj h
    refine Any.strings_Trim_laid Tryd.lays160 (by kernel_rfl) a0 a1 w (by omega) (by omega) ?_
    intro j b hj
    have := List.all_eq_true.mp hc.2.2 b (List.mem_of_getElem? hj)
    simpa using this
  · cases h

def strings_TrimPrefix.f (a0 a1 : ByteArray) : Option ByteArray := some ⟨(Lib.trimPrefix a0.data.toList a1.data.toList).toArray⟩
theorem strings_TrimPrefix.calls (a0 a1 : ByteArray) (r : ByteArray) (w : World) (h : strings_TrimPrefix.f a0 a1 = some r) :
    Calls Tryd.prog 23 #[.string a0, .string a1] w fun e w' => e = .returned (.string r) ∧ Drawn0 w w' := by
  obtain rfl := Option.some.inj h
  exact (Tryd.strings_TrimPrefix a0 a1 w).mono fun e w' ⟨h1, h2⟩ => ⟨h1, h2 ▸ Drawn0.refl w⟩

def lines_lower.f (a0 : ByteArray) : Option ByteArray := if a0.size ≤ 140737488351232 then some ⟨(lowL a0.data.toList).toArray⟩ else none
theorem lines_lower.calls (a0 : ByteArray) (r : ByteArray) (w : World) (h : lines_lower.f a0 = some r) :
    Calls Tryd.prog 41 #[.string a0] w fun e w' => e = .returned (.string r) ∧ Below w.heap.size w w' := by
  unfold lines_lower.f at h
  split at h
  · rename_i hc
    obtain rfl := Option.some.inj h
    exact lower_calls a0 w hc
  · cases h
def decorumref09_Lower.f (a0 : ByteArray) : Option ByteArray := if a0.size ≤ 140737488351232 then some ⟨(lowL a0.data.toList).toArray⟩ else none
theorem decorumref09_Lower.calls (a0 : ByteArray) (r : ByteArray) (w : World) (h : decorumref09_Lower.f a0 = some r) :
    Calls Tryd.prog 29 #[.string a0] w fun e w' => e = .returned (.string r) ∧ Below w.heap.size w w' := by
  unfold decorumref09_Lower.f at h
  split at h
  · rename_i hc
    obtain rfl := Option.some.inj h
    exact Lower_calls a0 w hc
  · cases h
end Go.Proofs.YtdnaddignhjihaaDoor.Given
namespace Go.Proofs.YtdnaddignhjihaaDoor.Given
open Go.RowKit Go.Proofs.YtdnaddignhjihaaDoorW.PrintWords
set_option linter.unusedVariables false
theorem Hid.mk_ {p : Prop} (h : p) : Hid p := h
def digB (c : UInt8) : Bool := decide (48 ≤ c.toNat) && decide (c.toNat ≤ 57)
def stepV (n : Nat) (c : UInt8) : Nat := 10 * n + (c.toNat - 48)
def numV (n : Nat) (l : List UInt8) : Nat := l.foldl stepV n
theorem numV_nil (n : Nat) : numV n [] = n := by unfold numV; rw [List.foldl_nil]
theorem numV_cons (n : Nat) (c : UInt8) (t : List UInt8) : numV n (c :: t) = numV (stepV n c) t := by unfold numV; rw [List.foldl_cons]
theorem stepV_eq (n : Nat) (c : UInt8) : stepV n c = 10 * n + (c.toNat - 48) := by unfold stepV; exact Eq.refl _
/-- Milliseconds of a text, in its parts. -/
def delayP (a b : List UInt8) (d : Bool) : Nat × Bool :=
  if (a ++ b).isEmpty || decide (9 < a.length) || (d && b.isEmpty) then (0, false) else if (a ++ b).all digB then (numV 0 (a ++ (b ++ [48, 48, 48]).take 3), true) else (0, false)
def delayV (l : List UInt8) : Nat × Bool := delayP (Lib.cut l [46]).1 (Lib.cut l [46]).2.1 (Lib.cut l [46]).2.2

theorem numV_snoc (n : Nat) (l : List UInt8) (c : UInt8) : numV n (l ++ [c]) = 10 * numV n l + (c.toNat - 48) := by
  unfold numV
  rw [List.foldl_append, List.foldl_cons, List.foldl_nil, stepV_eq]
theorem numV_lt1 (l : List UInt8) (h : ∀ c ∈ l, digB c = true) : ∀ n, numV n l < (n + 1) * 10 ^ l.length := by
  induction l with
  | nil => intro n; rw [numV_nil]; simp
  | cons c t ih =>
    intro n
    have h1 := ih (fun d hd => h d (List.mem_cons_of_mem _ hd)) (stepV n c)
    have h2 : c.toNat ≤ 57 := by have := h c (List.mem_cons_self ..); simp [digB] at this; exact this.2
    rw [numV_cons, List.length_cons, Nat.pow_succ]
    refine Nat.lt_of_lt_of_le h1 ?_
    rw [stepV_eq]
    rw [Nat.mul_comm (10 ^ t.length) 10, ← Nat.mul_assoc]
    exact Nat.mul_le_mul_right _ (by omega)
theorem numV_lt (l : List UInt8) (h : ∀ c ∈ l, digB c = true) (m : Nat) (hl : l.length ≤ m) : numV 0 l < 10 ^ m := by
  have := numV_lt1 l h 0
  rw [Nat.zero_add, Nat.one_mul] at this
  exact Nat.lt_of_lt_of_le this (Nat.pow_le_pow_right (by decide) hl)
theorem cut_room (l sep : List UInt8) : (Lib.cut l sep).1.length + (Lib.cut l sep).2.1.length ≤ l.length := by
  unfold Lib.cut
  split
  · simp; omega
  · simp

set_option maxHeartbeats 4000000 in
set_option maxRecDepth 1000000 in
theorem delay_calls (s : ByteArray) (w : World) (hs : s.size < 4294967281) (hS : Shp w) :
    Calls Tryd.prog 47 #[.string s] w fun e w' => e = .returned (.tuple #[.int .i64 ((delayV s.data.toList).1 : Int), .bool (delayV s.data.toList).2]) ∧ Below w.heap.size w w' := by
  have hroom := cut_room s.data.toList [46]
  have HC : Aside0 (strings_Cut.f s ⟨#[46]⟩ = some (⟨(Lib.cut s.data.toList [46]).1.toArray⟩, ⟨(Lib.cut s.data.toList [46]).2.1.toArray⟩, (Lib.cut s.data.toList [46]).2.2)) := ⟨by
    rw [strings_Cut.f, if_pos hs]⟩
  have HS := Aside0.mk hS
  clear hS
  unfold delayV
  generalize (Lib.cut s.data.toList [46]).1 = a at *
  generalize (Lib.cut s.data.toList [46]).2.1 = b at *
  generalize (Lib.cut s.data.toList [46]).2.2 = d at *
  have hA : ∃ A : ByteArray, A = ⟨a.toArray⟩ := ⟨_, rfl⟩
  have hB : ∃ B : ByteArray, B = ⟨b.toArray⟩ := ⟨_, rfl⟩
  obtain ⟨A, hA⟩ := hA
  obtain ⟨B, hB⟩ := hB
  rw [← hA, ← hB] at HC
  have ha : a = A.data.toList := by rw [hA]
  have hb : b = B.data.toList := by rw [hB]
  subst ha hb
  clear hA hB
  have hsum : (9223372036854775807 < A.size + B.size) = False := eq_false (by simp at hroom; omega)
  have hsl : A.data.toList.length = A.size ∧ B.data.toList.length = B.size := by simp
  have hnil : ((A ++ B).toList = []) = ((A.data.toList ++ B.data.toList) = []) := by rw [Lib.toList_data]; simp
  have hemp : (A ++ B).toList.isEmpty = (A.data.toList ++ B.data.toList).isEmpty := by rw [Lib.toList_data]; simp
  have hbm : B.toList.isEmpty = B.data.toList.isEmpty := by rw [Lib.toList_data]
  have hin : Hid _ := hroom
  clear hroom
  by_cases hE : A.data.toList ++ B.data.toList = []
  · have e1 : ((A ++ B).toList = []) = True := by rw [hnil]; exact eq_true hE
    have e2 : (A ++ B).toList.isEmpty = true := by rw [hemp, hE]; rfl
    have hv : delayP A.data.toList B.data.toList d = (0, false) := by unfold delayP; rw [hE]; rfl
    clear hnil hemp hbm hE
    go_enter Tryd.func47, Tryd.ntmps47
    go_wp2_with (first | (go_at_call 40; (with_reducible refine (strings_Cut.calls s ⟨#[46]⟩ A B d _ HC.out HS.out).mono ?_); rintro e w' ⟨rfl, ⟨nd, rfl⟩⟩))
    go_ret2
    rw [hv]
    exact ⟨rfl, pw_below_drewN (Below.refl _ _) _⟩
  have e1 : ((A ++ B).toList = []) = False := by rw [hnil]; exact eq_false hE
  have e2 : (A ++ B).toList.isEmpty = false := by rw [hemp]; simpa using hE
  have hE2 : (A.data.toList ++ B.data.toList).isEmpty = false := by simpa using hE
  clear hnil hemp hE
  by_cases h9 : 9 < A.size
  · have h9b : (9 < (A.size : Int)) = True := eq_true (by omega)
    have hv : delayP A.data.toList B.data.toList d = (0, false) := by unfold delayP; rw [hE2, hsl.1]; simp [h9]
    clear hbm hE2
    go_enter Tryd.func47, Tryd.ntmps47
    go_wp2_with (first | (go_at_call 40; (with_reducible refine (strings_Cut.calls s ⟨#[46]⟩ A B d _ HC.out HS.out).mono ?_); rintro e w' ⟨rfl, ⟨nd, rfl⟩⟩))
    go_ret2
    rw [hv]
    exact ⟨rfl, pw_below_drewN (Below.refl _ _) _⟩
  have h9b : (9 < (A.size : Int)) = False := eq_false (by omega)
  by_cases hd : d = true ∧ B.data.toList.isEmpty = true
  · obtain ⟨rfl, hbe⟩ := hd
    rw [hbe] at hbm
    have hv : delayP A.data.toList B.data.toList true = (0, false) := by unfold delayP; rw [hE2, hsl.1, hbe]; simp [h9]
    clear hE2 hbe
    go_enter Tryd.func47, Tryd.ntmps47
    go_wp2_with (first | (go_at_call 40; (with_reducible refine (strings_Cut.calls s ⟨#[46]⟩ A B true _ HC.out HS.out).mono ?_); rintro e w' ⟨rfl, ⟨nd, rfl⟩⟩))
    go_ret2
    rw [hv]
    exact ⟨rfl, pw_below_drewN (Below.refl _ _) _⟩
  have hv : delayP A.data.toList B.data.toList d = if (A.data.toList ++ B.data.toList).all digB then (numV 0 (A.data.toList ++ (B.data.toList ++ [48, 48, 48]).take 3), true) else (0, false) := by
    unfold delayP
    rw [hE2, hsl.1, if_neg]
    simp only [Bool.false_or, Bool.or_eq_true, decide_eq_true_eq, Bool.and_eq_true]
    rintro (h | h)
    · exact h9 h
    · exact hd h
  have hv : Hid (delayP A.data.toList B.data.toList d = if (A.data.toList ++ B.data.toList).all digB then (numV 0 (A.data.toList ++ (B.data.toList ++ [48, 48, 48]).take 3), true) else (0, false)) := hv
  have hd2 : (d = true ∧ B.data.toList.isEmpty = false) ∨ d = false := by
    cases d with
    | false => exact .inr rfl
    | true =>
      refine .inl ⟨rfl, ?_⟩
      cases hbe : B.data.toList.isEmpty with
      | false => rfl
      | true => exact absurd ⟨rfl, hbe⟩ hd
  clear hd hE2
  rcases hd2 with ⟨rfl, hbe⟩ | rfl
  · rw [hbe] at hbm
    go_enter Tryd.func47, Tryd.ntmps47
    go_wp2_with (first | (go_at_call 40; (with_reducible refine (strings_Cut.calls s ⟨#[46]⟩ A B true _ HC.out HS.out).mono ?_); rintro e w' ⟨rfl, ⟨nd, rfl⟩⟩))
    generalize hT : A ++ B = T at *
    have hTl : T.data.toList = A.data.toList ++ B.data.toList := by rw [← hT]; simp
    have hTs : T.size = A.size + B.size := by rw [← hT]; simp [ByteArray.size_append]
    have hTl := Hid.mk_ hTl
    clear hT
    go_loopw [] (fun wr => ∃ pos : Nat, wr.heap[w.heap.size]? = some (.stringIter T pos) ∧ Hid (Below w.heap.size w wr) ∧ pos ≤ T.size ∧ Hid (∀ j (h : j < T.data.toList.length), j < pos → digB (T.data.toList[j]) = true)) (fun wr => T.size - wr.iterPos w.heap.size)
    case atStart =>
      refine ⟨0, World.iter_heap (w.drewN nd) T 0, ?_, by omega, ?_⟩
      · exact (pw_below_drewN (Below.refl _ w) nd).alloc (Nat.le_refl _) _
      · intro j h hj; omega
    case round =>
      obtain ⟨pos, hit, hbw, hp0, hdig⟩ := hrel
      have hsz : w.heap.size < wr.heap.size := (Array.getElem?_eq_some_iff.1 hit).1
      by_cases hp : pos < T.size
      · have hpl : pos < T.data.toList.length := by simpa using hp
        have hgt := get_list T pos hp
        by_cases hdg : digB (T.data.toList[pos]) = true
        · have hr : 48 ≤ (T[pos]'hp).toNat ∧ (T[pos]'hp).toNat ≤ 57 := by
            have e : T[pos]'hp = T.data.toList[pos]'hpl := by simp; rfl
            rw [e]
            simpa [digB] using hdg
          have hnx : ∀ ty, (Instr.next (.pointer (some ⟨w.heap.size, 0, none⟩)) true ty).run Tryd.prog wr = _ := fun ty => Lib.run_next_ascii_at wr (w.heap.size) T pos ty hit hp (by omega)
          have hit2 := Lib.iterAt_heap wr (w.heap.size) T pos (pos + 1) hit
          have hbw2 : Hid _ := Lib.below_iterAt hbw.out (k := w.heap.size) (Nat.le_refl _) T (pos + 1)
          have g1 : (((T[pos]'hp).toNat : Int) < 48) = False := eq_false (by omega)
          have g2 : (57 < ((T[pos]'hp).toNat : Int)) = False := eq_false (by omega)
          have hdig2 : Hid (∀ j (h : j < T.data.toList.length), j < pos + 1 → digB (T.data.toList[j]) = true) := by
            intro j h hj
            by_cases e : j = pos
            · subst e; exact hdg
            · exact hdig.out j h (by omega)
          clear hdig hdg hgt hr hbw
          go_wp2
          go_roundw
          case rel => exact ⟨pos + 1, hit2, hbw2, by omega, hdig2⟩
          case measure =>
            simp only [World.iterPos, hit2, hit]
            omega
        · have hres : (A.data.toList ++ B.data.toList).all digB = false := by
            rw [← hTl.out]
            apply Bool.eq_false_iff.mpr
            intro h
            exact hdg (List.all_eq_true.mp h _ (List.getElem_mem hpl))
          have hv2 := hv.out
          rw [if_neg (show ¬ ((A.data.toList ++ B.data.toList).all digB = true) by rw [hres]; decide)] at hv2
          have hv2 : Hid _ := hv2
          clear hdig hres hv
          have key : (((Utf8.decode T pos).1 : Int) < 48) = True ∨ ((((Utf8.decode T pos).1 : Int) < 48) = False ∧ (57 < ((Utf8.decode T pos).1 : Int)) = True) := by
            by_cases hbig : 128 ≤ (T.get! pos).toNat
            · have := dec_big T pos hbig
              exact .inr ⟨eq_false (by omega), eq_true (by omega)⟩
            · have e1 : (T[pos]'hp).toNat = (T.get! pos).toNat := by rw [hgt]; simp; rfl
              have e2 := decode_ascii T pos hp (by omega)
              rw [e2, e1]
              rw [hgt] at hbig ⊢
              simp [digB] at hdg
              by_cases h48 : 48 ≤ (T.data.toList[pos]).toNat
              · have := hdg (by simpa using h48)
                exact .inr ⟨eq_false (by simp; simp at h48; omega), eq_true (by simp; omega)⟩
              · exact .inl (eq_true (by simp; simp at h48; omega))
          have hnx : ∀ ty, (Instr.next (.pointer (some ⟨w.heap.size, 0, none⟩)) true ty).run Tryd.prog wr = _ := fun ty => Lib.run_next_any_at wr (w.heap.size) T pos ty hit hp
          have hbw2 := Lib.below_iterAt hbw.out (k := w.heap.size) (Nat.le_refl _) T (pos + (Utf8.decode T pos).2)
          have hbw2 : Hid _ := hbw2
          clear hdg hgt hbw
          rcases key with g1 | ⟨g1, g2⟩
          · go_wp2
            go_ret2
            rw [hv2.out]
            exact ⟨rfl, hbw2.out⟩
          · go_wp2
            go_ret2
            rw [hv2.out]
            exact ⟨rfl, hbw2.out⟩
      · obtain rfl : pos = T.size := by omega
        have hnx : ∀ ty, (Instr.next (.pointer (some ⟨w.heap.size, 0, none⟩)) true ty).run Tryd.prog wr = _ := fun ty => Lib.run_next_end_at wr (w.heap.size) T T.size ty hit hp
        have hall : (A.data.toList ++ B.data.toList).all digB = true := by
          rw [← hTl.out]
          refine List.all_eq_true.mpr fun c hc => ?_
          obtain ⟨j, hj, rfl⟩ := List.getElem_of_mem hc
          exact hdig.out j hj (by simpa using hj)
        have hv2 := hv.out
        rw [if_pos hall] at hv2
        have hv2 : Hid _ := hv2
        have hdT : Hid (∀ c ∈ A.data.toList ++ B.data.toList, digB c = true) := fun c hc => List.all_eq_true.mp hall c hc
        clear hdig hv hall
        have hBs : B.size ≤ s.size := by have := hin.out; simp at this; omega
        have hs3 : (9223372036854775807 < B.size + 3) = False := eq_false (by omega)
        have hs4 : (9223372036854775807 < A.size + ((B ++ (⟨#[48, 48, 48]⟩ : ByteArray)).extract 0 3).size) = False := eq_false (by simp; omega)
        go_wp2
        have hUl : Hid ((A ++ (B ++ (⟨#[48, 48, 48]⟩ : ByteArray)).extract 0 3).data.toList = A.data.toList ++ (B.data.toList ++ [48, 48, 48]).take 3) := by
          show _ = _
          rw [show (A ++ (B ++ (⟨#[48, 48, 48]⟩ : ByteArray)).extract 0 3).data.toList = A.data.toList ++ ((B ++ (⟨#[48, 48, 48]⟩ : ByteArray)).extract 0 3).data.toList by simp, Lib.extract_from_zero]
          simp
        generalize A ++ (B ++ (⟨#[48, 48, 48]⟩ : ByteArray)).extract 0 3 = U at *
        have hUd : Hid (∀ c ∈ U.data.toList, digB c = true) := by
          show ∀ c ∈ U.data.toList, digB c = true
          rw [hUl.out]
          intro c hc
          rcases List.mem_append.mp hc with h | h
          · exact hdT.out c (List.mem_append_left _ h)
          · rcases List.mem_append.mp (List.mem_of_mem_take h) with h | h
            · exact hdT.out c (List.mem_append_right _ h)
            · simp at h; subst h; decide
        have hU12 : U.size ≤ 12 := by
          have := congrArg List.length hUl.out
          simp at this
          omega
        have hb2 : Hid (Below w.heap.size w (wr.iter U 0)) := hbw.out.alloc hbw.out.size _
        have hit2 := World.iter_heap wr U 0
        have hwr : w.heap.size ≤ wr.heap.size := hbw.out.size
        clear hit hnx hbw hs3 hs4 hin hBs
        generalize wr.iter U 0 = wx at *
        generalize wr.heap.size = b2 at *
        go_loopw [9] (fun v wr => ∃ pos : Nat, v = .int .i64 ((numV 0 (U.data.toList.take pos) : Nat) : Int) ∧ wr.heap[b2]? = some (.stringIter U pos) ∧ Hid (Below w.heap.size w wr) ∧ pos ≤ U.size) (fun v wr => U.size - wr.iterPos b2)
        case atStart => exact ⟨0, rfl, hit2, hb2, by omega⟩
        case round =>
          clear hb2 hit2
          obtain ⟨pos, rfl, hit, hbw, hp0⟩ := hrel
          by_cases hp : pos < U.size
          · have hpl : pos < U.data.toList.length := by simpa using hp
            have eU : U[pos]'hp = U.data.toList[pos]'hpl := by simp; rfl
            have hdg : digB (U[pos]'hp) = true := by rw [eU]; exact hUd.out _ (List.getElem_mem hpl)
            have hr : 48 ≤ (U[pos]'hp).toNat ∧ (U[pos]'hp).toNat ≤ 57 := by simpa [digB] using hdg
            have hnx : ∀ ty, (Instr.next (.pointer (some ⟨b2, 0, none⟩)) true ty).run Tryd.prog wr = _ := fun ty => Lib.run_next_ascii_at wr b2 U pos ty hit hp (by omega)
            have hit2 := Lib.iterAt_heap wr b2 U pos (pos + 1) hit
            have hbw2 : Hid _ := Lib.below_iterAt hbw.out (k := b2) hwr U (pos + 1)
            have hnb := numV_lt (U.data.toList.take pos) (fun c hc => hUd.out c (List.mem_of_mem_take hc)) 12 (by rw [List.length_take]; omega)
            have hnx2 : Hid (numV 0 (U.data.toList.take (pos + 1)) = 10 * numV 0 (U.data.toList.take pos) + ((U[pos]'hp).toNat - 48)) := by
              show _ = _
              rw [List.take_add_one, List.getElem?_eq_getElem hpl, eU]
              exact numV_snoc 0 _ _
            generalize numV 0 (U.data.toList.take pos) = n at *
            generalize (U[pos]'hp).toNat = c at *
            have f1 : wrap64 (10 * (n : Int)) = ((10 * n : Nat) : Int) := by simp only [wrap64]; omega
            have f2 : IntKind.i32.wrap ((c : Int) - 48) = ((c - 48 : Nat) : Int) := by simp [IntKind.wrap, IntKind.signed, IntKind.bits]; omega
            clear eU hdg hbw
            go_wp2
            go_roundw
            case rel =>
              refine ⟨pos + 1, ?_, hit2, hbw2, by omega⟩
              rw [hnx2.out]
              exact congrArg (Value.int IntKind.i64) (by omega)
            case measure =>
              simp only [World.iterPos, hit2, hit]
              omega
          · obtain rfl : pos = U.size := by omega
            have hnx : ∀ ty, (Instr.next (.pointer (some ⟨b2, 0, none⟩)) true ty).run Tryd.prog wr = _ := fun ty => Lib.run_next_end_at wr b2 U U.size ty hit hp
            go_wp2
            go_ret2
            rw [hv2.out, ← hUl.out]
            have : U.data.toList.take U.size = U.data.toList := List.take_of_length_le (by simp)
            rw [this]
            exact ⟨rfl, hbw.out⟩
  · go_enter Tryd.func47, Tryd.ntmps47
    go_wp2_with (first | (go_at_call 40; (with_reducible refine (strings_Cut.calls s ⟨#[46]⟩ A B false _ HC.out HS.out).mono ?_); rintro e w' ⟨rfl, ⟨nd, rfl⟩⟩))
    generalize hT : A ++ B = T at *
    have hTl : T.data.toList = A.data.toList ++ B.data.toList := by rw [← hT]; simp
    have hTs : T.size = A.size + B.size := by rw [← hT]; simp [ByteArray.size_append]
    have hTl := Hid.mk_ hTl
    clear hT
    go_loopw [] (fun wr => ∃ pos : Nat, wr.heap[w.heap.size]? = some (.stringIter T pos) ∧ Hid (Below w.heap.size w wr) ∧ pos ≤ T.size ∧ Hid (∀ j (h : j < T.data.toList.length), j < pos → digB (T.data.toList[j]) = true)) (fun wr => T.size - wr.iterPos w.heap.size)
    case atStart =>
      refine ⟨0, World.iter_heap (w.drewN nd) T 0, ?_, by omega, ?_⟩
      · exact (pw_below_drewN (Below.refl _ w) nd).alloc (Nat.le_refl _) _
      · intro j h hj; omega
    case round =>
      obtain ⟨pos, hit, hbw, hp0, hdig⟩ := hrel
      have hsz : w.heap.size < wr.heap.size := (Array.getElem?_eq_some_iff.1 hit).1
      by_cases hp : pos < T.size
      · have hpl : pos < T.data.toList.length := by simpa using hp
        have hgt := get_list T pos hp
        by_cases hdg : digB (T.data.toList[pos]) = true
        · have hr : 48 ≤ (T[pos]'hp).toNat ∧ (T[pos]'hp).toNat ≤ 57 := by
            have e : T[pos]'hp = T.data.toList[pos]'hpl := by simp; rfl
            rw [e]
            simpa [digB] using hdg
          have hnx : ∀ ty, (Instr.next (.pointer (some ⟨w.heap.size, 0, none⟩)) true ty).run Tryd.prog wr = _ := fun ty => Lib.run_next_ascii_at wr (w.heap.size) T pos ty hit hp (by omega)
          have hit2 := Lib.iterAt_heap wr (w.heap.size) T pos (pos + 1) hit
          have hbw2 : Hid _ := Lib.below_iterAt hbw.out (k := w.heap.size) (Nat.le_refl _) T (pos + 1)
          have g1 : (((T[pos]'hp).toNat : Int) < 48) = False := eq_false (by omega)
          have g2 : (57 < ((T[pos]'hp).toNat : Int)) = False := eq_false (by omega)
          have hdig2 : Hid (∀ j (h : j < T.data.toList.length), j < pos + 1 → digB (T.data.toList[j]) = true) := by
            intro j h hj
            by_cases e : j = pos
            · subst e; exact hdg
            · exact hdig.out j h (by omega)
          clear hdig hdg hgt hr hbw
          go_wp2
          go_roundw
          case rel => exact ⟨pos + 1, hit2, hbw2, by omega, hdig2⟩
          case measure =>
            simp only [World.iterPos, hit2, hit]
            omega
        · have hres : (A.data.toList ++ B.data.toList).all digB = false := by
            rw [← hTl.out]
            apply Bool.eq_false_iff.mpr
            intro h
            exact hdg (List.all_eq_true.mp h _ (List.getElem_mem hpl))
          have hv2 := hv.out
          rw [if_neg (show ¬ ((A.data.toList ++ B.data.toList).all digB = true) by rw [hres]; decide)] at hv2
          have hv2 : Hid _ := hv2
          clear hdig hres hv
          have key : (((Utf8.decode T pos).1 : Int) < 48) = True ∨ ((((Utf8.decode T pos).1 : Int) < 48) = False ∧ (57 < ((Utf8.decode T pos).1 : Int)) = True) := by
            by_cases hbig : 128 ≤ (T.get! pos).toNat
            · have := dec_big T pos hbig
              exact .inr ⟨eq_false (by omega), eq_true (by omega)⟩
            · have e1 : (T[pos]'hp).toNat = (T.get! pos).toNat := by rw [hgt]; simp; rfl
              have e2 := decode_ascii T pos hp (by omega)
              rw [e2, e1]
              rw [hgt] at hbig ⊢
              simp [digB] at hdg
              by_cases h48 : 48 ≤ (T.data.toList[pos]).toNat
              · have := hdg (by simpa using h48)
                exact .inr ⟨eq_false (by simp; simp at h48; omega), eq_true (by simp; omega)⟩
              · exact .inl (eq_true (by simp; simp at h48; omega))
          have hnx : ∀ ty, (Instr.next (.pointer (some ⟨w.heap.size, 0, none⟩)) true ty).run Tryd.prog wr = _ := fun ty => Lib.run_next_any_at wr (w.heap.size) T pos ty hit hp
          have hbw2 := Lib.below_iterAt hbw.out (k := w.heap.size) (Nat.le_refl _) T (pos + (Utf8.decode T pos).2)
          have hbw2 : Hid _ := hbw2
          clear hdg hgt hbw
          rcases key with g1 | ⟨g1, g2⟩
          · go_wp2
            go_ret2
            rw [hv2.out]
            exact ⟨rfl, hbw2.out⟩
          · go_wp2
            go_ret2
            rw [hv2.out]
            exact ⟨rfl, hbw2.out⟩
      · obtain rfl : pos = T.size := by omega
        have hnx : ∀ ty, (Instr.next (.pointer (some ⟨w.heap.size, 0, none⟩)) true ty).run Tryd.prog wr = _ := fun ty => Lib.run_next_end_at wr (w.heap.size) T T.size ty hit hp
        have hall : (A.data.toList ++ B.data.toList).all digB = true := by
          rw [← hTl.out]
          refine List.all_eq_true.mpr fun c hc => ?_
          obtain ⟨j, hj, rfl⟩ := List.getElem_of_mem hc
          exact hdig.out j hj (by simpa using hj)
        have hv2 := hv.out
        rw [if_pos hall] at hv2
        have hv2 : Hid _ := hv2
        have hdT : Hid (∀ c ∈ A.data.toList ++ B.data.toList, digB c = true) := fun c hc => List.all_eq_true.mp hall c hc
        clear hdig hv hall
        have hBs : B.size ≤ s.size := by have := hin.out; simp at this; omega
        have hs3 : (9223372036854775807 < B.size + 3) = False := eq_false (by omega)
        have hs4 : (9223372036854775807 < A.size + ((B ++ (⟨#[48, 48, 48]⟩ : ByteArray)).extract 0 3).size) = False := eq_false (by simp; omega)
        go_wp2
        have hUl : Hid ((A ++ (B ++ (⟨#[48, 48, 48]⟩ : ByteArray)).extract 0 3).data.toList = A.data.toList ++ (B.data.toList ++ [48, 48, 48]).take 3) := by
          show _ = _
          rw [show (A ++ (B ++ (⟨#[48, 48, 48]⟩ : ByteArray)).extract 0 3).data.toList = A.data.toList ++ ((B ++ (⟨#[48, 48, 48]⟩ : ByteArray)).extract 0 3).data.toList by simp, Lib.extract_from_zero]
          simp
        generalize A ++ (B ++ (⟨#[48, 48, 48]⟩ : ByteArray)).extract 0 3 = U at *
        have hUd : Hid (∀ c ∈ U.data.toList, digB c = true) := by
          show ∀ c ∈ U.data.toList, digB c = true
          rw [hUl.out]
          intro c hc
          rcases List.mem_append.mp hc with h | h
          · exact hdT.out c (List.mem_append_left _ h)
          · rcases List.mem_append.mp (List.mem_of_mem_take h) with h | h
            · exact hdT.out c (List.mem_append_right _ h)
            · simp at h; subst h; decide
        have hU12 : U.size ≤ 12 := by
          have := congrArg List.length hUl.out
          simp at this
          omega
        have hb2 : Hid (Below w.heap.size w (wr.iter U 0)) := hbw.out.alloc hbw.out.size _
        have hit2 := World.iter_heap wr U 0
        have hwr : w.heap.size ≤ wr.heap.size := hbw.out.size
        clear hit hnx hbw hs3 hs4 hin hBs
        generalize wr.iter U 0 = wx at *
        generalize wr.heap.size = b2 at *
        go_loopw [9] (fun v wr => ∃ pos : Nat, v = .int .i64 ((numV 0 (U.data.toList.take pos) : Nat) : Int) ∧ wr.heap[b2]? = some (.stringIter U pos) ∧ Hid (Below w.heap.size w wr) ∧ pos ≤ U.size) (fun v wr => U.size - wr.iterPos b2)
        case atStart => exact ⟨0, rfl, hit2, hb2, by omega⟩
        case round =>
          clear hb2 hit2
          obtain ⟨pos, rfl, hit, hbw, hp0⟩ := hrel
          by_cases hp : pos < U.size
          · have hpl : pos < U.data.toList.length := by simpa using hp
            have eU : U[pos]'hp = U.data.toList[pos]'hpl := by simp; rfl
            have hdg : digB (U[pos]'hp) = true := by rw [eU]; exact hUd.out _ (List.getElem_mem hpl)
            have hr : 48 ≤ (U[pos]'hp).toNat ∧ (U[pos]'hp).toNat ≤ 57 := by simpa [digB] using hdg
            have hnx : ∀ ty, (Instr.next (.pointer (some ⟨b2, 0, none⟩)) true ty).run Tryd.prog wr = _ := fun ty => Lib.run_next_ascii_at wr b2 U pos ty hit hp (by omega)
            have hit2 := Lib.iterAt_heap wr b2 U pos (pos + 1) hit
            have hbw2 : Hid _ := Lib.below_iterAt hbw.out (k := b2) hwr U (pos + 1)
            have hnb := numV_lt (U.data.toList.take pos) (fun c hc => hUd.out c (List.mem_of_mem_take hc)) 12 (by rw [List.length_take]; omega)
            have hnx2 : Hid (numV 0 (U.data.toList.take (pos + 1)) = 10 * numV 0 (U.data.toList.take pos) + ((U[pos]'hp).toNat - 48)) := by
              show _ = _
              rw [List.take_add_one, List.getElem?_eq_getElem hpl, eU]
              exact numV_snoc 0 _ _
            generalize numV 0 (U.data.toList.take pos) = n at *
            generalize (U[pos]'hp).toNat = c at *
            have f1 : wrap64 (10 * (n : Int)) = ((10 * n : Nat) : Int) := by simp only [wrap64]; omega
            have f2 : IntKind.i32.wrap ((c : Int) - 48) = ((c - 48 : Nat) : Int) := by simp [IntKind.wrap, IntKind.signed, IntKind.bits]; omega
            clear eU hdg hbw
            go_wp2
            go_roundw
            case rel =>
              refine ⟨pos + 1, ?_, hit2, hbw2, by omega⟩
              rw [hnx2.out]
              exact congrArg (Value.int IntKind.i64) (by omega)
            case measure =>
              simp only [World.iterPos, hit2, hit]
              omega
          · obtain rfl : pos = U.size := by omega
            have hnx : ∀ ty, (Instr.next (.pointer (some ⟨b2, 0, none⟩)) true ty).run Tryd.prog wr = _ := fun ty => Lib.run_next_end_at wr b2 U U.size ty hit hp
            go_wp2
            go_ret2
            rw [hv2.out, ← hUl.out]
            have : U.data.toList.take U.size = U.data.toList := List.take_of_length_le (by simp)
            rw [this]
            exact ⟨rfl, hbw.out⟩
def lines_Delay.f (a0 : ByteArray) : Option (Int × Bool) := if a0.size < 4294967281 then some (((delayV a0.data.toList).1 : Int), (delayV a0.data.toList).2) else none
theorem lines_Delay.calls (a0 : ByteArray) (r1 : Int) (r2 : Bool) (w : World) (h : lines_Delay.f a0 = some (r1, r2)) (hS_ : Shp w) :
    Calls Tryd.prog 47 #[.string a0] w fun e w' => e = .returned (.tuple #[.int .i64 r1, .bool r2]) ∧ Below w.heap.size w w' := by
  unfold lines_Delay.f at h
  split at h
  · rename_i hc
    obtain ⟨rfl, rfl⟩ := Prod.mk.inj (Option.some.inj h)
    exact delay_calls a0 w hc hS_
  · cases h
end Go.Proofs.YtdnaddignhjihaaDoor.Given
namespace Go.Proofs.YtdnaddignhjihaaDoor.Given
open Go.RowKit Go.Proofs.YtdnaddignhjihaaDoorW.PrintWords
set_option linter.unusedVariables false
def tokB (c : UInt8) : Bool := (decide (65 ≤ c.toNat) && decide (c.toNat ≤ 90)) || (decide (97 ≤ c.toNat) && decide (c.toNat ≤ 122)) || c.toNat == 45 || c.toNat == 95
def tokV (l : List UInt8) : List UInt8 := (l.takeWhile tokB).map lowB
theorem rune_one (c : UInt8) (r : Int) (hr : r = (c.toNat : Int)) (h : c.toNat < 128) : Lib.runeCells r = Lib.byteCells [c] := by
  subst hr
  rw [Lib.runeCells, Lib.encodeRuneZ_one (by omega) (by omega)]
  simp [Lib.byteCells]
theorem takeWhile_all {α : Type} (p : α → Bool) (l : List α) (n : Nat) (h : ∀ j (hj : j < l.length), j < n → p (l[j]) = true) (hn : ∀ hj : n < l.length, p (l[n]) = false) : l.takeWhile p = l.take n := by
  induction l generalizing n with
  | nil => simp
  | cons c t ih =>
    cases n with
    | zero =>
      have := hn (by simp)
      simp only [List.getElem_cons_zero] at this
      rw [List.takeWhile_cons, this]; simp
    | succ n =>
      have h0 := h 0 (by simp) (by omega)
      simp only [List.getElem_cons_zero] at h0
      rw [List.takeWhile_cons, h0, if_pos rfl, List.take_succ_cons, ih n (fun j hj hjn => by have := h (j + 1) (by simpa using hj) (by omega); simpa using this) (fun hj => by have := hn (by simpa using hj); simpa using this)]
theorem take_snoc (l : List UInt8) (i : Nat) (h : i < l.length) : (l.take (i + 1)).map lowB = (l.take i).map lowB ++ [lowB l[i]] := by
  rw [List.take_add_one, List.getElem?_eq_getElem h, List.map_append]; rfl

set_option maxHeartbeats 4000000 in
set_option maxRecDepth 1000000 in
theorem token_calls (s : ByteArray) (w : World) (hs : s.size ≤ 140737488351232) :
    Calls Tryd.prog 14 #[.string s] w fun e w' => e = .returned (.string ⟨(tokV s.data.toList).toArray⟩) ∧ Below w.heap.size w w' := by
  go_enter Tryd.func14, Tryd.ntmps14
  go_wp2
  go_loopw [] (fun wr => ∃ pos : Nat, wr.heap[w.heap.size + 1]? = some (.stringIter s pos) ∧ Hid (Below w.heap.size w wr) ∧ pos ≤ s.size ∧ Hid (Lib.IsBuilderF 57 5 w.heap.size w.heap.size (Lib.byteCells ((s.data.toList.take pos).map lowB)) wr) ∧ Hid (∀ j (h : j < s.data.toList.length), j < pos → tokB (s.data.toList[j]) = true)) (fun wr => s.size - wr.iterPos (w.heap.size + 1))
  case atStart =>
    have e : (w.alloc (Obj.cells #[Value.pointer none, Value.slice none 0 0] 57)).heap.size = w.heap.size + 1 := by show (w.heap.push _).size = _; exact Array.size_push ..
    have h1 := World.iter_heap (w.alloc (Obj.cells #[Value.pointer none, Value.slice none 0 0] 57)) s 0
    rw [e] at h1
    have b1 : Below w.heap.size w (w.alloc (Obj.cells #[Value.pointer none, Value.slice none 0 0] 57)) := (Below.refl _ w).alloc (Nat.le_refl _) _
    refine ⟨0, h1, b1.alloc (by rw [e]; omega) _, by omega, ?_, ?_⟩
    · exact ((Lib.IsBuilderF.of (Lib.fresh_isBuilder 57 5 w)).alloc _ : _)
    · intro j h hj; omega
  case round =>
    obtain ⟨pos, hit, hbw, hp0, hI, hdig⟩ := hrel
    have hsz : w.heap.size + 1 < wr.heap.size := (Array.getElem?_eq_some_iff.1 hit).1
    have hn1 : w.heap.size + 1 ≠ w.heap.size := by omega
    by_cases hp : pos < s.size
    · have hpl : pos < s.data.toList.length := by simpa using hp
      have hgt := get_list s pos hp
      have hxe : s[pos]'hp = s.data.toList[pos]'hpl := by simp; rfl
      obtain ⟨c, hc⟩ : ∃ c, c = s.data.toList[pos]'hpl := ⟨_, rfl⟩
      have hlen : Hid (∀ r : Int, (Lib.byteCells ((s.data.toList.take pos).map lowB)).length + 4 ≤ 140737488355328) := by
        intro _
        rw [Lib.byteCells_length, List.length_map]
        have := List.length_take_le pos s.data.toList
        omega
      by_cases hdg : tokB c = true
      · have hasc : c.toNat < 128 := by simp [tokB] at hdg; omega
        have hdig2 : Hid (∀ j (h : j < s.data.toList.length), j < pos + 1 → tokB (s.data.toList[j]) = true) := by
          intro j h hj
          by_cases e : j = pos
          · subst e; rw [← hc]; exact hdg
          · exact hdig.out j h (by omega)
        have hnx : ∀ ty, (Instr.next (.pointer (some ⟨w.heap.size + 1, 0, none⟩)) true ty).run Tryd.prog wr = _ := fun ty => Lib.run_next_ascii_at wr (w.heap.size + 1) s pos ty hit hp (by rw [hxe, ← hc]; exact hasc)
        rw [hxe, ← hc] at hnx
        have hit2 := Lib.iterAt_heap wr (w.heap.size + 1) s pos (pos + 1) hit
        have hI2 : Hid _ := Lib.IsBuilderF.iterAt hI.out hit (pos + 1)
        have hbw2 : Hid _ := Lib.below_iterAt hbw.out (k := w.heap.size + 1) (by omega) s (pos + 1)
        have hsz2 : Hid (w.heap.size ≤ (wr.iterAt (w.heap.size + 1) s (pos + 1)).heap.size) := by
          show _ ≤ _
          rw [Lib.iterAt_size]; omega
        have htk := take_snoc s.data.toList pos hpl
        rw [← hc] at htk
        have htk := Aside0.mk htk
        have hms : Hid (s.size - wr.iterPos (w.heap.size + 1) = s.size - pos) := by
          show _ = _
          simp only [World.iterPos, hit]
        clear hgt hI hbw hdig hxe
        by_cases hup : c.toNat ≤ 90 ∧ 65 ≤ c.toNat
        · have g1 : (65 ≤ (c.toNat : Int)) = True := eq_true (by omega)
          have g2 : ((c.toNat : Int) ≤ 90) = True := eq_true (by omega)
          have g3 : wrap32 ((c.toNat : Int) + 32) = (c.toNat : Int) + 32 := by simp only [wrap32]; omega
          have hl : (lowB c).toNat = c.toNat + 32 := by
            unfold lowB; rw [if_pos ⟨hup.2, hup.1⟩]; simp; omega
          have hrc := Aside0.mk (rune_one (lowB c) ((c.toNat : Int) + 32) (by rw [hl]; omega) (by rw [hl]; omega))
          clear hl hdg hc
          have hx1 : (-2147483648 : Int) ≤ (c.toNat : Int) + 32 := by omega
          have hx2 : (c.toNat : Int) + 32 ≤ (2147483647 : Int) := by omega
          have hcc := Tryd.Builder_WriteRune_k w.heap.size w.heap.size _ ((c.toNat : Int) + 32) hx1 hx2 _ hI2.out (hlen.out 0) hsz2.out
          go_wp2_with (go_at_call 27; with_reducible refine hcc.mono ?_; rintro e w1 ⟨rfl, h1, b1, k1⟩)
          have hit3 := k1.iter hit2 hn1
          have hI3 : Hid (Lib.IsBuilderF 57 5 w.heap.size w.heap.size (Lib.byteCells ((s.data.toList.take (pos + 1)).map lowB)) w1) := by
            show Lib.IsBuilderF _ _ _ _ _ _
            rw [htk.out, Lib.byteCells_append, ← hrc.out]
            exact Or.inr h1
          go_roundw
          case rel => exact ⟨pos + 1, hit3, hbw2.out.trans b1, by omega, hI3, hdig2⟩
          case measure =>
            rw [hms.out]
            simp only [World.iterPos, hit3]
            omega
        · have hl : lowB c = c := low_not c (fun h => hup ⟨h.2, h.1⟩)
          have hrc := Aside0.mk (rune_one (lowB c) (c.toNat : Int) (by rw [hl]) (by rw [hl]; omega))
          have hcs : (97 ≤ c.toNat ∧ c.toNat ≤ 122) ∨ c.toNat = 45 ∨ c.toNat = 95 := by simp [tokB] at hdg; omega
          clear hl hdg hc
          rcases hcs with hcs | hcs | hcs
          · have g1 : (65 ≤ (c.toNat : Int)) = True := eq_true (by omega)
            have g2 : ((c.toNat : Int) ≤ 90) = False := eq_false (by omega)
            have g3 : (97 ≤ (c.toNat : Int)) = True := eq_true (by omega)
            have g4 : ((c.toNat : Int) ≤ 122) = True := eq_true (by omega)
            have hx1 : (-2147483648 : Int) ≤ (c.toNat : Int) := by omega
            have hx2 : (c.toNat : Int) ≤ (2147483647 : Int) := by omega
            have hcc := Tryd.Builder_WriteRune_k w.heap.size w.heap.size _ ((c.toNat : Int)) hx1 hx2 _ hI2.out (hlen.out 0) hsz2.out
            go_wp2_with (go_at_call 27; with_reducible refine hcc.mono ?_; rintro e w1 ⟨rfl, h1, b1, k1⟩)
            have hit3 := k1.iter hit2 hn1
            have hI3 : Hid (Lib.IsBuilderF 57 5 w.heap.size w.heap.size (Lib.byteCells ((s.data.toList.take (pos + 1)).map lowB)) w1) := by
              show Lib.IsBuilderF _ _ _ _ _ _
              rw [htk.out, Lib.byteCells_append, ← hrc.out]
              exact Or.inr h1
            go_roundw
            case rel => exact ⟨pos + 1, hit3, hbw2.out.trans b1, by omega, hI3, hdig2⟩
            case measure =>
              rw [hms.out]
              simp only [World.iterPos, hit3]
              omega
          · have g1 : (65 ≤ (c.toNat : Int)) = False := eq_false (by omega)
            have g3 : (97 ≤ (c.toNat : Int)) = False := eq_false (by omega)
            have g5 : ((c.toNat : Int) == 45) = true := by simp; omega
            clear hcs
            have hx1 : (-2147483648 : Int) ≤ (c.toNat : Int) := by omega
            have hx2 : (c.toNat : Int) ≤ (2147483647 : Int) := by omega
            have hcc := Tryd.Builder_WriteRune_k w.heap.size w.heap.size _ ((c.toNat : Int)) hx1 hx2 _ hI2.out (hlen.out 0) hsz2.out
            go_wp2_with (go_at_call 27; with_reducible refine hcc.mono ?_; rintro e w1 ⟨rfl, h1, b1, k1⟩)
            have hit3 := k1.iter hit2 hn1
            have hI3 : Hid (Lib.IsBuilderF 57 5 w.heap.size w.heap.size (Lib.byteCells ((s.data.toList.take (pos + 1)).map lowB)) w1) := by
              show Lib.IsBuilderF _ _ _ _ _ _
              rw [htk.out, Lib.byteCells_append, ← hrc.out]
              exact Or.inr h1
            go_roundw
            case rel => exact ⟨pos + 1, hit3, hbw2.out.trans b1, by omega, hI3, hdig2⟩
            case measure =>
              rw [hms.out]
              simp only [World.iterPos, hit3]
              omega
          · have g1 : (65 ≤ (c.toNat : Int)) = True := eq_true (by omega)
            have g2 : ((c.toNat : Int) ≤ 90) = False := eq_false (by omega)
            have g3 : (97 ≤ (c.toNat : Int)) = False := eq_false (by omega)
            have g5 : ((c.toNat : Int) == 45) = false := by simp; omega
            have g6 : ((c.toNat : Int) == 95) = true := by simp; omega
            clear hcs
            have hx1 : (-2147483648 : Int) ≤ (c.toNat : Int) := by omega
            have hx2 : (c.toNat : Int) ≤ (2147483647 : Int) := by omega
            have hcc := Tryd.Builder_WriteRune_k w.heap.size w.heap.size _ ((c.toNat : Int)) hx1 hx2 _ hI2.out (hlen.out 0) hsz2.out
            go_wp2_with (go_at_call 27; with_reducible refine hcc.mono ?_; rintro e w1 ⟨rfl, h1, b1, k1⟩)
            have hit3 := k1.iter hit2 hn1
            have hI3 : Hid (Lib.IsBuilderF 57 5 w.heap.size w.heap.size (Lib.byteCells ((s.data.toList.take (pos + 1)).map lowB)) w1) := by
              show Lib.IsBuilderF _ _ _ _ _ _
              rw [htk.out, Lib.byteCells_append, ← hrc.out]
              exact Or.inr h1
            go_roundw
            case rel => exact ⟨pos + 1, hit3, hbw2.out.trans b1, by omega, hI3, hdig2⟩
            case measure =>
              rw [hms.out]
              simp only [World.iterPos, hit3]
              omega
      · obtain ⟨acc, hacc⟩ : ∃ acc, acc = (s.data.toList.take pos).map lowB := ⟨_, rfl⟩
        rw [← hacc] at hI
        have hv : Hid (acc = tokV s.data.toList) := by
          show _ = _
          rw [hacc, tokV, takeWhile_all tokB _ pos hdig.out (fun _ => by rw [← hc]; simpa using hdg)]
        obtain ⟨r, hr⟩ : ∃ r : Int, r = ((Utf8.decode s pos).1 : Int) := ⟨_, rfl⟩
        have hcs : r < 65 ∧ r ≠ 45 ∨ 90 < r ∧ r < 97 ∧ r ≠ 95 ∨ 122 < r := by
          by_cases hbig : 128 ≤ (s.get! pos).toNat
          · have := dec_big s pos hbig
            omega
          · have e2 := decode_ascii s pos hp (by rw [hxe, ← hgt]; omega)
            rw [e2, hxe, ← hc] at hr
            simp only at hr
            simp [tokB] at hdg
            omega
        have hnx : ∀ ty, (Instr.next (.pointer (some ⟨w.heap.size + 1, 0, none⟩)) true ty).run Tryd.prog wr = _ := fun ty => Lib.run_next_any_at wr (w.heap.size + 1) s pos ty hit hp
        have hI2 : Hid _ := Lib.IsBuilderF.iterAt hI.out hit (pos + (Utf8.decode s pos).2)
        have hbw2 : Hid _ := Lib.below_iterAt hbw.out (k := w.heap.size + 1) (by omega) s (pos + (Utf8.decode s pos).2)
        have hsz2 : Hid (w.heap.size ≤ (wr.iterAt (w.heap.size + 1) s (pos + (Utf8.decode s pos).2)).heap.size) := by
          show _ ≤ _
          rw [Lib.iterAt_size]; omega
        rw [← hr] at hnx
        generalize (wr.iterAt (w.heap.size + 1) s (pos + (Utf8.decode s pos).2)) = w2 at *
        clear hgt hI hbw hdig hxe hdg hc hr hacc hlen
        rcases hcs with ⟨q1, q2⟩ | ⟨q1, q2, q3⟩ | q1
        · have g1 : (65 ≤ r) = False := eq_false (by omega)
          have g3 : (97 ≤ r) = False := eq_false (by omega)
          have g5 : (r == 45) = false := by simp; omega
          have g6 : (r == 95) = false := by simp; omega
          have hcc := Tryd.Builder_String_any_k w.heap.size w.heap.size _ _ hI2.out hsz2.out
          go_wp2_with (go_at_call 28; with_reducible refine hcc.mono ?_; rintro e w1 ⟨rfl, h1, b1, k1⟩)
          go_ret
          rw [hv.out]
          exact ⟨rfl, hbw2.out.trans b1⟩
        · have g1 : (65 ≤ r) = True := eq_true (by omega)
          have g2 : (r ≤ 90) = False := eq_false (by omega)
          have g3 : (97 ≤ r) = False := eq_false (by omega)
          have g5 : (r == 45) = false := by simp; omega
          have g6 : (r == 95) = false := by simp; omega
          have hcc := Tryd.Builder_String_any_k w.heap.size w.heap.size _ _ hI2.out hsz2.out
          go_wp2_with (go_at_call 28; with_reducible refine hcc.mono ?_; rintro e w1 ⟨rfl, h1, b1, k1⟩)
          go_ret
          rw [hv.out]
          exact ⟨rfl, hbw2.out.trans b1⟩
        · have g1 : (65 ≤ r) = True := eq_true (by omega)
          have g2 : (r ≤ 90) = False := eq_false (by omega)
          have g3 : (97 ≤ r) = True := eq_true (by omega)
          have g4 : (r ≤ 122) = False := eq_false (by omega)
          have g5 : (r == 45) = false := by simp; omega
          have g6 : (r == 95) = false := by simp; omega
          have hcc := Tryd.Builder_String_any_k w.heap.size w.heap.size _ _ hI2.out hsz2.out
          go_wp2_with (go_at_call 28; with_reducible refine hcc.mono ?_; rintro e w1 ⟨rfl, h1, b1, k1⟩)
          go_ret
          rw [hv.out]
          exact ⟨rfl, hbw2.out.trans b1⟩
    · have hnx : ∀ ty, (Instr.next (.pointer (some ⟨w.heap.size + 1, 0, none⟩)) true ty).run Tryd.prog wr = _ := fun ty => Lib.run_next_end_at wr (w.heap.size + 1) s pos ty hit hp
      obtain ⟨acc, hacc⟩ : ∃ acc, acc = (s.data.toList.take pos).map lowB := ⟨_, rfl⟩
      rw [← hacc] at hI
      have hv : Hid (acc = tokV s.data.toList) := by
        show _ = _
        rw [hacc, tokV, takeWhile_all tokB _ pos hdig.out (fun h => absurd (by simpa using h) hp)]
      have hsz2 : Hid (w.heap.size ≤ wr.heap.size) := by show _ ≤ _; omega
      clear hdig hacc
      have hcc := Tryd.Builder_String_any_k w.heap.size w.heap.size _ _ hI.out hsz2.out
      go_wp2_with (go_at_call 28; with_reducible refine hcc.mono ?_; rintro e w1 ⟨rfl, h1, b1, k1⟩)
      go_ret
      rw [hv.out]
      exact ⟨rfl, hbw.out.trans b1⟩
end Go.Proofs.YtdnaddignhjihaaDoor.Given
namespace Go.Proofs.YtdnaddignhjihaaDoor.QBase
open Go.Proofs.YtdnaddignhjihaaDoor.Given
open Go.RowKit Go.Proofs.YtdnaddignhjihaaDoorW.PrintWords Go.Proofs.YtdnaddignhjihaaDoorW.PrintLast Go.Proofs.YtdnaddignhjihaaDoorW.PrintMore
attribute [local go_sem] max2_int min2_int max_two min_two max_three min_three max_four min_four   -- for this text's walks alone
set_option linter.unusedVariables false
set_option linter.unusedSimpArgs false
def errW : Option Int → Value
  | none => .nilIface
  | some c => .iface 0 (.int .i64 c)
theorem errW_none : errW none = .nilIface := rfl
theorem errW_some (c : Int) : errW (some c) = .iface 0 (.int .i64 c) := rfl

structure S30 where
  f0 : Bool
  f1 : ByteArray
def z30 : S30 := ⟨false, (⟨#[]⟩ : ByteArray)⟩
def k30 : Kd S30 := Kd.iso (Kd.pair Kd.bool Kd.string) (fun x : S30 => (x.f0, x.f1))
theorem k30_open {w : World} {x : S30} {cs : List Value} (h : k30.K w x cs) : cs = [.bool x.f0, .string x.f1] := by
  obtain ⟨_, _, rfl, rfl, rfl⟩ := h
  exact rfl
theorem k30_mkM (w : World) (base : Nat) (ok : Nat → Prop) (x : S30)  : k30.M w base ok x [.bool x.f0, .string x.f1] := ⟨[.bool x.f0], [.string x.f1], rfl, rfl, rfl⟩
def rd_T30 (xs : List S30) (i : Int) : S30 := xs.getD i.toNat z30
theorem at_T30 {w : World} {A : Option Addr} {n : Nat} {xs : List S30} (h : Kd.C k30 w A n xs) (i : Int) (h0 : 0 ≤ i) (h1 : i < n) : ∃ ad , A = some ad ∧ w.cell? (ad.add (i.toNat * 2)) = some (.bool (rd_T30 xs i).f0) ∧ w.cell? ⟨(ad.add (i.toNat * 2)).block, (ad.add (i.toNat * 2)).off + 1, none⟩ = some (.string (rd_T30 xs i).f1) := by
  obtain ⟨ad, c, e, _, hK, hc0⟩ := Kd.C_get h z30 i h0 h1
  have hc : ∀ j u, c[j]? = some u → w.cell? (ad.add (i.toNat * 2 + j)) = some u := hc0
  obtain rfl := k30_open hK
  exact ⟨ad, e, hc 0 _ rfl, by rw [← add_field _ _ 1 (by omega)]; exact hc 1 _ rfl⟩

structure S86 where
  f0 : (List ByteArray)
  f1 : (List S30)
  f2 : Int
def z86 : S86 := ⟨([] : List ByteArray), ([] : List S30), (0 : Int)⟩
def k86 : Kd S86 := Kd.iso (Kd.pair (Kd.slice 9 Kd.string) (Kd.pair (Kd.slice 30 k30) (Kd.int .i64))) (fun x : S86 => (x.f0, x.f1, x.f2))
theorem k86_open {w : World} {x : S86} {cs : List Value} (h : k86.K w x cs) : ∃ A0 c0 A1 c1, cs = [.slice A0 x.f0.length c0, .slice A1 x.f1.length c1, .int .i64 x.f2] ∧ x.f0.length ≤ c0 ∧ Kd.string.C w A0 x.f0.length x.f0 ∧ x.f1.length ≤ c1 ∧ k30.C w A1 x.f1.length x.f1 := by
  obtain ⟨_, _, rfl, ⟨A0, c0, rfl, l0, g0⟩, ⟨_, _, rfl, ⟨A1, c1, rfl, l1, g1⟩, rfl⟩⟩ := h
  exact ⟨A0, c0, A1, c1, rfl, l0, g0, l1, g1⟩
theorem k86_openM {w : World} {base : Nat} {ok : Nat → Prop} {x : S86} {cs : List Value} (h : k86.M w base ok x cs) : ∃ v0 v1, cs = [v0, v1, .int .i64 x.f2] ∧ Kd.string.R 9 w base ok v0 x.f0 ∧ k30.R 30 w base ok v1 x.f1 := by
  obtain ⟨_, _, rfl, ⟨v0, rfl, g0⟩, ⟨_, _, rfl, ⟨v1, rfl, g1⟩, rfl⟩⟩ := h
  exact ⟨v0, v1, rfl, g0, g1⟩
theorem k86_mkM (w : World) (base : Nat) (ok : Nat → Prop) (x : S86) {v0 : Value} (g0 : Kd.string.R 9 w base ok v0 x.f0) {v1 : Value} (g1 : k30.R 30 w base ok v1 x.f1) : k86.M w base ok x [v0, v1, .int .i64 x.f2] := ⟨[v0], [v1, .int .i64 x.f2], rfl, ⟨v0, rfl, g0⟩, ⟨[v1], [.int .i64 x.f2], rfl, ⟨v1, rfl, g1⟩, rfl⟩⟩
def rd_T86 (xs : List S86) (i : Int) : S86 := xs.getD i.toNat z86
theorem at_T86 {w : World} {A : Option Addr} {n : Nat} {xs : List S86} (h : Kd.C k86 w A n xs) (i : Int) (h0 : 0 ≤ i) (h1 : i < n) : ∃ ad A0 c0 A1 c1, A = some ad ∧ w.cell? (ad.add (i.toNat * 3)) = some (.slice A0 (rd_T86 xs i).f0.length c0) ∧ w.cell? ⟨(ad.add (i.toNat * 3)).block, (ad.add (i.toNat * 3)).off + 1, none⟩ = some (.slice A1 (rd_T86 xs i).f1.length c1) ∧ w.cell? ⟨(ad.add (i.toNat * 3)).block, (ad.add (i.toNat * 3)).off + 2, none⟩ = some (.int .i64 (rd_T86 xs i).f2) ∧ (rd_T86 xs i).f0.length ≤ c0 ∧ Kd.string.C w A0 (rd_T86 xs i).f0.length (rd_T86 xs i).f0 ∧ (rd_T86 xs i).f1.length ≤ c1 ∧ k30.C w A1 (rd_T86 xs i).f1.length (rd_T86 xs i).f1 := by
  obtain ⟨ad, c, e, _, hK, hc0⟩ := Kd.C_get h z86 i h0 h1
  have hc : ∀ j u, c[j]? = some u → w.cell? (ad.add (i.toNat * 3 + j)) = some u := hc0
  obtain ⟨A0, c0, A1, c1, rfl, l0, g0, l1, g1⟩ := k86_open hK
  exact ⟨ad, A0, c0, A1, c1, e, hc 0 _ rfl, by rw [← add_field _ _ 1 (by omega)]; exact hc 1 _ rfl, by rw [← add_field _ _ 2 (by omega)]; exact hc 2 _ rfl, l0, g0, l1, g1⟩

structure S35 where
  f0 : ByteArray
  f1 : ByteArray
def z35 : S35 := ⟨(⟨#[]⟩ : ByteArray), (⟨#[]⟩ : ByteArray)⟩
def k35 : Kd S35 := Kd.iso (Kd.pair Kd.string Kd.string) (fun x : S35 => (x.f0, x.f1))
theorem k35_open {w : World} {x : S35} {cs : List Value} (h : k35.K w x cs) : cs = [.string x.f0, .string x.f1] := by
  obtain ⟨_, _, rfl, rfl, rfl⟩ := h
  exact rfl
theorem k35_mkM (w : World) (base : Nat) (ok : Nat → Prop) (x : S35)  : k35.M w base ok x [.string x.f0, .string x.f1] := ⟨[.string x.f0], [.string x.f1], rfl, rfl, rfl⟩
def rd_T35 (xs : List S35) (i : Int) : S35 := xs.getD i.toNat z35
theorem at_T35 {w : World} {A : Option Addr} {n : Nat} {xs : List S35} (h : Kd.C k35 w A n xs) (i : Int) (h0 : 0 ≤ i) (h1 : i < n) : ∃ ad , A = some ad ∧ w.cell? (ad.add (i.toNat * 2)) = some (.string (rd_T35 xs i).f0) ∧ w.cell? ⟨(ad.add (i.toNat * 2)).block, (ad.add (i.toNat * 2)).off + 1, none⟩ = some (.string (rd_T35 xs i).f1) := by
  obtain ⟨ad, c, e, _, hK, hc0⟩ := Kd.C_get h z35 i h0 h1
  have hc : ∀ j u, c[j]? = some u → w.cell? (ad.add (i.toNat * 2 + j)) = some u := hc0
  obtain rfl := k35_open hK
  exact ⟨ad, e, hc 0 _ rfl, by rw [← add_field _ _ 1 (by omega)]; exact hc 1 _ rfl⟩

end Go.Proofs.YtdnaddignhjihaaDoor.QBase
namespace Go.Proofs.YtdnaddignhjihaaDoor.Given
open Go.RowKit Go.Proofs.YtdnaddignhjihaaDoor.QBase Go.Proofs.YtdnaddignhjihaaDoorW.PrintWords Go.Proofs.YtdnaddignhjihaaDoorW.PrintLast Go.Proofs.YtdnaddignhjihaaDoorW.PrintMore
set_option linter.unusedVariables false
def tokA (s : ByteArray) : ByteArray := ⟨(tokV s.data.toList).toArray⟩
theorem tokA_list (s : ByteArray) : (tokA s).toList = tokV s.data.toList := by rw [Lib.toList_data]; rfl
/-- Is a group's name one for whom one asks? -/
def isFor (nm s : ByteArray) : Bool := s.toList == nm.toList || (!(nm.toList == [42]) && (tokA s).toList == nm.toList)

theorem keep_nm {B b : Nat} {nm : ByteArray} {w w1 w2 : World} (hb : Below w1.heap.size w1 w2) (h : w1.cell? ⟨b, 0, none⟩ = some (.string nm)) (h2 : Aside0 (B ≤ w1.heap.size ∧ Below B w w1)) :
    w2.cell? ⟨b, 0, none⟩ = some (.string nm) ∧ Aside0 (B ≤ w2.heap.size ∧ Below B w w2) :=
  ⟨(hb.cell (World.block_lt_of_cell? w1 _ h)).trans h, ⟨Nat.le_trans h2.out.1 hb.size, h2.out.2.trans (hb.mono h2.out.1)⟩⟩

set_option maxHeartbeats 4000000 in
set_option maxRecDepth 1000000 in
theorem of1_calls (b : Nat) (s nm : ByteArray) (w : World) (hs : s.size ≤ 140737488351232) (hb : w.cell? ⟨b, 0, none⟩ = some (.string nm)) :
    Calls Tryd.prog 46 #[.string s, .pointer (some ⟨b, 0, none⟩)] w fun e w' => e = .returned (.bool (isFor nm s)) ∧ Below w.heap.size w w' := by
  have HB : Aside0 (w.heap.size ≤ w.heap.size ∧ Below w.heap.size w w) := ⟨Nat.le_refl _, Below.refl _ _⟩
  cases h1 : (s.toList == nm.toList) with
  | true =>
    have hr : isFor nm s = true := by simp [isFor, h1]
    rw [hr]
    clear hr
    go_enter Tryd.func46, Tryd.ntmps46
    go_wp2
    go_region
    go_wp2
    go_ret
    exact ⟨rfl, pw_below_drewN HB.out.2 1⟩
  | false =>
    cases h2 : (nm.toList == [42]) with
    | true =>
      have hr : isFor nm s = false := by simp [isFor, h1, h2]
      rw [hr]
      go_enter Tryd.func46, Tryd.ntmps46
      go_wp2
      go_region
      go_wp2
      go_ret
      exact ⟨rfl, pw_below_drewN HB.out.2 1⟩
    | false =>
      have hr : isFor nm s = (tokV s.data.toList == nm.toList) := by simp [isFor, h1, h2, tokA_list]
      rw [hr]
      have HB2 : Aside0 (w.heap.size ≤ w.drew.heap.size ∧ Below w.heap.size w w.drew) := ⟨Nat.le_refl _, pw_below_drewN HB.out.2 1⟩
      clear hr
      go_enter Tryd.func46, Tryd.ntmps46
      go_wp2
      go_region_held3 (fun w' => w'.cell? ⟨b, 0, none⟩ = some (.string nm) ∧ Aside0 (w.heap.size ≤ w'.heap.size ∧ Below w.heap.size w w'))
        (first | (exact ⟨k0, kC⟩) | (exact ⟨hb, HB2⟩) | go_keep)
        (first | (go_at_call 14; go_loud (refine (token_calls s _ hs).mono ?_; rintro e w1 ⟨rfl, b1⟩; obtain ⟨k0, kC⟩ := keep_nm b1 (by assumption) (by assumption))))
      go_wp2
      go_ret
      exact ⟨rfl, (show Aside0 (w.heap.size ≤ _ ∧ Below w.heap.size w _) by assumption).out.2⟩

theorem str_cell {w : World} {A : Option Addr} {n : Nat} {l : List ByteArray} (h : Kd.C Kd.string w A n l) (i : Nat) (hi : i < l.length) (hn : l.length = n) :
    ∃ ad, A = some ad ∧ w.cell? (ad.add i) = some (.string l[i]) := by
  subst hn
  obtain ⟨ad, c, e, _, hK, hc0⟩ := Kd.C_get h ByteArray.empty (i : Int) (by omega) (by omega)
  refine ⟨ad, e, ?_⟩
  obtain rfl : c = [.string (l.getD i ByteArray.empty)] := hK
  have := hc0 0 _ rfl
  rw [Int.toNat_natCast] at this
  have e : Kd.string.sz = 1 := rfl
  rw [e, Nat.mul_one] at this
  simpa [hi] using this
set_option maxHeartbeats 4000000 in
set_option maxRecDepth 1000000 in
theorem index_calls (A : Option Addr) (c b : Nat) (l : List ByteArray) (nm : ByteArray) (w : World) (hl : ∀ s ∈ l, s.size ≤ 140737488351232) (hn : l.length < 1000000) (hA : Kd.C Kd.string w A l.length l) (hb : w.cell? ⟨b, 0, none⟩ = some (.string nm)) :
    Calls Tryd.prog 66 #[.slice A l.length c, .func (.func 46) #[] #[.pointer (some ⟨b, 0, none⟩)]] w fun e w' => ∃ i : Int, e = .returned (.int .i64 i) ∧ (decide (0 ≤ i) = l.any (isFor nm)) ∧ Below w.heap.size w w' := by
  have HA := Aside0.mk hA
  have HL := Aside0.mk hl
  clear hA hl
  go_enter Tryd.func66, Tryd.ntmps66
  go_wp2
  go_loopw [8] (fun v8 wr => ∃ i : Nat, v8 = .int .i64 i ∧ i ≤ l.length ∧ Aside0 (Below w.heap.size w wr) ∧ Aside0 (∀ j (h : j < l.length), j < i → isFor nm l[j] = false)) (fun v8 _ => l.length - (intOf v8).toNat)
  case atStart => exact ⟨0, rfl, by omega, ⟨Below.refl _ _⟩, ⟨by intro j h hj; omega⟩⟩
  case round =>
    obtain ⟨i, rfl, hi, HB, hno⟩ := hrel
    by_cases hlt : i < l.length
    · have hlt' : ((i : Int) < (l.length : Int)) = True := eq_true (by omega)
      obtain ⟨ad, rfl, hc⟩ := str_cell HA.out i hlt rfl
      have hc := (HB.out.cell (World.block_lt_of_cell? w _ hc)).trans hc
      have hb2 := (HB.out.cell (World.block_lt_of_cell? w _ hb)).trans hb
      have hsz := HL.out _ (List.getElem_mem hlt)
      obtain ⟨s, hs⟩ : ∃ s, s = l[i] := ⟨_, rfl⟩
      rw [← hs] at hc hsz
      have hcc := of1_calls b s nm wr hsz hb2
      have Hs := Aside0.mk hs
      clear hb hs
      cases hf : isFor nm s with
      | true =>
        rw [hf] at hcc
        have hany : Aside0 (decide (0 ≤ (i : Int)) = l.any (isFor nm)) := ⟨by
          rw [List.any_eq_true.mpr ⟨s, by rw [Hs.out]; exact List.getElem_mem hlt, hf⟩]
          simp⟩
        clear hf
        go_wp2_with (go_at_call 46; with_reducible refine hcc.mono ?_; rintro e w1 ⟨rfl, b1⟩)
        go_ret
        exact ⟨i, rfl, hany.out, below_step HB.out b1⟩
      | false =>
        rw [hf] at hcc
        have hno2 : Aside0 (∀ j (h : j < l.length), j < i + 1 → isFor nm l[j] = false) := ⟨by
          intro j h hj
          by_cases e : j = i
          · subst e; rw [← Hs.out]; exact hf
          · exact hno.out j h (by omega)⟩
        clear hf
        go_wp2_with (go_at_call 46; with_reducible refine hcc.mono ?_; rintro e w1 ⟨rfl, b1⟩)
        go_roundw
        case rel => exact ⟨i + 1, by go_num, by omega, ⟨below_step HB.out b1⟩, hno2⟩
        case measure => simp [intOf]; omega
    · have hlt' : ((i : Int) < (l.length : Int)) = False := eq_false (by omega)
      have hany : Aside0 (decide (0 ≤ (-1 : Int)) = l.any (isFor nm)) := ⟨by
        have : l.any (isFor nm) = false := by
          rw [Bool.eq_false_iff]
          intro h
          obtain ⟨x, hx, hy⟩ := List.any_eq_true.mp h
          obtain ⟨j, hj, rfl⟩ := List.getElem_of_mem hx
          rw [hno.out j hj (by omega)] at hy
          cases hy
        rw [this]; rfl⟩
      go_wp2
      go_ret
      exact ⟨-1, rfl, hany.out, HB.out⟩

set_option maxHeartbeats 4000000 in
set_option maxRecDepth 1000000 in
theorem contains_calls (A : Option Addr) (c b : Nat) (l : List ByteArray) (nm : ByteArray) (w : World) (hl : ∀ s ∈ l, s.size ≤ 140737488351232) (hn : l.length < 1000000) (hA : Kd.C Kd.string w A l.length l) (hb : w.cell? ⟨b, 0, none⟩ = some (.string nm)) :
    Calls Tryd.prog 45 #[.slice A l.length c, .func (.func 46) #[] #[.pointer (some ⟨b, 0, none⟩)]] w fun e w' => e = .returned (.bool (l.any (isFor nm))) ∧ Below w.heap.size w w' := by
  have hcc := index_calls A c b l nm w hl hn hA hb
  clear hl hn hA hb
  go_enter Tryd.func45, Tryd.ntmps45
  go_wp2_with (go_at_call 66; with_reducible refine hcc.mono ?_; rintro e w1 ⟨i, rfl, hi, b1⟩)
  go_ret
  exact ⟨by rw [← hi]; rfl, b1⟩
end Go.Proofs.YtdnaddignhjihaaDoor.Given
namespace Go.Proofs.YtdnaddignhjihaaDoor.Given
open Go.RowKit Go.Proofs.YtdnaddignhjihaaDoor.QBase Go.Proofs.YtdnaddignhjihaaDoorW.PrintWords Go.Proofs.YtdnaddignhjihaaDoorW.PrintLast
set_option linter.unusedVariables false
/-- The last group of a row: its cells, its rows, and the row without it. -/
theorem last_open86 {w : World} {B g n cap : Nat} {gs : List S86} (h : Kd.S k86 86 w B (fun _ => True) (.slice (some ⟨g, 0, none⟩) n cap) gs) (hn : 0 < n) :
    ∃ (oki : Nat → Prop) (v0 v1 : Value), Kd.string.R 9 w B oki v0 (gs.getD (n - 1) z86).f0 ∧ k30.R 30 w B oki v1 (gs.getD (n - 1) z86).f1 ∧
      w.cell? ⟨g, (n - 1) * 3, none⟩ = some v0 ∧ w.cell? ⟨g, (n - 1) * 3 + 1, none⟩ = some v1 ∧ w.cell? ⟨g, (n - 1) * 3 + 2, none⟩ = some (.int .i64 (gs.getD (n - 1) z86).f2) ∧
      (∀ j, w.frozen? ⟨g, (n - 1) * 3 + j, none⟩ = false) ∧ (∀ k, oki k → k ≠ g) ∧
      Kd.H k86 86 w B (fun _ => True) (.slice (some ⟨g, 0, none⟩) n cap) gs ((n - 1 : Nat) : Int) oki [v0, v1, .int .i64 (gs.getD (n - 1) z86).f2] := by
  obtain ⟨oki, c, hcl, hM, hcc, hfr, hoki, hH⟩ := Kd.S_elem h z86 ((n - 1 : Nat) : Int) (by omega) (by omega)
  rw [Int.toNat_natCast] at hM hcc hfr
  obtain ⟨v0, v1, rfl, g0, g1⟩ := k86_openM hM
  exact ⟨oki, v0, v1, g0, g1, hcc 0 _ rfl, hcc 1 _ rfl, hcc 2 _ rfl, hfr, fun k hk => (hoki k hk).2, hH⟩
/-- One cell of it is written, and it is put back. -/
theorem last_put86 {w : World} {B g n cap : Nat} {gs : List S86} {oki : Nat → Prop} {c : List Value} (h : Kd.H k86 86 w B (fun _ => True) (.slice (some ⟨g, 0, none⟩) n cap) gs ((n - 1 : Nat) : Int) oki c) (hn : 0 < n)
    (j : Nat) (hj : j < 3) (u : Value) (hu : u.oneCell' = true) (x : S86) (hM : k86.M w B oki x (c.take j ++ [u] ++ c.drop (j + 1))) (hg : ∀ k, oki k → k ≠ g) :
    Kd.S k86 86 (w.setCell ⟨g, (n - 1) * 3 + j, none⟩ u) B (fun _ => True) (.slice (some ⟨g, 0, none⟩) n cap) (gs.set (n - 1) x) ∧ w.grownBy (w.setCell ⟨g, (n - 1) * 3 + j, none⟩ u) (some g) := by
  obtain ⟨h2, h3⟩ := Kd.H_seg (seg := [u]) (j := j) h (by omega) (by omega) (by simp; show j + 1 ≤ 3; omega) (by intro q hq; obtain rfl := List.mem_singleton.mp hq; exact hu)
  have e : w.setCells g (((n - 1 : Nat) : Int).toNat * k86.sz + j) [u] = w.setCell ⟨g, (n - 1) * 3 + j, none⟩ u := by
    rw [Int.toNat_natCast]
    rfl
  rw [e] at h2 h3
  refine ⟨?_, h3⟩
  have := Kd.H_back h2 (x' := x) (okp := oki) (Kd.M_far (p := ⟨g, (n - 1) * 3 + j, none⟩) hM (fun k hk => hg k hk) u) (fun _ hk => hk)
  rwa [Int.toNat_natCast] at this

end Go.Proofs.YtdnaddignhjihaaDoor.Given
namespace Go.Proofs.YtdnaddignhjihaaDoor.Given
open Go.RowKit Go.Proofs.YtdnaddignhjihaaDoor.QBase Go.Proofs.YtdnaddignhjihaaDoorW.PrintWords Go.Proofs.YtdnaddignhjihaaDoorW.PrintLast Go.Proofs.YtdnaddignhjihaaDoorW.PrintMore
set_option linter.unusedVariables false
set_option linter.unusedSimpArgs false
attribute [local go_sem] max2_int min2_int max_two min_two max_three min_three max_four min_four
theorem info86 : (Tryd.prog.info? 86).map (fun i => (i.zero, i.size, i.bytes)) = some (some (.agg #[.slice none 0 0, .slice none 0 0, .int .i64 0]), 3, 56) := by kernel_rfl
theorem info9 : (Tryd.prog.info? 9).map (fun i => (i.zero, i.size, i.bytes)) = some (some (.string ⟨#[]⟩), 1, 16) := by kernel_rfl
theorem info30 : (Tryd.prog.info? 30).map (fun i => (i.zero, i.size, i.bytes)) = some (some (.agg #[.bool false, .string ⟨#[]⟩]), 2, 24) := by kernel_rfl

/-- The maker: its box m, its groups, whether agents come still; below W0 all is as it was. -/
structure Mk (W0 : World) (m : Nat) (gs : List S86) (op : Bool) (v : Value) (w : World) : Prop where
  box : w.heap[m]? = some (.cells #[v, .bool op] 67 (0, 0))
  base : W0.heap.size ≤ m
  row : Kd.S k86 86 w W0.heap.size (fun _ => True) v gs
  below : Below W0.heap.size W0 w
/-- Where the row lies: not in the maker's box. -/
theorem Mk.form {W0 w : World} {m : Nat} {gs : List S86} {op : Bool} {v : Value} (h : Mk W0 m gs op v w) (hp : 0 < gs.length) : ∃ g cap, v = .slice (some ⟨g, 0, none⟩) gs.length cap ∧ W0.heap.size ≤ g ∧ g < w.heap.size ∧ g ≠ m := by
  obtain ⟨g, cap, e, h1, h2, cs, h3⟩ := Kd.S_form h.row hp
  refine ⟨g, cap, e, h1, h2, ?_⟩
  rintro rfl
  rw [h.box] at h3
  simp at h3
theorem Mk.shut {W0 w : World} {m : Nat} {gs : List S86} {op : Bool} {v : Value} (h : Mk W0 m gs op v w) (op' : Bool) : Mk W0 m gs op' v (w.setCell ⟨m, 1, none⟩ (.bool op')) :=
  ⟨blk_put h.box 1 _ rfl, h.base, Kd.S_set h.row h.box (by decide) 1 _, below_set h.below h.base⟩
def lastG (gs : List S86) : S86 := gs.getD (gs.length - 1) z86
def setG (gs : List S86) (x : S86) : List S86 := gs.set (gs.length - 1) x
/-- One more whom the last group is for. -/
def agentG (gs : List S86) (op : Bool) (nm : ByteArray) : List S86 :=
  setG (if op then gs else gs ++ [z86]) { lastG (if op then gs else gs ++ [z86]) with f0 := (lastG (if op then gs else gs ++ [z86])).f0 ++ [⟨(lowL nm.data.toList).toArray⟩] }
theorem Mk.step {W0 w w' : World} {m : Nat} {gs : List S86} {op : Bool} {v : Value} (h : Mk W0 m gs op v w) (hb : Below w.heap.size w w') : Mk W0 m gs op v w' :=
  ⟨blk_below h.box hb, h.base, Kd.S_below h.row hb, below_step h.below hb⟩
theorem Mk.len {W0 w : World} {m : Nat} {gs : List S86} {op : Bool} {v : Value} (h : Mk W0 m gs op v w) : ∃ A c, v = .slice A gs.length c := Kd.S_slice h.row
def sAllow : List UInt8 := [97, 108, 108, 111, 119]
def sDis : List UInt8 := [100, 105, 115, 97, 108, 108, 111, 119]
def sDelay : List UInt8 := [99, 114, 97, 119, 108, 45, 100, 101, 108, 97, 121]
/-- What the last group is told. -/
def addG (gs : List S86) (op : Bool) (l : S35) : List S86 × Bool :=
  if gs = [] then (gs, op)
  else if (l.f0.toList == sAllow) = true ∨ (l.f0.toList == sDis) = true then
    (if l.f1.toList.isEmpty = false ∧ (lastG gs).f1.length < 64 then setG gs { lastG gs with f1 := (lastG gs).f1 ++ [⟨l.f0.toList == sAllow, l.f1⟩] } else gs, false)
  else if (l.f0.toList == sDelay) = true then
    (if (delayV l.f1.data.toList).2 = true then setG gs { lastG gs with f2 := max (lastG gs).f2 ((delayV l.f1.data.toList).1 : Int) } else gs, false)
  else (gs, op)

set_option maxHeartbeats 8000000 in
set_option maxRecDepth 1000000 in
theorem agent_calls (W0 w : World) (m : Nat) (gs : List S86) (op : Bool) (v : Value) (nm : ByteArray) (h : Mk W0 m gs op v w) (hn : nm.size ≤ 140737488351232) (hl : gs.length < 1000000) (hl0 : ∀ x ∈ gs, x.f0.length < 1000000) (hop : op = true → gs ≠ []) :
    Calls Tryd.prog 31 #[.pointer (some ⟨m, 0, none⟩), .string nm] w fun e w' => e = .returned (.tuple #[]) ∧ ∃ v', Mk W0 m (agentG gs op nm) true v' w' := by
  have hB := h.base
  have HL := Aside0.mk (show lines_lower.f nm = some ⟨(lowL nm.data.toList).toArray⟩ by rw [lines_lower.f, if_pos hn])
  have HMK := Aside0.mk h
  cases op with
  | false =>
    have hc0 := blk_cell h.box 0
    have hc1 := blk_cell h.box 1
    have hf0 := blk_frozen h.box 0
    have hf1 := blk_frozen h.box 1
    simp only [List.getElem?_toArray, List.getElem?_cons_zero, List.getElem?_cons_succ] at hc0 hc1
    clear h
    go_enter Tryd.func31, Tryd.ntmps31
    go_wp2_with (first
      | ((with_reducible refine gate_builtin (b := .append) (xs := #[.tmp 15, .tmp 17]) rfl ?_); at_builtin; (refine Kd.S_append k86 (w0 := W0) W0.heap.size rfl (.tmp 15) (.tmp 17) 40 86 (.agg #[.slice none 0 0, .slice none 0 0, .int .i64 0]) 56 rfl Tryd.underlying40 info86 rfl (by decide) (by omega) v gs z86 [.slice none 0 0, .slice none 0 0, .int .i64 0] (fun k_ => k_ ≠ m) (fun _ => False) rfl rfl (k86_mkM _ _ _ z86 (Kd.R_nil _ _ _ _ _) (Kd.R_nil _ _ _ _ _)) (fun _ hk => hk.elim) (Kd.freshB HMK.out.box) (Kd.S_mono (Kd.S_types HMK.out.row HMK.out.box (by decide)) (fun _ hk => ⟨hk.2, fun h => h⟩)) HMK.out.below HMK.out.below.size (by omega) ?_); intro v1 w1 ho hb hg hat; have hm1 := blk_grown HMK.out.box hg (Kd.S_away (Kd.S_mono (Kd.S_types HMK.out.row HMK.out.box (by decide)) (fun _ hk => hk.2)) (fun _ hk => hk)); obtain ⟨g1, cap1, rfl, hg1, hg1l, cells1, hcells1⟩ := Kd.S_form ho (by simp); simp only [List.length_append, List.length_singleton] at ho; have hfa := blk_frozen hm1 0; have hfb := blk_frozen hm1 1; have hca := blk_cell hm1 0; have hcb := blk_cell hm1 1; simp only [List.getElem?_toArray, List.getElem?_cons_zero, List.getElem?_cons_succ] at hca hcb; clear hat hg hcells1))
    have hB1 := hg1
    have HMk : Mk W0 m (gs ++ [z86]) true (.slice (some ⟨g1, 0, none⟩) (gs.length + 1) cap1) ((w1.setCell ⟨m, 0, none⟩ (.slice (some ⟨g1, 0, none⟩) (gs.length + 1) cap1)).setCell ⟨m, 1, none⟩ (.bool true)) :=
      ⟨blk_put (blk_put hm1 0 _ rfl) 1 _ rfl, hB, Kd.S_mono (Kd.S_far (p := ⟨m, 1, none⟩) (Kd.S_far (p := ⟨m, 0, none⟩) ho (fun _ hk => hk) _) (fun _ hk => hk) _) (fun _ _ => trivial), below_set (below_set hb hB) hB⟩
    have hg1m : g1 ≠ m := by obtain ⟨g', c', e', _, _, hne'⟩ := HMk.form (by simp); rw [Value.slice.injEq] at e'; have e2 := e'.1; simp at e2; rw [e2]; exact hne'
    have hfin : agentG gs false nm = setG (gs ++ [z86]) { lastG (gs ++ [z86]) with f0 := (lastG (gs ++ [z86])).f0 ++ [⟨(lowL nm.data.toList).toArray⟩] } := rfl
    have hl0' : (lastG (gs ++ [z86])).f0.length < 1000000 := by simp [lastG, z86]
    have hnG : gs.length + 1 = (gs ++ [z86]).length := by simp
    have hgs : 0 < (gs ++ [z86]).length := by simp
    have hll : (gs ++ [z86]).length < 1000001 := by simp; omega
    generalize gs ++ [z86] = G at *
    generalize gs.length + 1 = n at *
    generalize ((w1.setCell ⟨m, 0, none⟩ (.slice (some ⟨g1, 0, none⟩) n cap1)).setCell ⟨m, 1, none⟩ (.bool true)) = w2 at *
    subst hnG
    clear ho hb hm1 hfa hfb hca hcb hc0 hc1 hf0 hf1
    obtain ⟨hm2, _, hS2, hb2⟩ := HMk
    obtain ⟨oki, e0, e1, R0, R1, hcA, hcB, hcC, hfr, hne, hH⟩ := last_open86 hS2 hgs
    have hw1 : wrap64 ((G.length : Int) - 1) = ((G.length - 1 : Nat) : Int) := by simp only [wrap64]; omega
    have hw2 : IntKind.i64.wrap ((G.length : Int) - 1) = ((G.length - 1 : Nat) : Int) := by rw [i64_w]; exact hw1
    have hlt1 : (((G.length - 1 : Nat) : Int) < (G.length : Int)) = True := eq_true (by omega)
    have hc0 := blk_cell hm2 0
    simp only [List.getElem?_toArray, List.getElem?_cons_zero] at hc0
    have hadd : (⟨g1, 0, none⟩ : Addr).add ((G.length - 1) * 3) = ⟨g1, (G.length - 1) * 3, none⟩ := by unfold Addr.add; split <;> simp_all
    have HH := Aside0.mk hH
    have HR0 := Aside0.mk R0
    have HR1 := Aside0.mk R1
    have Hm2 := Aside0.mk hm2
    clear hH R0 R1 hS2 hm2
    go_wp2
    go_region
    go_wp2
    have HH3 := Aside0.mk (Kd.H_drew (Kd.H_drew HH.out))
    have HR03 := Aside0.mk (Kd.R_drew (Kd.R_drew HR0.out))
    have HR13 := Aside0.mk (Kd.R_drew (Kd.R_drew HR1.out))
    have Hm3 := Aside0.mk (show w2.drew.drew.heap[m]? = _ from Hm2.out)
    have HB3 := Aside0.mk (below_drew1 (below_drew1 hb2))
    have hcA3 : w2.drew.drew.cell? ⟨g1, (G.length - 1) * 3, none⟩ = some e0 := hcA
    have hfr3 : w2.drew.drew.frozen? ⟨g1, (G.length - 1) * 3, none⟩ = false := hfr 0
    refine start_ (n := 12) (S := fun w' => w'.cell? ⟨g1, (G.length - 1) * 3, none⟩ = some e0) (ds := [11]) #[false, false, false, false, false, false, false, false, false, false, false, false] (by kernel_rfl) rfl rfl hcA3 (fun hHeld => ?_)
    generalize w2.drew.drew = w3 at HH3 HR03 HR13 Hm3 HB3 hcA3 hfr3 hHeld ⊢
    clear HH HR0 HR1 Hm2 hcA hcB hcC hfr hc0
    refine pure_ (i := 0) (N := some 34) (v := ?_) (a' := ?_) #[true, false, false, false, false, false, false, false, false, false, false, false] rfl rfl (by kernel_rfl) (fun _ _ _ h => h) (Or.inl ⟨by rfl, ?_⟩) ?_ ?_
    rotate_left
    · intro w'
      go_simp
      with_reducible rfl
    rotate_left
    · simp only [Act.put, List.setIfInBounds_toArray, List.set_cons_zero, List.set_cons_succ, i64_w, i32_w]
      rfl
    refine pure_ (i := 1) (N := some 35) (v := ?_) (a' := ?_) #[true, true, false, false, false, false, false, false, false, false, false, false] rfl rfl (by kernel_rfl) (fun _ _ _ h => h) (Or.inl ⟨by rfl, ?_⟩) ?_ ?_
    rotate_left
    · intro w'
      go_simp
      with_reducible rfl
    rotate_left
    · simp only [Act.put, List.setIfInBounds_toArray, List.set_cons_zero, List.set_cons_succ, i64_w, i32_w]
      rfl
    refine pure_ (i := 2) (N := some 36) (v := ?_) (a' := ?_) #[true, true, true, false, false, false, false, false, false, false, false, false] rfl rfl (by kernel_rfl) (fun _ _ _ h => h) (Or.inl ⟨by rfl, ?_⟩) ?_ ?_
    rotate_left
    · intro w'
      go_simp
      with_reducible rfl
    rotate_left
    · simp only [Act.put, List.setIfInBounds_toArray, List.set_cons_zero, List.set_cons_succ, i64_w, i32_w]
      rfl
    refine pure_ (i := 3) (N := some 37) (v := ?_) (a' := ?_) #[true, true, true, true, false, false, false, false, false, false, false, false] rfl rfl (by kernel_rfl) (fun _ _ _ h => h) (Or.inl ⟨by rfl, ?_⟩) ?_ ?_
    rotate_left
    · intro w'
      go_simp
      with_reducible rfl
    rotate_left
    · simp only [Act.put, List.setIfInBounds_toArray, List.set_cons_zero, List.set_cons_succ, i64_w, i32_w]
      rfl
    refine pure_ (i := 5) (N := some 39) (v := ?_) (a' := ?_) #[true, true, true, true, false, true, false, false, false, false, false, false] rfl rfl (by kernel_rfl) (fun _ _ _ h => h) (Or.inl ⟨by rfl, ?_⟩) ?_ ?_
    rotate_left
    · intro w'
      go_simp
      with_reducible rfl
    rotate_left
    · simp only [Act.put, List.setIfInBounds_toArray, List.set_cons_zero, List.set_cons_succ, i64_w, i32_w]
      rfl
    refine take_ (i := 4) (N := some 38) (v := ?_) (a' := ?_) #[true, true, true, true, true, true, false, false, false, false, false, false] rfl rfl (by kernel_rfl) (fun _ _ _ h => h) (Or.inl ⟨by rfl, ?_⟩) hHeld ?_ ?_
    rotate_left
    · rintro w' s0
      go_simp
      with_reducible rfl
    rotate_left
    · simp only [Act.put, List.setIfInBounds_toArray, List.set_cons_zero, List.set_cons_succ, i64_w, i32_w]
      rfl
    refine one_ (i := 6) (N := some 40) #[true, true, true, true, true, true, true, false, false, false, false, false] rfl rfl (by kernel_rfl) (by decide) (fun K hK => ?_)
    refine goes_ Tryd.func41 (by kernel_rfl) rfl #[.string nm] (by rfl) rfl rfl (by (try simp only [List.map_toArray, List.map_cons, List.map_nil]); first | done | rfl) ?_
    with_reducible refine (lines_lower.calls nm _ _ HL.out).mono ?_
    rintro e w4 ⟨rfl, hb4⟩
    refine ⟨_, rfl, ?_⟩
    have HH4 := Aside0.mk (Kd.H_below HH3.out hb4)
    have HR04 := Aside0.mk (Kd.R_below HR03.out hb4)
    have HR14 := Aside0.mk (Kd.R_below HR13.out hb4)
    have Hm4 := Aside0.mk (blk_below Hm3.out hb4)
    have HB4 := Aside0.mk (below_step HB3.out hb4)
    have hcA4 := (hb4.cell (World.block_lt_of_cell? _ _ hcA3)).trans hcA3
    have hfr4 : w4.frozen? ⟨g1, (G.length - 1) * 3, none⟩ = false := (World.frozen?_of_block (w := w3) (hb4.block g1 (World.block_lt_of_cell? _ _ hcA3))).trans hfr3
    clear HH3 HR03 HR13 Hm3 HB3 hcA3 hfr3 hb4
    refine hK.out _ _ hcA4 (fun hHeld => ?_)
    clear hK K
    refine norm_ (a' := ?_) ?_ ?_
    rotate_left
    · show Act.put _ (some 40) _ = _
      simp only [Act.put, List.setIfInBounds_toArray, List.set_cons_zero, List.set_cons_succ, i64_w, i32_w]
      rfl
    refine one_ (i := 7) (N := some 41) #[true, true, true, true, true, true, true, true, false, false, false, false] rfl rfl (by kernel_rfl) (by decide) (fun K hK => ?_)
    refine value_ (w1 := ?_) (v := ?_) (by rfl) rfl ?_ ?_
    rotate_left 2
    · go_simp
      constructor
      · rfl
      · rfl
    refine hK.out _ _ ((World.cell?_alloc_lt _ _ _ (World.block_lt_of_cell? _ _ hcA4)).trans hcA4) (fun hHeld => ?_)
    clear hK K
    refine norm_ (a' := ?_) ?_ ?_
    rotate_left
    · show Act.put _ (some 41) _ = _
      simp only [Act.put, List.setIfInBounds_toArray, List.set_cons_zero, List.set_cons_succ, i64_w, i32_w]
      rfl
    refine one_ (i := 8) (N := some 42) #[true, true, true, true, true, true, true, true, true, false, false, false] rfl rfl (by kernel_rfl) (by decide) (fun K hK => ?_)
    refine Kd.R_append_step Kd.string (w0 := W0) W0.heap.size (by rfl) (.tmp 38) (.tmp 41) 49 9 (.string ⟨#[]⟩) 16 rfl Tryd.underlying49 info9 rfl (by decide) (by omega) e0 (G.getD (G.length - 1) z86).f0 ⟨(lowL nm.data.toList).toArray⟩ [.string ⟨(lowL nm.data.toList).toArray⟩] (fun k => oki k ∨ True ∧ w4.heap.size ≤ k) (fun _ => False) rfl rfl rfl (fun _ hk => hk.elim) (fun k hk => .inr ⟨trivial, hk⟩) (Kd.R_mono HR04.out (fun _ hk => .inl hk)) HB4.out HB4.out.size (by have := hl0'; simp only [lastG] at this; omega) ?_
    intro v1 w5 ho hb5 hg hat
    have hgne : some g1 ≠ e0.ownBlock := fun e => hne g1 (HR04.out.1 g1 e.symm) rfl
    have HH5 := Aside0.mk (Kd.H_grown (Kd.H_widen HH4.out) hg (fun k hk => .inl (HR04.out.1 k hk)))
    have HR15 := Aside0.mk (Kd.R_mono (ok' := fun k => oki k ∨ True ∧ w4.heap.size ≤ k) (Kd.R_over' HR14.out (Kd.R_typed HR04.out) (by decide) hg) (fun _ hk => .inl hk))
    have Hm5 := Aside0.mk (blk_grown Hm4.out hg (Kd.R_ne HR04.out Hm4.out (by decide)))
    have hbk := hg.block g1 (World.block_lt_of_cell? _ _ hcA4) hgne
    have hcA5 : w5.cell? ⟨g1, (G.length - 1) * 3, none⟩ = some e0 := (World.cell?_of_block (w := w4) hbk).trans hcA4
    have hfr5 : w5.frozen? ⟨g1, (G.length - 1) * 3, none⟩ = false := (World.frozen?_of_block (w := w4) hbk).trans hfr4
    have hlt4 : Hid (g1 < w4.heap.size) := World.block_lt_of_cell? _ _ hcA4
    have ho5 := Aside0.mk ho
    have hone := (Kd.R_val ho).2
    have hv1 : ∃ A n c, v1 = .slice A n c := by obtain ⟨A, c, e⟩ := Kd.R_slice ho; exact ⟨A, _, c, e⟩
    refine hK.out _ _ hcA5 (fun hHeld => ?_)
    clear hK K
    refine norm_ (a' := ?_) ?_ ?_
    rotate_left
    · show Act.put _ (some 42) _ = _
      simp only [Act.put, List.setIfInBounds_toArray, List.set_cons_zero, List.set_cons_succ, i64_w, i32_w]
      rfl
    clear HH4 HR04 HR14 Hm4 HB4 hcA4 hfr4 hgne hg hat hbk ho
    obtain ⟨A1, N1, c1, rfl⟩ := hv1
    refine pure_ (i := 9) (N := some 43) (v := ?_) (a' := ?_) #[true, true, true, true, true, true, true, true, true, true, false, false] rfl rfl (by kernel_rfl) (fun _ _ _ h => h) (Or.inl ⟨by rfl, ?_⟩) ?_ ?_
    rotate_left
    · intro w'
      go_simp
      with_reducible rfl
    rotate_left
    · simp only [Act.put, List.setIfInBounds_toArray, List.set_cons_zero, List.set_cons_succ, i64_w, i32_w]
      rfl
    refine pure_ (i := 10) (N := some 44) (v := ?_) (a' := ?_) #[true, true, true, true, true, true, true, true, true, true, true, false] rfl rfl (by kernel_rfl) (fun _ _ _ h => h) (Or.inl ⟨by rfl, ?_⟩) ?_ ?_
    rotate_left
    · intro w'
      go_simp
      with_reducible rfl
    rotate_left
    · simp only [Act.put, List.setIfInBounds_toArray, List.set_cons_zero, List.set_cons_succ, i64_w, i32_w]
      rfl
    refine last_ (i := 11) (N := none) #[true, true, true, true, true, true, true, true, true, true, true, true] rfl rfl (by kernel_rfl) (by decide) (fun K hK => ?_)
    refine skip_ (w1 := ?_) (by rfl) rfl ?_ ?_
    rotate_left
    · go_simp
      rfl
    refine hK.out _ _ ?_
    clear hK K
    refine done_ (by kernel_rfl) ?_
    go_wp2
    go_end0
    have hput := last_put86 HH5.out hgs 0 (by omega) _ hone { lastG G with f0 := (lastG G).f0 ++ [⟨(lowL nm.data.toList).toArray⟩] } (k86_mkM _ _ _ _ ho5.out HR15.out) (fun k hk => hk.elim (hne k) (fun h e => by have := hlt4.out; have := h.2; omega))
    rw [hfin]
    rw [Nat.add_zero] at hput
    exact ⟨rfl, _, ⟨blk_far Hm5.out (Ne.symm hg1m) _, hB, hput.1, hb5.setCell (hB1) _⟩⟩
  | true =>
    have hgs : 0 < gs.length := List.length_pos_iff.mpr (hop rfl)
    obtain ⟨g1, cap1, rfl, hg1, _, hg1m⟩ := h.form hgs
    have hB1 := hg1
    have hc1 := blk_cell h.box 1
    simp only [List.getElem?_toArray, List.getElem?_cons_zero, List.getElem?_cons_succ] at hc1
    have HMk := h
    clear h
    have hfin : agentG gs true nm = setG gs { lastG gs with f0 := (lastG gs).f0 ++ [⟨(lowL nm.data.toList).toArray⟩] } := rfl
    have hl0' : (lastG gs).f0.length < 1000000 := by
      have : lastG gs ∈ gs := by
        unfold lastG
        rw [List.getD_eq_getElem?_getD, List.getElem?_eq_getElem (by omega)]
        exact List.getElem_mem _
      exact hl0 _ this
    have hll : gs.length < 1000001 := by omega
    go_enter Tryd.func31, Tryd.ntmps31
    go_upto_region 2 with (fail)
    clear hc1
    obtain ⟨hm2, _, hS2, hb2⟩ := HMk
    obtain ⟨oki, e0, e1, R0, R1, hcA, hcB, hcC, hfr, hne, hH⟩ := last_open86 hS2 hgs
    have hw1 : wrap64 ((gs.length : Int) - 1) = ((gs.length - 1 : Nat) : Int) := by simp only [wrap64]; omega
    have hw2 : IntKind.i64.wrap ((gs.length : Int) - 1) = ((gs.length - 1 : Nat) : Int) := by rw [i64_w]; exact hw1
    have hlt1 : (((gs.length - 1 : Nat) : Int) < (gs.length : Int)) = True := eq_true (by omega)
    have hc0 := blk_cell hm2 0
    simp only [List.getElem?_toArray, List.getElem?_cons_zero] at hc0
    have hadd : (⟨g1, 0, none⟩ : Addr).add ((gs.length - 1) * 3) = ⟨g1, (gs.length - 1) * 3, none⟩ := by unfold Addr.add; split <;> simp_all
    have HH := Aside0.mk hH
    have HR0 := Aside0.mk R0
    have HR1 := Aside0.mk R1
    have Hm2 := Aside0.mk hm2
    clear hH R0 R1 hS2 hm2
    go_wp2
    go_region
    go_wp2
    have HH3 := Aside0.mk (Kd.H_drew (Kd.H_drew HH.out))
    have HR03 := Aside0.mk (Kd.R_drew (Kd.R_drew HR0.out))
    have HR13 := Aside0.mk (Kd.R_drew (Kd.R_drew HR1.out))
    have Hm3 := Aside0.mk (show w.drew.drew.heap[m]? = _ from Hm2.out)
    have HB3 := Aside0.mk (below_drew1 (below_drew1 hb2))
    have hcA3 : w.drew.drew.cell? ⟨g1, (gs.length - 1) * 3, none⟩ = some e0 := hcA
    have hfr3 : w.drew.drew.frozen? ⟨g1, (gs.length - 1) * 3, none⟩ = false := hfr 0
    refine start_ (n := 12) (S := fun w' => w'.cell? ⟨g1, (gs.length - 1) * 3, none⟩ = some e0) (ds := [11]) #[false, false, false, false, false, false, false, false, false, false, false, false] (by kernel_rfl) rfl rfl hcA3 (fun hHeld => ?_)
    generalize w.drew.drew = w3 at HH3 HR03 HR13 Hm3 HB3 hcA3 hfr3 hHeld ⊢
    clear HH HR0 HR1 Hm2 hcA hcB hcC hfr hc0
    refine pure_ (i := 0) (N := some 34) (v := ?_) (a' := ?_) #[true, false, false, false, false, false, false, false, false, false, false, false] rfl rfl (by kernel_rfl) (fun _ _ _ h => h) (Or.inl ⟨by rfl, ?_⟩) ?_ ?_
    rotate_left
    · intro w'
      go_simp
      with_reducible rfl
    rotate_left
    · simp only [Act.put, List.setIfInBounds_toArray, List.set_cons_zero, List.set_cons_succ, i64_w, i32_w]
      rfl
    refine pure_ (i := 1) (N := some 35) (v := ?_) (a' := ?_) #[true, true, false, false, false, false, false, false, false, false, false, false] rfl rfl (by kernel_rfl) (fun _ _ _ h => h) (Or.inl ⟨by rfl, ?_⟩) ?_ ?_
    rotate_left
    · intro w'
      go_simp
      with_reducible rfl
    rotate_left
    · simp only [Act.put, List.setIfInBounds_toArray, List.set_cons_zero, List.set_cons_succ, i64_w, i32_w]
      rfl
    refine pure_ (i := 2) (N := some 36) (v := ?_) (a' := ?_) #[true, true, true, false, false, false, false, false, false, false, false, false] rfl rfl (by kernel_rfl) (fun _ _ _ h => h) (Or.inl ⟨by rfl, ?_⟩) ?_ ?_
    rotate_left
    · intro w'
      go_simp
      with_reducible rfl
    rotate_left
    · simp only [Act.put, List.setIfInBounds_toArray, List.set_cons_zero, List.set_cons_succ, i64_w, i32_w]
      rfl
    refine pure_ (i := 3) (N := some 37) (v := ?_) (a' := ?_) #[true, true, true, true, false, false, false, false, false, false, false, false] rfl rfl (by kernel_rfl) (fun _ _ _ h => h) (Or.inl ⟨by rfl, ?_⟩) ?_ ?_
    rotate_left
    · intro w'
      go_simp
      with_reducible rfl
    rotate_left
    · simp only [Act.put, List.setIfInBounds_toArray, List.set_cons_zero, List.set_cons_succ, i64_w, i32_w]
      rfl
    refine pure_ (i := 5) (N := some 39) (v := ?_) (a' := ?_) #[true, true, true, true, false, true, false, false, false, false, false, false] rfl rfl (by kernel_rfl) (fun _ _ _ h => h) (Or.inl ⟨by rfl, ?_⟩) ?_ ?_
    rotate_left
    · intro w'
      go_simp
      with_reducible rfl
    rotate_left
    · simp only [Act.put, List.setIfInBounds_toArray, List.set_cons_zero, List.set_cons_succ, i64_w, i32_w]
      rfl
    refine take_ (i := 4) (N := some 38) (v := ?_) (a' := ?_) #[true, true, true, true, true, true, false, false, false, false, false, false] rfl rfl (by kernel_rfl) (fun _ _ _ h => h) (Or.inl ⟨by rfl, ?_⟩) hHeld ?_ ?_
    rotate_left
    · rintro w' s0
      go_simp
      with_reducible rfl
    rotate_left
    · simp only [Act.put, List.setIfInBounds_toArray, List.set_cons_zero, List.set_cons_succ, i64_w, i32_w]
      rfl
    refine one_ (i := 6) (N := some 40) #[true, true, true, true, true, true, true, false, false, false, false, false] rfl rfl (by kernel_rfl) (by decide) (fun K hK => ?_)
    refine goes_ Tryd.func41 (by kernel_rfl) rfl #[.string nm] (by rfl) rfl rfl (by (try simp only [List.map_toArray, List.map_cons, List.map_nil]); first | done | rfl) ?_
    with_reducible refine (lines_lower.calls nm _ _ HL.out).mono ?_
    rintro e w4 ⟨rfl, hb4⟩
    refine ⟨_, rfl, ?_⟩
    have HH4 := Aside0.mk (Kd.H_below HH3.out hb4)
    have HR04 := Aside0.mk (Kd.R_below HR03.out hb4)
    have HR14 := Aside0.mk (Kd.R_below HR13.out hb4)
    have Hm4 := Aside0.mk (blk_below Hm3.out hb4)
    have HB4 := Aside0.mk (below_step HB3.out hb4)
    have hcA4 := (hb4.cell (World.block_lt_of_cell? _ _ hcA3)).trans hcA3
    have hfr4 : w4.frozen? ⟨g1, (gs.length - 1) * 3, none⟩ = false := (World.frozen?_of_block (w := w3) (hb4.block g1 (World.block_lt_of_cell? _ _ hcA3))).trans hfr3
    clear HH3 HR03 HR13 Hm3 HB3 hcA3 hfr3 hb4
    refine hK.out _ _ hcA4 (fun hHeld => ?_)
    clear hK K
    refine norm_ (a' := ?_) ?_ ?_
    rotate_left
    · show Act.put _ (some 40) _ = _
      simp only [Act.put, List.setIfInBounds_toArray, List.set_cons_zero, List.set_cons_succ, i64_w, i32_w]
      rfl
    refine one_ (i := 7) (N := some 41) #[true, true, true, true, true, true, true, true, false, false, false, false] rfl rfl (by kernel_rfl) (by decide) (fun K hK => ?_)
    refine value_ (w1 := ?_) (v := ?_) (by rfl) rfl ?_ ?_
    rotate_left 2
    · go_simp
      constructor
      · rfl
      · rfl
    refine hK.out _ _ ((World.cell?_alloc_lt _ _ _ (World.block_lt_of_cell? _ _ hcA4)).trans hcA4) (fun hHeld => ?_)
    clear hK K
    refine norm_ (a' := ?_) ?_ ?_
    rotate_left
    · show Act.put _ (some 41) _ = _
      simp only [Act.put, List.setIfInBounds_toArray, List.set_cons_zero, List.set_cons_succ, i64_w, i32_w]
      rfl
    refine one_ (i := 8) (N := some 42) #[true, true, true, true, true, true, true, true, true, false, false, false] rfl rfl (by kernel_rfl) (by decide) (fun K hK => ?_)
    refine Kd.R_append_step Kd.string (w0 := W0) W0.heap.size (by rfl) (.tmp 38) (.tmp 41) 49 9 (.string ⟨#[]⟩) 16 rfl Tryd.underlying49 info9 rfl (by decide) (by omega) e0 (gs.getD (gs.length - 1) z86).f0 ⟨(lowL nm.data.toList).toArray⟩ [.string ⟨(lowL nm.data.toList).toArray⟩] (fun k => oki k ∨ True ∧ w4.heap.size ≤ k) (fun _ => False) rfl rfl rfl (fun _ hk => hk.elim) (fun k hk => .inr ⟨trivial, hk⟩) (Kd.R_mono HR04.out (fun _ hk => .inl hk)) HB4.out HB4.out.size (by have := hl0'; simp only [lastG] at this; omega) ?_
    intro v1 w5 ho hb5 hg hat
    have hgne : some g1 ≠ e0.ownBlock := fun e => hne g1 (HR04.out.1 g1 e.symm) rfl
    have HH5 := Aside0.mk (Kd.H_grown (Kd.H_widen HH4.out) hg (fun k hk => .inl (HR04.out.1 k hk)))
    have HR15 := Aside0.mk (Kd.R_mono (ok' := fun k => oki k ∨ True ∧ w4.heap.size ≤ k) (Kd.R_over' HR14.out (Kd.R_typed HR04.out) (by decide) hg) (fun _ hk => .inl hk))
    have Hm5 := Aside0.mk (blk_grown Hm4.out hg (Kd.R_ne HR04.out Hm4.out (by decide)))
    have hbk := hg.block g1 (World.block_lt_of_cell? _ _ hcA4) hgne
    have hcA5 : w5.cell? ⟨g1, (gs.length - 1) * 3, none⟩ = some e0 := (World.cell?_of_block (w := w4) hbk).trans hcA4
    have hfr5 : w5.frozen? ⟨g1, (gs.length - 1) * 3, none⟩ = false := (World.frozen?_of_block (w := w4) hbk).trans hfr4
    have hlt4 : Hid (g1 < w4.heap.size) := World.block_lt_of_cell? _ _ hcA4
    have ho5 := Aside0.mk ho
    have hone := (Kd.R_val ho).2
    have hv1 : ∃ A n c, v1 = .slice A n c := by obtain ⟨A, c, e⟩ := Kd.R_slice ho; exact ⟨A, _, c, e⟩
    refine hK.out _ _ hcA5 (fun hHeld => ?_)
    clear hK K
    refine norm_ (a' := ?_) ?_ ?_
    rotate_left
    · show Act.put _ (some 42) _ = _
      simp only [Act.put, List.setIfInBounds_toArray, List.set_cons_zero, List.set_cons_succ, i64_w, i32_w]
      rfl
    clear HH4 HR04 HR14 Hm4 HB4 hcA4 hfr4 hgne hg hat hbk ho
    obtain ⟨A1, N1, c1, rfl⟩ := hv1
    refine pure_ (i := 9) (N := some 43) (v := ?_) (a' := ?_) #[true, true, true, true, true, true, true, true, true, true, false, false] rfl rfl (by kernel_rfl) (fun _ _ _ h => h) (Or.inl ⟨by rfl, ?_⟩) ?_ ?_
    rotate_left
    · intro w'
      go_simp
      with_reducible rfl
    rotate_left
    · simp only [Act.put, List.setIfInBounds_toArray, List.set_cons_zero, List.set_cons_succ, i64_w, i32_w]
      rfl
    refine pure_ (i := 10) (N := some 44) (v := ?_) (a' := ?_) #[true, true, true, true, true, true, true, true, true, true, true, false] rfl rfl (by kernel_rfl) (fun _ _ _ h => h) (Or.inl ⟨by rfl, ?_⟩) ?_ ?_
    rotate_left
    · intro w'
      go_simp
      with_reducible rfl
    rotate_left
    · simp only [Act.put, List.setIfInBounds_toArray, List.set_cons_zero, List.set_cons_succ, i64_w, i32_w]
      rfl
    refine last_ (i := 11) (N := none) #[true, true, true, true, true, true, true, true, true, true, true, true] rfl rfl (by kernel_rfl) (by decide) (fun K hK => ?_)
    refine skip_ (w1 := ?_) (by rfl) rfl ?_ ?_
    rotate_left
    · go_simp
      rfl
    refine hK.out _ _ ?_
    clear hK K
    refine done_ (by kernel_rfl) ?_
    go_wp2
    go_end0
    have hput := last_put86 HH5.out hgs 0 (by omega) _ hone { lastG gs with f0 := (lastG gs).f0 ++ [⟨(lowL nm.data.toList).toArray⟩] } (k86_mkM _ _ _ _ ho5.out HR15.out) (fun k hk => hk.elim (hne k) (fun h e => by have := hlt4.out; have := h.2; omega))
    rw [hfin]
    rw [Nat.add_zero] at hput
    exact ⟨rfl, _, ⟨blk_far Hm5.out (Ne.symm hg1m) _, hB, hput.1, hb5.setCell (hB1) _⟩⟩

set_option maxHeartbeats 8000000 in
set_option maxRecDepth 1000000 in
theorem add_calls (W0 w : World) (m : Nat) (gs : List S86) (op : Bool) (v : Value) (l : S35) (h : Mk W0 m gs op v w) (hn : l.f1.size < 4294967281) (hl : gs.length < 1000000) (hS_ : Shp W0) :
    Calls Tryd.prog 32 #[.pointer (some ⟨m, 0, none⟩), .agg #[.string l.f0, .string l.f1]] w fun e w' => e = .returned (.tuple #[]) ∧ Mk W0 m (addG gs op l).1 (addG gs op l).2 v w' := by
  obtain ⟨kk, vv⟩ := l
  have hB := h.base
  have HSH := Aside0.mk hS_
  clear hS_
  have HM0 := Aside0.mk h
  by_cases hgs0 : gs = []
  · subst hgs0
    obtain ⟨A, c, rfl⟩ := h.len
    simp only [List.length_nil] at *
    clear h
    go_enter Tryd.func32, Tryd.ntmps32
    go_wp2_with (first | ((with_reducible refine gate_dst (N := 3) rfl ?_); refine box_event ?hg (N := 3) ?hd (cs := #[.string kk, .string vv]) (t := 35) ?hr ?_; (case hd => rfl); (case hg => rfl); (case hr => first | (go_simp; done) | (go_simp; rfl)); intro b3 hb3 w1 hbox hb; have HMK := Aside0.mk (HM0.out.step hb); have hc0 := blk_cell HMK.out.box 0; have hc1 := blk_cell HMK.out.box 1; have hf0 := blk_frozen HMK.out.box 0; have hf1 := blk_frozen HMK.out.box 1; simp only [List.getElem?_toArray, List.getElem?_cons_zero, List.getElem?_cons_succ] at hc0 hc1; have hk0 := blk_cell hbox 0; have hk1 := blk_cell hbox 1; simp only [List.getElem?_toArray, List.getElem?_cons_zero, List.getElem?_cons_succ] at hk0 hk1; have Hk := Aside0.mk hbox; clear hbox hb))
    refine bodyPost_ret (results_none rfl _ _ _) rfl ?_
    exact ⟨rfl, by simpa [addG] using HMK.out⟩
  have hgs : 0 < gs.length := List.length_pos_iff.mpr hgs0
  obtain ⟨g1, cap1, rfl, hg1, hg1l, hg1m⟩ := h.form hgs
  have hbm : w.heap.size ≠ m := by have := blk_lt h.box; omega
  have hbg : w.heap.size ≠ g1 := by omega
  clear h
  have hw1 : wrap64 ((gs.length : Int) - 1) = ((gs.length - 1 : Nat) : Int) := by simp only [wrap64]; omega
  have hw2 : IntKind.i64.wrap ((gs.length : Int) - 1) = ((gs.length - 1 : Nat) : Int) := by rw [i64_w]; exact hw1
  have hlt1 : (((gs.length - 1 : Nat) : Int) < (gs.length : Int)) = True := eq_true (by omega)
  have hadd : (⟨g1, 0, none⟩ : Addr).add ((gs.length - 1) * 3) = ⟨g1, (gs.length - 1) * 3, none⟩ := by unfold Addr.add; split <;> simp_all
  have hn0 : ((gs.length : Int) == 0) = false := by simp; exact hgs0
  go_enter Tryd.func32, Tryd.ntmps32
  go_upto_region 2 with (first | ((with_reducible refine gate_dst (N := 3) rfl ?_); refine box_event ?hg (N := 3) ?hd (cs := #[.string kk, .string vv]) (t := 35) ?hr ?_; (case hd => rfl); (case hg => rfl); (case hr => first | (go_simp; done) | (go_simp; rfl)); intro b3 hb3 w1 hbox hb; have HMK := Aside0.mk (HM0.out.step hb); have hc0 := blk_cell HMK.out.box 0; have hc1 := blk_cell HMK.out.box 1; have hf0 := blk_frozen HMK.out.box 0; have hf1 := blk_frozen HMK.out.box 1; simp only [List.getElem?_toArray, List.getElem?_cons_zero, List.getElem?_cons_succ] at hc0 hc1; have hk0 := blk_cell hbox 0; have hk1 := blk_cell hbox 1; simp only [List.getElem?_toArray, List.getElem?_cons_zero, List.getElem?_cons_succ] at hk0 hk1; have Hk := Aside0.mk hbox; clear hbox hb))
  go_wp2
  go_region
  have HMK2 : Aside0 (Mk W0 m gs op (.slice (some ⟨g1, 0, none⟩) gs.length cap1) w1.drew) := ⟨HMK.out.step (below_drew1 (Below.refl _ _))⟩
  have Hk2 : Aside0 (w1.drew.heap[w.heap.size]? = some (.cells #[.string kk, .string vv] 35 (0, 0))) := ⟨by rw [← hb3]; exact Hk.out⟩
  generalize w1.drew = w2 at HMK2 Hk2 ⊢
  clear hc0 hc1 hf0 hf1 hk0 hk1 HMK Hk
  have hc0 := blk_cell HMK2.out.box 0
  have hc1 := blk_cell HMK2.out.box 1
  have hf0 := blk_frozen HMK2.out.box 0
  have hf1 := blk_frozen HMK2.out.box 1
  have hk0 := blk_cell Hk2.out 0
  have hk1 := blk_cell Hk2.out 1
  simp only [List.getElem?_toArray, List.getElem?_cons_zero, List.getElem?_cons_succ] at hc0 hc1 hk0 hk1
  clear hb3
  try clear b3
  by_cases hA : (kk.toList == sAllow) = true ∨ (kk.toList == sDis) = true
  · have hAD : ∃ isA : Bool, (kk.toList == sAllow) = isA ∧ ((kk.toList == [97, 108, 108, 111, 119]) = true ∧ isA = true ∨ (kk.toList == [97, 108, 108, 111, 119]) = false ∧ (kk.toList == [100, 105, 115, 97, 108, 108, 111, 119]) = true ∧ isA = false) := by
      cases h1 : (kk.toList == sAllow) with
      | true => exact ⟨true, rfl, .inl ⟨h1, rfl⟩⟩
      | false => exact ⟨false, rfl, .inr ⟨h1, by rcases hA with h | h; rw [h1] at h; cases h; exact h, rfl⟩⟩
    obtain ⟨isA, hisA, hAD⟩ := hAD
    rcases hAD with ⟨hk, rfl⟩ | ⟨hk, hk', rfl⟩
    · have hfin1 : ∀ x, (if vv.toList.isEmpty = false ∧ (lastG gs).f1.length < 64 then setG gs { lastG gs with f1 := (lastG gs).f1 ++ [⟨kk.toList == sAllow, vv⟩] } else gs) = x → addG gs op ⟨kk, vv⟩ = (x, false) := by intro x hx; simp only [addG]; rw [if_neg hgs0, if_pos hA, hx]
      rw [hisA] at hfin1
      clear hA hisA
      go_upto_region 7 with (fail)
      have HM3 := Aside0.mk (HMK2.out.shut false)
      have Hk3 := Aside0.mk (blk_far Hk2.out (p := ⟨m, 1, none⟩) hbm (.bool false))
      generalize (w2.setCell ⟨m, 1, none⟩ (.bool false)) = w3 at HM3 Hk3 ⊢
      clear hc0 hc1 hf0 hf1 hk0 hk1 HMK2 Hk2
      have hk0 := blk_cell Hk3.out 0
      have hk1 := blk_cell Hk3.out 1
      simp only [List.getElem?_toArray, List.getElem?_cons_zero, List.getElem?_cons_succ] at hk0 hk1
      obtain ⟨oki, e0, e1, R0, R1, hcA, hcB, hcC, hfr, hne, hH⟩ := last_open86 HM3.out.row hgs
      obtain ⟨A1, c1, he1⟩ := Kd.R_slice R1
      obtain ⟨N1, hN1⟩ : ∃ N, N = (gs.getD (gs.length - 1) z86).f1.length := ⟨_, rfl⟩
      rw [← hN1] at he1
      subst he1
      replace hN1 : Hid (N1 = (gs.getD (gs.length - 1) z86).f1.length) := hN1
      by_cases hv : vv.toList.isEmpty = false ∧ N1 < 64
      · obtain ⟨hv1, hv2⟩ := hv
        have hfin := hfin1 _ (if_pos ⟨hv1, by have := hN1.out; show (gs.getD (gs.length - 1) z86).f1.length < 64; omega⟩)
        have hv3 : ((N1 : Int) < 64) = True := eq_true (by omega)
        have hv4 : (vv.toList = []) = False := eq_false (by intro e; rw [e] at hv1; cases hv1)
        have HH := Aside0.mk hH
        have HR0 := Aside0.mk R0
        have HR1 := Aside0.mk R1
        have hB2 := HM3.out.below
        have hcB0 := hcB
        have hfr1 := hfr 1
        clear hH R0 R1 hcA hcC hfr hfin1
        go_wp2
        have HH3 := Aside0.mk (Kd.H_drew HH.out)
        have HR03 := Aside0.mk (Kd.R_drew HR0.out)
        have HR13 := Aside0.mk (Kd.R_drew HR1.out)
        have HM4 := Aside0.mk (HM3.out.step (below_drew1 (Below.refl _ _)))
        have hcB3 : w3.drew.cell? ⟨g1, (gs.length - 1) * 3 + 1, none⟩ = some (.slice A1 N1 c1) := hcB
        have hfr3 : w3.drew.frozen? ⟨g1, (gs.length - 1) * 3 + 1, none⟩ = false := hfr1
        have hk03 : w3.drew.cell? ⟨w.heap.size, 0, none⟩ = some (.string kk) := hk0
        have hk13 : w3.drew.cell? ⟨w.heap.size, 1, none⟩ = some (.string vv) := hk1
        have Hk4 : Aside0 (w3.drew.heap[w.heap.size]? = some (.cells #[.string kk, .string vv] 35 (0, 0))) := ⟨Hk3.out⟩
        refine start_ (n := 16) (S := fun w' => w'.cell? ⟨g1, (gs.length - 1) * 3 + 1, none⟩ = some (.slice A1 N1 c1) ∧ w'.cell? ⟨w.heap.size, 0, none⟩ = some (.string kk) ∧ w'.cell? ⟨w.heap.size, 1, none⟩ = some (.string vv)) (ds := [15]) #[false, false, false, false, false, false, false, false, false, false, false, false, false, false, false, false] (by kernel_rfl) rfl rfl ⟨hcB3, hk03, hk13⟩ (fun hHeld => ?_)
        generalize w3.drew = w4 at HH3 HR03 HR13 HM4 Hk4 hcB3 hfr3 hk03 hk13 hHeld ⊢
        clear HH HR0 HR1 hcB hcB0 hfr1 hk0 hk1 HM3 Hk3
        refine pure_ (i := 0) (N := some 43) (v := ?_) (a' := ?_) #[true, false, false, false, false, false, false, false, false, false, false, false, false, false, false, false] rfl rfl (by kernel_rfl) (fun _ _ _ h => h) (Or.inl ⟨by rfl, ?_⟩) ?_ ?_
        rotate_left
        · intro w'
          go_simp
          with_reducible rfl
        rotate_left
        · simp only [Act.put, List.setIfInBounds_toArray, List.set_cons_zero, List.set_cons_succ, i64_w, i32_w]
          rfl
        refine pure_ (i := 1) (N := some 44) (v := ?_) (a' := ?_) #[true, true, false, false, false, false, false, false, false, false, false, false, false, false, false, false] rfl rfl (by kernel_rfl) (fun _ _ _ h => h) (Or.inl ⟨by rfl, ?_⟩) ?_ ?_
        rotate_left
        · intro w'
          go_simp
          with_reducible rfl
        rotate_left
        · simp only [Act.put, List.setIfInBounds_toArray, List.set_cons_zero, List.set_cons_succ, i64_w, i32_w]
          rfl
        refine pure_ (i := 2) (N := some 45) (v := ?_) (a' := ?_) #[true, true, true, false, false, false, false, false, false, false, false, false, false, false, false, false] rfl rfl (by kernel_rfl) (fun _ _ _ h => h) (Or.inl ⟨by rfl, ?_⟩) ?_ ?_
        rotate_left
        · intro w'
          go_simp
          with_reducible rfl
        rotate_left
        · simp only [Act.put, List.setIfInBounds_toArray, List.set_cons_zero, List.set_cons_succ, i64_w, i32_w]
          rfl
        refine pure_ (i := 3) (N := some 46) (v := ?_) (a' := ?_) #[true, true, true, true, false, false, false, false, false, false, false, false, false, false, false, false] rfl rfl (by kernel_rfl) (fun _ _ _ h => h) (Or.inl ⟨by rfl, ?_⟩) ?_ ?_
        rotate_left
        · intro w'
          go_simp
          with_reducible rfl
        rotate_left
        · simp only [Act.put, List.setIfInBounds_toArray, List.set_cons_zero, List.set_cons_succ, i64_w, i32_w]
          rfl
        refine pure_ (i := 5) (N := some 48) (v := ?_) (a' := ?_) #[true, true, true, true, false, true, false, false, false, false, false, false, false, false, false, false] rfl rfl (by kernel_rfl) (fun _ _ _ h => h) (Or.inl ⟨by rfl, ?_⟩) ?_ ?_
        rotate_left
        · intro w'
          go_simp
          with_reducible rfl
        rotate_left
        · simp only [Act.put, List.setIfInBounds_toArray, List.set_cons_zero, List.set_cons_succ, i64_w, i32_w]
          rfl
        refine pure_ (i := 8) (N := some 51) (v := ?_) (a' := ?_) #[true, true, true, true, false, true, false, false, true, false, false, false, false, false, false, false] rfl rfl (by kernel_rfl) (fun _ _ _ h => h) (Or.inl ⟨by rfl, ?_⟩) ?_ ?_
        rotate_left
        · intro w'
          go_simp
          with_reducible rfl
        rotate_left
        · simp only [Act.put, List.setIfInBounds_toArray, List.set_cons_zero, List.set_cons_succ, i64_w, i32_w]
          rfl
        refine take_ (i := 4) (N := some 47) (v := ?_) (a' := ?_) #[true, true, true, true, true, true, false, false, true, false, false, false, false, false, false, false] rfl rfl (by kernel_rfl) (fun _ _ _ h => h) (Or.inl ⟨by rfl, ?_⟩) hHeld ?_ ?_
        rotate_left
        · rintro w' ⟨s0, s1, s2⟩
          go_simp
          with_reducible rfl
        rotate_left
        · simp only [Act.put, List.setIfInBounds_toArray, List.set_cons_zero, List.set_cons_succ, i64_w, i32_w]
          rfl
        refine take_ (i := 6) (N := some 49) (v := ?_) (a' := ?_) #[true, true, true, true, true, true, true, false, true, false, false, false, false, false, false, false] rfl rfl (by kernel_rfl) (fun _ _ _ h => h) (Or.inl ⟨by rfl, ?_⟩) hHeld ?_ ?_
        rotate_left
        · rintro w' ⟨s0, s1, s2⟩
          go_simp
          with_reducible rfl
        rotate_left
        · simp only [Act.put, List.setIfInBounds_toArray, List.set_cons_zero, List.set_cons_succ, i64_w, i32_w]
          rfl
        refine take_ (i := 9) (N := some 52) (v := ?_) (a' := ?_) #[true, true, true, true, true, true, true, false, true, true, false, false, false, false, false, false] rfl rfl (by kernel_rfl) (fun _ _ _ h => h) (Or.inl ⟨by rfl, ?_⟩) hHeld ?_ ?_
        rotate_left
        · rintro w' ⟨s0, s1, s2⟩
          go_simp
          with_reducible rfl
        rotate_left
        · simp only [Act.put, List.setIfInBounds_toArray, List.set_cons_zero, List.set_cons_succ, i64_w, i32_w]
          rfl
        refine pure_ (i := 7) (N := some 50) (v := ?_) (a' := ?_) #[true, true, true, true, true, true, true, true, true, true, false, false, false, false, false, false] rfl rfl (by kernel_rfl) (fun _ _ _ h => h) (Or.inl ⟨by rfl, ?_⟩) ?_ ?_
        rotate_left
        · intro w'
          go_simp
          with_reducible rfl
        rotate_left
        · simp only [Act.put, List.setIfInBounds_toArray, List.set_cons_zero, List.set_cons_succ, i64_w, i32_w]
          rfl
        refine pure_ (i := 10) (N := some 53) (v := ?_) (a' := ?_) #[true, true, true, true, true, true, true, true, true, true, true, false, false, false, false, false] rfl rfl (by kernel_rfl) (fun _ _ _ h => h) (Or.inl ⟨by rfl, ?_⟩) ?_ ?_
        rotate_left
        · intro w'
          go_simp
          with_reducible rfl
        rotate_left
        · simp only [Act.put, List.setIfInBounds_toArray, List.set_cons_zero, List.set_cons_succ, i64_w, i32_w]
          rfl
        refine one_ (i := 11) (N := some 54) #[true, true, true, true, true, true, true, true, true, true, true, true, false, false, false, false] rfl rfl (by kernel_rfl) (by decide) (fun K hK => ?_)
        refine value_ (w1 := ?_) (v := ?_) (by rfl) rfl ?_ ?_
        rotate_left 2
        · go_simp
          constructor
          · rfl
          · rfl
        refine hK.out _ _ ⟨(World.cell?_alloc_lt _ _ _ (World.block_lt_of_cell? _ _ hcB3)).trans hcB3, (World.cell?_alloc_lt _ _ _ (World.block_lt_of_cell? _ _ hk03)).trans hk03, (World.cell?_alloc_lt _ _ _ (World.block_lt_of_cell? _ _ hk13)).trans hk13⟩ (fun hHeld => ?_)
        clear hK K
        refine norm_ (a' := ?_) ?_ ?_
        rotate_left
        · show Act.put _ (some 54) _ = _
          simp only [Act.put, List.setIfInBounds_toArray, List.set_cons_zero, List.set_cons_succ, i64_w, i32_w]
          rfl
        refine one_ (i := 12) (N := some 55) #[true, true, true, true, true, true, true, true, true, true, true, true, true, false, false, false] rfl rfl (by kernel_rfl) (by decide) (fun K hK => ?_)
        refine Kd.R_append_step k30 (w0 := W0) W0.heap.size (by rfl) (.tmp 47) (.tmp 54) 24 30 (.agg #[.bool false, .string ⟨#[]⟩]) 24 rfl Tryd.underlying24 info30 rfl (by decide) (by omega) (.slice A1 N1 c1) (gs.getD (gs.length - 1) z86).f1 ⟨true, vv⟩ [.bool true, .string vv] (fun k => oki k ∨ True ∧ w4.heap.size ≤ k) (fun _ => False) rfl rfl (k30_mkM _ _ _ _) (fun _ hk => hk.elim) (fun k hk => .inr ⟨trivial, hk⟩) (Kd.R_mono HR13.out (fun _ hk => .inl hk)) HM4.out.below HM4.out.below.size (by have := hN1.out; omega) ?_
        intro v1 w5 ho hb5 hg hat
        have hgne : some g1 ≠ (Value.slice A1 N1 c1).ownBlock := fun e => hne g1 (HR13.out.1 g1 e.symm) rfl
        have HH5 := Aside0.mk (Kd.H_grown (Kd.H_widen HH3.out) hg (fun k hk => .inl (HR13.out.1 k hk)))
        have HR05 := Aside0.mk (Kd.R_mono (ok' := fun k => oki k ∨ True ∧ w4.heap.size ≤ k) (Kd.R_over' HR03.out (Kd.R_typed HR13.out) (by decide) hg) (fun _ hk => .inl hk))
        have Hm5 := Aside0.mk (blk_grown HM4.out.box hg (Kd.R_ne HR13.out HM4.out.box (by decide)))
        have hbk := hg.block g1 (World.block_lt_of_cell? _ _ hcB3) hgne
        have hbk3 := hg.block w.heap.size (World.block_lt_of_cell? _ _ hk03) (Kd.R_ne HR13.out Hk4.out (by decide))
        have hcB5 : w5.cell? ⟨g1, (gs.length - 1) * 3 + 1, none⟩ = some (.slice A1 N1 c1) := (World.cell?_of_block (w := w4) hbk).trans hcB3
        have hfr5 : w5.frozen? ⟨g1, (gs.length - 1) * 3 + 1, none⟩ = false := (World.frozen?_of_block (w := w4) hbk).trans hfr3
        have hk05 : w5.cell? ⟨w.heap.size, 0, none⟩ = some (.string kk) := (World.cell?_of_block (w := w4) hbk3).trans hk03
        have hk15 : w5.cell? ⟨w.heap.size, 1, none⟩ = some (.string vv) := (World.cell?_of_block (w := w4) hbk3).trans hk13
        have hlt4 : Hid (g1 < w4.heap.size) := World.block_lt_of_cell? _ _ hcB3
        have ho5 := Aside0.mk ho
        have hone := (Kd.R_val ho).2
        have hv1 : ∃ A n c, v1 = .slice A n c := by obtain ⟨A, c, e⟩ := Kd.R_slice ho; exact ⟨A, _, c, e⟩
        refine hK.out _ _ ⟨hcB5, hk05, hk15⟩ (fun hHeld => ?_)
        clear hK K
        refine norm_ (a' := ?_) ?_ ?_
        rotate_left
        · show Act.put _ (some 55) _ = _
          simp only [Act.put, List.setIfInBounds_toArray, List.set_cons_zero, List.set_cons_succ, i64_w, i32_w]
          rfl
        clear HH3 HR03 HR13 HM4 hcB3 hfr3 hgne hg hat hbk hbk3 ho hk03 hk13
        obtain ⟨A2, N2, c2, rfl⟩ := hv1
        refine pure_ (i := 13) (N := some 56) (v := ?_) (a' := ?_) #[true, true, true, true, true, true, true, true, true, true, true, true, true, true, false, false] rfl rfl (by kernel_rfl) (fun _ _ _ h => h) (Or.inl ⟨by rfl, ?_⟩) ?_ ?_
        rotate_left
        · intro w'
          go_simp
          with_reducible rfl
        rotate_left
        · simp only [Act.put, List.setIfInBounds_toArray, List.set_cons_zero, List.set_cons_succ, i64_w, i32_w]
          rfl
        refine pure_ (i := 14) (N := some 57) (v := ?_) (a' := ?_) #[true, true, true, true, true, true, true, true, true, true, true, true, true, true, true, false] rfl rfl (by kernel_rfl) (fun _ _ _ h => h) (Or.inl ⟨by rfl, ?_⟩) ?_ ?_
        rotate_left
        · intro w'
          go_simp
          with_reducible rfl
        rotate_left
        · simp only [Act.put, List.setIfInBounds_toArray, List.set_cons_zero, List.set_cons_succ, i64_w, i32_w]
          rfl
        refine last_ (i := 15) (N := none) #[true, true, true, true, true, true, true, true, true, true, true, true, true, true, true, true] rfl rfl (by kernel_rfl) (by decide) (fun K hK => ?_)
        refine skip_ (w1 := ?_) (by rfl) rfl ?_ ?_
        rotate_left
        · go_simp
          rfl
        refine hK.out _ _ ?_
        clear hK K
        refine done_ (by kernel_rfl) ?_
        go_wp2
        go_end0
        have hput := last_put86 HH5.out hgs 1 (by omega) _ hone { lastG gs with f1 := (lastG gs).f1 ++ [⟨true, vv⟩] } (k86_mkM _ _ _ ({ lastG gs with f1 := (lastG gs).f1 ++ [⟨true, vv⟩] } : S86) HR05.out ho5.out) (fun k hk => hk.elim (hne k) (fun h e => by have := hlt4.out; have := h.2; omega))
        rw [hfin]
        exact ⟨rfl, ⟨blk_far Hm5.out (Ne.symm hg1m) _, hB, hput.1, hb5.setCell hg1 _⟩⟩
      · have hfin := hfin1 _ (if_neg (fun hh => hv ⟨hh.1, by have h2 : (gs.getD (gs.length - 1) z86).f1.length < 64 := hh.2; have := hN1.out; omega⟩))
        have key : vv.toList.isEmpty = true ∨ (vv.toList.isEmpty = false ∧ ((N1 : Int) < 64) = False) := by cases h : vv.toList.isEmpty; exact .inr ⟨rfl, eq_false (fun h2 => hv ⟨h, by omega⟩)⟩; exact .inl rfl
        clear hH R0 R1 hcA hcC hfr hfin1 hv
        rcases key with hv1 | ⟨hv1, hv3⟩
        · have hv4 : (vv.toList = []) = True := eq_true (by simpa using hv1)
          go_wp2
          go_end0
          rw [hfin]
          exact ⟨rfl, HM3.out⟩
        · have hv4 : (vv.toList = []) = False := eq_false (by intro e; rw [e] at hv1; cases hv1)
          go_wp2
          go_end0
          rw [hfin]
          exact ⟨rfl, HM3.out⟩
    · have hfin1 : ∀ x, (if vv.toList.isEmpty = false ∧ (lastG gs).f1.length < 64 then setG gs { lastG gs with f1 := (lastG gs).f1 ++ [⟨kk.toList == sAllow, vv⟩] } else gs) = x → addG gs op ⟨kk, vv⟩ = (x, false) := by intro x hx; simp only [addG]; rw [if_neg hgs0, if_pos hA, hx]
      rw [hisA] at hfin1
      clear hA hisA
      go_upto_region 7 with (fail)
      have HM3 := Aside0.mk (HMK2.out.shut false)
      have Hk3 := Aside0.mk (blk_far Hk2.out (p := ⟨m, 1, none⟩) hbm (.bool false))
      generalize (w2.setCell ⟨m, 1, none⟩ (.bool false)) = w3 at HM3 Hk3 ⊢
      clear hc0 hc1 hf0 hf1 hk0 hk1 HMK2 Hk2
      have hk0 := blk_cell Hk3.out 0
      have hk1 := blk_cell Hk3.out 1
      simp only [List.getElem?_toArray, List.getElem?_cons_zero, List.getElem?_cons_succ] at hk0 hk1
      obtain ⟨oki, e0, e1, R0, R1, hcA, hcB, hcC, hfr, hne, hH⟩ := last_open86 HM3.out.row hgs
      obtain ⟨A1, c1, he1⟩ := Kd.R_slice R1
      obtain ⟨N1, hN1⟩ : ∃ N, N = (gs.getD (gs.length - 1) z86).f1.length := ⟨_, rfl⟩
      rw [← hN1] at he1
      subst he1
      replace hN1 : Hid (N1 = (gs.getD (gs.length - 1) z86).f1.length) := hN1
      by_cases hv : vv.toList.isEmpty = false ∧ N1 < 64
      · obtain ⟨hv1, hv2⟩ := hv
        have hfin := hfin1 _ (if_pos ⟨hv1, by have := hN1.out; show (gs.getD (gs.length - 1) z86).f1.length < 64; omega⟩)
        have hv3 : ((N1 : Int) < 64) = True := eq_true (by omega)
        have hv4 : (vv.toList = []) = False := eq_false (by intro e; rw [e] at hv1; cases hv1)
        have HH := Aside0.mk hH
        have HR0 := Aside0.mk R0
        have HR1 := Aside0.mk R1
        have hB2 := HM3.out.below
        have hcB0 := hcB
        have hfr1 := hfr 1
        clear hH R0 R1 hcA hcC hfr hfin1
        go_wp2
        have HH3 := Aside0.mk (Kd.H_drew HH.out)
        have HR03 := Aside0.mk (Kd.R_drew HR0.out)
        have HR13 := Aside0.mk (Kd.R_drew HR1.out)
        have HM4 := Aside0.mk (HM3.out.step (below_drew1 (Below.refl _ _)))
        have hcB3 : w3.drew.cell? ⟨g1, (gs.length - 1) * 3 + 1, none⟩ = some (.slice A1 N1 c1) := hcB
        have hfr3 : w3.drew.frozen? ⟨g1, (gs.length - 1) * 3 + 1, none⟩ = false := hfr1
        have hk03 : w3.drew.cell? ⟨w.heap.size, 0, none⟩ = some (.string kk) := hk0
        have hk13 : w3.drew.cell? ⟨w.heap.size, 1, none⟩ = some (.string vv) := hk1
        have Hk4 : Aside0 (w3.drew.heap[w.heap.size]? = some (.cells #[.string kk, .string vv] 35 (0, 0))) := ⟨Hk3.out⟩
        refine start_ (n := 16) (S := fun w' => w'.cell? ⟨g1, (gs.length - 1) * 3 + 1, none⟩ = some (.slice A1 N1 c1) ∧ w'.cell? ⟨w.heap.size, 0, none⟩ = some (.string kk) ∧ w'.cell? ⟨w.heap.size, 1, none⟩ = some (.string vv)) (ds := [15]) #[false, false, false, false, false, false, false, false, false, false, false, false, false, false, false, false] (by kernel_rfl) rfl rfl ⟨hcB3, hk03, hk13⟩ (fun hHeld => ?_)
        generalize w3.drew = w4 at HH3 HR03 HR13 HM4 Hk4 hcB3 hfr3 hk03 hk13 hHeld ⊢
        clear HH HR0 HR1 hcB hcB0 hfr1 hk0 hk1 HM3 Hk3
        refine pure_ (i := 0) (N := some 43) (v := ?_) (a' := ?_) #[true, false, false, false, false, false, false, false, false, false, false, false, false, false, false, false] rfl rfl (by kernel_rfl) (fun _ _ _ h => h) (Or.inl ⟨by rfl, ?_⟩) ?_ ?_
        rotate_left
        · intro w'
          go_simp
          with_reducible rfl
        rotate_left
        · simp only [Act.put, List.setIfInBounds_toArray, List.set_cons_zero, List.set_cons_succ, i64_w, i32_w]
          rfl
        refine pure_ (i := 1) (N := some 44) (v := ?_) (a' := ?_) #[true, true, false, false, false, false, false, false, false, false, false, false, false, false, false, false] rfl rfl (by kernel_rfl) (fun _ _ _ h => h) (Or.inl ⟨by rfl, ?_⟩) ?_ ?_
        rotate_left
        · intro w'
          go_simp
          with_reducible rfl
        rotate_left
        · simp only [Act.put, List.setIfInBounds_toArray, List.set_cons_zero, List.set_cons_succ, i64_w, i32_w]
          rfl
        refine pure_ (i := 2) (N := some 45) (v := ?_) (a' := ?_) #[true, true, true, false, false, false, false, false, false, false, false, false, false, false, false, false] rfl rfl (by kernel_rfl) (fun _ _ _ h => h) (Or.inl ⟨by rfl, ?_⟩) ?_ ?_
        rotate_left
        · intro w'
          go_simp
          with_reducible rfl
        rotate_left
        · simp only [Act.put, List.setIfInBounds_toArray, List.set_cons_zero, List.set_cons_succ, i64_w, i32_w]
          rfl
        refine pure_ (i := 3) (N := some 46) (v := ?_) (a' := ?_) #[true, true, true, true, false, false, false, false, false, false, false, false, false, false, false, false] rfl rfl (by kernel_rfl) (fun _ _ _ h => h) (Or.inl ⟨by rfl, ?_⟩) ?_ ?_
        rotate_left
        · intro w'
          go_simp
          with_reducible rfl
        rotate_left
        · simp only [Act.put, List.setIfInBounds_toArray, List.set_cons_zero, List.set_cons_succ, i64_w, i32_w]
          rfl
        refine pure_ (i := 5) (N := some 48) (v := ?_) (a' := ?_) #[true, true, true, true, false, true, false, false, false, false, false, false, false, false, false, false] rfl rfl (by kernel_rfl) (fun _ _ _ h => h) (Or.inl ⟨by rfl, ?_⟩) ?_ ?_
        rotate_left
        · intro w'
          go_simp
          with_reducible rfl
        rotate_left
        · simp only [Act.put, List.setIfInBounds_toArray, List.set_cons_zero, List.set_cons_succ, i64_w, i32_w]
          rfl
        refine pure_ (i := 8) (N := some 51) (v := ?_) (a' := ?_) #[true, true, true, true, false, true, false, false, true, false, false, false, false, false, false, false] rfl rfl (by kernel_rfl) (fun _ _ _ h => h) (Or.inl ⟨by rfl, ?_⟩) ?_ ?_
        rotate_left
        · intro w'
          go_simp
          with_reducible rfl
        rotate_left
        · simp only [Act.put, List.setIfInBounds_toArray, List.set_cons_zero, List.set_cons_succ, i64_w, i32_w]
          rfl
        refine take_ (i := 4) (N := some 47) (v := ?_) (a' := ?_) #[true, true, true, true, true, true, false, false, true, false, false, false, false, false, false, false] rfl rfl (by kernel_rfl) (fun _ _ _ h => h) (Or.inl ⟨by rfl, ?_⟩) hHeld ?_ ?_
        rotate_left
        · rintro w' ⟨s0, s1, s2⟩
          go_simp
          with_reducible rfl
        rotate_left
        · simp only [Act.put, List.setIfInBounds_toArray, List.set_cons_zero, List.set_cons_succ, i64_w, i32_w]
          rfl
        refine take_ (i := 6) (N := some 49) (v := ?_) (a' := ?_) #[true, true, true, true, true, true, true, false, true, false, false, false, false, false, false, false] rfl rfl (by kernel_rfl) (fun _ _ _ h => h) (Or.inl ⟨by rfl, ?_⟩) hHeld ?_ ?_
        rotate_left
        · rintro w' ⟨s0, s1, s2⟩
          go_simp
          with_reducible rfl
        rotate_left
        · simp only [Act.put, List.setIfInBounds_toArray, List.set_cons_zero, List.set_cons_succ, i64_w, i32_w]
          rfl
        refine take_ (i := 9) (N := some 52) (v := ?_) (a' := ?_) #[true, true, true, true, true, true, true, false, true, true, false, false, false, false, false, false] rfl rfl (by kernel_rfl) (fun _ _ _ h => h) (Or.inl ⟨by rfl, ?_⟩) hHeld ?_ ?_
        rotate_left
        · rintro w' ⟨s0, s1, s2⟩
          go_simp
          with_reducible rfl
        rotate_left
        · simp only [Act.put, List.setIfInBounds_toArray, List.set_cons_zero, List.set_cons_succ, i64_w, i32_w]
          rfl
        refine pure_ (i := 7) (N := some 50) (v := ?_) (a' := ?_) #[true, true, true, true, true, true, true, true, true, true, false, false, false, false, false, false] rfl rfl (by kernel_rfl) (fun _ _ _ h => h) (Or.inl ⟨by rfl, ?_⟩) ?_ ?_
        rotate_left
        · intro w'
          go_simp
          with_reducible rfl
        rotate_left
        · simp only [Act.put, List.setIfInBounds_toArray, List.set_cons_zero, List.set_cons_succ, i64_w, i32_w]
          rfl
        refine pure_ (i := 10) (N := some 53) (v := ?_) (a' := ?_) #[true, true, true, true, true, true, true, true, true, true, true, false, false, false, false, false] rfl rfl (by kernel_rfl) (fun _ _ _ h => h) (Or.inl ⟨by rfl, ?_⟩) ?_ ?_
        rotate_left
        · intro w'
          go_simp
          with_reducible rfl
        rotate_left
        · simp only [Act.put, List.setIfInBounds_toArray, List.set_cons_zero, List.set_cons_succ, i64_w, i32_w]
          rfl
        refine one_ (i := 11) (N := some 54) #[true, true, true, true, true, true, true, true, true, true, true, true, false, false, false, false] rfl rfl (by kernel_rfl) (by decide) (fun K hK => ?_)
        refine value_ (w1 := ?_) (v := ?_) (by rfl) rfl ?_ ?_
        rotate_left 2
        · go_simp
          constructor
          · rfl
          · rfl
        refine hK.out _ _ ⟨(World.cell?_alloc_lt _ _ _ (World.block_lt_of_cell? _ _ hcB3)).trans hcB3, (World.cell?_alloc_lt _ _ _ (World.block_lt_of_cell? _ _ hk03)).trans hk03, (World.cell?_alloc_lt _ _ _ (World.block_lt_of_cell? _ _ hk13)).trans hk13⟩ (fun hHeld => ?_)
        clear hK K
        refine norm_ (a' := ?_) ?_ ?_
        rotate_left
        · show Act.put _ (some 54) _ = _
          simp only [Act.put, List.setIfInBounds_toArray, List.set_cons_zero, List.set_cons_succ, i64_w, i32_w]
          rfl
        refine one_ (i := 12) (N := some 55) #[true, true, true, true, true, true, true, true, true, true, true, true, true, false, false, false] rfl rfl (by kernel_rfl) (by decide) (fun K hK => ?_)
        refine Kd.R_append_step k30 (w0 := W0) W0.heap.size (by rfl) (.tmp 47) (.tmp 54) 24 30 (.agg #[.bool false, .string ⟨#[]⟩]) 24 rfl Tryd.underlying24 info30 rfl (by decide) (by omega) (.slice A1 N1 c1) (gs.getD (gs.length - 1) z86).f1 ⟨false, vv⟩ [.bool false, .string vv] (fun k => oki k ∨ True ∧ w4.heap.size ≤ k) (fun _ => False) rfl rfl (k30_mkM _ _ _ _) (fun _ hk => hk.elim) (fun k hk => .inr ⟨trivial, hk⟩) (Kd.R_mono HR13.out (fun _ hk => .inl hk)) HM4.out.below HM4.out.below.size (by have := hN1.out; omega) ?_
        intro v1 w5 ho hb5 hg hat
        have hgne : some g1 ≠ (Value.slice A1 N1 c1).ownBlock := fun e => hne g1 (HR13.out.1 g1 e.symm) rfl
        have HH5 := Aside0.mk (Kd.H_grown (Kd.H_widen HH3.out) hg (fun k hk => .inl (HR13.out.1 k hk)))
        have HR05 := Aside0.mk (Kd.R_mono (ok' := fun k => oki k ∨ True ∧ w4.heap.size ≤ k) (Kd.R_over' HR03.out (Kd.R_typed HR13.out) (by decide) hg) (fun _ hk => .inl hk))
        have Hm5 := Aside0.mk (blk_grown HM4.out.box hg (Kd.R_ne HR13.out HM4.out.box (by decide)))
        have hbk := hg.block g1 (World.block_lt_of_cell? _ _ hcB3) hgne
        have hbk3 := hg.block w.heap.size (World.block_lt_of_cell? _ _ hk03) (Kd.R_ne HR13.out Hk4.out (by decide))
        have hcB5 : w5.cell? ⟨g1, (gs.length - 1) * 3 + 1, none⟩ = some (.slice A1 N1 c1) := (World.cell?_of_block (w := w4) hbk).trans hcB3
        have hfr5 : w5.frozen? ⟨g1, (gs.length - 1) * 3 + 1, none⟩ = false := (World.frozen?_of_block (w := w4) hbk).trans hfr3
        have hk05 : w5.cell? ⟨w.heap.size, 0, none⟩ = some (.string kk) := (World.cell?_of_block (w := w4) hbk3).trans hk03
        have hk15 : w5.cell? ⟨w.heap.size, 1, none⟩ = some (.string vv) := (World.cell?_of_block (w := w4) hbk3).trans hk13
        have hlt4 : Hid (g1 < w4.heap.size) := World.block_lt_of_cell? _ _ hcB3
        have ho5 := Aside0.mk ho
        have hone := (Kd.R_val ho).2
        have hv1 : ∃ A n c, v1 = .slice A n c := by obtain ⟨A, c, e⟩ := Kd.R_slice ho; exact ⟨A, _, c, e⟩
        refine hK.out _ _ ⟨hcB5, hk05, hk15⟩ (fun hHeld => ?_)
        clear hK K
        refine norm_ (a' := ?_) ?_ ?_
        rotate_left
        · show Act.put _ (some 55) _ = _
          simp only [Act.put, List.setIfInBounds_toArray, List.set_cons_zero, List.set_cons_succ, i64_w, i32_w]
          rfl
        clear HH3 HR03 HR13 HM4 hcB3 hfr3 hgne hg hat hbk hbk3 ho hk03 hk13
        obtain ⟨A2, N2, c2, rfl⟩ := hv1
        refine pure_ (i := 13) (N := some 56) (v := ?_) (a' := ?_) #[true, true, true, true, true, true, true, true, true, true, true, true, true, true, false, false] rfl rfl (by kernel_rfl) (fun _ _ _ h => h) (Or.inl ⟨by rfl, ?_⟩) ?_ ?_
        rotate_left
        · intro w'
          go_simp
          with_reducible rfl
        rotate_left
        · simp only [Act.put, List.setIfInBounds_toArray, List.set_cons_zero, List.set_cons_succ, i64_w, i32_w]
          rfl
        refine pure_ (i := 14) (N := some 57) (v := ?_) (a' := ?_) #[true, true, true, true, true, true, true, true, true, true, true, true, true, true, true, false] rfl rfl (by kernel_rfl) (fun _ _ _ h => h) (Or.inl ⟨by rfl, ?_⟩) ?_ ?_
        rotate_left
        · intro w'
          go_simp
          with_reducible rfl
        rotate_left
        · simp only [Act.put, List.setIfInBounds_toArray, List.set_cons_zero, List.set_cons_succ, i64_w, i32_w]
          rfl
        refine last_ (i := 15) (N := none) #[true, true, true, true, true, true, true, true, true, true, true, true, true, true, true, true] rfl rfl (by kernel_rfl) (by decide) (fun K hK => ?_)
        refine skip_ (w1 := ?_) (by rfl) rfl ?_ ?_
        rotate_left
        · go_simp
          rfl
        refine hK.out _ _ ?_
        clear hK K
        refine done_ (by kernel_rfl) ?_
        go_wp2
        go_end0
        have hput := last_put86 HH5.out hgs 1 (by omega) _ hone { lastG gs with f1 := (lastG gs).f1 ++ [⟨false, vv⟩] } (k86_mkM _ _ _ ({ lastG gs with f1 := (lastG gs).f1 ++ [⟨false, vv⟩] } : S86) HR05.out ho5.out) (fun k hk => hk.elim (hne k) (fun h e => by have := hlt4.out; have := h.2; omega))
        rw [hfin]
        exact ⟨rfl, ⟨blk_far Hm5.out (Ne.symm hg1m) _, hB, hput.1, hb5.setCell hg1 _⟩⟩
      · have hfin := hfin1 _ (if_neg (fun hh => hv ⟨hh.1, by have h2 : (gs.getD (gs.length - 1) z86).f1.length < 64 := hh.2; have := hN1.out; omega⟩))
        have key : vv.toList.isEmpty = true ∨ (vv.toList.isEmpty = false ∧ ((N1 : Int) < 64) = False) := by cases h : vv.toList.isEmpty; exact .inr ⟨rfl, eq_false (fun h2 => hv ⟨h, by omega⟩)⟩; exact .inl rfl
        clear hH R0 R1 hcA hcC hfr hfin1 hv
        rcases key with hv1 | ⟨hv1, hv3⟩
        · have hv4 : (vv.toList = []) = True := eq_true (by simpa using hv1)
          go_wp2
          go_end0
          rw [hfin]
          exact ⟨rfl, HM3.out⟩
        · have hv4 : (vv.toList = []) = False := eq_false (by intro e; rw [e] at hv1; cases hv1)
          go_wp2
          go_end0
          rw [hfin]
          exact ⟨rfl, HM3.out⟩
  by_cases hC : (kk.toList == sDelay) = true
  · have e1 : (kk.toList == [97, 108, 108, 111, 119]) = false := by cases h : (kk.toList == [97, 108, 108, 111, 119]); rfl; exact absurd (.inl h) hA
    have e2 : (kk.toList == [100, 105, 115, 97, 108, 108, 111, 119]) = false := by cases h : (kk.toList == [100, 105, 115, 97, 108, 108, 111, 119]); rfl; exact absurd (.inr h) hA
    have e3 : (kk.toList == [99, 114, 97, 119, 108, 45, 100, 101, 108, 97, 121]) = true := hC
    have hfin1 : ∀ x, (if (delayV vv.data.toList).2 = true then setG gs { lastG gs with f2 := max (lastG gs).f2 ((delayV vv.data.toList).1 : Int) } else gs) = x → addG gs op ⟨kk, vv⟩ = (x, false) := by intro x hx; simp only [addG]; rw [if_neg hgs0, if_neg hA, if_pos hC, hx]
    clear hA hC
    go_upto_region 11 with (fail)
    have HM3 := Aside0.mk (HMK2.out.shut false)
    have Hk3 := Aside0.mk (blk_far Hk2.out (p := ⟨m, 1, none⟩) hbm (.bool false))
    generalize (w2.setCell ⟨m, 1, none⟩ (.bool false)) = w3 at HM3 Hk3 ⊢
    clear hc0 hc1 hf0 hf1 hk0 hk1 HMK2 Hk2
    have hk1 := blk_cell Hk3.out 1
    simp only [List.getElem?_toArray, List.getElem?_cons_zero, List.getElem?_cons_succ] at hk1
    have HSh := Aside0.mk (Shp.below HSH.out HM3.out.below)
    have HD := Aside0.mk (show lines_Delay.f vv = some (((delayV vv.data.toList).1 : Int), (delayV vv.data.toList).2) by rw [lines_Delay.f, if_pos hn])
    cases hok : (delayV vv.data.toList).2 with
    | true =>
      rw [hok] at HD hfin1
      have hfin := hfin1 _ (if_pos rfl)
      clear hfin1 hok
      generalize (delayV vv.data.toList).1 = n at HD hfin
      go_upto_region 13 with (first | ((with_reducible refine gate_callee (f := 47) rfl ?_); refine goesL_ (some 66) rfl rfl Tryd.func47 (by kernel_rfl) rfl #[.string vv] rfl (by (try simp only [List.map_toArray, List.map_cons, List.map_nil]); first | done | rfl) ?_; (with_reducible refine (lines_Delay.calls vv (n : Int) true _ HD.out HSh.out).mono ?_); rintro e w4 ⟨rfl, hb4⟩; refine ⟨_, rfl, ?_⟩; have HM4 := Aside0.mk (HM3.out.step hb4); clear hb4))
      obtain ⟨oki, e0, e1', R0, R1, hcA, hcB, hcC, hfr, hne, hH⟩ := last_open86 HM4.out.row hgs
      have hfr2 := hfr 2
      have HH := Aside0.mk hH
      have HR0 := Aside0.mk R0
      have HR1 := Aside0.mk R1
      clear hH R0 R1 hcA hcB hfr hk1 Hk3 HM3
      have hput : ∀ u : Int, u = max (lastG gs).f2 (n : Int) → Kd.S k86 86 (w4.setCell ⟨g1, (gs.length - 1) * 3 + 2, none⟩ (.int .i64 u)) W0.heap.size (fun _ => True) (.slice (some ⟨g1, 0, none⟩) gs.length cap1) (setG gs { lastG gs with f2 := max (lastG gs).f2 (n : Int) }) := by
        intro u hu
        subst hu
        exact (last_put86 HH.out hgs 2 (by omega) (.int .i64 (max (lastG gs).f2 (n : Int))) rfl { lastG gs with f2 := max (lastG gs).f2 (n : Int) } (k86_mkM _ _ _ ({ lastG gs with f2 := max (lastG gs).f2 (n : Int) } : S86) HR0.out HR1.out) hne).1
      have hput := Aside0.mk hput
      go_wp2
      all_goals go_end0
      all_goals try rw [hfin]
      all_goals
        refine ⟨rfl, ⟨blk_far HM4.out.box (Ne.symm hg1m) _, hB, hput.out _ ?_, HM4.out.below.setCell hg1 _⟩⟩
        show _ = max (gs.getD (gs.length - 1) z86).f2 _
        rw [List.getD_eq_getElem?_getD]
        omega
    | false =>
      rw [hok] at HD hfin1
      have hfin := hfin1 _ (if_neg (by decide))
      clear hfin1 hok
      generalize (delayV vv.data.toList).1 = n at HD
      go_wp2_with (first | ((with_reducible refine gate_callee (f := 47) rfl ?_); refine goesL_ (some 66) rfl rfl Tryd.func47 (by kernel_rfl) rfl #[.string vv] rfl (by (try simp only [List.map_toArray, List.map_cons, List.map_nil]); first | done | rfl) ?_; (with_reducible refine (lines_Delay.calls vv (n : Int) false _ HD.out HSh.out).mono ?_); rintro e w4 ⟨rfl, hb4⟩; refine ⟨_, rfl, ?_⟩; have HM4 := Aside0.mk (HM3.out.step hb4); clear hb4))
      go_end0
      try rw [hfin]
      exact ⟨rfl, HM4.out⟩
  · have e1 : (kk.toList == [97, 108, 108, 111, 119]) = false := by cases h : (kk.toList == [97, 108, 108, 111, 119]); rfl; exact absurd (.inl h) hA
    have e2 : (kk.toList == [100, 105, 115, 97, 108, 108, 111, 119]) = false := by cases h : (kk.toList == [100, 105, 115, 97, 108, 108, 111, 119]); rfl; exact absurd (.inr h) hA
    have e3 : (kk.toList == [99, 114, 97, 119, 108, 45, 100, 101, 108, 97, 121]) = false := by cases h : (kk.toList == [99, 114, 97, 119, 108, 45, 100, 101, 108, 97, 121]); rfl; exact absurd h hC
    have hfin : addG gs op ⟨kk, vv⟩ = (gs, op) := by simp only [addG]; rw [if_neg hgs0, if_neg hA, if_neg hC]
    clear hA hC
    go_wp2
    go_end0
    rw [hfin]
    exact ⟨rfl, HMK2.out⟩
end Go.Proofs.YtdnaddignhjihaaDoor.Given
