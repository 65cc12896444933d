/-
  DERIVED: THE SHELF's CONTRACTS AT THIS DUMP, IN PLAIN WORDS (tools/lay-plain.mjs out of 'TryShelf.lean', which tools/lay-shelf.mjs wrote): THE SAME DECLARATIONS UNDER THE SAME NAMES: 'import', 'namespace', 'open', 'def', 'theorem' AND NOTHING ELSE: no command of the shelf's: FOR A HAND-IN. Each laying: the table of numbers ('.._ren') and one theorem, a field a fact of the dump's own or the kernel's comparison; each contract: ONE APPLICATION.
-/
import Derived.Shelf.Strings.Builder1
import Derived.Shelf.Strings.BuilderF
import Derived.Shelf.Strings.BuilderK
import Derived.Shelf.Strconv.Itoa0
import Derived.Shelf.Strconv.Itoa1
import Derived.Shelf.LaysM
import Derived.Shelf.Strconv.Itoa2
import Derived.Shelf.Strconv.Itoa3
import Derived.Shelf.Strconv.Itoa4
import Derived.Shelf.Strings.Search1
import Derived.Shelf.Strings.RuneCount
import Derived.Shelf.Unicode.DecodeSlow
import Derived.Shelf.Unicode.DecodeAny
import Derived.Test.YtpkipleoodcplaaProg
namespace Go.Proofs
open Go.Shelf
def Try.lays169_ren : Go.Shelf.Ren := ⟨fun | 169 => 50 | n => n, fun | 70 => 94 | 9 => 9 | 0 => 0 | 72 => 97 | 37 => 95 | 127 => 82 | 3 => 3 | 5 => 5 | n => n, fun | n => n⟩
theorem Try.lays169 : Go.Proofs.Lays.n169 Try.prog Try.lays169_ren := {
  mixed := by kernel_rfl
  f169 := Try.func50.trans (congrArg some (by kernel_rfl))
  t0 := Try.underlying0
  a0 := Try.isAgg0
  z0 := Try.sizeOf0
  v0 := Try.zeroValue0
  t3 := Try.underlying3
  a3 := Try.isAgg3
  z3 := Try.sizeOf3
  v3 := Try.zeroValue3
  t9 := Try.underlying9
  a9 := Try.isAgg9
  z9 := Try.sizeOf9
  v9 := Try.zeroValue9
  t37 := Try.underlying95
  a37 := Try.isAgg95
  z37 := Try.sizeOf95
  v37 := Try.zeroValue95
  t70 := Try.underlying94
  a70 := Try.isAgg94
  z70 := Try.sizeOf94
  v70 := Try.zeroValue94
  t72 := Try.underlying97
  a72 := Try.isAgg97
  z72 := Try.sizeOf97
  v72 := Try.zeroValue97
  t127 := Try.underlying82
  a127 := Try.isAgg82
  z127 := Try.sizeOf82
  v127 := Try.zeroValue82 }
theorem Try.Builder_Extra_169 : Builder.Extra Try.prog Try.lays169_ren := {
  sizeBuilder := by kernel_rfl
  liesBuilder := by kernel_rfl
  t5 := Try.underlying5
  a5 := Try.isAgg5
  z5 := Try.sizeOf5
  v5 := Try.zeroValue5
  infoByte := by kernel_rfl
  cellsByte := by kernel_rfl
  sizeByte := by kernel_rfl
  neB5 := by decide }
open Go.RowKit in
/-- (*strings.Builder).String: "String returns the accumulated string.": OF A BUILDER THAT HOLDS AT LEAST ONE BYTE. ✋ THE MODEL FREEZES THOSE BYTES IN THE BUFFER (unsafe.String): a later write INTO them ends the model's run without an answer; a later append BEHIND them goes on. The statement's order of evaluation is drawn: one draw. (LAID: no walk: one application.) -/
theorem Try.Builder_String (B b : Nat) (l : List UInt8) (w : World) (h : Lib.IsBuilder 97 5 B b (Lib.byteCells l) w) (h0 : l ≠ []) :
    Calls Try.prog 50 #[.pointer (some ⟨b, 0, none⟩)] w fun e w' => e = .returned (.string ⟨l.toArray⟩) ∧ Below B w w' := Any.Builder_String Try.lays169 Try.Builder_Extra_169 B b l w h h0
open Go.RowKit in
/-- (*strings.Builder).String OF A BUILDER THAT HOLDS NO BYTE: the empty string. (Its buffer is nil, or a row of which it has taken nothing yet; where that row has NO capacity the model lays one new block for unsafe.SliceData's 'some address'.) One draw. (LAID: no walk: one application.) -/
theorem Try.Builder_String_empty (B b : Nat) (w : World) (h : Lib.IsBuilder 97 5 B b [] w) (hBw : B ≤ w.heap.size) :
    Calls Try.prog 50 #[.pointer (some ⟨b, 0, none⟩)] w fun e w' => e = .returned (.string ⟨#[]⟩) ∧ Below B w w' := Any.Builder_String_empty Try.lays169 Try.Builder_Extra_169 B b w h hBw
open Go.RowKit in
/-- (*strings.Builder).String: "String returns the accumulated string.": WHATEVER THE BUILDER HOLDS. (LAID: no walk: one application.) -/
theorem Try.Builder_String_any (B b : Nat) (l : List UInt8) (w : World) (h : Lib.IsBuilder 97 5 B b (Lib.byteCells l) w) (hBw : B ≤ w.heap.size) :
    Calls Try.prog 50 #[.pointer (some ⟨b, 0, none⟩)] w fun e w' => e = .returned (.string ⟨l.toArray⟩) ∧ Below B w w' := Any.Builder_String_any Try.lays169 Try.Builder_Extra_169 B b l w h hBw
open Go.RowKit in
/-- (*strings.Builder).String: "String returns the accumulated string.": OF A BUILDER THAT HOLDS AT LEAST ONE BYTE. ✋ THE MODEL FREEZES THOSE BYTES IN THE BUFFER (unsafe.String): a later write INTO them ends the model's run without an answer; a later append BEHIND them goes on. The statement's order of evaluation is drawn: one draw. THE FORM '_f': IT SAYS BESIDES THAT THE BUILDER IS A BUILDER STILL ('Lib.IsBuilderF', the same bytes): SO IT CAN BE WRITTEN ON: 'b.WriteString(b.String()[:k])'. (LAID: no walk: one application.) -/
theorem Try.Builder_String_f (B b : Nat) (l : List UInt8) (w : World) (h : Lib.IsBuilderF 97 5 B b (Lib.byteCells l) w) (h0 : l ≠ []) :
    Calls Try.prog 50 #[.pointer (some ⟨b, 0, none⟩)] w fun e w' => e = .returned (.string ⟨l.toArray⟩) ∧ (Lib.IsBuilderF 97 5 B b (Lib.byteCells l) w' ∧ Below B w w') := Any.Builder_String_f Try.lays169 Try.Builder_Extra_169 B b l w h h0
open Go.RowKit in
/-- (*strings.Builder).String OF A BUILDER THAT HOLDS NO BYTE: the empty string; THE FORM '_f': a builder still. (LAID: no walk: one application.) -/
theorem Try.Builder_String_empty_f (B b : Nat) (w : World) (h : Lib.IsBuilderF 97 5 B b [] w) (hBw : B ≤ w.heap.size) :
    Calls Try.prog 50 #[.pointer (some ⟨b, 0, none⟩)] w fun e w' => e = .returned (.string ⟨#[]⟩) ∧ (Lib.IsBuilderF 97 5 B b [] w' ∧ Below B w w') := Any.Builder_String_empty_f Try.lays169 Try.Builder_Extra_169 B b w h hBw
open Go.RowKit in
/-- (*strings.Builder).String: "String returns the accumulated string.": WHATEVER THE BUILDER HOLDS; THE FORM '_f': OF A BUILDER THAT MAY HAVE BEEN READ BEFORE; AND IT IS A BUILDER STILL, holding the same bytes: it can be written on. (LAID: no walk: one application.) -/
theorem Try.Builder_String_any_f (B b : Nat) (l : List UInt8) (w : World) (h : Lib.IsBuilderF 97 5 B b (Lib.byteCells l) w) (hBw : B ≤ w.heap.size) :
    Calls Try.prog 50 #[.pointer (some ⟨b, 0, none⟩)] w fun e w' => e = .returned (.string ⟨l.toArray⟩) ∧ (Lib.IsBuilderF 97 5 B b (Lib.byteCells l) w' ∧ Below B w w') := Any.Builder_String_any_f Try.lays169 Try.Builder_Extra_169 B b l w h hBw
open Go.RowKit in
/-- (*strings.Builder).String: "String returns the accumulated string.": OF A BUILDER THAT HOLDS AT LEAST ONE BYTE. ✋ THE MODEL FREEZES THOSE BYTES IN THE BUFFER (unsafe.String): a later write INTO them ends the model's run without an answer; a later append BEHIND them goes on. The statement's order of evaluation is drawn: one draw. THE FORM '_k': OVER 'Lib.IsBuilderF' (a builder that 'String()' may have read), AND WITH THE FRAME THAT REACHES ABOVE THE BUILDER: 'Lib.OthersKept': every block that is not b and is no row of uint8's stands as it stood: the iterator of a range among them. (LAID: no walk: one application.) -/
theorem Try.Builder_String_k (B b : Nat) (l : List UInt8) (w : World) (h : Lib.IsBuilderF 97 5 B b (Lib.byteCells l) w) (h0 : l ≠ []) :
    Calls Try.prog 50 #[.pointer (some ⟨b, 0, none⟩)] w fun e w' => e = .returned (.string ⟨l.toArray⟩) ∧ (Lib.IsBuilderF 97 5 B b (Lib.byteCells l) w' ∧ Below B w w' ∧ Lib.OthersKept 5 (some b) w w') := Any.Builder_String_k Try.lays169 Try.Builder_Extra_169 B b l w h h0
open Go.RowKit in
/-- (*strings.Builder).String OF A BUILDER THAT HOLDS NO BYTE: the empty string; THE FORM '_k': OVER 'Lib.IsBuilderF' (a builder that 'String()' may have read), AND WITH THE FRAME THAT REACHES ABOVE THE BUILDER: 'Lib.OthersKept': every block that is not b and is no row of uint8's stands as it stood: the iterator of a range among them. (LAID: no walk: one application.) -/
theorem Try.Builder_String_empty_k (B b : Nat) (w : World) (h : Lib.IsBuilderF 97 5 B b [] w) (hBw : B ≤ w.heap.size) :
    Calls Try.prog 50 #[.pointer (some ⟨b, 0, none⟩)] w fun e w' => e = .returned (.string ⟨#[]⟩) ∧ (Lib.IsBuilderF 97 5 B b [] w' ∧ Below B w w' ∧ Lib.OthersKept 5 (some b) w w') := Any.Builder_String_empty_k Try.lays169 Try.Builder_Extra_169 B b w h hBw
open Go.RowKit in
/-- (*strings.Builder).String: "String returns the accumulated string.": WHATEVER THE BUILDER HOLDS; THE FORM '_k': OVER 'Lib.IsBuilderF' (a builder that 'String()' may have read), AND WITH THE FRAME THAT REACHES ABOVE THE BUILDER: 'Lib.OthersKept': every block that is not b and is no row of uint8's stands as it stood: the iterator of a range among them. (LAID: no walk: one application.) -/
theorem Try.Builder_String_any_k (B b : Nat) (l : List UInt8) (w : World) (h : Lib.IsBuilderF 97 5 B b (Lib.byteCells l) w) (hBw : B ≤ w.heap.size) :
    Calls Try.prog 50 #[.pointer (some ⟨b, 0, none⟩)] w fun e w' => e = .returned (.string ⟨l.toArray⟩) ∧ (Lib.IsBuilderF 97 5 B b (Lib.byteCells l) w' ∧ Below B w w' ∧ Lib.OthersKept 5 (some b) w w') := Any.Builder_String_any_k Try.lays169 Try.Builder_Extra_169 B b l w h hBw
def Try.lays129_ren : Go.Shelf.Ren := ⟨fun | 129 => 62 | n => n, fun | 53 => 106 | 3 => 3 | 4 => 4 | 46 => 118 | 5 => 5 | 9 => 9 | n => n, fun | n => n⟩
theorem Try.lays129 : Go.Proofs.Lays.n129 Try.prog Try.lays129_ren := {
  mixed := by kernel_rfl
  f129 := Try.func62.trans (congrArg some (by kernel_rfl))
  t3 := Try.underlying3
  a3 := Try.isAgg3
  z3 := Try.sizeOf3
  v3 := Try.zeroValue3
  t4 := Try.underlying4
  a4 := Try.isAgg4
  z4 := Try.sizeOf4
  v4 := Try.zeroValue4
  t5 := Try.underlying5
  a5 := Try.isAgg5
  z5 := Try.sizeOf5
  v5 := Try.zeroValue5
  t9 := Try.underlying9
  a9 := Try.isAgg9
  z9 := Try.sizeOf9
  v9 := Try.zeroValue9
  t46 := Try.underlying118
  a46 := Try.isAgg118
  z46 := Try.sizeOf118
  v46 := Try.zeroValue118
  t53 := Try.underlying106
  a53 := Try.isAgg106
  z53 := Try.sizeOf106
  v53 := Try.zeroValue106 }
/-- bits.Len64: "Len64 returns the minimum number of bits required to represent x; the result is 0 for x == 0.": IT RETURNS 'Lib.bitLen x'; the world is as it was. ('h0', 'h1': x is a uint64.) (LAID: no walk: one application.) -/
theorem Try.bits_Len64 (x : Int) (w : World) (h0 : 0 ≤ x) (h1 : x ≤ 18446744073709551615) :
    Calls Try.prog 62 #[.int .u64 x] w fun e w' => e = .returned (.int .i64 (Lib.bitLen x.toNat)) ∧ w' = w := Any.bits_Len64 Try.lays129 x w h0 h1
def Try.lays317_ren : Go.Shelf.Ren := ⟨fun | 317 => 61 | n => n, fun | 3 => 3 | 46 => 118 | n => n, fun | n => n⟩
theorem Try.lays317 : Go.Proofs.Lays.n317 Try.prog Try.lays317_ren := {
  mixed := by kernel_rfl
  f317 := Try.func61.trans (congrArg some (by kernel_rfl))
  t3 := Try.underlying3
  a3 := Try.isAgg3
  z3 := Try.sizeOf3
  v3 := Try.zeroValue3
  t46 := Try.underlying118
  a46 := Try.isAgg118
  z46 := Try.sizeOf118
  v46 := Try.zeroValue118 }
open Go.Lib in
/-- internal/strconv.log10Pow2: "log10Pow2(x) returns ⌊log₁₀ 2**x⌋ = ⌊x * log₁₀ 2⌋.": '(x * 78913) >> 18', at an x up to 64 (a length in bits). The world is as it was. (LAID: no walk: one application.) -/
theorem Try.internal_strconv_log10Pow2 (x : Nat) (h : x ≤ 64) (w : World) :
    Calls Try.prog 61 #[.int .i64 x] w fun e w' => e = .returned (.int .i64 (Lib.l10 x)) ∧ w' = w := Any.internal_strconv_log10Pow2 Try.lays317 x h w
def Try.lays318_ren : Go.Shelf.Ren := ⟨fun | 318 => 63 | n => n, fun | 3 => 3 | 4 => 4 | n => n, fun | n => n⟩
theorem Try.lays318 : Go.Proofs.Lays.n318 Try.prog Try.lays318_ren := {
  mixed := by kernel_rfl
  f318 := Try.func63.trans (congrArg some (by kernel_rfl))
  t3 := Try.underlying3
  a3 := Try.isAgg3
  z3 := Try.sizeOf3
  v3 := Try.zeroValue3
  t4 := Try.underlying4
  a4 := Try.isAgg4
  z4 := Try.sizeOf4
  v4 := Try.zeroValue4 }
open Go.Lib in
/-- internal/strconv.bool2: "bool2 converts b to an integer: 1 for true, 0 for false." The world is as it was. (LAID: no walk: one application.) -/
theorem Try.internal_strconv_bool2_int (b : Bool) (w : World) :
    Calls Try.prog 63 #[.bool b] w fun e w' => e = .returned (.int .i64 (if b then 1 else 0)) ∧ w' = w := Any.internal_strconv_bool2_int Try.lays318 b w
def Try.lays283_ren : Go.Shelf.Ren := ⟨fun | 283 => 51 | n => n, fun | 3 => 3 | 9 => 9 | 4 => 4 | n => n, fun | n => n⟩
theorem Try.lays283 : Go.Proofs.Lays.n283 Try.prog Try.lays283_ren := {
  mixed := by kernel_rfl
  f283 := Try.func51.trans (congrArg some (by kernel_rfl))
  t3 := Try.underlying3
  a3 := Try.isAgg3
  z3 := Try.sizeOf3
  v3 := Try.zeroValue3
  t4 := Try.underlying4
  a4 := Try.isAgg4
  z4 := Try.sizeOf4
  v4 := Try.zeroValue4
  t9 := Try.underlying9
  a9 := Try.isAgg9
  z9 := Try.sizeOf9
  v9 := Try.zeroValue9 }
open Go.Lib in
/-- internal/strconv.small: "small returns the string for an i with 0 <= i < nSmalls.": i's decimal numeral. The world is as it was. (LAID: no walk: one application.) -/
theorem Try.internal_strconv_small (i : Nat) (h : i < 100) (w : World) :
    Calls Try.prog 51 #[.int .i64 i] w fun e w' => e = .returned (.string ⟨(Lib.decDigits i).toArray⟩) ∧ w' = w := Any.internal_strconv_small Try.lays283 i h w
def Try.laysM284_ren : Go.Shelf.Ren := ⟨fun | 284 => 52 | 129 => 62 | 317 => 61 | 318 => 63 | n => n, fun | 53 => 106 | 3 => 3 | 212 => 115 | 0 => 0 | 4 => 4 | 46 => 118 | 5 => 5 | 9 => 9 | n => n, fun | 17 => 0 | n => n⟩
theorem Try.laysM284 : Go.Proofs.LaysM.n284 Try.prog Try.laysM284_ren := {
  mixed := by kernel_rfl
  f129 := Try.func62.trans (congrArg some (by kernel_rfl))
  f284 := Try.func52.trans (congrArg some (by kernel_rfl))
  f317 := Try.func61.trans (congrArg some (by kernel_rfl))
  f318 := Try.func63.trans (congrArg some (by kernel_rfl))
  t0 := Try.underlying0
  a0 := Try.isAgg0
  z0 := Try.sizeOf0
  v0 := Try.zeroValue0
  t3 := Try.underlying3
  a3 := Try.isAgg3
  z3 := Try.sizeOf3
  v3 := Try.zeroValue3
  t4 := Try.underlying4
  a4 := Try.isAgg4
  z4 := Try.sizeOf4
  v4 := Try.zeroValue4
  t5 := Try.underlying5
  a5 := Try.isAgg5
  z5 := Try.sizeOf5
  v5 := Try.zeroValue5
  t9 := Try.underlying9
  a9 := Try.isAgg9
  z9 := Try.sizeOf9
  v9 := Try.zeroValue9
  t46 := Try.underlying118
  a46 := Try.isAgg118
  z46 := Try.sizeOf118
  v46 := Try.zeroValue118
  t53 := Try.underlying106
  a53 := Try.isAgg106
  z53 := Try.sizeOf106
  v53 := Try.zeroValue106
  t212 := Try.underlying115
  a212 := Try.isAgg115
  z212 := Try.sizeOf115
  v212 := Try.zeroValue115
  g17 := by kernel_rfl
  i0 := by kernel_rfl
  i3 := by kernel_rfl
  i4 := by kernel_rfl
  i5 := by kernel_rfl
  i9 := by kernel_rfl
  i46 := by kernel_rfl
  i53 := by kernel_rfl
  i212 := by kernel_rfl
  m17 := by kernel_rfl }
open Go.Lib in
/-- internal/strconv.numDigits, at a d that is not 0: THE NUMBER OF d's DECIMAL DIGITS. The world is as it was. (LAID: no walk: one application.) -/
theorem Try.internal_strconv_numDigits (u : Nat) (h1 : 1 ≤ u) (h2 : u < 18446744073709551616) (w : World) (htab : Lib.TabIs Try.prog w "internal/strconv.uint64pow10" .u64 Lib.pow10Tab) :
    Calls Try.prog 52 #[.int .u64 u] w fun e w' => e = .returned (.int .i64 (Lib.nDigits u)) ∧ w' = w := Any.internal_strconv_numDigits Try.laysM284 u h1 h2 w htab
def Try.lays285_ren : Go.Shelf.Ren := ⟨fun | 285 => 53 | n => n, fun | 37 => 95 | 53 => 106 | 3 => 3 | 4 => 4 | 51 => 78 | 9 => 9 | 5 => 5 | 0 => 0 | n => n, fun | n => n⟩
theorem Try.lays285 : Go.Proofs.Lays.n285 Try.prog Try.lays285_ren := {
  mixed := by kernel_rfl
  f285 := Try.func53.trans (congrArg some (by kernel_rfl))
  t0 := Try.underlying0
  a0 := Try.isAgg0
  z0 := Try.sizeOf0
  v0 := Try.zeroValue0
  t3 := Try.underlying3
  a3 := Try.isAgg3
  z3 := Try.sizeOf3
  v3 := Try.zeroValue3
  t4 := Try.underlying4
  a4 := Try.isAgg4
  z4 := Try.sizeOf4
  v4 := Try.zeroValue4
  t5 := Try.underlying5
  a5 := Try.isAgg5
  z5 := Try.sizeOf5
  v5 := Try.zeroValue5
  t9 := Try.underlying9
  a9 := Try.isAgg9
  z9 := Try.sizeOf9
  v9 := Try.zeroValue9
  t37 := Try.underlying95
  a37 := Try.isAgg95
  z37 := Try.sizeOf95
  v37 := Try.zeroValue95
  t51 := Try.underlying78
  a51 := Try.isAgg78
  z51 := Try.sizeOf78
  v51 := Try.zeroValue78
  t53 := Try.underlying106
  a53 := Try.isAgg106
  z53 := Try.sizeOf106
  v53 := Try.zeroValue106 }
open Go.RowKit Go.Sort Go.Lib in
/-- internal/strconv.formatBase10: "formatBase10 formats the decimal representation of u into a. The caller is responsible for ensuring that a is big enough to hold u. If a is too big, leading zeros will be filled in as needed.": THE ROW HOLDS u's DIGITS ('FmtInv .. 0 ..': every place t holds 'dg u (len - 1 - t)'); all else is as it was but for the count of draws. (LAID: no walk: one application.) -/
theorem Try.internal_strconv_formatBase10 (blk off cap : Nat) (u : Nat) (d : Array UInt8) (w : World) (hH : Holds (fun (b : UInt8) => Value.int .u8 (b.toNat : Int)) w blk off d) (hu : u < 10 ^ d.size) (hu64 : u < 18446744073709551616) (hsz : d.size < 4611686018427387904) :
    Calls Try.prog 53 #[.slice (some ⟨blk, off, none⟩) d.size cap, .int .u64 u] w fun e w' =>
      e = .returned (.tuple #[]) ∧ ∃ (n v' : Nat) (dk : Array UInt8), w' = (putRow (fun (b : UInt8) => Value.int .u8 (b.toNat : Int)) w blk off dk).drewN n ∧ FmtInv d.size u 0 v' dk := Any.internal_strconv_formatBase10 Try.lays285 blk off cap u d w hH hu hu64 hsz
def Try.laysM246_ren : Go.Shelf.Ren := ⟨fun | 246 => 44 | 283 => 51 | 284 => 52 | 285 => 53 | 286 => 54 | 129 => 62 | 317 => 61 | 318 => 63 | 319 => 64 | 320 => 65 | 337 => 72 | 338 => 73 | n => n, fun | 2 => 2 | 3 => 3 | 9 => 9 | 4 => 4 | 171 => 105 | 0 => 0 | 53 => 106 | 37 => 95 | 5 => 5 | 173 => 109 | 212 => 115 | 51 => 78 | 20 => 20 | 213 => 116 | 46 => 118 | 232 => 130 | 233 => 131 | n => n, fun | 17 => 0 | 18 => 4 | 19 => 5 | n => n⟩
theorem Try.laysM246 : Go.Proofs.LaysM.n246 Try.prog Try.laysM246_ren := {
  mixed := by kernel_rfl
  f129 := Try.func62.trans (congrArg some (by kernel_rfl))
  f246 := Try.func44.trans (congrArg some (by kernel_rfl))
  f283 := Try.func51.trans (congrArg some (by kernel_rfl))
  f284 := Try.func52.trans (congrArg some (by kernel_rfl))
  f285 := Try.func53.trans (congrArg some (by kernel_rfl))
  f286 := Try.func54.trans (congrArg some (by kernel_rfl))
  f317 := Try.func61.trans (congrArg some (by kernel_rfl))
  f318 := Try.func63.trans (congrArg some (by kernel_rfl))
  f319 := Try.func64.trans (congrArg some (by kernel_rfl))
  f320 := Try.func65.trans (congrArg some (by kernel_rfl))
  f337 := Try.func72.trans (congrArg some (by kernel_rfl))
  f338 := Try.func73.trans (congrArg some (by kernel_rfl))
  t0 := Try.underlying0
  a0 := Try.isAgg0
  z0 := Try.sizeOf0
  v0 := Try.zeroValue0
  t2 := Try.underlying2
  a2 := Try.isAgg2
  z2 := Try.sizeOf2
  v2 := Try.zeroValue2
  t3 := Try.underlying3
  a3 := Try.isAgg3
  z3 := Try.sizeOf3
  v3 := Try.zeroValue3
  t4 := Try.underlying4
  a4 := Try.isAgg4
  z4 := Try.sizeOf4
  v4 := Try.zeroValue4
  t5 := Try.underlying5
  a5 := Try.isAgg5
  z5 := Try.sizeOf5
  v5 := Try.zeroValue5
  t9 := Try.underlying9
  a9 := Try.isAgg9
  z9 := Try.sizeOf9
  v9 := Try.zeroValue9
  t20 := Try.underlying20
  a20 := Try.isAgg20
  z20 := Try.sizeOf20
  v20 := Try.zeroValue20
  t37 := Try.underlying95
  a37 := Try.isAgg95
  z37 := Try.sizeOf95
  v37 := Try.zeroValue95
  t46 := Try.underlying118
  a46 := Try.isAgg118
  z46 := Try.sizeOf118
  v46 := Try.zeroValue118
  t51 := Try.underlying78
  a51 := Try.isAgg78
  z51 := Try.sizeOf78
  v51 := Try.zeroValue78
  t53 := Try.underlying106
  a53 := Try.isAgg106
  z53 := Try.sizeOf106
  v53 := Try.zeroValue106
  t171 := Try.underlying105
  a171 := Try.isAgg105
  z171 := Try.sizeOf105
  v171 := Try.zeroValue105
  t173 := Try.underlying109
  a173 := Try.isAgg109
  z173 := Try.sizeOf109
  v173 := Try.zeroValue109
  t212 := Try.underlying115
  a212 := Try.isAgg115
  z212 := Try.sizeOf115
  v212 := Try.zeroValue115
  t213 := Try.underlying116
  a213 := Try.isAgg116
  z213 := Try.sizeOf116
  t232 := Try.underlying130
  a232 := Try.isAgg130
  z232 := Try.sizeOf130
  v232 := Try.zeroValue130
  t233 := Try.underlying131
  a233 := Try.isAgg131
  z233 := Try.sizeOf131
  v233 := Try.zeroValue131
  g17 := by kernel_rfl
  g18 := by kernel_rfl
  g19 := by kernel_rfl
  i0 := by kernel_rfl
  i2 := by kernel_rfl
  i3 := by kernel_rfl
  i4 := by kernel_rfl
  i5 := by kernel_rfl
  i9 := by kernel_rfl
  i20 := by kernel_rfl
  i37 := by kernel_rfl
  i46 := by kernel_rfl
  i51 := by kernel_rfl
  i53 := by kernel_rfl
  i171 := by kernel_rfl
  i173 := by kernel_rfl
  i212 := by kernel_rfl
  i232 := by kernel_rfl
  i233 := by kernel_rfl
  m17 := by kernel_rfl
  m18 := by kernel_rfl
  m19 := by kernel_rfl }
open Go.RowKit Go.Sort Go.Lib in
/-- internal/strconv.FormatInt: "FormatInt returns the string representation of i in the given base": AT BASE 10: i's decimal numeral, for every int64. The world behind the call: the world before it, new blocks behind the heap, draws. (LAID: no walk: one application.) -/
theorem Try.internal_strconv_FormatInt_10 (n : Int) (h0 : -9223372036854775808 ≤ n) (h1 : n ≤ 9223372036854775807) (w : World) (htab : Lib.TabIs Try.prog w "internal/strconv.uint64pow10" .u64 Lib.pow10Tab) :
    Calls Try.prog 44 #[.int .i64 n, .int .i64 10] w fun e w' => e = .returned (.string ⟨(Lib.itoa n).toArray⟩) ∧ ∃ k os, w' = grow (w.drewN k) os := Any.internal_strconv_FormatInt_10 Try.laysM246 n h0 h1 w htab
def Try.lays246_ren : Go.Shelf.Ren := ⟨fun | 246 => 44 | 283 => 51 | 284 => 52 | 285 => 53 | 286 => 54 | 129 => 62 | 317 => 61 | 318 => 63 | 319 => 64 | 320 => 65 | 337 => 72 | 338 => 73 | n => n, fun | 2 => 2 | 3 => 3 | 9 => 9 | 4 => 4 | 171 => 105 | 0 => 0 | 53 => 106 | 37 => 95 | 5 => 5 | 173 => 109 | 212 => 115 | 51 => 78 | 20 => 20 | 213 => 116 | 46 => 118 | 232 => 130 | 233 => 131 | n => n, fun | 17 => 0 | 18 => 4 | 19 => 5 | n => n⟩
theorem Try.lays246 : Go.Proofs.Lays.n246 Try.prog Try.lays246_ren := {
  mixed := by kernel_rfl
  f129 := Try.func62.trans (congrArg some (by kernel_rfl))
  f246 := Try.func44.trans (congrArg some (by kernel_rfl))
  f283 := Try.func51.trans (congrArg some (by kernel_rfl))
  f284 := Try.func52.trans (congrArg some (by kernel_rfl))
  f285 := Try.func53.trans (congrArg some (by kernel_rfl))
  f286 := Try.func54.trans (congrArg some (by kernel_rfl))
  f317 := Try.func61.trans (congrArg some (by kernel_rfl))
  f318 := Try.func63.trans (congrArg some (by kernel_rfl))
  f319 := Try.func64.trans (congrArg some (by kernel_rfl))
  f320 := Try.func65.trans (congrArg some (by kernel_rfl))
  f337 := Try.func72.trans (congrArg some (by kernel_rfl))
  f338 := Try.func73.trans (congrArg some (by kernel_rfl))
  t0 := Try.underlying0
  a0 := Try.isAgg0
  z0 := Try.sizeOf0
  v0 := Try.zeroValue0
  t2 := Try.underlying2
  a2 := Try.isAgg2
  z2 := Try.sizeOf2
  v2 := Try.zeroValue2
  t3 := Try.underlying3
  a3 := Try.isAgg3
  z3 := Try.sizeOf3
  v3 := Try.zeroValue3
  t4 := Try.underlying4
  a4 := Try.isAgg4
  z4 := Try.sizeOf4
  v4 := Try.zeroValue4
  t5 := Try.underlying5
  a5 := Try.isAgg5
  z5 := Try.sizeOf5
  v5 := Try.zeroValue5
  t9 := Try.underlying9
  a9 := Try.isAgg9
  z9 := Try.sizeOf9
  v9 := Try.zeroValue9
  t20 := Try.underlying20
  a20 := Try.isAgg20
  z20 := Try.sizeOf20
  v20 := Try.zeroValue20
  t37 := Try.underlying95
  a37 := Try.isAgg95
  z37 := Try.sizeOf95
  v37 := Try.zeroValue95
  t46 := Try.underlying118
  a46 := Try.isAgg118
  z46 := Try.sizeOf118
  v46 := Try.zeroValue118
  t51 := Try.underlying78
  a51 := Try.isAgg78
  z51 := Try.sizeOf78
  v51 := Try.zeroValue78
  t53 := Try.underlying106
  a53 := Try.isAgg106
  z53 := Try.sizeOf106
  v53 := Try.zeroValue106
  t171 := Try.underlying105
  a171 := Try.isAgg105
  z171 := Try.sizeOf105
  v171 := Try.zeroValue105
  t173 := Try.underlying109
  a173 := Try.isAgg109
  z173 := Try.sizeOf109
  v173 := Try.zeroValue109
  t212 := Try.underlying115
  a212 := Try.isAgg115
  z212 := Try.sizeOf115
  v212 := Try.zeroValue115
  t213 := Try.underlying116
  a213 := Try.isAgg116
  z213 := Try.sizeOf116
  t232 := Try.underlying130
  a232 := Try.isAgg130
  z232 := Try.sizeOf130
  v232 := Try.zeroValue130
  t233 := Try.underlying131
  a233 := Try.isAgg131
  z233 := Try.sizeOf131
  v233 := Try.zeroValue131
  g17 := by kernel_rfl
  g18 := by kernel_rfl
  g19 := by kernel_rfl }
open Go.RowKit Go.Sort Go.Lib in
/-- THE ROAD WITHOUT THE TABLE: 0 <= i < 100: two constants are read, nothing is laid: no premise on the world, and the world is as it was. (LAID: no walk: one application.) -/
theorem Try.internal_strconv_FormatInt_10_small (i : Nat) (hi : i < 100) (w : World) :
    Calls Try.prog 44 #[.int .i64 i, .int .i64 10] w fun e w' => e = .returned (.string ⟨(Lib.decDigits i).toArray⟩) ∧ w' = w := Any.internal_strconv_FormatInt_10_small Try.lays246 i hi w
def Try.laysM173_ren : Go.Shelf.Ren := ⟨fun | 173 => 42 | 246 => 44 | 283 => 51 | 284 => 52 | 285 => 53 | 286 => 54 | 129 => 62 | 317 => 61 | 318 => 63 | 319 => 64 | 320 => 65 | 337 => 72 | 338 => 73 | n => n, fun | 2 => 2 | 3 => 3 | 9 => 9 | 4 => 4 | 171 => 105 | 0 => 0 | 53 => 106 | 37 => 95 | 5 => 5 | 173 => 109 | 212 => 115 | 51 => 78 | 20 => 20 | 213 => 116 | 46 => 118 | 232 => 130 | 233 => 131 | n => n, fun | 17 => 0 | 18 => 4 | 19 => 5 | n => n⟩
theorem Try.laysM173 : Go.Proofs.LaysM.n173 Try.prog Try.laysM173_ren := {
  mixed := by kernel_rfl
  f129 := Try.func62.trans (congrArg some (by kernel_rfl))
  f173 := Try.func42.trans (congrArg some (by kernel_rfl))
  f246 := Try.func44.trans (congrArg some (by kernel_rfl))
  f283 := Try.func51.trans (congrArg some (by kernel_rfl))
  f284 := Try.func52.trans (congrArg some (by kernel_rfl))
  f285 := Try.func53.trans (congrArg some (by kernel_rfl))
  f286 := Try.func54.trans (congrArg some (by kernel_rfl))
  f317 := Try.func61.trans (congrArg some (by kernel_rfl))
  f318 := Try.func63.trans (congrArg some (by kernel_rfl))
  f319 := Try.func64.trans (congrArg some (by kernel_rfl))
  f320 := Try.func65.trans (congrArg some (by kernel_rfl))
  f337 := Try.func72.trans (congrArg some (by kernel_rfl))
  f338 := Try.func73.trans (congrArg some (by kernel_rfl))
  t0 := Try.underlying0
  a0 := Try.isAgg0
  z0 := Try.sizeOf0
  v0 := Try.zeroValue0
  t2 := Try.underlying2
  a2 := Try.isAgg2
  z2 := Try.sizeOf2
  v2 := Try.zeroValue2
  t3 := Try.underlying3
  a3 := Try.isAgg3
  z3 := Try.sizeOf3
  v3 := Try.zeroValue3
  t4 := Try.underlying4
  a4 := Try.isAgg4
  z4 := Try.sizeOf4
  v4 := Try.zeroValue4
  t5 := Try.underlying5
  a5 := Try.isAgg5
  z5 := Try.sizeOf5
  v5 := Try.zeroValue5
  t9 := Try.underlying9
  a9 := Try.isAgg9
  z9 := Try.sizeOf9
  v9 := Try.zeroValue9
  t20 := Try.underlying20
  a20 := Try.isAgg20
  z20 := Try.sizeOf20
  v20 := Try.zeroValue20
  t37 := Try.underlying95
  a37 := Try.isAgg95
  z37 := Try.sizeOf95
  v37 := Try.zeroValue95
  t46 := Try.underlying118
  a46 := Try.isAgg118
  z46 := Try.sizeOf118
  v46 := Try.zeroValue118
  t51 := Try.underlying78
  a51 := Try.isAgg78
  z51 := Try.sizeOf78
  v51 := Try.zeroValue78
  t53 := Try.underlying106
  a53 := Try.isAgg106
  z53 := Try.sizeOf106
  v53 := Try.zeroValue106
  t171 := Try.underlying105
  a171 := Try.isAgg105
  z171 := Try.sizeOf105
  v171 := Try.zeroValue105
  t173 := Try.underlying109
  a173 := Try.isAgg109
  z173 := Try.sizeOf109
  v173 := Try.zeroValue109
  t212 := Try.underlying115
  a212 := Try.isAgg115
  z212 := Try.sizeOf115
  v212 := Try.zeroValue115
  t213 := Try.underlying116
  a213 := Try.isAgg116
  z213 := Try.sizeOf116
  t232 := Try.underlying130
  a232 := Try.isAgg130
  z232 := Try.sizeOf130
  v232 := Try.zeroValue130
  t233 := Try.underlying131
  a233 := Try.isAgg131
  z233 := Try.sizeOf131
  v233 := Try.zeroValue131
  g17 := by kernel_rfl
  g18 := by kernel_rfl
  g19 := by kernel_rfl
  i0 := by kernel_rfl
  i2 := by kernel_rfl
  i3 := by kernel_rfl
  i4 := by kernel_rfl
  i5 := by kernel_rfl
  i9 := by kernel_rfl
  i20 := by kernel_rfl
  i37 := by kernel_rfl
  i46 := by kernel_rfl
  i51 := by kernel_rfl
  i53 := by kernel_rfl
  i171 := by kernel_rfl
  i173 := by kernel_rfl
  i212 := by kernel_rfl
  i232 := by kernel_rfl
  i233 := by kernel_rfl
  m17 := by kernel_rfl
  m18 := by kernel_rfl
  m19 := by kernel_rfl }
open Go.RowKit Go.Sort Go.Lib in
/-- strconv.FormatInt: "FormatInt returns the string representation of i in the given base": AT BASE 10: i's decimal numeral, for every int64. (LAID: no walk: one application.) -/
theorem Try.strconv_FormatInt_10 (n : Int) (h0 : -9223372036854775808 ≤ n) (h1 : n ≤ 9223372036854775807) (w : World) (htab : Lib.TabIs Try.prog w "internal/strconv.uint64pow10" .u64 Lib.pow10Tab) :
    Calls Try.prog 42 #[.int .i64 n, .int .i64 10] w fun e w' => e = .returned (.string ⟨(Lib.itoa n).toArray⟩) ∧ ∃ k os, w' = grow (w.drewN k) os := Any.strconv_FormatInt_10 Try.laysM173 n h0 h1 w htab
def Try.lays173_ren : Go.Shelf.Ren := ⟨fun | 173 => 42 | 246 => 44 | 283 => 51 | 284 => 52 | 285 => 53 | 286 => 54 | 129 => 62 | 317 => 61 | 318 => 63 | 319 => 64 | 320 => 65 | 337 => 72 | 338 => 73 | n => n, fun | 2 => 2 | 3 => 3 | 9 => 9 | 4 => 4 | 171 => 105 | 0 => 0 | 53 => 106 | 37 => 95 | 5 => 5 | 173 => 109 | 212 => 115 | 51 => 78 | 20 => 20 | 213 => 116 | 46 => 118 | 232 => 130 | 233 => 131 | n => n, fun | 17 => 0 | 18 => 4 | 19 => 5 | n => n⟩
theorem Try.lays173 : Go.Proofs.Lays.n173 Try.prog Try.lays173_ren := {
  mixed := by kernel_rfl
  f129 := Try.func62.trans (congrArg some (by kernel_rfl))
  f173 := Try.func42.trans (congrArg some (by kernel_rfl))
  f246 := Try.func44.trans (congrArg some (by kernel_rfl))
  f283 := Try.func51.trans (congrArg some (by kernel_rfl))
  f284 := Try.func52.trans (congrArg some (by kernel_rfl))
  f285 := Try.func53.trans (congrArg some (by kernel_rfl))
  f286 := Try.func54.trans (congrArg some (by kernel_rfl))
  f317 := Try.func61.trans (congrArg some (by kernel_rfl))
  f318 := Try.func63.trans (congrArg some (by kernel_rfl))
  f319 := Try.func64.trans (congrArg some (by kernel_rfl))
  f320 := Try.func65.trans (congrArg some (by kernel_rfl))
  f337 := Try.func72.trans (congrArg some (by kernel_rfl))
  f338 := Try.func73.trans (congrArg some (by kernel_rfl))
  t0 := Try.underlying0
  a0 := Try.isAgg0
  z0 := Try.sizeOf0
  v0 := Try.zeroValue0
  t2 := Try.underlying2
  a2 := Try.isAgg2
  z2 := Try.sizeOf2
  v2 := Try.zeroValue2
  t3 := Try.underlying3
  a3 := Try.isAgg3
  z3 := Try.sizeOf3
  v3 := Try.zeroValue3
  t4 := Try.underlying4
  a4 := Try.isAgg4
  z4 := Try.sizeOf4
  v4 := Try.zeroValue4
  t5 := Try.underlying5
  a5 := Try.isAgg5
  z5 := Try.sizeOf5
  v5 := Try.zeroValue5
  t9 := Try.underlying9
  a9 := Try.isAgg9
  z9 := Try.sizeOf9
  v9 := Try.zeroValue9
  t20 := Try.underlying20
  a20 := Try.isAgg20
  z20 := Try.sizeOf20
  v20 := Try.zeroValue20
  t37 := Try.underlying95
  a37 := Try.isAgg95
  z37 := Try.sizeOf95
  v37 := Try.zeroValue95
  t46 := Try.underlying118
  a46 := Try.isAgg118
  z46 := Try.sizeOf118
  v46 := Try.zeroValue118
  t51 := Try.underlying78
  a51 := Try.isAgg78
  z51 := Try.sizeOf78
  v51 := Try.zeroValue78
  t53 := Try.underlying106
  a53 := Try.isAgg106
  z53 := Try.sizeOf106
  v53 := Try.zeroValue106
  t171 := Try.underlying105
  a171 := Try.isAgg105
  z171 := Try.sizeOf105
  v171 := Try.zeroValue105
  t173 := Try.underlying109
  a173 := Try.isAgg109
  z173 := Try.sizeOf109
  v173 := Try.zeroValue109
  t212 := Try.underlying115
  a212 := Try.isAgg115
  z212 := Try.sizeOf115
  v212 := Try.zeroValue115
  t213 := Try.underlying116
  a213 := Try.isAgg116
  z213 := Try.sizeOf116
  t232 := Try.underlying130
  a232 := Try.isAgg130
  z232 := Try.sizeOf130
  v232 := Try.zeroValue130
  t233 := Try.underlying131
  a233 := Try.isAgg131
  z233 := Try.sizeOf131
  v233 := Try.zeroValue131
  g17 := by kernel_rfl
  g18 := by kernel_rfl
  g19 := by kernel_rfl }
open Go.RowKit Go.Sort Go.Lib in
/-- THE ROAD WITHOUT THE TABLE: 0 <= i < 100. (LAID: no walk: one application.) -/
theorem Try.strconv_FormatInt_10_small (i : Nat) (hi : i < 100) (w : World) :
    Calls Try.prog 42 #[.int .i64 i, .int .i64 10] w fun e w' => e = .returned (.string ⟨(Lib.decDigits i).toArray⟩) ∧ w' = w := Any.strconv_FormatInt_10_small Try.lays173 i hi w
def Try.lays217_ren : Go.Shelf.Ren := ⟨fun | 217 => 68 | 266 => 74 | n => n, fun | 9 => 9 | 5 => 5 | 3 => 3 | n => n, fun | n => n⟩
theorem Try.lays217 : Go.Proofs.Lays.n217 Try.prog Try.lays217_ren := {
  mixed := by kernel_rfl
  f217 := Try.func68.trans (congrArg some (by kernel_rfl))
  f266 := Try.func74.trans (congrArg some (by kernel_rfl))
  t3 := Try.underlying3
  a3 := Try.isAgg3
  z3 := Try.sizeOf3
  v3 := Try.zeroValue3
  t5 := Try.underlying5
  a5 := Try.isAgg5
  z5 := Try.sizeOf5
  v5 := Try.zeroValue5
  t9 := Try.underlying9
  a9 := Try.isAgg9
  z9 := Try.sizeOf9
  v9 := Try.zeroValue9 }
open Go.RowKit Go.Lib in
/-- internal/stringslite.IndexByte (what strings.IndexByte calls): IT RETURNS 'Lib.indexByte s c'; the world is as it was. (LAID: no walk: one application.) -/
theorem Try.stringslite_IndexByte (s : ByteArray) (c : Int) (w : World) :
    Calls Try.prog 68 #[.string s, .int .u8 c] w fun e w' => e = .returned (.int .i64 (Lib.indexByte s.data.toList c.toNat.toUInt8)) ∧ w' = w := Any.stringslite_IndexByte Try.lays217 s c w
def Try.lays224_ren : Go.Shelf.Ren := ⟨fun | 224 => 70 | n => n, fun | 3 => 3 | n => n, fun | n => n⟩
theorem Try.lays224 : Go.Proofs.Lays.n224 Try.prog Try.lays224_ren := {
  mixed := by kernel_rfl
  f224 := Try.func70.trans (congrArg some (by kernel_rfl))
  t3 := Try.underlying3
  a3 := Try.isAgg3
  z3 := Try.sizeOf3
  v3 := Try.zeroValue3 }
open Go.RowKit Go.Lib in
/-- internal/bytealg.Cutover: "Cutover reports the number of failures of IndexByte we should tolerate before switching over to Index. n is the number of bytes processed so far.": on amd64: (n + 16) / 8. (LAID: no walk: one application.) -/
theorem Try.bytealg_Cutover (n : Int) (h0 : 0 ≤ n) (h1 : n < 4611686018427387904) (w : World) :
    Calls Try.prog 70 #[.int .i64 n] w fun e w' => e = .returned (.int .i64 ((n + 16) / 8)) ∧ w' = w := Any.bytealg_Cutover Try.lays224 n h0 h1 w
def Try.lays314_ren : Go.Shelf.Ren := ⟨fun | 314 => 75 | n => n, fun | 9 => 9 | 51 => 78 | 3 => 3 | 4 => 4 | 5 => 5 | 46 => 118 | n => n, fun | n => n⟩
theorem Try.lays314 : Go.Proofs.Lays.n314 Try.prog Try.lays314_ren := {
  mixed := by kernel_rfl
  f314 := Try.func75.trans (congrArg some (by kernel_rfl))
  t3 := Try.underlying3
  a3 := Try.isAgg3
  z3 := Try.sizeOf3
  v3 := Try.zeroValue3
  t4 := Try.underlying4
  a4 := Try.isAgg4
  z4 := Try.sizeOf4
  v4 := Try.zeroValue4
  t5 := Try.underlying5
  a5 := Try.isAgg5
  z5 := Try.sizeOf5
  v5 := Try.zeroValue5
  t9 := Try.underlying9
  a9 := Try.isAgg9
  z9 := Try.sizeOf9
  v9 := Try.zeroValue9
  t46 := Try.underlying118
  a46 := Try.isAgg118
  z46 := Try.sizeOf118
  v46 := Try.zeroValue118
  t51 := Try.underlying78
  a51 := Try.isAgg78
  z51 := Try.sizeOf78
  v51 := Try.zeroValue78 }
open Go.RowKit Go.Lib in
/-- hashStr: "returns the hash and the appropriate multiplicative factor for use in Rabin-Karp algorithm": THE HASH OF ALL OF sep, AND 16777619 ^ len(sep), both in uint32. (LAID: no walk: one application.) -/
theorem Try.bytealg_hashStr (sep : ByteArray) (hs : sep.size < 4294967281) (w : World) :
    Calls Try.prog 75 #[.string sep] w fun e w' => e = .returned (.tuple #[.int .u32 (RK.H sep.data.toList % 4294967296), .int .u32 (16777619 ^ sep.size % 4294967296)]) ∧ w' = w := Any.bytealg_hashStr Try.lays314 sep hs w
def Try.lays267_ren : Go.Shelf.Ren := ⟨fun | 267 => 71 | 314 => 75 | n => n, fun | 9 => 9 | 3 => 3 | 146 => 128 | 51 => 78 | 4 => 4 | 5 => 5 | 46 => 118 | n => n, fun | n => n⟩
theorem Try.lays267 : Go.Proofs.Lays.n267 Try.prog Try.lays267_ren := {
  mixed := by kernel_rfl
  f267 := Try.func71.trans (congrArg some (by kernel_rfl))
  f314 := Try.func75.trans (congrArg some (by kernel_rfl))
  t3 := Try.underlying3
  a3 := Try.isAgg3
  z3 := Try.sizeOf3
  v3 := Try.zeroValue3
  t4 := Try.underlying4
  a4 := Try.isAgg4
  z4 := Try.sizeOf4
  v4 := Try.zeroValue4
  t5 := Try.underlying5
  a5 := Try.isAgg5
  z5 := Try.sizeOf5
  v5 := Try.zeroValue5
  t9 := Try.underlying9
  a9 := Try.isAgg9
  z9 := Try.sizeOf9
  v9 := Try.zeroValue9
  t46 := Try.underlying118
  a46 := Try.isAgg118
  z46 := Try.sizeOf118
  v46 := Try.zeroValue118
  t51 := Try.underlying78
  a51 := Try.isAgg78
  z51 := Try.sizeOf78
  v51 := Try.zeroValue78
  t146 := Try.underlying128
  a146 := Try.isAgg128
  z146 := Try.sizeOf128
  v146 := Try.zeroValue128 }
open Go.RowKit Go.Lib in
theorem Try.bytealg_IndexRabinKarp (s sep : ByteArray) (h1 : 1 ≤ sep.size) (h2 : sep.size ≤ s.size) (hs : s.size < 4294967281) (w : World) :
    Calls Try.prog 71 #[.string s, .string sep] w fun e w' => e = .returned (.int .i64 (Lib.index s.data.toList sep.data.toList)) ∧ w' = w := Any.bytealg_IndexRabinKarp Try.lays267 s sep h1 h2 hs w
def Try.lays195_ren : Go.Shelf.Ren := ⟨fun | 195 => 55 | n => n, fun | 9 => 9 | 3 => 3 | 0 => 0 | 4 => 4 | n => n, fun | n => n⟩
theorem Try.lays195 : Go.Proofs.Lays.n195 Try.prog Try.lays195_ren := {
  mixed := by kernel_rfl
  f195 := Try.func55.trans (congrArg some (by kernel_rfl))
  t0 := Try.underlying0
  a0 := Try.isAgg0
  z0 := Try.sizeOf0
  v0 := Try.zeroValue0
  t3 := Try.underlying3
  a3 := Try.isAgg3
  z3 := Try.sizeOf3
  v3 := Try.zeroValue3
  t4 := Try.underlying4
  a4 := Try.isAgg4
  z4 := Try.sizeOf4
  v4 := Try.zeroValue4
  t9 := Try.underlying9
  a9 := Try.isAgg9
  z9 := Try.sizeOf9
  v9 := Try.zeroValue9 }
open Go.RowKit Go.Lib in
theorem Try.utf8_RuneCountInString_ascii (s : ByteArray) (w : World) (hs : s.size < 4294967281) (hascii : ∀ (j : Nat) b, s.data.toList[j]? = some b → b.toNat < 128) :
    Calls Try.prog 55 #[.string s] w fun e w' => e = .returned (.int .i64 s.size) ∧ w' = w.iter s s.size := Any.utf8_RuneCountInString_ascii Try.lays195 s w hs hascii
def Try.lays260_ren : Go.Shelf.Ren := ⟨fun | 260 => 60 | n => n, fun | 9 => 9 | 21 => 21 | 3 => 3 | 4 => 4 | 5 => 5 | 119 => 123 | 0 => 0 | 46 => 118 | 139 => 126 | 138 => 125 | n => n, fun | 3 => 2 | 4 => 3 | n => n⟩
theorem Try.lays260 : Go.Proofs.Lays.n260 Try.prog Try.lays260_ren := {
  mixed := by kernel_rfl
  f260 := Try.func60.trans (congrArg some (by kernel_rfl))
  t0 := Try.underlying0
  a0 := Try.isAgg0
  z0 := Try.sizeOf0
  v0 := Try.zeroValue0
  t3 := Try.underlying3
  a3 := Try.isAgg3
  z3 := Try.sizeOf3
  v3 := Try.zeroValue3
  t4 := Try.underlying4
  a4 := Try.isAgg4
  z4 := Try.sizeOf4
  v4 := Try.zeroValue4
  t5 := Try.underlying5
  a5 := Try.isAgg5
  z5 := Try.sizeOf5
  v5 := Try.zeroValue5
  t9 := Try.underlying9
  a9 := Try.isAgg9
  z9 := Try.sizeOf9
  v9 := Try.zeroValue9
  t21 := Try.underlying21
  a21 := Try.isAgg21
  z21 := Try.sizeOf21
  v21 := Try.zeroValue21
  t46 := Try.underlying118
  a46 := Try.isAgg118
  z46 := Try.sizeOf118
  v46 := Try.zeroValue118
  t119 := Try.underlying123
  a119 := Try.isAgg123
  z119 := Try.sizeOf123
  t138 := Try.underlying125
  a138 := Try.isAgg125
  z138 := Try.sizeOf125
  v138 := Try.zeroValue125
  t139 := Try.underlying126
  a139 := Try.isAgg126
  z139 := Try.sizeOf126
  v139 := Try.zeroValue126
  g3 := by kernel_rfl
  g4 := by kernel_rfl }
open Go.RowKit Go.Lib in
theorem Try.utf8_decodeRuneInStringSlow (s : ByteArray) (w : World) (hT : Lib.Utf8Tabs 2 3 w) :
    Calls Try.prog 60 #[.string s] w fun e w' => e = .returned (.tuple #[.int .i32 (Lib.decodeGo s).1, .int .i64 (Lib.decodeGo s).2]) ∧ Below w.heap.size w w' := Any.utf8_decodeRuneInStringSlow Try.lays260 s w hT
def Try.lays197_ren : Go.Shelf.Ren := ⟨fun | 197 => 49 | 260 => 60 | n => n, fun | 9 => 9 | 21 => 21 | 3 => 3 | 4 => 4 | 5 => 5 | 105 => 103 | 119 => 123 | 0 => 0 | 46 => 118 | 139 => 126 | 138 => 125 | n => n, fun | 3 => 2 | 4 => 3 | n => n⟩
theorem Try.lays197 : Go.Proofs.Lays.n197 Try.prog Try.lays197_ren := {
  mixed := by kernel_rfl
  f197 := Try.func49.trans (congrArg some (by kernel_rfl))
  f260 := Try.func60.trans (congrArg some (by kernel_rfl))
  t0 := Try.underlying0
  a0 := Try.isAgg0
  z0 := Try.sizeOf0
  v0 := Try.zeroValue0
  t3 := Try.underlying3
  a3 := Try.isAgg3
  z3 := Try.sizeOf3
  v3 := Try.zeroValue3
  t4 := Try.underlying4
  a4 := Try.isAgg4
  z4 := Try.sizeOf4
  v4 := Try.zeroValue4
  t5 := Try.underlying5
  a5 := Try.isAgg5
  z5 := Try.sizeOf5
  v5 := Try.zeroValue5
  t9 := Try.underlying9
  a9 := Try.isAgg9
  z9 := Try.sizeOf9
  v9 := Try.zeroValue9
  t21 := Try.underlying21
  a21 := Try.isAgg21
  z21 := Try.sizeOf21
  v21 := Try.zeroValue21
  t46 := Try.underlying118
  a46 := Try.isAgg118
  z46 := Try.sizeOf118
  v46 := Try.zeroValue118
  t105 := Try.underlying103
  a105 := Try.isAgg103
  z105 := Try.sizeOf103
  v105 := Try.zeroValue103
  t119 := Try.underlying123
  a119 := Try.isAgg123
  z119 := Try.sizeOf123
  t138 := Try.underlying125
  a138 := Try.isAgg125
  z138 := Try.sizeOf125
  v138 := Try.zeroValue125
  t139 := Try.underlying126
  a139 := Try.isAgg126
  z139 := Try.sizeOf126
  v139 := Try.zeroValue126
  g3 := by kernel_rfl
  g4 := by kernel_rfl }
open Go.RowKit Go.Lib in
/-- **unicode/utf8.DecodeRuneInString AT EVERY STRING.** (LAID: no walk: one application.) -/
theorem Try.utf8_DecodeRuneInString (s : ByteArray) (w : World) (hT : Lib.Utf8Tabs 2 3 w) :
    Calls Try.prog 49 #[.string s] w fun e w' => e = .returned (.tuple #[.int .i32 (Lib.decodeGo s).1, .int .i64 (Lib.decodeGo s).2]) ∧ Below w.heap.size w w' := Any.utf8_DecodeRuneInString Try.lays197 s w hT
end Go.Proofs
