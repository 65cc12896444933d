/-
  DERIVED: THE SHELF's CONTRACTS AT THIS DUMP, IN PLAIN WORDS (tools/lay-plain.mjs out of 'TryzShelf.lean', which tools/lay-shelf.mjs wrote): THE SAME DECLARATIONS UNDER THE SAME NAMES: 'import', 'namespace', 'open', 'def', 'theorem' AND NOTHING ELSE: no command of the shelf's: FOR A HAND-IN. Each laying: the table of numbers ('.._ren') and one theorem, a field a fact of the dump's own or the kernel's comparison; each contract: ONE APPLICATION.
-/
import Derived.Shelf.Unicode.ValidAny
import Derived.Shelf.Strings.Builder1
import Derived.Shelf.Strings.Builder2
import Derived.Shelf.Strings.OnBuilder
import Derived.Shelf.Small.Utf8
import Derived.Shelf.Small.Strs
import Derived.Shelf.Small.Wraps
import Derived.Shelf.Strings.BuilderF
import Derived.Shelf.Strings.BuilderK
import Derived.Shelf.Strings.BuilderRune
import Derived.Shelf.Utf8.AppendRune
import Derived.Shelf.Utf8.AppendRunePlain
import Derived.Shelf.Utf8.RuneCount
import Derived.Shelf.Strings.Builder2Cap
import Derived.Shelf.Strconv.Itoa0
import Derived.Shelf.Strconv.Itoa1
import Derived.Shelf.LaysM
import Derived.Shelf.Strconv.Itoa2
import Derived.Shelf.Strconv.Itoa3
import Derived.Shelf.Strconv.Itoa4
import Derived.Shelf.Strings.Search1
import Derived.Shelf.Strings.Search2
import Derived.Shelf.Strings.Search3
import Derived.Shelf.Strings.Count
import Derived.Shelf.Strings.Shaped
import Derived.Shelf.Strings.Split
import Derived.Shelf.Strings.Replace
import Derived.Shelf.Strings.SplitShaped
import Derived.Shelf.Unicode.Latin
import Derived.Shelf.Unicode.Decode
import Derived.Shelf.Strings.RuneCount
import Derived.Shelf.Bits.Mul64
import Derived.Shelf.Unicode.DecodeSlow
import Derived.Shelf.Unicode.DecodeAny
import Derived.Shelf.Unicode.CaseLookup
import Derived.Shelf.Unicode.CaseConvert
import Derived.Shelf.Unicode.CaseTo
import Derived.Shelf.Unicode.CaseLaid
import Derived.Shelf.Strings.MapAny
import Derived.Shelf.Strings.CaseAny
import Derived.Shelf.Strings.BuilderCap
import Derived.Shelf.Strings.MapGrows
import Derived.Shelf.Slices.Turned
import Derived.Ground.Names2Prog
import Derived.Shelf.Slices.SearchI
import Derived.Test.YtkfjmgmjbljnbaaGreatDoorProg
namespace Go.Proofs
open Go.Shelf
def Tryz.lays169_ren : Go.Shelf.Ren := ⟨fun | 169 => 194 | n => n, fun | 70 => 287 | 9 => 9 | 0 => 0 | 72 => 289 | 37 => 272 | 127 => 314 | 3 => 3 | 5 => 5 | n => n, fun | n => n⟩
theorem Tryz.lays169 : Go.Proofs.Lays.n169 Tryz.prog Tryz.lays169_ren := {
  mixed := by kernel_rfl
  f169 := Tryz.func194.trans (congrArg some (by kernel_rfl))
  t0 := Tryz.underlying0
  a0 := Tryz.isAgg0
  z0 := Tryz.sizeOf0
  v0 := Tryz.zeroValue0
  t3 := Tryz.underlying3
  a3 := Tryz.isAgg3
  z3 := Tryz.sizeOf3
  v3 := Tryz.zeroValue3
  t9 := Tryz.underlying9
  a9 := Tryz.isAgg9
  z9 := Tryz.sizeOf9
  v9 := Tryz.zeroValue9
  t37 := Tryz.underlying272
  a37 := Tryz.isAgg272
  z37 := Tryz.sizeOf272
  v37 := Tryz.zeroValue272
  t70 := Tryz.underlying287
  a70 := Tryz.isAgg287
  z70 := Tryz.sizeOf287
  v70 := Tryz.zeroValue287
  t72 := Tryz.underlying289
  a72 := Tryz.isAgg289
  z72 := Tryz.sizeOf289
  v72 := Tryz.zeroValue289
  t127 := Tryz.underlying314
  a127 := Tryz.isAgg314
  z127 := Tryz.sizeOf314
  v127 := Tryz.zeroValue314 }
theorem Tryz.Builder_Extra_169 : Builder.Extra Tryz.prog Tryz.lays169_ren := {
  sizeBuilder := by kernel_rfl
  liesBuilder := by kernel_rfl
  t5 := Tryz.underlying5
  a5 := Tryz.isAgg5
  z5 := Tryz.sizeOf5
  v5 := Tryz.zeroValue5
  infoByte := by kernel_rfl
  cellsByte := by kernel_rfl
  sizeByte := by kernel_rfl
  neB5 := by decide }
open Go.RowKit in
/-- (*strings.Builder).String: "String returns the accumulated string.": OF A BUILDER THAT HOLDS AT LEAST ONE BYTE. ✋ THE MODEL FREEZES THOSE BYTES IN THE BUFFER (unsafe.String): a later write INTO them ends the model's run without an answer; a later append BEHIND them goes on. The statement's order of evaluation is drawn: one draw. (LAID: no walk: one application.) -/
theorem Tryz.Builder_String (B b : Nat) (l : List UInt8) (w : World) (h : Lib.IsBuilder 289 5 B b (Lib.byteCells l) w) (h0 : l ≠ []) :
    Calls Tryz.prog 194 #[.pointer (some ⟨b, 0, none⟩)] w fun e w' => e = .returned (.string ⟨l.toArray⟩) ∧ Below B w w' := Any.Builder_String Tryz.lays169 Tryz.Builder_Extra_169 B b l w h h0
open Go.RowKit in
/-- (*strings.Builder).String OF A BUILDER THAT HOLDS NO BYTE: the empty string. (Its buffer is nil, or a row of which it has taken nothing yet; where that row has NO capacity the model lays one new block for unsafe.SliceData's 'some address'.) One draw. (LAID: no walk: one application.) -/
theorem Tryz.Builder_String_empty (B b : Nat) (w : World) (h : Lib.IsBuilder 289 5 B b [] w) (hBw : B ≤ w.heap.size) :
    Calls Tryz.prog 194 #[.pointer (some ⟨b, 0, none⟩)] w fun e w' => e = .returned (.string ⟨#[]⟩) ∧ Below B w w' := Any.Builder_String_empty Tryz.lays169 Tryz.Builder_Extra_169 B b w h hBw
open Go.RowKit in
/-- (*strings.Builder).String: "String returns the accumulated string.": WHATEVER THE BUILDER HOLDS. (LAID: no walk: one application.) -/
theorem Tryz.Builder_String_any (B b : Nat) (l : List UInt8) (w : World) (h : Lib.IsBuilder 289 5 B b (Lib.byteCells l) w) (hBw : B ≤ w.heap.size) :
    Calls Tryz.prog 194 #[.pointer (some ⟨b, 0, none⟩)] w fun e w' => e = .returned (.string ⟨l.toArray⟩) ∧ Below B w w' := Any.Builder_String_any Tryz.lays169 Tryz.Builder_Extra_169 B b l w h hBw
def Tryz.lays241_ren : Go.Shelf.Ren := ⟨fun | 241 => 213 | 277 => 230 | n => n, fun | 70 => 287 | 3 => 3 | 0 => 0 | 72 => 289 | 37 => 272 | 5 => 5 | n => n, fun | n => n⟩
theorem Tryz.lays241 : Go.Proofs.Lays.n241 Tryz.prog Tryz.lays241_ren := {
  mixed := by kernel_rfl
  f241 := Tryz.func213.trans (congrArg some (by kernel_rfl))
  f277 := Tryz.func230.trans (congrArg some (by kernel_rfl))
  t0 := Tryz.underlying0
  a0 := Tryz.isAgg0
  z0 := Tryz.sizeOf0
  v0 := Tryz.zeroValue0
  t3 := Tryz.underlying3
  a3 := Tryz.isAgg3
  z3 := Tryz.sizeOf3
  v3 := Tryz.zeroValue3
  t37 := Tryz.underlying272
  a37 := Tryz.isAgg272
  z37 := Tryz.sizeOf272
  v37 := Tryz.zeroValue272
  t70 := Tryz.underlying287
  a70 := Tryz.isAgg287
  z70 := Tryz.sizeOf287
  v70 := Tryz.zeroValue287
  t72 := Tryz.underlying289
  a72 := Tryz.isAgg289
  z72 := Tryz.sizeOf289
  v72 := Tryz.zeroValue289 }
theorem Tryz.Builder_Extra_241 : Builder.Extra Tryz.prog Tryz.lays241_ren := {
  sizeBuilder := by kernel_rfl
  liesBuilder := by kernel_rfl
  t5 := Tryz.underlying5
  a5 := Tryz.isAgg5
  z5 := Tryz.sizeOf5
  v5 := Tryz.zeroValue5
  infoByte := by kernel_rfl
  cellsByte := by kernel_rfl
  sizeByte := by kernel_rfl
  neB5 := by decide }
open Go.RowKit in
/-- (*strings.Builder).grow (no doc but "grow copies the buffer to a new, larger buffer so that there are at least n bytes of capacity beyond len(b.buf)."): AT A BUILDER WITHOUT A BUFFER: a new row of whatever bytes for its buffer, none of them its own yet. Three draws. (LAID: no walk: one application.) -/
theorem Tryz.Builder_grow_fresh (B b n : Nat) (w : World) (hB : B ≤ b) (hbk : w.heap[b]? = some (.cells #[.pointer (some ⟨b, 0, none⟩), .slice none 0 0] 289 (0, 0))) (hBw : B ≤ w.heap.size) (hn : n ≤ 281474976710656) :
    Calls Tryz.prog 213 #[.pointer (some ⟨b, 0, none⟩), .int .i64 n] w fun e w' => e = .returned (.tuple #[]) ∧ (Lib.BuilderAt 289 5 B b (.pointer (some ⟨b, 0, none⟩)) [] w' ∧ Below B w w') := Any.Builder_grow_fresh Tryz.lays241 Tryz.Builder_Extra_241 B b n w hB hbk hBw hn
def Tryz.lays165_ren : Go.Shelf.Ren := ⟨fun | 165 => 189 | 240 => 212 | 241 => 213 | 276 => 229 | 277 => 230 | n => n, fun | 70 => 287 | 3 => 3 | 0 => 0 | 4 => 4 | 9 => 9 | 20 => 20 | 72 => 289 | 37 => 272 | 164 => 326 | 5 => 5 | n => n, fun | n => n⟩
theorem Tryz.lays165 : Go.Proofs.Lays.n165 Tryz.prog Tryz.lays165_ren := {
  mixed := by kernel_rfl
  f165 := Tryz.func189.trans (congrArg some (by kernel_rfl))
  f240 := Tryz.func212.trans (congrArg some (by kernel_rfl))
  f241 := Tryz.func213.trans (congrArg some (by kernel_rfl))
  f276 := Tryz.func229.trans (congrArg some (by kernel_rfl))
  f277 := Tryz.func230.trans (congrArg some (by kernel_rfl))
  t0 := Tryz.underlying0
  a0 := Tryz.isAgg0
  z0 := Tryz.sizeOf0
  v0 := Tryz.zeroValue0
  t3 := Tryz.underlying3
  a3 := Tryz.isAgg3
  z3 := Tryz.sizeOf3
  v3 := Tryz.zeroValue3
  t4 := Tryz.underlying4
  a4 := Tryz.isAgg4
  z4 := Tryz.sizeOf4
  v4 := Tryz.zeroValue4
  t9 := Tryz.underlying9
  a9 := Tryz.isAgg9
  z9 := Tryz.sizeOf9
  v9 := Tryz.zeroValue9
  t20 := Tryz.underlying20
  a20 := Tryz.isAgg20
  z20 := Tryz.sizeOf20
  v20 := Tryz.zeroValue20
  t37 := Tryz.underlying272
  a37 := Tryz.isAgg272
  z37 := Tryz.sizeOf272
  v37 := Tryz.zeroValue272
  t70 := Tryz.underlying287
  a70 := Tryz.isAgg287
  z70 := Tryz.sizeOf287
  v70 := Tryz.zeroValue287
  t72 := Tryz.underlying289
  a72 := Tryz.isAgg289
  z72 := Tryz.sizeOf289
  v72 := Tryz.zeroValue289
  t164 := Tryz.underlying326
  a164 := Tryz.isAgg326
  z164 := Tryz.sizeOf326
  v164 := Tryz.zeroValue326 }
theorem Tryz.Builder_Extra_165 : Builder.Extra Tryz.prog Tryz.lays165_ren := {
  sizeBuilder := by kernel_rfl
  liesBuilder := by kernel_rfl
  t5 := Tryz.underlying5
  a5 := Tryz.isAgg5
  z5 := Tryz.sizeOf5
  v5 := Tryz.zeroValue5
  infoByte := by kernel_rfl
  cellsByte := by kernel_rfl
  sizeByte := by kernel_rfl
  neB5 := by decide }
open Go.RowKit in
/-- (*strings.Builder).Grow AT A BUILDER THAT HAS NOT BEEN WRITTEN ('var b strings.Builder; b.Grow(n)'): "Grow grows b's capacity, if necessary, to guarantee space for another n bytes.": it holds no byte behind it as before it. (LAID: no walk: one application.) -/
theorem Tryz.Builder_Grow_fresh (B b n : Nat) (w : World) (hB : B ≤ b) (hbk : w.heap[b]? = some (.cells #[.pointer none, .slice none 0 0] 289 (0, 0))) (hBw : B ≤ w.heap.size) (hn : n ≤ 281474976710656) :
    Calls Tryz.prog 189 #[.pointer (some ⟨b, 0, none⟩), .int .i64 n] w fun e w' => e = .returned (.tuple #[]) ∧ (Lib.BuilderAt 289 5 B b (.pointer (some ⟨b, 0, none⟩)) [] w' ∧ Below B w w') := Any.Builder_Grow_fresh Tryz.lays165 Tryz.Builder_Extra_165 B b n w hB hbk hBw hn
def Tryz.lays158_ren : Go.Shelf.Ren := ⟨fun | 158 => 216 | 165 => 189 | 166 => 190 | 167 => 193 | 169 => 194 | 230 => 148 | 203 => 232 | 240 => 212 | 241 => 213 | 197 => 143 | 118 => 188 | 168 => 191 | 270 => 192 | 262 => 243 | 276 => 229 | 277 => 230 | 260 => 187 | 242 => 214 | 313 => 250 | 278 => 231 | 274 => 252 | 275 => 253 | n => n, fun | 9 => 9 | 4 => 4 | 3 => 3 | 5 => 5 | 72 => 289 | 0 => 0 | 76 => 294 | 75 => 293 | 107 => 232 | 70 => 287 | 20 => 20 | 37 => 272 | 127 => 314 | 21 => 21 | 105 => 227 | 164 => 326 | 162 => 342 | 203 => 340 | 119 => 300 | 46 => 284 | 139 => 303 | 138 => 302 | 51 => 329 | 160 => 345 | 208 => 351 | 206 => 349 | 80 => 136 | n => n, fun | 13 => 5 | 3 => 0 | 4 => 1 | n => n⟩
theorem Tryz.lays158 : Go.Proofs.Lays.n158 Tryz.prog Tryz.lays158_ren := {
  mixed := by kernel_rfl
  f118 := Tryz.func188.trans (congrArg some (by kernel_rfl))
  f158 := Tryz.func216.trans (congrArg some (by kernel_rfl))
  f165 := Tryz.func189.trans (congrArg some (by kernel_rfl))
  f166 := Tryz.func190.trans (congrArg some (by kernel_rfl))
  f167 := Tryz.func193.trans (congrArg some (by kernel_rfl))
  f168 := Tryz.func191.trans (congrArg some (by kernel_rfl))
  f169 := Tryz.func194.trans (congrArg some (by kernel_rfl))
  f197 := Tryz.func143.trans (congrArg some (by kernel_rfl))
  f203 := Tryz.func232.trans (congrArg some (by kernel_rfl))
  f230 := Tryz.func148.trans (congrArg some (by kernel_rfl))
  f240 := Tryz.func212.trans (congrArg some (by kernel_rfl))
  f241 := Tryz.func213.trans (congrArg some (by kernel_rfl))
  f242 := Tryz.func214.trans (congrArg some (by kernel_rfl))
  f260 := Tryz.func187.trans (congrArg some (by kernel_rfl))
  f262 := Tryz.func243.trans (congrArg some (by kernel_rfl))
  f270 := Tryz.func192.trans (congrArg some (by kernel_rfl))
  f274 := Tryz.func252.trans (congrArg some (by kernel_rfl))
  f275 := Tryz.func253.trans (congrArg some (by kernel_rfl))
  f276 := Tryz.func229.trans (congrArg some (by kernel_rfl))
  f277 := Tryz.func230.trans (congrArg some (by kernel_rfl))
  f278 := Tryz.func231.trans (congrArg some (by kernel_rfl))
  f313 := Tryz.func250.trans (congrArg some (by kernel_rfl))
  t0 := Tryz.underlying0
  a0 := Tryz.isAgg0
  z0 := Tryz.sizeOf0
  v0 := Tryz.zeroValue0
  t3 := Tryz.underlying3
  a3 := Tryz.isAgg3
  z3 := Tryz.sizeOf3
  v3 := Tryz.zeroValue3
  t4 := Tryz.underlying4
  a4 := Tryz.isAgg4
  z4 := Tryz.sizeOf4
  v4 := Tryz.zeroValue4
  t5 := Tryz.underlying5
  a5 := Tryz.isAgg5
  z5 := Tryz.sizeOf5
  v5 := Tryz.zeroValue5
  t9 := Tryz.underlying9
  a9 := Tryz.isAgg9
  z9 := Tryz.sizeOf9
  v9 := Tryz.zeroValue9
  t20 := Tryz.underlying20
  a20 := Tryz.isAgg20
  z20 := Tryz.sizeOf20
  v20 := Tryz.zeroValue20
  t21 := Tryz.underlying21
  a21 := Tryz.isAgg21
  z21 := Tryz.sizeOf21
  v21 := Tryz.zeroValue21
  t37 := Tryz.underlying272
  a37 := Tryz.isAgg272
  z37 := Tryz.sizeOf272
  v37 := Tryz.zeroValue272
  t46 := Tryz.underlying284
  a46 := Tryz.isAgg284
  z46 := Tryz.sizeOf284
  v46 := Tryz.zeroValue284
  t51 := Tryz.underlying329
  a51 := Tryz.isAgg329
  z51 := Tryz.sizeOf329
  v51 := Tryz.zeroValue329
  t70 := Tryz.underlying287
  a70 := Tryz.isAgg287
  z70 := Tryz.sizeOf287
  v70 := Tryz.zeroValue287
  t72 := Tryz.underlying289
  a72 := Tryz.isAgg289
  z72 := Tryz.sizeOf289
  v72 := Tryz.zeroValue289
  t75 := Tryz.underlying293
  a75 := Tryz.isAgg293
  z75 := Tryz.sizeOf293
  v75 := Tryz.zeroValue293
  t76 := Tryz.underlying294
  a76 := Tryz.isAgg294
  z76 := Tryz.sizeOf294
  v76 := Tryz.zeroValue294
  t105 := Tryz.underlying227
  a105 := Tryz.isAgg227
  z105 := Tryz.sizeOf227
  v105 := Tryz.zeroValue227
  t107 := Tryz.underlying232
  a107 := Tryz.isAgg232
  z107 := Tryz.sizeOf232
  v107 := Tryz.zeroValue232
  t119 := Tryz.underlying300
  a119 := Tryz.isAgg300
  z119 := Tryz.sizeOf300
  t127 := Tryz.underlying314
  a127 := Tryz.isAgg314
  z127 := Tryz.sizeOf314
  v127 := Tryz.zeroValue314
  t138 := Tryz.underlying302
  a138 := Tryz.isAgg302
  z138 := Tryz.sizeOf302
  v138 := Tryz.zeroValue302
  t139 := Tryz.underlying303
  a139 := Tryz.isAgg303
  z139 := Tryz.sizeOf303
  v139 := Tryz.zeroValue303
  t160 := Tryz.underlying345
  a160 := Tryz.isAgg345
  z160 := Tryz.sizeOf345
  v160 := Tryz.zeroValue345
  t162 := Tryz.underlying342
  a162 := Tryz.isAgg342
  z162 := Tryz.sizeOf342
  v162 := Tryz.zeroValue342
  t164 := Tryz.underlying326
  a164 := Tryz.isAgg326
  z164 := Tryz.sizeOf326
  v164 := Tryz.zeroValue326
  t203 := Tryz.underlying340
  a203 := Tryz.isAgg340
  z203 := Tryz.sizeOf340
  v203 := Tryz.zeroValue340
  t206 := Tryz.underlying349
  a206 := Tryz.isAgg349
  z206 := Tryz.sizeOf349
  v206 := Tryz.zeroValue349
  t208 := Tryz.underlying351
  a208 := Tryz.isAgg351
  z208 := Tryz.sizeOf351
  v208 := Tryz.zeroValue351
  g3 := by kernel_rfl
  g4 := by kernel_rfl
  g13 := by kernel_rfl }
theorem Tryz.Builder_Extra_158 : Builder.Extra Tryz.prog Tryz.lays158_ren := {
  sizeBuilder := by kernel_rfl
  liesBuilder := by kernel_rfl
  t5 := Tryz.underlying5
  a5 := Tryz.isAgg5
  z5 := Tryz.sizeOf5
  v5 := Tryz.zeroValue5
  infoByte := by kernel_rfl
  cellsByte := by kernel_rfl
  sizeByte := by kernel_rfl
  neB5 := by decide }
open Go.RowKit in
/-- strings.ToUpper: "ToUpper returns s with all Unicode letters mapped to their upper case.": ON ASCII TEXT OF AT MOST 2^47 BYTES. Below the heap's end the world is as it was: where a letter turns, the call makes a builder and its buffer. (LAID: no walk: one application.) -/
theorem Tryz.strings_ToUpper_ascii (s : ByteArray) (w : World) (hs : s.size ≤ 140737488355328) (hascii : ∀ (j : Nat) (b : UInt8), s.data.toList[j]? = some b → b.toNat < 128) :
    Calls Tryz.prog 216 #[.string s] w fun e w' => e = .returned (.string ⟨(Lib.toUpperA s.data.toList).toArray⟩) ∧ Below w.heap.size w w' := Any.strings_ToUpper_ascii Tryz.lays158 Tryz.Builder_Extra_158 s w hs hascii
def Tryz.lays118_ren : Go.Shelf.Ren := ⟨fun | 118 => 188 | n => n, fun | 21 => 21 | 3 => 3 | 4 => 4 | n => n, fun | n => n⟩
theorem Tryz.lays118 : Go.Proofs.Lays.n118 Tryz.prog Tryz.lays118_ren := {
  mixed := by kernel_rfl
  f118 := Tryz.func188.trans (congrArg some (by kernel_rfl))
  t3 := Tryz.underlying3
  a3 := Tryz.isAgg3
  z3 := Tryz.sizeOf3
  v3 := Tryz.zeroValue3
  t4 := Tryz.underlying4
  a4 := Tryz.isAgg4
  z4 := Tryz.sizeOf4
  v4 := Tryz.zeroValue4
  t21 := Tryz.underlying21
  a21 := Tryz.isAgg21
  z21 := Tryz.sizeOf21
  v21 := Tryz.zeroValue21 }
/-- utf8.RuneLen: "RuneLen returns the number of bytes in the UTF-8 encoding of the rune. It returns -1 if the rune is not a valid value to encode in UTF-8.": IT RETURNS 'Lib.runeLen r'; the world is as it was. (LAID: no walk: one application.) -/
theorem Tryz.utf8_RuneLen (r : Int) (w : World) :
    Calls Tryz.prog 188 #[.int .i32 r] w fun e w' => e = .returned (.int .i64 (Lib.runeLen r)) ∧ w' = w := Any.utf8_RuneLen Tryz.lays118 r w
def Tryz.lays137_ren : Go.Shelf.Ren := ⟨fun | 137 => 108 | 217 => 142 | 266 => 186 | n => n, fun | 9 => 9 | 5 => 5 | 3 => 3 | n => n, fun | n => n⟩
theorem Tryz.lays137 : Go.Proofs.Lays.n137 Tryz.prog Tryz.lays137_ren := {
  mixed := by kernel_rfl
  f137 := Tryz.func108.trans (congrArg some (by kernel_rfl))
  f217 := Tryz.func142.trans (congrArg some (by kernel_rfl))
  f266 := Tryz.func186.trans (congrArg some (by kernel_rfl))
  t3 := Tryz.underlying3
  a3 := Tryz.isAgg3
  z3 := Tryz.sizeOf3
  v3 := Tryz.zeroValue3
  t5 := Tryz.underlying5
  a5 := Tryz.isAgg5
  z5 := Tryz.sizeOf5
  v5 := Tryz.zeroValue5
  t9 := Tryz.underlying9
  a9 := Tryz.isAgg9
  z9 := Tryz.sizeOf9
  v9 := Tryz.zeroValue9 }
open Go.RowKit in
/-- strings.IndexByte: "IndexByte returns the index of the first instance of c in s, or -1 if c is not present in s.": IT RETURNS 'Lib.indexByte s c'; the world is as it was. (LAID: no walk: one application.) -/
theorem Tryz.strings_IndexByte (s : ByteArray) (c : Int) (w : World) :
    Calls Tryz.prog 108 #[.string s, .int .u8 c] w fun e w' => e = .returned (.int .i64 (Lib.indexByte s.data.toList c.toNat.toUInt8)) ∧ w' = w := Any.strings_IndexByte Tryz.lays137 s c w
def Tryz.lays215_ren : Go.Shelf.Ren := ⟨fun | 215 => 219 | n => n, fun | 3 => 3 | 4 => 4 | n => n, fun | n => n⟩
theorem Tryz.lays215 : Go.Proofs.Lays.n215 Tryz.prog Tryz.lays215_ren := {
  mixed := by kernel_rfl
  f215 := Tryz.func219.trans (congrArg some (by kernel_rfl))
  t3 := Tryz.underlying3
  a3 := Tryz.isAgg3
  z3 := Tryz.sizeOf3
  v3 := Tryz.zeroValue3
  t4 := Tryz.underlying4
  a4 := Tryz.isAgg4
  z4 := Tryz.sizeOf4
  v4 := Tryz.zeroValue4 }
open Go.RowKit in
/-- cmp.isNaN at int: 'x != x': false. (LAID: no walk: one application.) -/
theorem Tryz.cmp_isNaN_int (x : Int) (w : World) :
    Calls Tryz.prog 219 #[.int .i64 x] w fun e w' => e = .returned (.bool false) ∧ w' = w := Any.cmp_isNaN_int Tryz.lays215 x w
def Tryz.lays122_ren : Go.Shelf.Ren := ⟨fun | 122 => 204 | 215 => 219 | n => n, fun | 3 => 3 | 4 => 4 | n => n, fun | n => n⟩
theorem Tryz.lays122 : Go.Proofs.Lays.n122 Tryz.prog Tryz.lays122_ren := {
  mixed := by kernel_rfl
  f122 := Tryz.func204.trans (congrArg some (by kernel_rfl))
  f215 := Tryz.func219.trans (congrArg some (by kernel_rfl))
  t3 := Tryz.underlying3
  a3 := Tryz.isAgg3
  z3 := Tryz.sizeOf3
  v3 := Tryz.zeroValue3
  t4 := Tryz.underlying4
  a4 := Tryz.isAgg4
  z4 := Tryz.sizeOf4
  v4 := Tryz.zeroValue4 }
open Go.RowKit in
/-- cmp.Compare at int: "Compare returns -1 if x is less than y, 0 if x equals y, +1 if x is greater than y.": IT RETURNS 'Lib.compareInt x y'; the world is as it was. (LAID: no walk: one application.) -/
theorem Tryz.cmp_Compare_int (x y : Int) (w : World) :
    Calls Tryz.prog 204 #[.int .i64 x, .int .i64 y] w fun e w' => e = .returned (.int .i64 (Lib.compareInt x y)) ∧ w' = w := Any.cmp_Compare_int Tryz.lays122 x y w
open Go.RowKit in
/-- (*strings.Builder).String: "String returns the accumulated string.": OF A BUILDER THAT HOLDS AT LEAST ONE BYTE. ✋ THE MODEL FREEZES THOSE BYTES IN THE BUFFER (unsafe.String): a later write INTO them ends the model's run without an answer; a later append BEHIND them goes on. The statement's order of evaluation is drawn: one draw. THE FORM '_f': IT SAYS BESIDES THAT THE BUILDER IS A BUILDER STILL ('Lib.IsBuilderF', the same bytes): SO IT CAN BE WRITTEN ON: 'b.WriteString(b.String()[:k])'. (LAID: no walk: one application.) -/
theorem Tryz.Builder_String_f (B b : Nat) (l : List UInt8) (w : World) (h : Lib.IsBuilderF 289 5 B b (Lib.byteCells l) w) (h0 : l ≠ []) :
    Calls Tryz.prog 194 #[.pointer (some ⟨b, 0, none⟩)] w fun e w' => e = .returned (.string ⟨l.toArray⟩) ∧ (Lib.IsBuilderF 289 5 B b (Lib.byteCells l) w' ∧ Below B w w') := Any.Builder_String_f Tryz.lays169 Tryz.Builder_Extra_169 B b l w h h0
open Go.RowKit in
/-- (*strings.Builder).String OF A BUILDER THAT HOLDS NO BYTE: the empty string; THE FORM '_f': a builder still. (LAID: no walk: one application.) -/
theorem Tryz.Builder_String_empty_f (B b : Nat) (w : World) (h : Lib.IsBuilderF 289 5 B b [] w) (hBw : B ≤ w.heap.size) :
    Calls Tryz.prog 194 #[.pointer (some ⟨b, 0, none⟩)] w fun e w' => e = .returned (.string ⟨#[]⟩) ∧ (Lib.IsBuilderF 289 5 B b [] w' ∧ Below B w w') := Any.Builder_String_empty_f Tryz.lays169 Tryz.Builder_Extra_169 B b w h hBw
open Go.RowKit in
/-- (*strings.Builder).String: "String returns the accumulated string.": WHATEVER THE BUILDER HOLDS; THE FORM '_f': OF A BUILDER THAT MAY HAVE BEEN READ BEFORE; AND IT IS A BUILDER STILL, holding the same bytes: it can be written on. (LAID: no walk: one application.) -/
theorem Tryz.Builder_String_any_f (B b : Nat) (l : List UInt8) (w : World) (h : Lib.IsBuilderF 289 5 B b (Lib.byteCells l) w) (hBw : B ≤ w.heap.size) :
    Calls Tryz.prog 194 #[.pointer (some ⟨b, 0, none⟩)] w fun e w' => e = .returned (.string ⟨l.toArray⟩) ∧ (Lib.IsBuilderF 289 5 B b (Lib.byteCells l) w' ∧ Below B w w') := Any.Builder_String_any_f Tryz.lays169 Tryz.Builder_Extra_169 B b l w h hBw
open Go.RowKit in
/-- (*strings.Builder).String: "String returns the accumulated string.": OF A BUILDER THAT HOLDS AT LEAST ONE BYTE. ✋ THE MODEL FREEZES THOSE BYTES IN THE BUFFER (unsafe.String): a later write INTO them ends the model's run without an answer; a later append BEHIND them goes on. The statement's order of evaluation is drawn: one draw. THE FORM '_k': OVER 'Lib.IsBuilderF' (a builder that 'String()' may have read), AND WITH THE FRAME THAT REACHES ABOVE THE BUILDER: 'Lib.OthersKept': every block that is not b and is no row of uint8's stands as it stood: the iterator of a range among them. (LAID: no walk: one application.) -/
theorem Tryz.Builder_String_k (B b : Nat) (l : List UInt8) (w : World) (h : Lib.IsBuilderF 289 5 B b (Lib.byteCells l) w) (h0 : l ≠ []) :
    Calls Tryz.prog 194 #[.pointer (some ⟨b, 0, none⟩)] w fun e w' => e = .returned (.string ⟨l.toArray⟩) ∧ (Lib.IsBuilderF 289 5 B b (Lib.byteCells l) w' ∧ Below B w w' ∧ Lib.OthersKept 5 (some b) w w') := Any.Builder_String_k Tryz.lays169 Tryz.Builder_Extra_169 B b l w h h0
open Go.RowKit in
/-- (*strings.Builder).String OF A BUILDER THAT HOLDS NO BYTE: the empty string; THE FORM '_k': OVER 'Lib.IsBuilderF' (a builder that 'String()' may have read), AND WITH THE FRAME THAT REACHES ABOVE THE BUILDER: 'Lib.OthersKept': every block that is not b and is no row of uint8's stands as it stood: the iterator of a range among them. (LAID: no walk: one application.) -/
theorem Tryz.Builder_String_empty_k (B b : Nat) (w : World) (h : Lib.IsBuilderF 289 5 B b [] w) (hBw : B ≤ w.heap.size) :
    Calls Tryz.prog 194 #[.pointer (some ⟨b, 0, none⟩)] w fun e w' => e = .returned (.string ⟨#[]⟩) ∧ (Lib.IsBuilderF 289 5 B b [] w' ∧ Below B w w' ∧ Lib.OthersKept 5 (some b) w w') := Any.Builder_String_empty_k Tryz.lays169 Tryz.Builder_Extra_169 B b w h hBw
open Go.RowKit in
/-- (*strings.Builder).String: "String returns the accumulated string.": WHATEVER THE BUILDER HOLDS; THE FORM '_k': OVER 'Lib.IsBuilderF' (a builder that 'String()' may have read), AND WITH THE FRAME THAT REACHES ABOVE THE BUILDER: 'Lib.OthersKept': every block that is not b and is no row of uint8's stands as it stood: the iterator of a range among them. (LAID: no walk: one application.) -/
theorem Tryz.Builder_String_any_k (B b : Nat) (l : List UInt8) (w : World) (h : Lib.IsBuilderF 289 5 B b (Lib.byteCells l) w) (hBw : B ≤ w.heap.size) :
    Calls Tryz.prog 194 #[.pointer (some ⟨b, 0, none⟩)] w fun e w' => e = .returned (.string ⟨l.toArray⟩) ∧ (Lib.IsBuilderF 289 5 B b (Lib.byteCells l) w' ∧ Below B w w' ∧ Lib.OthersKept 5 (some b) w w') := Any.Builder_String_any_k Tryz.lays169 Tryz.Builder_Extra_169 B b l w h hBw
def Tryz.lays278_ren : Go.Shelf.Ren := ⟨fun | 278 => 231 | n => n, fun | 37 => 272 | 21 => 21 | 51 => 329 | 4 => 4 | 46 => 284 | 5 => 5 | n => n, fun | n => n⟩
theorem Tryz.lays278 : Go.Proofs.Lays.n278 Tryz.prog Tryz.lays278_ren := {
  mixed := by kernel_rfl
  f278 := Tryz.func231.trans (congrArg some (by kernel_rfl))
  t4 := Tryz.underlying4
  a4 := Tryz.isAgg4
  z4 := Tryz.sizeOf4
  v4 := Tryz.zeroValue4
  t5 := Tryz.underlying5
  a5 := Tryz.isAgg5
  z5 := Tryz.sizeOf5
  v5 := Tryz.zeroValue5
  t21 := Tryz.underlying21
  a21 := Tryz.isAgg21
  z21 := Tryz.sizeOf21
  v21 := Tryz.zeroValue21
  t37 := Tryz.underlying272
  a37 := Tryz.isAgg272
  z37 := Tryz.sizeOf272
  v37 := Tryz.zeroValue272
  t46 := Tryz.underlying284
  a46 := Tryz.isAgg284
  z46 := Tryz.sizeOf284
  v46 := Tryz.zeroValue284
  t51 := Tryz.underlying329
  a51 := Tryz.isAgg329
  z51 := Tryz.sizeOf329
  v51 := Tryz.zeroValue329 }
open Go.RowKit in
/-- unicode/utf8.appendRuneNonASCII (what AppendRune calls for all but ASCII), ONTO A ROW OF BYTES THAT THE CALL OWNS: every int32 that is no ASCII rune: 'Lib.runeCells r' goes in behind what the row holds. (LAID: no walk: one application.) -/
theorem Tryz.utf8_appendRuneNonASCII_row (B : Nat) (v : Value) (n : Nat) (xs : List Value) (r : Int) (hr0 : -2147483648 ≤ r) (hr1 : r ≤ 2147483647) (hna : r < 0 ∨ 128 ≤ r) (w : World) (hown : w.ownsRowF B 5 1 v n xs) (hlen : n + 4 ≤ 140737488355328) (hBw : B ≤ w.heap.size) :
    Calls Tryz.prog 231 #[v, .int .i32 r] w fun e w' => ∃ v', e = .returned v' ∧ w'.ownsRowF B 5 1 v' (n + (Lib.runeCells r).length) (xs ++ Lib.runeCells r) ∧ ∃ o, (w.alloc o).grownBy w' v.ownBlock := Any.utf8_appendRuneNonASCII_row Tryz.lays278 (by kernel_rfl) B v n xs r hr0 hr1 hna w hown hlen hBw
def Tryz.lays242_ren : Go.Shelf.Ren := ⟨fun | 242 => 214 | 278 => 231 | n => n, fun | 37 => 272 | 21 => 21 | 51 => 329 | 4 => 4 | 5 => 5 | 46 => 284 | n => n, fun | n => n⟩
theorem Tryz.lays242 : Go.Proofs.Lays.n242 Tryz.prog Tryz.lays242_ren := {
  mixed := by kernel_rfl
  f242 := Tryz.func214.trans (congrArg some (by kernel_rfl))
  f278 := Tryz.func231.trans (congrArg some (by kernel_rfl))
  t4 := Tryz.underlying4
  a4 := Tryz.isAgg4
  z4 := Tryz.sizeOf4
  v4 := Tryz.zeroValue4
  t5 := Tryz.underlying5
  a5 := Tryz.isAgg5
  z5 := Tryz.sizeOf5
  v5 := Tryz.zeroValue5
  t21 := Tryz.underlying21
  a21 := Tryz.isAgg21
  z21 := Tryz.sizeOf21
  v21 := Tryz.zeroValue21
  t37 := Tryz.underlying272
  a37 := Tryz.isAgg272
  z37 := Tryz.sizeOf272
  v37 := Tryz.zeroValue272
  t46 := Tryz.underlying284
  a46 := Tryz.isAgg284
  z46 := Tryz.sizeOf284
  v46 := Tryz.zeroValue284
  t51 := Tryz.underlying329
  a51 := Tryz.isAgg329
  z51 := Tryz.sizeOf329
  v51 := Tryz.zeroValue329 }
open Go.RowKit in
/-- unicode/utf8.AppendRune: "AppendRune appends the UTF-8 encoding of r to the end of p and returns the extended buffer. If the rune is out of range, it appends the encoding of RuneError.": ONTO A ROW OF BYTES THAT THE CALL OWNS (its head frozen or not): EVERY int32: 'Lib.runeCells r' goes in behind what the row holds; the world: one new block (the bytes as the call's variadic argument), then what 'append' does to the row. (LAID: no walk: one application.) -/
theorem Tryz.utf8_AppendRune_row (B : Nat) (v : Value) (n : Nat) (xs : List Value) (r : Int) (hr0 : -2147483648 ≤ r) (hr1 : r ≤ 2147483647) (w : World) (hown : w.ownsRowF B 5 1 v n xs) (hlen : n + 4 ≤ 140737488355328) (hBw : B ≤ w.heap.size) :
    Calls Tryz.prog 214 #[v, .int .i32 r] w fun e w' => ∃ v', e = .returned v' ∧ w'.ownsRowF B 5 1 v' (n + (Lib.runeCells r).length) (xs ++ Lib.runeCells r) ∧ ∃ o, (w.alloc o).grownBy w' v.ownBlock := Any.utf8_AppendRune_row Tryz.lays242 (by kernel_rfl) B v n xs r hr0 hr1 w hown hlen hBw
open Go.RowKit in
/-- unicode/utf8.appendRuneNonASCII (what AppendRune calls for all but ASCII), ONTO A ROW OF BYTES THAT THE CALL OWNS: every int32 that is no ASCII rune: 'Lib.runeCells r' goes in behind what the row holds. (LAID: no walk: one application.) -/
theorem Tryz.utf8_appendRuneNonASCII_plain (B : Nat) (v : Value) (n : Nat) (xs : List Value) (r : Int) (hr0 : -2147483648 ≤ r) (hr1 : r ≤ 2147483647) (hna : r < 0 ∨ 128 ≤ r) (w : World) (hown : w.ownsRow B 5 1 v n xs) (hlen : n + 4 ≤ 140737488355328) (hBw : B ≤ w.heap.size) :
    Calls Tryz.prog 231 #[v, .int .i32 r] w fun e w' => ∃ v', e = .returned v' ∧ w'.ownsRow B 5 1 v' (n + (Lib.runeCells r).length) (xs ++ Lib.runeCells r) ∧ ∃ o, (w.alloc o).grownBy w' v.ownBlock := Any.utf8_appendRuneNonASCII_plain Tryz.lays278 (by kernel_rfl) B v n xs r hr0 hr1 hna w hown hlen hBw
open Go.RowKit in
/-- unicode/utf8.AppendRune: "AppendRune appends the UTF-8 encoding of r to the end of p and returns the extended buffer. If the rune is out of range, it appends the encoding of RuneError.": ONTO A ROW OF BYTES THAT THE CALL OWNS (its head frozen or not): EVERY int32: 'Lib.runeCells r' goes in behind what the row holds; the world: one new block (the bytes as the call's variadic argument), then what 'append' does to the row. (LAID: no walk: one application.) -/
theorem Tryz.utf8_AppendRune_plain (B : Nat) (v : Value) (n : Nat) (xs : List Value) (r : Int) (hr0 : -2147483648 ≤ r) (hr1 : r ≤ 2147483647) (w : World) (hown : w.ownsRow B 5 1 v n xs) (hlen : n + 4 ≤ 140737488355328) (hBw : B ≤ w.heap.size) :
    Calls Tryz.prog 214 #[v, .int .i32 r] w fun e w' => ∃ v', e = .returned v' ∧ w'.ownsRow B 5 1 v' (n + (Lib.runeCells r).length) (xs ++ Lib.runeCells r) ∧ ∃ o, (w.alloc o).grownBy w' v.ownBlock := Any.utf8_AppendRune_plain Tryz.lays242 (by kernel_rfl) B v n xs r hr0 hr1 w hown hlen hBw
def Tryz.lays195_ren : Go.Shelf.Ren := ⟨fun | 195 => 226 | n => n, fun | 9 => 9 | 3 => 3 | 0 => 0 | 4 => 4 | n => n, fun | n => n⟩
theorem Tryz.lays195 : Go.Proofs.Lays.n195 Tryz.prog Tryz.lays195_ren := {
  mixed := by kernel_rfl
  f195 := Tryz.func226.trans (congrArg some (by kernel_rfl))
  t0 := Tryz.underlying0
  a0 := Tryz.isAgg0
  z0 := Tryz.sizeOf0
  v0 := Tryz.zeroValue0
  t3 := Tryz.underlying3
  a3 := Tryz.isAgg3
  z3 := Tryz.sizeOf3
  v3 := Tryz.zeroValue3
  t4 := Tryz.underlying4
  a4 := Tryz.isAgg4
  z4 := Tryz.sizeOf4
  v4 := Tryz.zeroValue4
  t9 := Tryz.underlying9
  a9 := Tryz.isAgg9
  z9 := Tryz.sizeOf9
  v9 := Tryz.zeroValue9 }
open Go.RowKit in
/-- unicode/utf8.RuneCountInString: "RuneCountInString is like RuneCount but its input is a string." ("RuneCount returns the number of runes in p. Erroneous and short encodings are treated as single runes of width 1 byte."): EVERY STRING, valid UTF-8 or not: 'Lib.runeCount s' (plain Lean over the model's own 'Utf8.decode'; 'Lib.runeCount_le': at most len(s); 'Lib.runeCount_ascii': on ASCII: len(s)). THE ONE CONDITION: len(s) below 2^63 - 1 (the counter does not wrap): the form's reach pays it. THE WORLD BEHIND THE CALL: ONE BLOCK MORE: the model's iterator over s, at its end: all else as it was. (LAID: no walk: one application.) -/
theorem Tryz.utf8_RuneCountInString (s : ByteArray) (w : World) (hs : s.size < 9223372036854775807) :
    Calls Tryz.prog 226 #[.string s] w fun e w' => e = .returned (.int .i64 (Lib.runeCount s)) ∧ ∃ pos, w' = w.iter s pos := Any.utf8_RuneCountInString Tryz.lays195 s w hs
open Go.RowKit in
/-- (*strings.Builder).grow (no doc but "grow copies the buffer to a new, larger buffer so that there are at least n bytes of capacity beyond len(b.buf)."): AT A BUILDER WITHOUT A BUFFER: a new row of whatever bytes for its buffer, none of them its own yet. Three draws. (LAID: no walk: one application.) -/
theorem Tryz.Builder_grow_fresh_cap (B b n : Nat) (w : World) (hB : B ≤ b) (hbk : w.heap[b]? = some (.cells #[.pointer (some ⟨b, 0, none⟩), .slice none 0 0] 289 (0, 0))) (hBw : B ≤ w.heap.size) (hn : n ≤ 281474976710656) :
    Calls Tryz.prog 213 #[.pointer (some ⟨b, 0, none⟩), .int .i64 n] w fun e w' => e = .returned (.tuple #[]) ∧ (Lib.BuilderAt 289 5 B b (.pointer (some ⟨b, 0, none⟩)) [] w' ∧ Below B w w') ∧ ∃ p cap, w'.cell? ⟨b, 1, none⟩ = some (.slice p 0 cap) ∧ n ≤ cap := Any.Builder_grow_fresh_cap Tryz.lays241 Tryz.Builder_Extra_241 B b n w hB hbk hBw hn
open Go.RowKit in
/-- (*strings.Builder).Grow AT A BUILDER THAT HAS NOT BEEN WRITTEN ('var b strings.Builder; b.Grow(n)'): "Grow grows b's capacity, if necessary, to guarantee space for another n bytes.": it holds no byte behind it as before it. (LAID: no walk: one application.) -/
theorem Tryz.Builder_Grow_fresh_cap (B b n : Nat) (w : World) (hB : B ≤ b) (hbk : w.heap[b]? = some (.cells #[.pointer none, .slice none 0 0] 289 (0, 0))) (hBw : B ≤ w.heap.size) (hn : n ≤ 281474976710656) :
    Calls Tryz.prog 189 #[.pointer (some ⟨b, 0, none⟩), .int .i64 n] w fun e w' => e = .returned (.tuple #[]) ∧ (Lib.BuilderAt 289 5 B b (.pointer (some ⟨b, 0, none⟩)) [] w' ∧ Below B w w') ∧ ∃ p cap, w'.cell? ⟨b, 1, none⟩ = some (.slice p 0 cap) ∧ n ≤ cap := Any.Builder_Grow_fresh_cap Tryz.lays165 Tryz.Builder_Extra_165 B b n w hB hbk hBw hn
def Tryz.lays129_ren : Go.Shelf.Ren := ⟨fun | 129 => 236 | n => n, fun | 53 => 108 | 3 => 3 | 4 => 4 | 46 => 284 | 5 => 5 | 9 => 9 | n => n, fun | n => n⟩
theorem Tryz.lays129 : Go.Proofs.Lays.n129 Tryz.prog Tryz.lays129_ren := {
  mixed := by kernel_rfl
  f129 := Tryz.func236.trans (congrArg some (by kernel_rfl))
  t3 := Tryz.underlying3
  a3 := Tryz.isAgg3
  z3 := Tryz.sizeOf3
  v3 := Tryz.zeroValue3
  t4 := Tryz.underlying4
  a4 := Tryz.isAgg4
  z4 := Tryz.sizeOf4
  v4 := Tryz.zeroValue4
  t5 := Tryz.underlying5
  a5 := Tryz.isAgg5
  z5 := Tryz.sizeOf5
  v5 := Tryz.zeroValue5
  t9 := Tryz.underlying9
  a9 := Tryz.isAgg9
  z9 := Tryz.sizeOf9
  v9 := Tryz.zeroValue9
  t46 := Tryz.underlying284
  a46 := Tryz.isAgg284
  z46 := Tryz.sizeOf284
  v46 := Tryz.zeroValue284
  t53 := Tryz.underlying108
  a53 := Tryz.isAgg108
  z53 := Tryz.sizeOf108
  v53 := Tryz.zeroValue108 }
/-- bits.Len64: "Len64 returns the minimum number of bits required to represent x; the result is 0 for x == 0.": IT RETURNS 'Lib.bitLen x'; the world is as it was. ('h0', 'h1': x is a uint64.) (LAID: no walk: one application.) -/
theorem Tryz.bits_Len64 (x : Int) (w : World) (h0 : 0 ≤ x) (h1 : x ≤ 18446744073709551615) :
    Calls Tryz.prog 236 #[.int .u64 x] w fun e w' => e = .returned (.int .i64 (Lib.bitLen x.toNat)) ∧ w' = w := Any.bits_Len64 Tryz.lays129 x w h0 h1
def Tryz.lays317_ren : Go.Shelf.Ren := ⟨fun | 317 => 235 | n => n, fun | 3 => 3 | 46 => 284 | n => n, fun | n => n⟩
theorem Tryz.lays317 : Go.Proofs.Lays.n317 Tryz.prog Tryz.lays317_ren := {
  mixed := by kernel_rfl
  f317 := Tryz.func235.trans (congrArg some (by kernel_rfl))
  t3 := Tryz.underlying3
  a3 := Tryz.isAgg3
  z3 := Tryz.sizeOf3
  v3 := Tryz.zeroValue3
  t46 := Tryz.underlying284
  a46 := Tryz.isAgg284
  z46 := Tryz.sizeOf284
  v46 := Tryz.zeroValue284 }
open Go.Lib in
/-- internal/strconv.log10Pow2: "log10Pow2(x) returns ⌊log₁₀ 2**x⌋ = ⌊x * log₁₀ 2⌋.": '(x * 78913) >> 18', at an x up to 64 (a length in bits). The world is as it was. (LAID: no walk: one application.) -/
theorem Tryz.internal_strconv_log10Pow2 (x : Nat) (h : x ≤ 64) (w : World) :
    Calls Tryz.prog 235 #[.int .i64 x] w fun e w' => e = .returned (.int .i64 (Lib.l10 x)) ∧ w' = w := Any.internal_strconv_log10Pow2 Tryz.lays317 x h w
def Tryz.lays318_ren : Go.Shelf.Ren := ⟨fun | 318 => 237 | n => n, fun | 3 => 3 | 4 => 4 | n => n, fun | n => n⟩
theorem Tryz.lays318 : Go.Proofs.Lays.n318 Tryz.prog Tryz.lays318_ren := {
  mixed := by kernel_rfl
  f318 := Tryz.func237.trans (congrArg some (by kernel_rfl))
  t3 := Tryz.underlying3
  a3 := Tryz.isAgg3
  z3 := Tryz.sizeOf3
  v3 := Tryz.zeroValue3
  t4 := Tryz.underlying4
  a4 := Tryz.isAgg4
  z4 := Tryz.sizeOf4
  v4 := Tryz.zeroValue4 }
open Go.Lib in
/-- internal/strconv.bool2: "bool2 converts b to an integer: 1 for true, 0 for false." The world is as it was. (LAID: no walk: one application.) -/
theorem Tryz.internal_strconv_bool2_int (b : Bool) (w : World) :
    Calls Tryz.prog 237 #[.bool b] w fun e w' => e = .returned (.int .i64 (if b then 1 else 0)) ∧ w' = w := Any.internal_strconv_bool2_int Tryz.lays318 b w
def Tryz.lays283_ren : Go.Shelf.Ren := ⟨fun | 283 => 222 | n => n, fun | 3 => 3 | 9 => 9 | 4 => 4 | n => n, fun | n => n⟩
theorem Tryz.lays283 : Go.Proofs.Lays.n283 Tryz.prog Tryz.lays283_ren := {
  mixed := by kernel_rfl
  f283 := Tryz.func222.trans (congrArg some (by kernel_rfl))
  t3 := Tryz.underlying3
  a3 := Tryz.isAgg3
  z3 := Tryz.sizeOf3
  v3 := Tryz.zeroValue3
  t4 := Tryz.underlying4
  a4 := Tryz.isAgg4
  z4 := Tryz.sizeOf4
  v4 := Tryz.zeroValue4
  t9 := Tryz.underlying9
  a9 := Tryz.isAgg9
  z9 := Tryz.sizeOf9
  v9 := Tryz.zeroValue9 }
open Go.Lib in
/-- internal/strconv.small: "small returns the string for an i with 0 <= i < nSmalls.": i's decimal numeral. The world is as it was. (LAID: no walk: one application.) -/
theorem Tryz.internal_strconv_small (i : Nat) (h : i < 100) (w : World) :
    Calls Tryz.prog 222 #[.int .i64 i] w fun e w' => e = .returned (.string ⟨(Lib.decDigits i).toArray⟩) ∧ w' = w := Any.internal_strconv_small Tryz.lays283 i h w
def Tryz.laysM284_ren : Go.Shelf.Ren := ⟨fun | 284 => 223 | 129 => 236 | 317 => 235 | 318 => 237 | n => n, fun | 53 => 108 | 3 => 3 | 212 => 332 | 0 => 0 | 4 => 4 | 46 => 284 | 5 => 5 | 9 => 9 | n => n, fun | 17 => 4 | n => n⟩
theorem Tryz.laysM284 : Go.Proofs.LaysM.n284 Tryz.prog Tryz.laysM284_ren := {
  mixed := by kernel_rfl
  f129 := Tryz.func236.trans (congrArg some (by kernel_rfl))
  f284 := Tryz.func223.trans (congrArg some (by kernel_rfl))
  f317 := Tryz.func235.trans (congrArg some (by kernel_rfl))
  f318 := Tryz.func237.trans (congrArg some (by kernel_rfl))
  t0 := Tryz.underlying0
  a0 := Tryz.isAgg0
  z0 := Tryz.sizeOf0
  v0 := Tryz.zeroValue0
  t3 := Tryz.underlying3
  a3 := Tryz.isAgg3
  z3 := Tryz.sizeOf3
  v3 := Tryz.zeroValue3
  t4 := Tryz.underlying4
  a4 := Tryz.isAgg4
  z4 := Tryz.sizeOf4
  v4 := Tryz.zeroValue4
  t5 := Tryz.underlying5
  a5 := Tryz.isAgg5
  z5 := Tryz.sizeOf5
  v5 := Tryz.zeroValue5
  t9 := Tryz.underlying9
  a9 := Tryz.isAgg9
  z9 := Tryz.sizeOf9
  v9 := Tryz.zeroValue9
  t46 := Tryz.underlying284
  a46 := Tryz.isAgg284
  z46 := Tryz.sizeOf284
  v46 := Tryz.zeroValue284
  t53 := Tryz.underlying108
  a53 := Tryz.isAgg108
  z53 := Tryz.sizeOf108
  v53 := Tryz.zeroValue108
  t212 := Tryz.underlying332
  a212 := Tryz.isAgg332
  z212 := Tryz.sizeOf332
  v212 := Tryz.zeroValue332
  g17 := by kernel_rfl
  i0 := by kernel_rfl
  i3 := by kernel_rfl
  i4 := by kernel_rfl
  i5 := by kernel_rfl
  i9 := by kernel_rfl
  i46 := by kernel_rfl
  i53 := by kernel_rfl
  i212 := by kernel_rfl
  m17 := by kernel_rfl }
open Go.Lib in
/-- internal/strconv.numDigits, at a d that is not 0: THE NUMBER OF d's DECIMAL DIGITS. The world is as it was. (LAID: no walk: one application.) -/
theorem Tryz.internal_strconv_numDigits (u : Nat) (h1 : 1 ≤ u) (h2 : u < 18446744073709551616) (w : World) (htab : Lib.TabIs Tryz.prog w "internal/strconv.uint64pow10" .u64 Lib.pow10Tab) :
    Calls Tryz.prog 223 #[.int .u64 u] w fun e w' => e = .returned (.int .i64 (Lib.nDigits u)) ∧ w' = w := Any.internal_strconv_numDigits Tryz.laysM284 u h1 h2 w htab
def Tryz.lays285_ren : Go.Shelf.Ren := ⟨fun | 285 => 224 | n => n, fun | 37 => 272 | 53 => 108 | 3 => 3 | 4 => 4 | 51 => 329 | 9 => 9 | 5 => 5 | 0 => 0 | n => n, fun | n => n⟩
theorem Tryz.lays285 : Go.Proofs.Lays.n285 Tryz.prog Tryz.lays285_ren := {
  mixed := by kernel_rfl
  f285 := Tryz.func224.trans (congrArg some (by kernel_rfl))
  t0 := Tryz.underlying0
  a0 := Tryz.isAgg0
  z0 := Tryz.sizeOf0
  v0 := Tryz.zeroValue0
  t3 := Tryz.underlying3
  a3 := Tryz.isAgg3
  z3 := Tryz.sizeOf3
  v3 := Tryz.zeroValue3
  t4 := Tryz.underlying4
  a4 := Tryz.isAgg4
  z4 := Tryz.sizeOf4
  v4 := Tryz.zeroValue4
  t5 := Tryz.underlying5
  a5 := Tryz.isAgg5
  z5 := Tryz.sizeOf5
  v5 := Tryz.zeroValue5
  t9 := Tryz.underlying9
  a9 := Tryz.isAgg9
  z9 := Tryz.sizeOf9
  v9 := Tryz.zeroValue9
  t37 := Tryz.underlying272
  a37 := Tryz.isAgg272
  z37 := Tryz.sizeOf272
  v37 := Tryz.zeroValue272
  t51 := Tryz.underlying329
  a51 := Tryz.isAgg329
  z51 := Tryz.sizeOf329
  v51 := Tryz.zeroValue329
  t53 := Tryz.underlying108
  a53 := Tryz.isAgg108
  z53 := Tryz.sizeOf108
  v53 := Tryz.zeroValue108 }
open Go.RowKit Go.Sort Go.Lib in
/-- internal/strconv.formatBase10: "formatBase10 formats the decimal representation of u into a. The caller is responsible for ensuring that a is big enough to hold u. If a is too big, leading zeros will be filled in as needed.": THE ROW HOLDS u's DIGITS ('FmtInv .. 0 ..': every place t holds 'dg u (len - 1 - t)'); all else is as it was but for the count of draws. (LAID: no walk: one application.) -/
theorem Tryz.internal_strconv_formatBase10 (blk off cap : Nat) (u : Nat) (d : Array UInt8) (w : World) (hH : Holds (fun (b : UInt8) => Value.int .u8 (b.toNat : Int)) w blk off d) (hu : u < 10 ^ d.size) (hu64 : u < 18446744073709551616) (hsz : d.size < 4611686018427387904) :
    Calls Tryz.prog 224 #[.slice (some ⟨blk, off, none⟩) d.size cap, .int .u64 u] w fun e w' =>
      e = .returned (.tuple #[]) ∧ ∃ (n v' : Nat) (dk : Array UInt8), w' = (putRow (fun (b : UInt8) => Value.int .u8 (b.toNat : Int)) w blk off dk).drewN n ∧ FmtInv d.size u 0 v' dk := Any.internal_strconv_formatBase10 Tryz.lays285 blk off cap u d w hH hu hu64 hsz
def Tryz.laysM246_ren : Go.Shelf.Ren := ⟨fun | 246 => 209 | 283 => 222 | 284 => 223 | 285 => 224 | 286 => 225 | 129 => 236 | 317 => 235 | 318 => 237 | 319 => 238 | 320 => 239 | 337 => 247 | 338 => 248 | n => n, fun | 2 => 2 | 3 => 3 | 9 => 9 | 4 => 4 | 171 => 321 | 0 => 0 | 53 => 108 | 37 => 272 | 5 => 5 | 173 => 324 | 212 => 332 | 51 => 329 | 20 => 20 | 213 => 333 | 46 => 284 | 232 => 343 | 233 => 344 | n => n, fun | 17 => 4 | 18 => 6 | 19 => 7 | n => n⟩
theorem Tryz.laysM246 : Go.Proofs.LaysM.n246 Tryz.prog Tryz.laysM246_ren := {
  mixed := by kernel_rfl
  f129 := Tryz.func236.trans (congrArg some (by kernel_rfl))
  f246 := Tryz.func209.trans (congrArg some (by kernel_rfl))
  f283 := Tryz.func222.trans (congrArg some (by kernel_rfl))
  f284 := Tryz.func223.trans (congrArg some (by kernel_rfl))
  f285 := Tryz.func224.trans (congrArg some (by kernel_rfl))
  f286 := Tryz.func225.trans (congrArg some (by kernel_rfl))
  f317 := Tryz.func235.trans (congrArg some (by kernel_rfl))
  f318 := Tryz.func237.trans (congrArg some (by kernel_rfl))
  f319 := Tryz.func238.trans (congrArg some (by kernel_rfl))
  f320 := Tryz.func239.trans (congrArg some (by kernel_rfl))
  f337 := Tryz.func247.trans (congrArg some (by kernel_rfl))
  f338 := Tryz.func248.trans (congrArg some (by kernel_rfl))
  t0 := Tryz.underlying0
  a0 := Tryz.isAgg0
  z0 := Tryz.sizeOf0
  v0 := Tryz.zeroValue0
  t2 := Tryz.underlying2
  a2 := Tryz.isAgg2
  z2 := Tryz.sizeOf2
  v2 := Tryz.zeroValue2
  t3 := Tryz.underlying3
  a3 := Tryz.isAgg3
  z3 := Tryz.sizeOf3
  v3 := Tryz.zeroValue3
  t4 := Tryz.underlying4
  a4 := Tryz.isAgg4
  z4 := Tryz.sizeOf4
  v4 := Tryz.zeroValue4
  t5 := Tryz.underlying5
  a5 := Tryz.isAgg5
  z5 := Tryz.sizeOf5
  v5 := Tryz.zeroValue5
  t9 := Tryz.underlying9
  a9 := Tryz.isAgg9
  z9 := Tryz.sizeOf9
  v9 := Tryz.zeroValue9
  t20 := Tryz.underlying20
  a20 := Tryz.isAgg20
  z20 := Tryz.sizeOf20
  v20 := Tryz.zeroValue20
  t37 := Tryz.underlying272
  a37 := Tryz.isAgg272
  z37 := Tryz.sizeOf272
  v37 := Tryz.zeroValue272
  t46 := Tryz.underlying284
  a46 := Tryz.isAgg284
  z46 := Tryz.sizeOf284
  v46 := Tryz.zeroValue284
  t51 := Tryz.underlying329
  a51 := Tryz.isAgg329
  z51 := Tryz.sizeOf329
  v51 := Tryz.zeroValue329
  t53 := Tryz.underlying108
  a53 := Tryz.isAgg108
  z53 := Tryz.sizeOf108
  v53 := Tryz.zeroValue108
  t171 := Tryz.underlying321
  a171 := Tryz.isAgg321
  z171 := Tryz.sizeOf321
  v171 := Tryz.zeroValue321
  t173 := Tryz.underlying324
  a173 := Tryz.isAgg324
  z173 := Tryz.sizeOf324
  v173 := Tryz.zeroValue324
  t212 := Tryz.underlying332
  a212 := Tryz.isAgg332
  z212 := Tryz.sizeOf332
  v212 := Tryz.zeroValue332
  t213 := Tryz.underlying333
  a213 := Tryz.isAgg333
  z213 := Tryz.sizeOf333
  t232 := Tryz.underlying343
  a232 := Tryz.isAgg343
  z232 := Tryz.sizeOf343
  v232 := Tryz.zeroValue343
  t233 := Tryz.underlying344
  a233 := Tryz.isAgg344
  z233 := Tryz.sizeOf344
  v233 := Tryz.zeroValue344
  g17 := by kernel_rfl
  g18 := by kernel_rfl
  g19 := by kernel_rfl
  i0 := by kernel_rfl
  i2 := by kernel_rfl
  i3 := by kernel_rfl
  i4 := by kernel_rfl
  i5 := by kernel_rfl
  i9 := by kernel_rfl
  i20 := by kernel_rfl
  i37 := by kernel_rfl
  i46 := by kernel_rfl
  i51 := by kernel_rfl
  i53 := by kernel_rfl
  i171 := by kernel_rfl
  i173 := by kernel_rfl
  i212 := by kernel_rfl
  i232 := by kernel_rfl
  i233 := by kernel_rfl
  m17 := by kernel_rfl
  m18 := by kernel_rfl
  m19 := by kernel_rfl }
open Go.RowKit Go.Sort Go.Lib in
/-- internal/strconv.FormatInt: "FormatInt returns the string representation of i in the given base": AT BASE 10: i's decimal numeral, for every int64. The world behind the call: the world before it, new blocks behind the heap, draws. (LAID: no walk: one application.) -/
theorem Tryz.internal_strconv_FormatInt_10 (n : Int) (h0 : -9223372036854775808 ≤ n) (h1 : n ≤ 9223372036854775807) (w : World) (htab : Lib.TabIs Tryz.prog w "internal/strconv.uint64pow10" .u64 Lib.pow10Tab) :
    Calls Tryz.prog 209 #[.int .i64 n, .int .i64 10] w fun e w' => e = .returned (.string ⟨(Lib.itoa n).toArray⟩) ∧ ∃ k os, w' = grow (w.drewN k) os := Any.internal_strconv_FormatInt_10 Tryz.laysM246 n h0 h1 w htab
def Tryz.lays246_ren : Go.Shelf.Ren := ⟨fun | 246 => 209 | 283 => 222 | 284 => 223 | 285 => 224 | 286 => 225 | 129 => 236 | 317 => 235 | 318 => 237 | 319 => 238 | 320 => 239 | 337 => 247 | 338 => 248 | n => n, fun | 2 => 2 | 3 => 3 | 9 => 9 | 4 => 4 | 171 => 321 | 0 => 0 | 53 => 108 | 37 => 272 | 5 => 5 | 173 => 324 | 212 => 332 | 51 => 329 | 20 => 20 | 213 => 333 | 46 => 284 | 232 => 343 | 233 => 344 | n => n, fun | 17 => 4 | 18 => 6 | 19 => 7 | n => n⟩
theorem Tryz.lays246 : Go.Proofs.Lays.n246 Tryz.prog Tryz.lays246_ren := {
  mixed := by kernel_rfl
  f129 := Tryz.func236.trans (congrArg some (by kernel_rfl))
  f246 := Tryz.func209.trans (congrArg some (by kernel_rfl))
  f283 := Tryz.func222.trans (congrArg some (by kernel_rfl))
  f284 := Tryz.func223.trans (congrArg some (by kernel_rfl))
  f285 := Tryz.func224.trans (congrArg some (by kernel_rfl))
  f286 := Tryz.func225.trans (congrArg some (by kernel_rfl))
  f317 := Tryz.func235.trans (congrArg some (by kernel_rfl))
  f318 := Tryz.func237.trans (congrArg some (by kernel_rfl))
  f319 := Tryz.func238.trans (congrArg some (by kernel_rfl))
  f320 := Tryz.func239.trans (congrArg some (by kernel_rfl))
  f337 := Tryz.func247.trans (congrArg some (by kernel_rfl))
  f338 := Tryz.func248.trans (congrArg some (by kernel_rfl))
  t0 := Tryz.underlying0
  a0 := Tryz.isAgg0
  z0 := Tryz.sizeOf0
  v0 := Tryz.zeroValue0
  t2 := Tryz.underlying2
  a2 := Tryz.isAgg2
  z2 := Tryz.sizeOf2
  v2 := Tryz.zeroValue2
  t3 := Tryz.underlying3
  a3 := Tryz.isAgg3
  z3 := Tryz.sizeOf3
  v3 := Tryz.zeroValue3
  t4 := Tryz.underlying4
  a4 := Tryz.isAgg4
  z4 := Tryz.sizeOf4
  v4 := Tryz.zeroValue4
  t5 := Tryz.underlying5
  a5 := Tryz.isAgg5
  z5 := Tryz.sizeOf5
  v5 := Tryz.zeroValue5
  t9 := Tryz.underlying9
  a9 := Tryz.isAgg9
  z9 := Tryz.sizeOf9
  v9 := Tryz.zeroValue9
  t20 := Tryz.underlying20
  a20 := Tryz.isAgg20
  z20 := Tryz.sizeOf20
  v20 := Tryz.zeroValue20
  t37 := Tryz.underlying272
  a37 := Tryz.isAgg272
  z37 := Tryz.sizeOf272
  v37 := Tryz.zeroValue272
  t46 := Tryz.underlying284
  a46 := Tryz.isAgg284
  z46 := Tryz.sizeOf284
  v46 := Tryz.zeroValue284
  t51 := Tryz.underlying329
  a51 := Tryz.isAgg329
  z51 := Tryz.sizeOf329
  v51 := Tryz.zeroValue329
  t53 := Tryz.underlying108
  a53 := Tryz.isAgg108
  z53 := Tryz.sizeOf108
  v53 := Tryz.zeroValue108
  t171 := Tryz.underlying321
  a171 := Tryz.isAgg321
  z171 := Tryz.sizeOf321
  v171 := Tryz.zeroValue321
  t173 := Tryz.underlying324
  a173 := Tryz.isAgg324
  z173 := Tryz.sizeOf324
  v173 := Tryz.zeroValue324
  t212 := Tryz.underlying332
  a212 := Tryz.isAgg332
  z212 := Tryz.sizeOf332
  v212 := Tryz.zeroValue332
  t213 := Tryz.underlying333
  a213 := Tryz.isAgg333
  z213 := Tryz.sizeOf333
  t232 := Tryz.underlying343
  a232 := Tryz.isAgg343
  z232 := Tryz.sizeOf343
  v232 := Tryz.zeroValue343
  t233 := Tryz.underlying344
  a233 := Tryz.isAgg344
  z233 := Tryz.sizeOf344
  v233 := Tryz.zeroValue344
  g17 := by kernel_rfl
  g18 := by kernel_rfl
  g19 := by kernel_rfl }
open Go.RowKit Go.Sort Go.Lib in
/-- THE ROAD WITHOUT THE TABLE: 0 <= i < 100: two constants are read, nothing is laid: no premise on the world, and the world is as it was. (LAID: no walk: one application.) -/
theorem Tryz.internal_strconv_FormatInt_10_small (i : Nat) (hi : i < 100) (w : World) :
    Calls Tryz.prog 209 #[.int .i64 i, .int .i64 10] w fun e w' => e = .returned (.string ⟨(Lib.decDigits i).toArray⟩) ∧ w' = w := Any.internal_strconv_FormatInt_10_small Tryz.lays246 i hi w
def Tryz.laysM173_ren : Go.Shelf.Ren := ⟨fun | 173 => 184 | 246 => 209 | 283 => 222 | 284 => 223 | 285 => 224 | 286 => 225 | 129 => 236 | 317 => 235 | 318 => 237 | 319 => 238 | 320 => 239 | 337 => 247 | 338 => 248 | n => n, fun | 2 => 2 | 3 => 3 | 9 => 9 | 4 => 4 | 171 => 321 | 0 => 0 | 53 => 108 | 37 => 272 | 5 => 5 | 173 => 324 | 212 => 332 | 51 => 329 | 20 => 20 | 213 => 333 | 46 => 284 | 232 => 343 | 233 => 344 | n => n, fun | 17 => 4 | 18 => 6 | 19 => 7 | n => n⟩
theorem Tryz.laysM173 : Go.Proofs.LaysM.n173 Tryz.prog Tryz.laysM173_ren := {
  mixed := by kernel_rfl
  f129 := Tryz.func236.trans (congrArg some (by kernel_rfl))
  f173 := Tryz.func184.trans (congrArg some (by kernel_rfl))
  f246 := Tryz.func209.trans (congrArg some (by kernel_rfl))
  f283 := Tryz.func222.trans (congrArg some (by kernel_rfl))
  f284 := Tryz.func223.trans (congrArg some (by kernel_rfl))
  f285 := Tryz.func224.trans (congrArg some (by kernel_rfl))
  f286 := Tryz.func225.trans (congrArg some (by kernel_rfl))
  f317 := Tryz.func235.trans (congrArg some (by kernel_rfl))
  f318 := Tryz.func237.trans (congrArg some (by kernel_rfl))
  f319 := Tryz.func238.trans (congrArg some (by kernel_rfl))
  f320 := Tryz.func239.trans (congrArg some (by kernel_rfl))
  f337 := Tryz.func247.trans (congrArg some (by kernel_rfl))
  f338 := Tryz.func248.trans (congrArg some (by kernel_rfl))
  t0 := Tryz.underlying0
  a0 := Tryz.isAgg0
  z0 := Tryz.sizeOf0
  v0 := Tryz.zeroValue0
  t2 := Tryz.underlying2
  a2 := Tryz.isAgg2
  z2 := Tryz.sizeOf2
  v2 := Tryz.zeroValue2
  t3 := Tryz.underlying3
  a3 := Tryz.isAgg3
  z3 := Tryz.sizeOf3
  v3 := Tryz.zeroValue3
  t4 := Tryz.underlying4
  a4 := Tryz.isAgg4
  z4 := Tryz.sizeOf4
  v4 := Tryz.zeroValue4
  t5 := Tryz.underlying5
  a5 := Tryz.isAgg5
  z5 := Tryz.sizeOf5
  v5 := Tryz.zeroValue5
  t9 := Tryz.underlying9
  a9 := Tryz.isAgg9
  z9 := Tryz.sizeOf9
  v9 := Tryz.zeroValue9
  t20 := Tryz.underlying20
  a20 := Tryz.isAgg20
  z20 := Tryz.sizeOf20
  v20 := Tryz.zeroValue20
  t37 := Tryz.underlying272
  a37 := Tryz.isAgg272
  z37 := Tryz.sizeOf272
  v37 := Tryz.zeroValue272
  t46 := Tryz.underlying284
  a46 := Tryz.isAgg284
  z46 := Tryz.sizeOf284
  v46 := Tryz.zeroValue284
  t51 := Tryz.underlying329
  a51 := Tryz.isAgg329
  z51 := Tryz.sizeOf329
  v51 := Tryz.zeroValue329
  t53 := Tryz.underlying108
  a53 := Tryz.isAgg108
  z53 := Tryz.sizeOf108
  v53 := Tryz.zeroValue108
  t171 := Tryz.underlying321
  a171 := Tryz.isAgg321
  z171 := Tryz.sizeOf321
  v171 := Tryz.zeroValue321
  t173 := Tryz.underlying324
  a173 := Tryz.isAgg324
  z173 := Tryz.sizeOf324
  v173 := Tryz.zeroValue324
  t212 := Tryz.underlying332
  a212 := Tryz.isAgg332
  z212 := Tryz.sizeOf332
  v212 := Tryz.zeroValue332
  t213 := Tryz.underlying333
  a213 := Tryz.isAgg333
  z213 := Tryz.sizeOf333
  t232 := Tryz.underlying343
  a232 := Tryz.isAgg343
  z232 := Tryz.sizeOf343
  v232 := Tryz.zeroValue343
  t233 := Tryz.underlying344
  a233 := Tryz.isAgg344
  z233 := Tryz.sizeOf344
  v233 := Tryz.zeroValue344
  g17 := by kernel_rfl
  g18 := by kernel_rfl
  g19 := by kernel_rfl
  i0 := by kernel_rfl
  i2 := by kernel_rfl
  i3 := by kernel_rfl
  i4 := by kernel_rfl
  i5 := by kernel_rfl
  i9 := by kernel_rfl
  i20 := by kernel_rfl
  i37 := by kernel_rfl
  i46 := by kernel_rfl
  i51 := by kernel_rfl
  i53 := by kernel_rfl
  i171 := by kernel_rfl
  i173 := by kernel_rfl
  i212 := by kernel_rfl
  i232 := by kernel_rfl
  i233 := by kernel_rfl
  m17 := by kernel_rfl
  m18 := by kernel_rfl
  m19 := by kernel_rfl }
open Go.RowKit Go.Sort Go.Lib in
/-- strconv.FormatInt: "FormatInt returns the string representation of i in the given base": AT BASE 10: i's decimal numeral, for every int64. (LAID: no walk: one application.) -/
theorem Tryz.strconv_FormatInt_10 (n : Int) (h0 : -9223372036854775808 ≤ n) (h1 : n ≤ 9223372036854775807) (w : World) (htab : Lib.TabIs Tryz.prog w "internal/strconv.uint64pow10" .u64 Lib.pow10Tab) :
    Calls Tryz.prog 184 #[.int .i64 n, .int .i64 10] w fun e w' => e = .returned (.string ⟨(Lib.itoa n).toArray⟩) ∧ ∃ k os, w' = grow (w.drewN k) os := Any.strconv_FormatInt_10 Tryz.laysM173 n h0 h1 w htab
def Tryz.lays173_ren : Go.Shelf.Ren := ⟨fun | 173 => 184 | 246 => 209 | 283 => 222 | 284 => 223 | 285 => 224 | 286 => 225 | 129 => 236 | 317 => 235 | 318 => 237 | 319 => 238 | 320 => 239 | 337 => 247 | 338 => 248 | n => n, fun | 2 => 2 | 3 => 3 | 9 => 9 | 4 => 4 | 171 => 321 | 0 => 0 | 53 => 108 | 37 => 272 | 5 => 5 | 173 => 324 | 212 => 332 | 51 => 329 | 20 => 20 | 213 => 333 | 46 => 284 | 232 => 343 | 233 => 344 | n => n, fun | 17 => 4 | 18 => 6 | 19 => 7 | n => n⟩
theorem Tryz.lays173 : Go.Proofs.Lays.n173 Tryz.prog Tryz.lays173_ren := {
  mixed := by kernel_rfl
  f129 := Tryz.func236.trans (congrArg some (by kernel_rfl))
  f173 := Tryz.func184.trans (congrArg some (by kernel_rfl))
  f246 := Tryz.func209.trans (congrArg some (by kernel_rfl))
  f283 := Tryz.func222.trans (congrArg some (by kernel_rfl))
  f284 := Tryz.func223.trans (congrArg some (by kernel_rfl))
  f285 := Tryz.func224.trans (congrArg some (by kernel_rfl))
  f286 := Tryz.func225.trans (congrArg some (by kernel_rfl))
  f317 := Tryz.func235.trans (congrArg some (by kernel_rfl))
  f318 := Tryz.func237.trans (congrArg some (by kernel_rfl))
  f319 := Tryz.func238.trans (congrArg some (by kernel_rfl))
  f320 := Tryz.func239.trans (congrArg some (by kernel_rfl))
  f337 := Tryz.func247.trans (congrArg some (by kernel_rfl))
  f338 := Tryz.func248.trans (congrArg some (by kernel_rfl))
  t0 := Tryz.underlying0
  a0 := Tryz.isAgg0
  z0 := Tryz.sizeOf0
  v0 := Tryz.zeroValue0
  t2 := Tryz.underlying2
  a2 := Tryz.isAgg2
  z2 := Tryz.sizeOf2
  v2 := Tryz.zeroValue2
  t3 := Tryz.underlying3
  a3 := Tryz.isAgg3
  z3 := Tryz.sizeOf3
  v3 := Tryz.zeroValue3
  t4 := Tryz.underlying4
  a4 := Tryz.isAgg4
  z4 := Tryz.sizeOf4
  v4 := Tryz.zeroValue4
  t5 := Tryz.underlying5
  a5 := Tryz.isAgg5
  z5 := Tryz.sizeOf5
  v5 := Tryz.zeroValue5
  t9 := Tryz.underlying9
  a9 := Tryz.isAgg9
  z9 := Tryz.sizeOf9
  v9 := Tryz.zeroValue9
  t20 := Tryz.underlying20
  a20 := Tryz.isAgg20
  z20 := Tryz.sizeOf20
  v20 := Tryz.zeroValue20
  t37 := Tryz.underlying272
  a37 := Tryz.isAgg272
  z37 := Tryz.sizeOf272
  v37 := Tryz.zeroValue272
  t46 := Tryz.underlying284
  a46 := Tryz.isAgg284
  z46 := Tryz.sizeOf284
  v46 := Tryz.zeroValue284
  t51 := Tryz.underlying329
  a51 := Tryz.isAgg329
  z51 := Tryz.sizeOf329
  v51 := Tryz.zeroValue329
  t53 := Tryz.underlying108
  a53 := Tryz.isAgg108
  z53 := Tryz.sizeOf108
  v53 := Tryz.zeroValue108
  t171 := Tryz.underlying321
  a171 := Tryz.isAgg321
  z171 := Tryz.sizeOf321
  v171 := Tryz.zeroValue321
  t173 := Tryz.underlying324
  a173 := Tryz.isAgg324
  z173 := Tryz.sizeOf324
  v173 := Tryz.zeroValue324
  t212 := Tryz.underlying332
  a212 := Tryz.isAgg332
  z212 := Tryz.sizeOf332
  v212 := Tryz.zeroValue332
  t213 := Tryz.underlying333
  a213 := Tryz.isAgg333
  z213 := Tryz.sizeOf333
  t232 := Tryz.underlying343
  a232 := Tryz.isAgg343
  z232 := Tryz.sizeOf343
  v232 := Tryz.zeroValue343
  t233 := Tryz.underlying344
  a233 := Tryz.isAgg344
  z233 := Tryz.sizeOf344
  v233 := Tryz.zeroValue344
  g17 := by kernel_rfl
  g18 := by kernel_rfl
  g19 := by kernel_rfl }
open Go.RowKit Go.Sort Go.Lib in
/-- THE ROAD WITHOUT THE TABLE: 0 <= i < 100. (LAID: no walk: one application.) -/
theorem Tryz.strconv_FormatInt_10_small (i : Nat) (hi : i < 100) (w : World) :
    Calls Tryz.prog 184 #[.int .i64 i, .int .i64 10] w fun e w' => e = .returned (.string ⟨(Lib.decDigits i).toArray⟩) ∧ w' = w := Any.strconv_FormatInt_10_small Tryz.lays173 i hi w
def Tryz.lays217_ren : Go.Shelf.Ren := ⟨fun | 217 => 142 | 266 => 186 | n => n, fun | 9 => 9 | 5 => 5 | 3 => 3 | n => n, fun | n => n⟩
theorem Tryz.lays217 : Go.Proofs.Lays.n217 Tryz.prog Tryz.lays217_ren := {
  mixed := by kernel_rfl
  f217 := Tryz.func142.trans (congrArg some (by kernel_rfl))
  f266 := Tryz.func186.trans (congrArg some (by kernel_rfl))
  t3 := Tryz.underlying3
  a3 := Tryz.isAgg3
  z3 := Tryz.sizeOf3
  v3 := Tryz.zeroValue3
  t5 := Tryz.underlying5
  a5 := Tryz.isAgg5
  z5 := Tryz.sizeOf5
  v5 := Tryz.zeroValue5
  t9 := Tryz.underlying9
  a9 := Tryz.isAgg9
  z9 := Tryz.sizeOf9
  v9 := Tryz.zeroValue9 }
open Go.RowKit Go.Lib in
/-- internal/stringslite.IndexByte (what strings.IndexByte calls): IT RETURNS 'Lib.indexByte s c'; the world is as it was. (LAID: no walk: one application.) -/
theorem Tryz.stringslite_IndexByte (s : ByteArray) (c : Int) (w : World) :
    Calls Tryz.prog 142 #[.string s, .int .u8 c] w fun e w' => e = .returned (.int .i64 (Lib.indexByte s.data.toList c.toNat.toUInt8)) ∧ w' = w := Any.stringslite_IndexByte Tryz.lays217 s c w
def Tryz.lays224_ren : Go.Shelf.Ren := ⟨fun | 224 => 241 | n => n, fun | 3 => 3 | n => n, fun | n => n⟩
theorem Tryz.lays224 : Go.Proofs.Lays.n224 Tryz.prog Tryz.lays224_ren := {
  mixed := by kernel_rfl
  f224 := Tryz.func241.trans (congrArg some (by kernel_rfl))
  t3 := Tryz.underlying3
  a3 := Tryz.isAgg3
  z3 := Tryz.sizeOf3
  v3 := Tryz.zeroValue3 }
open Go.RowKit Go.Lib in
/-- internal/bytealg.Cutover: "Cutover reports the number of failures of IndexByte we should tolerate before switching over to Index. n is the number of bytes processed so far.": on amd64: (n + 16) / 8. (LAID: no walk: one application.) -/
theorem Tryz.bytealg_Cutover (n : Int) (h0 : 0 ≤ n) (h1 : n < 4611686018427387904) (w : World) :
    Calls Tryz.prog 241 #[.int .i64 n] w fun e w' => e = .returned (.int .i64 ((n + 16) / 8)) ∧ w' = w := Any.bytealg_Cutover Tryz.lays224 n h0 h1 w
def Tryz.lays314_ren : Go.Shelf.Ren := ⟨fun | 314 => 249 | n => n, fun | 9 => 9 | 51 => 329 | 3 => 3 | 4 => 4 | 5 => 5 | 46 => 284 | n => n, fun | n => n⟩
theorem Tryz.lays314 : Go.Proofs.Lays.n314 Tryz.prog Tryz.lays314_ren := {
  mixed := by kernel_rfl
  f314 := Tryz.func249.trans (congrArg some (by kernel_rfl))
  t3 := Tryz.underlying3
  a3 := Tryz.isAgg3
  z3 := Tryz.sizeOf3
  v3 := Tryz.zeroValue3
  t4 := Tryz.underlying4
  a4 := Tryz.isAgg4
  z4 := Tryz.sizeOf4
  v4 := Tryz.zeroValue4
  t5 := Tryz.underlying5
  a5 := Tryz.isAgg5
  z5 := Tryz.sizeOf5
  v5 := Tryz.zeroValue5
  t9 := Tryz.underlying9
  a9 := Tryz.isAgg9
  z9 := Tryz.sizeOf9
  v9 := Tryz.zeroValue9
  t46 := Tryz.underlying284
  a46 := Tryz.isAgg284
  z46 := Tryz.sizeOf284
  v46 := Tryz.zeroValue284
  t51 := Tryz.underlying329
  a51 := Tryz.isAgg329
  z51 := Tryz.sizeOf329
  v51 := Tryz.zeroValue329 }
open Go.RowKit Go.Lib in
/-- hashStr: "returns the hash and the appropriate multiplicative factor for use in Rabin-Karp algorithm": THE HASH OF ALL OF sep, AND 16777619 ^ len(sep), both in uint32. (LAID: no walk: one application.) -/
theorem Tryz.bytealg_hashStr (sep : ByteArray) (hs : sep.size < 4294967281) (w : World) :
    Calls Tryz.prog 249 #[.string sep] w fun e w' => e = .returned (.tuple #[.int .u32 (RK.H sep.data.toList % 4294967296), .int .u32 (16777619 ^ sep.size % 4294967296)]) ∧ w' = w := Any.bytealg_hashStr Tryz.lays314 sep hs w
def Tryz.lays267_ren : Go.Shelf.Ren := ⟨fun | 267 => 242 | 314 => 249 | n => n, fun | 9 => 9 | 3 => 3 | 146 => 338 | 51 => 329 | 4 => 4 | 5 => 5 | 46 => 284 | n => n, fun | n => n⟩
theorem Tryz.lays267 : Go.Proofs.Lays.n267 Tryz.prog Tryz.lays267_ren := {
  mixed := by kernel_rfl
  f267 := Tryz.func242.trans (congrArg some (by kernel_rfl))
  f314 := Tryz.func249.trans (congrArg some (by kernel_rfl))
  t3 := Tryz.underlying3
  a3 := Tryz.isAgg3
  z3 := Tryz.sizeOf3
  v3 := Tryz.zeroValue3
  t4 := Tryz.underlying4
  a4 := Tryz.isAgg4
  z4 := Tryz.sizeOf4
  v4 := Tryz.zeroValue4
  t5 := Tryz.underlying5
  a5 := Tryz.isAgg5
  z5 := Tryz.sizeOf5
  v5 := Tryz.zeroValue5
  t9 := Tryz.underlying9
  a9 := Tryz.isAgg9
  z9 := Tryz.sizeOf9
  v9 := Tryz.zeroValue9
  t46 := Tryz.underlying284
  a46 := Tryz.isAgg284
  z46 := Tryz.sizeOf284
  v46 := Tryz.zeroValue284
  t51 := Tryz.underlying329
  a51 := Tryz.isAgg329
  z51 := Tryz.sizeOf329
  v51 := Tryz.zeroValue329
  t146 := Tryz.underlying338
  a146 := Tryz.isAgg338
  z146 := Tryz.sizeOf338
  v146 := Tryz.zeroValue338 }
open Go.RowKit Go.Lib in
theorem Tryz.bytealg_IndexRabinKarp (s sep : ByteArray) (h1 : 1 ≤ sep.size) (h2 : sep.size ≤ s.size) (hs : s.size < 4294967281) (w : World) :
    Calls Tryz.prog 242 #[.string s, .string sep] w fun e w' => e = .returned (.int .i64 (Lib.index s.data.toList sep.data.toList)) ∧ w' = w := Any.bytealg_IndexRabinKarp Tryz.lays267 s sep h1 h2 hs w
def Tryz.lays219_ren : Go.Shelf.Ren := ⟨fun | 219 => 228 | 217 => 142 | 225 => 240 | 224 => 241 | 267 => 242 | 266 => 186 | 314 => 249 | n => n, fun | 9 => 9 | 3 => 3 | 4 => 4 | 5 => 5 | 46 => 284 | 146 => 338 | 51 => 329 | n => n, fun | 1 => 2 | n => n⟩
theorem Tryz.lays219 : Go.Proofs.Lays.n219 Tryz.prog Tryz.lays219_ren := {
  mixed := by kernel_rfl
  f217 := Tryz.func142.trans (congrArg some (by kernel_rfl))
  f219 := Tryz.func228.trans (congrArg some (by kernel_rfl))
  f224 := Tryz.func241.trans (congrArg some (by kernel_rfl))
  f225 := Tryz.func240.trans (congrArg some (by kernel_rfl))
  f266 := Tryz.func186.trans (congrArg some (by kernel_rfl))
  f267 := Tryz.func242.trans (congrArg some (by kernel_rfl))
  f314 := Tryz.func249.trans (congrArg some (by kernel_rfl))
  t3 := Tryz.underlying3
  a3 := Tryz.isAgg3
  z3 := Tryz.sizeOf3
  v3 := Tryz.zeroValue3
  t4 := Tryz.underlying4
  a4 := Tryz.isAgg4
  z4 := Tryz.sizeOf4
  v4 := Tryz.zeroValue4
  t5 := Tryz.underlying5
  a5 := Tryz.isAgg5
  z5 := Tryz.sizeOf5
  v5 := Tryz.zeroValue5
  t9 := Tryz.underlying9
  a9 := Tryz.isAgg9
  z9 := Tryz.sizeOf9
  v9 := Tryz.zeroValue9
  t46 := Tryz.underlying284
  a46 := Tryz.isAgg284
  z46 := Tryz.sizeOf284
  v46 := Tryz.zeroValue284
  t51 := Tryz.underlying329
  a51 := Tryz.isAgg329
  z51 := Tryz.sizeOf329
  v51 := Tryz.zeroValue329
  t146 := Tryz.underlying338
  a146 := Tryz.isAgg338
  z146 := Tryz.sizeOf338
  v146 := Tryz.zeroValue338
  g1 := by kernel_rfl }
open Go.RowKit Go.Lib in
/-- internal/stringslite.Index (what strings.Index calls) AT A substr OF ONE BYTE c: IT RETURNS 'Lib.indexByte s c'; the world is as it was. (LAID: no walk: one application.) -/
theorem Tryz.stringslite_Index_one (s : ByteArray) (c : UInt8) (w : World) :
    Calls Tryz.prog 228 #[.string s, .string ⟨#[c]⟩] w fun e w' => e = .returned (.int .i64 (Lib.indexByte s.data.toList c)) ∧ w' = w := Any.stringslite_Index_one Tryz.lays219 s c w
open Go.RowKit Go.Lib in
/-- internal/stringslite.Index (what strings.Index calls) AT A substr OF WHATEVER LENGTH: IT RETURNS 'Lib.index s substr'; the world is as it was. 'm': what internal/bytealg.MaxLen holds: whatever. (LAID: no walk: one application.) -/
theorem Tryz.stringslite_Index (s sub : ByteArray) (m : Int) (w : World) (hs : s.size < 4294967281) (hm : w.cell? ⟨2, 0, none⟩ = some (.int .i64 m)) :
    Calls Tryz.prog 228 #[.string s, .string sub] w fun e w' => e = .returned (.int .i64 (Lib.index s.data.toList sub.data.toList)) ∧ w' = w := Any.stringslite_Index Tryz.lays219 s sub m w hs hm
def Tryz.lays143_ren : Go.Shelf.Ren := ⟨fun | 143 => 211 | 219 => 228 | 217 => 142 | 225 => 240 | 224 => 241 | 267 => 242 | 266 => 186 | 314 => 249 | n => n, fun | 9 => 9 | 3 => 3 | 4 => 4 | 5 => 5 | 46 => 284 | 146 => 338 | 51 => 329 | n => n, fun | 1 => 2 | n => n⟩
theorem Tryz.lays143 : Go.Proofs.Lays.n143 Tryz.prog Tryz.lays143_ren := {
  mixed := by kernel_rfl
  f143 := Tryz.func211.trans (congrArg some (by kernel_rfl))
  f217 := Tryz.func142.trans (congrArg some (by kernel_rfl))
  f219 := Tryz.func228.trans (congrArg some (by kernel_rfl))
  f224 := Tryz.func241.trans (congrArg some (by kernel_rfl))
  f225 := Tryz.func240.trans (congrArg some (by kernel_rfl))
  f266 := Tryz.func186.trans (congrArg some (by kernel_rfl))
  f267 := Tryz.func242.trans (congrArg some (by kernel_rfl))
  f314 := Tryz.func249.trans (congrArg some (by kernel_rfl))
  t3 := Tryz.underlying3
  a3 := Tryz.isAgg3
  z3 := Tryz.sizeOf3
  v3 := Tryz.zeroValue3
  t4 := Tryz.underlying4
  a4 := Tryz.isAgg4
  z4 := Tryz.sizeOf4
  v4 := Tryz.zeroValue4
  t5 := Tryz.underlying5
  a5 := Tryz.isAgg5
  z5 := Tryz.sizeOf5
  v5 := Tryz.zeroValue5
  t9 := Tryz.underlying9
  a9 := Tryz.isAgg9
  z9 := Tryz.sizeOf9
  v9 := Tryz.zeroValue9
  t46 := Tryz.underlying284
  a46 := Tryz.isAgg284
  z46 := Tryz.sizeOf284
  v46 := Tryz.zeroValue284
  t51 := Tryz.underlying329
  a51 := Tryz.isAgg329
  z51 := Tryz.sizeOf329
  v51 := Tryz.zeroValue329
  t146 := Tryz.underlying338
  a146 := Tryz.isAgg338
  z146 := Tryz.sizeOf338
  v146 := Tryz.zeroValue338
  g1 := by kernel_rfl }
open Go.RowKit Go.Lib in
/-- strings.Index: "Index returns the index of the first instance of substr in s, or -1 if substr is not present in s.": AT A substr OF ONE BYTE c: IT RETURNS 'Lib.indexByte s c'; the world is as it was. (LAID: no walk: one application.) -/
theorem Tryz.strings_Index_one (s : ByteArray) (c : UInt8) (w : World) :
    Calls Tryz.prog 211 #[.string s, .string ⟨#[c]⟩] w fun e w' => e = .returned (.int .i64 (Lib.indexByte s.data.toList c)) ∧ w' = w := Any.strings_Index_one Tryz.lays143 s c w
open Go.RowKit Go.Lib in
/-- strings.Index: "Index returns the index of the first instance of substr in s, or -1 if substr is not present in s.": IT RETURNS 'Lib.index s substr'; the world is as it was. (LAID: no walk: one application.) -/
theorem Tryz.strings_Index (s sub : ByteArray) (m : Int) (w : World) (hs : s.size < 4294967281) (hm : w.cell? ⟨2, 0, none⟩ = some (.int .i64 m)) :
    Calls Tryz.prog 211 #[.string s, .string sub] w fun e w' => e = .returned (.int .i64 (Lib.index s.data.toList sub.data.toList)) ∧ w' = w := Any.strings_Index Tryz.lays143 s sub m w hs hm
def Tryz.lays138_ren : Go.Shelf.Ren := ⟨fun | 138 => 210 | 195 => 226 | 218 => 227 | 143 => 211 | 219 => 228 | 217 => 142 | 225 => 240 | 224 => 241 | 267 => 242 | 266 => 186 | 314 => 249 | n => n, fun | 9 => 9 | 3 => 3 | 4 => 4 | 5 => 5 | 0 => 0 | 46 => 284 | 146 => 338 | 51 => 329 | n => n, fun | 1 => 2 | n => n⟩
theorem Tryz.lays138 : Go.Proofs.Lays.n138 Tryz.prog Tryz.lays138_ren := {
  mixed := by kernel_rfl
  f138 := Tryz.func210.trans (congrArg some (by kernel_rfl))
  f143 := Tryz.func211.trans (congrArg some (by kernel_rfl))
  f195 := Tryz.func226.trans (congrArg some (by kernel_rfl))
  f217 := Tryz.func142.trans (congrArg some (by kernel_rfl))
  f218 := Tryz.func227.trans (congrArg some (by kernel_rfl))
  f219 := Tryz.func228.trans (congrArg some (by kernel_rfl))
  f224 := Tryz.func241.trans (congrArg some (by kernel_rfl))
  f225 := Tryz.func240.trans (congrArg some (by kernel_rfl))
  f266 := Tryz.func186.trans (congrArg some (by kernel_rfl))
  f267 := Tryz.func242.trans (congrArg some (by kernel_rfl))
  f314 := Tryz.func249.trans (congrArg some (by kernel_rfl))
  t0 := Tryz.underlying0
  a0 := Tryz.isAgg0
  z0 := Tryz.sizeOf0
  v0 := Tryz.zeroValue0
  t3 := Tryz.underlying3
  a3 := Tryz.isAgg3
  z3 := Tryz.sizeOf3
  v3 := Tryz.zeroValue3
  t4 := Tryz.underlying4
  a4 := Tryz.isAgg4
  z4 := Tryz.sizeOf4
  v4 := Tryz.zeroValue4
  t5 := Tryz.underlying5
  a5 := Tryz.isAgg5
  z5 := Tryz.sizeOf5
  v5 := Tryz.zeroValue5
  t9 := Tryz.underlying9
  a9 := Tryz.isAgg9
  z9 := Tryz.sizeOf9
  v9 := Tryz.zeroValue9
  t46 := Tryz.underlying284
  a46 := Tryz.isAgg284
  z46 := Tryz.sizeOf284
  v46 := Tryz.zeroValue284
  t51 := Tryz.underlying329
  a51 := Tryz.isAgg329
  z51 := Tryz.sizeOf329
  v51 := Tryz.zeroValue329
  t146 := Tryz.underlying338
  a146 := Tryz.isAgg338
  z146 := Tryz.sizeOf338
  v146 := Tryz.zeroValue338
  g1 := by kernel_rfl }
open Go.RowKit Go.Lib in
/-- strings.Count AT A substr OF ONE BYTE ('hp'): "Count counts the number of non-overlapping instances of substr in s.": IT RETURNS 'Lib.countByte s (that byte)'; the world is as it was. ✋ NO CONTRACT HERE YET at an empty substr (utf8.RuneCountInString) or at a longer one (a loop over strings.Index). (LAID: no walk: one application.) -/
theorem Tryz.strings_Count_one (s : ByteArray) (c : UInt8) (w : World) :
    Calls Tryz.prog 210 #[.string s, .string ⟨#[c]⟩] w fun e w' => e = .returned (.int .i64 (Lib.countByte s.data.toList c)) ∧ w' = w := Any.strings_Count_one Tryz.lays138 s c w
open Go.RowKit Go.Lib in
/-- strings.Count AT A substr OF TWO BYTES OR MORE: "Count counts the number of non-overlapping instances of substr in s.": IT RETURNS 'Lib.count s substr'; the world is as it was. (LAID: no walk: one application.) -/
theorem Tryz.strings_Count (s sub : ByteArray) (m : Int) (w : World) (hs : s.size < 4294967281) (hm : w.cell? ⟨2, 0, none⟩ = some (.int .i64 m)) (h2 : 2 ≤ sub.size) :
    Calls Tryz.prog 210 #[.string s, .string sub] w fun e w' => e = .returned (.int .i64 (Lib.countB s sub)) ∧ w' = w := Any.strings_Count Tryz.lays138 s sub m w hs hm h2
def Tryz.laysM219_ren : Go.Shelf.Ren := ⟨fun | 219 => 228 | 217 => 142 | 225 => 240 | 224 => 241 | 267 => 242 | 266 => 186 | 314 => 249 | n => n, fun | 9 => 9 | 3 => 3 | 4 => 4 | 5 => 5 | 46 => 284 | 146 => 338 | 51 => 329 | n => n, fun | 1 => 2 | n => n⟩
theorem Tryz.laysM219 : Go.Proofs.LaysM.n219 Tryz.prog Tryz.laysM219_ren := {
  mixed := by kernel_rfl
  f217 := Tryz.func142.trans (congrArg some (by kernel_rfl))
  f219 := Tryz.func228.trans (congrArg some (by kernel_rfl))
  f224 := Tryz.func241.trans (congrArg some (by kernel_rfl))
  f225 := Tryz.func240.trans (congrArg some (by kernel_rfl))
  f266 := Tryz.func186.trans (congrArg some (by kernel_rfl))
  f267 := Tryz.func242.trans (congrArg some (by kernel_rfl))
  f314 := Tryz.func249.trans (congrArg some (by kernel_rfl))
  t3 := Tryz.underlying3
  a3 := Tryz.isAgg3
  z3 := Tryz.sizeOf3
  v3 := Tryz.zeroValue3
  t4 := Tryz.underlying4
  a4 := Tryz.isAgg4
  z4 := Tryz.sizeOf4
  v4 := Tryz.zeroValue4
  t5 := Tryz.underlying5
  a5 := Tryz.isAgg5
  z5 := Tryz.sizeOf5
  v5 := Tryz.zeroValue5
  t9 := Tryz.underlying9
  a9 := Tryz.isAgg9
  z9 := Tryz.sizeOf9
  v9 := Tryz.zeroValue9
  t46 := Tryz.underlying284
  a46 := Tryz.isAgg284
  z46 := Tryz.sizeOf284
  v46 := Tryz.zeroValue284
  t51 := Tryz.underlying329
  a51 := Tryz.isAgg329
  z51 := Tryz.sizeOf329
  v51 := Tryz.zeroValue329
  t146 := Tryz.underlying338
  a146 := Tryz.isAgg338
  z146 := Tryz.sizeOf338
  v146 := Tryz.zeroValue338
  g1 := by kernel_rfl
  i3 := by kernel_rfl
  i4 := by kernel_rfl
  i5 := by kernel_rfl
  i9 := by kernel_rfl
  i46 := by kernel_rfl
  i51 := by kernel_rfl
  i146 := by kernel_rfl
  m1 := by kernel_rfl
  s1_3 := fun w h => Go.Proofs.cell_of_shapedOpen_int (zero := #[.int .i64 0]) (t := 3) h (of_decide_eq_true (by kernel_rfl)) (by kernel_rfl) rfl (by kernel_rfl) (by kernel_rfl) Tryz.underlying3 }
open Go.RowKit Go.Lib in
theorem Tryz.stringslite_Index_shaped (s sub : ByteArray) (w : World) (h : w.ShapedOpen Tryz.prog) (hs : s.size < 4294967281) :
    Calls Tryz.prog 228 #[.string s, .string sub] w fun e w' => e = .returned (.int .i64 (Lib.index s.data.toList sub.data.toList)) ∧ w' = w := Any.stringslite_Index_shaped Tryz.laysM219 s sub w h hs
def Tryz.laysM143_ren : Go.Shelf.Ren := ⟨fun | 143 => 211 | 219 => 228 | 217 => 142 | 225 => 240 | 224 => 241 | 267 => 242 | 266 => 186 | 314 => 249 | n => n, fun | 9 => 9 | 3 => 3 | 4 => 4 | 5 => 5 | 46 => 284 | 146 => 338 | 51 => 329 | n => n, fun | 1 => 2 | n => n⟩
theorem Tryz.laysM143 : Go.Proofs.LaysM.n143 Tryz.prog Tryz.laysM143_ren := {
  mixed := by kernel_rfl
  f143 := Tryz.func211.trans (congrArg some (by kernel_rfl))
  f217 := Tryz.func142.trans (congrArg some (by kernel_rfl))
  f219 := Tryz.func228.trans (congrArg some (by kernel_rfl))
  f224 := Tryz.func241.trans (congrArg some (by kernel_rfl))
  f225 := Tryz.func240.trans (congrArg some (by kernel_rfl))
  f266 := Tryz.func186.trans (congrArg some (by kernel_rfl))
  f267 := Tryz.func242.trans (congrArg some (by kernel_rfl))
  f314 := Tryz.func249.trans (congrArg some (by kernel_rfl))
  t3 := Tryz.underlying3
  a3 := Tryz.isAgg3
  z3 := Tryz.sizeOf3
  v3 := Tryz.zeroValue3
  t4 := Tryz.underlying4
  a4 := Tryz.isAgg4
  z4 := Tryz.sizeOf4
  v4 := Tryz.zeroValue4
  t5 := Tryz.underlying5
  a5 := Tryz.isAgg5
  z5 := Tryz.sizeOf5
  v5 := Tryz.zeroValue5
  t9 := Tryz.underlying9
  a9 := Tryz.isAgg9
  z9 := Tryz.sizeOf9
  v9 := Tryz.zeroValue9
  t46 := Tryz.underlying284
  a46 := Tryz.isAgg284
  z46 := Tryz.sizeOf284
  v46 := Tryz.zeroValue284
  t51 := Tryz.underlying329
  a51 := Tryz.isAgg329
  z51 := Tryz.sizeOf329
  v51 := Tryz.zeroValue329
  t146 := Tryz.underlying338
  a146 := Tryz.isAgg338
  z146 := Tryz.sizeOf338
  v146 := Tryz.zeroValue338
  g1 := by kernel_rfl
  i3 := by kernel_rfl
  i4 := by kernel_rfl
  i5 := by kernel_rfl
  i9 := by kernel_rfl
  i46 := by kernel_rfl
  i51 := by kernel_rfl
  i146 := by kernel_rfl
  m1 := by kernel_rfl
  s1_3 := fun w h => Go.Proofs.cell_of_shapedOpen_int (zero := #[.int .i64 0]) (t := 3) h (of_decide_eq_true (by kernel_rfl)) (by kernel_rfl) rfl (by kernel_rfl) (by kernel_rfl) Tryz.underlying3 }
open Go.RowKit Go.Lib in
theorem Tryz.strings_Index_shaped (s sub : ByteArray) (w : World) (h : w.ShapedOpen Tryz.prog) (hs : s.size < 4294967281) :
    Calls Tryz.prog 211 #[.string s, .string sub] w fun e w' => e = .returned (.int .i64 (Lib.index s.data.toList sub.data.toList)) ∧ w' = w := Any.strings_Index_shaped Tryz.laysM143 s sub w h hs
def Tryz.laysM138_ren : Go.Shelf.Ren := ⟨fun | 138 => 210 | 195 => 226 | 218 => 227 | 143 => 211 | 219 => 228 | 217 => 142 | 225 => 240 | 224 => 241 | 267 => 242 | 266 => 186 | 314 => 249 | n => n, fun | 9 => 9 | 3 => 3 | 4 => 4 | 5 => 5 | 0 => 0 | 46 => 284 | 146 => 338 | 51 => 329 | n => n, fun | 1 => 2 | n => n⟩
theorem Tryz.laysM138 : Go.Proofs.LaysM.n138 Tryz.prog Tryz.laysM138_ren := {
  mixed := by kernel_rfl
  f138 := Tryz.func210.trans (congrArg some (by kernel_rfl))
  f143 := Tryz.func211.trans (congrArg some (by kernel_rfl))
  f195 := Tryz.func226.trans (congrArg some (by kernel_rfl))
  f217 := Tryz.func142.trans (congrArg some (by kernel_rfl))
  f218 := Tryz.func227.trans (congrArg some (by kernel_rfl))
  f219 := Tryz.func228.trans (congrArg some (by kernel_rfl))
  f224 := Tryz.func241.trans (congrArg some (by kernel_rfl))
  f225 := Tryz.func240.trans (congrArg some (by kernel_rfl))
  f266 := Tryz.func186.trans (congrArg some (by kernel_rfl))
  f267 := Tryz.func242.trans (congrArg some (by kernel_rfl))
  f314 := Tryz.func249.trans (congrArg some (by kernel_rfl))
  t0 := Tryz.underlying0
  a0 := Tryz.isAgg0
  z0 := Tryz.sizeOf0
  v0 := Tryz.zeroValue0
  t3 := Tryz.underlying3
  a3 := Tryz.isAgg3
  z3 := Tryz.sizeOf3
  v3 := Tryz.zeroValue3
  t4 := Tryz.underlying4
  a4 := Tryz.isAgg4
  z4 := Tryz.sizeOf4
  v4 := Tryz.zeroValue4
  t5 := Tryz.underlying5
  a5 := Tryz.isAgg5
  z5 := Tryz.sizeOf5
  v5 := Tryz.zeroValue5
  t9 := Tryz.underlying9
  a9 := Tryz.isAgg9
  z9 := Tryz.sizeOf9
  v9 := Tryz.zeroValue9
  t46 := Tryz.underlying284
  a46 := Tryz.isAgg284
  z46 := Tryz.sizeOf284
  v46 := Tryz.zeroValue284
  t51 := Tryz.underlying329
  a51 := Tryz.isAgg329
  z51 := Tryz.sizeOf329
  v51 := Tryz.zeroValue329
  t146 := Tryz.underlying338
  a146 := Tryz.isAgg338
  z146 := Tryz.sizeOf338
  v146 := Tryz.zeroValue338
  g1 := by kernel_rfl
  i0 := by kernel_rfl
  i3 := by kernel_rfl
  i4 := by kernel_rfl
  i5 := by kernel_rfl
  i9 := by kernel_rfl
  i46 := by kernel_rfl
  i51 := by kernel_rfl
  i146 := by kernel_rfl
  m1 := by kernel_rfl
  s1_3 := fun w h => Go.Proofs.cell_of_shapedOpen_int (zero := #[.int .i64 0]) (t := 3) h (of_decide_eq_true (by kernel_rfl)) (by kernel_rfl) rfl (by kernel_rfl) (by kernel_rfl) Tryz.underlying3 }
open Go.RowKit Go.Lib in
theorem Tryz.strings_Count_shaped (s sub : ByteArray) (w : World) (h : w.ShapedOpen Tryz.prog) (hs : s.size < 4294967281) (h2 : 2 ≤ sub.size) :
    Calls Tryz.prog 210 #[.string s, .string sub] w fun e w' => e = .returned (.int .i64 (Lib.countB s sub)) ∧ w' = w := Any.strings_Count_shaped Tryz.laysM138 s sub w h hs h2
open Go.RowKit Go.Lib in
/-- strings.Count at whatever sep that is not empty: the two roads under one statement. (LAID: no walk: one application.) -/
theorem Tryz.strings_Count_any (s sep : ByteArray) (m : Int) (w : World) (hs : s.size < 4294967281) (hm : w.cell? ⟨2, 0, none⟩ = some (.int .i64 m)) (h1 : 1 ≤ sep.size) :
    Calls Tryz.prog 210 #[.string s, .string sep] w fun e w' => e = .returned (.int .i64 (Lib.countB s sep)) ∧ w' = w := Any.strings_Count_any Tryz.lays138 s sep m w hs hm h1
def Tryz.lays154_ren : Go.Shelf.Ren := ⟨fun | 154 => 185 | 138 => 210 | 165 => 189 | 143 => 211 | 166 => 190 | 197 => 143 | 169 => 194 | 195 => 226 | 218 => 227 | 240 => 212 | 241 => 213 | 219 => 228 | 260 => 187 | 276 => 229 | 277 => 230 | 217 => 142 | 225 => 240 | 224 => 241 | 267 => 242 | 266 => 186 | 314 => 249 | n => n, fun | 9 => 9 | 3 => 3 | 4 => 4 | 72 => 289 | 0 => 0 | 76 => 294 | 105 => 227 | 21 => 21 | 5 => 5 | 70 => 287 | 20 => 20 | 37 => 272 | 75 => 293 | 127 => 314 | 164 => 326 | 46 => 284 | 119 => 300 | 139 => 303 | 138 => 302 | 146 => 338 | 51 => 329 | 80 => 136 | n => n, fun | 1 => 2 | 3 => 0 | 4 => 1 | n => n⟩
theorem Tryz.lays154 : Go.Proofs.Lays.n154 Tryz.prog Tryz.lays154_ren := {
  mixed := by kernel_rfl
  f138 := Tryz.func210.trans (congrArg some (by kernel_rfl))
  f143 := Tryz.func211.trans (congrArg some (by kernel_rfl))
  f154 := Tryz.func185.trans (congrArg some (by kernel_rfl))
  f165 := Tryz.func189.trans (congrArg some (by kernel_rfl))
  f166 := Tryz.func190.trans (congrArg some (by kernel_rfl))
  f169 := Tryz.func194.trans (congrArg some (by kernel_rfl))
  f195 := Tryz.func226.trans (congrArg some (by kernel_rfl))
  f197 := Tryz.func143.trans (congrArg some (by kernel_rfl))
  f217 := Tryz.func142.trans (congrArg some (by kernel_rfl))
  f218 := Tryz.func227.trans (congrArg some (by kernel_rfl))
  f219 := Tryz.func228.trans (congrArg some (by kernel_rfl))
  f224 := Tryz.func241.trans (congrArg some (by kernel_rfl))
  f225 := Tryz.func240.trans (congrArg some (by kernel_rfl))
  f240 := Tryz.func212.trans (congrArg some (by kernel_rfl))
  f241 := Tryz.func213.trans (congrArg some (by kernel_rfl))
  f260 := Tryz.func187.trans (congrArg some (by kernel_rfl))
  f266 := Tryz.func186.trans (congrArg some (by kernel_rfl))
  f267 := Tryz.func242.trans (congrArg some (by kernel_rfl))
  f276 := Tryz.func229.trans (congrArg some (by kernel_rfl))
  f277 := Tryz.func230.trans (congrArg some (by kernel_rfl))
  f314 := Tryz.func249.trans (congrArg some (by kernel_rfl))
  t0 := Tryz.underlying0
  a0 := Tryz.isAgg0
  z0 := Tryz.sizeOf0
  v0 := Tryz.zeroValue0
  t3 := Tryz.underlying3
  a3 := Tryz.isAgg3
  z3 := Tryz.sizeOf3
  v3 := Tryz.zeroValue3
  t4 := Tryz.underlying4
  a4 := Tryz.isAgg4
  z4 := Tryz.sizeOf4
  v4 := Tryz.zeroValue4
  t5 := Tryz.underlying5
  a5 := Tryz.isAgg5
  z5 := Tryz.sizeOf5
  v5 := Tryz.zeroValue5
  t9 := Tryz.underlying9
  a9 := Tryz.isAgg9
  z9 := Tryz.sizeOf9
  v9 := Tryz.zeroValue9
  t20 := Tryz.underlying20
  a20 := Tryz.isAgg20
  z20 := Tryz.sizeOf20
  v20 := Tryz.zeroValue20
  t21 := Tryz.underlying21
  a21 := Tryz.isAgg21
  z21 := Tryz.sizeOf21
  v21 := Tryz.zeroValue21
  t37 := Tryz.underlying272
  a37 := Tryz.isAgg272
  z37 := Tryz.sizeOf272
  v37 := Tryz.zeroValue272
  t46 := Tryz.underlying284
  a46 := Tryz.isAgg284
  z46 := Tryz.sizeOf284
  v46 := Tryz.zeroValue284
  t51 := Tryz.underlying329
  a51 := Tryz.isAgg329
  z51 := Tryz.sizeOf329
  v51 := Tryz.zeroValue329
  t70 := Tryz.underlying287
  a70 := Tryz.isAgg287
  z70 := Tryz.sizeOf287
  v70 := Tryz.zeroValue287
  t72 := Tryz.underlying289
  a72 := Tryz.isAgg289
  z72 := Tryz.sizeOf289
  v72 := Tryz.zeroValue289
  t75 := Tryz.underlying293
  a75 := Tryz.isAgg293
  z75 := Tryz.sizeOf293
  v75 := Tryz.zeroValue293
  t76 := Tryz.underlying294
  a76 := Tryz.isAgg294
  z76 := Tryz.sizeOf294
  v76 := Tryz.zeroValue294
  t105 := Tryz.underlying227
  a105 := Tryz.isAgg227
  z105 := Tryz.sizeOf227
  v105 := Tryz.zeroValue227
  t119 := Tryz.underlying300
  a119 := Tryz.isAgg300
  z119 := Tryz.sizeOf300
  t127 := Tryz.underlying314
  a127 := Tryz.isAgg314
  z127 := Tryz.sizeOf314
  v127 := Tryz.zeroValue314
  t138 := Tryz.underlying302
  a138 := Tryz.isAgg302
  z138 := Tryz.sizeOf302
  v138 := Tryz.zeroValue302
  t139 := Tryz.underlying303
  a139 := Tryz.isAgg303
  z139 := Tryz.sizeOf303
  v139 := Tryz.zeroValue303
  t146 := Tryz.underlying338
  a146 := Tryz.isAgg338
  z146 := Tryz.sizeOf338
  v146 := Tryz.zeroValue338
  t164 := Tryz.underlying326
  a164 := Tryz.isAgg326
  z164 := Tryz.sizeOf326
  v164 := Tryz.zeroValue326
  g1 := by kernel_rfl
  g3 := by kernel_rfl
  g4 := by kernel_rfl }
theorem Tryz.Builder_Extra_154 : Builder.Extra Tryz.prog Tryz.lays154_ren := {
  sizeBuilder := by kernel_rfl
  liesBuilder := by kernel_rfl
  t5 := Tryz.underlying5
  a5 := Tryz.isAgg5
  z5 := Tryz.sizeOf5
  v5 := Tryz.zeroValue5
  infoByte := by kernel_rfl
  cellsByte := by kernel_rfl
  sizeByte := by kernel_rfl
  neB5 := by decide }
open Go.RowKit Go.Lib in
/-- WHERE SOMETHING IS REPLACED: old is not new, n is not 0, there is an instance. (LAID: no walk: one application.) -/
theorem Tryz.strings_Replace_some (s old new : ByteArray) (n : Int) (m : Int) (w : World) (hs : s.size < 4294967281) (hm : w.cell? ⟨2, 0, none⟩ = some (.int .i64 m)) (h1 : 1 ≤ old.size) (hne : old ≠ new) (hn0 : n ≠ 0) (hc0 : Lib.countB s old ≠ 0) (hlen : s.size + Lib.countB s old * new.size ≤ 140737488355328) :
    Calls Tryz.prog 185 #[.string s, .string old, .string new, .int .i64 n] w fun e w' =>
      e = .returned (.string ⟨(Lib.replaceK old.data.toList new.data.toList (Lib.replaceNum s.data.toList old.data.toList n) s.data.toList).toArray⟩) ∧ Below w.heap.size w w' := Any.strings_Replace_some Tryz.lays154 Tryz.Builder_Extra_154 s old new n m w hs hm h1 hne hn0 hc0 hlen
open Go.RowKit Go.Lib in
/-- 'if old == new || n == 0 { return s }'. (LAID: no walk: one application.) -/
theorem Tryz.strings_Replace_none (s old new : ByteArray) (n : Int) (w : World) (h : old = new ∨ n = 0) :
    Calls Tryz.prog 185 #[.string s, .string old, .string new, .int .i64 n] w fun e w' => e = .returned (.string s) ∧ w' = w := Any.strings_Replace_none Tryz.lays154 s old new n w h
open Go.RowKit Go.Lib in
/-- 'if m := Count(s, old); m == 0 { return s }'. (LAID: no walk: one application.) -/
theorem Tryz.strings_Replace_absent (s old new : ByteArray) (n : Int) (m : Int) (w : World) (hs : s.size < 4294967281) (hm : w.cell? ⟨2, 0, none⟩ = some (.int .i64 m)) (h1 : 1 ≤ old.size) (hne : old ≠ new) (hn0 : n ≠ 0) (hc0 : Lib.countB s old = 0) :
    Calls Tryz.prog 185 #[.string s, .string old, .string new, .int .i64 n] w fun e w' => e = .returned (.string s) ∧ w' = w := Any.strings_Replace_absent Tryz.lays154 s old new n m w hs hm h1 hne hn0 hc0
open Go.RowKit Go.Lib in
/-- strings.Replace: "Replace returns a copy of the string s with the first n non-overlapping instances of old replaced by new. .. If n < 0, there is no limit on the number of replacements.": AT AN old THAT IS NOT EMPTY: IT RETURNS 'Lib.replace s old new n'. Below the heap's end the world is as it was. IT ASKS, as strings.Index's contract: 'len(s) < 4294967281', 'hm'; and that what comes out has room: 'len(s) + Count(s, old) * len(new) ≤ 2^47'. (LAID: no walk: one application.) -/
theorem Tryz.strings_Replace (s old new : ByteArray) (n : Int) (m : Int) (w : World) (hs : s.size < 4294967281) (hm : w.cell? ⟨2, 0, none⟩ = some (.int .i64 m)) (h1 : 1 ≤ old.size) (hlen : s.size + Lib.countB s old * new.size ≤ 140737488355328) :
    Calls Tryz.prog 185 #[.string s, .string old, .string new, .int .i64 n] w fun e w' =>
      e = .returned (.string ⟨(Lib.replace s.data.toList old.data.toList new.data.toList n).toArray⟩) ∧ Below w.heap.size w w' := Any.strings_Replace Tryz.lays154 Tryz.Builder_Extra_154 s old new n m w hs hm h1 hlen
def Tryz.lays155_ren : Go.Shelf.Ren := ⟨fun | 155 => 141 | 154 => 185 | 138 => 210 | 165 => 189 | 143 => 211 | 166 => 190 | 197 => 143 | 169 => 194 | 195 => 226 | 218 => 227 | 240 => 212 | 241 => 213 | 219 => 228 | 260 => 187 | 276 => 229 | 277 => 230 | 217 => 142 | 225 => 240 | 224 => 241 | 267 => 242 | 266 => 186 | 314 => 249 | n => n, fun | 9 => 9 | 3 => 3 | 4 => 4 | 72 => 289 | 0 => 0 | 76 => 294 | 105 => 227 | 21 => 21 | 5 => 5 | 70 => 287 | 20 => 20 | 37 => 272 | 75 => 293 | 127 => 314 | 164 => 326 | 46 => 284 | 119 => 300 | 139 => 303 | 138 => 302 | 146 => 338 | 51 => 329 | 80 => 136 | n => n, fun | 1 => 2 | 3 => 0 | 4 => 1 | n => n⟩
theorem Tryz.lays155 : Go.Proofs.Lays.n155 Tryz.prog Tryz.lays155_ren := {
  mixed := by kernel_rfl
  f138 := Tryz.func210.trans (congrArg some (by kernel_rfl))
  f143 := Tryz.func211.trans (congrArg some (by kernel_rfl))
  f154 := Tryz.func185.trans (congrArg some (by kernel_rfl))
  f155 := Tryz.func141.trans (congrArg some (by kernel_rfl))
  f165 := Tryz.func189.trans (congrArg some (by kernel_rfl))
  f166 := Tryz.func190.trans (congrArg some (by kernel_rfl))
  f169 := Tryz.func194.trans (congrArg some (by kernel_rfl))
  f195 := Tryz.func226.trans (congrArg some (by kernel_rfl))
  f197 := Tryz.func143.trans (congrArg some (by kernel_rfl))
  f217 := Tryz.func142.trans (congrArg some (by kernel_rfl))
  f218 := Tryz.func227.trans (congrArg some (by kernel_rfl))
  f219 := Tryz.func228.trans (congrArg some (by kernel_rfl))
  f224 := Tryz.func241.trans (congrArg some (by kernel_rfl))
  f225 := Tryz.func240.trans (congrArg some (by kernel_rfl))
  f240 := Tryz.func212.trans (congrArg some (by kernel_rfl))
  f241 := Tryz.func213.trans (congrArg some (by kernel_rfl))
  f260 := Tryz.func187.trans (congrArg some (by kernel_rfl))
  f266 := Tryz.func186.trans (congrArg some (by kernel_rfl))
  f267 := Tryz.func242.trans (congrArg some (by kernel_rfl))
  f276 := Tryz.func229.trans (congrArg some (by kernel_rfl))
  f277 := Tryz.func230.trans (congrArg some (by kernel_rfl))
  f314 := Tryz.func249.trans (congrArg some (by kernel_rfl))
  t0 := Tryz.underlying0
  a0 := Tryz.isAgg0
  z0 := Tryz.sizeOf0
  v0 := Tryz.zeroValue0
  t3 := Tryz.underlying3
  a3 := Tryz.isAgg3
  z3 := Tryz.sizeOf3
  v3 := Tryz.zeroValue3
  t4 := Tryz.underlying4
  a4 := Tryz.isAgg4
  z4 := Tryz.sizeOf4
  v4 := Tryz.zeroValue4
  t5 := Tryz.underlying5
  a5 := Tryz.isAgg5
  z5 := Tryz.sizeOf5
  v5 := Tryz.zeroValue5
  t9 := Tryz.underlying9
  a9 := Tryz.isAgg9
  z9 := Tryz.sizeOf9
  v9 := Tryz.zeroValue9
  t20 := Tryz.underlying20
  a20 := Tryz.isAgg20
  z20 := Tryz.sizeOf20
  v20 := Tryz.zeroValue20
  t21 := Tryz.underlying21
  a21 := Tryz.isAgg21
  z21 := Tryz.sizeOf21
  v21 := Tryz.zeroValue21
  t37 := Tryz.underlying272
  a37 := Tryz.isAgg272
  z37 := Tryz.sizeOf272
  v37 := Tryz.zeroValue272
  t46 := Tryz.underlying284
  a46 := Tryz.isAgg284
  z46 := Tryz.sizeOf284
  v46 := Tryz.zeroValue284
  t51 := Tryz.underlying329
  a51 := Tryz.isAgg329
  z51 := Tryz.sizeOf329
  v51 := Tryz.zeroValue329
  t70 := Tryz.underlying287
  a70 := Tryz.isAgg287
  z70 := Tryz.sizeOf287
  v70 := Tryz.zeroValue287
  t72 := Tryz.underlying289
  a72 := Tryz.isAgg289
  z72 := Tryz.sizeOf289
  v72 := Tryz.zeroValue289
  t75 := Tryz.underlying293
  a75 := Tryz.isAgg293
  z75 := Tryz.sizeOf293
  v75 := Tryz.zeroValue293
  t76 := Tryz.underlying294
  a76 := Tryz.isAgg294
  z76 := Tryz.sizeOf294
  v76 := Tryz.zeroValue294
  t105 := Tryz.underlying227
  a105 := Tryz.isAgg227
  z105 := Tryz.sizeOf227
  v105 := Tryz.zeroValue227
  t119 := Tryz.underlying300
  a119 := Tryz.isAgg300
  z119 := Tryz.sizeOf300
  t127 := Tryz.underlying314
  a127 := Tryz.isAgg314
  z127 := Tryz.sizeOf314
  v127 := Tryz.zeroValue314
  t138 := Tryz.underlying302
  a138 := Tryz.isAgg302
  z138 := Tryz.sizeOf302
  v138 := Tryz.zeroValue302
  t139 := Tryz.underlying303
  a139 := Tryz.isAgg303
  z139 := Tryz.sizeOf303
  v139 := Tryz.zeroValue303
  t146 := Tryz.underlying338
  a146 := Tryz.isAgg338
  z146 := Tryz.sizeOf338
  v146 := Tryz.zeroValue338
  t164 := Tryz.underlying326
  a164 := Tryz.isAgg326
  z164 := Tryz.sizeOf326
  v164 := Tryz.zeroValue326
  g1 := by kernel_rfl
  g3 := by kernel_rfl
  g4 := by kernel_rfl }
theorem Tryz.Builder_Extra_155 : Builder.Extra Tryz.prog Tryz.lays155_ren := {
  sizeBuilder := by kernel_rfl
  liesBuilder := by kernel_rfl
  t5 := Tryz.underlying5
  a5 := Tryz.isAgg5
  z5 := Tryz.sizeOf5
  v5 := Tryz.zeroValue5
  infoByte := by kernel_rfl
  cellsByte := by kernel_rfl
  sizeByte := by kernel_rfl
  neB5 := by decide }
open Go.RowKit Go.Lib in
/-- strings.ReplaceAll: "ReplaceAll returns a copy of the string s with all non-overlapping instances of old replaced by new.": AT AN old THAT IS NOT EMPTY: 'Lib.replaceAll s old new'. (LAID: no walk: one application.) -/
theorem Tryz.strings_ReplaceAll (s old new : ByteArray) (m : Int) (w : World) (hs : s.size < 4294967281) (hm : w.cell? ⟨2, 0, none⟩ = some (.int .i64 m)) (h1 : 1 ≤ old.size) (hlen : s.size + Lib.countB s old * new.size ≤ 140737488355328) :
    Calls Tryz.prog 141 #[.string s, .string old, .string new] w fun e w' =>
      e = .returned (.string ⟨(Lib.replaceAll s.data.toList old.data.toList new.data.toList).toArray⟩) ∧ Below w.heap.size w w' := Any.strings_ReplaceAll Tryz.lays155 Tryz.Builder_Extra_155 s old new m w hs hm h1 hlen
def Tryz.laysM154_ren : Go.Shelf.Ren := ⟨fun | 154 => 185 | 138 => 210 | 165 => 189 | 143 => 211 | 166 => 190 | 197 => 143 | 169 => 194 | 195 => 226 | 218 => 227 | 240 => 212 | 241 => 213 | 219 => 228 | 260 => 187 | 276 => 229 | 277 => 230 | 217 => 142 | 225 => 240 | 224 => 241 | 267 => 242 | 266 => 186 | 314 => 249 | n => n, fun | 9 => 9 | 3 => 3 | 4 => 4 | 72 => 289 | 0 => 0 | 76 => 294 | 105 => 227 | 21 => 21 | 5 => 5 | 70 => 287 | 20 => 20 | 37 => 272 | 75 => 293 | 127 => 314 | 164 => 326 | 46 => 284 | 119 => 300 | 139 => 303 | 138 => 302 | 146 => 338 | 51 => 329 | 80 => 136 | n => n, fun | 1 => 2 | 3 => 0 | 4 => 1 | n => n⟩
theorem Tryz.laysM154 : Go.Proofs.LaysM.n154 Tryz.prog Tryz.laysM154_ren := {
  mixed := by kernel_rfl
  f138 := Tryz.func210.trans (congrArg some (by kernel_rfl))
  f143 := Tryz.func211.trans (congrArg some (by kernel_rfl))
  f154 := Tryz.func185.trans (congrArg some (by kernel_rfl))
  f165 := Tryz.func189.trans (congrArg some (by kernel_rfl))
  f166 := Tryz.func190.trans (congrArg some (by kernel_rfl))
  f169 := Tryz.func194.trans (congrArg some (by kernel_rfl))
  f195 := Tryz.func226.trans (congrArg some (by kernel_rfl))
  f197 := Tryz.func143.trans (congrArg some (by kernel_rfl))
  f217 := Tryz.func142.trans (congrArg some (by kernel_rfl))
  f218 := Tryz.func227.trans (congrArg some (by kernel_rfl))
  f219 := Tryz.func228.trans (congrArg some (by kernel_rfl))
  f224 := Tryz.func241.trans (congrArg some (by kernel_rfl))
  f225 := Tryz.func240.trans (congrArg some (by kernel_rfl))
  f240 := Tryz.func212.trans (congrArg some (by kernel_rfl))
  f241 := Tryz.func213.trans (congrArg some (by kernel_rfl))
  f260 := Tryz.func187.trans (congrArg some (by kernel_rfl))
  f266 := Tryz.func186.trans (congrArg some (by kernel_rfl))
  f267 := Tryz.func242.trans (congrArg some (by kernel_rfl))
  f276 := Tryz.func229.trans (congrArg some (by kernel_rfl))
  f277 := Tryz.func230.trans (congrArg some (by kernel_rfl))
  f314 := Tryz.func249.trans (congrArg some (by kernel_rfl))
  t0 := Tryz.underlying0
  a0 := Tryz.isAgg0
  z0 := Tryz.sizeOf0
  v0 := Tryz.zeroValue0
  t3 := Tryz.underlying3
  a3 := Tryz.isAgg3
  z3 := Tryz.sizeOf3
  v3 := Tryz.zeroValue3
  t4 := Tryz.underlying4
  a4 := Tryz.isAgg4
  z4 := Tryz.sizeOf4
  v4 := Tryz.zeroValue4
  t5 := Tryz.underlying5
  a5 := Tryz.isAgg5
  z5 := Tryz.sizeOf5
  v5 := Tryz.zeroValue5
  t9 := Tryz.underlying9
  a9 := Tryz.isAgg9
  z9 := Tryz.sizeOf9
  v9 := Tryz.zeroValue9
  t20 := Tryz.underlying20
  a20 := Tryz.isAgg20
  z20 := Tryz.sizeOf20
  v20 := Tryz.zeroValue20
  t21 := Tryz.underlying21
  a21 := Tryz.isAgg21
  z21 := Tryz.sizeOf21
  v21 := Tryz.zeroValue21
  t37 := Tryz.underlying272
  a37 := Tryz.isAgg272
  z37 := Tryz.sizeOf272
  v37 := Tryz.zeroValue272
  t46 := Tryz.underlying284
  a46 := Tryz.isAgg284
  z46 := Tryz.sizeOf284
  v46 := Tryz.zeroValue284
  t51 := Tryz.underlying329
  a51 := Tryz.isAgg329
  z51 := Tryz.sizeOf329
  v51 := Tryz.zeroValue329
  t70 := Tryz.underlying287
  a70 := Tryz.isAgg287
  z70 := Tryz.sizeOf287
  v70 := Tryz.zeroValue287
  t72 := Tryz.underlying289
  a72 := Tryz.isAgg289
  z72 := Tryz.sizeOf289
  v72 := Tryz.zeroValue289
  t75 := Tryz.underlying293
  a75 := Tryz.isAgg293
  z75 := Tryz.sizeOf293
  v75 := Tryz.zeroValue293
  t76 := Tryz.underlying294
  a76 := Tryz.isAgg294
  z76 := Tryz.sizeOf294
  v76 := Tryz.zeroValue294
  t105 := Tryz.underlying227
  a105 := Tryz.isAgg227
  z105 := Tryz.sizeOf227
  v105 := Tryz.zeroValue227
  t119 := Tryz.underlying300
  a119 := Tryz.isAgg300
  z119 := Tryz.sizeOf300
  t127 := Tryz.underlying314
  a127 := Tryz.isAgg314
  z127 := Tryz.sizeOf314
  v127 := Tryz.zeroValue314
  t138 := Tryz.underlying302
  a138 := Tryz.isAgg302
  z138 := Tryz.sizeOf302
  v138 := Tryz.zeroValue302
  t139 := Tryz.underlying303
  a139 := Tryz.isAgg303
  z139 := Tryz.sizeOf303
  v139 := Tryz.zeroValue303
  t146 := Tryz.underlying338
  a146 := Tryz.isAgg338
  z146 := Tryz.sizeOf338
  v146 := Tryz.zeroValue338
  t164 := Tryz.underlying326
  a164 := Tryz.isAgg326
  z164 := Tryz.sizeOf326
  v164 := Tryz.zeroValue326
  g1 := by kernel_rfl
  g3 := by kernel_rfl
  g4 := by kernel_rfl
  t80 := Tryz.underlying136
  a80 := Tryz.isAgg136
  z80 := Tryz.sizeOf136
  v80 := Tryz.zeroValue136
  i0 := by kernel_rfl
  i3 := by kernel_rfl
  i4 := by kernel_rfl
  i5 := by kernel_rfl
  i9 := by kernel_rfl
  i20 := by kernel_rfl
  i21 := by kernel_rfl
  i37 := by kernel_rfl
  i46 := by kernel_rfl
  i51 := by kernel_rfl
  i70 := by kernel_rfl
  i72 := by kernel_rfl
  i75 := by kernel_rfl
  i76 := by kernel_rfl
  i80 := by kernel_rfl
  i105 := by kernel_rfl
  i127 := by kernel_rfl
  i138 := by kernel_rfl
  i139 := by kernel_rfl
  i146 := by kernel_rfl
  i164 := by kernel_rfl
  m1 := by kernel_rfl
  s1_3 := fun w h => Go.Proofs.cell_of_shapedOpen_int (zero := #[.int .i64 0]) (t := 3) h (of_decide_eq_true (by kernel_rfl)) (by kernel_rfl) rfl (by kernel_rfl) (by kernel_rfl) Tryz.underlying3
  m3 := by kernel_rfl
  m4 := by kernel_rfl }
theorem Tryz.Builder_Extra_M154 : Builder.Extra Tryz.prog Tryz.laysM154_ren := {
  sizeBuilder := by kernel_rfl
  liesBuilder := by kernel_rfl
  t5 := Tryz.underlying5
  a5 := Tryz.isAgg5
  z5 := Tryz.sizeOf5
  v5 := Tryz.zeroValue5
  infoByte := by kernel_rfl
  cellsByte := by kernel_rfl
  sizeByte := by kernel_rfl
  neB5 := by decide }
open Go.RowKit Go.Lib in
/-- strings.Replace, old not empty. (LAID: no walk: one application.) -/
theorem Tryz.strings_Replace_shaped (s old new : ByteArray) (n : Int) (w : World) (h : w.ShapedOpen Tryz.prog) (hs : s.size < 4294967281) (h1 : 1 ≤ old.size) (hlen : s.size + Lib.countB s old * new.size ≤ 140737488355328) :
    Calls Tryz.prog 185 #[.string s, .string old, .string new, .int .i64 n] w fun e w' =>
      e = .returned (.string ⟨(Lib.replace s.data.toList old.data.toList new.data.toList n).toArray⟩) ∧ Below w.heap.size w w' := Any.strings_Replace_shaped Tryz.laysM154 Tryz.Builder_Extra_M154 s old new n w h hs h1 hlen
def Tryz.laysM155_ren : Go.Shelf.Ren := ⟨fun | 155 => 141 | 154 => 185 | 138 => 210 | 165 => 189 | 143 => 211 | 166 => 190 | 197 => 143 | 169 => 194 | 195 => 226 | 218 => 227 | 240 => 212 | 241 => 213 | 219 => 228 | 260 => 187 | 276 => 229 | 277 => 230 | 217 => 142 | 225 => 240 | 224 => 241 | 267 => 242 | 266 => 186 | 314 => 249 | n => n, fun | 9 => 9 | 3 => 3 | 4 => 4 | 72 => 289 | 0 => 0 | 76 => 294 | 105 => 227 | 21 => 21 | 5 => 5 | 70 => 287 | 20 => 20 | 37 => 272 | 75 => 293 | 127 => 314 | 164 => 326 | 46 => 284 | 119 => 300 | 139 => 303 | 138 => 302 | 146 => 338 | 51 => 329 | 80 => 136 | n => n, fun | 1 => 2 | 3 => 0 | 4 => 1 | n => n⟩
theorem Tryz.laysM155 : Go.Proofs.LaysM.n155 Tryz.prog Tryz.laysM155_ren := {
  mixed := by kernel_rfl
  f138 := Tryz.func210.trans (congrArg some (by kernel_rfl))
  f143 := Tryz.func211.trans (congrArg some (by kernel_rfl))
  f154 := Tryz.func185.trans (congrArg some (by kernel_rfl))
  f155 := Tryz.func141.trans (congrArg some (by kernel_rfl))
  f165 := Tryz.func189.trans (congrArg some (by kernel_rfl))
  f166 := Tryz.func190.trans (congrArg some (by kernel_rfl))
  f169 := Tryz.func194.trans (congrArg some (by kernel_rfl))
  f195 := Tryz.func226.trans (congrArg some (by kernel_rfl))
  f197 := Tryz.func143.trans (congrArg some (by kernel_rfl))
  f217 := Tryz.func142.trans (congrArg some (by kernel_rfl))
  f218 := Tryz.func227.trans (congrArg some (by kernel_rfl))
  f219 := Tryz.func228.trans (congrArg some (by kernel_rfl))
  f224 := Tryz.func241.trans (congrArg some (by kernel_rfl))
  f225 := Tryz.func240.trans (congrArg some (by kernel_rfl))
  f240 := Tryz.func212.trans (congrArg some (by kernel_rfl))
  f241 := Tryz.func213.trans (congrArg some (by kernel_rfl))
  f260 := Tryz.func187.trans (congrArg some (by kernel_rfl))
  f266 := Tryz.func186.trans (congrArg some (by kernel_rfl))
  f267 := Tryz.func242.trans (congrArg some (by kernel_rfl))
  f276 := Tryz.func229.trans (congrArg some (by kernel_rfl))
  f277 := Tryz.func230.trans (congrArg some (by kernel_rfl))
  f314 := Tryz.func249.trans (congrArg some (by kernel_rfl))
  t0 := Tryz.underlying0
  a0 := Tryz.isAgg0
  z0 := Tryz.sizeOf0
  v0 := Tryz.zeroValue0
  t3 := Tryz.underlying3
  a3 := Tryz.isAgg3
  z3 := Tryz.sizeOf3
  v3 := Tryz.zeroValue3
  t4 := Tryz.underlying4
  a4 := Tryz.isAgg4
  z4 := Tryz.sizeOf4
  v4 := Tryz.zeroValue4
  t5 := Tryz.underlying5
  a5 := Tryz.isAgg5
  z5 := Tryz.sizeOf5
  v5 := Tryz.zeroValue5
  t9 := Tryz.underlying9
  a9 := Tryz.isAgg9
  z9 := Tryz.sizeOf9
  v9 := Tryz.zeroValue9
  t20 := Tryz.underlying20
  a20 := Tryz.isAgg20
  z20 := Tryz.sizeOf20
  v20 := Tryz.zeroValue20
  t21 := Tryz.underlying21
  a21 := Tryz.isAgg21
  z21 := Tryz.sizeOf21
  v21 := Tryz.zeroValue21
  t37 := Tryz.underlying272
  a37 := Tryz.isAgg272
  z37 := Tryz.sizeOf272
  v37 := Tryz.zeroValue272
  t46 := Tryz.underlying284
  a46 := Tryz.isAgg284
  z46 := Tryz.sizeOf284
  v46 := Tryz.zeroValue284
  t51 := Tryz.underlying329
  a51 := Tryz.isAgg329
  z51 := Tryz.sizeOf329
  v51 := Tryz.zeroValue329
  t70 := Tryz.underlying287
  a70 := Tryz.isAgg287
  z70 := Tryz.sizeOf287
  v70 := Tryz.zeroValue287
  t72 := Tryz.underlying289
  a72 := Tryz.isAgg289
  z72 := Tryz.sizeOf289
  v72 := Tryz.zeroValue289
  t75 := Tryz.underlying293
  a75 := Tryz.isAgg293
  z75 := Tryz.sizeOf293
  v75 := Tryz.zeroValue293
  t76 := Tryz.underlying294
  a76 := Tryz.isAgg294
  z76 := Tryz.sizeOf294
  v76 := Tryz.zeroValue294
  t105 := Tryz.underlying227
  a105 := Tryz.isAgg227
  z105 := Tryz.sizeOf227
  v105 := Tryz.zeroValue227
  t119 := Tryz.underlying300
  a119 := Tryz.isAgg300
  z119 := Tryz.sizeOf300
  t127 := Tryz.underlying314
  a127 := Tryz.isAgg314
  z127 := Tryz.sizeOf314
  v127 := Tryz.zeroValue314
  t138 := Tryz.underlying302
  a138 := Tryz.isAgg302
  z138 := Tryz.sizeOf302
  v138 := Tryz.zeroValue302
  t139 := Tryz.underlying303
  a139 := Tryz.isAgg303
  z139 := Tryz.sizeOf303
  v139 := Tryz.zeroValue303
  t146 := Tryz.underlying338
  a146 := Tryz.isAgg338
  z146 := Tryz.sizeOf338
  v146 := Tryz.zeroValue338
  t164 := Tryz.underlying326
  a164 := Tryz.isAgg326
  z164 := Tryz.sizeOf326
  v164 := Tryz.zeroValue326
  g1 := by kernel_rfl
  g3 := by kernel_rfl
  g4 := by kernel_rfl
  t80 := Tryz.underlying136
  a80 := Tryz.isAgg136
  z80 := Tryz.sizeOf136
  v80 := Tryz.zeroValue136
  i0 := by kernel_rfl
  i3 := by kernel_rfl
  i4 := by kernel_rfl
  i5 := by kernel_rfl
  i9 := by kernel_rfl
  i20 := by kernel_rfl
  i21 := by kernel_rfl
  i37 := by kernel_rfl
  i46 := by kernel_rfl
  i51 := by kernel_rfl
  i70 := by kernel_rfl
  i72 := by kernel_rfl
  i75 := by kernel_rfl
  i76 := by kernel_rfl
  i80 := by kernel_rfl
  i105 := by kernel_rfl
  i127 := by kernel_rfl
  i138 := by kernel_rfl
  i139 := by kernel_rfl
  i146 := by kernel_rfl
  i164 := by kernel_rfl
  m1 := by kernel_rfl
  s1_3 := fun w h => Go.Proofs.cell_of_shapedOpen_int (zero := #[.int .i64 0]) (t := 3) h (of_decide_eq_true (by kernel_rfl)) (by kernel_rfl) rfl (by kernel_rfl) (by kernel_rfl) Tryz.underlying3
  m3 := by kernel_rfl
  m4 := by kernel_rfl }
theorem Tryz.Builder_Extra_M155 : Builder.Extra Tryz.prog Tryz.laysM155_ren := {
  sizeBuilder := by kernel_rfl
  liesBuilder := by kernel_rfl
  t5 := Tryz.underlying5
  a5 := Tryz.isAgg5
  z5 := Tryz.sizeOf5
  v5 := Tryz.zeroValue5
  infoByte := by kernel_rfl
  cellsByte := by kernel_rfl
  sizeByte := by kernel_rfl
  neB5 := by decide }
open Go.RowKit Go.Lib in
/-- strings.ReplaceAll, old not empty. (LAID: no walk: one application.) -/
theorem Tryz.strings_ReplaceAll_shaped (s old new : ByteArray) (w : World) (h : w.ShapedOpen Tryz.prog) (hs : s.size < 4294967281) (h1 : 1 ≤ old.size) (hlen : s.size + Lib.countB s old * new.size ≤ 140737488355328) :
    Calls Tryz.prog 141 #[.string s, .string old, .string new] w fun e w' =>
      e = .returned (.string ⟨(Lib.replaceAll s.data.toList old.data.toList new.data.toList).toArray⟩) ∧ Below w.heap.size w w' := Any.strings_ReplaceAll_shaped Tryz.laysM155 Tryz.Builder_Extra_M155 s old new w h hs h1 hlen
def Tryz.lays203_ren : Go.Shelf.Ren := ⟨fun | 203 => 232 | 262 => 243 | 313 => 250 | 274 => 252 | 275 => 253 | n => n, fun | 21 => 21 | 4 => 4 | 3 => 3 | 162 => 342 | 203 => 340 | 160 => 345 | 46 => 284 | 0 => 0 | 208 => 351 | 51 => 329 | 206 => 349 | n => n, fun | 13 => 5 | n => n⟩
theorem Tryz.lays203 : Go.Proofs.Lays.n203 Tryz.prog Tryz.lays203_ren := {
  mixed := by kernel_rfl
  f203 := Tryz.func232.trans (congrArg some (by kernel_rfl))
  f262 := Tryz.func243.trans (congrArg some (by kernel_rfl))
  f274 := Tryz.func252.trans (congrArg some (by kernel_rfl))
  f275 := Tryz.func253.trans (congrArg some (by kernel_rfl))
  f313 := Tryz.func250.trans (congrArg some (by kernel_rfl))
  t0 := Tryz.underlying0
  a0 := Tryz.isAgg0
  z0 := Tryz.sizeOf0
  v0 := Tryz.zeroValue0
  t3 := Tryz.underlying3
  a3 := Tryz.isAgg3
  z3 := Tryz.sizeOf3
  v3 := Tryz.zeroValue3
  t4 := Tryz.underlying4
  a4 := Tryz.isAgg4
  z4 := Tryz.sizeOf4
  v4 := Tryz.zeroValue4
  t21 := Tryz.underlying21
  a21 := Tryz.isAgg21
  z21 := Tryz.sizeOf21
  v21 := Tryz.zeroValue21
  t46 := Tryz.underlying284
  a46 := Tryz.isAgg284
  z46 := Tryz.sizeOf284
  v46 := Tryz.zeroValue284
  t51 := Tryz.underlying329
  a51 := Tryz.isAgg329
  z51 := Tryz.sizeOf329
  v51 := Tryz.zeroValue329
  t160 := Tryz.underlying345
  a160 := Tryz.isAgg345
  z160 := Tryz.sizeOf345
  v160 := Tryz.zeroValue345
  t162 := Tryz.underlying342
  a162 := Tryz.isAgg342
  z162 := Tryz.sizeOf342
  v162 := Tryz.zeroValue342
  t203 := Tryz.underlying340
  a203 := Tryz.isAgg340
  z203 := Tryz.sizeOf340
  v203 := Tryz.zeroValue340
  t206 := Tryz.underlying349
  a206 := Tryz.isAgg349
  z206 := Tryz.sizeOf349
  v206 := Tryz.zeroValue349
  t208 := Tryz.underlying351
  a208 := Tryz.isAgg351
  z208 := Tryz.sizeOf351
  v208 := Tryz.zeroValue351
  g13 := by kernel_rfl }
open Go.RowKit Go.Lib in
theorem Tryz.unicode_ToUpper (r : Int) (w : World) (h : r ≤ 127) :
    Calls Tryz.prog 232 #[.int .i32 r] w fun e w' => e = .returned (.int .i32 (Lib.toUpperR r)) ∧ w' = w := Any.unicode_ToUpper Tryz.lays203 r w h
def Tryz.lays197_ren : Go.Shelf.Ren := ⟨fun | 197 => 143 | 260 => 187 | n => n, fun | 9 => 9 | 21 => 21 | 3 => 3 | 4 => 4 | 5 => 5 | 105 => 227 | 119 => 300 | 0 => 0 | 46 => 284 | 139 => 303 | 138 => 302 | n => n, fun | 3 => 0 | 4 => 1 | n => n⟩
theorem Tryz.lays197 : Go.Proofs.Lays.n197 Tryz.prog Tryz.lays197_ren := {
  mixed := by kernel_rfl
  f197 := Tryz.func143.trans (congrArg some (by kernel_rfl))
  f260 := Tryz.func187.trans (congrArg some (by kernel_rfl))
  t0 := Tryz.underlying0
  a0 := Tryz.isAgg0
  z0 := Tryz.sizeOf0
  v0 := Tryz.zeroValue0
  t3 := Tryz.underlying3
  a3 := Tryz.isAgg3
  z3 := Tryz.sizeOf3
  v3 := Tryz.zeroValue3
  t4 := Tryz.underlying4
  a4 := Tryz.isAgg4
  z4 := Tryz.sizeOf4
  v4 := Tryz.zeroValue4
  t5 := Tryz.underlying5
  a5 := Tryz.isAgg5
  z5 := Tryz.sizeOf5
  v5 := Tryz.zeroValue5
  t9 := Tryz.underlying9
  a9 := Tryz.isAgg9
  z9 := Tryz.sizeOf9
  v9 := Tryz.zeroValue9
  t21 := Tryz.underlying21
  a21 := Tryz.isAgg21
  z21 := Tryz.sizeOf21
  v21 := Tryz.zeroValue21
  t46 := Tryz.underlying284
  a46 := Tryz.isAgg284
  z46 := Tryz.sizeOf284
  v46 := Tryz.zeroValue284
  t105 := Tryz.underlying227
  a105 := Tryz.isAgg227
  z105 := Tryz.sizeOf227
  v105 := Tryz.zeroValue227
  t119 := Tryz.underlying300
  a119 := Tryz.isAgg300
  z119 := Tryz.sizeOf300
  t138 := Tryz.underlying302
  a138 := Tryz.isAgg302
  z138 := Tryz.sizeOf302
  v138 := Tryz.zeroValue302
  t139 := Tryz.underlying303
  a139 := Tryz.isAgg303
  z139 := Tryz.sizeOf303
  v139 := Tryz.zeroValue303
  g3 := by kernel_rfl
  g4 := by kernel_rfl }
open Go.RowKit Go.Lib in
/-- unicode/utf8.DecodeRuneInString: "DecodeRuneInString is like DecodeRune but its input is a string.": ("DecodeRune unpacks the first UTF-8 encoding in p and returns the rune and its width in bytes."): WHERE s BEGINS WITH AN ASCII BYTE x: (x, 1). (LAID: no walk: one application.) -/
theorem Tryz.utf8_DecodeRuneInString_ascii (s : ByteArray) (x : UInt8) (w : World) (h0 : s.data.toList[0]? = some x) (hx : x.toNat < 128) :
    Calls Tryz.prog 143 #[.string s] w fun e w' => e = .returned (.tuple #[.int .i32 x.toNat, .int .i64 1]) ∧ w' = w := Any.utf8_DecodeRuneInString_ascii Tryz.lays197 s x w h0 hx
open Go.RowKit Go.Lib in
theorem Tryz.utf8_RuneCountInString_ascii (s : ByteArray) (w : World) (hs : s.size < 4294967281) (hascii : ∀ (j : Nat) b, s.data.toList[j]? = some b → b.toNat < 128) :
    Calls Tryz.prog 226 #[.string s] w fun e w' => e = .returned (.int .i64 s.size) ∧ w' = w.iter s s.size := Any.utf8_RuneCountInString_ascii Tryz.lays195 s w hs hascii
def Tryz.lays264_ren : Go.Shelf.Ren := ⟨fun | 264 => 137 | n => n, fun | 53 => 108 | 46 => 284 | n => n, fun | n => n⟩
theorem Tryz.lays264 : Go.Proofs.Lays.n264 Tryz.prog Tryz.lays264_ren := {
  mixed := by kernel_rfl
  f264 := Tryz.func137.trans (congrArg some (by kernel_rfl))
  t46 := Tryz.underlying284
  a46 := Tryz.isAgg284
  z46 := Tryz.sizeOf284
  v46 := Tryz.zeroValue284
  t53 := Tryz.underlying108
  a53 := Tryz.isAgg108
  z53 := Tryz.sizeOf108
  v53 := Tryz.zeroValue108 }
open Go.RowKit Go.Lib in
theorem Tryz.bits_Mul64 (x y : Nat) (hx : x < 18446744073709551616) (hy : y < 18446744073709551616) (w : World) :
    Calls Tryz.prog 137 #[.int .u64 x, .int .u64 y] w fun e w' => e = .returned (.tuple #[.int .u64 ((x * y / 18446744073709551616 : Nat) : Int), .int .u64 ((x * y % 18446744073709551616 : Nat) : Int)]) ∧ w' = w := Any.bits_Mul64 Tryz.lays264 x y hx hy w
def Tryz.lays260_ren : Go.Shelf.Ren := ⟨fun | 260 => 187 | n => n, fun | 9 => 9 | 21 => 21 | 3 => 3 | 4 => 4 | 5 => 5 | 119 => 300 | 0 => 0 | 46 => 284 | 139 => 303 | 138 => 302 | n => n, fun | 3 => 0 | 4 => 1 | n => n⟩
theorem Tryz.lays260 : Go.Proofs.Lays.n260 Tryz.prog Tryz.lays260_ren := {
  mixed := by kernel_rfl
  f260 := Tryz.func187.trans (congrArg some (by kernel_rfl))
  t0 := Tryz.underlying0
  a0 := Tryz.isAgg0
  z0 := Tryz.sizeOf0
  v0 := Tryz.zeroValue0
  t3 := Tryz.underlying3
  a3 := Tryz.isAgg3
  z3 := Tryz.sizeOf3
  v3 := Tryz.zeroValue3
  t4 := Tryz.underlying4
  a4 := Tryz.isAgg4
  z4 := Tryz.sizeOf4
  v4 := Tryz.zeroValue4
  t5 := Tryz.underlying5
  a5 := Tryz.isAgg5
  z5 := Tryz.sizeOf5
  v5 := Tryz.zeroValue5
  t9 := Tryz.underlying9
  a9 := Tryz.isAgg9
  z9 := Tryz.sizeOf9
  v9 := Tryz.zeroValue9
  t21 := Tryz.underlying21
  a21 := Tryz.isAgg21
  z21 := Tryz.sizeOf21
  v21 := Tryz.zeroValue21
  t46 := Tryz.underlying284
  a46 := Tryz.isAgg284
  z46 := Tryz.sizeOf284
  v46 := Tryz.zeroValue284
  t119 := Tryz.underlying300
  a119 := Tryz.isAgg300
  z119 := Tryz.sizeOf300
  t138 := Tryz.underlying302
  a138 := Tryz.isAgg302
  z138 := Tryz.sizeOf302
  v138 := Tryz.zeroValue302
  t139 := Tryz.underlying303
  a139 := Tryz.isAgg303
  z139 := Tryz.sizeOf303
  v139 := Tryz.zeroValue303
  g3 := by kernel_rfl
  g4 := by kernel_rfl }
open Go.RowKit Go.Lib in
theorem Tryz.utf8_decodeRuneInStringSlow (s : ByteArray) (w : World) (hT : Lib.Utf8Tabs 0 1 w) :
    Calls Tryz.prog 187 #[.string s] w fun e w' => e = .returned (.tuple #[.int .i32 (Lib.decodeGo s).1, .int .i64 (Lib.decodeGo s).2]) ∧ Below w.heap.size w w' := Any.utf8_decodeRuneInStringSlow Tryz.lays260 s w hT
open Go.RowKit Go.Lib in
/-- **unicode/utf8.DecodeRuneInString AT EVERY STRING.** (LAID: no walk: one application.) -/
theorem Tryz.utf8_DecodeRuneInString (s : ByteArray) (w : World) (hT : Lib.Utf8Tabs 0 1 w) :
    Calls Tryz.prog 143 #[.string s] w fun e w' => e = .returned (.tuple #[.int .i32 (Lib.decodeGo s).1, .int .i64 (Lib.decodeGo s).2]) ∧ Below w.heap.size w w' := Any.utf8_DecodeRuneInString Tryz.lays197 s w hT
def Tryz.lays274_ren : Go.Shelf.Ren := ⟨fun | 274 => 252 | n => n, fun | 21 => 21 | 162 => 342 | 160 => 345 | 3 => 3 | 4 => 4 | 46 => 284 | 0 => 0 | 208 => 351 | 51 => 329 | 206 => 349 | n => n, fun | n => n⟩
theorem Tryz.lays274 : Go.Proofs.Lays.n274 Tryz.prog Tryz.lays274_ren := {
  mixed := by kernel_rfl
  f274 := Tryz.func252.trans (congrArg some (by kernel_rfl))
  t0 := Tryz.underlying0
  a0 := Tryz.isAgg0
  z0 := Tryz.sizeOf0
  v0 := Tryz.zeroValue0
  t3 := Tryz.underlying3
  a3 := Tryz.isAgg3
  z3 := Tryz.sizeOf3
  v3 := Tryz.zeroValue3
  t4 := Tryz.underlying4
  a4 := Tryz.isAgg4
  z4 := Tryz.sizeOf4
  v4 := Tryz.zeroValue4
  t21 := Tryz.underlying21
  a21 := Tryz.isAgg21
  z21 := Tryz.sizeOf21
  v21 := Tryz.zeroValue21
  t46 := Tryz.underlying284
  a46 := Tryz.isAgg284
  z46 := Tryz.sizeOf284
  v46 := Tryz.zeroValue284
  t51 := Tryz.underlying329
  a51 := Tryz.isAgg329
  z51 := Tryz.sizeOf329
  v51 := Tryz.zeroValue329
  t160 := Tryz.underlying345
  a160 := Tryz.isAgg345
  z160 := Tryz.sizeOf345
  v160 := Tryz.zeroValue345
  t162 := Tryz.underlying342
  a162 := Tryz.isAgg342
  z162 := Tryz.sizeOf342
  v162 := Tryz.zeroValue342
  t208 := Tryz.underlying351
  a208 := Tryz.isAgg351
  z208 := Tryz.sizeOf351
  v208 := Tryz.zeroValue351 }
open Go.RowKit Go.Lib in
theorem Tryz.unicode_lookupCaseRange (T : Array CaseRow) (R oR cap : Nat) (r : Int) (w : World) (hT : CaseTab R oR T w) (hok : CaseOk T) (hn : T.size ≤ 1000000000) :
    Calls Tryz.prog 252 #[.int .i32 r, .slice (some ⟨R, oR, none⟩) T.size cap] w fun e w' =>
      e = .returned (match lookupIdx T r (T.size + 1) 0 T.size with | some i => .pointer (some ⟨R, oR + i * 5, none⟩) | none => .pointer none) ∧ w' = w := Any.unicode_lookupCaseRange Tryz.lays274 T R oR cap r w hT hok hn
def Tryz.lays275_ren : Go.Shelf.Ren := ⟨fun | 275 => 253 | n => n, fun | 3 => 3 | 21 => 21 | 160 => 345 | 0 => 0 | 208 => 351 | 206 => 349 | 4 => 4 | 51 => 329 | n => n, fun | n => n⟩
theorem Tryz.lays275 : Go.Proofs.Lays.n275 Tryz.prog Tryz.lays275_ren := {
  mixed := by kernel_rfl
  f275 := Tryz.func253.trans (congrArg some (by kernel_rfl))
  t0 := Tryz.underlying0
  a0 := Tryz.isAgg0
  z0 := Tryz.sizeOf0
  v0 := Tryz.zeroValue0
  t3 := Tryz.underlying3
  a3 := Tryz.isAgg3
  z3 := Tryz.sizeOf3
  v3 := Tryz.zeroValue3
  t4 := Tryz.underlying4
  a4 := Tryz.isAgg4
  z4 := Tryz.sizeOf4
  v4 := Tryz.zeroValue4
  t21 := Tryz.underlying21
  a21 := Tryz.isAgg21
  z21 := Tryz.sizeOf21
  v21 := Tryz.zeroValue21
  t51 := Tryz.underlying329
  a51 := Tryz.isAgg329
  z51 := Tryz.sizeOf329
  v51 := Tryz.zeroValue329
  t160 := Tryz.underlying345
  a160 := Tryz.isAgg345
  z160 := Tryz.sizeOf345
  v160 := Tryz.zeroValue345
  t206 := Tryz.underlying349
  a206 := Tryz.isAgg349
  z206 := Tryz.sizeOf349
  v206 := Tryz.zeroValue349
  t208 := Tryz.underlying351
  a208 := Tryz.isAgg351
  z208 := Tryz.sizeOf351
  v208 := Tryz.zeroValue351 }
open Go.RowKit Go.Lib in
theorem Tryz.unicode_convertCase (c : Nat) (hc : c < 3) (r : Int) (A o : Nat) (x : CaseRow) (w : World) (hlo : (x.1 : Int) ≤ r) (hhi : r ≤ (x.2.1 : Int)) (hH : x.2.1 < 2147483647) (c0 : w.cell? ⟨A, o, none⟩ = some (.int .u32 x.1)) (cD : w.cell? ⟨A, o + 2 + c, none⟩ = some (.int .i32 (x.delta c))) :
    Calls Tryz.prog 253 #[.int .i64 c, .int .i32 r, .pointer (some ⟨A, o, none⟩)] w fun e w' => e = .returned (.int .i32 (wrap32 (convertR c r x))) ∧ ∃ q, w' = w.drewN q := Any.unicode_convertCase Tryz.lays275 c hc r A o x w hlo hhi hH c0 cD
def Tryz.lays313_ren : Go.Shelf.Ren := ⟨fun | 313 => 250 | 274 => 252 | 275 => 253 | n => n, fun | 3 => 3 | 21 => 21 | 162 => 342 | 4 => 4 | 160 => 345 | 46 => 284 | 0 => 0 | 208 => 351 | 51 => 329 | 206 => 349 | n => n, fun | n => n⟩
theorem Tryz.lays313 : Go.Proofs.Lays.n313 Tryz.prog Tryz.lays313_ren := {
  mixed := by kernel_rfl
  f274 := Tryz.func252.trans (congrArg some (by kernel_rfl))
  f275 := Tryz.func253.trans (congrArg some (by kernel_rfl))
  f313 := Tryz.func250.trans (congrArg some (by kernel_rfl))
  t0 := Tryz.underlying0
  a0 := Tryz.isAgg0
  z0 := Tryz.sizeOf0
  v0 := Tryz.zeroValue0
  t3 := Tryz.underlying3
  a3 := Tryz.isAgg3
  z3 := Tryz.sizeOf3
  v3 := Tryz.zeroValue3
  t4 := Tryz.underlying4
  a4 := Tryz.isAgg4
  z4 := Tryz.sizeOf4
  v4 := Tryz.zeroValue4
  t21 := Tryz.underlying21
  a21 := Tryz.isAgg21
  z21 := Tryz.sizeOf21
  v21 := Tryz.zeroValue21
  t46 := Tryz.underlying284
  a46 := Tryz.isAgg284
  z46 := Tryz.sizeOf284
  v46 := Tryz.zeroValue284
  t51 := Tryz.underlying329
  a51 := Tryz.isAgg329
  z51 := Tryz.sizeOf329
  v51 := Tryz.zeroValue329
  t160 := Tryz.underlying345
  a160 := Tryz.isAgg345
  z160 := Tryz.sizeOf345
  v160 := Tryz.zeroValue345
  t162 := Tryz.underlying342
  a162 := Tryz.isAgg342
  z162 := Tryz.sizeOf342
  v162 := Tryz.zeroValue342
  t206 := Tryz.underlying349
  a206 := Tryz.isAgg349
  z206 := Tryz.sizeOf349
  v206 := Tryz.zeroValue349
  t208 := Tryz.underlying351
  a208 := Tryz.isAgg351
  z208 := Tryz.sizeOf351
  v208 := Tryz.zeroValue351 }
open Go.RowKit Go.Lib in
theorem Tryz.unicode_to (c : Nat) (hc : c < 3) (r : Int) (T : Array CaseRow) (R oR cap : Nat) (w : World) (hT : CaseTab R oR T w) (hok : CaseOk2 T) (hn : T.size ≤ 1000000000) :
    Calls Tryz.prog 250 #[.int .i64 c, .int .i32 r, .slice (some ⟨R, oR, none⟩) T.size cap] w fun e w' => e = .returned (.tuple #[.int .i32 (toW T c r), .bool (lookupIdx T r (T.size + 1) 0 T.size).isSome]) ∧ ∃ q, w' = w.drewN q := Any.unicode_to Tryz.lays313 c hc r T R oR cap w hT hok hn
def Tryz.lays262_ren : Go.Shelf.Ren := ⟨fun | 262 => 243 | 313 => 250 | 274 => 252 | 275 => 253 | n => n, fun | 3 => 3 | 21 => 21 | 162 => 342 | 203 => 340 | 4 => 4 | 160 => 345 | 46 => 284 | 0 => 0 | 208 => 351 | 51 => 329 | 206 => 349 | n => n, fun | 13 => 5 | n => n⟩
theorem Tryz.lays262 : Go.Proofs.Lays.n262 Tryz.prog Tryz.lays262_ren := {
  mixed := by kernel_rfl
  f262 := Tryz.func243.trans (congrArg some (by kernel_rfl))
  f274 := Tryz.func252.trans (congrArg some (by kernel_rfl))
  f275 := Tryz.func253.trans (congrArg some (by kernel_rfl))
  f313 := Tryz.func250.trans (congrArg some (by kernel_rfl))
  t0 := Tryz.underlying0
  a0 := Tryz.isAgg0
  z0 := Tryz.sizeOf0
  v0 := Tryz.zeroValue0
  t3 := Tryz.underlying3
  a3 := Tryz.isAgg3
  z3 := Tryz.sizeOf3
  v3 := Tryz.zeroValue3
  t4 := Tryz.underlying4
  a4 := Tryz.isAgg4
  z4 := Tryz.sizeOf4
  v4 := Tryz.zeroValue4
  t21 := Tryz.underlying21
  a21 := Tryz.isAgg21
  z21 := Tryz.sizeOf21
  v21 := Tryz.zeroValue21
  t46 := Tryz.underlying284
  a46 := Tryz.isAgg284
  z46 := Tryz.sizeOf284
  v46 := Tryz.zeroValue284
  t51 := Tryz.underlying329
  a51 := Tryz.isAgg329
  z51 := Tryz.sizeOf329
  v51 := Tryz.zeroValue329
  t160 := Tryz.underlying345
  a160 := Tryz.isAgg345
  z160 := Tryz.sizeOf345
  v160 := Tryz.zeroValue345
  t162 := Tryz.underlying342
  a162 := Tryz.isAgg342
  z162 := Tryz.sizeOf342
  v162 := Tryz.zeroValue342
  t203 := Tryz.underlying340
  a203 := Tryz.isAgg340
  z203 := Tryz.sizeOf340
  v203 := Tryz.zeroValue340
  t206 := Tryz.underlying349
  a206 := Tryz.isAgg349
  z206 := Tryz.sizeOf349
  v206 := Tryz.zeroValue349
  t208 := Tryz.underlying351
  a208 := Tryz.isAgg351
  z208 := Tryz.sizeOf351
  v208 := Tryz.zeroValue351
  g13 := by kernel_rfl }
open Go.RowKit Go.Lib in
theorem Tryz.unicode_To (c : Nat) (hc : c < 3) (r : Int) (T : Array CaseRow) (w : World) (hV : CaseVar 5 T w) (hok : CaseOk2 T) (hn : T.size ≤ 1000000000) :
    Calls Tryz.prog 243 #[.int .i64 c, .int .i32 r] w fun e w' => e = .returned (.int .i32 (toW T c r)) ∧ ∃ q, w' = w.drewN q := Any.unicode_To Tryz.lays262 c hc r T w hV hok hn
open Go.RowKit Go.Lib in
theorem Tryz.unicode_ToUpper_any (r : Int) (T : Array CaseRow) (w : World) (hV : CaseVar 5 T w) (hok : CaseOk2 T) (hn : T.size ≤ 1000000000) :
    Calls Tryz.prog 232 #[.int .i32 r] w fun e w' => e = .returned (.int .i32 (Lib.toUpperW T r)) ∧ ∃ q, w' = w.drewN q := Any.unicode_ToUpper_any Tryz.lays203 r T w hV hok hn
open Go.RowKit Go.Lib in
theorem Tryz.unicode_ToUpper_laid (r : Int) (w : World) (hV : CaseVar 5 caseA w) :
    Calls Tryz.prog 232 #[.int .i32 r] w fun e w' => e = .returned (.int .i32 (toUpperU r)) ∧ ∃ q, w' = w.drewN q := Any.unicode_ToUpper_laid Tryz.lays203 r w hV
def Tryz.lays270_ren : Go.Shelf.Ren := ⟨fun | 270 => 192 | n => n, fun | 70 => 287 | 3 => 3 | 0 => 0 | 72 => 289 | 37 => 272 | 5 => 5 | n => n, fun | n => n⟩
theorem Tryz.lays270 : Go.Proofs.Lays.n270 Tryz.prog Tryz.lays270_ren := {
  mixed := by kernel_rfl
  f270 := Tryz.func192.trans (congrArg some (by kernel_rfl))
  t0 := Tryz.underlying0
  a0 := Tryz.isAgg0
  z0 := Tryz.sizeOf0
  v0 := Tryz.zeroValue0
  t3 := Tryz.underlying3
  a3 := Tryz.isAgg3
  z3 := Tryz.sizeOf3
  v3 := Tryz.zeroValue3
  t37 := Tryz.underlying272
  a37 := Tryz.isAgg272
  z37 := Tryz.sizeOf272
  v37 := Tryz.zeroValue272
  t70 := Tryz.underlying287
  a70 := Tryz.isAgg287
  z70 := Tryz.sizeOf287
  v70 := Tryz.zeroValue287
  t72 := Tryz.underlying289
  a72 := Tryz.isAgg289
  z72 := Tryz.sizeOf289
  v72 := Tryz.zeroValue289 }
open Go.RowKit Go.Lib in
/-- (*strings.Builder).Cap: "Cap returns the capacity of the builder's underlying byte slice." (LAID: no walk: one application.) -/
theorem Tryz.Builder_Cap_cell (b : Nat) (p : Option Addr) (n cap : Nat) (w : World) (c1 : w.cell? ⟨b, 1, none⟩ = some (.slice p n cap)) :
    Calls Tryz.prog 192 #[.pointer (some ⟨b, 0, none⟩)] w fun e w' => e = .returned (.int .i64 cap) ∧ w' = w := Any.Builder_Cap_cell Tryz.lays270 b p n cap w c1
def Tryz.lays230_ren : Go.Shelf.Ren := ⟨fun | 230 => 148 | 197 => 143 | 118 => 188 | 165 => 189 | 166 => 190 | 168 => 191 | 270 => 192 | 167 => 193 | 169 => 194 | 260 => 187 | 240 => 212 | 241 => 213 | 242 => 214 | 276 => 229 | 277 => 230 | 278 => 231 | n => n, fun | 107 => 232 | 9 => 9 | 72 => 289 | 0 => 0 | 4 => 4 | 3 => 3 | 21 => 21 | 105 => 227 | 76 => 294 | 5 => 5 | 75 => 293 | 70 => 287 | 20 => 20 | 37 => 272 | 127 => 314 | 119 => 300 | 46 => 284 | 139 => 303 | 138 => 302 | 164 => 326 | 51 => 329 | 80 => 136 | n => n, fun | 3 => 0 | 4 => 1 | n => n⟩
theorem Tryz.lays230 : Go.Proofs.Lays.n230 Tryz.prog Tryz.lays230_ren := {
  mixed := by kernel_rfl
  f118 := Tryz.func188.trans (congrArg some (by kernel_rfl))
  f165 := Tryz.func189.trans (congrArg some (by kernel_rfl))
  f166 := Tryz.func190.trans (congrArg some (by kernel_rfl))
  f167 := Tryz.func193.trans (congrArg some (by kernel_rfl))
  f168 := Tryz.func191.trans (congrArg some (by kernel_rfl))
  f169 := Tryz.func194.trans (congrArg some (by kernel_rfl))
  f197 := Tryz.func143.trans (congrArg some (by kernel_rfl))
  f230 := Tryz.func148.trans (congrArg some (by kernel_rfl))
  f240 := Tryz.func212.trans (congrArg some (by kernel_rfl))
  f241 := Tryz.func213.trans (congrArg some (by kernel_rfl))
  f242 := Tryz.func214.trans (congrArg some (by kernel_rfl))
  f260 := Tryz.func187.trans (congrArg some (by kernel_rfl))
  f270 := Tryz.func192.trans (congrArg some (by kernel_rfl))
  f276 := Tryz.func229.trans (congrArg some (by kernel_rfl))
  f277 := Tryz.func230.trans (congrArg some (by kernel_rfl))
  f278 := Tryz.func231.trans (congrArg some (by kernel_rfl))
  t0 := Tryz.underlying0
  a0 := Tryz.isAgg0
  z0 := Tryz.sizeOf0
  v0 := Tryz.zeroValue0
  t3 := Tryz.underlying3
  a3 := Tryz.isAgg3
  z3 := Tryz.sizeOf3
  v3 := Tryz.zeroValue3
  t4 := Tryz.underlying4
  a4 := Tryz.isAgg4
  z4 := Tryz.sizeOf4
  v4 := Tryz.zeroValue4
  t5 := Tryz.underlying5
  a5 := Tryz.isAgg5
  z5 := Tryz.sizeOf5
  v5 := Tryz.zeroValue5
  t9 := Tryz.underlying9
  a9 := Tryz.isAgg9
  z9 := Tryz.sizeOf9
  v9 := Tryz.zeroValue9
  t20 := Tryz.underlying20
  a20 := Tryz.isAgg20
  z20 := Tryz.sizeOf20
  v20 := Tryz.zeroValue20
  t21 := Tryz.underlying21
  a21 := Tryz.isAgg21
  z21 := Tryz.sizeOf21
  v21 := Tryz.zeroValue21
  t37 := Tryz.underlying272
  a37 := Tryz.isAgg272
  z37 := Tryz.sizeOf272
  v37 := Tryz.zeroValue272
  t46 := Tryz.underlying284
  a46 := Tryz.isAgg284
  z46 := Tryz.sizeOf284
  v46 := Tryz.zeroValue284
  t51 := Tryz.underlying329
  a51 := Tryz.isAgg329
  z51 := Tryz.sizeOf329
  v51 := Tryz.zeroValue329
  t70 := Tryz.underlying287
  a70 := Tryz.isAgg287
  z70 := Tryz.sizeOf287
  v70 := Tryz.zeroValue287
  t72 := Tryz.underlying289
  a72 := Tryz.isAgg289
  z72 := Tryz.sizeOf289
  v72 := Tryz.zeroValue289
  t75 := Tryz.underlying293
  a75 := Tryz.isAgg293
  z75 := Tryz.sizeOf293
  v75 := Tryz.zeroValue293
  t76 := Tryz.underlying294
  a76 := Tryz.isAgg294
  z76 := Tryz.sizeOf294
  v76 := Tryz.zeroValue294
  t105 := Tryz.underlying227
  a105 := Tryz.isAgg227
  z105 := Tryz.sizeOf227
  v105 := Tryz.zeroValue227
  t107 := Tryz.underlying232
  a107 := Tryz.isAgg232
  z107 := Tryz.sizeOf232
  v107 := Tryz.zeroValue232
  t119 := Tryz.underlying300
  a119 := Tryz.isAgg300
  z119 := Tryz.sizeOf300
  t127 := Tryz.underlying314
  a127 := Tryz.isAgg314
  z127 := Tryz.sizeOf314
  v127 := Tryz.zeroValue314
  t138 := Tryz.underlying302
  a138 := Tryz.isAgg302
  z138 := Tryz.sizeOf302
  v138 := Tryz.zeroValue302
  t139 := Tryz.underlying303
  a139 := Tryz.isAgg303
  z139 := Tryz.sizeOf303
  v139 := Tryz.zeroValue303
  t164 := Tryz.underlying326
  a164 := Tryz.isAgg326
  z164 := Tryz.sizeOf326
  v164 := Tryz.zeroValue326
  g3 := by kernel_rfl
  g4 := by kernel_rfl }
theorem Tryz.Builder_Extra_230 : Builder.Extra Tryz.prog Tryz.lays230_ren := {
  sizeBuilder := by kernel_rfl
  liesBuilder := by kernel_rfl
  t5 := Tryz.underlying5
  a5 := Tryz.isAgg5
  z5 := Tryz.sizeOf5
  v5 := Tryz.zeroValue5
  infoByte := by kernel_rfl
  cellsByte := by kernel_rfl
  sizeByte := by kernel_rfl
  neB5 := by decide }
open Go.RowKit Go.Lib in
theorem Tryz.strings_Map_runes (g : Nat) (lb : Array Value) (eg : ∀ args w, (callFunc g args).run Tryz.prog w = .ok (.enter g args) w) (f : Int → Int) (s : ByteArray) (w : World) (hs : s.size < 35184372088832) (hf : MapAtRunes Tryz.prog g lb f w) (hnn : ∀ x : Nat, x ≤ 1114111 → 0 ≤ f x ∧ f x ≤ 2147483647) (hT : Lib.Utf8Tabs 0 1 w) :
    Calls Tryz.prog 148 #[.func (.func g) #[] lb, .string s] w fun e w' => e = .returned (.string ⟨(Lib.mapD f s.data.toList).toArray⟩) ∧ Below w.heap.size w w' := Any.strings_Map_runes Tryz.lays230 Tryz.Builder_Extra_230 g lb eg f s w hs hf hnn hT
open Go.RowKit Go.Lib in
theorem Tryz.strings_ToUpper_beyond (s : ByteArray) (w : World) (hs : s.size < 35184372088832) (hhigh : ∃ (j : Nat) (b : UInt8), s.data.toList[j]? = some b ∧ 128 ≤ b.toNat) (hV : CaseVar 5 caseA w) (hT : Lib.Utf8Tabs 0 1 w) :
    Calls Tryz.prog 216 #[.string s] w fun e w' => e = .returned (.string ⟨(Lib.toUpperD s.data.toList).toArray⟩) ∧ Below w.heap.size w w' := Any.strings_ToUpper_beyond Tryz.lays158 Tryz.Builder_Extra_158 s w hs hhigh hV hT
open Go.RowKit Go.Lib in
/-- **strings.ToUpper AT EVERY STRING, VALID UTF-8 OR NOT.** (LAID: no walk: one application.) -/
theorem Tryz.strings_ToUpper_any (s : ByteArray) (w : World) (hs : s.size < 35184372088832) (hV : CaseVar 5 caseA w) (hT : Lib.Utf8Tabs 0 1 w) :
    Calls Tryz.prog 216 #[.string s] w fun e w' => e = .returned (.string ⟨(Lib.toUpperD s.data.toList).toArray⟩) ∧ Below w.heap.size w w' := Any.strings_ToUpper_any Tryz.lays158 Tryz.Builder_Extra_158 s w hs hV hT
open Go.RowKit Go.Lib in
/-- **strings.Map(mapping, s) AT EVERY STRING, AT WHATEVER FUNCTION VALUE: IT MAY DROP RUNES (a negative result); IT MAY GROW THE HEAP.** (LAID: no walk: one application.) -/
theorem Tryz.strings_Map_grows (g : Nat) (lb : Array Value) (eg : ∀ args w, (callFunc g args).run Tryz.prog w = .ok (.enter g args) w) (f : Int → Int) (s : ByteArray) (w : World) (hs : s.size < 35184372088832) (hf : MapGrows Tryz.prog g lb f w) (hnn : ∀ x : Nat, x ≤ 1114111 → -2147483648 ≤ f x ∧ f x ≤ 2147483647) (hT : Lib.Utf8Tabs 0 1 w) :
    Calls Tryz.prog 148 #[.func (.func g) #[] lb, .string s] w fun e w' => e = .returned (.string ⟨(Lib.mapD f s.data.toList).toArray⟩) ∧ Below w.heap.size w w' := Any.strings_Map_grows Tryz.lays230 Tryz.Builder_Extra_230 g lb eg f s w hs hf hnn hT
def Tryz.lays109_ren : Go.Shelf.Ren := ⟨fun | 109 => 136 | n => n, fun | 31 => 44 | 9 => 9 | 3 => 3 | 0 => 0 | 4 => 4 | n => n, fun | n => n⟩
theorem Tryz.lays109 : Go.Proofs.Lays.n109 Tryz.prog Tryz.lays109_ren := {
  mixed := by kernel_rfl
  f109 := Tryz.func136.trans (congrArg some (by kernel_rfl))
  t0 := Tryz.underlying0
  a0 := Tryz.isAgg0
  z0 := Tryz.sizeOf0
  v0 := Tryz.zeroValue0
  t3 := Tryz.underlying3
  a3 := Tryz.isAgg3
  z3 := Tryz.sizeOf3
  v3 := Tryz.zeroValue3
  t4 := Tryz.underlying4
  a4 := Tryz.isAgg4
  z4 := Tryz.sizeOf4
  v4 := Tryz.zeroValue4
  t9 := Tryz.underlying9
  a9 := Tryz.isAgg9
  z9 := Tryz.sizeOf9
  v9 := Tryz.zeroValue9
  t31 := Tryz.underlying44
  a31 := Tryz.isAgg44
  z31 := Tryz.sizeOf44
  v31 := Tryz.zeroValue44 }
open Go.Lib in
/-- slices.Index at []string: "Index returns the index of the first occurrence of v in s, or -1 if not present.": IT RETURNS 'Lib.idxOfS (the elements) v'; the world is as it was. 'zs': what the cells behind the slice's address hold (its spare capacity too, if you have it); 'zs.take n': its elements. (LAID: no walk: one application.) -/
theorem Tryz.slices_Index_string (b off n c : Nat) (zs : List ByteArray) (x : ByteArray) (w : World) (hz : n ≤ zs.length) (hbig : n ≤ 9223372036854775807) (hc : ∀ j, j < zs.length → w.cell? ⟨b, off + j, none⟩ = some (.string (zs.getD j ByteArray.empty))) :
    Calls Tryz.prog 136 #[.slice (some ⟨b, off, none⟩) n c, .string x] w fun e w' => e = .returned (.int .i64 (Lib.idxOfS (zs.take n) x)) ∧ w' = w := Any.slices_Index_string Tryz.lays109 b off n c zs x w hz hbig hc
open Go.Lib in
/-- The same at a slice of length 0, a nil one too: no cell is known, none is asked for. (LAID: no walk: one application.) -/
theorem Tryz.slices_Index_string_empty (a : Option Addr) (c : Nat) (x : ByteArray) (w : World) :
    Calls Tryz.prog 136 #[.slice a 0 c, .string x] w fun e w' => e = .returned (.int .i64 (Lib.idxOfS [] x)) ∧ w' = w := Any.slices_Index_string_empty Tryz.lays109 a c x w
def Tryz.lays110_ren : Go.Shelf.Ren := ⟨fun | 110 => 93 | 109 => 136 | n => n, fun | 31 => 44 | 9 => 9 | 4 => 4 | 3 => 3 | 0 => 0 | n => n, fun | n => n⟩
theorem Tryz.lays110 : Go.Proofs.Lays.n110 Tryz.prog Tryz.lays110_ren := {
  mixed := by kernel_rfl
  f109 := Tryz.func136.trans (congrArg some (by kernel_rfl))
  f110 := Tryz.func93.trans (congrArg some (by kernel_rfl))
  t0 := Tryz.underlying0
  a0 := Tryz.isAgg0
  z0 := Tryz.sizeOf0
  v0 := Tryz.zeroValue0
  t3 := Tryz.underlying3
  a3 := Tryz.isAgg3
  z3 := Tryz.sizeOf3
  v3 := Tryz.zeroValue3
  t4 := Tryz.underlying4
  a4 := Tryz.isAgg4
  z4 := Tryz.sizeOf4
  v4 := Tryz.zeroValue4
  t9 := Tryz.underlying9
  a9 := Tryz.isAgg9
  z9 := Tryz.sizeOf9
  v9 := Tryz.zeroValue9
  t31 := Tryz.underlying44
  a31 := Tryz.isAgg44
  z31 := Tryz.sizeOf44
  v31 := Tryz.zeroValue44 }
open Go.Lib in
/-- slices.Contains at []string: "Contains reports whether v is present in s.": IT RETURNS 'Lib.containsS (the elements) v', which is true just where v is among them ('Lib.containsS_iff'); the world is as it was. ITS CALLEE slices.Index IS MET BY ITS OWN CONTRACT OFF THE SHELF (lay that first): no loop is walked here. (LAID: no walk: one application.) -/
theorem Tryz.slices_Contains_string (b off n c : Nat) (zs : List ByteArray) (x : ByteArray) (w : World) (hz : n ≤ zs.length) (hbig : n ≤ 9223372036854775807) (hc : ∀ j, j < zs.length → w.cell? ⟨b, off + j, none⟩ = some (.string (zs.getD j ByteArray.empty))) :
    Calls Tryz.prog 93 #[.slice (some ⟨b, off, none⟩) n c, .string x] w fun e w' => e = .returned (.bool (Lib.containsS (zs.take n) x)) ∧ w' = w := Any.slices_Contains_string Tryz.lays110 b off n c zs x w hz hbig hc
open Go.Lib in
/-- The same at a slice of length 0, a nil one too. (LAID: no walk: one application.) -/
theorem Tryz.slices_Contains_string_empty (a : Option Addr) (c : Nat) (x : ByteArray) (w : World) :
    Calls Tryz.prog 93 #[.slice a 0 c, .string x] w fun e w' => e = .returned (.bool false) ∧ w' = w := Any.slices_Contains_string_empty Tryz.lays110 a c x w
def Tryz.laysNm237_ren : Go.Shelf.Ren := ⟨fun | 37 => 219 | n => n, fun | 3 => 3 | 4 => 4 | n => n, fun | n => n⟩
theorem Tryz.laysNm237 : Go.Proofs.Lays2.n37 Tryz.prog Tryz.laysNm237_ren := {
  mixed := by kernel_rfl
  f37 := Tryz.func219.trans (congrArg some (by kernel_rfl))
  t3 := Tryz.underlying3
  a3 := Tryz.isAgg3
  z3 := Tryz.sizeOf3
  v3 := Tryz.zeroValue3
  t4 := Tryz.underlying4
  a4 := Tryz.isAgg4
  z4 := Tryz.sizeOf4
  v4 := Tryz.zeroValue4 }
open Go.RowKit Go.Lib in
/-- cmp.isNaN[int]: 'x != x': false. (LAID: no walk: one application.) -/
theorem Tryz.cmp_isNaN_int2 (x : Int) (w : World) :
    Calls Tryz.prog 219 #[.int .i64 x] w fun e w' => e = .returned (.bool false) ∧ w' = w := Any.cmp_isNaN_int2 Tryz.laysNm237 x w
def Tryz.laysValid_ren : Go.Shelf.Ren := ⟨fun | 196 => 152 | 259 => 195 | n => n, fun | 9 => 9 | 4 => 4 | 3 => 3 | 5 => 5 | 12 => 12 | 119 => 300 | 0 => 0 | 46 => 284 | 139 => 303 | 138 => 302 | 53 => 108 | n => n, fun | 3 => 0 | 4 => 1 | n => n⟩
theorem Tryz.laysValid : Go.Proofs.Lays.n196 Tryz.prog Tryz.laysValid_ren := {
  mixed := by kernel_rfl
  f196 := Tryz.func152.trans (congrArg some (by kernel_rfl))
  f259 := Tryz.func195.trans (congrArg some (by kernel_rfl))
  t0 := Tryz.underlying0
  a0 := Tryz.isAgg0
  z0 := Tryz.sizeOf0
  v0 := Tryz.zeroValue0
  t3 := Tryz.underlying3
  a3 := Tryz.isAgg3
  z3 := Tryz.sizeOf3
  v3 := Tryz.zeroValue3
  t4 := Tryz.underlying4
  a4 := Tryz.isAgg4
  z4 := Tryz.sizeOf4
  v4 := Tryz.zeroValue4
  t5 := Tryz.underlying5
  a5 := Tryz.isAgg5
  z5 := Tryz.sizeOf5
  v5 := Tryz.zeroValue5
  t9 := Tryz.underlying9
  a9 := Tryz.isAgg9
  z9 := Tryz.sizeOf9
  v9 := Tryz.zeroValue9
  t12 := Tryz.underlying12
  a12 := Tryz.isAgg12
  z12 := Tryz.sizeOf12
  v12 := Tryz.zeroValue12
  t46 := Tryz.underlying284
  a46 := Tryz.isAgg284
  z46 := Tryz.sizeOf284
  v46 := Tryz.zeroValue284
  t53 := Tryz.underlying108
  a53 := Tryz.isAgg108
  z53 := Tryz.sizeOf108
  v53 := Tryz.zeroValue108
  t119 := Tryz.underlying300
  a119 := Tryz.isAgg300
  z119 := Tryz.sizeOf300
  t138 := Tryz.underlying302
  a138 := Tryz.isAgg302
  z138 := Tryz.sizeOf302
  v138 := Tryz.zeroValue302
  t139 := Tryz.underlying303
  a139 := Tryz.isAgg303
  z139 := Tryz.sizeOf303
  v139 := Tryz.zeroValue303
  g3 := by kernel_rfl
  g4 := by kernel_rfl }
end Go.Proofs
