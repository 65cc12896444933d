/-
  The shelf's contracts at this dump, laid by the kit's tool, closer set.
-/
import Derived.Shelf.Unicode.ValidAny
import Derived.Shelf.Strings.Builder1
import Derived.Shelf.Strings.Builder2
import Derived.Shelf.Strings.OnBuilder
import Derived.Shelf.Small.Utf8
import Derived.Shelf.Small.Strs
import Derived.Shelf.Strings.BuilderF
import Derived.Shelf.Strings.BuilderK
import Derived.Shelf.Strings.BuilderRune
import Derived.Shelf.Utf8.RuneCount
import Derived.Shelf.Strings.Builder2Cap
import Derived.Shelf.Strconv.Itoa0
import Derived.Shelf.Strconv.Itoa1
import Derived.Shelf.LaysM
import Derived.Shelf.Strconv.Itoa2
import Derived.Shelf.Strconv.Itoa3
import Derived.Shelf.Strconv.Itoa4
import Derived.Shelf.Strings.Search1
import Derived.Shelf.Strings.Search2
import Derived.Shelf.Strings.Search3
import Derived.Shelf.Strings.Count
import Derived.Shelf.Strings.Shaped
import Derived.Shelf.Strings.Split
import Derived.Shelf.Strings.Replace
import Derived.Shelf.Strings.SplitShaped
import Derived.Shelf.Unicode.Latin
import Derived.Shelf.Strings.RuneCount
import Derived.Shelf.Unicode.DecodeSlow
import Derived.Shelf.Unicode.DecodeAny
import Derived.Shelf.Unicode.CaseLookup
import Derived.Shelf.Unicode.CaseConvert
import Derived.Shelf.Unicode.CaseTo
import Derived.Shelf.Unicode.CaseLaid
import Derived.Shelf.Strings.MapAny
import Derived.Shelf.Strings.BuilderCap
import Derived.Shelf.Strings.MapGrows
import Derived.Test.YtkolcimllghnaaaGreatDoorProg
namespace Go.Proofs
open Go.Shelf Tryz
def Tryz.lays169_ren : Go.Shelf.Ren := ⟨fun | 169 => 144 | n => n, fun | 70 => 248 | 9 => 9 | 0 => 0 | 72 => 250 | 37 => 176 | 127 => 273 | 3 => 3 | 5 => 5 | n => n, fun | n => n⟩
theorem Tryz.lays169 : Go.Proofs.Lays.n169 Tryz.prog Tryz.lays169_ren := {
 mixed:=by kernel_rfl
 f169:=func144.trans (congrArg some (by kernel_rfl))
 t0:=underlying0
 a0:=isAgg0
 z0:=sizeOf0
 v0:=zeroValue0
 t3:=underlying3
 a3:=isAgg3
 z3:=sizeOf3
 v3:=zeroValue3
 t9:=underlying9
 a9:=isAgg9
 z9:=sizeOf9
 v9:=zeroValue9
 t37:=underlying176
 a37:=isAgg176
 z37:=sizeOf176
 v37:=zeroValue176
 t70:=underlying248
 a70:=isAgg248
 z70:=sizeOf248
 v70:=zeroValue248
 t72:=underlying250
 a72:=isAgg250
 z72:=sizeOf250
 v72:=zeroValue250
 t127:=underlying273
 a127:=isAgg273
 z127:=sizeOf273
 v127:=zeroValue273 }
theorem Tryz.Builder_Extra_169 : Builder.Extra Tryz.prog Tryz.lays169_ren := {
 sizeBuilder:=by kernel_rfl
 liesBuilder:=by kernel_rfl
 t5:=underlying5
 a5:=isAgg5
 z5:=sizeOf5
 v5:=zeroValue5
 infoByte:=by kernel_rfl
 cellsByte:=by kernel_rfl
 sizeByte:=by kernel_rfl
 neB5:=by decide }
open Go.RowKit in
open Go.RowKit in
open Go.RowKit in
open Go.RowKit in
open Go.RowKit in
def Tryz.lays158_ren : Go.Shelf.Ren := ⟨fun | 158 => 169 | 165 => 141 | 166 => 142 | 167 => 143 | 169 => 144 | 230 => 112 | 203 => 179 | 240 => 162 | 241 => 163 | 197 => 107 | 118 => 149 | 168 => 150 | 270 => 151 | 262 => 164 | 276 => 174 | 277 => 175 | 260 => 148 | 242 => 165 | 313 => 176 | 278 => 177 | 274 => 189 | 275 => 190 | n => n, fun | 9 => 9 | 4 => 4 | 3 => 3 | 5 => 5 | 72 => 250 | 0 => 0 | 76 => 254 | 75 => 253 | 107 => 222 | 70 => 248 | 20 => 20 | 37 => 176 | 127 => 273 | 21 => 21 | 105 => 217 | 164 => 281 | 162 => 286 | 203 => 284 | 119 => 263 | 46 => 267 | 139 => 266 | 138 => 265 | 51 => 287 | 160 => 296 | 208 => 309 | 206 => 307 | 80 => 124 | n => n, fun | 13 => 4 | 3 => 0 | 4 => 1 | n => n⟩
theorem Tryz.lays158 : Go.Proofs.Lays.n158 Tryz.prog Tryz.lays158_ren := {
 mixed:=by kernel_rfl
 f118:=func149.trans (congrArg some (by kernel_rfl))
 f158:=func169.trans (congrArg some (by kernel_rfl))
 f165:=func141.trans (congrArg some (by kernel_rfl))
 f166:=func142.trans (congrArg some (by kernel_rfl))
 f167:=func143.trans (congrArg some (by kernel_rfl))
 f168:=func150.trans (congrArg some (by kernel_rfl))
 f169:=func144.trans (congrArg some (by kernel_rfl))
 f197:=func107.trans (congrArg some (by kernel_rfl))
 f203:=func179.trans (congrArg some (by kernel_rfl))
 f230:=func112.trans (congrArg some (by kernel_rfl))
 f240:=func162.trans (congrArg some (by kernel_rfl))
 f241:=func163.trans (congrArg some (by kernel_rfl))
 f242:=func165.trans (congrArg some (by kernel_rfl))
 f260:=func148.trans (congrArg some (by kernel_rfl))
 f262:=func164.trans (congrArg some (by kernel_rfl))
 f270:=func151.trans (congrArg some (by kernel_rfl))
 f274:=func189.trans (congrArg some (by kernel_rfl))
 f275:=func190.trans (congrArg some (by kernel_rfl))
 f276:=func174.trans (congrArg some (by kernel_rfl))
 f277:=func175.trans (congrArg some (by kernel_rfl))
 f278:=func177.trans (congrArg some (by kernel_rfl))
 f313:=func176.trans (congrArg some (by kernel_rfl))
 t0:=underlying0
 a0:=isAgg0
 z0:=sizeOf0
 v0:=zeroValue0
 t3:=underlying3
 a3:=isAgg3
 z3:=sizeOf3
 v3:=zeroValue3
 t4:=underlying4
 a4:=isAgg4
 z4:=sizeOf4
 v4:=zeroValue4
 t5:=underlying5
 a5:=isAgg5
 z5:=sizeOf5
 v5:=zeroValue5
 t9:=underlying9
 a9:=isAgg9
 z9:=sizeOf9
 v9:=zeroValue9
 t20:=underlying20
 a20:=isAgg20
 z20:=sizeOf20
 v20:=zeroValue20
 t21:=underlying21
 a21:=isAgg21
 z21:=sizeOf21
 v21:=zeroValue21
 t37:=underlying176
 a37:=isAgg176
 z37:=sizeOf176
 v37:=zeroValue176
 t46:=underlying267
 a46:=isAgg267
 z46:=sizeOf267
 v46:=zeroValue267
 t51:=underlying287
 a51:=isAgg287
 z51:=sizeOf287
 v51:=zeroValue287
 t70:=underlying248
 a70:=isAgg248
 z70:=sizeOf248
 v70:=zeroValue248
 t72:=underlying250
 a72:=isAgg250
 z72:=sizeOf250
 v72:=zeroValue250
 t75:=underlying253
 a75:=isAgg253
 z75:=sizeOf253
 v75:=zeroValue253
 t76:=underlying254
 a76:=isAgg254
 z76:=sizeOf254
 v76:=zeroValue254
 t105:=underlying217
 a105:=isAgg217
 z105:=sizeOf217
 v105:=zeroValue217
 t107:=underlying222
 a107:=isAgg222
 z107:=sizeOf222
 v107:=zeroValue222
 t119:=underlying263
 a119:=isAgg263
 z119:=sizeOf263
 t127:=underlying273
 a127:=isAgg273
 z127:=sizeOf273
 v127:=zeroValue273
 t138:=underlying265
 a138:=isAgg265
 z138:=sizeOf265
 v138:=zeroValue265
 t139:=underlying266
 a139:=isAgg266
 z139:=sizeOf266
 v139:=zeroValue266
 t160:=underlying296
 a160:=isAgg296
 z160:=sizeOf296
 v160:=zeroValue296
 t162:=underlying286
 a162:=isAgg286
 z162:=sizeOf286
 v162:=zeroValue286
 t164:=underlying281
 a164:=isAgg281
 z164:=sizeOf281
 v164:=zeroValue281
 t203:=underlying284
 a203:=isAgg284
 z203:=sizeOf284
 v203:=zeroValue284
 t206:=underlying307
 a206:=isAgg307
 z206:=sizeOf307
 v206:=zeroValue307
 t208:=underlying309
 a208:=isAgg309
 z208:=sizeOf309
 v208:=zeroValue309
 g3:=by kernel_rfl
 g4:=by kernel_rfl
 g13:=by kernel_rfl }
theorem Tryz.Builder_Extra_158 : Builder.Extra Tryz.prog Tryz.lays158_ren := {
 sizeBuilder:=by kernel_rfl
 liesBuilder:=by kernel_rfl
 t5:=underlying5
 a5:=isAgg5
 z5:=sizeOf5
 v5:=zeroValue5
 infoByte:=by kernel_rfl
 cellsByte:=by kernel_rfl
 sizeByte:=by kernel_rfl
 neB5:=by decide }
open Go.RowKit in
/-- strings.ToUpper: "ToUpper returns s with all Unicode letters mapped to their upper case.": ON ASCII TEXT OF AT MOST 2^47 BYTES. Below the heap's end the world is as it was: where a letter turns, the call makes a builder and its buffer. (LAID: no walk: one application.) -/
theorem Tryz.strings_ToUpper_ascii (s : ByteArray) (w : World) (hs : s.size ≤ 140737488355328) (hascii : ∀ (j : Nat) (b : UInt8), s.data.toList[j]? = some b → b.toNat < 128) :
    Calls Tryz.prog 169 #[.string s] w fun e w' => e = .returned (.string ⟨(Lib.toUpperA s.data.toList).toArray⟩) ∧ Below w.heap.size w w' := Any.strings_ToUpper_ascii Tryz.lays158 Tryz.Builder_Extra_158 s w hs hascii
def Tryz.lays159_ren : Go.Shelf.Ren := ⟨fun | 159 => 99 | 165 => 141 | 166 => 142 | 167 => 143 | 169 => 144 | 230 => 112 | 204 => 145 | 240 => 162 | 241 => 163 | 197 => 107 | 118 => 149 | 168 => 150 | 270 => 151 | 262 => 164 | 276 => 174 | 277 => 175 | 260 => 148 | 242 => 165 | 313 => 176 | 278 => 177 | 274 => 189 | 275 => 190 | n => n, fun | 9 => 9 | 4 => 4 | 3 => 3 | 5 => 5 | 72 => 250 | 0 => 0 | 76 => 254 | 75 => 253 | 107 => 222 | 70 => 248 | 20 => 20 | 37 => 176 | 127 => 273 | 21 => 21 | 105 => 217 | 164 => 281 | 162 => 286 | 203 => 284 | 119 => 263 | 46 => 267 | 139 => 266 | 138 => 265 | 51 => 287 | 160 => 296 | 208 => 309 | 206 => 307 | 80 => 124 | n => n, fun | 13 => 4 | 3 => 0 | 4 => 1 | n => n⟩
theorem Tryz.lays159 : Go.Proofs.Lays.n159 Tryz.prog Tryz.lays159_ren := {
 mixed:=by kernel_rfl
 f118:=func149.trans (congrArg some (by kernel_rfl))
 f159:=func99.trans (congrArg some (by kernel_rfl))
 f165:=func141.trans (congrArg some (by kernel_rfl))
 f166:=func142.trans (congrArg some (by kernel_rfl))
 f167:=func143.trans (congrArg some (by kernel_rfl))
 f168:=func150.trans (congrArg some (by kernel_rfl))
 f169:=func144.trans (congrArg some (by kernel_rfl))
 f197:=func107.trans (congrArg some (by kernel_rfl))
 f204:=func145.trans (congrArg some (by kernel_rfl))
 f230:=func112.trans (congrArg some (by kernel_rfl))
 f240:=func162.trans (congrArg some (by kernel_rfl))
 f241:=func163.trans (congrArg some (by kernel_rfl))
 f242:=func165.trans (congrArg some (by kernel_rfl))
 f260:=func148.trans (congrArg some (by kernel_rfl))
 f262:=func164.trans (congrArg some (by kernel_rfl))
 f270:=func151.trans (congrArg some (by kernel_rfl))
 f274:=func189.trans (congrArg some (by kernel_rfl))
 f275:=func190.trans (congrArg some (by kernel_rfl))
 f276:=func174.trans (congrArg some (by kernel_rfl))
 f277:=func175.trans (congrArg some (by kernel_rfl))
 f278:=func177.trans (congrArg some (by kernel_rfl))
 f313:=func176.trans (congrArg some (by kernel_rfl))
 t0:=underlying0
 a0:=isAgg0
 z0:=sizeOf0
 v0:=zeroValue0
 t3:=underlying3
 a3:=isAgg3
 z3:=sizeOf3
 v3:=zeroValue3
 t4:=underlying4
 a4:=isAgg4
 z4:=sizeOf4
 v4:=zeroValue4
 t5:=underlying5
 a5:=isAgg5
 z5:=sizeOf5
 v5:=zeroValue5
 t9:=underlying9
 a9:=isAgg9
 z9:=sizeOf9
 v9:=zeroValue9
 t20:=underlying20
 a20:=isAgg20
 z20:=sizeOf20
 v20:=zeroValue20
 t21:=underlying21
 a21:=isAgg21
 z21:=sizeOf21
 v21:=zeroValue21
 t37:=underlying176
 a37:=isAgg176
 z37:=sizeOf176
 v37:=zeroValue176
 t46:=underlying267
 a46:=isAgg267
 z46:=sizeOf267
 v46:=zeroValue267
 t51:=underlying287
 a51:=isAgg287
 z51:=sizeOf287
 v51:=zeroValue287
 t70:=underlying248
 a70:=isAgg248
 z70:=sizeOf248
 v70:=zeroValue248
 t72:=underlying250
 a72:=isAgg250
 z72:=sizeOf250
 v72:=zeroValue250
 t75:=underlying253
 a75:=isAgg253
 z75:=sizeOf253
 v75:=zeroValue253
 t76:=underlying254
 a76:=isAgg254
 z76:=sizeOf254
 v76:=zeroValue254
 t105:=underlying217
 a105:=isAgg217
 z105:=sizeOf217
 v105:=zeroValue217
 t107:=underlying222
 a107:=isAgg222
 z107:=sizeOf222
 v107:=zeroValue222
 t119:=underlying263
 a119:=isAgg263
 z119:=sizeOf263
 t127:=underlying273
 a127:=isAgg273
 z127:=sizeOf273
 v127:=zeroValue273
 t138:=underlying265
 a138:=isAgg265
 z138:=sizeOf265
 v138:=zeroValue265
 t139:=underlying266
 a139:=isAgg266
 z139:=sizeOf266
 v139:=zeroValue266
 t160:=underlying296
 a160:=isAgg296
 z160:=sizeOf296
 v160:=zeroValue296
 t162:=underlying286
 a162:=isAgg286
 z162:=sizeOf286
 v162:=zeroValue286
 t164:=underlying281
 a164:=isAgg281
 z164:=sizeOf281
 v164:=zeroValue281
 t203:=underlying284
 a203:=isAgg284
 z203:=sizeOf284
 v203:=zeroValue284
 t206:=underlying307
 a206:=isAgg307
 z206:=sizeOf307
 v206:=zeroValue307
 t208:=underlying309
 a208:=isAgg309
 z208:=sizeOf309
 v208:=zeroValue309
 g3:=by kernel_rfl
 g4:=by kernel_rfl
 g13:=by kernel_rfl }
theorem Tryz.Builder_Extra_159 : Builder.Extra Tryz.prog Tryz.lays159_ren := {
 sizeBuilder:=by kernel_rfl
 liesBuilder:=by kernel_rfl
 t5:=underlying5
 a5:=isAgg5
 z5:=sizeOf5
 v5:=zeroValue5
 infoByte:=by kernel_rfl
 cellsByte:=by kernel_rfl
 sizeByte:=by kernel_rfl
 neB5:=by decide }
open Go.RowKit in
/-- strings.ToLower: "ToLower returns s with all Unicode letters mapped to their lower case.": ON ASCII TEXT OF AT MOST 2^47 BYTES. Below the heap's end the world is as it was: where a letter turns, the call makes a builder and its buffer. (LAID: no walk: one application.) -/
theorem Tryz.strings_ToLower_ascii (s : ByteArray) (w : World) (hs : s.size ≤ 140737488355328) (hascii : ∀ (j : Nat) (b : UInt8), s.data.toList[j]? = some b → b.toNat < 128) :
    Calls Tryz.prog 99 #[.string s] w fun e w' => e = .returned (.string ⟨(Lib.toLowerA s.data.toList).toArray⟩) ∧ Below w.heap.size w w' := Any.strings_ToLower_ascii Tryz.lays159 Tryz.Builder_Extra_159 s w hs hascii
def Tryz.lays137_ren : Go.Shelf.Ren := ⟨fun | 137 => 62 | 217 => 106 | 266 => 147 | n => n, fun | 9 => 9 | 5 => 5 | 3 => 3 | n => n, fun | n => n⟩
theorem Tryz.lays137 : Go.Proofs.Lays.n137 Tryz.prog Tryz.lays137_ren := {
 mixed:=by kernel_rfl
 f137:=func62.trans (congrArg some (by kernel_rfl))
 f217:=func106.trans (congrArg some (by kernel_rfl))
 f266:=func147.trans (congrArg some (by kernel_rfl))
 t3:=underlying3
 a3:=isAgg3
 z3:=sizeOf3
 v3:=zeroValue3
 t5:=underlying5
 a5:=isAgg5
 z5:=sizeOf5
 v5:=zeroValue5
 t9:=underlying9
 a9:=isAgg9
 z9:=sizeOf9
 v9:=zeroValue9 }
open Go.RowKit in
/-- strings.IndexByte: "IndexByte returns the index of the first instance of c in s, or -1 if c is not present in s.": IT RETURNS 'Lib.indexByte s c'; the world is as it was. (LAID: no walk: one application.) -/
theorem Tryz.strings_IndexByte (s : ByteArray) (c : Int) (w : World) :
    Calls Tryz.prog 62 #[.string s, .int .u8 c] w fun e w' => e = .returned (.int .i64 (Lib.indexByte s.data.toList c.toNat.toUInt8)) ∧ w' = w := Any.strings_IndexByte Tryz.lays137 s c w
open Go.RowKit in
open Go.RowKit in
open Go.RowKit in
open Go.RowKit in
open Go.RowKit in
open Go.RowKit in
/-- (*strings.Builder).String: "String returns the accumulated string.": WHATEVER THE BUILDER HOLDS; THE FORM '_k': OVER 'Lib.IsBuilderF' (a builder that 'String()' may have read), AND WITH THE FRAME THAT REACHES ABOVE THE BUILDER: 'Lib.OthersKept': every block that is not b and is no row of uint8's stands as it stood: the iterator of a range among them. (LAID: no walk: one application.) -/
theorem Tryz.Builder_String_any_k (B b : Nat) (l : List UInt8) (w : World) (h : Lib.IsBuilderF 250 5 B b (Lib.byteCells l) w) (hBw : B ≤ w.heap.size) :
    Calls Tryz.prog 144 #[.pointer (some ⟨b, 0, none⟩)] w fun e w' => e = .returned (.string ⟨l.toArray⟩) ∧ (Lib.IsBuilderF 250 5 B b (Lib.byteCells l) w' ∧ Below B w w' ∧ Lib.OthersKept 5 (some b) w w') := Any.Builder_String_any_k Tryz.lays169 Tryz.Builder_Extra_169 B b l w h hBw
open Go.RowKit in
open Go.RowKit in
open Go.RowKit in
open Go.Lib in
open Go.Lib in
open Go.Lib in
open Go.Lib in
open Go.RowKit Go.Sort Go.Lib in
open Go.RowKit Go.Sort Go.Lib in
open Go.RowKit Go.Sort Go.Lib in
def Tryz.laysM173_ren : Go.Shelf.Ren := ⟨fun | 173 => 160 | 246 => 171 | 283 => 182 | 284 => 183 | 285 => 184 | 286 => 185 | 129 => 195 | 317 => 194 | 318 => 196 | 319 => 197 | 320 => 198 | 337 => 203 | 338 => 204 | n => n, fun | 2 => 2 | 3 => 3 | 9 => 9 | 4 => 4 | 171 => 291 | 0 => 0 | 53 => 189 | 37 => 176 | 5 => 5 | 173 => 294 | 212 => 302 | 51 => 287 | 20 => 20 | 213 => 303 | 46 => 267 | 232 => 313 | 233 => 314 | n => n, fun | 17 => 5 | 18 => 6 | 19 => 7 | n => n⟩
theorem Tryz.laysM173 : Go.Proofs.LaysM.n173 Tryz.prog Tryz.laysM173_ren := {
 mixed:=by kernel_rfl
 f129:=func195.trans (congrArg some (by kernel_rfl))
 f173:=func160.trans (congrArg some (by kernel_rfl))
 f246:=func171.trans (congrArg some (by kernel_rfl))
 f283:=func182.trans (congrArg some (by kernel_rfl))
 f284:=func183.trans (congrArg some (by kernel_rfl))
 f285:=func184.trans (congrArg some (by kernel_rfl))
 f286:=func185.trans (congrArg some (by kernel_rfl))
 f317:=func194.trans (congrArg some (by kernel_rfl))
 f318:=func196.trans (congrArg some (by kernel_rfl))
 f319:=func197.trans (congrArg some (by kernel_rfl))
 f320:=func198.trans (congrArg some (by kernel_rfl))
 f337:=func203.trans (congrArg some (by kernel_rfl))
 f338:=func204.trans (congrArg some (by kernel_rfl))
 t0:=underlying0
 a0:=isAgg0
 z0:=sizeOf0
 v0:=zeroValue0
 t2:=underlying2
 a2:=isAgg2
 z2:=sizeOf2
 v2:=zeroValue2
 t3:=underlying3
 a3:=isAgg3
 z3:=sizeOf3
 v3:=zeroValue3
 t4:=underlying4
 a4:=isAgg4
 z4:=sizeOf4
 v4:=zeroValue4
 t5:=underlying5
 a5:=isAgg5
 z5:=sizeOf5
 v5:=zeroValue5
 t9:=underlying9
 a9:=isAgg9
 z9:=sizeOf9
 v9:=zeroValue9
 t20:=underlying20
 a20:=isAgg20
 z20:=sizeOf20
 v20:=zeroValue20
 t37:=underlying176
 a37:=isAgg176
 z37:=sizeOf176
 v37:=zeroValue176
 t46:=underlying267
 a46:=isAgg267
 z46:=sizeOf267
 v46:=zeroValue267
 t51:=underlying287
 a51:=isAgg287
 z51:=sizeOf287
 v51:=zeroValue287
 t53:=underlying189
 a53:=isAgg189
 z53:=sizeOf189
 v53:=zeroValue189
 t171:=underlying291
 a171:=isAgg291
 z171:=sizeOf291
 v171:=zeroValue291
 t173:=underlying294
 a173:=isAgg294
 z173:=sizeOf294
 v173:=zeroValue294
 t212:=underlying302
 a212:=isAgg302
 z212:=sizeOf302
 v212:=zeroValue302
 t213:=underlying303
 a213:=isAgg303
 z213:=sizeOf303
 t232:=underlying313
 a232:=isAgg313
 z232:=sizeOf313
 v232:=zeroValue313
 t233:=underlying314
 a233:=isAgg314
 z233:=sizeOf314
 v233:=zeroValue314
 g17:=by kernel_rfl
 g18:=by kernel_rfl
 g19:=by kernel_rfl
 i0:=by kernel_rfl
 i2:=by kernel_rfl
 i3:=by kernel_rfl
 i4:=by kernel_rfl
 i5:=by kernel_rfl
 i9:=by kernel_rfl
 i20:=by kernel_rfl
 i37:=by kernel_rfl
 i46:=by kernel_rfl
 i51:=by kernel_rfl
 i53:=by kernel_rfl
 i171:=by kernel_rfl
 i173:=by kernel_rfl
 i212:=by kernel_rfl
 i232:=by kernel_rfl
 i233:=by kernel_rfl
 m17:=by kernel_rfl
 m18:=by kernel_rfl
 m19:=by kernel_rfl }
open Go.RowKit Go.Sort Go.Lib in
/-- strconv.FormatInt: "FormatInt returns the string representation of i in the given base": AT BASE 10: i's decimal numeral, for every int64. (LAID: no walk: one application.) -/
theorem Tryz.strconv_FormatInt_10 (n : Int) (h0 : -9223372036854775808 ≤ n) (h1 : n ≤ 9223372036854775807) (w : World) (htab : Lib.TabIs Tryz.prog w "internal/strconv.uint64pow10" .u64 Lib.pow10Tab) :
    Calls Tryz.prog 160 #[.int .i64 n, .int .i64 10] w fun e w' => e = .returned (.string ⟨(Lib.itoa n).toArray⟩) ∧ ∃ k os, w' = grow (w.drewN k) os := Any.strconv_FormatInt_10 Tryz.laysM173 n h0 h1 w htab
open Go.RowKit Go.Sort Go.Lib in
open Go.RowKit Go.Lib in
open Go.RowKit Go.Lib in
open Go.RowKit Go.Lib in
open Go.RowKit Go.Lib in
open Go.RowKit Go.Lib in
open Go.RowKit Go.Lib in
open Go.RowKit Go.Lib in
open Go.RowKit Go.Lib in
open Go.RowKit Go.Lib in
open Go.RowKit Go.Lib in
open Go.RowKit Go.Lib in
open Go.RowKit Go.Lib in
open Go.RowKit Go.Lib in
open Go.RowKit Go.Lib in
open Go.RowKit Go.Lib in
open Go.RowKit Go.Lib in
open Go.RowKit Go.Lib in
open Go.RowKit Go.Lib in
def Tryz.lays155_ren : Go.Shelf.Ren := ⟨fun | 155 => 139 | 154 => 161 | 138 => 172 | 165 => 141 | 143 => 173 | 166 => 142 | 197 => 107 | 169 => 144 | 195 => 186 | 218 => 187 | 240 => 162 | 241 => 163 | 219 => 188 | 260 => 148 | 276 => 174 | 277 => 175 | 217 => 106 | 225 => 199 | 224 => 200 | 267 => 201 | 266 => 147 | 314 => 205 | n => n, fun | 9 => 9 | 3 => 3 | 4 => 4 | 72 => 250 | 0 => 0 | 76 => 254 | 105 => 217 | 21 => 21 | 5 => 5 | 70 => 248 | 20 => 20 | 37 => 176 | 75 => 253 | 127 => 273 | 164 => 281 | 46 => 267 | 119 => 263 | 139 => 266 | 138 => 265 | 146 => 311 | 51 => 287 | 80 => 124 | n => n, fun | 1 => 2 | 3 => 0 | 4 => 1 | n => n⟩
theorem Tryz.lays155 : Go.Proofs.Lays.n155 Tryz.prog Tryz.lays155_ren := {
 mixed:=by kernel_rfl
 f138:=func172.trans (congrArg some (by kernel_rfl))
 f143:=func173.trans (congrArg some (by kernel_rfl))
 f154:=func161.trans (congrArg some (by kernel_rfl))
 f155:=func139.trans (congrArg some (by kernel_rfl))
 f165:=func141.trans (congrArg some (by kernel_rfl))
 f166:=func142.trans (congrArg some (by kernel_rfl))
 f169:=func144.trans (congrArg some (by kernel_rfl))
 f195:=func186.trans (congrArg some (by kernel_rfl))
 f197:=func107.trans (congrArg some (by kernel_rfl))
 f217:=func106.trans (congrArg some (by kernel_rfl))
 f218:=func187.trans (congrArg some (by kernel_rfl))
 f219:=func188.trans (congrArg some (by kernel_rfl))
 f224:=func200.trans (congrArg some (by kernel_rfl))
 f225:=func199.trans (congrArg some (by kernel_rfl))
 f240:=func162.trans (congrArg some (by kernel_rfl))
 f241:=func163.trans (congrArg some (by kernel_rfl))
 f260:=func148.trans (congrArg some (by kernel_rfl))
 f266:=func147.trans (congrArg some (by kernel_rfl))
 f267:=func201.trans (congrArg some (by kernel_rfl))
 f276:=func174.trans (congrArg some (by kernel_rfl))
 f277:=func175.trans (congrArg some (by kernel_rfl))
 f314:=func205.trans (congrArg some (by kernel_rfl))
 t0:=underlying0
 a0:=isAgg0
 z0:=sizeOf0
 v0:=zeroValue0
 t3:=underlying3
 a3:=isAgg3
 z3:=sizeOf3
 v3:=zeroValue3
 t4:=underlying4
 a4:=isAgg4
 z4:=sizeOf4
 v4:=zeroValue4
 t5:=underlying5
 a5:=isAgg5
 z5:=sizeOf5
 v5:=zeroValue5
 t9:=underlying9
 a9:=isAgg9
 z9:=sizeOf9
 v9:=zeroValue9
 t20:=underlying20
 a20:=isAgg20
 z20:=sizeOf20
 v20:=zeroValue20
 t21:=underlying21
 a21:=isAgg21
 z21:=sizeOf21
 v21:=zeroValue21
 t37:=underlying176
 a37:=isAgg176
 z37:=sizeOf176
 v37:=zeroValue176
 t46:=underlying267
 a46:=isAgg267
 z46:=sizeOf267
 v46:=zeroValue267
 t51:=underlying287
 a51:=isAgg287
 z51:=sizeOf287
 v51:=zeroValue287
 t70:=underlying248
 a70:=isAgg248
 z70:=sizeOf248
 v70:=zeroValue248
 t72:=underlying250
 a72:=isAgg250
 z72:=sizeOf250
 v72:=zeroValue250
 t75:=underlying253
 a75:=isAgg253
 z75:=sizeOf253
 v75:=zeroValue253
 t76:=underlying254
 a76:=isAgg254
 z76:=sizeOf254
 v76:=zeroValue254
 t105:=underlying217
 a105:=isAgg217
 z105:=sizeOf217
 v105:=zeroValue217
 t119:=underlying263
 a119:=isAgg263
 z119:=sizeOf263
 t127:=underlying273
 a127:=isAgg273
 z127:=sizeOf273
 v127:=zeroValue273
 t138:=underlying265
 a138:=isAgg265
 z138:=sizeOf265
 v138:=zeroValue265
 t139:=underlying266
 a139:=isAgg266
 z139:=sizeOf266
 v139:=zeroValue266
 t146:=underlying311
 a146:=isAgg311
 z146:=sizeOf311
 v146:=zeroValue311
 t164:=underlying281
 a164:=isAgg281
 z164:=sizeOf281
 v164:=zeroValue281
 g1:=by kernel_rfl
 g3:=by kernel_rfl
 g4:=by kernel_rfl }
theorem Tryz.Builder_Extra_155 : Builder.Extra Tryz.prog Tryz.lays155_ren := {
 sizeBuilder:=by kernel_rfl
 liesBuilder:=by kernel_rfl
 t5:=underlying5
 a5:=isAgg5
 z5:=sizeOf5
 v5:=zeroValue5
 infoByte:=by kernel_rfl
 cellsByte:=by kernel_rfl
 sizeByte:=by kernel_rfl
 neB5:=by decide }
open Go.RowKit Go.Lib in
/-- strings.ReplaceAll: "ReplaceAll returns a copy of the string s with all non-overlapping instances of old replaced by new.": AT AN old THAT IS NOT EMPTY: 'Lib.replaceAll s old new'. (LAID: no walk: one application.) -/
theorem Tryz.strings_ReplaceAll (s old new : ByteArray) (m : Int) (w : World) (hs : s.size < 4294967281) (hm : w.cell? ⟨2, 0, none⟩ = some (.int .i64 m)) (h1 : 1 ≤ old.size) (hlen : s.size + Lib.countB s old * new.size ≤ 140737488355328) :
    Calls Tryz.prog 139 #[.string s, .string old, .string new] w fun e w' =>
      e = .returned (.string ⟨(Lib.replaceAll s.data.toList old.data.toList new.data.toList).toArray⟩) ∧ Below w.heap.size w w' := Any.strings_ReplaceAll Tryz.lays155 Tryz.Builder_Extra_155 s old new m w hs hm h1 hlen
open Go.RowKit Go.Lib in
open Go.RowKit Go.Lib in
def Tryz.lays203_ren : Go.Shelf.Ren := ⟨fun | 203 => 179 | 262 => 164 | 313 => 176 | 274 => 189 | 275 => 190 | n => n, fun | 21 => 21 | 4 => 4 | 3 => 3 | 162 => 286 | 203 => 284 | 160 => 296 | 46 => 267 | 0 => 0 | 208 => 309 | 51 => 287 | 206 => 307 | n => n, fun | 13 => 4 | n => n⟩
theorem Tryz.lays203 : Go.Proofs.Lays.n203 Tryz.prog Tryz.lays203_ren := {
 mixed:=by kernel_rfl
 f203:=func179.trans (congrArg some (by kernel_rfl))
 f262:=func164.trans (congrArg some (by kernel_rfl))
 f274:=func189.trans (congrArg some (by kernel_rfl))
 f275:=func190.trans (congrArg some (by kernel_rfl))
 f313:=func176.trans (congrArg some (by kernel_rfl))
 t0:=underlying0
 a0:=isAgg0
 z0:=sizeOf0
 v0:=zeroValue0
 t3:=underlying3
 a3:=isAgg3
 z3:=sizeOf3
 v3:=zeroValue3
 t4:=underlying4
 a4:=isAgg4
 z4:=sizeOf4
 v4:=zeroValue4
 t21:=underlying21
 a21:=isAgg21
 z21:=sizeOf21
 v21:=zeroValue21
 t46:=underlying267
 a46:=isAgg267
 z46:=sizeOf267
 v46:=zeroValue267
 t51:=underlying287
 a51:=isAgg287
 z51:=sizeOf287
 v51:=zeroValue287
 t160:=underlying296
 a160:=isAgg296
 z160:=sizeOf296
 v160:=zeroValue296
 t162:=underlying286
 a162:=isAgg286
 z162:=sizeOf286
 v162:=zeroValue286
 t203:=underlying284
 a203:=isAgg284
 z203:=sizeOf284
 v203:=zeroValue284
 t206:=underlying307
 a206:=isAgg307
 z206:=sizeOf307
 v206:=zeroValue307
 t208:=underlying309
 a208:=isAgg309
 z208:=sizeOf309
 v208:=zeroValue309
 g13:=by kernel_rfl }
open Go.RowKit Go.Lib in
open Go.RowKit Go.Lib in
open Go.RowKit Go.Lib in
open Go.RowKit Go.Lib in
def Tryz.lays197_ren : Go.Shelf.Ren := ⟨fun | 197 => 107 | 260 => 148 | n => n, fun | 9 => 9 | 21 => 21 | 3 => 3 | 4 => 4 | 5 => 5 | 105 => 217 | 119 => 263 | 0 => 0 | 46 => 267 | 139 => 266 | 138 => 265 | n => n, fun | 3 => 0 | 4 => 1 | n => n⟩
theorem Tryz.lays197 : Go.Proofs.Lays.n197 Tryz.prog Tryz.lays197_ren := {
 mixed:=by kernel_rfl
 f197:=func107.trans (congrArg some (by kernel_rfl))
 f260:=func148.trans (congrArg some (by kernel_rfl))
 t0:=underlying0
 a0:=isAgg0
 z0:=sizeOf0
 v0:=zeroValue0
 t3:=underlying3
 a3:=isAgg3
 z3:=sizeOf3
 v3:=zeroValue3
 t4:=underlying4
 a4:=isAgg4
 z4:=sizeOf4
 v4:=zeroValue4
 t5:=underlying5
 a5:=isAgg5
 z5:=sizeOf5
 v5:=zeroValue5
 t9:=underlying9
 a9:=isAgg9
 z9:=sizeOf9
 v9:=zeroValue9
 t21:=underlying21
 a21:=isAgg21
 z21:=sizeOf21
 v21:=zeroValue21
 t46:=underlying267
 a46:=isAgg267
 z46:=sizeOf267
 v46:=zeroValue267
 t105:=underlying217
 a105:=isAgg217
 z105:=sizeOf217
 v105:=zeroValue217
 t119:=underlying263
 a119:=isAgg263
 z119:=sizeOf263
 t138:=underlying265
 a138:=isAgg265
 z138:=sizeOf265
 v138:=zeroValue265
 t139:=underlying266
 a139:=isAgg266
 z139:=sizeOf266
 v139:=zeroValue266
 g3:=by kernel_rfl
 g4:=by kernel_rfl }
open Go.RowKit Go.Lib in
/-- **unicode/utf8.DecodeRuneInString AT EVERY STRING.** (LAID: no walk: one application.) -/
theorem Tryz.utf8_DecodeRuneInString (s : ByteArray) (w : World) (hT : Lib.Utf8Tabs 0 1 w) :
    Calls Tryz.prog 107 #[.string s] w fun e w' => e = .returned (.tuple #[.int .i32 (Lib.decodeGo s).1, .int .i64 (Lib.decodeGo s).2]) ∧ Below w.heap.size w w' := Any.utf8_DecodeRuneInString Tryz.lays197 s w hT
open Go.RowKit Go.Lib in
open Go.RowKit Go.Lib in
open Go.RowKit Go.Lib in
open Go.RowKit Go.Lib in
open Go.RowKit Go.Lib in
open Go.RowKit Go.Lib in
open Go.RowKit Go.Lib in
open Go.RowKit Go.Lib in
open Go.RowKit Go.Lib in
def Tryz.lays230_ren : Go.Shelf.Ren := ⟨fun | 230 => 112 | 197 => 107 | 118 => 149 | 165 => 141 | 166 => 142 | 168 => 150 | 270 => 151 | 167 => 143 | 169 => 144 | 260 => 148 | 240 => 162 | 241 => 163 | 242 => 165 | 276 => 174 | 277 => 175 | 278 => 177 | n => n, fun | 107 => 222 | 9 => 9 | 72 => 250 | 0 => 0 | 4 => 4 | 3 => 3 | 21 => 21 | 105 => 217 | 76 => 254 | 5 => 5 | 75 => 253 | 70 => 248 | 20 => 20 | 37 => 176 | 127 => 273 | 119 => 263 | 46 => 267 | 139 => 266 | 138 => 265 | 164 => 281 | 51 => 287 | 80 => 124 | n => n, fun | 3 => 0 | 4 => 1 | n => n⟩
theorem Tryz.lays230 : Go.Proofs.Lays.n230 Tryz.prog Tryz.lays230_ren := {
 mixed:=by kernel_rfl
 f118:=func149.trans (congrArg some (by kernel_rfl))
 f165:=func141.trans (congrArg some (by kernel_rfl))
 f166:=func142.trans (congrArg some (by kernel_rfl))
 f167:=func143.trans (congrArg some (by kernel_rfl))
 f168:=func150.trans (congrArg some (by kernel_rfl))
 f169:=func144.trans (congrArg some (by kernel_rfl))
 f197:=func107.trans (congrArg some (by kernel_rfl))
 f230:=func112.trans (congrArg some (by kernel_rfl))
 f240:=func162.trans (congrArg some (by kernel_rfl))
 f241:=func163.trans (congrArg some (by kernel_rfl))
 f242:=func165.trans (congrArg some (by kernel_rfl))
 f260:=func148.trans (congrArg some (by kernel_rfl))
 f270:=func151.trans (congrArg some (by kernel_rfl))
 f276:=func174.trans (congrArg some (by kernel_rfl))
 f277:=func175.trans (congrArg some (by kernel_rfl))
 f278:=func177.trans (congrArg some (by kernel_rfl))
 t0:=underlying0
 a0:=isAgg0
 z0:=sizeOf0
 v0:=zeroValue0
 t3:=underlying3
 a3:=isAgg3
 z3:=sizeOf3
 v3:=zeroValue3
 t4:=underlying4
 a4:=isAgg4
 z4:=sizeOf4
 v4:=zeroValue4
 t5:=underlying5
 a5:=isAgg5
 z5:=sizeOf5
 v5:=zeroValue5
 t9:=underlying9
 a9:=isAgg9
 z9:=sizeOf9
 v9:=zeroValue9
 t20:=underlying20
 a20:=isAgg20
 z20:=sizeOf20
 v20:=zeroValue20
 t21:=underlying21
 a21:=isAgg21
 z21:=sizeOf21
 v21:=zeroValue21
 t37:=underlying176
 a37:=isAgg176
 z37:=sizeOf176
 v37:=zeroValue176
 t46:=underlying267
 a46:=isAgg267
 z46:=sizeOf267
 v46:=zeroValue267
 t51:=underlying287
 a51:=isAgg287
 z51:=sizeOf287
 v51:=zeroValue287
 t70:=underlying248
 a70:=isAgg248
 z70:=sizeOf248
 v70:=zeroValue248
 t72:=underlying250
 a72:=isAgg250
 z72:=sizeOf250
 v72:=zeroValue250
 t75:=underlying253
 a75:=isAgg253
 z75:=sizeOf253
 v75:=zeroValue253
 t76:=underlying254
 a76:=isAgg254
 z76:=sizeOf254
 v76:=zeroValue254
 t105:=underlying217
 a105:=isAgg217
 z105:=sizeOf217
 v105:=zeroValue217
 t107:=underlying222
 a107:=isAgg222
 z107:=sizeOf222
 v107:=zeroValue222
 t119:=underlying263
 a119:=isAgg263
 z119:=sizeOf263
 t127:=underlying273
 a127:=isAgg273
 z127:=sizeOf273
 v127:=zeroValue273
 t138:=underlying265
 a138:=isAgg265
 z138:=sizeOf265
 v138:=zeroValue265
 t139:=underlying266
 a139:=isAgg266
 z139:=sizeOf266
 v139:=zeroValue266
 t164:=underlying281
 a164:=isAgg281
 z164:=sizeOf281
 v164:=zeroValue281
 g3:=by kernel_rfl
 g4:=by kernel_rfl }
theorem Tryz.Builder_Extra_230 : Builder.Extra Tryz.prog Tryz.lays230_ren := {
 sizeBuilder:=by kernel_rfl
 liesBuilder:=by kernel_rfl
 t5:=underlying5
 a5:=isAgg5
 z5:=sizeOf5
 v5:=zeroValue5
 infoByte:=by kernel_rfl
 cellsByte:=by kernel_rfl
 sizeByte:=by kernel_rfl
 neB5:=by decide }
open Go.RowKit Go.Lib in
open Go.RowKit Go.Lib in
/-- **strings.Map(mapping, s) AT EVERY STRING, AT WHATEVER FUNCTION VALUE: IT MAY DROP RUNES (a negative result); IT MAY GROW THE HEAP.** (LAID: no walk: one application.) -/
theorem Tryz.strings_Map_grows (g : Nat) (lb : Array Value) (eg : ∀ args w, (callFunc g args).run Tryz.prog w = .ok (.enter g args) w) (f : Int → Int) (s : ByteArray) (w : World) (hs : s.size < 35184372088832) (hf : MapGrows Tryz.prog g lb f w) (hnn : ∀ x : Nat, x ≤ 1114111 → -2147483648 ≤ f x ∧ f x ≤ 2147483647) (hT : Lib.Utf8Tabs 0 1 w) :
    Calls Tryz.prog 112 #[.func (.func g) #[] lb, .string s] w fun e w' => e = .returned (.string ⟨(Lib.mapD f s.data.toList).toArray⟩) ∧ Below w.heap.size w w' := Any.strings_Map_grows Tryz.lays230 Tryz.Builder_Extra_230 g lb eg f s w hs hf hnn hT
def Tryz.laysValid_ren : Go.Shelf.Ren := ⟨fun | 196 => 116 | 259 => 154 | n => n, fun | 9 => 9 | 4 => 4 | 3 => 3 | 5 => 5 | 12 => 12 | 119 => 263 | 0 => 0 | 46 => 267 | 139 => 266 | 138 => 265 | 53 => 189 | n => n, fun | 3 => 0 | 4 => 1 | n => n⟩
theorem Tryz.laysValid : Go.Proofs.Lays.n196 Tryz.prog Tryz.laysValid_ren := {
 mixed:=by kernel_rfl
 f196:=func116.trans (congrArg some (by kernel_rfl))
 f259:=func154.trans (congrArg some (by kernel_rfl))
 t0:=underlying0
 a0:=isAgg0
 z0:=sizeOf0
 v0:=zeroValue0
 t3:=underlying3
 a3:=isAgg3
 z3:=sizeOf3
 v3:=zeroValue3
 t4:=underlying4
 a4:=isAgg4
 z4:=sizeOf4
 v4:=zeroValue4
 t5:=underlying5
 a5:=isAgg5
 z5:=sizeOf5
 v5:=zeroValue5
 t9:=underlying9
 a9:=isAgg9
 z9:=sizeOf9
 v9:=zeroValue9
 t12:=underlying12
 a12:=isAgg12
 z12:=sizeOf12
 v12:=zeroValue12
 t46:=underlying267
 a46:=isAgg267
 z46:=sizeOf267
 v46:=zeroValue267
 t53:=underlying189
 a53:=isAgg189
 z53:=sizeOf189
 v53:=zeroValue189
 t119:=underlying263
 a119:=isAgg263
 z119:=sizeOf263
 t138:=underlying265
 a138:=isAgg265
 z138:=sizeOf265
 v138:=zeroValue265
 t139:=underlying266
 a139:=isAgg266
 z139:=sizeOf266
 v139:=zeroValue266
 g3:=by kernel_rfl
 g4:=by kernel_rfl }
end Go.Proofs
