/- Parts: Shelf, P2, P3, P4, P5, P6, P7, P8. -/
import Derived.Test.YtlkkiimmangplaaGreatDoorRA1
import Derived.Shelf.Strings.Builder1
import Derived.Shelf.Strings.Builder2
import Derived.Shelf.Strings.OnBuilder
import Derived.Shelf.Strings.Trim
import Derived.Shelf.Small.Utf8
import Derived.Shelf.Small.Bits
import Derived.Shelf.Small.Strs
import Derived.Shelf.Small.Wraps
import Derived.Shelf.Strings.BuilderF
import Derived.Shelf.Strings.BuilderK
import Derived.Shelf.Utf8.RuneCount
import Derived.Shelf.Strings.Builder2Cap
import Derived.Shelf.Strconv.Itoa0
import Derived.Shelf.Strconv.Itoa1
import Derived.Shelf.LaysM
import Derived.Shelf.Strconv.Itoa2
import Derived.Shelf.Strconv.Itoa3
import Derived.Shelf.Strings.Search1
import Derived.Shelf.Strings.Search2
import Derived.Shelf.Strings.Search3
import Derived.Shelf.Strings.Count
import Derived.Shelf.Strings.Shaped
import Derived.Shelf.Strings.LastIndex
import Derived.Shelf.Strings.Prefix
import Derived.Shelf.Strings.Split
import Derived.Shelf.Strings.Replace
import Derived.Shelf.Strings.SplitShaped
import Derived.Shelf.Unicode.Decode
import Derived.Shelf.Strings.Runes
import Derived.Shelf.Strings.RuneCount
import Derived.Shelf.Strings.AsciiSet
import Derived.Shelf.Strings.Explode
import Derived.Shelf.Bits.Mul64
import Derived.Shelf.Strings.Repeat
import Derived.Shelf.Unicode.DecodeSlow
import Derived.Shelf.Unicode.DecodeAny
import Derived.Shelf.Unicode.DecodeLast
import Derived.Shelf.Strings.BuilderCap
import Derived.Shelf.Slices.Turned
import Derived.Shelf.Slices.Equal
import Derived.Ground.Names2Prog
import Derived.Shelf.Slices.Clone
import Derived.Shelf.Slices.SearchI
import Derived.Shelf.Slices.Empties2
import Derived.Ground.SlgnProg
import Derived.Shelf.SlicesE.Clone
import Derived.Ground.SlgfProg
import Derived.Shelf.SlicesE.IndexFunc
import Derived.Ground.PaProg
import Derived.Shelf.Path.Small
import Derived.Test.YtlkkiimmangplaaGreatDoorProg
/- DERIVED: THE SHELF's CONTRACTS AT THIS DUMP, IN PLAIN WORDS (tools/lay-plain.mjs out of 'TryzShelf.lean', which tools/lay-shelf.mjs wrote): THE SAME DECLARATIONS UNDER THE SAME NAMES: 'import', 'namespace', 'open', 'def', 'theorem' AND NOTHING ELSE: no command of the shelf's: FOR A HAND-IN. Each laying: the table of numbers ('.._ren') and one theorem, a field a fact of the dump's own or the kernel's comparison; each contract: ONE APPLICATION. -/
namespace Go.Proofs
open Go.Shelf
def Tryz.lays170_ren : Go.Shelf.Ren := ⟨fun | 170 => 152 | n => n, fun | 70 => 167 | 3 => 3 | 0 => 0 | 72 => 169 | 37 => 47 | 5 => 5 | n => n, fun | n => n⟩
def Tryz.lays169_ren : Go.Shelf.Ren := ⟨fun | 169 => 153 | n => n, fun | 70 => 167 | 9 => 9 | 0 => 0 | 72 => 169 | 37 => 47 | 127 => 258 | 3 => 3 | 5 => 5 | n => n, fun | n => n⟩
def Tryz.lays241_ren : Go.Shelf.Ren := ⟨fun | 241 => 240 | 277 => 285 | n => n, fun | 70 => 167 | 3 => 3 | 0 => 0 | 72 => 169 | 37 => 47 | 5 => 5 | n => n, fun | n => n⟩
def Tryz.lays165_ren : Go.Shelf.Ren := ⟨fun | 165 => 150 | 240 => 239 | 241 => 240 | 276 => 284 | 277 => 285 | n => n, fun | 70 => 167 | 3 => 3 | 0 => 0 | 4 => 4 | 9 => 9 | 20 => 20 | 72 => 169 | 37 => 47 | 164 => 291 | 5 => 5 | n => n, fun | n => n⟩
def Tryz.lays156_ren : Go.Shelf.Ren := ⟨fun | 156 => 134 | 165 => 150 | 166 => 151 | 169 => 153 | 240 => 239 | 241 => 240 | 276 => 284 | 277 => 285 | n => n, fun | 31 => 48 | 9 => 9 | 3 => 3 | 4 => 4 | 0 => 0 | 20 => 20 | 72 => 169 | 76 => 173 | 70 => 167 | 37 => 47 | 75 => 172 | 127 => 258 | 164 => 291 | 5 => 5 | 80 => 176 | n => n, fun | n => n⟩
def Tryz.lays232_ren : Go.Shelf.Ren := ⟨fun | 232 => 227 | n => n, fun | 9 => 9 | 5 => 5 | 3 => 3 | 4 => 4 | n => n, fun | n => n⟩
def Tryz.lays162_ren : Go.Shelf.Ren := ⟨fun | 162 => 142 | 232 => 227 | 227 => 228 | 234 => 229 | 236 => 230 | 228 => 279 | 271 => 280 | 151 => 281 | 120 => 316 | 197 => 302 | 152 => 317 | 260 => 328 | 137 => 335 | 119 => 336 | 224 => 326 | 225 => 325 | 217 => 324 | 266 => 339 | n => n, fun | 9 => 9 | 4 => 4 | 3 => 3 | 5 => 5 | 117 => 239 | 116 => 238 | 0 => 0 | 124 => 242 | 21 => 21 | 105 => 286 | 46 => 164 | 119 => 330 | 139 => 333 | 138 => 332 | n => n, fun | 3 => 2 | 4 => 3 | n => n⟩
theorem Tryz.lays162 : Go.Proofs.Lays.n162 Tryz.prog Tryz.lays162_ren := {
  mixed := by kernel_rfl
  f119 := Tryz.func336.trans (congrArg some (by kernel_rfl))
  f120 := Tryz.func316.trans (congrArg some (by kernel_rfl))
  f137 := Tryz.func335.trans (congrArg some (by kernel_rfl))
  f151 := Tryz.func281.trans (congrArg some (by kernel_rfl))
  f152 := Tryz.func317.trans (congrArg some (by kernel_rfl))
  f162 := Tryz.func142.trans (congrArg some (by kernel_rfl))
  f197 := Tryz.func302.trans (congrArg some (by kernel_rfl))
  f217 := Tryz.func324.trans (congrArg some (by kernel_rfl))
  f224 := Tryz.func326.trans (congrArg some (by kernel_rfl))
  f225 := Tryz.func325.trans (congrArg some (by kernel_rfl))
  f227 := Tryz.func228.trans (congrArg some (by kernel_rfl))
  f228 := Tryz.func279.trans (congrArg some (by kernel_rfl))
  f232 := Tryz.func227.trans (congrArg some (by kernel_rfl))
  f234 := Tryz.func229.trans (congrArg some (by kernel_rfl))
  f236 := Tryz.func230.trans (congrArg some (by kernel_rfl))
  f260 := Tryz.func328.trans (congrArg some (by kernel_rfl))
  f266 := Tryz.func339.trans (congrArg some (by kernel_rfl))
  f271 := Tryz.func280.trans (congrArg some (by kernel_rfl))
  t0 := Tryz.underlying0
  a0 := Tryz.isAgg0
  z0 := Tryz.sizeOf0
  v0 := Tryz.zeroValue0
  t3 := Tryz.underlying3
  a3 := Tryz.isAgg3
  z3 := Tryz.sizeOf3
  v3 := Tryz.zeroValue3
  t4 := Tryz.underlying4
  a4 := Tryz.isAgg4
  z4 := Tryz.sizeOf4
  v4 := Tryz.zeroValue4
  t5 := Tryz.underlying5
  a5 := Tryz.isAgg5
  z5 := Tryz.sizeOf5
  v5 := Tryz.zeroValue5
  t9 := Tryz.underlying9
  a9 := Tryz.isAgg9
  z9 := Tryz.sizeOf9
  v9 := Tryz.zeroValue9
  t21 := Tryz.underlying21
  a21 := Tryz.isAgg21
  z21 := Tryz.sizeOf21
  v21 := Tryz.zeroValue21
  t46 := Tryz.underlying164
  a46 := Tryz.isAgg164
  z46 := Tryz.sizeOf164
  v46 := Tryz.zeroValue164
  t105 := Tryz.underlying286
  a105 := Tryz.isAgg286
  z105 := Tryz.sizeOf286
  v105 := Tryz.zeroValue286
  t116 := Tryz.underlying238
  a116 := Tryz.isAgg238
  z116 := Tryz.sizeOf238
  t117 := Tryz.underlying239
  a117 := Tryz.isAgg239
  z117 := Tryz.sizeOf239
  v117 := Tryz.zeroValue239
  t119 := Tryz.underlying330
  a119 := Tryz.isAgg330
  z119 := Tryz.sizeOf330
  t124 := Tryz.underlying242
  a124 := Tryz.isAgg242
  z124 := Tryz.sizeOf242
  v124 := Tryz.zeroValue242
  t138 := Tryz.underlying332
  a138 := Tryz.isAgg332
  z138 := Tryz.sizeOf332
  v138 := Tryz.zeroValue332
  t139 := Tryz.underlying333
  a139 := Tryz.isAgg333
  z139 := Tryz.sizeOf333
  v139 := Tryz.zeroValue333
  g3 := by kernel_rfl
  g4 := by kernel_rfl }
open Go.RowKit in
/-- strings.TrimRight: "TrimRight returns a slice of the string s, with all trailing Unicode code points contained in cutset removed.": AT A cutset OF ONE ASCII BYTE. The world is as it was. (LAID: no walk: one application.) -/
theorem Tryz.strings_TrimRight_one (s : ByteArray) (c : UInt8) (hc : c.toNat < 128) (w : World) (hs : s.size ≤ 9223372036854775807) :
    Calls Tryz.prog 142 #[.string s, .string ⟨#[c]⟩] w fun e w' => e = .returned (.string ⟨(Lib.trimRightB s.data.toList c).toArray⟩) ∧ w' = w := Any.strings_TrimRight_one Tryz.lays162 s c hc w hs
def Tryz.lays119_ren : Go.Shelf.Ren := ⟨fun | 119 => 336 | n => n, fun | 21 => 21 | 4 => 4 | n => n, fun | n => n⟩
def Tryz.lays120_ren : Go.Shelf.Ren := ⟨fun | 120 => 316 | n => n, fun | 5 => 5 | 4 => 4 | n => n, fun | n => n⟩
def Tryz.lays128_ren : Go.Shelf.Ren := ⟨fun | 128 => 295 | n => n, fun | 51 => 252 | 3 => 3 | 4 => 4 | 46 => 164 | 5 => 5 | 9 => 9 | n => n, fun | n => n⟩
def Tryz.lays125_ren : Go.Shelf.Ren := ⟨fun | 125 => 254 | 128 => 295 | 129 => 296 | n => n, fun | 46 => 164 | 3 => 3 | 51 => 252 | 53 => 255 | 4 => 4 | 5 => 5 | 9 => 9 | n => n, fun | n => n⟩
def Tryz.lays213_ren : Go.Shelf.Ren := ⟨fun | 213 => 255 | 265 => 297 | n => n, fun | 9 => 9 | 3 => 3 | n => n, fun | n => n⟩
def Tryz.lays106_ren : Go.Shelf.Ren := ⟨fun | 106 => 181 | 213 => 255 | 265 => 297 | n => n, fun | 9 => 9 | 3 => 3 | n => n, fun | n => n⟩
def Tryz.lays137_ren : Go.Shelf.Ren := ⟨fun | 137 => 335 | 217 => 324 | 266 => 339 | n => n, fun | 9 => 9 | 5 => 5 | 3 => 3 | n => n, fun | n => n⟩
def Tryz.lays215_ren : Go.Shelf.Ren := ⟨fun | 215 => 252 | n => n, fun | 3 => 3 | 4 => 4 | n => n, fun | n => n⟩
def Tryz.lays122_ren : Go.Shelf.Ren := ⟨fun | 122 => 178 | 215 => 252 | n => n, fun | 3 => 3 | 4 => 4 | n => n, fun | n => n⟩
def Tryz.lays195_ren : Go.Shelf.Ren := ⟨fun | 195 => 270 | n => n, fun | 9 => 9 | 3 => 3 | 0 => 0 | 4 => 4 | n => n, fun | n => n⟩
def Tryz.lays129_ren : Go.Shelf.Ren := ⟨fun | 129 => 296 | n => n, fun | 53 => 255 | 3 => 3 | 4 => 4 | 46 => 164 | 5 => 5 | 9 => 9 | n => n, fun | n => n⟩
def Tryz.lays317_ren : Go.Shelf.Ren := ⟨fun | 317 => 330 | n => n, fun | 3 => 3 | 46 => 164 | n => n, fun | n => n⟩
def Tryz.lays318_ren : Go.Shelf.Ren := ⟨fun | 318 => 331 | n => n, fun | 3 => 3 | 4 => 4 | n => n, fun | n => n⟩
def Tryz.lays283_ren : Go.Shelf.Ren := ⟨fun | 283 => 310 | n => n, fun | 3 => 3 | 9 => 9 | 4 => 4 | n => n, fun | n => n⟩
def Tryz.laysM284_ren : Go.Shelf.Ren := ⟨fun | 284 => 311 | 129 => 296 | 317 => 330 | 318 => 331 | n => n, fun | 53 => 255 | 3 => 3 | 212 => 323 | 0 => 0 | 4 => 4 | 46 => 164 | 5 => 5 | 9 => 9 | n => n, fun | 17 => 1 | n => n⟩
def Tryz.lays285_ren : Go.Shelf.Ren := ⟨fun | 285 => 312 | n => n, fun | 37 => 47 | 53 => 255 | 3 => 3 | 4 => 4 | 51 => 252 | 9 => 9 | 5 => 5 | 0 => 0 | n => n, fun | n => n⟩
def Tryz.laysM246_ren : Go.Shelf.Ren := ⟨fun | 246 => 274 | 283 => 310 | 284 => 311 | 285 => 312 | 286 => 313 | 129 => 296 | 317 => 330 | 318 => 331 | 319 => 332 | 320 => 333 | 337 => 341 | 338 => 342 | n => n, fun | 2 => 2 | 3 => 3 | 9 => 9 | 4 => 4 | 171 => 312 | 0 => 0 | 53 => 255 | 37 => 47 | 5 => 5 | 173 => 314 | 212 => 323 | 51 => 252 | 20 => 20 | 213 => 324 | 46 => 164 | 232 => 334 | 233 => 335 | n => n, fun | 17 => 1 | 18 => 4 | 19 => 5 | n => n⟩
def Tryz.lays246_ren : Go.Shelf.Ren := ⟨fun | 246 => 274 | 283 => 310 | 284 => 311 | 285 => 312 | 286 => 313 | 129 => 296 | 317 => 330 | 318 => 331 | 319 => 332 | 320 => 333 | 337 => 341 | 338 => 342 | n => n, fun | 2 => 2 | 3 => 3 | 9 => 9 | 4 => 4 | 171 => 312 | 0 => 0 | 53 => 255 | 37 => 47 | 5 => 5 | 173 => 314 | 212 => 323 | 51 => 252 | 20 => 20 | 213 => 324 | 46 => 164 | 232 => 334 | 233 => 335 | n => n, fun | 17 => 1 | 18 => 4 | 19 => 5 | n => n⟩
def Tryz.laysM243_ren : Go.Shelf.Ren := ⟨fun | 243 => 219 | 246 => 274 | 283 => 310 | 284 => 311 | 285 => 312 | 286 => 313 | 129 => 296 | 317 => 330 | 318 => 331 | 319 => 332 | 320 => 333 | 337 => 341 | 338 => 342 | n => n, fun | 3 => 3 | 9 => 9 | 2 => 2 | 4 => 4 | 171 => 312 | 0 => 0 | 53 => 255 | 37 => 47 | 5 => 5 | 173 => 314 | 212 => 323 | 51 => 252 | 20 => 20 | 213 => 324 | 46 => 164 | 232 => 334 | 233 => 335 | n => n, fun | 17 => 1 | 18 => 4 | 19 => 5 | n => n⟩
def Tryz.lays243_ren : Go.Shelf.Ren := ⟨fun | 243 => 219 | 246 => 274 | 283 => 310 | 284 => 311 | 285 => 312 | 286 => 313 | 129 => 296 | 317 => 330 | 318 => 331 | 319 => 332 | 320 => 333 | 337 => 341 | 338 => 342 | n => n, fun | 3 => 3 | 9 => 9 | 2 => 2 | 4 => 4 | 171 => 312 | 0 => 0 | 53 => 255 | 37 => 47 | 5 => 5 | 173 => 314 | 212 => 323 | 51 => 252 | 20 => 20 | 213 => 324 | 46 => 164 | 232 => 334 | 233 => 335 | n => n, fun | 17 => 1 | 18 => 4 | 19 => 5 | n => n⟩
def Tryz.laysM171_ren : Go.Shelf.Ren := ⟨fun | 171 => 130 | 243 => 219 | 246 => 274 | 283 => 310 | 284 => 311 | 285 => 312 | 286 => 313 | 129 => 296 | 317 => 330 | 318 => 331 | 319 => 332 | 320 => 333 | 337 => 341 | 338 => 342 | n => n, fun | 3 => 3 | 9 => 9 | 2 => 2 | 4 => 4 | 171 => 312 | 0 => 0 | 53 => 255 | 37 => 47 | 5 => 5 | 173 => 314 | 212 => 323 | 51 => 252 | 20 => 20 | 213 => 324 | 46 => 164 | 232 => 334 | 233 => 335 | n => n, fun | 17 => 1 | 18 => 4 | 19 => 5 | n => n⟩
theorem Tryz.laysM171 : Go.Proofs.LaysM.n171 Tryz.prog Tryz.laysM171_ren := {
  mixed := by kernel_rfl
  f129 := Tryz.func296.trans (congrArg some (by kernel_rfl))
  f171 := Tryz.func130.trans (congrArg some (by kernel_rfl))
  f243 := Tryz.func219.trans (congrArg some (by kernel_rfl))
  f246 := Tryz.func274.trans (congrArg some (by kernel_rfl))
  f283 := Tryz.func310.trans (congrArg some (by kernel_rfl))
  f284 := Tryz.func311.trans (congrArg some (by kernel_rfl))
  f285 := Tryz.func312.trans (congrArg some (by kernel_rfl))
  f286 := Tryz.func313.trans (congrArg some (by kernel_rfl))
  f317 := Tryz.func330.trans (congrArg some (by kernel_rfl))
  f318 := Tryz.func331.trans (congrArg some (by kernel_rfl))
  f319 := Tryz.func332.trans (congrArg some (by kernel_rfl))
  f320 := Tryz.func333.trans (congrArg some (by kernel_rfl))
  f337 := Tryz.func341.trans (congrArg some (by kernel_rfl))
  f338 := Tryz.func342.trans (congrArg some (by kernel_rfl))
  t0 := Tryz.underlying0
  a0 := Tryz.isAgg0
  z0 := Tryz.sizeOf0
  v0 := Tryz.zeroValue0
  t2 := Tryz.underlying2
  a2 := Tryz.isAgg2
  z2 := Tryz.sizeOf2
  v2 := Tryz.zeroValue2
  t3 := Tryz.underlying3
  a3 := Tryz.isAgg3
  z3 := Tryz.sizeOf3
  v3 := Tryz.zeroValue3
  t4 := Tryz.underlying4
  a4 := Tryz.isAgg4
  z4 := Tryz.sizeOf4
  v4 := Tryz.zeroValue4
  t5 := Tryz.underlying5
  a5 := Tryz.isAgg5
  z5 := Tryz.sizeOf5
  v5 := Tryz.zeroValue5
  t9 := Tryz.underlying9
  a9 := Tryz.isAgg9
  z9 := Tryz.sizeOf9
  v9 := Tryz.zeroValue9
  t20 := Tryz.underlying20
  a20 := Tryz.isAgg20
  z20 := Tryz.sizeOf20
  v20 := Tryz.zeroValue20
  t37 := Tryz.underlying47
  a37 := Tryz.isAgg47
  z37 := Tryz.sizeOf47
  v37 := Tryz.zeroValue47
  t46 := Tryz.underlying164
  a46 := Tryz.isAgg164
  z46 := Tryz.sizeOf164
  v46 := Tryz.zeroValue164
  t51 := Tryz.underlying252
  a51 := Tryz.isAgg252
  z51 := Tryz.sizeOf252
  v51 := Tryz.zeroValue252
  t53 := Tryz.underlying255
  a53 := Tryz.isAgg255
  z53 := Tryz.sizeOf255
  v53 := Tryz.zeroValue255
  t171 := Tryz.underlying312
  a171 := Tryz.isAgg312
  z171 := Tryz.sizeOf312
  v171 := Tryz.zeroValue312
  t173 := Tryz.underlying314
  a173 := Tryz.isAgg314
  z173 := Tryz.sizeOf314
  v173 := Tryz.zeroValue314
  t212 := Tryz.underlying323
  a212 := Tryz.isAgg323
  z212 := Tryz.sizeOf323
  v212 := Tryz.zeroValue323
  t213 := Tryz.underlying324
  a213 := Tryz.isAgg324
  z213 := Tryz.sizeOf324
  t232 := Tryz.underlying334
  a232 := Tryz.isAgg334
  z232 := Tryz.sizeOf334
  v232 := Tryz.zeroValue334
  t233 := Tryz.underlying335
  a233 := Tryz.isAgg335
  z233 := Tryz.sizeOf335
  v233 := Tryz.zeroValue335
  g17 := by kernel_rfl
  g18 := by kernel_rfl
  g19 := by kernel_rfl
  i0 := by kernel_rfl
  i2 := by kernel_rfl
  i3 := by kernel_rfl
  i4 := by kernel_rfl
  i5 := by kernel_rfl
  i9 := by kernel_rfl
  i20 := by kernel_rfl
  i37 := by kernel_rfl
  i46 := by kernel_rfl
  i51 := by kernel_rfl
  i53 := by kernel_rfl
  i171 := by kernel_rfl
  i173 := by kernel_rfl
  i212 := by kernel_rfl
  i232 := by kernel_rfl
  i233 := by kernel_rfl
  m17 := by kernel_rfl
  m18 := by kernel_rfl
  m19 := by kernel_rfl }
open Go.RowKit Go.Sort Go.Lib in
/-- strconv.Itoa: "Itoa is equivalent to FormatInt(int64(i), 10).": i's DECIMAL NUMERAL ('Lib.itoa': a '-' where i is negative, then the digits), FOR EVERY int. The world behind the call: the world before it, new blocks behind the heap (the library's 'var a [24]byte'), draws. (LAID: no walk: one application.) -/
theorem Tryz.strconv_Itoa (n : Int) (h0 : -9223372036854775808 ≤ n) (h1 : n ≤ 9223372036854775807) (w : World) (htab : Lib.TabIs Tryz.prog w "internal/strconv.uint64pow10" .u64 Lib.pow10Tab) :
    Calls Tryz.prog 130 #[.int .i64 n] w fun e w' => e = .returned (.string ⟨(Lib.itoa n).toArray⟩) ∧ ∃ k os, w' = grow (w.drewN k) os := Any.strconv_Itoa Tryz.laysM171 n h0 h1 w htab
def Tryz.lays171_ren : Go.Shelf.Ren := ⟨fun | 171 => 130 | 243 => 219 | 246 => 274 | 283 => 310 | 284 => 311 | 285 => 312 | 286 => 313 | 129 => 296 | 317 => 330 | 318 => 331 | 319 => 332 | 320 => 333 | 337 => 341 | 338 => 342 | n => n, fun | 3 => 3 | 9 => 9 | 2 => 2 | 4 => 4 | 171 => 312 | 0 => 0 | 53 => 255 | 37 => 47 | 5 => 5 | 173 => 314 | 212 => 323 | 51 => 252 | 20 => 20 | 213 => 324 | 46 => 164 | 232 => 334 | 233 => 335 | n => n, fun | 17 => 1 | 18 => 4 | 19 => 5 | n => n⟩
def Tryz.lays217_ren : Go.Shelf.Ren := ⟨fun | 217 => 324 | 266 => 339 | n => n, fun | 9 => 9 | 5 => 5 | 3 => 3 | n => n, fun | n => n⟩
def Tryz.lays224_ren : Go.Shelf.Ren := ⟨fun | 224 => 326 | n => n, fun | 3 => 3 | n => n, fun | n => n⟩
def Tryz.lays314_ren : Go.Shelf.Ren := ⟨fun | 314 => 340 | n => n, fun | 9 => 9 | 51 => 252 | 3 => 3 | 4 => 4 | 5 => 5 | 46 => 164 | n => n, fun | n => n⟩
def Tryz.lays267_ren : Go.Shelf.Ren := ⟨fun | 267 => 327 | 314 => 340 | n => n, fun | 9 => 9 | 3 => 3 | 146 => 253 | 51 => 252 | 4 => 4 | 5 => 5 | 46 => 164 | n => n, fun | n => n⟩
def Tryz.lays219_ren : Go.Shelf.Ren := ⟨fun | 219 => 301 | 217 => 324 | 225 => 325 | 224 => 326 | 267 => 327 | 266 => 339 | 314 => 340 | n => n, fun | 9 => 9 | 3 => 3 | 4 => 4 | 5 => 5 | 46 => 164 | 146 => 253 | 51 => 252 | n => n, fun | 1 => 0 | n => n⟩
def Tryz.lays143_ren : Go.Shelf.Ren := ⟨fun | 143 => 261 | 219 => 301 | 217 => 324 | 225 => 325 | 224 => 326 | 267 => 327 | 266 => 339 | 314 => 340 | n => n, fun | 9 => 9 | 3 => 3 | 4 => 4 | 5 => 5 | 46 => 164 | 146 => 253 | 51 => 252 | n => n, fun | 1 => 0 | n => n⟩
def Tryz.lays144_ren : Go.Shelf.Ren := ⟨fun | 144 => 192 | 143 => 261 | 219 => 301 | 217 => 324 | 225 => 325 | 224 => 326 | 267 => 327 | 266 => 339 | 314 => 340 | n => n, fun | 9 => 9 | 4 => 4 | 3 => 3 | 5 => 5 | 46 => 164 | 146 => 253 | 51 => 252 | n => n, fun | 1 => 0 | n => n⟩
theorem Tryz.lays144 : Go.Proofs.Lays.n144 Tryz.prog Tryz.lays144_ren := {
  mixed := by kernel_rfl
  f143 := Tryz.func261.trans (congrArg some (by kernel_rfl))
  f144 := Tryz.func192.trans (congrArg some (by kernel_rfl))
  f217 := Tryz.func324.trans (congrArg some (by kernel_rfl))
  f219 := Tryz.func301.trans (congrArg some (by kernel_rfl))
  f224 := Tryz.func326.trans (congrArg some (by kernel_rfl))
  f225 := Tryz.func325.trans (congrArg some (by kernel_rfl))
  f266 := Tryz.func339.trans (congrArg some (by kernel_rfl))
  f267 := Tryz.func327.trans (congrArg some (by kernel_rfl))
  f314 := Tryz.func340.trans (congrArg some (by kernel_rfl))
  t3 := Tryz.underlying3
  a3 := Tryz.isAgg3
  z3 := Tryz.sizeOf3
  v3 := Tryz.zeroValue3
  t4 := Tryz.underlying4
  a4 := Tryz.isAgg4
  z4 := Tryz.sizeOf4
  v4 := Tryz.zeroValue4
  t5 := Tryz.underlying5
  a5 := Tryz.isAgg5
  z5 := Tryz.sizeOf5
  v5 := Tryz.zeroValue5
  t9 := Tryz.underlying9
  a9 := Tryz.isAgg9
  z9 := Tryz.sizeOf9
  v9 := Tryz.zeroValue9
  t46 := Tryz.underlying164
  a46 := Tryz.isAgg164
  z46 := Tryz.sizeOf164
  v46 := Tryz.zeroValue164
  t51 := Tryz.underlying252
  a51 := Tryz.isAgg252
  z51 := Tryz.sizeOf252
  v51 := Tryz.zeroValue252
  t146 := Tryz.underlying253
  a146 := Tryz.isAgg253
  z146 := Tryz.sizeOf253
  v146 := Tryz.zeroValue253
  g1 := by kernel_rfl }
open Go.RowKit Go.Lib in
/-- strings.Contains: "Contains reports whether substr is within s.": AT A substr OF ONE BYTE c: IT RETURNS 'decide (0 ≤ Lib.indexByte s c)'; the world is as it was. (LAID: no walk: one application.) -/
theorem Tryz.strings_Contains_one (s : ByteArray) (c : UInt8) (w : World) :
    Calls Tryz.prog 192 #[.string s, .string ⟨#[c]⟩] w fun e w' => e = .returned (.bool (decide (0 ≤ Lib.indexByte s.data.toList c))) ∧ w' = w := Any.strings_Contains_one Tryz.lays144 s c w
def Tryz.lays138_ren : Go.Shelf.Ren := ⟨fun | 138 => 208 | 195 => 270 | 218 => 271 | 143 => 261 | 219 => 301 | 217 => 324 | 225 => 325 | 224 => 326 | 267 => 327 | 266 => 339 | 314 => 340 | n => n, fun | 9 => 9 | 3 => 3 | 4 => 4 | 5 => 5 | 0 => 0 | 46 => 164 | 146 => 253 | 51 => 252 | n => n, fun | 1 => 0 | n => n⟩
theorem Tryz.lays138 : Go.Proofs.Lays.n138 Tryz.prog Tryz.lays138_ren := {
  mixed := by kernel_rfl
  f138 := Tryz.func208.trans (congrArg some (by kernel_rfl))
  f143 := Tryz.func261.trans (congrArg some (by kernel_rfl))
  f195 := Tryz.func270.trans (congrArg some (by kernel_rfl))
  f217 := Tryz.func324.trans (congrArg some (by kernel_rfl))
  f218 := Tryz.func271.trans (congrArg some (by kernel_rfl))
  f219 := Tryz.func301.trans (congrArg some (by kernel_rfl))
  f224 := Tryz.func326.trans (congrArg some (by kernel_rfl))
  f225 := Tryz.func325.trans (congrArg some (by kernel_rfl))
  f266 := Tryz.func339.trans (congrArg some (by kernel_rfl))
  f267 := Tryz.func327.trans (congrArg some (by kernel_rfl))
  f314 := Tryz.func340.trans (congrArg some (by kernel_rfl))
  t0 := Tryz.underlying0
  a0 := Tryz.isAgg0
  z0 := Tryz.sizeOf0
  v0 := Tryz.zeroValue0
  t3 := Tryz.underlying3
  a3 := Tryz.isAgg3
  z3 := Tryz.sizeOf3
  v3 := Tryz.zeroValue3
  t4 := Tryz.underlying4
  a4 := Tryz.isAgg4
  z4 := Tryz.sizeOf4
  v4 := Tryz.zeroValue4
  t5 := Tryz.underlying5
  a5 := Tryz.isAgg5
  z5 := Tryz.sizeOf5
  v5 := Tryz.zeroValue5
  t9 := Tryz.underlying9
  a9 := Tryz.isAgg9
  z9 := Tryz.sizeOf9
  v9 := Tryz.zeroValue9
  t46 := Tryz.underlying164
  a46 := Tryz.isAgg164
  z46 := Tryz.sizeOf164
  v46 := Tryz.zeroValue164
  t51 := Tryz.underlying252
  a51 := Tryz.isAgg252
  z51 := Tryz.sizeOf252
  v51 := Tryz.zeroValue252
  t146 := Tryz.underlying253
  a146 := Tryz.isAgg253
  z146 := Tryz.sizeOf253
  v146 := Tryz.zeroValue253
  g1 := by kernel_rfl }
open Go.RowKit Go.Lib in
/-- strings.Count AT A substr OF ONE BYTE ('hp'): "Count counts the number of non-overlapping instances of substr in s.": IT RETURNS 'Lib.countByte s (that byte)'; the world is as it was. ✋ NO CONTRACT HERE YET at an empty substr (utf8.RuneCountInString) or at a longer one (a loop over strings.Index). (LAID: no walk: one application.) -/
theorem Tryz.strings_Count_one (s : ByteArray) (c : UInt8) (w : World) :
    Calls Tryz.prog 208 #[.string s, .string ⟨#[c]⟩] w fun e w' => e = .returned (.int .i64 (Lib.countByte s.data.toList c)) ∧ w' = w := Any.strings_Count_one Tryz.lays138 s c w
def Tryz.laysM219_ren : Go.Shelf.Ren := ⟨fun | 219 => 301 | 217 => 324 | 225 => 325 | 224 => 326 | 267 => 327 | 266 => 339 | 314 => 340 | n => n, fun | 9 => 9 | 3 => 3 | 4 => 4 | 5 => 5 | 46 => 164 | 146 => 253 | 51 => 252 | n => n, fun | 1 => 0 | n => n⟩
def Tryz.laysM143_ren : Go.Shelf.Ren := ⟨fun | 143 => 261 | 219 => 301 | 217 => 324 | 225 => 325 | 224 => 326 | 267 => 327 | 266 => 339 | 314 => 340 | n => n, fun | 9 => 9 | 3 => 3 | 4 => 4 | 5 => 5 | 46 => 164 | 146 => 253 | 51 => 252 | n => n, fun | 1 => 0 | n => n⟩
def Tryz.laysM144_ren : Go.Shelf.Ren := ⟨fun | 144 => 192 | 143 => 261 | 219 => 301 | 217 => 324 | 225 => 325 | 224 => 326 | 267 => 327 | 266 => 339 | 314 => 340 | n => n, fun | 9 => 9 | 4 => 4 | 3 => 3 | 5 => 5 | 46 => 164 | 146 => 253 | 51 => 252 | n => n, fun | 1 => 0 | n => n⟩
theorem Tryz.laysM144 : Go.Proofs.LaysM.n144 Tryz.prog Tryz.laysM144_ren := {
  mixed := by kernel_rfl
  f143 := Tryz.func261.trans (congrArg some (by kernel_rfl))
  f144 := Tryz.func192.trans (congrArg some (by kernel_rfl))
  f217 := Tryz.func324.trans (congrArg some (by kernel_rfl))
  f219 := Tryz.func301.trans (congrArg some (by kernel_rfl))
  f224 := Tryz.func326.trans (congrArg some (by kernel_rfl))
  f225 := Tryz.func325.trans (congrArg some (by kernel_rfl))
  f266 := Tryz.func339.trans (congrArg some (by kernel_rfl))
  f267 := Tryz.func327.trans (congrArg some (by kernel_rfl))
  f314 := Tryz.func340.trans (congrArg some (by kernel_rfl))
  t3 := Tryz.underlying3
  a3 := Tryz.isAgg3
  z3 := Tryz.sizeOf3
  v3 := Tryz.zeroValue3
  t4 := Tryz.underlying4
  a4 := Tryz.isAgg4
  z4 := Tryz.sizeOf4
  v4 := Tryz.zeroValue4
  t5 := Tryz.underlying5
  a5 := Tryz.isAgg5
  z5 := Tryz.sizeOf5
  v5 := Tryz.zeroValue5
  t9 := Tryz.underlying9
  a9 := Tryz.isAgg9
  z9 := Tryz.sizeOf9
  v9 := Tryz.zeroValue9
  t46 := Tryz.underlying164
  a46 := Tryz.isAgg164
  z46 := Tryz.sizeOf164
  v46 := Tryz.zeroValue164
  t51 := Tryz.underlying252
  a51 := Tryz.isAgg252
  z51 := Tryz.sizeOf252
  v51 := Tryz.zeroValue252
  t146 := Tryz.underlying253
  a146 := Tryz.isAgg253
  z146 := Tryz.sizeOf253
  v146 := Tryz.zeroValue253
  g1 := by kernel_rfl
  i3 := by kernel_rfl
  i4 := by kernel_rfl
  i5 := by kernel_rfl
  i9 := by kernel_rfl
  i46 := by kernel_rfl
  i51 := by kernel_rfl
  i146 := by kernel_rfl
  m1 := by kernel_rfl
  s1_3 := fun w h => Go.Proofs.cell_of_shapedOpen_int (zero := #[.int .i64 0]) (t := 3) h (of_decide_eq_true (by kernel_rfl)) (by kernel_rfl) rfl (by kernel_rfl) (by kernel_rfl) Tryz.underlying3 }
open Go.RowKit Go.Lib in
theorem Tryz.strings_Contains_shaped (s sub : ByteArray) (w : World) (h : w.ShapedOpen Tryz.prog) (hs : s.size < 4294967281) :
    Calls Tryz.prog 192 #[.string s, .string sub] w fun e w' => e = .returned (.bool (Lib.contains s.data.toList sub.data.toList)) ∧ w' = w := Any.strings_Contains_shaped Tryz.laysM144 s sub w h hs
def Tryz.laysM138_ren : Go.Shelf.Ren := ⟨fun | 138 => 208 | 195 => 270 | 218 => 271 | 143 => 261 | 219 => 301 | 217 => 324 | 225 => 325 | 224 => 326 | 267 => 327 | 266 => 339 | 314 => 340 | n => n, fun | 9 => 9 | 3 => 3 | 4 => 4 | 5 => 5 | 0 => 0 | 46 => 164 | 146 => 253 | 51 => 252 | n => n, fun | 1 => 0 | n => n⟩
def Tryz.lays222_ren : Go.Shelf.Ren := ⟨fun | 222 => 307 | n => n, fun | 9 => 9 | 5 => 5 | 3 => 3 | 4 => 4 | n => n, fun | n => n⟩
def Tryz.lays149_ren : Go.Shelf.Ren := ⟨fun | 149 => 269 | 222 => 307 | n => n, fun | 9 => 9 | 5 => 5 | 3 => 3 | 4 => 4 | n => n, fun | n => n⟩
theorem Tryz.lays149 : Go.Proofs.Lays.n149 Tryz.prog Tryz.lays149_ren := {
  mixed := by kernel_rfl
  f149 := Tryz.func269.trans (congrArg some (by kernel_rfl))
  f222 := Tryz.func307.trans (congrArg some (by kernel_rfl))
  t3 := Tryz.underlying3
  a3 := Tryz.isAgg3
  z3 := Tryz.sizeOf3
  v3 := Tryz.zeroValue3
  t4 := Tryz.underlying4
  a4 := Tryz.isAgg4
  z4 := Tryz.sizeOf4
  v4 := Tryz.zeroValue4
  t5 := Tryz.underlying5
  a5 := Tryz.isAgg5
  z5 := Tryz.sizeOf5
  v5 := Tryz.zeroValue5
  t9 := Tryz.underlying9
  a9 := Tryz.isAgg9
  z9 := Tryz.sizeOf9
  v9 := Tryz.zeroValue9 }
open Go.RowKit Go.Lib in
/-- strings.LastIndexByte: "LastIndexByte returns the index of the last instance of c in s, or -1 if c is not present in s." (LAID: no walk: one application.) -/
theorem Tryz.strings_LastIndexByte (s : ByteArray) (c : Int) (hs : s.size < 4611686018427387904) (w : World) :
    Calls Tryz.prog 269 #[.string s, .int .u8 c] w fun e w' => e = .returned (.int .i64 (Lib.lastIndexByte s c)) ∧ w' = w := Any.strings_LastIndexByte Tryz.lays149 s c hs w
def Tryz.lays206_ren : Go.Shelf.Ren := ⟨fun | 206 => 147 | n => n, fun | 9 => 9 | 4 => 4 | 3 => 3 | n => n, fun | n => n⟩
def Tryz.lays99_ren : Go.Shelf.Ren := ⟨fun | 99 => 58 | 206 => 147 | n => n, fun | 9 => 9 | 4 => 4 | 3 => 3 | n => n, fun | n => n⟩
def Tryz.lays221_ren : Go.Shelf.Ren := ⟨fun | 221 => 193 | 268 => 262 | 138 => 208 | 143 => 261 | 195 => 270 | 197 => 302 | 218 => 271 | 219 => 301 | 260 => 328 | 217 => 324 | 225 => 325 | 224 => 326 | 267 => 327 | 266 => 339 | 314 => 340 | n => n, fun | 9 => 9 | 3 => 3 | 31 => 48 | 4 => 4 | 0 => 0 | 105 => 286 | 21 => 21 | 5 => 5 | 46 => 164 | 119 => 330 | 139 => 333 | 138 => 332 | 146 => 253 | 51 => 252 | n => n, fun | 1 => 0 | 3 => 2 | 4 => 3 | n => n⟩
def Tryz.lays146_ren : Go.Shelf.Ren := ⟨fun | 146 => 107 | 221 => 193 | 268 => 262 | 138 => 208 | 143 => 261 | 195 => 270 | 197 => 302 | 218 => 271 | 219 => 301 | 260 => 328 | 217 => 324 | 225 => 325 | 224 => 326 | 267 => 327 | 266 => 339 | 314 => 340 | n => n, fun | 9 => 9 | 31 => 48 | 3 => 3 | 4 => 4 | 0 => 0 | 105 => 286 | 21 => 21 | 5 => 5 | 46 => 164 | 119 => 330 | 139 => 333 | 138 => 332 | 146 => 253 | 51 => 252 | n => n, fun | 1 => 0 | 3 => 2 | 4 => 3 | n => n⟩
def Tryz.lays154_ren : Go.Shelf.Ren := ⟨fun | 154 => 286 | 138 => 208 | 165 => 150 | 143 => 261 | 166 => 151 | 197 => 302 | 169 => 153 | 195 => 270 | 218 => 271 | 240 => 239 | 241 => 240 | 219 => 301 | 260 => 328 | 276 => 284 | 277 => 285 | 217 => 324 | 225 => 325 | 224 => 326 | 267 => 327 | 266 => 339 | 314 => 340 | n => n, fun | 9 => 9 | 3 => 3 | 4 => 4 | 72 => 169 | 0 => 0 | 76 => 173 | 105 => 286 | 21 => 21 | 5 => 5 | 70 => 167 | 20 => 20 | 37 => 47 | 75 => 172 | 127 => 258 | 164 => 291 | 46 => 164 | 119 => 330 | 139 => 333 | 138 => 332 | 146 => 253 | 51 => 252 | 80 => 176 | n => n, fun | 1 => 0 | 3 => 2 | 4 => 3 | n => n⟩
def Tryz.lays155_ren : Go.Shelf.Ren := ⟨fun | 155 => 242 | 154 => 286 | 138 => 208 | 165 => 150 | 143 => 261 | 166 => 151 | 197 => 302 | 169 => 153 | 195 => 270 | 218 => 271 | 240 => 239 | 241 => 240 | 219 => 301 | 260 => 328 | 276 => 284 | 277 => 285 | 217 => 324 | 225 => 325 | 224 => 326 | 267 => 327 | 266 => 339 | 314 => 340 | n => n, fun | 9 => 9 | 3 => 3 | 4 => 4 | 72 => 169 | 0 => 0 | 76 => 173 | 105 => 286 | 21 => 21 | 5 => 5 | 70 => 167 | 20 => 20 | 37 => 47 | 75 => 172 | 127 => 258 | 164 => 291 | 46 => 164 | 119 => 330 | 139 => 333 | 138 => 332 | 146 => 253 | 51 => 252 | 80 => 176 | n => n, fun | 1 => 0 | 3 => 2 | 4 => 3 | n => n⟩
def Tryz.laysM146_ren : Go.Shelf.Ren := ⟨fun | 146 => 107 | 221 => 193 | 268 => 262 | 138 => 208 | 143 => 261 | 195 => 270 | 197 => 302 | 218 => 271 | 219 => 301 | 260 => 328 | 217 => 324 | 225 => 325 | 224 => 326 | 267 => 327 | 266 => 339 | 314 => 340 | n => n, fun | 9 => 9 | 31 => 48 | 3 => 3 | 4 => 4 | 0 => 0 | 105 => 286 | 21 => 21 | 5 => 5 | 46 => 164 | 119 => 330 | 139 => 333 | 138 => 332 | 146 => 253 | 51 => 252 | n => n, fun | 1 => 0 | 3 => 2 | 4 => 3 | n => n⟩
theorem Tryz.laysM146 : Go.Proofs.LaysM.n146 Tryz.prog Tryz.laysM146_ren := {
  mixed := by kernel_rfl
  f138 := Tryz.func208.trans (congrArg some (by kernel_rfl))
  f143 := Tryz.func261.trans (congrArg some (by kernel_rfl))
  f146 := Tryz.func107.trans (congrArg some (by kernel_rfl))
  f195 := Tryz.func270.trans (congrArg some (by kernel_rfl))
  f197 := Tryz.func302.trans (congrArg some (by kernel_rfl))
  f217 := Tryz.func324.trans (congrArg some (by kernel_rfl))
  f218 := Tryz.func271.trans (congrArg some (by kernel_rfl))
  f219 := Tryz.func301.trans (congrArg some (by kernel_rfl))
  f221 := Tryz.func193.trans (congrArg some (by kernel_rfl))
  f224 := Tryz.func326.trans (congrArg some (by kernel_rfl))
  f225 := Tryz.func325.trans (congrArg some (by kernel_rfl))
  f260 := Tryz.func328.trans (congrArg some (by kernel_rfl))
  f266 := Tryz.func339.trans (congrArg some (by kernel_rfl))
  f267 := Tryz.func327.trans (congrArg some (by kernel_rfl))
  f268 := Tryz.func262.trans (congrArg some (by kernel_rfl))
  f314 := Tryz.func340.trans (congrArg some (by kernel_rfl))
  t0 := Tryz.underlying0
  a0 := Tryz.isAgg0
  z0 := Tryz.sizeOf0
  v0 := Tryz.zeroValue0
  t3 := Tryz.underlying3
  a3 := Tryz.isAgg3
  z3 := Tryz.sizeOf3
  v3 := Tryz.zeroValue3
  t4 := Tryz.underlying4
  a4 := Tryz.isAgg4
  z4 := Tryz.sizeOf4
  v4 := Tryz.zeroValue4
  t5 := Tryz.underlying5
  a5 := Tryz.isAgg5
  z5 := Tryz.sizeOf5
  v5 := Tryz.zeroValue5
  t9 := Tryz.underlying9
  a9 := Tryz.isAgg9
  z9 := Tryz.sizeOf9
  v9 := Tryz.zeroValue9
  t21 := Tryz.underlying21
  a21 := Tryz.isAgg21
  z21 := Tryz.sizeOf21
  v21 := Tryz.zeroValue21
  t31 := Tryz.underlying48
  a31 := Tryz.isAgg48
  z31 := Tryz.sizeOf48
  v31 := Tryz.zeroValue48
  t46 := Tryz.underlying164
  a46 := Tryz.isAgg164
  z46 := Tryz.sizeOf164
  v46 := Tryz.zeroValue164
  t51 := Tryz.underlying252
  a51 := Tryz.isAgg252
  z51 := Tryz.sizeOf252
  v51 := Tryz.zeroValue252
  t105 := Tryz.underlying286
  a105 := Tryz.isAgg286
  z105 := Tryz.sizeOf286
  v105 := Tryz.zeroValue286
  t119 := Tryz.underlying330
  a119 := Tryz.isAgg330
  z119 := Tryz.sizeOf330
  t138 := Tryz.underlying332
  a138 := Tryz.isAgg332
  z138 := Tryz.sizeOf332
  v138 := Tryz.zeroValue332
  t139 := Tryz.underlying333
  a139 := Tryz.isAgg333
  z139 := Tryz.sizeOf333
  v139 := Tryz.zeroValue333
  t146 := Tryz.underlying253
  a146 := Tryz.isAgg253
  z146 := Tryz.sizeOf253
  v146 := Tryz.zeroValue253
  g1 := by kernel_rfl
  g3 := by kernel_rfl
  g4 := by kernel_rfl
  i0 := by kernel_rfl
  i3 := by kernel_rfl
  i4 := by kernel_rfl
  i5 := by kernel_rfl
  i9 := by kernel_rfl
  i21 := by kernel_rfl
  i31 := by kernel_rfl
  i46 := by kernel_rfl
  i51 := by kernel_rfl
  i105 := by kernel_rfl
  i138 := by kernel_rfl
  i139 := by kernel_rfl
  i146 := by kernel_rfl
  m1 := by kernel_rfl
  s1_3 := fun w h => Go.Proofs.cell_of_shapedOpen_int (zero := #[.int .i64 0]) (t := 3) h (of_decide_eq_true (by kernel_rfl)) (by kernel_rfl) rfl (by kernel_rfl) (by kernel_rfl) Tryz.underlying3
  m3 := by kernel_rfl
  m4 := by kernel_rfl }
open Go.RowKit Go.Lib in
/-- strings.Split, sep not empty. (LAID: no walk: one application.) -/
theorem Tryz.strings_Split_shaped (s sep : ByteArray) (w : World) (h : w.ShapedOpen Tryz.prog) (hs : s.size < 4294967281) (h1 : 1 ≤ sep.size) :
    Calls Tryz.prog 107 #[.string s, .string sep] w fun e w' =>
      e = .returned (.slice (some ⟨w.heap.size, 0, none⟩) (Lib.countB s sep + 1) (Lib.countB s sep + 1)) ∧ w' = w.alloc (.cells ((Lib.splitB sep 0 (Lib.countB s sep) s).map Value.string).toArray 9) := Any.strings_Split_shaped Tryz.laysM146 s sep w h hs h1
def Tryz.laysM154_ren : Go.Shelf.Ren := ⟨fun | 154 => 286 | 138 => 208 | 165 => 150 | 143 => 261 | 166 => 151 | 197 => 302 | 169 => 153 | 195 => 270 | 218 => 271 | 240 => 239 | 241 => 240 | 219 => 301 | 260 => 328 | 276 => 284 | 277 => 285 | 217 => 324 | 225 => 325 | 224 => 326 | 267 => 327 | 266 => 339 | 314 => 340 | n => n, fun | 9 => 9 | 3 => 3 | 4 => 4 | 72 => 169 | 0 => 0 | 76 => 173 | 105 => 286 | 21 => 21 | 5 => 5 | 70 => 167 | 20 => 20 | 37 => 47 | 75 => 172 | 127 => 258 | 164 => 291 | 46 => 164 | 119 => 330 | 139 => 333 | 138 => 332 | 146 => 253 | 51 => 252 | 80 => 176 | n => n, fun | 1 => 0 | 3 => 2 | 4 => 3 | n => n⟩
def Tryz.laysM155_ren : Go.Shelf.Ren := ⟨fun | 155 => 242 | 154 => 286 | 138 => 208 | 165 => 150 | 143 => 261 | 166 => 151 | 197 => 302 | 169 => 153 | 195 => 270 | 218 => 271 | 240 => 239 | 241 => 240 | 219 => 301 | 260 => 328 | 276 => 284 | 277 => 285 | 217 => 324 | 225 => 325 | 224 => 326 | 267 => 327 | 266 => 339 | 314 => 340 | n => n, fun | 9 => 9 | 3 => 3 | 4 => 4 | 72 => 169 | 0 => 0 | 76 => 173 | 105 => 286 | 21 => 21 | 5 => 5 | 70 => 167 | 20 => 20 | 37 => 47 | 75 => 172 | 127 => 258 | 164 => 291 | 46 => 164 | 119 => 330 | 139 => 333 | 138 => 332 | 146 => 253 | 51 => 252 | 80 => 176 | n => n, fun | 1 => 0 | 3 => 2 | 4 => 3 | n => n⟩
def Tryz.lays197_ren : Go.Shelf.Ren := ⟨fun | 197 => 302 | 260 => 328 | n => n, fun | 9 => 9 | 21 => 21 | 3 => 3 | 4 => 4 | 5 => 5 | 105 => 286 | 119 => 330 | 0 => 0 | 46 => 164 | 139 => 333 | 138 => 332 | n => n, fun | 3 => 2 | 4 => 3 | n => n⟩
def Tryz.lays152_ren : Go.Shelf.Ren := ⟨fun | 152 => 317 | 137 => 335 | 119 => 336 | 224 => 326 | 225 => 325 | 217 => 324 | 266 => 339 | n => n, fun | 9 => 9 | 21 => 21 | 3 => 3 | 4 => 4 | 5 => 5 | 0 => 0 | 46 => 164 | n => n, fun | n => n⟩
def Tryz.lays151_ren : Go.Shelf.Ren := ⟨fun | 151 => 281 | 152 => 317 | 137 => 335 | 119 => 336 | 224 => 326 | 225 => 325 | 217 => 324 | 266 => 339 | n => n, fun | 9 => 9 | 21 => 21 | 4 => 4 | 3 => 3 | 5 => 5 | 0 => 0 | 46 => 164 | n => n, fun | n => n⟩
def Tryz.lays227_ren : Go.Shelf.Ren := ⟨fun | 227 => 228 | n => n, fun | 9 => 9 | 116 => 238 | 4 => 4 | 0 => 0 | 3 => 3 | 5 => 5 | n => n, fun | n => n⟩
def Tryz.lays228_ren : Go.Shelf.Ren := ⟨fun | 228 => 279 | n => n, fun | 124 => 242 | 5 => 5 | 4 => 4 | 0 => 0 | 116 => 238 | n => n, fun | n => n⟩
def Tryz.lays268_ren : Go.Shelf.Ren := ⟨fun | 268 => 262 | 195 => 270 | 197 => 302 | 260 => 328 | n => n, fun | 9 => 9 | 3 => 3 | 31 => 48 | 4 => 4 | 105 => 286 | 21 => 21 | 0 => 0 | 5 => 5 | 119 => 330 | 46 => 164 | 139 => 333 | 138 => 332 | n => n, fun | 3 => 2 | 4 => 3 | n => n⟩
def Tryz.lays264_ren : Go.Shelf.Ren := ⟨fun | 264 => 238 | n => n, fun | 53 => 255 | 46 => 164 | n => n, fun | n => n⟩
def Tryz.lays212_ren : Go.Shelf.Ren := ⟨fun | 212 => 149 | 263 => 237 | 264 => 238 | n => n, fun | 46 => 164 | 51 => 252 | 146 => 253 | 53 => 255 | 148 => 256 | n => n, fun | n => n⟩
def Tryz.lays105_ren : Go.Shelf.Ren := ⟨fun | 105 => 61 | 212 => 149 | 99 => 58 | 165 => 150 | 166 => 151 | 170 => 152 | 169 => 153 | 263 => 237 | 264 => 238 | 206 => 147 | 240 => 239 | 241 => 240 | 276 => 284 | 277 => 285 | n => n, fun | 9 => 9 | 3 => 3 | 4 => 4 | 20 => 20 | 0 => 0 | 46 => 164 | 109 => 165 | 5 => 5 | 72 => 169 | 76 => 173 | 51 => 252 | 146 => 253 | 53 => 255 | 148 => 256 | 70 => 167 | 37 => 47 | 75 => 172 | 127 => 258 | 164 => 291 | 80 => 176 | n => n, fun | n => n⟩
theorem Tryz.lays105 : Go.Proofs.Lays.n105 Tryz.prog Tryz.lays105_ren := {
  mixed := by kernel_rfl
  f99 := Tryz.func58.trans (congrArg some (by kernel_rfl))
  f105 := Tryz.func61.trans (congrArg some (by kernel_rfl))
  f165 := Tryz.func150.trans (congrArg some (by kernel_rfl))
  f166 := Tryz.func151.trans (congrArg some (by kernel_rfl))
  f169 := Tryz.func153.trans (congrArg some (by kernel_rfl))
  f170 := Tryz.func152.trans (congrArg some (by kernel_rfl))
  f206 := Tryz.func147.trans (congrArg some (by kernel_rfl))
  f212 := Tryz.func149.trans (congrArg some (by kernel_rfl))
  f240 := Tryz.func239.trans (congrArg some (by kernel_rfl))
  f241 := Tryz.func240.trans (congrArg some (by kernel_rfl))
  f263 := Tryz.func237.trans (congrArg some (by kernel_rfl))
  f264 := Tryz.func238.trans (congrArg some (by kernel_rfl))
  f276 := Tryz.func284.trans (congrArg some (by kernel_rfl))
  f277 := Tryz.func285.trans (congrArg some (by kernel_rfl))
  t0 := Tryz.underlying0
  a0 := Tryz.isAgg0
  z0 := Tryz.sizeOf0
  v0 := Tryz.zeroValue0
  t3 := Tryz.underlying3
  a3 := Tryz.isAgg3
  z3 := Tryz.sizeOf3
  v3 := Tryz.zeroValue3
  t4 := Tryz.underlying4
  a4 := Tryz.isAgg4
  z4 := Tryz.sizeOf4
  v4 := Tryz.zeroValue4
  t5 := Tryz.underlying5
  a5 := Tryz.isAgg5
  z5 := Tryz.sizeOf5
  v5 := Tryz.zeroValue5
  t9 := Tryz.underlying9
  a9 := Tryz.isAgg9
  z9 := Tryz.sizeOf9
  v9 := Tryz.zeroValue9
  t20 := Tryz.underlying20
  a20 := Tryz.isAgg20
  z20 := Tryz.sizeOf20
  v20 := Tryz.zeroValue20
  t37 := Tryz.underlying47
  a37 := Tryz.isAgg47
  z37 := Tryz.sizeOf47
  v37 := Tryz.zeroValue47
  t46 := Tryz.underlying164
  a46 := Tryz.isAgg164
  z46 := Tryz.sizeOf164
  v46 := Tryz.zeroValue164
  t51 := Tryz.underlying252
  a51 := Tryz.isAgg252
  z51 := Tryz.sizeOf252
  v51 := Tryz.zeroValue252
  t53 := Tryz.underlying255
  a53 := Tryz.isAgg255
  z53 := Tryz.sizeOf255
  v53 := Tryz.zeroValue255
  t70 := Tryz.underlying167
  a70 := Tryz.isAgg167
  z70 := Tryz.sizeOf167
  v70 := Tryz.zeroValue167
  t72 := Tryz.underlying169
  a72 := Tryz.isAgg169
  z72 := Tryz.sizeOf169
  v72 := Tryz.zeroValue169
  t75 := Tryz.underlying172
  a75 := Tryz.isAgg172
  z75 := Tryz.sizeOf172
  v75 := Tryz.zeroValue172
  t76 := Tryz.underlying173
  a76 := Tryz.isAgg173
  z76 := Tryz.sizeOf173
  v76 := Tryz.zeroValue173
  t109 := Tryz.underlying165
  a109 := Tryz.isAgg165
  z109 := Tryz.sizeOf165
  v109 := Tryz.zeroValue165
  t127 := Tryz.underlying258
  a127 := Tryz.isAgg258
  z127 := Tryz.sizeOf258
  v127 := Tryz.zeroValue258
  t146 := Tryz.underlying253
  a146 := Tryz.isAgg253
  z146 := Tryz.sizeOf253
  v146 := Tryz.zeroValue253
  t148 := Tryz.underlying256
  a148 := Tryz.isAgg256
  z148 := Tryz.sizeOf256
  v148 := Tryz.zeroValue256
  t164 := Tryz.underlying291
  a164 := Tryz.isAgg291
  z164 := Tryz.sizeOf291
  v164 := Tryz.zeroValue291 }
theorem Tryz.Builder_Extra_105 : Builder.Extra Tryz.prog Tryz.lays105_ren := {
  sizeBuilder := by kernel_rfl
  liesBuilder := by kernel_rfl
  t5 := Tryz.underlying5
  a5 := Tryz.isAgg5
  z5 := Tryz.sizeOf5
  v5 := Tryz.zeroValue5
  infoByte := by kernel_rfl
  cellsByte := by kernel_rfl
  sizeByte := by kernel_rfl
  neB5 := by decide }
open Go.RowKit Go.Lib in
/-- **strings.Repeat: count ≥ 0, the result within one allocation: count copies of s.** (LAID: no walk: one application.) -/
theorem Tryz.strings_Repeat (s : ByteArray) (c : Nat) (w : World) (hc : c ≤ 9223372036854775807) (hlen : s.size * c ≤ 140737488355328) :
    Calls Tryz.prog 61 #[.string s, .int .i64 c] w fun e w' => e = .returned (.string ⟨(Lib.repeatL s.data.toList c).toArray⟩) ∧ Below w.heap.size w w' := Any.strings_Repeat Tryz.lays105 Tryz.Builder_Extra_105 s c w hc hlen
def Tryz.lays260_ren : Go.Shelf.Ren := ⟨fun | 260 => 328 | n => n, fun | 9 => 9 | 21 => 21 | 3 => 3 | 4 => 4 | 5 => 5 | 119 => 330 | 0 => 0 | 46 => 164 | 139 => 333 | 138 => 332 | n => n, fun | 3 => 2 | 4 => 3 | n => n⟩
def Tryz.lays271_ren : Go.Shelf.Ren := ⟨fun | 271 => 280 | 120 => 316 | 197 => 302 | 260 => 328 | n => n, fun | 9 => 9 | 21 => 21 | 3 => 3 | 4 => 4 | 5 => 5 | 105 => 286 | 119 => 330 | 0 => 0 | 46 => 164 | 139 => 333 | 138 => 332 | n => n, fun | 3 => 2 | 4 => 3 | n => n⟩
def Tryz.lays109_ren : Go.Shelf.Ren := ⟨fun | 109 => 188 | n => n, fun | 31 => 48 | 9 => 9 | 3 => 3 | 0 => 0 | 4 => 4 | n => n, fun | n => n⟩
def Tryz.lays110_ren : Go.Shelf.Ren := ⟨fun | 110 => 105 | 109 => 188 | n => n, fun | 31 => 48 | 9 => 9 | 4 => 4 | 3 => 3 | 0 => 0 | n => n, fun | n => n⟩
def Tryz.lays113_ren : Go.Shelf.Ren := ⟨fun | 113 => 268 | n => n, fun | 28 => 22 | 3 => 3 | 4 => 4 | 9 => 9 | 20 => 20 | 0 => 0 | n => n, fun | n => n⟩
theorem Tryz.lays113 : Go.Proofs.Lays.n113 Tryz.prog Tryz.lays113_ren := {
  mixed := by kernel_rfl
  f113 := Tryz.func268.trans (congrArg some (by kernel_rfl))
  t0 := Tryz.underlying0
  a0 := Tryz.isAgg0
  z0 := Tryz.sizeOf0
  v0 := Tryz.zeroValue0
  t3 := Tryz.underlying3
  a3 := Tryz.isAgg3
  z3 := Tryz.sizeOf3
  v3 := Tryz.zeroValue3
  t4 := Tryz.underlying4
  a4 := Tryz.isAgg4
  z4 := Tryz.sizeOf4
  v4 := Tryz.zeroValue4
  t9 := Tryz.underlying9
  a9 := Tryz.isAgg9
  z9 := Tryz.sizeOf9
  v9 := Tryz.zeroValue9
  t20 := Tryz.underlying20
  a20 := Tryz.isAgg20
  z20 := Tryz.sizeOf20
  v20 := Tryz.zeroValue20
  t28 := Tryz.underlying22
  a28 := Tryz.isAgg22
  z28 := Tryz.sizeOf22
  v28 := Tryz.zeroValue22 }
open Go.Lib in
/-- slices.Max at []int: "Max returns the maximal value in x. It panics if x is empty.": OF A SLICE THAT IS NOT EMPTY IT RETURNS 'Lib.maxOf (the elements)'; the world is as it was. (Of an empty one it panics: no contract here.) (LAID: no walk: one application.) -/
theorem Tryz.slices_Max_int (b off n c : Nat) (zs : List Int) (w : World) (hn : 0 < n) (hz : n ≤ zs.length) (hbig : n ≤ 9223372036854775807) (hc : ∀ j, j < zs.length → w.cell? ⟨b, off + j, none⟩ = some (.int .i64 (zs.getD j 0))) :
    Calls Tryz.prog 268 #[.slice (some ⟨b, off, none⟩) n c] w fun e w' => e = .returned (.int .i64 (Lib.maxOf (zs.take n))) ∧ w' = w := Any.slices_Max_int Tryz.lays113 b off n c zs w hn hz hbig hc
def Tryz.lays114_ren : Go.Shelf.Ren := ⟨fun | 114 => 267 | n => n, fun | 28 => 22 | 3 => 3 | 4 => 4 | 9 => 9 | 20 => 20 | 0 => 0 | n => n, fun | n => n⟩
theorem Tryz.lays114 : Go.Proofs.Lays.n114 Tryz.prog Tryz.lays114_ren := {
  mixed := by kernel_rfl
  f114 := Tryz.func267.trans (congrArg some (by kernel_rfl))
  t0 := Tryz.underlying0
  a0 := Tryz.isAgg0
  z0 := Tryz.sizeOf0
  v0 := Tryz.zeroValue0
  t3 := Tryz.underlying3
  a3 := Tryz.isAgg3
  z3 := Tryz.sizeOf3
  v3 := Tryz.zeroValue3
  t4 := Tryz.underlying4
  a4 := Tryz.isAgg4
  z4 := Tryz.sizeOf4
  v4 := Tryz.zeroValue4
  t9 := Tryz.underlying9
  a9 := Tryz.isAgg9
  z9 := Tryz.sizeOf9
  v9 := Tryz.zeroValue9
  t20 := Tryz.underlying20
  a20 := Tryz.isAgg20
  z20 := Tryz.sizeOf20
  v20 := Tryz.zeroValue20
  t28 := Tryz.underlying22
  a28 := Tryz.isAgg22
  z28 := Tryz.sizeOf22
  v28 := Tryz.zeroValue22 }
open Go.Lib in
/-- slices.Min at []int: "Min returns the minimal value in x. It panics if x is empty.": OF A SLICE THAT IS NOT EMPTY IT RETURNS 'Lib.minOf (the elements)'; the world is as it was. (Of an empty one it panics: no contract here.) (LAID: no walk: one application.) -/
theorem Tryz.slices_Min_int (b off n c : Nat) (zs : List Int) (w : World) (hn : 0 < n) (hz : n ≤ zs.length) (hbig : n ≤ 9223372036854775807) (hc : ∀ j, j < zs.length → w.cell? ⟨b, off + j, none⟩ = some (.int .i64 (zs.getD j 0))) :
    Calls Tryz.prog 267 #[.slice (some ⟨b, off, none⟩) n c] w fun e w' => e = .returned (.int .i64 (Lib.minOf (zs.take n))) ∧ w' = w := Any.slices_Min_int Tryz.lays114 b off n c zs w hn hz hbig hc
def Tryz.lays111_ren : Go.Shelf.Ren := ⟨fun | 111 => 94 | n => n, fun | 28 => 22 | 3 => 3 | 4 => 4 | 0 => 0 | n => n, fun | n => n⟩
def Tryz.laysNm215_ren : Go.Shelf.Ren := ⟨fun | 15 => 113 | n => n, fun | 22 => 22 | 3 => 3 | 4 => 4 | n => n, fun | n => n⟩
def Tryz.laysNm237_ren : Go.Shelf.Ren := ⟨fun | 37 => 252 | n => n, fun | 3 => 3 | 4 => 4 | n => n, fun | n => n⟩
def Tryz.laysSlE041_f113_ren : Go.Shelf.Ren := ⟨fun | 41 => 113 | n => n, fun | 22 => 22 | 23 => 3 | 4 => 4 | n => n, fun | n => n⟩
def Tryz.laysSlH6_f300_ren : Go.Shelf.Ren := ⟨fun | 6 => 300 | n => n, fun | 22 => 48 | 23 => 9 | 25 => 67 | 3 => 3 | 0 => 0 | 4 => 4 | n => n, fun | n => n⟩
def Tryz.laysSlH6_f329_ren : Go.Shelf.Ren := ⟨fun | 6 => 329 | n => n, fun | 22 => 22 | 23 => 3 | 25 => 123 | 3 => 3 | 0 => 0 | 4 => 4 | n => n, fun | n => n⟩
def Tryz.laysSlH8_f258_ren : Go.Shelf.Ren := ⟨fun | 8 => 258 | 6 => 300 | n => n, fun | 22 => 48 | 23 => 9 | 25 => 67 | 4 => 4 | 3 => 3 | 0 => 0 | n => n, fun | n => n⟩
def Tryz.laysSlH8_f303_ren : Go.Shelf.Ren := ⟨fun | 8 => 303 | 6 => 329 | n => n, fun | 22 => 22 | 23 => 3 | 25 => 123 | 4 => 4 | 3 => 3 | 0 => 0 | n => n, fun | n => n⟩
def Tryz.laysPa45_ren : Go.Shelf.Ren := ⟨fun | 45 => 307 | n => n, fun | 9 => 9 | 5 => 5 | 3 => 3 | 4 => 4 | n => n, fun | n => n⟩
end Go.Proofs

/- Names: qualifiers. -/
namespace Go.Proofs.YtlkkiimmangplaaGreatDoor
open Go.RowKit
set_option linter.unusedVariables false
set_option linter.unusedSimpArgs false

abbrev dot : ByteArray := ⟨#[46]⟩
/-- The parts of a text between full stops, as the library cuts them. -/
def parts (s : ByteArray) : List ByteArray := Lib.splitB dot 0 (Lib.countB s dot) s
theorem parts_length (s : ByteArray) : (parts s).length = Lib.countB s dot + 1 := Lib.splitB_all dot (by decide) 0 _ s rfl
theorem parts_le (s : ByteArray) : (parts s).length ≤ s.size + 1 := by
  rw [parts_length]
  have := Lib.countB_le dot (by decide) _ s (Nat.le_refl _)
  omega
theorem split_any (s : ByteArray) (w : World) (hg : Good w) (hs : s.size < 4294967281) :
    Calls Tryz.prog 107 #[.string s, .string dot] w (Ret w (fun _ : Nat => True) (fun b => .slice (some ⟨b, 0, none⟩) (parts s).length (parts s).length) (fun b => [.blk b 9 ((parts s).map Value.string).toArray])) :=
  (Tryz.strings_Split_shaped s dot w hg.shaped hs (by decide)).mono fun e w' ⟨h1, h2⟩ => ⟨w.heap.size, trivial, by rw [h1, parts_length], by rw [h2]; exact St.new w 9 _⟩
theorem contains_any (s : ByteArray) (c : UInt8) (w : World) : Calls Tryz.prog 192 #[.string s, .string ⟨#[c]⟩] w (RetV w (.bool (decide (0 ≤ Lib.indexByte s.data.toList c)))) :=
  (Tryz.strings_Contains_one s c w).mono fun e w' ⟨h1, h2⟩ => ⟨h1, by rw [h2]; exact St.refl w⟩
/-- A function value that answers like p at texts. -/
structure Pred1 (w : World) (g : Nat) (cap : Array Value) (p : ByteArray → Bool) : Prop where
  ent : Ent g
  at_ : ∀ (q : ByteArray) (w' : World), Below w.heap.size w w' → q.size < 4294967281 → Calls Tryz.prog g (#[.string q] ++ cap) w' (RetV w' (.bool (p q)))
structure PredC (g : Nat) (p : UInt8 → Bool) : Prop where
  ent : Ent g
  at_ : ∀ (c : UInt8) (w' : World), Calls Tryz.prog g #[.int .u8 (c.toNat : Int)] w' (RetV w' (.bool (p c)))
theorem PredC.at' {g : Nat} {p : UInt8 → Bool} (h : PredC g p) (c : UInt8) (w' : World) : Calls Tryz.prog g (#[.int .u8 (c.toNat : Int)] ++ #[]) w' (RetV w' (.bool (p c))) := by rw [Array.append_empty]; exact h.at_ c w'
def isUpper (c : Int) : Bool := decide (65 ≤ c) && decide (c ≤ 90)
def isDigit (c : Int) : Bool := decide (48 ≤ c) && decide (c ≤ 57)

set_option maxRecDepth 100000 in
theorem upper_any (c : Int) (w : World) :
    Calls Tryz.prog 165 #[.int .u8 c] w (RetV w (.bool (isUpper c))) := by
  refine enter Tryz.func165 rfl Tryz.ntmps165 rfl ?_
  refine WC.seq ?_
  refine WC.region ?_
  refine WL.p rfl rfl rfl (P.assign rfl) ?_
  refine WL.nil_ ?_
  refine End.seq ?_
  refine WC.seq ?_
  refine WC.region ?_
  refine WL.p rfl rfl rfl (P.move rfl) ?_
  refine WL.p rfl rfl rfl (P.cmp rfl rfl rfl) ?_
  refine WL.p rfl rfl rfl (P.move rfl) ?_
  refine WL.split 5 rfl (fun hs5 => ?_) (fun hs5 => ?_)
  ·
    refine WL.p rfl rfl rfl (P.move rfl) ?_
    refine WL.p rfl rfl rfl (P.cmp rfl rfl rfl) ?_
    refine WL.p rfl rfl rfl (P.pickT rfl rfl) ?_
    refine WL.p rfl rfl rfl (P.assign rfl) ?_
    refine WL.nil_ ?_
    refine End.seq ?_
    refine WC.ret ?_
    refine End.ret1 rfl rfl ?_
    exact fun w' hs' => RetV.of (by simp [isUpper, hs5]) hs'
  ·
    refine WL.off rfl rfl ?_
    refine WL.off rfl rfl ?_
    refine WL.p rfl rfl rfl (P.pickF rfl rfl) ?_
    refine WL.p rfl rfl rfl (P.assign rfl) ?_
    refine WL.nil_ ?_
    refine End.seq ?_
    refine WC.ret ?_
    refine End.ret1 rfl rfl ?_
    exact fun w' hs' => RetV.of (by simp [isUpper, hs5]) hs'

set_option maxRecDepth 100000 in
theorem digit_any (c : Int) (w : World) :
    Calls Tryz.prog 246 #[.int .u8 c] w (RetV w (.bool (isDigit c))) := by
  refine enter Tryz.func246 rfl Tryz.ntmps246 rfl ?_
  refine WC.seq ?_
  refine WC.region ?_
  refine WL.p rfl rfl rfl (P.assign rfl) ?_
  refine WL.nil_ ?_
  refine End.seq ?_
  refine WC.seq ?_
  refine WC.region ?_
  refine WL.p rfl rfl rfl (P.move rfl) ?_
  refine WL.p rfl rfl rfl (P.cmp rfl rfl rfl) ?_
  refine WL.p rfl rfl rfl (P.move rfl) ?_
  refine WL.split 5 rfl (fun hs5 => ?_) (fun hs5 => ?_)
  ·
    refine WL.p rfl rfl rfl (P.move rfl) ?_
    refine WL.p rfl rfl rfl (P.cmp rfl rfl rfl) ?_
    refine WL.p rfl rfl rfl (P.pickT rfl rfl) ?_
    refine WL.p rfl rfl rfl (P.assign rfl) ?_
    refine WL.nil_ ?_
    refine End.seq ?_
    refine WC.ret ?_
    refine End.ret1 rfl rfl ?_
    exact fun w' hs' => RetV.of (by simp [isDigit, hs5]) hs'
  ·
    refine WL.off rfl rfl ?_
    refine WL.off rfl rfl ?_
    refine WL.p rfl rfl rfl (P.pickF rfl rfl) ?_
    refine WL.p rfl rfl rfl (P.assign rfl) ?_
    refine WL.nil_ ?_
    refine End.seq ?_
    refine WC.ret ?_
    refine End.ret1 rfl rfl ?_
    exact fun w' hs' => RetV.of (by simp [isDigit, hs5]) hs'

set_option maxRecDepth 100000 in
theorem plain_any (c : Int) (w : World) :
    Calls Tryz.prog 166 #[.int .u8 c] w (RetV w (.bool (isUpper c || isDigit c))) := by
  refine enter Tryz.func166 rfl Tryz.ntmps166 rfl ?_
  refine WC.seq ?_
  refine WC.region ?_
  refine WL.p rfl rfl rfl (P.assign rfl) ?_
  refine WL.nil_ ?_
  refine End.seq ?_
  refine WC.seq ?_
  refine WC.region ?_
  refine WL.p rfl rfl rfl (P.move rfl) ?_
  refine WL.callv (ent_of Tryz.func165 rfl rfl) rfl rfl rfl (fun w hs => upper_any c w) ?_
  refine WL.p rfl rfl rfl (P.move rfl) ?_
  refine WL.split 5 rfl (fun hs5 => ?_) (fun hs5 => ?_)
  ·
    refine WL.off rfl rfl ?_
    refine WL.off rfl rfl ?_
    refine WL.p rfl rfl rfl (P.pickT rfl rfl) ?_
    refine WL.p rfl rfl rfl (P.assign rfl) ?_
    refine WL.nil_ ?_
    refine End.seq ?_
    refine WC.ret ?_
    refine End.ret1 rfl rfl ?_
    exact fun w' hs' => RetV.of (by simp [hs5]) hs'
  ·
    refine WL.p rfl rfl rfl (P.move rfl) ?_
    refine WL.callv (ent_of Tryz.func246 rfl rfl) rfl rfl rfl (fun w hs => digit_any c w) ?_
    refine WL.p rfl rfl rfl (P.pickF rfl rfl) ?_
    refine WL.p rfl rfl rfl (P.assign rfl) ?_
    refine WL.nil_ ?_
    refine End.seq ?_
    refine WC.ret ?_
    refine End.ret1 rfl rfl ?_
    exact fun w' hs' => RetV.of (by simp [hs5]) hs'

theorem upper_pred : PredC 165 (fun c => isUpper (c.toNat : Int)) := ⟨ent_of Tryz.func165 rfl rfl, fun c w => upper_any _ w⟩
theorem plain_pred : PredC 166 (fun c => isUpper (c.toNat : Int) || isDigit (c.toNat : Int)) := ⟨ent_of Tryz.func166 rfl rfl, fun c w => plain_any _ w⟩
/-- One qualifier: its first byte, and the others. -/
def qualB (p1 p2 : UInt8 → Bool) (l : List UInt8) : Bool := decide (1 ≤ l.length) && (decide (l.length ≤ 8) && (p1 (l[0]?.getD 0) && (l.drop 1).all p2))
theorem take_drop_snoc {l : List UInt8} {k : Nat} (h1 : 1 ≤ k) (h2 : k < l.length) (p : UInt8 → Bool) : ((l.take (k + 1)).drop 1).all p = (((l.take k).drop 1).all p && p (l[k]?.getD 0)) := by
  have hx : l[k]? = some l[k] := List.getElem?_eq_getElem h2
  rw [take_snoc hx, List.drop_append_of_le_length (by simp; omega), List.all_append, hx]
  simp
theorem take_drop_false {l : List UInt8} {k : Nat} (h1 : 1 ≤ k) (h2 : k < l.length) {p : UInt8 → Bool} (h : p (l[k]?.getD 0) = false) : (l.drop 1).all p = false := by
  rw [Bool.eq_false_iff]
  intro he
  rw [List.all_eq_true] at he
  have hx : l[k]? = some l[k] := List.getElem?_eq_getElem h2
  have := he l[k] (List.mem_iff_getElem?.2 ⟨k - 1, by rw [List.getElem?_drop, show 1 + (k - 1) = k by omega, hx]⟩)
  rw [hx] at h
  simp [this] at h
theorem qualB_false1 {p1 p2 : UInt8 → Bool} {l : List UInt8} (h : (l.length : Int) < 1) : qualB p1 p2 l = false := by
  have e : decide (1 ≤ l.length) = false := decide_eq_false (by omega)
  rw [qualB, e]; rfl
theorem qualB_false2 {p1 p2 : UInt8 → Bool} {l : List UInt8} (h : 8 < (l.length : Int)) : qualB p1 p2 l = false := by
  have e : decide (l.length ≤ 8) = false := decide_eq_false (by omega)
  rw [qualB, e]; simp
theorem qualB_false3 {p1 p2 : UInt8 → Bool} {l : List UInt8} (h : p1 (l[0]?.getD 0) = false) : qualB p1 p2 l = false := by
  rw [qualB, h]; simp
theorem qualB_false4 {p1 p2 : UInt8 → Bool} {l : List UInt8} (h : (l.drop 1).all p2 = false) : qualB p1 p2 l = false := by
  rw [qualB, h]; simp
theorem qualB_true {p1 p2 : UInt8 → Bool} {l : List UInt8} (h1 : 1 ≤ l.length) (h2 : l.length ≤ 8) (h3 : p1 (l[0]?.getD 0) = true) (h4 : (l.drop 1).all p2 = true) : qualB p1 p2 l = true := by
  rw [qualB, h3, h4, decide_eq_true h1, decide_eq_true h2]; rfl

set_option maxRecDepth 100000 in
theorem qualifier_any (s : ByteArray) (g1 g2 : Nat) (p1 p2 : UInt8 → Bool) (w : World) (h1 : PredC g1 p1) (h2 : PredC g2 p2) (hsz : s.size < 4294967281) :
    Calls Tryz.prog 164 #[.string s, .func (.func g1) #[] #[], .func (.func g2) #[] #[]] w (RetV w (.bool (qualB p1 p2 s.data.toList))) := by
  have hl : s.size = s.data.toList.length := rfl
  refine enter Tryz.func164 rfl Tryz.ntmps164 rfl ?_
  refine WC.seq ?_
  refine WC.region ?_
  refine WL.p rfl rfl rfl (P.assign rfl) ?_
  refine WL.nil_ ?_
  refine End.seq ?_
  refine WC.seq ?_
  refine WC.seq ?_
  refine WC.region ?_
  refine WL.p rfl rfl rfl (P.move rfl) ?_
  refine WL.p rfl rfl rfl (P.lenS Tryz.underlying9 rfl) ?_
  refine WL.p rfl rfl rfl (P.cmp rfl rfl rfl) ?_
  refine WL.p rfl rfl rfl (P.move rfl) ?_
  refine WL.split 11 rfl (fun hs11 => ?_) (fun hs11 => ?_)
  ·
    try simp only [decide_eq_true_eq, decide_eq_false_iff_not, beq_iff_eq, beq_eq_false_iff_ne, bne_iff_ne, bne_eq_false_iff_eq, Bool.not_eq_true', Bool.not_eq_false', ne_eq, Int.not_lt, Int.not_le] at hs11
    refine WL.off rfl rfl ?_
    refine WL.off rfl rfl ?_
    refine WL.off rfl rfl ?_
    refine WL.p rfl rfl rfl (P.pickT rfl rfl) ?_
    refine WL.p rfl rfl rfl (P.move rfl) ?_
    refine WL.off rfl rfl ?_
    refine WL.off rfl rfl ?_
    refine WL.off rfl rfl ?_
    refine WL.off rfl rfl ?_
    refine WL.off rfl rfl ?_
    refine WL.p rfl rfl rfl (P.pickT rfl rfl) ?_
    refine WL.nil_ ?_
    refine End.seq ?_
    refine WC.condT rfl ?_
    refine WC.seq ?_
    refine WC.region ?_
    refine WL.p rfl rfl rfl (P.assign rfl) ?_
    refine WL.nil_ ?_
    refine End.seq ?_
    refine WC.ret ?_
    refine End.thenR ?_
    refine End.ret1 rfl rfl ?_
    exact fun w' hs' => RetV.of (by rw [qualB_false1 (by omega)]) hs'
  ·
    try simp only [decide_eq_true_eq, decide_eq_false_iff_not, beq_iff_eq, beq_eq_false_iff_ne, bne_iff_ne, bne_eq_false_iff_eq, Bool.not_eq_true', Bool.not_eq_false', ne_eq, Int.not_lt, Int.not_le] at hs11
    refine WL.p rfl rfl rfl (P.move rfl) ?_
    refine WL.p rfl rfl rfl (P.lenS Tryz.underlying9 rfl) ?_
    refine WL.p rfl rfl rfl (P.cmp rfl rfl rfl) ?_
    refine WL.p rfl rfl rfl (P.pickF rfl rfl) ?_
    refine WL.p rfl rfl rfl (P.move rfl) ?_
    refine WL.split 16 rfl (fun hs16 => ?_) (fun hs16 => ?_)
    ·
      try simp only [decide_eq_true_eq, decide_eq_false_iff_not, beq_iff_eq, beq_eq_false_iff_ne, bne_iff_ne, bne_eq_false_iff_eq, Bool.not_eq_true', Bool.not_eq_false', ne_eq, Int.not_lt, Int.not_le] at hs16
      refine WL.off rfl rfl ?_
      refine WL.off rfl rfl ?_
      refine WL.off rfl rfl ?_
      refine WL.off rfl rfl ?_
      refine WL.off rfl rfl ?_
      refine WL.p rfl rfl rfl (P.pickT rfl rfl) ?_
      refine WL.nil_ ?_
      refine End.seq ?_
      refine WC.condT rfl ?_
      refine WC.seq ?_
      refine WC.region ?_
      refine WL.p rfl rfl rfl (P.assign rfl) ?_
      refine WL.nil_ ?_
      refine End.seq ?_
      refine WC.ret ?_
      refine End.thenR ?_
      refine End.ret1 rfl rfl ?_
      exact fun w' hs' => RetV.of (by rw [qualB_false2 (by omega)]) hs'
    ·
      try simp only [decide_eq_true_eq, decide_eq_false_iff_not, beq_iff_eq, beq_eq_false_iff_ne, bne_iff_ne, bne_eq_false_iff_eq, Bool.not_eq_true', Bool.not_eq_false', ne_eq, Int.not_lt, Int.not_le] at hs16
      refine WL.p rfl rfl rfl (P.move rfl) ?_
      refine WL.p rfl rfl rfl (P.move rfl) ?_
      refine WL.p rfl rfl rfl (P.byte Tryz.underlying9 rfl rfl (by omega) (by omega)) ?_
      refine WL.callc h1.ent rfl rfl rfl rfl (fun w hs => h1.at' (s.data.toList[(0 : Int).toNat]?.getD 0) w) ?_
      refine WL.p rfl rfl rfl (P.not_ rfl) ?_
      refine WL.p rfl rfl rfl (P.pickF rfl rfl) ?_
      refine WL.nil_ ?_
      refine End.seq ?_
      refine WC.cond rfl (fun hc22 => ?_) (fun hc22 => ?_)
      ·
        try simp only [decide_eq_true_eq, decide_eq_false_iff_not, beq_iff_eq, beq_eq_false_iff_ne, bne_iff_ne, bne_eq_false_iff_eq, Bool.not_eq_true', Bool.not_eq_false', ne_eq, Int.not_lt, Int.not_le] at hc22
        refine WC.seq ?_
        refine WC.region ?_
        refine WL.p rfl rfl rfl (P.assign rfl) ?_
        refine WL.nil_ ?_
        refine End.seq ?_
        refine WC.ret ?_
        refine End.thenR ?_
        refine End.ret1 rfl rfl ?_
        exact fun w' hs' => RetV.of (by rw [qualB_false3 hc22]) hs'
      ·
        try simp only [decide_eq_true_eq, decide_eq_false_iff_not, beq_iff_eq, beq_eq_false_iff_ne, bne_iff_ne, bne_eq_false_iff_eq, Bool.not_eq_true', Bool.not_eq_false', ne_eq, Int.not_lt, Int.not_le] at hc22
        have hlen1 : 1 ≤ s.size := by omega
        have hlen8 : s.size ≤ 8 := by omega
        refine WC.skip ?_
        refine End.seq ?_
        refine WC.seq ?_
        refine WC.seq ?_
        refine WC.region ?_
        refine WL.p rfl rfl rfl (P.assign rfl) ?_
        refine WL.nil_ ?_
        refine End.seq ?_
        refine WC.block ?_
        refine WC.loopD (σ := Nat) (fun k => [(7, .int .i64 k)]) (fun k => []) (fun k => 1 ≤ k ∧ k ≤ s.size ∧ ((s.data.toList.take k).drop 1).all p2 = true) (fun k => s.size - k) 1 ⟨Nat.le_refl _, by omega, by simp [List.drop_eq_nil_of_le]⟩ (Env.sub_cons rfl (Env.sub_nil)) [] rfl rfl ?_
        rintro k ⟨hk1, hk, ht⟩
        refine WC.seq ?_
        refine WC.seq ?_
        refine WC.region ?_
        refine WL.p rfl rfl rfl (P.move rfl) ?_
        refine WL.p rfl rfl rfl (P.move rfl) ?_
        refine WL.p rfl rfl rfl (P.lenS Tryz.underlying9 rfl) ?_
        refine WL.p rfl rfl rfl (P.cmp rfl rfl rfl) ?_
        refine WL.nil_ ?_
        refine End.seq ?_
        refine WC.cond rfl (fun hc26 => ?_) (fun hc26 => ?_)
        ·
          try simp only [decide_eq_true_eq, decide_eq_false_iff_not, beq_iff_eq, beq_eq_false_iff_ne, bne_iff_ne, bne_eq_false_iff_eq, Bool.not_eq_true', Bool.not_eq_false', ne_eq, Int.not_lt, Int.not_le] at hc26
          refine WC.skip ?_
          refine End.seq ?_
          refine WC.seq ?_
          refine WC.block ?_
          refine WC.seq ?_
          refine WC.region ?_
          refine WL.p rfl rfl rfl (P.move rfl) ?_
          refine WL.p rfl rfl rfl (P.move rfl) ?_
          refine WL.p rfl rfl rfl (P.move rfl) ?_
          refine WL.p rfl rfl rfl (P.byte Tryz.underlying9 rfl rfl (by omega) (by omega)) ?_
          refine WL.callc h2.ent rfl rfl rfl rfl (fun w hs => h2.at' (s.data.toList[(k : Int).toNat]?.getD 0) w) ?_
          refine WL.p rfl rfl rfl (P.not_ rfl) ?_
          refine WL.nil_ ?_
          refine End.seq ?_
          refine WC.cond rfl (fun hc34 => ?_) (fun hc34 => ?_)
          ·
            try simp only [decide_eq_true_eq, decide_eq_false_iff_not, beq_iff_eq, beq_eq_false_iff_ne, bne_iff_ne, bne_eq_false_iff_eq, Bool.not_eq_true', Bool.not_eq_false', ne_eq, Int.not_lt, Int.not_le] at hc34
            refine WC.seq ?_
            refine WC.region ?_
            refine WL.p rfl rfl rfl (P.assign rfl) ?_
            refine WL.nil_ ?_
            refine End.seq ?_
            refine WC.ret ?_
            refine End.blkR ?_
            refine End.thenR ?_
            refine End.thenR ?_
            refine End.blkR ?_
            refine End.thenR ?_
            refine End.ret1 rfl rfl ?_
            exact fun w' hs' => RetV.of (by rw [qualB_false4 (take_drop_false hk1 (by omega) (by simpa using hc34))]) hs'
          ·
            try simp only [decide_eq_true_eq, decide_eq_false_iff_not, beq_iff_eq, beq_eq_false_iff_ne, bne_iff_ne, bne_eq_false_iff_eq, Bool.not_eq_true', Bool.not_eq_false', ne_eq, Int.not_lt, Int.not_le] at hc34
            refine WC.skip ?_
            refine End.blkN ?_
            refine End.seq ?_
            refine WC.region ?_
            refine WL.p rfl rfl rfl (P.move rfl) ?_
            refine WL.p rfl rfl rfl (P.ari64 rfl rfl rfl (by omega)) ?_
            refine WL.p rfl rfl rfl (P.assign rfl) ?_
            refine WL.nil_ ?_
            refine End.againD (k + 1) ?_ ?_ rfl (Env.sub_cons rfl (Env.sub_nil)) rfl [] rfl rfl
            · exact ⟨by omega, by omega, by rw [take_drop_snoc hk1 (by omega), ht, Bool.true_and]; simpa using hc34⟩
            · omega
        ·
          try simp only [decide_eq_true_eq, decide_eq_false_iff_not, beq_iff_eq, beq_eq_false_iff_ne, bne_iff_ne, bne_eq_false_iff_eq, Bool.not_eq_true', Bool.not_eq_false', ne_eq, Int.not_lt, Int.not_le] at hc26
          refine WC.exit ?_
          refine End.thenX ?_
          refine End.thenX ?_
          refine End.blkX ?_
          refine End.seq ?_
          refine WC.seq ?_
          refine WC.region ?_
          refine WL.p rfl rfl rfl (P.assign rfl) ?_
          refine WL.nil_ ?_
          refine End.seq ?_
          refine WC.ret ?_
          refine End.ret1 rfl rfl ?_
          have e : k = s.data.toList.length := by omega
          rw [List.take_of_length_le (by omega)] at ht
          exact fun w' hs' => RetV.of (by rw [qualB_true (by omega) (by omega) hc22 ht]) hs'

def nameQ (l : List UInt8) : Bool := qualB (fun c => isUpper (c.toNat : Int)) (fun c => isUpper (c.toNat : Int) || isDigit (c.toNat : Int)) l

set_option maxRecDepth 100000 in
theorem valid1_any (s : ByteArray) (w : World) (hsz : s.size < 4294967281) :
    Calls Tryz.prog 163 #[.string s] w (RetV w (.bool (nameQ s.data.toList))) := by
  refine enter Tryz.func163 rfl Tryz.ntmps163 rfl ?_
  refine WC.seq ?_
  refine WC.region ?_
  refine WL.p rfl rfl rfl (P.assign rfl) ?_
  refine WL.nil_ ?_
  refine End.seq ?_
  refine WC.seq ?_
  refine WC.region ?_
  refine WL.p rfl rfl rfl (P.move rfl) ?_
  refine WL.callv (ent_of Tryz.func164 rfl rfl) rfl rfl rfl (fun w hs => qualifier_any s 165 166 _ _ w upper_pred plain_pred hsz) ?_
  refine WL.p rfl rfl rfl (P.assign rfl) ?_
  refine WL.nil_ ?_
  refine End.seq ?_
  refine WC.ret ?_
  refine End.ret1 rfl rfl ?_
  exact fun w' hs' => RetV.of rfl hs'

theorem valid1_pred (w : World) : Pred1 w 163 #[] (fun q => nameQ q.data.toList) := ⟨ent_of Tryz.func163 rfl rfl, fun q w' _ h => valid1_any q w' h⟩
theorem Pred1.at' {w w' : World} {H : List It} {g : Nat} {cap : Array Value} {p : ByteArray → Bool} (h : Pred1 w g cap p) (q : ByteArray) (hs : St w H w') (hq : q.size < 4294967281) : Calls Tryz.prog g (#[.string q] ++ cap) w' (RetV w' (.bool (p q))) := h.at_ q w' hs.below hq
theorem parts_size {s q : ByteArray} (h : q ∈ parts s) : q.size ≤ s.size := by
  unfold parts at h
  generalize Lib.countB s dot = k at h
  induction k generalizing s with
  | zero => simp [Lib.splitB] at h; rw [h]; exact Nat.le_refl _
  | succ k ih =>
    unfold Lib.splitB at h
    split at h
    · simp at h; rw [h]; exact Nat.le_refl _
    · rw [List.mem_cons] at h
      rcases h with rfl | h
      · simp [ByteArray.size_extract]; omega
      · have := ih h
        simp [ByteArray.size_extract] at this; omega
/-- A text of a permitted length whose parts all please. -/
def allB (most : Int) (p : ByteArray → Bool) (s : ByteArray) : Bool := decide (1 ≤ s.size) && (decide ((s.size : Int) ≤ most) && (parts s).all p)
theorem allB_false1 {most : Int} {p : ByteArray → Bool} {s : ByteArray} (h : (s.size : Int) < 1) : allB most p s = false := by
  have e : decide (1 ≤ s.size) = false := decide_eq_false (by omega)
  rw [allB, e]; rfl
theorem allB_false2 {most : Int} {p : ByteArray → Bool} {s : ByteArray} (h : most < (s.size : Int)) : allB most p s = false := by
  have e : decide ((s.size : Int) ≤ most) = false := decide_eq_false (by omega)
  rw [allB, e]; simp
theorem allB_false3 {most : Int} {p : ByteArray → Bool} {s q : ByteArray} {k : Nat} (hx : (parts s)[k]? = some q) (h : p q = false) : allB most p s = false := by
  have e : (parts s).all p = false := by
    rw [Bool.eq_false_iff]
    intro he
    rw [List.all_eq_true] at he
    rw [he q (List.mem_of_getElem? hx)] at h; cases h
  rw [allB, e]; simp
theorem allB_true {most : Int} {p : ByteArray → Bool} {s : ByteArray} (h1 : 1 ≤ s.size) (h2 : (s.size : Int) ≤ most) (h3 : (parts s).all p = true) : allB most p s = true := by
  rw [allB, h3, decide_eq_true h1, decide_eq_true h2]; rfl
theorem all_snoc {α : Type} {l : List α} {k : Nat} {x : α} (hx : l[k]? = some x) (p : α → Bool) : (l.take (k + 1)).all p = ((l.take k).all p && p x) := by rw [take_snoc hx]; simp
theorem row_cell {l : List ByteArray} {k : Nat} {x : ByteArray} (h : l[k]? = some x) : ((l.map Value.string).toArray)[0 + (k : Int).toNat * 1]? = some (.string x) := by simp [h]

set_option maxRecDepth 100000 in
theorem all_any (s : ByteArray) (most : Int) (g : Nat) (cap : Array Value) (p : ByteArray → Bool) (w : World) (hg : Good w) (hp : Pred1 w g cap p) (hm : most < 4294967281) :
    Calls Tryz.prog 162 #[.string s, .int .i64 most, .func (.func g) #[] cap] w (RetV w (.bool (allB most p s))) := by
  refine enter Tryz.func162 rfl Tryz.ntmps162 rfl ?_
  refine WC.seq ?_
  refine WC.region ?_
  refine WL.p rfl rfl rfl (P.assign rfl) ?_
  refine WL.nil_ ?_
  refine End.seq ?_
  refine WC.seq ?_
  refine WC.seq ?_
  refine WC.region ?_
  refine WL.p rfl rfl rfl (P.move rfl) ?_
  refine WL.p rfl rfl rfl (P.lenS Tryz.underlying9 rfl) ?_
  refine WL.p rfl rfl rfl (P.cmp rfl rfl rfl) ?_
  refine WL.p rfl rfl rfl (P.move rfl) ?_
  refine WL.split 12 rfl (fun hs12 => ?_) (fun hs12 => ?_)
  ·
    try simp only [decide_eq_true_eq, decide_eq_false_iff_not, beq_iff_eq, beq_eq_false_iff_ne, bne_iff_ne, bne_eq_false_iff_eq, Bool.not_eq_true', Bool.not_eq_false', ne_eq, Int.not_lt, Int.not_le] at hs12
    refine WL.off rfl rfl ?_
    refine WL.off rfl rfl ?_
    refine WL.off rfl rfl ?_
    refine WL.off rfl rfl ?_
    refine WL.p rfl rfl rfl (P.pickT rfl rfl) ?_
    refine WL.nil_ ?_
    refine End.seq ?_
    refine WC.condT rfl ?_
    refine WC.seq ?_
    refine WC.region ?_
    refine WL.p rfl rfl rfl (P.assign rfl) ?_
    refine WL.nil_ ?_
    refine End.seq ?_
    refine WC.ret ?_
    refine End.thenR ?_
    refine End.ret1 rfl rfl ?_
    exact fun w' hs' => RetV.of (by rw [allB_false1 (by omega)]) hs'
  ·
    try simp only [decide_eq_true_eq, decide_eq_false_iff_not, beq_iff_eq, beq_eq_false_iff_ne, bne_iff_ne, bne_eq_false_iff_eq, Bool.not_eq_true', Bool.not_eq_false', ne_eq, Int.not_lt, Int.not_le] at hs12
    refine WL.p rfl rfl rfl (P.move rfl) ?_
    refine WL.p rfl rfl rfl (P.lenS Tryz.underlying9 rfl) ?_
    refine WL.p rfl rfl rfl (P.move rfl) ?_
    refine WL.p rfl rfl rfl (P.cmp rfl rfl rfl) ?_
    refine WL.p rfl rfl rfl (P.pickF rfl rfl) ?_
    refine WL.nil_ ?_
    refine End.seq ?_
    refine WC.cond rfl (fun hc17 => ?_) (fun hc17 => ?_)
    ·
      try simp only [decide_eq_true_eq, decide_eq_false_iff_not, beq_iff_eq, beq_eq_false_iff_ne, bne_iff_ne, bne_eq_false_iff_eq, Bool.not_eq_true', Bool.not_eq_false', ne_eq, Int.not_lt, Int.not_le] at hc17
      refine WC.seq ?_
      refine WC.region ?_
      refine WL.p rfl rfl rfl (P.assign rfl) ?_
      refine WL.nil_ ?_
      refine End.seq ?_
      refine WC.ret ?_
      refine End.thenR ?_
      refine End.ret1 rfl rfl ?_
      exact fun w' hs' => RetV.of (by rw [allB_false2 (by omega)]) hs'
    ·
      try simp only [decide_eq_true_eq, decide_eq_false_iff_not, beq_iff_eq, beq_eq_false_iff_ne, bne_iff_ne, bne_eq_false_iff_eq, Bool.not_eq_true', Bool.not_eq_false', ne_eq, Int.not_lt, Int.not_le] at hc17
      refine WC.skip ?_
      refine End.seq ?_
      refine WC.seq ?_
      refine WC.seq ?_
      refine WC.region ?_
      refine WL.p rfl rfl rfl (P.move rfl) ?_
      refine WL.callx (ent_of Tryz.func107 rfl rfl) rfl rfl rfl (fun w hs => split_any s w (hg.st hs) (by omega)) (fun b _ => ?_)
      refine WL.p rfl rfl rfl (P.lenR Tryz.underlying48 rfl) ?_
      refine WL.p rfl rfl rfl (P.move rfl) ?_
      refine WL.nil_ ?_
      refine End.seq ?_
      refine WC.block ?_
      refine WC.loopD (σ := Nat) (fun k => [(21, .int .i64 k)]) (fun k => _) (fun k => k ≤ (parts s).length ∧ ((parts s).take k).all p = true) (fun k => (parts s).length - k) 0 ⟨Nat.zero_le _, rfl⟩ (Env.sub_cons rfl (Env.sub_nil)) [0] rfl rfl ?_
      rintro k ⟨hk, ht⟩
      refine WC.seq ?_
      refine WC.region ?_
      refine WL.p rfl rfl rfl (P.cmp rfl rfl rfl) ?_
      refine WL.nil_ ?_
      refine End.seq ?_
      refine WC.seq ?_
      refine WC.cond rfl (fun hc22 => ?_) (fun hc22 => ?_)
      ·
        try simp only [decide_eq_true_eq, decide_eq_false_iff_not, beq_iff_eq, beq_eq_false_iff_ne, bne_iff_ne, bne_eq_false_iff_eq, Bool.not_eq_true', Bool.not_eq_false', ne_eq, Int.not_lt, Int.not_le] at hc22
        have hpl := parts_le s
        obtain ⟨q, hq⟩ := get_of_lt (xs := parts s) (k := k) (by omega)
        refine WC.skip ?_
        refine End.seq ?_
        refine WC.seq ?_
        refine WC.block ?_
        refine WC.seq ?_
        refine WC.region ?_
        refine WL.p rfl rfl rfl (P.elemAddr Tryz.underlying48 Tryz.sizeOf9 rfl rfl (by omega) (by omega)) ?_
        refine WL.p rfl rfl rfl (P.loadO 0 Tryz.isAgg9 rfl rfl (row_cell hq)) ?_
        refine WL.p rfl rfl rfl (P.assign rfl) ?_
        refine WL.nil_ ?_
        refine End.seq ?_
        refine WC.seq ?_
        refine WC.region ?_
        refine WL.p rfl rfl rfl (P.move rfl) ?_
        refine WL.p rfl rfl rfl (P.move rfl) ?_
        refine WL.callc hp.ent rfl rfl rfl rfl (fun w hs => hp.at' q hs (by have := parts_size (List.mem_of_getElem? hq); omega)) ?_
        refine WL.p rfl rfl rfl (P.not_ rfl) ?_
        refine WL.nil_ ?_
        refine End.seq ?_
        refine WC.cond rfl (fun hc28 => ?_) (fun hc28 => ?_)
        ·
          try simp only [decide_eq_true_eq, decide_eq_false_iff_not, beq_iff_eq, beq_eq_false_iff_ne, bne_iff_ne, bne_eq_false_iff_eq, Bool.not_eq_true', Bool.not_eq_false', ne_eq, Int.not_lt, Int.not_le] at hc28
          refine WC.seq ?_
          refine WC.region ?_
          refine WL.p rfl rfl rfl (P.assign rfl) ?_
          refine WL.nil_ ?_
          refine End.seq ?_
          refine WC.ret ?_
          refine End.blkR ?_
          refine End.thenR ?_
          refine End.thenR ?_
          refine End.blkR ?_
          refine End.thenR ?_
          refine End.ret1 rfl rfl ?_
          exact fun w' hs' => RetV.of (by rw [allB_false3 hq (by simpa using hc28)]) hs'
        ·
          try simp only [decide_eq_true_eq, decide_eq_false_iff_not, beq_iff_eq, beq_eq_false_iff_ne, bne_iff_ne, bne_eq_false_iff_eq, Bool.not_eq_true', Bool.not_eq_false', ne_eq, Int.not_lt, Int.not_le] at hc28
          refine WC.skip ?_
          refine End.blkN ?_
          refine End.seq ?_
          refine WC.region ?_
          refine WL.p rfl rfl rfl (P.ari64 rfl rfl rfl (by omega)) ?_
          refine WL.p rfl rfl rfl (P.move rfl) ?_
          refine WL.nil_ ?_
          refine End.againD (k + 1) ?_ ?_ rfl (Env.sub_cons rfl (Env.sub_nil)) rfl [0] rfl rfl
          · exact ⟨by omega, by rw [all_snoc hq, ht, Bool.true_and]; simpa using hc28⟩
          · omega
      ·
        try simp only [decide_eq_true_eq, decide_eq_false_iff_not, beq_iff_eq, beq_eq_false_iff_ne, bne_iff_ne, bne_eq_false_iff_eq, Bool.not_eq_true', Bool.not_eq_false', ne_eq, Int.not_lt, Int.not_le] at hc22
        refine WC.exit ?_
        refine End.thenX ?_
        refine End.thenX ?_
        refine End.blkX ?_
        refine End.seq ?_
        refine WC.seq ?_
        refine WC.region ?_
        refine WL.p rfl rfl rfl (P.assign rfl) ?_
        refine WL.nil_ ?_
        refine End.seq ?_
        refine WC.ret ?_
        refine End.ret1 rfl rfl ?_
        have e : k = (parts s).length := by omega
        rw [List.take_of_length_le (by omega)] at ht
        exact fun w' hs' => RetV.of (by rw [allB_true (by omega) (by omega) ht]) hs'

def nameB (s : ByteArray) : Bool := allB 31 (fun q => nameQ q.data.toList) s

set_option maxRecDepth 100000 in
theorem nameValid_any (s : ByteArray) (w : World) (hg : Good w) :
    Calls Tryz.prog 76 #[.string s] w (RetV w (.bool (nameB s))) := by
  refine enter Tryz.func76 rfl Tryz.ntmps76 rfl ?_
  refine WC.seq ?_
  refine WC.region ?_
  refine WL.p rfl rfl rfl (P.assign rfl) ?_
  refine WL.nil_ ?_
  refine End.seq ?_
  refine WC.seq ?_
  refine WC.region ?_
  refine WL.p rfl rfl rfl (P.move rfl) ?_
  refine WL.callv (ent_of Tryz.func162 rfl rfl) rfl rfl rfl (fun w hs => all_any s 31 163 #[] _ w (hg.st hs) (valid1_pred w) (by omega)) ?_
  refine WL.p rfl rfl rfl (P.assign rfl) ?_
  refine WL.nil_ ?_
  refine End.seq ?_
  refine WC.ret ?_
  refine End.ret1 rfl rfl ?_
  exact fun w' hs' => RetV.of rfl hs'

/-- The four digits of a generation, as a number; none: 0. -/
def genNum (l : List UInt8) : Int :=
  if l.length = 8 ∧ l[0]?.getD 0 = 71 ∧ l.drop 5 = [86, 48, 48] ∧ ((l.take 5).drop 1).all (fun c => isDigit (c.toNat : Int)) = true then ((l.take 5).drop 1).foldl (fun n c => 10 * n + ((c.toNat : Int) - 48)) 0 else 0
theorem take_drop_fold {l : List UInt8} {k : Nat} (h1 : 1 ≤ k) (h2 : k < l.length) (f : Int → UInt8 → Int) (z : Int) : ((l.take (k + 1)).drop 1).foldl f z = f (((l.take k).drop 1).foldl f z) (l[k]?.getD 0) := by
  have hx : l[k]? = some l[k] := List.getElem?_eq_getElem h2
  rw [take_snoc hx, List.drop_append_of_le_length (by simp; omega), List.foldl_append, hx]
  rfl
theorem u8_lt (c : UInt8) : (c.toNat : Int) < 256 := by have := c.toNat_lt; omega
theorem digit_le {c : UInt8} (h : isDigit (c.toNat : Int) = true) : 48 ≤ (c.toNat : Int) ∧ (c.toNat : Int) ≤ 57 := by
  unfold isDigit at h
  rw [Bool.and_eq_true, decide_eq_true_eq, decide_eq_true_eq] at h
  exact h
theorem wrap_u8 {p : Int} (h0 : 0 ≤ p) (h1 : p < 256) : IntKind.u8.wrap p = p := by
  have e : IntKind.u8.wrap p = p % 256 := rfl
  rw [e]; omega
theorem wrap_i64 {p : Int} (h : -9223372036854775808 ≤ p ∧ p ≤ 9223372036854775807) : IntKind.i64.wrap p = p := wrap_in h
theorem extract_bytes (s : ByteArray) (a b : Nat) : (s.extract a b).toList = (s.data.toList.take b).drop a := by
  rw [ByteArray.toList_eq, ByteArray.data_extract]
  simp [List.drop_take]

theorem pow_step {k : Nat} {n c : Int} (h1 : 1 ≤ k) (h4 : k ≤ 4) (h0 : 0 ≤ n) (h : n < 10 ^ (k - 1)) (hc : 48 ≤ c ∧ c ≤ 57) : 10 * n + (c - 48) < 10 ^ (k + 1 - 1) := by
  rcases (by omega : k = 1 ∨ k = 2 ∨ k = 3 ∨ k = 4) with rfl | rfl | rfl | rfl <;> simp at h ⊢ <;> omega
theorem pow_small {k : Nat} {n : Int} (h1 : 1 ≤ k) (h4 : k ≤ 4) (h : n < 10 ^ (k - 1)) : n < 10000 := by
  rcases (by omega : k = 1 ∨ k = 2 ∨ k = 3 ∨ k = 4) with rfl | rfl | rfl | rfl <;> simp at h <;> omega
abbrev gf (n : Int) (c : UInt8) : Int := 10 * n + ((c.toNat : Int) - 48)
theorem genNum_zero {l : List UInt8} (h : ¬ (l.length = 8 ∧ l[0]?.getD 0 = 71 ∧ l.drop 5 = [86, 48, 48] ∧ ((l.take 5).drop 1).all (fun c => isDigit (c.toNat : Int)) = true)) : genNum l = 0 := if_neg h
theorem u8_eq {c : UInt8} {d : Nat} (hd : d < 256) (h : (c.toNat : Int) = d) : c = UInt8.ofNat d := by
  apply UInt8.toNat_inj.1
  simp
  omega
theorem all_false_at {l : List UInt8} {k m : Nat} (h1 : 1 ≤ k) (h2 : k < l.length) (hm : k < m) {p : UInt8 → Bool} (h : p (l[k]?.getD 0) = false) : ((l.take m).drop 1).all p = false := by
  rw [Bool.eq_false_iff]
  intro he
  rw [List.all_eq_true] at he
  have hx : l[k]? = some l[k] := List.getElem?_eq_getElem h2
  have := he l[k] (List.mem_iff_getElem?.2 ⟨k - 1, by rw [List.getElem?_drop, show 1 + (k - 1) = k by omega, List.getElem?_take_of_lt hm, hx]⟩)
  rw [hx] at h
  simp [this] at h

set_option maxRecDepth 100000 in
theorem number_any (s : ByteArray) (w : World) (hsz : s.size < 4294967281) :
    Calls Tryz.prog 260 #[.string s] w (RetV w (.int .i64 (genNum s.data.toList))) := by
  have hl : s.size = s.data.toList.length := rfl
  refine enter Tryz.func260 rfl Tryz.ntmps260 rfl ?_
  refine WC.seq ?_
  refine WC.region ?_
  refine WL.p rfl rfl rfl (P.assign rfl) ?_
  refine WL.nil_ ?_
  refine End.seq ?_
  refine WC.seq ?_
  refine WC.seq ?_
  refine WC.region ?_
  refine WL.p rfl rfl rfl (P.move rfl) ?_
  refine WL.p rfl rfl rfl (P.lenS Tryz.underlying9 rfl) ?_
  refine WL.p rfl rfl rfl (P.cmp rfl rfl rfl) ?_
  refine WL.p rfl rfl rfl (P.move rfl) ?_
  refine WL.split 8 rfl (fun hs8 => ?_) (fun hs8 => ?_)
  ·
    try simp only [decide_eq_true_eq, decide_eq_false_iff_not, beq_iff_eq, beq_eq_false_iff_ne, bne_iff_ne, bne_eq_false_iff_eq, Bool.not_eq_true', Bool.not_eq_false', ne_eq, Int.not_lt, Int.not_le] at hs8
    refine WL.off rfl rfl ?_
    refine WL.off rfl rfl ?_
    refine WL.off rfl rfl ?_
    refine WL.p rfl rfl rfl (P.pickT rfl rfl) ?_
    refine WL.p rfl rfl rfl (P.move rfl) ?_
    refine WL.off rfl rfl ?_
    refine WL.off rfl rfl ?_
    refine WL.off rfl rfl ?_
    refine WL.p rfl rfl rfl (P.pickT rfl rfl) ?_
    refine WL.nil_ ?_
    refine End.seq ?_
    refine WC.condT rfl ?_
    refine WC.seq ?_
    refine WC.region ?_
    refine WL.p rfl rfl rfl (P.assign rfl) ?_
    refine WL.nil_ ?_
    refine End.seq ?_
    refine WC.ret ?_
    refine End.thenR ?_
    refine End.ret1 rfl rfl ?_
    exact fun w' hs' => RetV.of (by rw [genNum_zero (fun h => hs8 (by omega))]) hs'
  ·
    try simp only [decide_eq_true_eq, decide_eq_false_iff_not, beq_iff_eq, beq_eq_false_iff_ne, bne_iff_ne, bne_eq_false_iff_eq, Bool.not_eq_true', Bool.not_eq_false', ne_eq, Int.not_lt, Int.not_le] at hs8
    refine WL.p rfl rfl rfl (P.move rfl) ?_
    refine WL.p rfl rfl rfl (P.byte Tryz.underlying9 rfl rfl (by omega) (by omega)) ?_
    refine WL.p rfl rfl rfl (P.cmp rfl rfl rfl) ?_
    refine WL.p rfl rfl rfl (P.pickF rfl rfl) ?_
    refine WL.p rfl rfl rfl (P.move rfl) ?_
    refine WL.split 13 rfl (fun hs13 => ?_) (fun hs13 => ?_)
    ·
      try simp only [decide_eq_true_eq, decide_eq_false_iff_not, beq_iff_eq, beq_eq_false_iff_ne, bne_iff_ne, bne_eq_false_iff_eq, Bool.not_eq_true', Bool.not_eq_false', ne_eq, Int.not_lt, Int.not_le] at hs13
      refine WL.off rfl rfl ?_
      refine WL.off rfl rfl ?_
      refine WL.off rfl rfl ?_
      refine WL.p rfl rfl rfl (P.pickT rfl rfl) ?_
      refine WL.nil_ ?_
      refine End.seq ?_
      refine WC.condT rfl ?_
      refine WC.seq ?_
      refine WC.region ?_
      refine WL.p rfl rfl rfl (P.assign rfl) ?_
      refine WL.nil_ ?_
      refine End.seq ?_
      refine WC.ret ?_
      refine End.thenR ?_
      refine End.ret1 rfl rfl ?_
      exact fun w' hs' => RetV.of (by rw [genNum_zero (fun h => hs13 (by rw [show (0 : Int).toNat = 0 from rfl, h.2.1]; rfl))]) hs'
    ·
      try simp only [decide_eq_true_eq, decide_eq_false_iff_not, beq_iff_eq, beq_eq_false_iff_ne, bne_iff_ne, bne_eq_false_iff_eq, Bool.not_eq_true', Bool.not_eq_false', ne_eq, Int.not_lt, Int.not_le] at hs13
      refine WL.p rfl rfl rfl (P.move rfl) ?_
      refine WL.p rfl rfl rfl (P.subL Tryz.underlying9 rfl rfl (by omega) (by omega)) ?_
      refine WL.p rfl rfl rfl (P.cmps rfl rfl rfl) ?_
      refine WL.p rfl rfl rfl (P.pickF rfl rfl) ?_
      refine WL.nil_ ?_
      refine End.seq ?_
      refine WC.cond rfl (fun hc17 => ?_) (fun hc17 => ?_)
      ·
        try simp only [decide_eq_true_eq, decide_eq_false_iff_not, beq_iff_eq, beq_eq_false_iff_ne, bne_iff_ne, bne_eq_false_iff_eq, Bool.not_eq_true', Bool.not_eq_false', ne_eq, Int.not_lt, Int.not_le] at hc17
        refine WC.seq ?_
        refine WC.region ?_
        refine WL.p rfl rfl rfl (P.assign rfl) ?_
        refine WL.nil_ ?_
        refine End.seq ?_
        refine WC.ret ?_
        refine End.thenR ?_
        refine End.ret1 rfl rfl ?_
        exact fun w' hs' => RetV.of (by rw [genNum_zero (fun h => hc17 (by rw [extract_bytes, List.take_of_length_le (by omega), show (5 : Int).toNat = 5 from rfl, h.2.2.1, ByteArray.toList_eq]))]) hs'
      ·
        try simp only [decide_eq_true_eq, decide_eq_false_iff_not, beq_iff_eq, beq_eq_false_iff_ne, bne_iff_ne, bne_eq_false_iff_eq, Bool.not_eq_true', Bool.not_eq_false', ne_eq, Int.not_lt, Int.not_le] at hc17
        refine WC.skip ?_
        refine End.seq ?_
        refine WC.seq ?_
        refine WC.region ?_
        refine WL.p rfl rfl rfl (P.assign rfl) ?_
        refine WL.nil_ ?_
        refine End.seq ?_
        refine WC.seq ?_
        refine WC.seq ?_
        refine WC.region ?_
        refine WL.p rfl rfl rfl (P.assign rfl) ?_
        refine WL.nil_ ?_
        refine End.seq ?_
        refine WC.block ?_
        refine WC.loopD (σ := Nat × Int) (fun (k, n) => [(4, .int .i64 (k : Nat)), (3, .int .i64 n)]) (fun (k, n) => []) (fun (k, n) => 1 ≤ k ∧ k ≤ 5 ∧ ((s.data.toList.take k).drop 1).all (fun c => isDigit (c.toNat : Int)) = true ∧ ((s.data.toList.take k).drop 1).foldl gf 0 = n ∧ 0 ≤ n ∧ n < 10 ^ (k - 1)) (fun (k, n) => 5 - k) (1, 0) ⟨Nat.le_refl _, by decide, by rw [List.drop_eq_nil_of_le (by rw [List.length_take]; omega)]; rfl, by rw [List.drop_eq_nil_of_le (by rw [List.length_take]; omega)]; rfl, Int.le_refl _, by decide⟩ (Env.sub_cons rfl (Env.sub_cons rfl (Env.sub_nil))) [] rfl rfl ?_
        rintro ⟨k, n⟩ ⟨hk1, hk, ht, hn, hn0, hn1⟩
        refine WC.seq ?_
        refine WC.seq ?_
        refine WC.region ?_
        refine WL.p rfl rfl rfl (P.move rfl) ?_
        refine WL.p rfl rfl rfl (P.cmp rfl rfl rfl) ?_
        refine WL.nil_ ?_
        refine End.seq ?_
        refine WC.cond rfl (fun hc19 => ?_) (fun hc19 => ?_)
        ·
          try simp only [decide_eq_true_eq, decide_eq_false_iff_not, beq_iff_eq, beq_eq_false_iff_ne, bne_iff_ne, bne_eq_false_iff_eq, Bool.not_eq_true', Bool.not_eq_false', ne_eq, Int.not_lt, Int.not_le] at hc19
          refine WC.skip ?_
          refine End.seq ?_
          refine WC.seq ?_
          refine WC.block ?_
          refine WC.seq ?_
          refine WC.seq ?_
          refine WC.region ?_
          refine WL.p rfl rfl rfl (P.move rfl) ?_
          refine WL.p rfl rfl rfl (P.move rfl) ?_
          refine WL.p rfl rfl rfl (P.byte Tryz.underlying9 rfl rfl (by omega) (by omega)) ?_
          refine WL.callv (ent_of Tryz.func246 rfl rfl) rfl rfl rfl (fun w hs => digit_any _ w) ?_
          refine WL.p rfl rfl rfl (P.not_ rfl) ?_
          refine WL.nil_ ?_
          refine End.seq ?_
          refine WC.cond rfl (fun hc26 => ?_) (fun hc26 => ?_)
          ·
            try simp only [decide_eq_true_eq, decide_eq_false_iff_not, beq_iff_eq, beq_eq_false_iff_ne, bne_iff_ne, bne_eq_false_iff_eq, Bool.not_eq_true', Bool.not_eq_false', ne_eq, Int.not_lt, Int.not_le] at hc26
            refine WC.seq ?_
            refine WC.region ?_
            refine WL.p rfl rfl rfl (P.assign rfl) ?_
            refine WL.nil_ ?_
            refine End.seq ?_
            refine WC.ret ?_
            refine End.thenR ?_
            refine End.blkR ?_
            refine End.thenR ?_
            refine End.thenR ?_
            refine End.blkR ?_
            refine End.thenR ?_
            refine End.ret1 rfl rfl ?_
            exact fun w' hs' => RetV.of (by rw [genNum_zero (fun h => by have := all_false_at (l := s.data.toList) (k := k) hk1 (by omega) (m := 5) (by omega) (p := fun c => isDigit (c.toNat : Int)) (by simpa using hc26); rw [h.2.2.2] at this; cases this)]) hs'
          ·
            try simp only [decide_eq_true_eq, decide_eq_false_iff_not, beq_iff_eq, beq_eq_false_iff_ne, bne_iff_ne, bne_eq_false_iff_eq, Bool.not_eq_true', Bool.not_eq_false', ne_eq, Int.not_lt, Int.not_le] at hc26
            have hdg : isDigit ((s.data.toList[(k : Int).toNat]?.getD 0).toNat : Int) = true := by simpa using hc26
            have hd2 := digit_le hdg
            have hn9 : n < 10000 := pow_small hk1 (by omega) hn1
            refine WC.skip ?_
            refine End.seq ?_
            refine WC.region ?_
            refine WL.p rfl rfl rfl (P.move rfl) ?_
            refine WL.p rfl rfl rfl (P.ari64 rfl rfl rfl (by omega)) ?_
            refine WL.p rfl rfl rfl (P.move rfl) ?_
            refine WL.p rfl rfl rfl (P.move rfl) ?_
            refine WL.p rfl rfl rfl (P.byte Tryz.underlying9 rfl rfl (by omega) (by omega)) ?_
            refine WL.p rfl rfl rfl (P.ari rfl rfl rfl) ?_
            refine WL.is 32 rfl (congrArg (Value.int .u8) (wrap_u8 (by omega) (by omega))) ?_
            refine WL.p rfl rfl rfl (P.conv (by kernel_rfl) Tryz.underlying3 rfl (wrap_i64 (by omega))) ?_
            refine WL.p rfl rfl rfl (P.ari64 rfl rfl rfl (by omega)) ?_
            refine WL.p rfl rfl rfl (P.assign rfl) ?_
            refine WL.nil_ ?_
            refine End.blkN ?_
            refine End.seq ?_
            refine WC.region ?_
            refine WL.p rfl rfl rfl (P.move rfl) ?_
            refine WL.p rfl rfl rfl (P.ari64 rfl rfl rfl (by omega)) ?_
            refine WL.p rfl rfl rfl (P.assign rfl) ?_
            refine WL.nil_ ?_
            refine End.againD (k + 1, 10 * n + (((s.data.toList[(k : Int).toNat]?.getD 0).toNat : Int) - 48)) ?_ ?_ rfl (Env.sub_cons rfl (Env.sub_cons rfl (Env.sub_nil))) rfl [] rfl rfl
            · exact ⟨by omega, by omega, by rw [take_drop_snoc (l := s.data.toList) (k := k) hk1 (by omega), ht, Bool.true_and]; exact hdg, by rw [take_drop_fold (l := s.data.toList) (k := k) hk1 (by omega), hn]; rfl, by omega, pow_step hk1 (by omega) hn0 hn1 hd2⟩
            · show 5 - (k + 1) < 5 - k; omega
        ·
          try simp only [decide_eq_true_eq, decide_eq_false_iff_not, beq_iff_eq, beq_eq_false_iff_ne, bne_iff_ne, bne_eq_false_iff_eq, Bool.not_eq_true', Bool.not_eq_false', ne_eq, Int.not_lt, Int.not_le] at hc19
          refine WC.exit ?_
          refine End.thenX ?_
          refine End.thenX ?_
          refine End.blkX ?_
          refine End.seq ?_
          refine WC.seq ?_
          refine WC.region ?_
          refine WL.p rfl rfl rfl (P.move rfl) ?_
          refine WL.p rfl rfl rfl (P.assign rfl) ?_
          refine WL.nil_ ?_
          refine End.seq ?_
          refine WC.ret ?_
          refine End.ret1 rfl rfl ?_
          have e : k = 5 := by omega
          subst e
          rw [extract_bytes, List.take_of_length_le (by omega)] at hc17
          exact fun w' hs' => RetV.of (by rw [genNum, if_pos ⟨by omega, u8_eq (by decide) (by simpa using hs13), by simpa [ByteArray.toList_eq] using hc17, ht⟩]; exact congrArg _ hn.symm) hs'

def isGenQ (s : ByteArray) : Bool := decide (0 < genNum s.data.toList)

set_option maxRecDepth 100000 in
theorem isGroup1_any (s : ByteArray) (w : World) (hsz : s.size < 4294967281) :
    Calls Tryz.prog 259 #[.string s] w (RetV w (.bool (isGenQ s))) := by
  refine enter Tryz.func259 rfl Tryz.ntmps259 rfl ?_
  refine WC.seq ?_
  refine WC.region ?_
  refine WL.p rfl rfl rfl (P.assign rfl) ?_
  refine WL.nil_ ?_
  refine End.seq ?_
  refine WC.seq ?_
  refine WC.region ?_
  refine WL.p rfl rfl rfl (P.move rfl) ?_
  refine WL.callv (ent_of Tryz.func260 rfl rfl) rfl rfl rfl (fun w hs => number_any s w hsz) ?_
  refine WL.p rfl rfl rfl (P.cmp rfl rfl rfl) ?_
  refine WL.p rfl rfl rfl (P.assign rfl) ?_
  refine WL.nil_ ?_
  refine End.seq ?_
  refine WC.ret ?_
  refine End.ret1 rfl rfl ?_
  exact fun w' hs' => RetV.of rfl hs'

theorem isGroup1_pred (w : World) : Pred1 w 259 #[] isGenQ := ⟨ent_of Tryz.func259 rfl rfl, fun q w' _ h => isGroup1_any q w' h⟩
theorem any_false_snoc {α : Type} {l : List α} {k : Nat} {x : α} (hx : l[k]? = some x) (p : α → Bool) : (l.take (k + 1)).any p = ((l.take k).any p || p x) := by rw [take_snoc hx]; simp
theorem idx_hit {l : List ByteArray} {k : Nat} {x : ByteArray} {p : ByteArray → Bool} (hx : l[k]? = some x) (h : p x = true) : l.any p = true := by rw [List.any_eq_true]; exact ⟨x, List.mem_of_getElem? hx, h⟩

set_option maxRecDepth 100000 in
theorem indexFuncS_any (A : Option Addr) (c : Nat) (xs : List ByteArray) (g : Nat) (cap : Array Value) (p : ByteArray → Bool) (w : World) (hr : Sl encS 1 w A xs) (hp : Pred1 w g cap p) (hq : ∀ q ∈ xs, q.size < 4294967281) :
    Calls Tryz.prog 300 #[.slice A xs.length c, .func (.func g) #[] cap] w (Ret w (fun i : Int => decide (0 ≤ i) = xs.any p) (fun i => .int .i64 i) (fun _ => [])) := by
  have hl := hr.1
  refine enter Tryz.func300 rfl Tryz.ntmps300 rfl ?_
  refine WC.seq ?_
  refine WC.region ?_
  refine WL.p rfl rfl rfl (P.assign rfl) ?_
  refine WL.nil_ ?_
  refine End.seq ?_
  refine WC.seq ?_
  refine WC.seq ?_
  refine WC.region ?_
  refine WL.p rfl rfl rfl (P.move rfl) ?_
  refine WL.p rfl rfl rfl (P.lenR Tryz.underlying48 rfl) ?_
  refine WL.p rfl rfl rfl (P.move rfl) ?_
  refine WL.nil_ ?_
  refine End.seq ?_
  refine WC.block ?_
  refine WC.loopD (σ := Nat) (fun k => [(8, .int .i64 k)]) (fun k => []) (fun k => k ≤ xs.length ∧ (xs.take k).any p = false) (fun k => xs.length - k) 0 ⟨Nat.zero_le _, rfl⟩ (Env.sub_cons rfl (Env.sub_nil)) [] rfl rfl ?_
  rintro k ⟨hk, ht⟩
  refine WC.seq ?_
  refine WC.region ?_
  refine WL.p rfl rfl rfl (P.cmp rfl rfl rfl) ?_
  refine WL.nil_ ?_
  refine End.seq ?_
  refine WC.seq ?_
  refine WC.cond rfl (fun hc9 => ?_) (fun hc9 => ?_)
  ·
    try simp only [decide_eq_true_eq, decide_eq_false_iff_not, beq_iff_eq, beq_eq_false_iff_ne, bne_iff_ne, bne_eq_false_iff_eq, Bool.not_eq_true', Bool.not_eq_false', ne_eq, Int.not_lt, Int.not_le] at hc9
    obtain ⟨b, off, rfl, hcx⟩ := hr.at_ (by omega)
    obtain ⟨x, hx⟩ := get_of_lt (xs := xs) (k := k) (by omega)
    refine WC.skip ?_
    refine End.seq ?_
    refine WC.seq ?_
    refine WC.block ?_
    refine WC.seq ?_
    refine WC.region ?_
    refine WL.p rfl rfl rfl (P.move rfl) ?_
    refine WL.p rfl rfl rfl (P.assign rfl) ?_
    refine WL.nil_ ?_
    refine End.seq ?_
    refine WC.seq ?_
    refine WC.region ?_
    refine WL.p rfl rfl rfl (P.move rfl) ?_
    refine WL.p rfl rfl rfl (P.move rfl) ?_
    refine WL.p rfl rfl rfl (P.move rfl) ?_
    refine WL.p rfl rfl rfl (P.elemAddr Tryz.underlying48 Tryz.sizeOf9 rfl rfl (by omega) (by omega)) ?_
    refine WL.p rfl rfl rfl (P.loadB Tryz.isAgg9 rfl (hcx k x hx 0 _ rfl)) ?_
    refine WL.callc hp.ent rfl rfl rfl rfl (fun w hs => hp.at' x hs (hq x (List.mem_of_getElem? hx))) ?_
    refine WL.nil_ ?_
    refine End.seq ?_
    refine WC.cond rfl (fun hc16 => ?_) (fun hc16 => ?_)
    ·
      try simp only [decide_eq_true_eq, decide_eq_false_iff_not, beq_iff_eq, beq_eq_false_iff_ne, bne_iff_ne, bne_eq_false_iff_eq, Bool.not_eq_true', Bool.not_eq_false', ne_eq, Int.not_lt, Int.not_le] at hc16
      refine WC.seq ?_
      refine WC.region ?_
      refine WL.p rfl rfl rfl (P.move rfl) ?_
      refine WL.p rfl rfl rfl (P.assign rfl) ?_
      refine WL.nil_ ?_
      refine End.seq ?_
      refine WC.ret ?_
      refine End.blkR ?_
      refine End.thenR ?_
      refine End.thenR ?_
      refine End.blkR ?_
      refine End.thenR ?_
      refine End.ret1 rfl rfl ?_
      exact fun w' hs' => ⟨k, by rw [idx_hit hx hc16]; simp, rfl, hs'⟩
    ·
      try simp only [decide_eq_true_eq, decide_eq_false_iff_not, beq_iff_eq, beq_eq_false_iff_ne, bne_iff_ne, bne_eq_false_iff_eq, Bool.not_eq_true', Bool.not_eq_false', ne_eq, Int.not_lt, Int.not_le] at hc16
      refine WC.skip ?_
      refine End.blkN ?_
      refine End.seq ?_
      refine WC.region ?_
      refine WL.p rfl rfl rfl (P.ari64 rfl rfl rfl (by omega)) ?_
      refine WL.p rfl rfl rfl (P.move rfl) ?_
      refine WL.nil_ ?_
      refine End.againD (k + 1) ?_ ?_ rfl (Env.sub_cons rfl (Env.sub_nil)) rfl [] rfl rfl
      · exact ⟨by omega, by rw [any_false_snoc hx, ht, Bool.false_or]; simpa using hc16⟩
      · omega
  ·
    try simp only [decide_eq_true_eq, decide_eq_false_iff_not, beq_iff_eq, beq_eq_false_iff_ne, bne_iff_ne, bne_eq_false_iff_eq, Bool.not_eq_true', Bool.not_eq_false', ne_eq, Int.not_lt, Int.not_le] at hc9
    refine WC.exit ?_
    refine End.thenX ?_
    refine End.thenX ?_
    refine End.blkX ?_
    refine End.seq ?_
    refine WC.seq ?_
    refine WC.region ?_
    refine WL.p rfl rfl rfl (P.assign rfl) ?_
    refine WL.nil_ ?_
    refine End.seq ?_
    refine WC.ret ?_
    refine End.ret1 rfl rfl ?_
    have e : k = xs.length := by omega
    rw [List.take_of_length_le (by omega)] at ht
    exact fun w' hs' => ⟨-1, by rw [ht]; rfl, rfl, hs'⟩

set_option maxRecDepth 100000 in
theorem containsFuncS_any (A : Option Addr) (c : Nat) (xs : List ByteArray) (g : Nat) (cap : Array Value) (p : ByteArray → Bool) (w : World) (hr : Sl encS 1 w A xs) (hp : Pred1 w g cap p) (hq : ∀ q ∈ xs, q.size < 4294967281) :
    Calls Tryz.prog 258 #[.slice A xs.length c, .func (.func g) #[] cap] w (RetV w (.bool (xs.any p))) := by
  refine enter Tryz.func258 rfl Tryz.ntmps258 rfl ?_
  refine WC.seq ?_
  refine WC.region ?_
  refine WL.p rfl rfl rfl (P.assign rfl) ?_
  refine WL.nil_ ?_
  refine End.seq ?_
  refine WC.seq ?_
  refine WC.region ?_
  refine WL.p rfl rfl rfl (P.move rfl) ?_
  refine WL.p rfl rfl rfl (P.move rfl) ?_
  refine WL.callx (ent_of Tryz.func300 rfl rfl) rfl rfl rfl (fun w hs => indexFuncS_any A c xs g cap p w (hr.st hs) ⟨hp.ent, fun q w' hb => hp.at_ q w' (hs.below.trans (hb.mono hs.size))⟩ hq) (fun i hi => ?_)
  refine WL.p rfl rfl rfl (P.cmp rfl rfl rfl) ?_
  refine WL.p rfl rfl rfl (P.assign rfl) ?_
  refine WL.nil_ ?_
  refine End.seq ?_
  refine WC.ret ?_
  refine End.ret1 rfl rfl ?_
  exact fun w' hs' => RetV.of (by rw [← hi]) hs'

def groupB (s : ByteArray) : Bool := decide (s.size ≤ 22) && (nameB s && !((parts s).any isGenQ))
theorem sl_row {w0 w : World} {H : List It} {j b : Nat} {xs : List ByteArray} (hs : St w0 H w) (hj : H[j]? = some (.blk b 9 (xs.map Value.string).toArray)) (hl : xs.length ≤ 140737488351232) : Sl encS 1 w (some ⟨b, 0, none⟩) xs :=
  ⟨hl, fun _ => ⟨b, 0, rfl, fun k x hx i u hu => by
    have hb := (hs.ok j _ hj).2
    cases i with
    | zero =>
      simp [encS] at hu
      subst hu
      rw [cell_blk hb]
      simp [hx]
    | succ i => simp [encS] at hu⟩⟩

set_option maxRecDepth 100000 in
theorem isGroup_any (s : ByteArray) (w : World) (hg : Good w) :
    Calls Tryz.prog 187 #[.string s] w (RetV w (.bool (groupB s))) := by
  refine enter Tryz.func187 rfl Tryz.ntmps187 rfl ?_
  refine WC.seq ?_
  refine WC.region ?_
  refine WL.p rfl rfl rfl (P.assign rfl) ?_
  refine WL.nil_ ?_
  refine End.seq ?_
  refine WC.seq ?_
  refine WC.region ?_
  refine WL.p rfl rfl rfl (P.move rfl) ?_
  refine WL.p rfl rfl rfl (P.lenS Tryz.underlying9 rfl) ?_
  refine WL.p rfl rfl rfl (P.cmp rfl rfl rfl) ?_
  refine WL.p rfl rfl rfl (P.move rfl) ?_
  refine WL.split 6 rfl (fun hs6 => ?_) (fun hs6 => ?_)
  ·
    try simp only [decide_eq_true_eq, decide_eq_false_iff_not, beq_iff_eq, beq_eq_false_iff_ne, bne_iff_ne, bne_eq_false_iff_eq, Bool.not_eq_true', Bool.not_eq_false', ne_eq, Int.not_lt, Int.not_le] at hs6
    refine WL.p rfl rfl rfl (P.move rfl) ?_
    refine WL.callv (ent_of Tryz.func76 rfl rfl) rfl rfl rfl (fun w hs => nameValid_any s w (hg.st hs)) ?_
    refine WL.p rfl rfl rfl (P.pickT rfl rfl) ?_
    refine WL.p rfl rfl rfl (P.move rfl) ?_
    refine WL.split 10 rfl (fun hs10 => ?_) (fun hs10 => ?_)
    ·
      try simp only [decide_eq_true_eq, decide_eq_false_iff_not, beq_iff_eq, beq_eq_false_iff_ne, bne_iff_ne, bne_eq_false_iff_eq, Bool.not_eq_true', Bool.not_eq_false', ne_eq, Int.not_lt, Int.not_le] at hs10
      refine WL.p rfl rfl rfl (P.move rfl) ?_
      refine WL.callx (ent_of Tryz.func107 rfl rfl) rfl rfl rfl (fun w hs => split_any s w (hg.st hs) (by omega)) (fun b _ => ?_)
      refine WL.callv (ent_of Tryz.func258 rfl rfl) rfl rfl rfl (fun w hs => containsFuncS_any _ _ _ 259 #[] _ w (sl_row hs (j := 0) rfl (by have := parts_le s; omega)) ⟨(isGroup1_pred w).ent, fun q w' _ h => isGroup1_any q w' h⟩ (fun q hq => by have := parts_size hq; omega)) ?_
      refine WL.p rfl rfl rfl (P.not_ rfl) ?_
      refine WL.p rfl rfl rfl (P.pickT rfl rfl) ?_
      refine WL.p rfl rfl rfl (P.assign rfl) ?_
      refine WL.nil_ ?_
      refine End.seq ?_
      refine WC.ret ?_
      refine End.ret1 rfl rfl ?_
      exact fun w' hs' => RetV.of (by rw [groupB, decide_eq_true (by omega : s.size ≤ 22), hs10]; rfl) hs'
    ·
      try simp only [decide_eq_true_eq, decide_eq_false_iff_not, beq_iff_eq, beq_eq_false_iff_ne, bne_iff_ne, bne_eq_false_iff_eq, Bool.not_eq_true', Bool.not_eq_false', ne_eq, Int.not_lt, Int.not_le] at hs10
      refine WL.off rfl rfl ?_
      refine WL.off rfl rfl ?_
      refine WL.off rfl rfl ?_
      refine WL.off rfl rfl ?_
      refine WL.p rfl rfl rfl (P.pickF rfl rfl) ?_
      refine WL.p rfl rfl rfl (P.assign rfl) ?_
      refine WL.nil_ ?_
      refine End.seq ?_
      refine WC.ret ?_
      refine End.ret1 rfl rfl ?_
      exact fun w' hs' => RetV.of (by rw [groupB, hs10]; simp) hs'
  ·
    try simp only [decide_eq_true_eq, decide_eq_false_iff_not, beq_iff_eq, beq_eq_false_iff_ne, bne_iff_ne, bne_eq_false_iff_eq, Bool.not_eq_true', Bool.not_eq_false', ne_eq, Int.not_lt, Int.not_le] at hs6
    refine WL.off rfl rfl ?_
    refine WL.off rfl rfl ?_
    refine WL.p rfl rfl rfl (P.pickF rfl rfl) ?_
    refine WL.p rfl rfl rfl (P.move rfl) ?_
    refine WL.off rfl rfl ?_
    refine WL.off rfl rfl ?_
    refine WL.off rfl rfl ?_
    refine WL.off rfl rfl ?_
    refine WL.p rfl rfl rfl (P.pickF rfl rfl) ?_
    refine WL.p rfl rfl rfl (P.assign rfl) ?_
    refine WL.nil_ ?_
    refine End.seq ?_
    refine WC.ret ?_
    refine End.ret1 rfl rfl ?_
    exact fun w' hs' => RetV.of (by rw [groupB, decide_eq_false (by omega : ¬ s.size ≤ 22)]; rfl) hs'

def wordB (s : ByteArray) : Bool := nameB s && !decide (0 ≤ Lib.indexByte s.data.toList 46)

set_option maxRecDepth 100000 in
theorem word_any (s : ByteArray) (w : World) (hg : Good w) :
    Calls Tryz.prog 202 #[.string s] w (RetV w (.bool (wordB s))) := by
  refine enter Tryz.func202 rfl Tryz.ntmps202 rfl ?_
  refine WC.seq ?_
  refine WC.region ?_
  refine WL.p rfl rfl rfl (P.assign rfl) ?_
  refine WL.nil_ ?_
  refine End.seq ?_
  refine WC.seq ?_
  refine WC.region ?_
  refine WL.p rfl rfl rfl (P.move rfl) ?_
  refine WL.callv (ent_of Tryz.func76 rfl rfl) rfl rfl rfl (fun w hs => nameValid_any s w (hg.st hs)) ?_
  refine WL.p rfl rfl rfl (P.move rfl) ?_
  refine WL.split 5 rfl (fun hs5 => ?_) (fun hs5 => ?_)
  ·
    refine WL.p rfl rfl rfl (P.move rfl) ?_
    refine WL.callv (ent_of Tryz.func192 rfl rfl) rfl rfl rfl (fun w hs => contains_any s 46 w) ?_
    refine WL.p rfl rfl rfl (P.not_ rfl) ?_
    refine WL.p rfl rfl rfl (P.pickT rfl rfl) ?_
    refine WL.p rfl rfl rfl (P.assign rfl) ?_
    refine WL.nil_ ?_
    refine End.seq ?_
    refine WC.ret ?_
    refine End.ret1 rfl rfl ?_
    exact fun w' hs' => RetV.of (by rw [wordB, hs5]; rfl) hs'
  ·
    refine WL.off rfl rfl ?_
    refine WL.off rfl rfl ?_
    refine WL.off rfl rfl ?_
    refine WL.p rfl rfl rfl (P.pickF rfl rfl) ?_
    refine WL.p rfl rfl rfl (P.assign rfl) ?_
    refine WL.nil_ ?_
    refine End.seq ?_
    refine WC.ret ?_
    refine End.ret1 rfl rfl ?_
    exact fun w' hs' => RetV.of (by rw [wordB, hs5]; rfl) hs'

end Go.Proofs.YtlkkiimmangplaaGreatDoor

/- Numbers, truth values and texts written. -/
namespace Go.Proofs.YtlkkiimmangplaaGreatDoor
open Go.RowKit
set_option linter.unusedVariables false
set_option linter.unusedSimpArgs false

/-- The bytes of a number, seven bits each. -/
def encF : Nat → Int → List Int
  | 0, n => [n]
  | f + 1, n => if n < 128 then [n] else (n % 128 + 128) :: encF f (n / 128)
theorem encF_small {f : Nat} {n : Int} (h : n < 128) : encF f n = [n] := by cases f <;> simp [encF, h]
theorem encF_big {f : Nat} {n : Int} (h : 128 ≤ n) : encF (f + 1) n = (n % 128 + 128) :: encF f (n / 128) := by rw [encF, if_neg (by omega)]
theorem encF_len : ∀ (f : Nat) (n : Int), (encF f n).length ≤ f + 1
  | 0, n => by simp [encF]
  | f + 1, n => by
    unfold encF
    split
    · simp
    · have := encF_len f (n / 128)
      simp; omega
def arr10 (l : List Int) : Array Value := (l.map (Value.int .u8) ++ List.replicate (10 - l.length) (Value.int .u8 0)).toArray
theorem arr10_size {l : List Int} (h : l.length ≤ 10) : (arr10 l).size = 10 := by simp [arr10]; omega
theorem arr10_put {l : List Int} (h : l.length < 10) (x : Int) : (arr10 l).setIfInBounds l.length (.int .u8 x) = arr10 (l ++ [x]) := by
  apply Array.ext_getElem?
  intro i
  obtain ⟨m, hm⟩ : ∃ m, 10 - l.length = m + 1 := ⟨10 - l.length - 1, by omega⟩
  have hm' : 10 - (l ++ [x]).length = m := by simp; omega
  unfold arr10
  rw [hm, hm', List.setIfInBounds_toArray, List.replicate_succ]
  simp
theorem arr10_get {l : List Int} {i : Nat} (h : i < l.length) : (arr10 l)[0 + i]? = some (.int .u8 (l.getD i 0)) := by
  simp only [arr10, Nat.zero_add, List.getElem?_toArray]
  rw [List.getElem?_append_left (by simpa using h)]
  simp [h]
theorem or128 (n : Int) (w : World) : (Op.intBits .or .u8 (IntKind.u8.wrap n) 128).run Tryz.prog w = .ok (.int .u8 (n % 128 + 128)) w := by
  have key : ∀ m : Nat, m < 256 → bits .or .u8 (m : Int) 128 = (m : Int) % 128 + 128 := by decide +kernel
  have e : IntKind.u8.wrap n = ((n % 256).toNat : Int) := by
    have : IntKind.u8.wrap n = n % 256 := rfl
    rw [this]; omega
  rw [e, intBits_or, key _ (by omega)]
  simp
  omega
theorem shr7 {n : Int} : n / 2 ^ (7 : Int).toNat = n / 128 := rfl
abbrev lim (k : Nat) : Int := 2 ^ (64 - 7 * k)
theorem lim_step {k : Nat} {n : Int} (hk : k < 9) (h0 : 0 ≤ n) (h : n < lim k) : n / 128 < lim (k + 1) := by
  have : lim k = 128 * lim (k + 1) := by
    unfold lim
    rw [show 64 - 7 * k = 7 + (64 - 7 * (k + 1)) by omega, Int.pow_add]; rfl
  omega
theorem lim_nine {k : Nat} {n : Int} (hk : k ≤ 9) (h : n < lim k) (h1 : 128 ≤ n) : k < 9 := by
  rcases Nat.lt_or_ge k 9 with h2 | h2
  · exact h2
  · have : k = 9 := by omega
    subst this
    have e : lim 9 = 2 := rfl
    omega

set_option maxRecDepth 100000 in
theorem appendNumber_any (s : ByteArray) (n : Int) (w : World) (h0 : 0 ≤ n) (h1 : n < 18446744073709551616) (hs : s.size < 4611686018427387904) :
    Calls Tryz.prog 247 #[.string s, .int .u64 n] w (RetV w (.string (s ++ strOfNums (encF 9 n)))) := by
  refine enter Tryz.func247 rfl Tryz.ntmps247 rfl ?_
  refine WC.seq ?_
  refine WC.region ?_
  refine WL.p rfl rfl rfl (P.assign rfl) ?_
  refine WL.nil_ ?_
  refine End.seq ?_
  refine WC.seq ?_
  refine WC.region ?_
  refine WL.alloc Tryz.zeroValue295 rfl rfl (fun b5 => ?_)
  refine WL.nil_ ?_
  refine End.seq ?_
  refine WC.seq ?_
  refine WC.region ?_
  refine WL.p rfl rfl rfl (P.assign rfl) ?_
  refine WL.nil_ ?_
  refine End.seq ?_
  refine WC.seq ?_
  refine WC.block ?_
  refine WC.loopD (σ := Int × List Int) (fun (m, l) => [(6, .int .i64 (l.length : Nat)), (1, .int .u64 m)]) (fun (m, l) => [.blk b5 295 (arr10 l)]) (fun (m, l) => l.length ≤ 9 ∧ 0 ≤ m ∧ m < lim l.length ∧ l ++ encF (9 - l.length) m = encF 9 n) (fun (m, l) => 9 - l.length) (n, []) ⟨by decide, h0, h1, rfl⟩ (Env.sub_cons rfl (Env.sub_cons rfl (Env.sub_nil))) [0] rfl rfl ?_
  rintro ⟨m, l⟩ ⟨hl, hm0, hm1, hm⟩
  refine WC.seq ?_
  refine WC.seq ?_
  refine WC.region ?_
  refine WL.p rfl rfl rfl (P.move rfl) ?_
  refine WL.p rfl rfl rfl (P.cmp rfl rfl rfl) ?_
  refine WL.nil_ ?_
  refine End.seq ?_
  refine WC.cond rfl (fun hc8 => ?_) (fun hc8 => ?_)
  ·
    try simp only [decide_eq_true_eq, decide_eq_false_iff_not, beq_iff_eq, beq_eq_false_iff_ne, bne_iff_ne, bne_eq_false_iff_eq, Bool.not_eq_true', Bool.not_eq_false', ne_eq, Int.not_lt, Int.not_le] at hc8
    have hl9 := lim_nine hl hm1 hc8
    refine WC.skip ?_
    refine End.seq ?_
    refine WC.block ?_
    refine WC.seq ?_
    refine WC.region ?_
    refine WL.p rfl rfl rfl (P.move rfl) ?_
    refine WL.p rfl rfl rfl (P.move rfl) ?_
    refine WL.p rfl rfl rfl (P.conv (by kernel_rfl) Tryz.underlying5 rfl rfl) ?_
    refine WL.p rfl rfl rfl (P.bits rfl rfl rfl (or128 m)) ?_
    refine WL.p rfl rfl rfl (P.elemArr Tryz.underlying295 Tryz.sizeOf5 rfl rfl (by omega) (by omega)) ?_
    refine WL.store 0 Tryz.sizeOf5 rfl rfl rfl rfl rfl (by rw [arr10_size (by omega)]; simp [Nat.blt, Nat.succ_le_iff]; omega) ?_
    refine WL.nil_ ?_
    refine End.seq ?_
    refine WC.seq ?_
    refine WC.region ?_
    refine WL.p rfl rfl rfl (P.move rfl) ?_
    refine WL.p rfl rfl rfl (P.shr rfl rfl (by decide) (by decide) shr7) ?_
    refine WL.p rfl rfl rfl (P.assign rfl) ?_
    refine WL.nil_ ?_
    refine End.seq ?_
    refine WC.region ?_
    refine WL.p rfl rfl rfl (P.move rfl) ?_
    refine WL.p rfl rfl rfl (P.ari64 rfl rfl rfl (by omega)) ?_
    refine WL.p rfl rfl rfl (P.assign rfl) ?_
    refine WL.nil_ ?_
    refine End.blkN ?_
    refine End.againD (m / 128, l ++ [m % 128 + 128]) ?_ ?_ rfl (Env.sub_cons (congrArg (fun q => some (Value.int .i64 q)) (by simp)) (Env.sub_cons rfl Env.sub_nil)) rfl [0] rfl (congrArg (fun q => [It.blk b5 295 q]) (by have e := arr10_put (l := l) (by omega) (m % 128 + 128); simpa using e))
    · exact ⟨by simp; omega, by omega, by simpa using lim_step hl9 hm0 hm1, by rw [← hm, show 9 - l.length = (9 - (l.length + 1)) + 1 by omega, encF_big hc8]; simp⟩
    · show 9 - (l ++ [m % 128 + 128]).length < 9 - l.length; rw [List.length_append, List.length_singleton]; omega
  ·
    try simp only [decide_eq_true_eq, decide_eq_false_iff_not, beq_iff_eq, beq_eq_false_iff_ne, bne_iff_ne, bne_eq_false_iff_eq, Bool.not_eq_true', Bool.not_eq_false', ne_eq, Int.not_lt, Int.not_le] at hc8
    refine WC.exit ?_
    refine End.thenX ?_
    refine End.thenX ?_
    refine End.blkX ?_
    refine End.seq ?_
    refine WC.seq ?_
    refine WC.region ?_
    refine WL.p rfl rfl rfl (P.move rfl) ?_
    refine WL.p rfl rfl rfl (P.move rfl) ?_
    refine WL.p rfl rfl rfl (P.conv (by kernel_rfl) Tryz.underlying5 rfl (wrap_u8 (by omega) (by omega))) ?_
    refine WL.p rfl rfl rfl (P.elemArr Tryz.underlying295 Tryz.sizeOf5 rfl rfl (by omega) (by omega)) ?_
    refine WL.store 0 Tryz.sizeOf5 rfl rfl rfl rfl rfl (by rw [arr10_size (by omega)]; simp [Nat.blt, Nat.succ_le_iff]; omega) ?_
    refine WL.nil_ ?_
    refine End.seq ?_
    refine WC.seq ?_
    refine WC.region ?_
    refine WL.p rfl rfl rfl (P.move rfl) ?_
    refine WL.p rfl rfl rfl (P.move rfl) ?_
    refine WL.p rfl rfl rfl (P.ari64 rfl rfl rfl (by omega)) ?_
    refine WL.p rfl rfl rfl (P.arrH Tryz.underlying295 Tryz.sizeOf5 rfl rfl (by omega) (by omega)) ?_
    refine WL.p rfl rfl rfl (P.bytesOwn 0 (xs := l ++ [m]) Tryz.underlying47 Tryz.underlying5 Tryz.underlying9 rfl rfl (by simp) (fun i hi => ?_)) ?_
    · rw [show 0 + ((l.length : Nat) : Int).toNat * 1 = l.length by simp, arr10_put (by omega)]; exact arr10_get (by simp at hi ⊢; omega)
    refine WL.p rfl rfl rfl (P.cat rfl rfl (by rw [strOfNums_size]; simp; omega)) ?_
    refine WL.p rfl rfl rfl (P.assign rfl) ?_
    refine WL.nil_ ?_
    refine End.seq ?_
    refine WC.ret ?_
    refine End.ret1 rfl rfl ?_
    exact fun w' hs' => RetV.of (by rw [← hm, encF_small (by omega)]) hs'

set_option maxRecDepth 100000 in
theorem appendBool_any (s : ByteArray) (x : Bool) (w : World) (hs : s.size < 4611686018427387904) :
    Calls Tryz.prog 265 #[.string s, .bool x] w (RetV w (.string (s ++ strOfNums [if x then 1 else 0]))) := by
  refine enter Tryz.func265 rfl Tryz.ntmps265 rfl ?_
  refine WC.seq ?_
  refine WC.region ?_
  refine WL.p rfl rfl rfl (P.assign rfl) ?_
  refine WL.nil_ ?_
  refine End.seq ?_
  refine WC.seq ?_
  refine WC.seq ?_
  refine WC.region ?_
  refine WL.p rfl rfl rfl (P.move rfl) ?_
  refine WL.nil_ ?_
  refine End.seq ?_
  refine WC.cond rfl (fun hc5 => ?_) (fun hc5 => ?_)
  ·
    refine WC.seq ?_
    refine WC.region ?_
    refine WL.p rfl rfl rfl (P.move rfl) ?_
    refine WL.p rfl rfl rfl (P.cat rfl rfl (by have e : ByteArray.size ⟨#[1]⟩ = 1 := rfl; omega)) ?_
    refine WL.p rfl rfl rfl (P.assign rfl) ?_
    refine WL.nil_ ?_
    refine End.seq ?_
    refine WC.ret ?_
    refine End.thenR ?_
    refine End.ret1 rfl rfl ?_
    exact fun w' hs' => RetV.of (by rw [if_pos hc5]; rfl) hs'
  ·
    refine WC.skip ?_
    refine End.seq ?_
    refine WC.seq ?_
    refine WC.region ?_
    refine WL.p rfl rfl rfl (P.move rfl) ?_
    refine WL.p rfl rfl rfl (P.cat rfl rfl (by have e : ByteArray.size ⟨#[0]⟩ = 1 := rfl; omega)) ?_
    refine WL.p rfl rfl rfl (P.assign rfl) ?_
    refine WL.nil_ ?_
    refine End.seq ?_
    refine WC.ret ?_
    refine End.ret1 rfl rfl ?_
    exact fun w' hs' => RetV.of (by rw [if_neg (by simpa using hc5)]; rfl) hs'

theorem wrap_u64 {p : Int} (h0 : 0 ≤ p) (h1 : p < 18446744073709551616) : IntKind.u64.wrap p = p := by
  have e : IntKind.u64.wrap p = p % 18446744073709551616 := rfl
  rw [e]; omega
theorem size_append (a b : ByteArray) : (a ++ b).size = a.size + b.size := ByteArray.size_append
def encText (s : ByteArray) : ByteArray := strOfNums (encF 9 s.size) ++ s

set_option maxRecDepth 100000 in
theorem appendText_any (s t : ByteArray) (w : World) (hs : s.size < 4294967296) (ht : t.size < 4294967296) :
    Calls Tryz.prog 169 #[.string s, .string t] w (RetV w (.string (s ++ encText t))) := by
  refine enter Tryz.func169 rfl Tryz.ntmps169 rfl ?_
  refine WC.seq ?_
  refine WC.region ?_
  refine WL.p rfl rfl rfl (P.assign rfl) ?_
  refine WL.nil_ ?_
  refine End.seq ?_
  refine WC.seq ?_
  refine WC.region ?_
  refine WL.p rfl rfl rfl (P.move rfl) ?_
  refine WL.p rfl rfl rfl (P.move rfl) ?_
  refine WL.p rfl rfl rfl (P.lenS Tryz.underlying9 rfl) ?_
  refine WL.p rfl rfl rfl (P.conv (by kernel_rfl) Tryz.underlying255 rfl (wrap_u64 (by omega) (by omega))) ?_
  refine WL.callv (ent_of Tryz.func247 rfl rfl) rfl rfl rfl (fun w hs => appendNumber_any s t.size w (by omega) (by omega) (by omega)) ?_
  refine WL.p rfl rfl rfl (P.move rfl) ?_
  refine WL.p rfl rfl rfl (P.cat rfl rfl (by rw [size_append, strOfNums_size]; have := encF_len 9 t.size; omega)) ?_
  refine WL.p rfl rfl rfl (P.assign rfl) ?_
  refine WL.nil_ ?_
  refine End.seq ?_
  refine WC.ret ?_
  refine End.ret1 rfl rfl ?_
  exact fun w' hs' => RetV.of (by rw [encText, ByteArray.append_assoc]) hs'

end Go.Proofs.YtlkkiimmangplaaGreatDoor

/- Numbers read. -/
namespace Go.Proofs.YtlkkiimmangplaaGreatDoor
open Go.RowKit
set_option linter.unusedVariables false
set_option linter.unusedSimpArgs false

/-- A number at the front of bytes, and how many bytes it has; 0 for none. -/
def decF : Nat → Nat → Int → List UInt8 → Int × Int
  | 0, _, _, _ => (0, 0)
  | f + 1, i, n, l => match l[i]? with
    | none => (0, 0)
    | some b => if i = 9 ∧ 1 < (b.toNat : Int) then (0, 0) else
      if (b.toNat : Int) < 128 then (if (b.toNat : Int) = 0 ∧ 0 < i then (0, 0) else (n + ((b.toNat : Int) % 128) * 2 ^ (7 * i), (i : Int) + 1))
      else decF f (i + 1) (n + ((b.toNat : Int) % 128) * 2 ^ (7 * i)) l
theorem and127 (c : UInt8) (w : World) : (Op.intBits .and .u8 (c.toNat : Int) 127).run Tryz.prog w = .ok (.int .u8 ((c.toNat : Int) % 128)) w := by
  have key : ∀ m : Nat, m < 256 → bits .and .u8 (m : Int) 127 = (m : Int) % 128 := by decide +kernel
  rw [intBits_and, key _ c.toNat_lt]
  simp
theorem or64 {n x : Int} {k : Nat} (h0 : 0 ≤ n) (h1 : n < 2 ^ k) (hx : 0 ≤ x) (hb : n + x * 2 ^ k < 18446744073709551616) (w : World) : (Op.intBits .or .u64 n (x * 2 ^ k)).run Tryz.prog w = .ok (.int .u64 (n + x * 2 ^ k)) w := by
  obtain ⟨m, rfl⟩ := Int.eq_ofNat_of_zero_le h0
  obtain ⟨a, rfl⟩ := Int.eq_ofNat_of_zero_le hx
  have hm : m < 2 ^ k := by
    have : ((2 ^ k : Nat) : Int) = (2 : Int) ^ k := by simp
    omega
  have hs : m + a * 2 ^ k < 18446744073709551616 := by
    have : ((m + a * 2 ^ k : Nat) : Int) = (m : Int) + (a : Int) * 2 ^ k := by simp
    omega
  have hor : m ||| a * 2 ^ k = m + a * 2 ^ k := by
    rw [Nat.or_comm, Nat.mul_comm, ← Nat.two_pow_add_eq_or_of_lt hm, Nat.add_comm]
  have e2 : ((a : Int) * 2 ^ k) = ((a * 2 ^ k : Nat) : Int) := by simp
  have hb1 : bits .or .u64 (m : Int) ((a * 2 ^ k : Nat) : Int) = ((m + a * 2 ^ k : Nat) : Int) := by
    have hv : (BitVec.ofInt 64 (m : Int) ||| BitVec.ofInt 64 ((a * 2 ^ k : Nat) : Int)).toNat = m + a * 2 ^ k := by
      rw [BitVec.toNat_or, BitVec.toNat_ofInt, BitVec.toNat_ofInt]
      have q1 : ((m : Int) % ((2 ^ 64 : Nat) : Int)).toNat = m := by omega
      have q2 : (((a * 2 ^ k : Nat) : Int) % ((2 ^ 64 : Nat) : Int)).toNat = a * 2 ^ k := by omega
      rw [q1, q2, hor]
    show IntKind.u64.wrap ((BitVec.ofInt 64 (m : Int) ||| BitVec.ofInt 64 ((a * 2 ^ k : Nat) : Int)).toNat : Int) = _
    rw [hv, wrap_u64 (by omega) (by omega)]
  rw [intBits_or, e2, hb1]
  simp
theorem pow7 {i : Nat} {n x : Int} (hi : i ≤ 9) (h0 : 0 ≤ n) (hn : n < 2 ^ (7 * i)) (hx : 0 ≤ x) (hx1 : x < 128) (h9 : i = 9 → x ≤ 1) : n + x * 2 ^ (7 * i) < 18446744073709551616 := by
  rcases (by omega : i = 0 ∨ i = 1 ∨ i = 2 ∨ i = 3 ∨ i = 4 ∨ i = 5 ∨ i = 6 ∨ i = 7 ∨ i = 8 ∨ i = 9) with rfl | rfl | rfl | rfl | rfl | rfl | rfl | rfl | rfl | rfl <;> simp at hn h9 ⊢ <;> omega
theorem pow7s {i : Nat} {n x : Int} (hi : i ≤ 8) (h0 : 0 ≤ n) (hn : n < 2 ^ (7 * i)) (hx : 0 ≤ x) (hx1 : x < 128) : n + x * 2 ^ (7 * i) < 2 ^ (7 * (i + 1)) := by
  rcases (by omega : i = 0 ∨ i = 1 ∨ i = 2 ∨ i = 3 ∨ i = 4 ∨ i = 5 ∨ i = 6 ∨ i = 7 ∨ i = 8) with rfl | rfl | rfl | rfl | rfl | rfl | rfl | rfl | rfl <;> simp at hn ⊢ <;> omega
theorem pow7p {i : Nat} {x : Int} (hx : 0 ≤ x) : 0 ≤ x * 2 ^ (7 * i) := Int.mul_nonneg hx (Int.pow_nonneg (by decide))
theorem decF_over {f i : Nat} {n : Int} {l : List UInt8} {b : UInt8} (h : l[i]? = some b) (h9 : i = 9 ∧ 1 < (b.toNat : Int)) : decF (f + 1) i n l = (0, 0) := by
  rw [decF]; simp only [h]; rw [if_pos h9]
theorem decF_zero {f i : Nat} {n : Int} {l : List UInt8} {b : UInt8} (h : l[i]? = some b) (h0 : (b.toNat : Int) = 0 ∧ 0 < i) : decF (f + 1) i n l = (0, 0) := by
  rw [decF]; simp only [h]; rw [if_neg (by omega), if_pos (by omega), if_pos h0]
theorem decF_done {f i : Nat} {n : Int} {l : List UInt8} {b : UInt8} (h : l[i]? = some b) (h9 : ¬ (i = 9 ∧ 1 < (b.toNat : Int))) (hb : (b.toNat : Int) < 128) (h0 : ¬ ((b.toNat : Int) = 0 ∧ 0 < i)) : decF (f + 1) i n l = (n + ((b.toNat : Int) % 128) * 2 ^ (7 * i), (i : Int) + 1) := by
  rw [decF]; simp only [h]; rw [if_neg h9, if_pos hb, if_neg h0]
theorem decF_next {f i : Nat} {n : Int} {l : List UInt8} {b : UInt8} (h : l[i]? = some b) (h9 : ¬ (i = 9 ∧ 1 < (b.toNat : Int))) (hb : ¬ (b.toNat : Int) < 128) : decF (f + 1) i n l = decF f (i + 1) (n + ((b.toNat : Int) % 128) * 2 ^ (7 * i)) l := by
  rw [decF]; simp only [h]; rw [if_neg h9, if_neg hb]
theorem decF_none {f i : Nat} {n : Int} {l : List UInt8} (h : l[i]? = none) : decF f i n l = (0, 0) := by cases f <;> simp [decF, h]

set_option maxRecDepth 100000 in
theorem decode_any (s : ByteArray) (w : World) (hs : s.size < 4294967296) :
    Calls Tryz.prog 309 #[.string s] w (RetV w (.tuple #[.int .u64 (decF 10 0 0 s.data.toList).1, .int .i64 (decF 10 0 0 s.data.toList).2])) := by
  have hl : s.size = s.data.toList.length := rfl
  refine enter Tryz.func309 rfl Tryz.ntmps309 rfl ?_
  refine WC.seq ?_
  refine WC.region ?_
  refine WL.p rfl rfl rfl (P.assign rfl) ?_
  refine WL.p rfl rfl rfl (P.assign rfl) ?_
  refine WL.nil_ ?_
  refine End.seq ?_
  refine WC.seq ?_
  refine WC.region ?_
  refine WL.p rfl rfl rfl (P.assign rfl) ?_
  refine WL.nil_ ?_
  refine End.seq ?_
  refine WC.seq ?_
  refine WC.seq ?_
  refine WC.region ?_
  refine WL.p rfl rfl rfl (P.assign rfl) ?_
  refine WL.nil_ ?_
  refine End.seq ?_
  refine WC.block ?_
  refine WC.loopD (σ := Nat × Int) (fun (i, n) => [(5, .int .i64 (i : Nat)), (4, .int .u64 n)]) (fun (i, n) => []) (fun (i, n) => i ≤ 9 ∧ 0 ≤ n ∧ n < 2 ^ (7 * i) ∧ decF (10 - i) i n s.data.toList = decF 10 0 0 s.data.toList) (fun (i, n) => 9 - i) (0, 0) ⟨by decide, by decide, by decide, rfl⟩ (Env.sub_cons rfl (Env.sub_cons rfl (Env.sub_nil))) [] rfl rfl ?_
  rintro ⟨i, n⟩ ⟨hi, hn0, hn1, hd⟩
  refine WC.seq ?_
  refine WC.seq ?_
  refine WC.region ?_
  refine WL.p rfl rfl rfl (P.move rfl) ?_
  refine WL.p rfl rfl rfl (P.move rfl) ?_
  refine WL.p rfl rfl rfl (P.lenS Tryz.underlying9 rfl) ?_
  refine WL.p rfl rfl rfl (P.cmp rfl rfl rfl) ?_
  refine WL.p rfl rfl rfl (P.move rfl) ?_
  refine WL.split 11 rfl (fun hs11 => ?_) (fun hs11 => ?_)
  ·
    try simp only [decide_eq_true_eq, decide_eq_false_iff_not, beq_iff_eq, beq_eq_false_iff_ne, bne_iff_ne, bne_eq_false_iff_eq, Bool.not_eq_true', Bool.not_eq_false', ne_eq, Int.not_lt, Int.not_le] at hs11
    refine WL.p rfl rfl rfl (P.move rfl) ?_
    refine WL.p rfl rfl rfl (P.cmp rfl rfl rfl) ?_
    refine WL.p rfl rfl rfl (P.pickT rfl rfl) ?_
    refine WL.nil_ ?_
    refine End.seq ?_
    refine WC.cond rfl (fun hc14 => ?_) (fun hc14 => ?_)
    ·
      try simp only [decide_eq_true_eq, decide_eq_false_iff_not, beq_iff_eq, beq_eq_false_iff_ne, bne_iff_ne, bne_eq_false_iff_eq, Bool.not_eq_true', Bool.not_eq_false', ne_eq, Int.not_lt, Int.not_le] at hc14
      obtain ⟨b, hbx⟩ := get_of_lt (xs := s.data.toList) (k := i) (by omega)
      refine WC.skip ?_
      refine End.seq ?_
      refine WC.seq ?_
      refine WC.block ?_
      refine WC.seq ?_
      refine WC.region ?_
      refine WL.p rfl rfl rfl (P.move rfl) ?_
      refine WL.p rfl rfl rfl (P.move rfl) ?_
      refine WL.p rfl rfl rfl (P.byte Tryz.underlying9 rfl rfl (by omega) (by omega)) ?_
      refine WL.is 19 rfl (show _ = Value.int .u8 (b.toNat : Int) by rw [show ((i : Int)).toNat = i by omega, hbx]; rfl) ?_
      refine WL.p rfl rfl rfl (P.assign rfl) ?_
      refine WL.nil_ ?_
      refine End.seq ?_
      refine WC.seq ?_
      refine WC.seq ?_
      refine WC.region ?_
      refine WL.p rfl rfl rfl (P.move rfl) ?_
      refine WL.p rfl rfl rfl (P.cmp rfl rfl rfl) ?_
      refine WL.p rfl rfl rfl (P.move rfl) ?_
      refine WL.split 22 rfl (fun hs22 => ?_) (fun hs22 => ?_)
      ·
        try simp only [decide_eq_true_eq, decide_eq_false_iff_not, beq_iff_eq, beq_eq_false_iff_ne, bne_iff_ne, bne_eq_false_iff_eq, Bool.not_eq_true', Bool.not_eq_false', ne_eq, Int.not_lt, Int.not_le] at hs22
        refine WL.p rfl rfl rfl (P.move rfl) ?_
        refine WL.p rfl rfl rfl (P.cmp rfl rfl rfl) ?_
        refine WL.p rfl rfl rfl (P.pickT rfl rfl) ?_
        refine WL.nil_ ?_
        refine End.seq ?_
        refine WC.cond rfl (fun hc25 => ?_) (fun hc25 => ?_)
        ·
          try simp only [decide_eq_true_eq, decide_eq_false_iff_not, beq_iff_eq, beq_eq_false_iff_ne, bne_iff_ne, bne_eq_false_iff_eq, Bool.not_eq_true', Bool.not_eq_false', ne_eq, Int.not_lt, Int.not_le] at hc25
          refine WC.seq ?_
          refine WC.region ?_
          refine WL.p rfl rfl rfl (P.assign rfl) ?_
          refine WL.p rfl rfl rfl (P.assign rfl) ?_
          refine WL.nil_ ?_
          refine End.seq ?_
          refine WC.ret ?_
          refine End.thenR ?_
          refine End.blkR ?_
          refine End.thenR ?_
          refine End.thenR ?_
          refine End.blkR ?_
          refine End.thenR ?_
          refine End.ret2 rfl rfl rfl ?_
          exact fun w' hs' => RetV.of (by rw [← hd, show 10 - i = (9 - i) + 1 by omega, decF_over hbx (by omega)]) hs'
        ·
          try simp only [decide_eq_true_eq, decide_eq_false_iff_not, beq_iff_eq, beq_eq_false_iff_ne, bne_iff_ne, bne_eq_false_iff_eq, Bool.not_eq_true', Bool.not_eq_false', ne_eq, Int.not_lt, Int.not_le] at hc25
          refine WC.skip ?_
          refine End.seq ?_
          refine WC.seq ?_
          refine WC.region ?_
          have hb9 : i = 9 → (b.toNat : Int) ≤ 1 := fun e => by omega
          have hb := u8_lt b
          have hx9 : i = 9 → (b.toNat : Int) % 128 ≤ 1 := fun e => by have := hb9 e; omega
          have hsum := pow7 (x := (b.toNat : Int) % 128) hi hn0 hn1 (by omega) (by omega) hx9
          have hpos := pow7p (i := i) (x := (b.toNat : Int) % 128) (by omega)
          have et : ((7 : Int) * (i : Int)).toNat = 7 * i := by omega
          refine WL.p rfl rfl rfl (P.move rfl) ?_
          refine WL.p rfl rfl rfl (P.move rfl) ?_
          refine WL.p rfl rfl rfl (P.bits rfl rfl rfl (and127 b)) ?_
          refine WL.p rfl rfl rfl (P.conv (by kernel_rfl) Tryz.underlying255 rfl (wrap_u64 (by omega) (by omega))) ?_
          refine WL.p rfl rfl rfl (P.move rfl) ?_
          refine WL.p rfl rfl rfl (P.ari64 rfl rfl rfl (by omega)) ?_
          refine WL.p rfl rfl rfl (P.shl (r := ((b.toNat : Int) % 128) * 2 ^ (7 * i)) rfl rfl (by omega) (by show (7 * (i : Int)) ≤ 64; omega) (by rw [et]; exact wrap_u64 hpos (by omega))) ?_
          refine WL.p rfl rfl rfl (P.bits rfl rfl rfl (or64 hn0 hn1 (by omega) hsum)) ?_
          refine WL.p rfl rfl rfl (P.assign rfl) ?_
          refine WL.nil_ ?_
          refine End.seq ?_
          refine WC.seq ?_
          refine WC.region ?_
          refine WL.p rfl rfl rfl (P.move rfl) ?_
          refine WL.p rfl rfl rfl (P.cmp rfl rfl rfl) ?_
          refine WL.nil_ ?_
          refine End.seq ?_
          refine WC.cond rfl (fun hc35 => ?_) (fun hc35 => ?_)
          ·
            try simp only [decide_eq_true_eq, decide_eq_false_iff_not, beq_iff_eq, beq_eq_false_iff_ne, bne_iff_ne, bne_eq_false_iff_eq, Bool.not_eq_true', Bool.not_eq_false', ne_eq, Int.not_lt, Int.not_le] at hc35
            refine WC.seq ?_
            refine WC.seq ?_
            refine WC.region ?_
            refine WL.p rfl rfl rfl (P.move rfl) ?_
            refine WL.p rfl rfl rfl (P.cmp rfl rfl rfl) ?_
            refine WL.p rfl rfl rfl (P.move rfl) ?_
            refine WL.split 38 rfl (fun hs38 => ?_) (fun hs38 => ?_)
            ·
              try simp only [decide_eq_true_eq, decide_eq_false_iff_not, beq_iff_eq, beq_eq_false_iff_ne, bne_iff_ne, bne_eq_false_iff_eq, Bool.not_eq_true', Bool.not_eq_false', ne_eq, Int.not_lt, Int.not_le] at hs38
              refine WL.p rfl rfl rfl (P.move rfl) ?_
              refine WL.p rfl rfl rfl (P.cmp rfl rfl rfl) ?_
              refine WL.p rfl rfl rfl (P.pickT rfl rfl) ?_
              refine WL.nil_ ?_
              refine End.seq ?_
              refine WC.cond rfl (fun hc41 => ?_) (fun hc41 => ?_)
              ·
                try simp only [decide_eq_true_eq, decide_eq_false_iff_not, beq_iff_eq, beq_eq_false_iff_ne, bne_iff_ne, bne_eq_false_iff_eq, Bool.not_eq_true', Bool.not_eq_false', ne_eq, Int.not_lt, Int.not_le] at hc41
                refine WC.seq ?_
                refine WC.region ?_
                refine WL.p rfl rfl rfl (P.assign rfl) ?_
                refine WL.p rfl rfl rfl (P.assign rfl) ?_
                refine WL.nil_ ?_
                refine End.seq ?_
                refine WC.ret ?_
                refine End.thenR ?_
                refine End.blkR ?_
                refine End.thenR ?_
                refine End.thenR ?_
                refine End.blkR ?_
                refine End.thenR ?_
                refine End.ret2 rfl rfl rfl ?_
                exact fun w' hs' => RetV.of (by rw [← hd, show 10 - i = (9 - i) + 1 by omega, decF_zero hbx (by omega)]) hs'
              ·
                try simp only [decide_eq_true_eq, decide_eq_false_iff_not, beq_iff_eq, beq_eq_false_iff_ne, bne_iff_ne, bne_eq_false_iff_eq, Bool.not_eq_true', Bool.not_eq_false', ne_eq, Int.not_lt, Int.not_le] at hc41
                refine WC.skip ?_
                refine End.seq ?_
                refine WC.seq ?_
                refine WC.region ?_
                refine WL.p rfl rfl rfl (P.move rfl) ?_
                refine WL.p rfl rfl rfl (P.move rfl) ?_
                refine WL.p rfl rfl rfl (P.ari64 rfl rfl rfl (by omega)) ?_
                refine WL.p rfl rfl rfl (P.assign rfl) ?_
                refine WL.p rfl rfl rfl (P.assign rfl) ?_
                refine WL.nil_ ?_
                refine End.seq ?_
                refine WC.ret ?_
                refine End.blkR ?_
                refine End.thenR ?_
                refine End.thenR ?_
                refine End.blkR ?_
                refine End.thenR ?_
                refine End.ret2 rfl rfl rfl ?_
                exact fun w' hs' => RetV.of (by rw [← hd, show 10 - i = (9 - i) + 1 by omega, decF_done hbx (by omega) (by omega) (by omega)]) hs'
            ·
              try simp only [decide_eq_true_eq, decide_eq_false_iff_not, beq_iff_eq, beq_eq_false_iff_ne, bne_iff_ne, bne_eq_false_iff_eq, Bool.not_eq_true', Bool.not_eq_false', ne_eq, Int.not_lt, Int.not_le] at hs38
              refine WL.off rfl rfl ?_
              refine WL.off rfl rfl ?_
              refine WL.p rfl rfl rfl (P.pickF rfl rfl) ?_
              refine WL.nil_ ?_
              refine End.seq ?_
              refine WC.condF rfl ?_
              refine WC.skip ?_
              refine End.seq ?_
              refine WC.seq ?_
              refine WC.region ?_
              refine WL.p rfl rfl rfl (P.move rfl) ?_
              refine WL.p rfl rfl rfl (P.move rfl) ?_
              refine WL.p rfl rfl rfl (P.ari64 rfl rfl rfl (by omega)) ?_
              refine WL.p rfl rfl rfl (P.assign rfl) ?_
              refine WL.p rfl rfl rfl (P.assign rfl) ?_
              refine WL.nil_ ?_
              refine End.seq ?_
              refine WC.ret ?_
              refine End.blkR ?_
              refine End.thenR ?_
              refine End.thenR ?_
              refine End.blkR ?_
              refine End.thenR ?_
              refine End.ret2 rfl rfl rfl ?_
              exact fun w' hs' => RetV.of (by rw [← hd, show 10 - i = (9 - i) + 1 by omega, decF_done hbx (by omega) (by omega) (by omega)]) hs'
          ·
            try simp only [decide_eq_true_eq, decide_eq_false_iff_not, beq_iff_eq, beq_eq_false_iff_ne, bne_iff_ne, bne_eq_false_iff_eq, Bool.not_eq_true', Bool.not_eq_false', ne_eq, Int.not_lt, Int.not_le] at hc35
            refine WC.skip ?_
            refine End.blkN ?_
            refine End.seq ?_
            refine WC.region ?_
            refine WL.p rfl rfl rfl (P.move rfl) ?_
            refine WL.p rfl rfl rfl (P.ari64 rfl rfl rfl (by omega)) ?_
            refine WL.p rfl rfl rfl (P.assign rfl) ?_
            refine WL.nil_ ?_
            refine End.againD (i + 1, n + ((b.toNat : Int) % 128) * 2 ^ (7 * i)) ?_ ?_ rfl (Env.sub_cons rfl (Env.sub_cons rfl (Env.sub_nil))) rfl [] rfl rfl
            · exact ⟨by omega, by omega, pow7s (by omega) hn0 hn1 (by omega) (by omega), by rw [← hd, show 10 - i = (10 - (i + 1)) + 1 by omega]; exact (decF_next hbx (by omega) (by omega)).symm⟩
            · show 9 - (i + 1) < 9 - i; omega
      ·
        try simp only [decide_eq_true_eq, decide_eq_false_iff_not, beq_iff_eq, beq_eq_false_iff_ne, bne_iff_ne, bne_eq_false_iff_eq, Bool.not_eq_true', Bool.not_eq_false', ne_eq, Int.not_lt, Int.not_le] at hs22
        refine WL.off rfl rfl ?_
        refine WL.off rfl rfl ?_
        refine WL.p rfl rfl rfl (P.pickF rfl rfl) ?_
        refine WL.nil_ ?_
        refine End.seq ?_
        refine WC.condF rfl ?_
        refine WC.skip ?_
        refine End.seq ?_
        refine WC.seq ?_
        refine WC.region ?_
        have hb9 : i = 9 → (b.toNat : Int) ≤ 1 := fun e => by omega
        have hb := u8_lt b
        have hx9 : i = 9 → (b.toNat : Int) % 128 ≤ 1 := fun e => by have := hb9 e; omega
        have hsum := pow7 (x := (b.toNat : Int) % 128) hi hn0 hn1 (by omega) (by omega) hx9
        have hpos := pow7p (i := i) (x := (b.toNat : Int) % 128) (by omega)
        have et : ((7 : Int) * (i : Int)).toNat = 7 * i := by omega
        refine WL.p rfl rfl rfl (P.move rfl) ?_
        refine WL.p rfl rfl rfl (P.move rfl) ?_
        refine WL.p rfl rfl rfl (P.bits rfl rfl rfl (and127 b)) ?_
        refine WL.p rfl rfl rfl (P.conv (by kernel_rfl) Tryz.underlying255 rfl (wrap_u64 (by omega) (by omega))) ?_
        refine WL.p rfl rfl rfl (P.move rfl) ?_
        refine WL.p rfl rfl rfl (P.ari64 rfl rfl rfl (by omega)) ?_
        refine WL.p rfl rfl rfl (P.shl (r := ((b.toNat : Int) % 128) * 2 ^ (7 * i)) rfl rfl (by omega) (by show (7 * (i : Int)) ≤ 64; omega) (by rw [et]; exact wrap_u64 hpos (by omega))) ?_
        refine WL.p rfl rfl rfl (P.bits rfl rfl rfl (or64 hn0 hn1 (by omega) hsum)) ?_
        refine WL.p rfl rfl rfl (P.assign rfl) ?_
        refine WL.nil_ ?_
        refine End.seq ?_
        refine WC.seq ?_
        refine WC.region ?_
        refine WL.p rfl rfl rfl (P.move rfl) ?_
        refine WL.p rfl rfl rfl (P.cmp rfl rfl rfl) ?_
        refine WL.nil_ ?_
        refine End.seq ?_
        refine WC.cond rfl (fun hc35 => ?_) (fun hc35 => ?_)
        ·
          try simp only [decide_eq_true_eq, decide_eq_false_iff_not, beq_iff_eq, beq_eq_false_iff_ne, bne_iff_ne, bne_eq_false_iff_eq, Bool.not_eq_true', Bool.not_eq_false', ne_eq, Int.not_lt, Int.not_le] at hc35
          refine WC.seq ?_
          refine WC.seq ?_
          refine WC.region ?_
          refine WL.p rfl rfl rfl (P.move rfl) ?_
          refine WL.p rfl rfl rfl (P.cmp rfl rfl rfl) ?_
          refine WL.p rfl rfl rfl (P.move rfl) ?_
          refine WL.split 38 rfl (fun hs38 => ?_) (fun hs38 => ?_)
          ·
            try simp only [decide_eq_true_eq, decide_eq_false_iff_not, beq_iff_eq, beq_eq_false_iff_ne, bne_iff_ne, bne_eq_false_iff_eq, Bool.not_eq_true', Bool.not_eq_false', ne_eq, Int.not_lt, Int.not_le] at hs38
            refine WL.p rfl rfl rfl (P.move rfl) ?_
            refine WL.p rfl rfl rfl (P.cmp rfl rfl rfl) ?_
            refine WL.p rfl rfl rfl (P.pickT rfl rfl) ?_
            refine WL.nil_ ?_
            refine End.seq ?_
            refine WC.cond rfl (fun hc41 => ?_) (fun hc41 => ?_)
            ·
              try simp only [decide_eq_true_eq, decide_eq_false_iff_not, beq_iff_eq, beq_eq_false_iff_ne, bne_iff_ne, bne_eq_false_iff_eq, Bool.not_eq_true', Bool.not_eq_false', ne_eq, Int.not_lt, Int.not_le] at hc41
              refine WC.seq ?_
              refine WC.region ?_
              refine WL.p rfl rfl rfl (P.assign rfl) ?_
              refine WL.p rfl rfl rfl (P.assign rfl) ?_
              refine WL.nil_ ?_
              refine End.seq ?_
              refine WC.ret ?_
              refine End.thenR ?_
              refine End.blkR ?_
              refine End.thenR ?_
              refine End.thenR ?_
              refine End.blkR ?_
              refine End.thenR ?_
              refine End.ret2 rfl rfl rfl ?_
              exact fun w' hs' => RetV.of (by rw [← hd, show 10 - i = (9 - i) + 1 by omega, decF_zero hbx (by omega)]) hs'
            ·
              try simp only [decide_eq_true_eq, decide_eq_false_iff_not, beq_iff_eq, beq_eq_false_iff_ne, bne_iff_ne, bne_eq_false_iff_eq, Bool.not_eq_true', Bool.not_eq_false', ne_eq, Int.not_lt, Int.not_le] at hc41
              refine WC.skip ?_
              refine End.seq ?_
              refine WC.seq ?_
              refine WC.region ?_
              refine WL.p rfl rfl rfl (P.move rfl) ?_
              refine WL.p rfl rfl rfl (P.move rfl) ?_
              refine WL.p rfl rfl rfl (P.ari64 rfl rfl rfl (by omega)) ?_
              refine WL.p rfl rfl rfl (P.assign rfl) ?_
              refine WL.p rfl rfl rfl (P.assign rfl) ?_
              refine WL.nil_ ?_
              refine End.seq ?_
              refine WC.ret ?_
              refine End.blkR ?_
              refine End.thenR ?_
              refine End.thenR ?_
              refine End.blkR ?_
              refine End.thenR ?_
              refine End.ret2 rfl rfl rfl ?_
              exact fun w' hs' => RetV.of (by rw [← hd, show 10 - i = (9 - i) + 1 by omega, decF_done hbx (by omega) (by omega) (by omega)]) hs'
          ·
            try simp only [decide_eq_true_eq, decide_eq_false_iff_not, beq_iff_eq, beq_eq_false_iff_ne, bne_iff_ne, bne_eq_false_iff_eq, Bool.not_eq_true', Bool.not_eq_false', ne_eq, Int.not_lt, Int.not_le] at hs38
            refine WL.off rfl rfl ?_
            refine WL.off rfl rfl ?_
            refine WL.p rfl rfl rfl (P.pickF rfl rfl) ?_
            refine WL.nil_ ?_
            refine End.seq ?_
            refine WC.condF rfl ?_
            refine WC.skip ?_
            refine End.seq ?_
            refine WC.seq ?_
            refine WC.region ?_
            refine WL.p rfl rfl rfl (P.move rfl) ?_
            refine WL.p rfl rfl rfl (P.move rfl) ?_
            refine WL.p rfl rfl rfl (P.ari64 rfl rfl rfl (by omega)) ?_
            refine WL.p rfl rfl rfl (P.assign rfl) ?_
            refine WL.p rfl rfl rfl (P.assign rfl) ?_
            refine WL.nil_ ?_
            refine End.seq ?_
            refine WC.ret ?_
            refine End.blkR ?_
            refine End.thenR ?_
            refine End.thenR ?_
            refine End.blkR ?_
            refine End.thenR ?_
            refine End.ret2 rfl rfl rfl ?_
            exact fun w' hs' => RetV.of (by rw [← hd, show 10 - i = (9 - i) + 1 by omega, decF_done hbx (by omega) (by omega) (by omega)]) hs'
        ·
          try simp only [decide_eq_true_eq, decide_eq_false_iff_not, beq_iff_eq, beq_eq_false_iff_ne, bne_iff_ne, bne_eq_false_iff_eq, Bool.not_eq_true', Bool.not_eq_false', ne_eq, Int.not_lt, Int.not_le] at hc35
          refine WC.skip ?_
          refine End.blkN ?_
          refine End.seq ?_
          refine WC.region ?_
          refine WL.p rfl rfl rfl (P.move rfl) ?_
          refine WL.p rfl rfl rfl (P.ari64 rfl rfl rfl (by omega)) ?_
          refine WL.p rfl rfl rfl (P.assign rfl) ?_
          refine WL.nil_ ?_
          refine End.againD (i + 1, n + ((b.toNat : Int) % 128) * 2 ^ (7 * i)) ?_ ?_ rfl (Env.sub_cons rfl (Env.sub_cons rfl (Env.sub_nil))) rfl [] rfl rfl
          · exact ⟨by omega, by omega, pow7s (by omega) hn0 hn1 (by omega) (by omega), by rw [← hd, show 10 - i = (10 - (i + 1)) + 1 by omega]; exact (decF_next hbx (by omega) (by omega)).symm⟩
          · show 9 - (i + 1) < 9 - i; omega
    ·
      try simp only [decide_eq_true_eq, decide_eq_false_iff_not, beq_iff_eq, beq_eq_false_iff_ne, bne_iff_ne, bne_eq_false_iff_eq, Bool.not_eq_true', Bool.not_eq_false', ne_eq, Int.not_lt, Int.not_le] at hc14
      refine WC.exit ?_
      refine End.thenX ?_
      refine End.thenX ?_
      refine End.blkX ?_
      refine End.seq ?_
      refine WC.seq ?_
      refine WC.region ?_
      refine WL.p rfl rfl rfl (P.assign rfl) ?_
      refine WL.p rfl rfl rfl (P.assign rfl) ?_
      refine WL.nil_ ?_
      refine End.seq ?_
      refine WC.ret ?_
      refine End.ret2 rfl rfl rfl ?_
      omega
  ·
    try simp only [decide_eq_true_eq, decide_eq_false_iff_not, beq_iff_eq, beq_eq_false_iff_ne, bne_iff_ne, bne_eq_false_iff_eq, Bool.not_eq_true', Bool.not_eq_false', ne_eq, Int.not_lt, Int.not_le] at hs11
    refine WL.off rfl rfl ?_
    refine WL.off rfl rfl ?_
    refine WL.p rfl rfl rfl (P.pickF rfl rfl) ?_
    refine WL.nil_ ?_
    refine End.seq ?_
    refine WC.condF rfl ?_
    refine WC.exit ?_
    refine End.thenX ?_
    refine End.thenX ?_
    refine End.blkX ?_
    refine End.seq ?_
    refine WC.seq ?_
    refine WC.region ?_
    refine WL.p rfl rfl rfl (P.assign rfl) ?_
    refine WL.p rfl rfl rfl (P.assign rfl) ?_
    refine WL.nil_ ?_
    refine End.seq ?_
    refine WC.ret ?_
    refine End.ret2 rfl rfl rfl ?_
    exact fun w' hs' => RetV.of (by rw [← hd, decF_none (List.getElem?_eq_none (by omega))]) hs'

end Go.Proofs.YtlkkiimmangplaaGreatDoor

/- The reader. -/
namespace Go.Proofs.YtlkkiimmangplaaGreatDoor
open Go.RowKit
set_option linter.unusedVariables false
set_option linter.unusedSimpArgs false

theorem toList_nil {a : ByteArray} : a.toList = [] ↔ a = ⟨#[]⟩ := by
  rw [← toList_inj (b := ⟨#[]⟩), ByteArray.toList_eq ⟨#[]⟩]
theorem size_pos {s : ByteArray} (h : s ≠ ⟨#[]⟩) : 0 < s.size := by
  rcases Nat.eq_zero_or_pos s.size with e | e
  · exact absurd (ByteArray.ext (Array.eq_empty_of_size_eq_zero e)) h
  · exact e
/-- A reader: what is left, and the first error. -/
abbrev Rd := ByteArray × Int
def rdB (r : Nat) (x : Rd) : It := .blk r 244 #[.string x.1, .int .i64 x.2]
abbrev bempty : ByteArray := ⟨#[]⟩
def Rd.fail (x : Rd) (e : Int) : Rd := if x.2 = 0 then (bempty, e) else x
def Rd.take (x : Rd) (k : Int) : Rd := if x.2 ≠ 0 then x else if k = 0 then x.fail 11 else (x.1.extract k.toNat x.1.size, x.2)
def Rd.num (x : Rd) : Int × Rd := (if x.2 ≠ 0 then 0 else (decF 10 0 0 x.1.data.toList).1, x.take (decF 10 0 0 x.1.data.toList).2)
/-- A truth value at the front: how many bytes, and it. -/
def boolLen (s : ByteArray) : Int := if s = bempty ∨ 1 < ((s.data.toList[0]?.getD 0).toNat : Int) then 0 else 1
def boolVal (s : ByteArray) : Bool := decide (((s.data.toList[0]?.getD 0).toNat : Int) = 1)
def Rd.bool (x : Rd) : Bool × Rd := (if x.2 ≠ 0 then false else if boolLen x.1 = 0 then false else boolVal x.1, x.take (boolLen x.1))
def Rd.count (x : Rd) (most : Int) : Int × Rd := if x.num.2.2 ≠ 0 then (0, x.num.2) else if most < 0 ∨ most < x.num.1 then (0, x.num.2.fail 8) else (x.num.1, x.num.2)
def Rd.text (x : Rd) (most : Int) : ByteArray × Rd :=
  if (x.count most).2.2 ≠ 0 then (bempty, (x.count most).2) else
  if ((x.count most).2.1.size : Int) < (x.count most).1 then (bempty, (x.count most).2.fail 11) else
  ((x.count most).2.1.extract 0 (x.count most).1.toNat, ((x.count most).2.1.extract (x.count most).1.toNat (x.count most).2.1.size, (x.count most).2.2))
def Rd.end_ (x : Rd) : Int := if x.2 = 0 ∧ x.1 ≠ bempty then 11 else x.2
theorem decF_bounds : ∀ (f i : Nat) (n : Int) (l : List UInt8), 0 ≤ (decF f i n l).2 ∧ (decF f i n l).2 ≤ l.length
  | 0, i, n, l => by simp [decF]
  | f + 1, i, n, l => by
    have ih := decF_bounds f (i + 1)
    unfold decF
    cases h : l[i]? with
    | none => simp
    | some b =>
      have hlt : i < l.length := (List.getElem?_eq_some_iff.1 h).1
      simp only
      split
      · simp
      · split
        · split
          · simp
          · simp; omega
        · exact ih _ l
theorem decF_val : ∀ (f i : Nat) (n : Int) (l : List UInt8), i + f = 10 → 0 ≤ n → n < 2 ^ (7 * i) → 0 ≤ (decF f i n l).1 ∧ (decF f i n l).1 < 18446744073709551616
  | 0, i, n, l, _, _, _ => by simp [decF]
  | f + 1, i, n, l, hi, h0, h1 => by
    unfold decF
    cases h : l[i]? with
    | none => simp
    | some b =>
      have hb := u8_lt b
      simp only
      split
      · simp
      · rename_i h9
        split
        · split
          · simp
          · have hp := pow7p (i := i) (x := (b.toNat : Int) % 128) (by omega)
            have := pow7 (i := i) (n := n) (x := (b.toNat : Int) % 128) (by omega) h0 h1 (by omega) (by omega) (fun e => by omega)
            exact ⟨by simp only; omega, this⟩
        · have hp := pow7p (i := i) (x := (b.toNat : Int) % 128) (by omega)
          exact decF_val f (i + 1) _ l (by omega) (by omega) (pow7s (by omega) h0 h1 (by omega) (by omega))

set_option maxRecDepth 100000 in
theorem fail_any (r : Nat) (x : Rd) (e : Int) (w0 w : World) (H : List It) (hst : St w0 (rdB r x :: H) w) :
    Calls Tryz.prog 250 #[.pointer (some ⟨r, 0, none⟩), .int .i64 e] w (Mo w0 (.tuple #[]) (rdB r (x.fail e) :: H)) := by
  refine enterH Tryz.func250 rfl Tryz.ntmps250 rfl hst ?_
  refine WC.seq ?_
  refine WC.region ?_
  refine WL.p rfl rfl rfl (P.move rfl) ?_
  refine WL.p rfl rfl rfl (P.nilCheck rfl) ?_
  refine WL.p rfl rfl rfl (P.fieldAddr fa_244_1 rfl) ?_
  refine WL.p rfl rfl rfl (P.loadO 0 Tryz.isAgg26 rfl rfl rfl) ?_
  refine WL.p rfl rfl rfl (P.cmp rfl rfl rfl) ?_
  refine WL.nil_ ?_
  refine End.seq ?_
  refine WC.cond rfl (fun hc8 => ?_) (fun hc8 => ?_)
  ·
    try simp only [decide_eq_true_eq, decide_eq_false_iff_not, beq_iff_eq, beq_eq_false_iff_ne, bne_iff_ne, bne_eq_false_iff_eq, Bool.not_eq_true', Bool.not_eq_false', ne_eq, Int.not_lt, Int.not_le] at hc8
    refine WC.region ?_
    refine WL.p rfl rfl rfl (P.move rfl) ?_
    refine WL.p rfl rfl rfl (P.move rfl) ?_
    refine WL.p rfl rfl rfl (P.move rfl) ?_
    refine WL.p rfl rfl rfl (P.nilCheck rfl) ?_
    refine WL.p rfl rfl rfl (P.fieldAddr fa_244_1 rfl) ?_
    refine WL.store 0 Tryz.sizeOf26 rfl rfl rfl rfl rfl rfl ?_
    refine WL.p rfl rfl rfl (P.nilCheck rfl) ?_
    refine WL.p rfl rfl rfl (P.fieldAddr fa_244_0 rfl) ?_
    refine WL.store 0 Tryz.sizeOf9 rfl rfl rfl rfl rfl rfl ?_
    refine WL.nil_ ?_
    refine End.norm ?_
    refine End.ret0 rfl ?_
    exact fun w' hs' => Mo.of rfl (by rw [Rd.fail, if_pos hc8]; rfl) hs'
  ·
    try simp only [decide_eq_true_eq, decide_eq_false_iff_not, beq_iff_eq, beq_eq_false_iff_ne, bne_iff_ne, bne_eq_false_iff_eq, Bool.not_eq_true', Bool.not_eq_false', ne_eq, Int.not_lt, Int.not_le] at hc8
    refine WC.skip ?_
    refine End.norm ?_
    refine End.ret0 rfl ?_
    exact fun w' hs' => Mo.of rfl (by rw [Rd.fail, if_neg hc8]) hs'

set_option maxRecDepth 100000 in
theorem newReader_any (s : ByteArray) (w : World) :
    Calls Tryz.prog 143 #[.string s] w (Ret w (fun _ : Nat => True) (fun r => .pointer (some ⟨r, 0, none⟩)) (fun r => [rdB r (s, 0)])) := by
  refine enter Tryz.func143 rfl Tryz.ntmps143 rfl ?_
  refine WC.seq ?_
  refine WC.region ?_
  refine WL.p rfl rfl rfl (P.assign rfl) ?_
  refine WL.nil_ ?_
  refine End.seq ?_
  refine WC.seq ?_
  refine WC.region ?_
  refine WL.p rfl rfl rfl (P.move rfl) ?_
  refine WL.p rfl rfl rfl (P.build rfl (fun w => bo_244 Tryz.zeroValue244 (cs := #[_, _]) rfl rfl w)) ?_
  refine WL.box rfl rfl rfl (fun b5 => ?_)
  refine WL.p rfl rfl rfl (P.assign rfl) ?_
  refine WL.nil_ ?_
  refine End.seq ?_
  refine WC.ret ?_
  refine End.ret1 rfl rfl ?_
  exact fun w' hs' => ⟨b5, trivial, rfl, hs'⟩

set_option maxRecDepth 100000 in
theorem take_any (r : Nat) (x : Rd) (g : Nat) (cap : Array Value) (k : Int) (X X' : It) (w0 w : World) (H : List It) (hst : St w0 (X :: rdB r x :: H) w) (he : Ent g) (hk : 0 ≤ k ∧ k ≤ x.1.size) (hc : ∀ w, St w0 (X :: rdB r x :: H) w → Calls Tryz.prog g (#[.string x.1] ++ cap) w (Mo w0 (.int .i64 k) (X' :: rdB r x :: H))) :
    Calls Tryz.prog 305 #[.pointer (some ⟨r, 0, none⟩), .func (.func g) #[] cap] w (Mo w0 (.tuple #[]) ((if x.2 = 0 then X' else X) :: rdB r (x.take k) :: H)) := by
  refine enterH Tryz.func305 rfl Tryz.ntmps305 rfl hst ?_
  refine WC.seq ?_
  refine WC.seq ?_
  refine WC.region ?_
  refine WL.p rfl rfl rfl (P.move rfl) ?_
  refine WL.p rfl rfl rfl (P.nilCheck rfl) ?_
  refine WL.p rfl rfl rfl (P.fieldAddr fa_244_1 rfl) ?_
  refine WL.p rfl rfl rfl (P.loadO 1 Tryz.isAgg26 rfl rfl rfl) ?_
  refine WL.p rfl rfl rfl (P.cmp rfl rfl rfl) ?_
  refine WL.nil_ ?_
  refine End.seq ?_
  refine WC.cond rfl (fun hc9 => ?_) (fun hc9 => ?_)
  ·
    try simp only [decide_eq_true_eq, decide_eq_false_iff_not, beq_iff_eq, beq_eq_false_iff_ne, bne_iff_ne, bne_eq_false_iff_eq, Bool.not_eq_true', Bool.not_eq_false', ne_eq, Int.not_lt, Int.not_le] at hc9
    refine WC.ret ?_
    refine End.thenR ?_
    refine End.ret0 rfl ?_
    exact fun w' hs' => Mo.of rfl (by rw [if_neg hc9, Rd.take, if_pos hc9]) hs'
  ·
    try simp only [decide_eq_true_eq, decide_eq_false_iff_not, beq_iff_eq, beq_eq_false_iff_ne, bne_iff_ne, bne_eq_false_iff_eq, Bool.not_eq_true', Bool.not_eq_false', ne_eq, Int.not_lt, Int.not_le] at hc9
    refine WC.skip ?_
    refine End.seq ?_
    refine WC.seq ?_
    refine WC.region ?_
    refine WL.p rfl rfl rfl (P.move rfl) ?_
    refine WL.p rfl rfl rfl (P.move rfl) ?_
    refine WL.p rfl rfl rfl (P.nilCheck rfl) ?_
    refine WL.p rfl rfl rfl (P.fieldAddr fa_244_0 rfl) ?_
    refine WL.p rfl rfl rfl (P.loadO 1 Tryz.isAgg9 rfl rfl rfl) ?_
    refine WL.callco (H' := _) he rfl rfl rfl rfl (fun w hs => hc w hs) ?_
    refine WL.p rfl rfl rfl (P.assign rfl) ?_
    refine WL.nil_ ?_
    refine End.seq ?_
    refine WC.seq ?_
    refine WC.seq ?_
    refine WC.region ?_
    refine WL.p rfl rfl rfl (P.move rfl) ?_
    refine WL.p rfl rfl rfl (P.cmp rfl rfl rfl) ?_
    refine WL.nil_ ?_
    refine End.seq ?_
    refine WC.cond rfl (fun hc17 => ?_) (fun hc17 => ?_)
    ·
      try simp only [decide_eq_true_eq, decide_eq_false_iff_not, beq_iff_eq, beq_eq_false_iff_ne, bne_iff_ne, bne_eq_false_iff_eq, Bool.not_eq_true', Bool.not_eq_false', ne_eq, Int.not_lt, Int.not_le] at hc17
      refine WC.seq ?_
      refine WC.region ?_
      refine WL.p rfl rfl rfl (P.move rfl) ?_
      refine WL.callo (H' := _) (ent_of Tryz.func250 rfl rfl) rfl rfl rfl (fun w hs => (fail_any r x 11 w0 w (X' :: H) hs.swap2).mono fun e w' h => h.swap2) ?_
      refine WL.nil_ ?_
      refine End.seq ?_
      refine WC.ret ?_
      refine End.thenR ?_
      refine End.ret0 rfl ?_
      exact fun w' hs' => Mo.of rfl (by rw [if_pos (by simpa using hc9), Rd.take, if_neg (fun h => h hc9), if_pos hc17]) hs'
    ·
      try simp only [decide_eq_true_eq, decide_eq_false_iff_not, beq_iff_eq, beq_eq_false_iff_ne, bne_iff_ne, bne_eq_false_iff_eq, Bool.not_eq_true', Bool.not_eq_false', ne_eq, Int.not_lt, Int.not_le] at hc17
      refine WC.skip ?_
      refine End.seq ?_
      refine WC.region ?_
      refine WL.p rfl rfl rfl (P.move rfl) ?_
      refine WL.p rfl rfl rfl (P.move rfl) ?_
      refine WL.p rfl rfl rfl (P.nilCheck rfl) ?_
      refine WL.p rfl rfl rfl (P.fieldAddr fa_244_0 rfl) ?_
      refine WL.p rfl rfl rfl (P.loadO 1 Tryz.isAgg9 rfl rfl rfl) ?_
      refine WL.p rfl rfl rfl (P.move rfl) ?_
      refine WL.p rfl rfl rfl (P.subL Tryz.underlying9 rfl rfl (by omega) (by omega)) ?_
      refine WL.p rfl rfl rfl (P.nilCheck rfl) ?_
      refine WL.p rfl rfl rfl (P.fieldAddr fa_244_0 rfl) ?_
      refine WL.store 1 Tryz.sizeOf9 rfl rfl rfl rfl rfl rfl ?_
      refine WL.nil_ ?_
      refine End.norm ?_
      refine End.ret0 rfl ?_
      exact fun w' hs' => Mo.of rfl (by rw [if_pos (by simpa using hc9), Rd.take, if_neg (fun h => h hc9), if_neg hc17]; rfl) hs'

set_option maxRecDepth 100000 in
theorem number1_any (q : Nat) (s : ByteArray) (v : Value) (w0 w : World) (H : List It) (hst : St w0 (.blk q 255 #[v] :: H) w) (hsz : s.size < 4294967296) :
    Calls Tryz.prog 308 #[.string s, .pointer (some ⟨q, 0, none⟩)] w (Mo w0 (.int .i64 (decF 10 0 0 s.data.toList).2) (.blk q 255 #[.int .u64 (decF 10 0 0 s.data.toList).1] :: H)) := by
  refine enterH Tryz.func308 rfl Tryz.ntmps308 rfl hst ?_
  refine WC.seq ?_
  refine WC.region ?_
  refine WL.p rfl rfl rfl (P.assign rfl) ?_
  refine WL.nil_ ?_
  refine End.seq ?_
  refine WC.seq ?_
  refine WC.region ?_
  refine WL.p rfl rfl rfl (P.move rfl) ?_
  refine WL.callv (ent_of Tryz.func309 rfl rfl) rfl rfl rfl (fun w hs => decode_any s w hsz) ?_
  refine WL.p rfl rfl rfl (P.move rfl) ?_
  refine WL.p rfl rfl rfl (P.extract rfl rfl) ?_
  refine WL.p rfl rfl rfl (P.extract rfl rfl) ?_
  refine WL.p rfl rfl rfl (P.assign rfl) ?_
  refine WL.p rfl rfl rfl (P.assign rfl) ?_
  refine WL.nil_ ?_
  refine End.seq ?_
  refine WC.seq ?_
  refine WC.region ?_
  refine WL.p rfl rfl rfl (P.move rfl) ?_
  refine WL.store 0 Tryz.sizeOf255 rfl rfl rfl rfl rfl rfl ?_
  refine WL.nil_ ?_
  refine End.seq ?_
  refine WC.seq ?_
  refine WC.region ?_
  refine WL.p rfl rfl rfl (P.move rfl) ?_
  refine WL.p rfl rfl rfl (P.assign rfl) ?_
  refine WL.nil_ ?_
  refine End.seq ?_
  refine WC.ret ?_
  refine End.ret1 rfl rfl ?_
  exact fun w' hs' => Mo.of rfl rfl hs'

set_option maxRecDepth 100000 in
theorem bool1_any (q : Nat) (s : ByteArray) (w0 w : World) (H : List It) (hst : St w0 (.blk q 4 #[.bool false] :: H) w) :
    Calls Tryz.prog 306 #[.string s, .pointer (some ⟨q, 0, none⟩)] w (Mo w0 (.int .i64 (boolLen s)) (.blk q 4 #[.bool (if boolLen s = 0 then false else boolVal s)] :: H)) := by
  refine enterH Tryz.func306 rfl Tryz.ntmps306 rfl hst ?_
  refine WC.seq ?_
  refine WC.region ?_
  refine WL.p rfl rfl rfl (P.assign rfl) ?_
  refine WL.nil_ ?_
  refine End.seq ?_
  refine WC.seq ?_
  refine WC.seq ?_
  refine WC.region ?_
  refine WL.p rfl rfl rfl (P.move rfl) ?_
  refine WL.p rfl rfl rfl (P.cmps rfl rfl rfl) ?_
  refine WL.p rfl rfl rfl (P.move rfl) ?_
  refine WL.split 6 rfl (fun hs6 => ?_) (fun hs6 => ?_)
  ·
    try simp only [decide_eq_true_eq, decide_eq_false_iff_not, beq_iff_eq, beq_eq_false_iff_ne, bne_iff_ne, bne_eq_false_iff_eq, Bool.not_eq_true', Bool.not_eq_false', ne_eq, Int.not_lt, Int.not_le] at hs6
    have he : s = bempty := toList_inj.1 hs6
    have hb : boolLen s = 0 := if_pos (.inl he)
    refine WL.off rfl rfl ?_
    refine WL.off rfl rfl ?_
    refine WL.off rfl rfl ?_
    refine WL.p rfl rfl rfl (P.pickT rfl rfl) ?_
    refine WL.nil_ ?_
    refine End.seq ?_
    refine WC.condT rfl ?_
    refine WC.seq ?_
    refine WC.region ?_
    refine WL.p rfl rfl rfl (P.assign rfl) ?_
    refine WL.nil_ ?_
    refine End.seq ?_
    refine WC.ret ?_
    refine End.thenR ?_
    refine End.ret1 rfl rfl ?_
    exact fun w' hs' => Mo.of (by rw [hb]) (by rw [if_pos hb]) hs'
  ·
    try simp only [decide_eq_true_eq, decide_eq_false_iff_not, beq_iff_eq, beq_eq_false_iff_ne, bne_iff_ne, bne_eq_false_iff_eq, Bool.not_eq_true', Bool.not_eq_false', ne_eq, Int.not_lt, Int.not_le] at hs6
    have hne : s ≠ bempty := fun e => hs6 (by rw [e])
    have hpos := size_pos hne
    refine WL.p rfl rfl rfl (P.move rfl) ?_
    refine WL.p rfl rfl rfl (P.byte Tryz.underlying9 rfl rfl (by omega) (by omega)) ?_
    refine WL.p rfl rfl rfl (P.cmp rfl rfl rfl) ?_
    refine WL.p rfl rfl rfl (P.pickF rfl rfl) ?_
    refine WL.nil_ ?_
    refine End.seq ?_
    refine WC.cond rfl (fun hc10 => ?_) (fun hc10 => ?_)
    ·
      try simp only [decide_eq_true_eq, decide_eq_false_iff_not, beq_iff_eq, beq_eq_false_iff_ne, bne_iff_ne, bne_eq_false_iff_eq, Bool.not_eq_true', Bool.not_eq_false', ne_eq, Int.not_lt, Int.not_le] at hc10
      refine WC.seq ?_
      refine WC.region ?_
      refine WL.p rfl rfl rfl (P.assign rfl) ?_
      refine WL.nil_ ?_
      refine End.seq ?_
      refine WC.ret ?_
      refine End.thenR ?_
      refine End.ret1 rfl rfl ?_
      have hb : boolLen s = 0 := if_pos (.inr hc10)
      exact fun w' hs' => Mo.of (by rw [hb]) (by rw [if_pos hb]) hs'
    ·
      try simp only [decide_eq_true_eq, decide_eq_false_iff_not, beq_iff_eq, beq_eq_false_iff_ne, bne_iff_ne, bne_eq_false_iff_eq, Bool.not_eq_true', Bool.not_eq_false', ne_eq, Int.not_lt, Int.not_le] at hc10
      refine WC.skip ?_
      refine End.seq ?_
      refine WC.seq ?_
      refine WC.region ?_
      refine WL.p rfl rfl rfl (P.move rfl) ?_
      refine WL.p rfl rfl rfl (P.byte Tryz.underlying9 rfl rfl (by omega) (by omega)) ?_
      refine WL.p rfl rfl rfl (P.cmp rfl rfl rfl) ?_
      refine WL.store 0 Tryz.sizeOf4 rfl rfl rfl rfl rfl rfl ?_
      refine WL.nil_ ?_
      refine End.seq ?_
      refine WC.seq ?_
      refine WC.region ?_
      refine WL.p rfl rfl rfl (P.assign rfl) ?_
      refine WL.nil_ ?_
      refine End.seq ?_
      refine WC.ret ?_
      refine End.ret1 rfl rfl ?_
      have hb : boolLen s = 1 := if_neg (fun h => h.elim hne (fun h => by have : ((s.data.toList[(0 : Int).toNat]?.getD 0).toNat : Int) = ((s.data.toList[0]?.getD 0).toNat : Int) := rfl; omega))
      exact fun w' hs' => Mo.of (by rw [hb]) (by rw [if_neg (by rw [hb]; decide)]; rfl) hs'

theorem boolLen_bounds (s : ByteArray) : 0 ≤ boolLen s ∧ boolLen s ≤ s.size := by
  unfold boolLen
  split
  · exact ⟨by decide, by omega⟩
  · rename_i h
    have := size_pos (s := s) (fun e => h (.inl e))
    omega

set_option maxRecDepth 100000 in
theorem number_rd (r : Nat) (x : Rd) (w0 w : World) (H : List It) (hst : St w0 (rdB r x :: H) w) (hsz : x.1.size < 4294967296) :
    Calls Tryz.prog 272 #[.pointer (some ⟨r, 0, none⟩)] w (Mo w0 (.int .u64 x.num.1) (rdB r x.num.2 :: H)) := by
  refine enterH Tryz.func272 rfl Tryz.ntmps272 rfl hst ?_
  refine WC.seq ?_
  refine WC.region ?_
  refine WL.p rfl rfl rfl (P.assign rfl) ?_
  refine WL.nil_ ?_
  refine End.seq ?_
  refine WC.seq ?_
  refine WC.region ?_
  refine WL.alloc Tryz.zeroValue255 rfl rfl (fun b3 => ?_)
  refine WL.nil_ ?_
  refine End.seq ?_
  refine WC.seq ?_
  refine WC.region ?_
  refine WL.p rfl rfl rfl (P.move rfl) ?_
  refine WL.p rfl rfl rfl (P.makeFunc rfl) ?_
  refine WL.callo (H' := _) (ent_of Tryz.func305 rfl rfl) rfl rfl rfl (fun w hs => take_any r x 308 _ (decF 10 0 0 x.1.data.toList).2 _ _ w0 w H hs (ent_of Tryz.func308 rfl rfl) (decF_bounds 10 0 0 _) (fun w hs => number1_any b3 x.1 _ w0 w _ hs hsz)) ?_
  refine WL.nil_ ?_
  refine End.seq ?_
  refine WC.seq ?_
  refine WC.region ?_
  refine WL.p rfl rfl rfl (P.loadO 0 (t' := 255) (cs := #[.int .u64 x.num.1]) Tryz.isAgg255 rfl (by unfold Rd.num; by_cases h : x.2 = 0 <;> simp [h] <;> rfl) rfl) ?_
  refine WL.p rfl rfl rfl (P.assign rfl) ?_
  refine WL.nil_ ?_
  refine End.seq ?_
  refine WC.ret ?_
  refine End.ret1 rfl rfl ?_
  exact fun w' hs' => Mo.of rfl rfl hs'.tail

set_option maxRecDepth 100000 in
theorem bool_rd (r : Nat) (x : Rd) (w0 w : World) (H : List It) (hst : St w0 (rdB r x :: H) w) (hsz : x.1.size < 4294967296) :
    Calls Tryz.prog 266 #[.pointer (some ⟨r, 0, none⟩)] w (Mo w0 (.bool x.bool.1) (rdB r x.bool.2 :: H)) := by
  refine enterH Tryz.func266 rfl Tryz.ntmps266 rfl hst ?_
  refine WC.seq ?_
  refine WC.region ?_
  refine WL.p rfl rfl rfl (P.assign rfl) ?_
  refine WL.nil_ ?_
  refine End.seq ?_
  refine WC.seq ?_
  refine WC.region ?_
  refine WL.alloc Tryz.zeroValue4 rfl rfl (fun b3 => ?_)
  refine WL.store 0 Tryz.sizeOf4 rfl rfl rfl rfl rfl rfl ?_
  refine WL.nil_ ?_
  refine End.seq ?_
  refine WC.seq ?_
  refine WC.region ?_
  refine WL.p rfl rfl rfl (P.move rfl) ?_
  refine WL.p rfl rfl rfl (P.makeFunc rfl) ?_
  refine WL.callo (H' := _) (ent_of Tryz.func305 rfl rfl) rfl rfl rfl (fun w hs => take_any r x 306 _ (boolLen x.1) _ _ w0 w H hs (ent_of Tryz.func306 rfl rfl) (boolLen_bounds x.1) (fun w hs => bool1_any b3 x.1 w0 w _ hs)) ?_
  refine WL.nil_ ?_
  refine End.seq ?_
  refine WC.seq ?_
  refine WC.region ?_
  refine WL.p rfl rfl rfl (P.loadO 0 (t' := 4) (cs := #[.bool x.bool.1]) Tryz.isAgg4 rfl (by unfold Rd.bool; by_cases h : x.2 = 0 <;> simp [h] <;> rfl) rfl) ?_
  refine WL.p rfl rfl rfl (P.assign rfl) ?_
  refine WL.nil_ ?_
  refine End.seq ?_
  refine WC.ret ?_
  refine End.ret1 rfl rfl ?_
  exact fun w' hs' => Mo.of rfl rfl hs'.tail

theorem Rd.num_val (x : Rd) : 0 ≤ x.num.1 ∧ x.num.1 < 18446744073709551616 := by
  unfold Rd.num
  simp only
  split
  · decide
  · exact decF_val 10 0 0 _ rfl (by decide) (by decide)
theorem Rd.fail_size (x : Rd) (e : Int) : (x.fail e).1.size ≤ x.1.size := by
  unfold Rd.fail
  split
  · exact Nat.zero_le _
  · exact Nat.le_refl _
theorem Rd.take_size (x : Rd) (k : Int) : (x.take k).1.size ≤ x.1.size := by
  unfold Rd.take
  split
  · exact Nat.le_refl _
  · split
    · exact x.fail_size 11
    · simp [ByteArray.size_extract]
theorem Rd.num_size (x : Rd) : x.num.2.1.size ≤ x.1.size := x.take_size _
theorem Rd.bool_size (x : Rd) : x.bool.2.1.size ≤ x.1.size := x.take_size _
theorem Rd.count_size (x : Rd) (m : Int) : (x.count m).2.1.size ≤ x.1.size := by
  unfold Rd.count
  split
  · exact x.num_size
  · split
    · exact Nat.le_trans (Rd.fail_size _ _) x.num_size
    · exact x.num_size
theorem Rd.count_val (x : Rd) (m : Int) (hm : 0 ≤ m) : 0 ≤ (x.count m).1 ∧ (x.count m).1 ≤ m := by
  have := x.num_val
  unfold Rd.count
  split
  · exact ⟨Int.le_refl 0, hm⟩
  · split
    · exact ⟨Int.le_refl 0, hm⟩
    · rename_i h
      simp only
      omega
theorem Rd.text_size (x : Rd) (m : Int) : (x.text m).2.1.size ≤ x.1.size := by
  have := x.count_size m
  unfold Rd.text
  split
  · exact this
  · split
    · exact Nat.le_trans (Rd.fail_size _ _) this
    · simp [ByteArray.size_extract]; omega

set_option maxRecDepth 100000 in
theorem count_rd (r : Nat) (x : Rd) (most : Int) (w0 w : World) (H : List It) (hst : St w0 (rdB r x :: H) w) (hsz : x.1.size < 4294967296) (hm : 0 ≤ most ∧ most < 4611686018427387904) :
    Calls Tryz.prog 249 #[.pointer (some ⟨r, 0, none⟩), .int .i64 most] w (Mo w0 (.int .i64 (x.count most).1) (rdB r (x.count most).2 :: H)) := by
  have hn := x.num_val
  refine enterH Tryz.func249 rfl Tryz.ntmps249 rfl hst ?_
  refine WC.seq ?_
  refine WC.region ?_
  refine WL.p rfl rfl rfl (P.assign rfl) ?_
  refine WL.nil_ ?_
  refine End.seq ?_
  refine WC.seq ?_
  refine WC.region ?_
  refine WL.p rfl rfl rfl (P.move rfl) ?_
  refine WL.callo (H' := _) (ent_of Tryz.func272 rfl rfl) rfl rfl rfl (fun w hs => number_rd r x w0 w H hs hsz) ?_
  refine WL.p rfl rfl rfl (P.assign rfl) ?_
  refine WL.nil_ ?_
  refine End.seq ?_
  refine WC.seq ?_
  refine WC.seq ?_
  refine WC.region ?_
  refine WL.p rfl rfl rfl (P.move rfl) ?_
  refine WL.p rfl rfl rfl (P.nilCheck rfl) ?_
  refine WL.p rfl rfl rfl (P.fieldAddr fa_244_1 rfl) ?_
  refine WL.p rfl rfl rfl (P.loadO 0 Tryz.isAgg26 rfl rfl rfl) ?_
  refine WL.p rfl rfl rfl (P.cmp rfl rfl rfl) ?_
  refine WL.nil_ ?_
  refine End.seq ?_
  refine WC.cond rfl (fun hc12 => ?_) (fun hc12 => ?_)
  ·
    try simp only [decide_eq_true_eq, decide_eq_false_iff_not, beq_iff_eq, beq_eq_false_iff_ne, bne_iff_ne, bne_eq_false_iff_eq, Bool.not_eq_true', Bool.not_eq_false', ne_eq, Int.not_lt, Int.not_le] at hc12
    refine WC.seq ?_
    refine WC.region ?_
    refine WL.p rfl rfl rfl (P.assign rfl) ?_
    refine WL.nil_ ?_
    refine End.seq ?_
    refine WC.ret ?_
    refine End.thenR ?_
    refine End.ret1 rfl rfl ?_
    exact fun w' hs' => Mo.of (by rw [Rd.count, if_pos hc12]) (by rw [Rd.count, if_pos hc12]) hs'
  ·
    try simp only [decide_eq_true_eq, decide_eq_false_iff_not, beq_iff_eq, beq_eq_false_iff_ne, bne_iff_ne, bne_eq_false_iff_eq, Bool.not_eq_true', Bool.not_eq_false', ne_eq, Int.not_lt, Int.not_le] at hc12
    refine WC.skip ?_
    refine End.seq ?_
    refine WC.seq ?_
    refine WC.seq ?_
    refine WC.region ?_
    refine WL.p rfl rfl rfl (P.move rfl) ?_
    refine WL.p rfl rfl rfl (P.cmp rfl rfl rfl) ?_
    refine WL.p rfl rfl rfl (P.move rfl) ?_
    refine WL.split 15 rfl (fun hs15 => ?_) (fun hs15 => ?_)
    ·
      try simp only [decide_eq_true_eq, decide_eq_false_iff_not, beq_iff_eq, beq_eq_false_iff_ne, bne_iff_ne, bne_eq_false_iff_eq, Bool.not_eq_true', Bool.not_eq_false', ne_eq, Int.not_lt, Int.not_le] at hs15
      refine WL.off rfl rfl ?_
      refine WL.off rfl rfl ?_
      refine WL.off rfl rfl ?_
      refine WL.off rfl rfl ?_
      refine WL.p rfl rfl rfl (P.pickT rfl rfl) ?_
      refine WL.nil_ ?_
      refine End.seq ?_
      refine WC.condT rfl ?_
      refine WC.seq ?_
      refine WC.region ?_
      refine WL.p rfl rfl rfl (P.move rfl) ?_
      refine WL.callo (H' := _) (ent_of Tryz.func250 rfl rfl) rfl rfl rfl (fun w hs => fail_any r x.num.2 8 w0 w H hs) ?_
      refine WL.nil_ ?_
      refine End.seq ?_
      refine WC.seq ?_
      refine WC.region ?_
      refine WL.p rfl rfl rfl (P.assign rfl) ?_
      refine WL.nil_ ?_
      refine End.seq ?_
      refine WC.ret ?_
      refine End.thenR ?_
      refine End.ret1 rfl rfl ?_
      omega
    ·
      try simp only [decide_eq_true_eq, decide_eq_false_iff_not, beq_iff_eq, beq_eq_false_iff_ne, bne_iff_ne, bne_eq_false_iff_eq, Bool.not_eq_true', Bool.not_eq_false', ne_eq, Int.not_lt, Int.not_le] at hs15
      refine WL.p rfl rfl rfl (P.move rfl) ?_
      refine WL.p rfl rfl rfl (P.move rfl) ?_
      refine WL.p rfl rfl rfl (P.conv (by kernel_rfl) Tryz.underlying255 rfl (wrap_u64 (by omega) (by omega))) ?_
      refine WL.p rfl rfl rfl (P.cmp rfl rfl rfl) ?_
      refine WL.p rfl rfl rfl (P.pickF rfl rfl) ?_
      refine WL.nil_ ?_
      refine End.seq ?_
      refine WC.cond rfl (fun hc20 => ?_) (fun hc20 => ?_)
      ·
        try simp only [decide_eq_true_eq, decide_eq_false_iff_not, beq_iff_eq, beq_eq_false_iff_ne, bne_iff_ne, bne_eq_false_iff_eq, Bool.not_eq_true', Bool.not_eq_false', ne_eq, Int.not_lt, Int.not_le] at hc20
        refine WC.seq ?_
        refine WC.region ?_
        refine WL.p rfl rfl rfl (P.move rfl) ?_
        refine WL.callo (H' := _) (ent_of Tryz.func250 rfl rfl) rfl rfl rfl (fun w hs => fail_any r x.num.2 8 w0 w H hs) ?_
        refine WL.nil_ ?_
        refine End.seq ?_
        refine WC.seq ?_
        refine WC.region ?_
        refine WL.p rfl rfl rfl (P.assign rfl) ?_
        refine WL.nil_ ?_
        refine End.seq ?_
        refine WC.ret ?_
        refine End.thenR ?_
        refine End.ret1 rfl rfl ?_
        exact fun w' hs' => Mo.of (by rw [Rd.count, if_neg (fun h => h hc12), if_pos (by omega)]) (by rw [Rd.count, if_neg (fun h => h hc12), if_pos (by omega)]) hs'
      ·
        try simp only [decide_eq_true_eq, decide_eq_false_iff_not, beq_iff_eq, beq_eq_false_iff_ne, bne_iff_ne, bne_eq_false_iff_eq, Bool.not_eq_true', Bool.not_eq_false', ne_eq, Int.not_lt, Int.not_le] at hc20
        refine WC.skip ?_
        refine End.seq ?_
        refine WC.seq ?_
        refine WC.region ?_
        refine WL.p rfl rfl rfl (P.move rfl) ?_
        refine WL.p rfl rfl rfl (P.conv (by kernel_rfl) Tryz.underlying3 rfl (wrap_i64 (by omega))) ?_
        refine WL.p rfl rfl rfl (P.assign rfl) ?_
        refine WL.nil_ ?_
        refine End.seq ?_
        refine WC.ret ?_
        refine End.ret1 rfl rfl ?_
        exact fun w' hs' => Mo.of (by rw [Rd.count, if_neg (fun h => h hc12), if_neg (by omega)]) (by rw [Rd.count, if_neg (fun h => h hc12), if_neg (by omega)]) hs'

set_option maxRecDepth 100000 in
theorem text_rd (r : Nat) (x : Rd) (most : Int) (w0 w : World) (H : List It) (hst : St w0 (rdB r x :: H) w) (hsz : x.1.size < 4294967296) (hm : 0 ≤ most ∧ most < 4611686018427387904) :
    Calls Tryz.prog 172 #[.pointer (some ⟨r, 0, none⟩), .int .i64 most] w (Mo w0 (.string (x.text most).1) (rdB r (x.text most).2 :: H)) := by
  have hn := x.count_val most hm.1
  refine enterH Tryz.func172 rfl Tryz.ntmps172 rfl hst ?_
  refine WC.seq ?_
  refine WC.region ?_
  refine WL.p rfl rfl rfl (P.assign rfl) ?_
  refine WL.nil_ ?_
  refine End.seq ?_
  refine WC.seq ?_
  refine WC.region ?_
  refine WL.p rfl rfl rfl (P.move rfl) ?_
  refine WL.p rfl rfl rfl (P.move rfl) ?_
  refine WL.callo (H' := _) (ent_of Tryz.func249 rfl rfl) rfl rfl rfl (fun w hs => count_rd r x most w0 w H hs hsz hm) ?_
  refine WL.p rfl rfl rfl (P.assign rfl) ?_
  refine WL.nil_ ?_
  refine End.seq ?_
  refine WC.seq ?_
  refine WC.seq ?_
  refine WC.region ?_
  refine WL.p rfl rfl rfl (P.move rfl) ?_
  refine WL.p rfl rfl rfl (P.nilCheck rfl) ?_
  refine WL.p rfl rfl rfl (P.fieldAddr fa_244_1 rfl) ?_
  refine WL.p rfl rfl rfl (P.loadO 0 Tryz.isAgg26 rfl rfl rfl) ?_
  refine WL.p rfl rfl rfl (P.cmp rfl rfl rfl) ?_
  refine WL.nil_ ?_
  refine End.seq ?_
  refine WC.cond rfl (fun hc14 => ?_) (fun hc14 => ?_)
  ·
    try simp only [decide_eq_true_eq, decide_eq_false_iff_not, beq_iff_eq, beq_eq_false_iff_ne, bne_iff_ne, bne_eq_false_iff_eq, Bool.not_eq_true', Bool.not_eq_false', ne_eq, Int.not_lt, Int.not_le] at hc14
    refine WC.seq ?_
    refine WC.region ?_
    refine WL.p rfl rfl rfl (P.assign rfl) ?_
    refine WL.nil_ ?_
    refine End.seq ?_
    refine WC.ret ?_
    refine End.thenR ?_
    refine End.ret1 rfl rfl ?_
    exact fun w' hs' => Mo.of (by rw [Rd.text, if_pos hc14]) (by rw [Rd.text, if_pos hc14]) hs'
  ·
    try simp only [decide_eq_true_eq, decide_eq_false_iff_not, beq_iff_eq, beq_eq_false_iff_ne, bne_iff_ne, bne_eq_false_iff_eq, Bool.not_eq_true', Bool.not_eq_false', ne_eq, Int.not_lt, Int.not_le] at hc14
    refine WC.skip ?_
    refine End.seq ?_
    refine WC.seq ?_
    refine WC.seq ?_
    refine WC.region ?_
    refine WL.p rfl rfl rfl (P.move rfl) ?_
    refine WL.p rfl rfl rfl (P.move rfl) ?_
    refine WL.p rfl rfl rfl (P.nilCheck rfl) ?_
    refine WL.p rfl rfl rfl (P.fieldAddr fa_244_0 rfl) ?_
    refine WL.p rfl rfl rfl (P.loadO 0 Tryz.isAgg9 rfl rfl rfl) ?_
    refine WL.p rfl rfl rfl (P.lenS Tryz.underlying9 rfl) ?_
    refine WL.p rfl rfl rfl (P.cmp rfl rfl rfl) ?_
    refine WL.nil_ ?_
    refine End.seq ?_
    refine WC.cond rfl (fun hc21 => ?_) (fun hc21 => ?_)
    ·
      try simp only [decide_eq_true_eq, decide_eq_false_iff_not, beq_iff_eq, beq_eq_false_iff_ne, bne_iff_ne, bne_eq_false_iff_eq, Bool.not_eq_true', Bool.not_eq_false', ne_eq, Int.not_lt, Int.not_le] at hc21
      refine WC.seq ?_
      refine WC.region ?_
      refine WL.p rfl rfl rfl (P.move rfl) ?_
      refine WL.callo (H' := _) (ent_of Tryz.func250 rfl rfl) rfl rfl rfl (fun w hs => fail_any r (x.count most).2 11 w0 w H hs) ?_
      refine WL.nil_ ?_
      refine End.seq ?_
      refine WC.seq ?_
      refine WC.region ?_
      refine WL.p rfl rfl rfl (P.assign rfl) ?_
      refine WL.nil_ ?_
      refine End.seq ?_
      refine WC.ret ?_
      refine End.thenR ?_
      refine End.ret1 rfl rfl ?_
      exact fun w' hs' => Mo.of (by rw [Rd.text, if_neg (fun h => h hc14), if_pos hc21]) (by rw [Rd.text, if_neg (fun h => h hc14), if_pos hc21]) hs'
    ·
      try simp only [decide_eq_true_eq, decide_eq_false_iff_not, beq_iff_eq, beq_eq_false_iff_ne, bne_iff_ne, bne_eq_false_iff_eq, Bool.not_eq_true', Bool.not_eq_false', ne_eq, Int.not_lt, Int.not_le] at hc21
      refine WC.skip ?_
      refine End.seq ?_
      refine WC.seq ?_
      refine WC.region ?_
      refine WL.p rfl rfl rfl (P.move rfl) ?_
      refine WL.p rfl rfl rfl (P.nilCheck rfl) ?_
      refine WL.p rfl rfl rfl (P.fieldAddr fa_244_0 rfl) ?_
      refine WL.p rfl rfl rfl (P.loadO 0 Tryz.isAgg9 rfl rfl rfl) ?_
      refine WL.p rfl rfl rfl (P.move rfl) ?_
      refine WL.p rfl rfl rfl (P.subH Tryz.underlying9 rfl rfl (by omega) (by omega)) ?_
      refine WL.p rfl rfl rfl (P.assign rfl) ?_
      refine WL.nil_ ?_
      refine End.seq ?_
      refine WC.seq ?_
      refine WC.region ?_
      refine WL.p rfl rfl rfl (P.move rfl) ?_
      refine WL.p rfl rfl rfl (P.move rfl) ?_
      refine WL.p rfl rfl rfl (P.nilCheck rfl) ?_
      refine WL.p rfl rfl rfl (P.fieldAddr fa_244_0 rfl) ?_
      refine WL.p rfl rfl rfl (P.loadO 0 Tryz.isAgg9 rfl rfl rfl) ?_
      refine WL.p rfl rfl rfl (P.move rfl) ?_
      refine WL.p rfl rfl rfl (P.subL Tryz.underlying9 rfl rfl (by omega) (by omega)) ?_
      refine WL.p rfl rfl rfl (P.nilCheck rfl) ?_
      refine WL.p rfl rfl rfl (P.fieldAddr fa_244_0 rfl) ?_
      refine WL.store 0 Tryz.sizeOf9 rfl rfl rfl rfl rfl rfl ?_
      refine WL.nil_ ?_
      refine End.seq ?_
      refine WC.seq ?_
      refine WC.region ?_
      refine WL.p rfl rfl rfl (P.move rfl) ?_
      refine WL.p rfl rfl rfl (P.assign rfl) ?_
      refine WL.nil_ ?_
      refine End.seq ?_
      refine WC.ret ?_
      refine End.ret1 rfl rfl ?_
      exact fun w' hs' => Mo.of (by rw [Rd.text, if_neg (fun h => h hc14), if_neg (by omega)]) (by rw [Rd.text, if_neg (fun h => h hc14), if_neg (by omega)]; rfl) hs'

end Go.Proofs.YtlkkiimmangplaaGreatDoor

/- The codec's fields. -/
namespace Go.Proofs.YtlkkiimmangplaaGreatDoor
open Go.RowKit
set_option linter.unusedVariables false
set_option linter.unusedSimpArgs false

/-- A codec: what it has written, and where it reads. -/
def cB (c : Nat) (out : ByteArray) (inn : Option Addr) : It := .blk c 155 #[.string out, .pointer inn]
def clampN (n : Int) : Int := if 1099511627776 < n then 1099511627777 else n

set_option maxRecDepth 100000 in
theorem truth_w (c : Nat) (out : ByteArray) (ad : Addr) (x : Bool) (w0 w : World) (H : List It) (hst : St w0 (cB c out none :: H) w) (hread : ∀ cs w, St w0 (.blk c 155 cs :: H) w → w.cell? ad = some (.bool x)) (ho : out.size < 4294967296) :
    Calls Tryz.prog 198 #[.pointer (some ⟨c, 0, none⟩), .pointer (some ad)] w (Mo w0 (.tuple #[]) (cB c (out ++ strOfNums [if x then 1 else 0]) none :: H)) := by
  refine enterH Tryz.func198 rfl Tryz.ntmps198 rfl hst ?_
  refine WC.seq ?_
  refine WC.seq ?_
  refine WC.region ?_
  refine WL.p rfl rfl rfl (P.move rfl) ?_
  refine WL.p rfl rfl rfl (P.nilCheck rfl) ?_
  refine WL.p rfl rfl rfl (P.fieldAddr fa_155_1 rfl) ?_
  refine WL.p rfl rfl rfl (P.loadO 0 Tryz.isAgg152 rfl rfl rfl) ?_
  refine WL.p rfl rfl rfl (P.eqNil Tryz.underlying152 rfl rfl) ?_
  refine WL.nil_ ?_
  refine End.seq ?_
  refine WC.cond rfl (fun hc8 => ?_) (fun hc8 => ?_)
  ·
    try simp only [decide_eq_true_eq, decide_eq_false_iff_not, beq_iff_eq, beq_eq_false_iff_ne, bne_iff_ne, bne_eq_false_iff_eq, Bool.not_eq_true', Bool.not_eq_false', ne_eq, Int.not_lt, Int.not_le] at hc8
    refine WC.seq ?_
    apply WC.draws (al := []) (vs := [_, _, _, _, _, _, _, _, _, _, _, fun _ => undef]) (Hs := fun v H b s => (blay [(b 11, 0, 1, [v 8 s])] H 0)) (by kernel_rfl) (by kernel_rfl) (by kernel_rfl)
    case steps =>
      refine Stps.cons (Stp.p (fun b s hd => ⟨_, ⟨rfl, P.move rfl⟩, rfl, rfl⟩)) ?_
      refine Stps.cons (Stp.p (fun b s hd => ⟨_, ⟨rfl, P.move rfl⟩, rfl, rfl⟩)) ?_
      refine Stps.cons (Stp.p (fun b s hd => ⟨_, ⟨rfl, P.nilCheck rfl⟩, rfl, rfl⟩)) ?_
      refine Stps.cons (Stp.p (fun b s hd => ⟨_, ⟨rfl, P.fieldAddr fa_155_0 rfl⟩, rfl, rfl⟩)) ?_
      refine Stps.cons (Stp.pw [11] (by kernel_rfl) (fun b s hd => ⟨_, ⟨rfl, P.loadO 0 Tryz.isAgg9 rfl rfl rfl⟩, rfl, rfl⟩)) ?_
      refine Stps.cons (Stp.p (fun b s hd => ⟨_, ⟨rfl, P.move rfl⟩, rfl, rfl⟩)) ?_
      refine Stps.cons (Stp.p (fun b s hd => ⟨_, ⟨rfl, P.nilCheck rfl⟩, rfl, rfl⟩)) ?_
      refine Stps.cons (Stp.p (fun b s hd => ⟨_, ⟨rfl, P.loadH Tryz.isAgg4 rfl (fun w hs => hread _ w hs)⟩, rfl, rfl⟩)) ?_
      refine Stps.cons (Stp.callv (ent_of Tryz.func265 rfl rfl) (fun b s hd => ⟨_, _, rfl, rfl, fun w hs => appendBool_any out x w (by omega), rfl, rfl⟩)) ?_
      refine Stps.cons (Stp.p (fun b s hd => ⟨_, ⟨rfl, P.nilCheck rfl⟩, rfl, rfl⟩)) ?_
      refine Stps.cons (Stp.p (fun b s hd => ⟨_, ⟨rfl, P.fieldAddr fa_155_0 rfl⟩, rfl, rfl⟩)) ?_
      refine Stps.cons (Stp.store 0 0 Tryz.sizeOf9 (fun b s hd => ⟨true, _, _, _, _, _, _, rfl, rfl, rfl, rfl, rfl, rfl, rfl, rfl, rfl, rfl, rfl⟩)) ?_
      exact Stps.nil
    case h0 => exact fun s => rfl
    case agree => exact AgrAll.nil
    intro s1
    refine End.shape (ρ' := [(0, _), (1, _), (4, _), (5, _), (6, _), (7, _), (8, _), (9, _), (10, _), (11, _), (12, _), (13, _), (14, _), (15, _), (16, _), (17, _), (18, _), (19, _)]) (H' := .blk _ _ #[_, _] :: H) (Env.sub_cons rfl (Env.sub_cons rfl (Env.sub_cons rfl (Env.sub_cons rfl (Env.sub_cons rfl (Env.sub_cons rfl (Env.sub_cons rfl (Env.sub_cons rfl (Env.sub_cons rfl (Env.sub_cons rfl (Env.sub_cons rfl (Env.sub_cons rfl (Env.sub_cons rfl (Env.sub_cons rfl (Env.sub_cons rfl (Env.sub_cons rfl (Env.sub_cons rfl (Env.sub_cons rfl (Env.sub_nil))))))))))))))))))) rfl ?_
    refine End.seq ?_
    refine WC.ret ?_
    refine End.thenR ?_
    refine End.ret0 rfl ?_
    exact fun w' hs' => Mo.of rfl rfl hs'
  ·
    try simp only [decide_eq_true_eq, decide_eq_false_iff_not, beq_iff_eq, beq_eq_false_iff_ne, bne_iff_ne, bne_eq_false_iff_eq, Bool.not_eq_true', Bool.not_eq_false', ne_eq, Int.not_lt, Int.not_le] at hc8
    cases hc8

set_option maxRecDepth 100000 in
theorem text_w (c : Nat) (out : ByteArray) (ad : Addr) (x : ByteArray) (w0 w : World) (H : List It) (hst : St w0 (cB c out none :: H) w) (hread : ∀ cs w, St w0 (.blk c 155 cs :: H) w → w.cell? ad = some (.string x)) (ho : out.size < 4294967296) (hx : x.size < 4294967296) :
    Calls Tryz.prog 199 #[.pointer (some ⟨c, 0, none⟩), .pointer (some ad)] w (Mo w0 (.tuple #[]) (cB c (out ++ encText x) none :: H)) := by
  refine enterH Tryz.func199 rfl Tryz.ntmps199 rfl hst ?_
  refine WC.seq ?_
  refine WC.seq ?_
  refine WC.region ?_
  refine WL.p rfl rfl rfl (P.move rfl) ?_
  refine WL.p rfl rfl rfl (P.nilCheck rfl) ?_
  refine WL.p rfl rfl rfl (P.fieldAddr fa_155_1 rfl) ?_
  refine WL.p rfl rfl rfl (P.loadO 0 Tryz.isAgg152 rfl rfl rfl) ?_
  refine WL.p rfl rfl rfl (P.eqNil Tryz.underlying152 rfl rfl) ?_
  refine WL.nil_ ?_
  refine End.seq ?_
  refine WC.cond rfl (fun hc8 => ?_) (fun hc8 => ?_)
  ·
    try simp only [decide_eq_true_eq, decide_eq_false_iff_not, beq_iff_eq, beq_eq_false_iff_ne, bne_iff_ne, bne_eq_false_iff_eq, Bool.not_eq_true', Bool.not_eq_false', ne_eq, Int.not_lt, Int.not_le] at hc8
    refine WC.seq ?_
    apply WC.draws (al := []) (vs := [_, _, _, _, _, _, _, _, _, _, _, fun _ => undef]) (Hs := fun v H b s => (blay [(b 11, 0, 1, [v 8 s])] H 0)) (by kernel_rfl) (by kernel_rfl) (by kernel_rfl)
    case steps =>
      refine Stps.cons (Stp.p (fun b s hd => ⟨_, ⟨rfl, P.move rfl⟩, rfl, rfl⟩)) ?_
      refine Stps.cons (Stp.p (fun b s hd => ⟨_, ⟨rfl, P.move rfl⟩, rfl, rfl⟩)) ?_
      refine Stps.cons (Stp.p (fun b s hd => ⟨_, ⟨rfl, P.nilCheck rfl⟩, rfl, rfl⟩)) ?_
      refine Stps.cons (Stp.p (fun b s hd => ⟨_, ⟨rfl, P.fieldAddr fa_155_0 rfl⟩, rfl, rfl⟩)) ?_
      refine Stps.cons (Stp.pw [11] (by kernel_rfl) (fun b s hd => ⟨_, ⟨rfl, P.loadO 0 Tryz.isAgg9 rfl rfl rfl⟩, rfl, rfl⟩)) ?_
      refine Stps.cons (Stp.p (fun b s hd => ⟨_, ⟨rfl, P.move rfl⟩, rfl, rfl⟩)) ?_
      refine Stps.cons (Stp.p (fun b s hd => ⟨_, ⟨rfl, P.nilCheck rfl⟩, rfl, rfl⟩)) ?_
      refine Stps.cons (Stp.p (fun b s hd => ⟨_, ⟨rfl, P.loadH Tryz.isAgg9 rfl (fun w hs => hread _ w hs)⟩, rfl, rfl⟩)) ?_
      refine Stps.cons (Stp.callv (ent_of Tryz.func169 rfl rfl) (fun b s hd => ⟨_, _, rfl, rfl, fun w hs => appendText_any out x w ho hx, rfl, rfl⟩)) ?_
      refine Stps.cons (Stp.p (fun b s hd => ⟨_, ⟨rfl, P.nilCheck rfl⟩, rfl, rfl⟩)) ?_
      refine Stps.cons (Stp.p (fun b s hd => ⟨_, ⟨rfl, P.fieldAddr fa_155_0 rfl⟩, rfl, rfl⟩)) ?_
      refine Stps.cons (Stp.store 0 0 Tryz.sizeOf9 (fun b s hd => ⟨true, _, _, _, _, _, _, rfl, rfl, rfl, rfl, rfl, rfl, rfl, rfl, rfl, rfl, rfl⟩)) ?_
      exact Stps.nil
    case h0 => exact fun s => rfl
    case agree => exact AgrAll.nil
    intro s1
    refine End.shape (ρ' := [(0, _), (1, _), (4, _), (5, _), (6, _), (7, _), (8, _), (9, _), (10, _), (11, _), (12, _), (13, _), (14, _), (15, _), (16, _), (17, _), (18, _), (19, _)]) (H' := .blk _ _ #[_, _] :: H) (Env.sub_cons rfl (Env.sub_cons rfl (Env.sub_cons rfl (Env.sub_cons rfl (Env.sub_cons rfl (Env.sub_cons rfl (Env.sub_cons rfl (Env.sub_cons rfl (Env.sub_cons rfl (Env.sub_cons rfl (Env.sub_cons rfl (Env.sub_cons rfl (Env.sub_cons rfl (Env.sub_cons rfl (Env.sub_cons rfl (Env.sub_cons rfl (Env.sub_cons rfl (Env.sub_cons rfl (Env.sub_nil))))))))))))))))))) rfl ?_
    refine End.seq ?_
    refine WC.ret ?_
    refine End.thenR ?_
    refine End.ret0 rfl ?_
    exact fun w' hs' => Mo.of rfl rfl hs'
  ·
    try simp only [decide_eq_true_eq, decide_eq_false_iff_not, beq_iff_eq, beq_eq_false_iff_ne, bne_iff_ne, bne_eq_false_iff_eq, Bool.not_eq_true', Bool.not_eq_false', ne_eq, Int.not_lt, Int.not_le] at hc8
    cases hc8

set_option maxRecDepth 100000 in
theorem number_w (c : Nat) (out : ByteArray) (ad : Addr) (x : Int) (w0 w : World) (H : List It) (hst : St w0 (cB c out none :: H) w) (hread : ∀ cs w, St w0 (.blk c 155 cs :: H) w → w.cell? ad = some (.int .i64 x)) (ho : out.size < 4294967296) (hx : 0 ≤ x ∧ x < 9223372036854775808) :
    Calls Tryz.prog 210 #[.pointer (some ⟨c, 0, none⟩), .pointer (some ad)] w (Mo w0 (.tuple #[]) (cB c (out ++ strOfNums (encF 9 x)) none :: H)) := by
  refine enterH Tryz.func210 rfl Tryz.ntmps210 rfl hst ?_
  refine WC.seq ?_
  refine WC.seq ?_
  refine WC.region ?_
  refine WL.p rfl rfl rfl (P.move rfl) ?_
  refine WL.p rfl rfl rfl (P.nilCheck rfl) ?_
  refine WL.p rfl rfl rfl (P.fieldAddr fa_155_1 rfl) ?_
  refine WL.p rfl rfl rfl (P.loadO 0 Tryz.isAgg152 rfl rfl rfl) ?_
  refine WL.p rfl rfl rfl (P.eqNil Tryz.underlying152 rfl rfl) ?_
  refine WL.nil_ ?_
  refine End.seq ?_
  refine WC.cond rfl (fun hc9 => ?_) (fun hc9 => ?_)
  ·
    try simp only [decide_eq_true_eq, decide_eq_false_iff_not, beq_iff_eq, beq_eq_false_iff_ne, bne_iff_ne, bne_eq_false_iff_eq, Bool.not_eq_true', Bool.not_eq_false', ne_eq, Int.not_lt, Int.not_le] at hc9
    refine WC.seq ?_
    apply WC.draws (al := []) (vs := [_, _, _, _, _, _, _, _, _, _, _, _, fun _ => undef]) (Hs := fun v H b s => (blay [(b 12, 0, 1, [v 9 s])] H 0)) (by kernel_rfl) (by kernel_rfl) (by kernel_rfl)
    case steps =>
      refine Stps.cons (Stp.p (fun b s hd => ⟨_, ⟨rfl, P.move rfl⟩, rfl, rfl⟩)) ?_
      refine Stps.cons (Stp.p (fun b s hd => ⟨_, ⟨rfl, P.move rfl⟩, rfl, rfl⟩)) ?_
      refine Stps.cons (Stp.p (fun b s hd => ⟨_, ⟨rfl, P.nilCheck rfl⟩, rfl, rfl⟩)) ?_
      refine Stps.cons (Stp.p (fun b s hd => ⟨_, ⟨rfl, P.fieldAddr fa_155_0 rfl⟩, rfl, rfl⟩)) ?_
      refine Stps.cons (Stp.pw [12] (by kernel_rfl) (fun b s hd => ⟨_, ⟨rfl, P.loadO 0 Tryz.isAgg9 rfl rfl rfl⟩, rfl, rfl⟩)) ?_
      refine Stps.cons (Stp.p (fun b s hd => ⟨_, ⟨rfl, P.move rfl⟩, rfl, rfl⟩)) ?_
      refine Stps.cons (Stp.p (fun b s hd => ⟨_, ⟨rfl, P.nilCheck rfl⟩, rfl, rfl⟩)) ?_
      refine Stps.cons (Stp.p (fun b s hd => ⟨_, ⟨rfl, P.loadH Tryz.isAgg3 rfl (fun w hs => hread _ w hs)⟩, rfl, rfl⟩)) ?_
      refine Stps.cons (Stp.p (fun b s hd => ⟨_, ⟨rfl, P.conv (by kernel_rfl) Tryz.underlying255 rfl (wrap_u64 (by omega) (by omega))⟩, rfl, rfl⟩)) ?_
      refine Stps.cons (Stp.callv (ent_of Tryz.func247 rfl rfl) (fun b s hd => ⟨_, _, rfl, rfl, fun w hs => appendNumber_any out x w hx.1 (by omega) (by omega), rfl, rfl⟩)) ?_
      refine Stps.cons (Stp.p (fun b s hd => ⟨_, ⟨rfl, P.nilCheck rfl⟩, rfl, rfl⟩)) ?_
      refine Stps.cons (Stp.p (fun b s hd => ⟨_, ⟨rfl, P.fieldAddr fa_155_0 rfl⟩, rfl, rfl⟩)) ?_
      refine Stps.cons (Stp.store 0 0 Tryz.sizeOf9 (fun b s hd => ⟨true, _, _, _, _, _, _, rfl, rfl, rfl, rfl, rfl, rfl, rfl, rfl, rfl, rfl, rfl⟩)) ?_
      exact Stps.nil
    case h0 => exact fun s => rfl
    case agree => exact AgrAll.nil
    intro s1
    refine End.shape (ρ' := [(0, _), (1, _), (5, _), (6, _), (7, _), (8, _), (9, _), (10, _), (11, _), (12, _), (13, _), (14, _), (15, _), (16, _), (17, _), (18, _), (19, _), (20, _), (21, _)]) (H' := .blk _ _ #[_, _] :: H) (Env.sub_cons rfl (Env.sub_cons rfl (Env.sub_cons rfl (Env.sub_cons rfl (Env.sub_cons rfl (Env.sub_cons rfl (Env.sub_cons rfl (Env.sub_cons rfl (Env.sub_cons rfl (Env.sub_cons rfl (Env.sub_cons rfl (Env.sub_cons rfl (Env.sub_cons rfl (Env.sub_cons rfl (Env.sub_cons rfl (Env.sub_cons rfl (Env.sub_cons rfl (Env.sub_cons rfl (Env.sub_cons rfl (Env.sub_nil)))))))))))))))))))) rfl ?_
    refine End.seq ?_
    refine WC.ret ?_
    refine End.thenR ?_
    refine End.ret0 rfl ?_
    exact fun w' hs' => Mo.of rfl rfl hs'
  ·
    try simp only [decide_eq_true_eq, decide_eq_false_iff_not, beq_iff_eq, beq_eq_false_iff_ne, bne_iff_ne, bne_eq_false_iff_eq, Bool.not_eq_true', Bool.not_eq_false', ne_eq, Int.not_lt, Int.not_le] at hc9
    cases hc9

set_option maxRecDepth 100000 in
theorem truth_r (r c q tq off : Nat) (x : Rd) (out : ByteArray) (cs : Array Value) (w0 w : World) (H : List It) (hst : St w0 (rdB r x :: cB c out (some ⟨r, 0, none⟩) :: .blk q tq cs :: H) w) (hsz : x.1.size < 4294967296) (hoff : Nat.blt off cs.size = true) :
    Calls Tryz.prog 198 #[.pointer (some ⟨c, 0, none⟩), .pointer (some ⟨q, off, none⟩)] w (Mo w0 (.tuple #[]) (rdB r x.bool.2 :: cB c out (some ⟨r, 0, none⟩) :: .blk q tq (cs.setIfInBounds off (.bool x.bool.1)) :: H)) := by
  refine enterH Tryz.func198 rfl Tryz.ntmps198 rfl hst ?_
  refine WC.seq ?_
  refine WC.seq ?_
  refine WC.region ?_
  refine WL.p rfl rfl rfl (P.move rfl) ?_
  refine WL.p rfl rfl rfl (P.nilCheck rfl) ?_
  refine WL.p rfl rfl rfl (P.fieldAddr fa_155_1 rfl) ?_
  refine WL.p rfl rfl rfl (P.loadO 1 Tryz.isAgg152 rfl rfl rfl) ?_
  refine WL.p rfl rfl rfl (P.eqNil Tryz.underlying152 rfl rfl) ?_
  refine WL.nil_ ?_
  refine End.seq ?_
  refine WC.cond rfl (fun hc8 => ?_) (fun hc8 => ?_)
  ·
    try simp only [decide_eq_true_eq, decide_eq_false_iff_not, beq_iff_eq, beq_eq_false_iff_ne, bne_iff_ne, bne_eq_false_iff_eq, Bool.not_eq_true', Bool.not_eq_false', ne_eq, Int.not_lt, Int.not_le] at hc8
    cases hc8
  ·
    try simp only [decide_eq_true_eq, decide_eq_false_iff_not, beq_iff_eq, beq_eq_false_iff_ne, bne_iff_ne, bne_eq_false_iff_eq, Bool.not_eq_true', Bool.not_eq_false', ne_eq, Int.not_lt, Int.not_le] at hc8
    refine WC.skip ?_
    refine End.seq ?_
    refine WC.region ?_
    refine WL.p rfl rfl rfl (P.move rfl) ?_
    refine WL.p rfl rfl rfl (P.move rfl) ?_
    refine WL.p rfl rfl rfl (P.nilCheck rfl) ?_
    refine WL.p rfl rfl rfl (P.fieldAddr fa_155_1 rfl) ?_
    refine WL.p rfl rfl rfl (P.loadO 1 Tryz.isAgg152 rfl rfl rfl) ?_
    refine WL.callo (H' := _) (ent_of Tryz.func266 rfl rfl) rfl rfl rfl (fun w hs => bool_rd r x w0 w _ hs hsz) ?_
    refine WL.p rfl rfl rfl (P.nilCheck rfl) ?_
    refine WL.store 2 Tryz.sizeOf4 rfl rfl rfl rfl rfl hoff ?_
    refine WL.nil_ ?_
    refine End.norm ?_
    refine End.ret0 rfl ?_
    exact fun w' hs' => Mo.of rfl rfl hs'

set_option maxRecDepth 100000 in
theorem text_r (r c q tq off : Nat) (x : Rd) (out : ByteArray) (cs : Array Value) (w0 w : World) (H : List It) (hst : St w0 (rdB r x :: cB c out (some ⟨r, 0, none⟩) :: .blk q tq cs :: H) w) (hsz : x.1.size < 4294967296) (hoff : Nat.blt off cs.size = true) :
    Calls Tryz.prog 199 #[.pointer (some ⟨c, 0, none⟩), .pointer (some ⟨q, off, none⟩)] w (Mo w0 (.tuple #[]) (rdB r (x.text 200).2 :: cB c out (some ⟨r, 0, none⟩) :: .blk q tq (cs.setIfInBounds off (.string (x.text 200).1)) :: H)) := by
  refine enterH Tryz.func199 rfl Tryz.ntmps199 rfl hst ?_
  refine WC.seq ?_
  refine WC.seq ?_
  refine WC.region ?_
  refine WL.p rfl rfl rfl (P.move rfl) ?_
  refine WL.p rfl rfl rfl (P.nilCheck rfl) ?_
  refine WL.p rfl rfl rfl (P.fieldAddr fa_155_1 rfl) ?_
  refine WL.p rfl rfl rfl (P.loadO 1 Tryz.isAgg152 rfl rfl rfl) ?_
  refine WL.p rfl rfl rfl (P.eqNil Tryz.underlying152 rfl rfl) ?_
  refine WL.nil_ ?_
  refine End.seq ?_
  refine WC.cond rfl (fun hc8 => ?_) (fun hc8 => ?_)
  ·
    try simp only [decide_eq_true_eq, decide_eq_false_iff_not, beq_iff_eq, beq_eq_false_iff_ne, bne_iff_ne, bne_eq_false_iff_eq, Bool.not_eq_true', Bool.not_eq_false', ne_eq, Int.not_lt, Int.not_le] at hc8
    cases hc8
  ·
    try simp only [decide_eq_true_eq, decide_eq_false_iff_not, beq_iff_eq, beq_eq_false_iff_ne, bne_iff_ne, bne_eq_false_iff_eq, Bool.not_eq_true', Bool.not_eq_false', ne_eq, Int.not_lt, Int.not_le] at hc8
    refine WC.skip ?_
    refine End.seq ?_
    refine WC.region ?_
    refine WL.p rfl rfl rfl (P.move rfl) ?_
    refine WL.p rfl rfl rfl (P.move rfl) ?_
    refine WL.p rfl rfl rfl (P.nilCheck rfl) ?_
    refine WL.p rfl rfl rfl (P.fieldAddr fa_155_1 rfl) ?_
    refine WL.p rfl rfl rfl (P.loadO 1 Tryz.isAgg152 rfl rfl rfl) ?_
    refine WL.callo (H' := _) (ent_of Tryz.func172 rfl rfl) rfl rfl rfl (fun w hs => text_rd r x 200 w0 w _ hs hsz (by decide)) ?_
    refine WL.p rfl rfl rfl (P.nilCheck rfl) ?_
    refine WL.store 2 Tryz.sizeOf9 rfl rfl rfl rfl rfl hoff ?_
    refine WL.nil_ ?_
    refine End.norm ?_
    refine End.ret0 rfl ?_
    exact fun w' hs' => Mo.of rfl rfl hs'

set_option maxRecDepth 100000 in
theorem number_r (r c q tq off : Nat) (x : Rd) (out : ByteArray) (cs : Array Value) (w0 w : World) (H : List It) (hst : St w0 (rdB r x :: cB c out (some ⟨r, 0, none⟩) :: .blk q tq cs :: H) w) (hsz : x.1.size < 4294967296) (hoff : Nat.blt off cs.size = true) :
    Calls Tryz.prog 210 #[.pointer (some ⟨c, 0, none⟩), .pointer (some ⟨q, off, none⟩)] w (Mo w0 (.tuple #[]) (rdB r x.num.2 :: cB c out (some ⟨r, 0, none⟩) :: .blk q tq (cs.setIfInBounds off (.int .i64 (clampN x.num.1))) :: H)) := by
  have hn := x.num_val
  refine enterH Tryz.func210 rfl Tryz.ntmps210 rfl hst ?_
  refine WC.seq ?_
  refine WC.seq ?_
  refine WC.region ?_
  refine WL.p rfl rfl rfl (P.move rfl) ?_
  refine WL.p rfl rfl rfl (P.nilCheck rfl) ?_
  refine WL.p rfl rfl rfl (P.fieldAddr fa_155_1 rfl) ?_
  refine WL.p rfl rfl rfl (P.loadO 1 Tryz.isAgg152 rfl rfl rfl) ?_
  refine WL.p rfl rfl rfl (P.eqNil Tryz.underlying152 rfl rfl) ?_
  refine WL.nil_ ?_
  refine End.seq ?_
  refine WC.cond rfl (fun hc9 => ?_) (fun hc9 => ?_)
  ·
    try simp only [decide_eq_true_eq, decide_eq_false_iff_not, beq_iff_eq, beq_eq_false_iff_ne, bne_iff_ne, bne_eq_false_iff_eq, Bool.not_eq_true', Bool.not_eq_false', ne_eq, Int.not_lt, Int.not_le] at hc9
    cases hc9
  ·
    try simp only [decide_eq_true_eq, decide_eq_false_iff_not, beq_iff_eq, beq_eq_false_iff_ne, bne_iff_ne, bne_eq_false_iff_eq, Bool.not_eq_true', Bool.not_eq_false', ne_eq, Int.not_lt, Int.not_le] at hc9
    refine WC.skip ?_
    refine End.seq ?_
    refine WC.seq ?_
    refine WC.region ?_
    refine WL.p rfl rfl rfl (P.move rfl) ?_
    refine WL.p rfl rfl rfl (P.nilCheck rfl) ?_
    refine WL.p rfl rfl rfl (P.fieldAddr fa_155_1 rfl) ?_
    refine WL.p rfl rfl rfl (P.loadO 1 Tryz.isAgg152 rfl rfl rfl) ?_
    refine WL.callo (H' := _) (ent_of Tryz.func272 rfl rfl) rfl rfl rfl (fun w hs => number_rd r x w0 w _ hs hsz) ?_
    refine WL.p rfl rfl rfl (P.assign rfl) ?_
    refine WL.nil_ ?_
    refine End.seq ?_
    refine WC.seq ?_
    refine WC.seq ?_
    refine WC.region ?_
    refine WL.p rfl rfl rfl (P.move rfl) ?_
    refine WL.p rfl rfl rfl (P.cmp rfl rfl rfl) ?_
    refine WL.nil_ ?_
    refine End.seq ?_
    refine WC.cond rfl (fun hc28 => ?_) (fun hc28 => ?_)
    ·
      try simp only [decide_eq_true_eq, decide_eq_false_iff_not, beq_iff_eq, beq_eq_false_iff_ne, bne_iff_ne, bne_eq_false_iff_eq, Bool.not_eq_true', Bool.not_eq_false', ne_eq, Int.not_lt, Int.not_le] at hc28
      refine WC.region ?_
      refine WL.p rfl rfl rfl (P.assign rfl) ?_
      refine WL.nil_ ?_
      refine End.seq ?_
      refine WC.region ?_
      refine WL.p rfl rfl rfl (P.move rfl) ?_
      refine WL.p rfl rfl rfl (P.move rfl) ?_
      refine WL.p rfl rfl rfl (P.conv (by kernel_rfl) Tryz.underlying3 rfl rfl) ?_
      refine WL.p rfl rfl rfl (P.nilCheck rfl) ?_
      refine WL.store 2 Tryz.sizeOf3 rfl rfl rfl rfl rfl hoff ?_
      refine WL.nil_ ?_
      refine End.norm ?_
      refine End.ret0 rfl ?_
      exact fun w' hs' => Mo.of rfl (by rw [clampN, if_pos hc28]; rfl) hs'
    ·
      try simp only [decide_eq_true_eq, decide_eq_false_iff_not, beq_iff_eq, beq_eq_false_iff_ne, bne_iff_ne, bne_eq_false_iff_eq, Bool.not_eq_true', Bool.not_eq_false', ne_eq, Int.not_lt, Int.not_le] at hc28
      refine WC.skip ?_
      refine End.seq ?_
      refine WC.region ?_
      refine WL.p rfl rfl rfl (P.move rfl) ?_
      refine WL.p rfl rfl rfl (P.move rfl) ?_
      refine WL.p rfl rfl rfl (P.conv (by kernel_rfl) Tryz.underlying3 rfl rfl) ?_
      refine WL.p rfl rfl rfl (P.nilCheck rfl) ?_
      refine WL.store 2 Tryz.sizeOf3 rfl rfl rfl rfl rfl hoff ?_
      refine WL.nil_ ?_
      refine End.norm ?_
      refine End.ret0 rfl ?_
      exact fun w' hs' => Mo.of rfl (by rw [clampN, if_neg (by omega), wrap_i64 (by omega)]; rfl) hs'

end Go.Proofs.YtlkkiimmangplaaGreatDoor

/- Lists of numbers through the codec. -/
namespace Go.Proofs.YtlkkiimmangplaaGreatDoor
open Go.RowKit
set_option linter.unusedVariables false
set_option linter.unusedSimpArgs false

def rowP (l : List (Addr × Int)) : Array Value := (l.map (fun p => Value.pointer (some p.1))).toArray
def outs (out : ByteArray) (l : List (Addr × Int)) : ByteArray := l.foldl (fun s p => s ++ strOfNums (encF 9 p.2)) out
theorem outs_snoc {l : List (Addr × Int)} {k : Nat} {p : Addr × Int} (h : l[k]? = some p) (out : ByteArray) : outs out (l.take (k + 1)) = outs out (l.take k) ++ strOfNums (encF 9 p.2) := by
  rw [take_snoc h]; simp [outs]
theorem outs_size (l : List (Addr × Int)) : ∀ out : ByteArray, (outs out l).size ≤ out.size + 10 * l.length := by
  induction l with
  | nil => intro out; simp [outs]
  | cons p r ih =>
    intro out
    have h1 := ih (out ++ strOfNums (encF 9 p.2))
    have h2 := encF_len 9 p.2
    simp only [size_append, strOfNums_size] at h1
    simp only [outs, List.foldl_cons, List.length_cons] at h1 ⊢
    omega
theorem rowP_get {l : List (Addr × Int)} {k : Nat} {p : Addr × Int} (h : l[k]? = some p) : (rowP l)[0 + (k : Int).toNat * 1]? = some (.pointer (some p.1)) := by simp [rowP, h]

set_option maxRecDepth 100000 in
theorem numbers_w (c bs : Nat) (out : ByteArray) (l : List (Addr × Int)) (w0 w : World) (H : List It) (hst : St w0 (.blk bs 222 (rowP l) :: cB c out none :: H) w) (hread : ∀ p ∈ l, ∀ cs w, St w0 (.blk c 155 cs :: .blk bs 222 (rowP l) :: H) w → w.cell? p.1 = some (.int .i64 p.2)) (hn : ∀ p ∈ l, 0 ≤ p.2 ∧ p.2 < 9223372036854775808) (ho : out.size + 10 * l.length < 4294967296) :
    Calls Tryz.prog 197 #[.pointer (some ⟨c, 0, none⟩), .slice (some ⟨bs, 0, none⟩) l.length l.length] w (Mo w0 (.tuple #[]) (.blk bs 222 (rowP l) :: cB c (outs out l) none :: H)) := by
  refine enterH Tryz.func197 rfl Tryz.ntmps197 rfl hst ?_
  refine WC.seq ?_
  refine WC.region ?_
  refine WL.p rfl rfl rfl (P.move rfl) ?_
  refine WL.p rfl rfl rfl (P.lenR Tryz.underlying273 rfl) ?_
  refine WL.p rfl rfl rfl (P.move rfl) ?_
  refine WL.nil_ ?_
  refine End.seq ?_
  refine WC.block ?_
  refine WC.loopD (σ := Nat) (fun k => [(8, .int .i64 k)]) (fun k => (.blk bs 222 (rowP l) :: cB c (outs out (l.take k)) none :: H)) (fun k => k ≤ l.length) (fun k => l.length - k) 0 (Nat.zero_le _) (Env.sub_cons rfl (Env.sub_nil)) (List.range _) selOk_range (sel_range.trans rfl) ?_
  rintro k hk
  refine WC.seq ?_
  refine WC.region ?_
  refine WL.p rfl rfl rfl (P.cmp rfl rfl rfl) ?_
  refine WL.nil_ ?_
  refine End.seq ?_
  refine WC.seq ?_
  refine WC.cond rfl (fun hc9 => ?_) (fun hc9 => ?_)
  ·
    try simp only [decide_eq_true_eq, decide_eq_false_iff_not, beq_iff_eq, beq_eq_false_iff_ne, bne_iff_ne, bne_eq_false_iff_eq, Bool.not_eq_true', Bool.not_eq_false', ne_eq, Int.not_lt, Int.not_le] at hc9
    obtain ⟨p, hp⟩ := get_of_lt (xs := l) (k := k) (by omega)
    refine WC.skip ?_
    refine End.seq ?_
    refine WC.seq ?_
    refine WC.block ?_
    refine WC.seq ?_
    refine WC.region ?_
    refine WL.p rfl rfl rfl (P.elemAddr Tryz.underlying273 Tryz.sizeOf222 rfl rfl (by omega) (by omega)) ?_
    refine WL.p rfl rfl rfl (P.loadO 0 Tryz.isAgg222 rfl rfl (rowP_get hp)) ?_
    refine WL.p rfl rfl rfl (P.assign rfl) ?_
    refine WL.nil_ ?_
    refine End.seq ?_
    refine WC.region ?_
    refine WL.p rfl rfl rfl (P.move rfl) ?_
    refine WL.p rfl rfl rfl (P.move rfl) ?_
    refine WL.callo (H' := _) (ent_of Tryz.func210 rfl rfl) rfl rfl rfl (fun w hs => (number_w c (outs out (l.take k)) p.1 p.2 w0 w _ hs.swap2 (fun cs w hs => hread p (List.mem_of_getElem? hp) cs w hs) (by have := outs_size (l.take k) out; simp at this; omega) (hn p (List.mem_of_getElem? hp))).mono fun e w' h => h.swap2) ?_
    refine WL.nil_ ?_
    refine End.blkN ?_
    refine End.seq ?_
    refine WC.region ?_
    refine WL.p rfl rfl rfl (P.ari64 rfl rfl rfl (by omega)) ?_
    refine WL.p rfl rfl rfl (P.move rfl) ?_
    refine WL.nil_ ?_
    refine End.againD (k + 1) ?_ ?_ rfl (Env.sub_cons rfl (Env.sub_nil)) rfl (List.range _) selOk_range (sel_range.trans (by rw [outs_snoc hp]))
    · show k + 1 ≤ l.length; omega
    · omega
  ·
    try simp only [decide_eq_true_eq, decide_eq_false_iff_not, beq_iff_eq, beq_eq_false_iff_ne, bne_iff_ne, bne_eq_false_iff_eq, Bool.not_eq_true', Bool.not_eq_false', ne_eq, Int.not_lt, Int.not_le] at hc9
    refine WC.exit ?_
    refine End.thenX ?_
    refine End.thenX ?_
    refine End.blkX ?_
    refine End.norm ?_
    refine End.ret0 rfl ?_
    have e : k = l.length := by omega
    exact fun w' hs' => Mo.of rfl (by rw [e, List.take_length]) hs'

def rowO (q : Nat) (l : List Nat) : Array Value := (l.map (fun o => Value.pointer (some ⟨q, o, none⟩))).toArray
theorem rowO_get {q : Nat} {l : List Nat} {k o : Nat} (h : l[k]? = some o) : (rowO q l)[0 + (k : Int).toNat * 1]? = some (.pointer (some ⟨q, o, none⟩)) := by simp [rowO, h]
/-- Numbers read into cells, one behind the other. -/
def insN (s : Array Value × Rd) (l : List Nat) : Array Value × Rd := l.foldl (fun s o => (s.1.setIfInBounds o (.int .i64 (clampN s.2.num.1)), s.2.num.2)) s
theorem insN_snoc {l : List Nat} {k o : Nat} (h : l[k]? = some o) (s : Array Value × Rd) : insN s (l.take (k + 1)) = ((insN s (l.take k)).1.setIfInBounds o (.int .i64 (clampN (insN s (l.take k)).2.num.1)), (insN s (l.take k)).2.num.2) := by
  rw [take_snoc h]; simp [insN]
theorem insN_size (l : List Nat) : ∀ s, (insN s l).1.size = s.1.size ∧ (insN s l).2.1.size ≤ s.2.1.size := by
  induction l with
  | nil => intro s; exact ⟨rfl, Nat.le_refl _⟩
  | cons o r ih =>
    intro s
    have h := ih (s.1.setIfInBounds o (.int .i64 (clampN s.2.num.1)), s.2.num.2)
    simp only [Array.size_setIfInBounds] at h
    exact ⟨h.1, Nat.le_trans h.2 s.2.num_size⟩
theorem St.rot {w0 w : World} {a b c d : It} {H : List It} (h : St w0 (a :: b :: c :: d :: H) w) : St w0 (b :: c :: d :: a :: H) w := by
  have hg : ∀ (i : Nat) (z : It), (b :: c :: d :: a :: H)[i]? = some z → (a :: b :: c :: d :: H)[if i < 3 then i + 1 else if i = 3 then 0 else i]? = some z := by
    intro i z hz
    match i with
    | 0 => simpa using hz
    | 1 => simpa using hz
    | 2 => simpa using hz
    | 3 => simpa using hz
    | i + 4 => rw [if_neg (by omega), if_neg (by omega)]; simpa using hz
  refine ⟨h.below, fun i z hz => h.ok _ z (hg i z hz), fun i j z u hz hu hij => h.apart _ _ z u (hg i z hz) (hg j u hu) (by split <;> split <;> (try split) <;> (try split) <;> omega)⟩
theorem St.tor {w0 w : World} {a b c d : It} {H : List It} (h : St w0 (b :: c :: d :: a :: H) w) : St w0 (a :: b :: c :: d :: H) w := h.rot.rot.rot

set_option maxRecDepth 100000 in
theorem numbers_r (r c q tq bs : Nat) (x : Rd) (out : ByteArray) (cs : Array Value) (l : List Nat) (w0 w : World) (H : List It) (hst : St w0 (.blk bs 222 (rowO q l) :: rdB r x :: cB c out (some ⟨r, 0, none⟩) :: .blk q tq cs :: H) w) (hsz : x.1.size < 4294967296) (hoff : ∀ o ∈ l, o < cs.size) (hll : l.length < 1000) :
    Calls Tryz.prog 197 #[.pointer (some ⟨c, 0, none⟩), .slice (some ⟨bs, 0, none⟩) l.length l.length] w (Mo w0 (.tuple #[]) (.blk bs 222 (rowO q l) :: rdB r (insN (cs, x) l).2 :: cB c out (some ⟨r, 0, none⟩) :: .blk q tq (insN (cs, x) l).1 :: H)) := by
  refine enterH Tryz.func197 rfl Tryz.ntmps197 rfl hst ?_
  refine WC.seq ?_
  refine WC.region ?_
  refine WL.p rfl rfl rfl (P.move rfl) ?_
  refine WL.p rfl rfl rfl (P.lenR Tryz.underlying273 rfl) ?_
  refine WL.p rfl rfl rfl (P.move rfl) ?_
  refine WL.nil_ ?_
  refine End.seq ?_
  refine WC.block ?_
  refine WC.loopD (σ := Nat) (fun k => [(8, .int .i64 k)]) (fun k => (.blk bs 222 (rowO q l) :: rdB r (insN (cs, x) (l.take k)).2 :: cB c out (some ⟨r, 0, none⟩) :: .blk q tq (insN (cs, x) (l.take k)).1 :: H)) (fun k => k ≤ l.length) (fun k => l.length - k) 0 (Nat.zero_le _) (Env.sub_cons rfl (Env.sub_nil)) (List.range _) selOk_range (sel_range.trans rfl) ?_
  rintro k hk
  refine WC.seq ?_
  refine WC.region ?_
  refine WL.p rfl rfl rfl (P.cmp rfl rfl rfl) ?_
  refine WL.nil_ ?_
  refine End.seq ?_
  refine WC.seq ?_
  refine WC.cond rfl (fun hc9 => ?_) (fun hc9 => ?_)
  ·
    try simp only [decide_eq_true_eq, decide_eq_false_iff_not, beq_iff_eq, beq_eq_false_iff_ne, bne_iff_ne, bne_eq_false_iff_eq, Bool.not_eq_true', Bool.not_eq_false', ne_eq, Int.not_lt, Int.not_le] at hc9
    obtain ⟨o, hp⟩ := get_of_lt (xs := l) (k := k) (by omega)
    refine WC.skip ?_
    refine End.seq ?_
    refine WC.seq ?_
    refine WC.block ?_
    refine WC.seq ?_
    refine WC.region ?_
    refine WL.p rfl rfl rfl (P.elemAddr Tryz.underlying273 Tryz.sizeOf222 rfl rfl (by omega) (by omega)) ?_
    refine WL.p rfl rfl rfl (P.loadO 0 Tryz.isAgg222 rfl rfl (rowO_get hp)) ?_
    refine WL.p rfl rfl rfl (P.assign rfl) ?_
    refine WL.nil_ ?_
    refine End.seq ?_
    refine WC.region ?_
    refine WL.p rfl rfl rfl (P.move rfl) ?_
    refine WL.p rfl rfl rfl (P.move rfl) ?_
    refine WL.callo (H' := _) (ent_of Tryz.func210 rfl rfl) rfl rfl rfl (fun w hs => (number_r r c q tq o (insN (cs, x) (l.take k)).2 out (insN (cs, x) (l.take k)).1 w0 w _ hs.rot (by have := (insN_size (l.take k) (cs, x)).2; simp only at this; omega) (by have h1 := (insN_size (l.take k) (cs, x)).1; have h2 := hoff o (List.mem_of_getElem? hp); simp [Nat.blt, Nat.succ_le_iff, h1, h2])).mono fun e w' h => ⟨h.1, h.2.tor⟩) ?_
    refine WL.nil_ ?_
    refine End.blkN ?_
    refine End.seq ?_
    refine WC.region ?_
    refine WL.p rfl rfl rfl (P.ari64 rfl rfl rfl (by omega)) ?_
    refine WL.p rfl rfl rfl (P.move rfl) ?_
    refine WL.nil_ ?_
    refine End.againD (k + 1) ?_ ?_ rfl (Env.sub_cons rfl (Env.sub_nil)) rfl (List.range _) selOk_range (sel_range.trans (by rw [insN_snoc hp]))
    · show k + 1 ≤ l.length; omega
    · omega
  ·
    try simp only [decide_eq_true_eq, decide_eq_false_iff_not, beq_iff_eq, beq_eq_false_iff_ne, bne_iff_ne, bne_eq_false_iff_eq, Bool.not_eq_true', Bool.not_eq_false', ne_eq, Int.not_lt, Int.not_le] at hc9
    refine WC.exit ?_
    refine End.thenX ?_
    refine End.thenX ?_
    refine End.blkX ?_
    refine End.norm ?_
    refine End.ret0 rfl ?_
    have e : k = l.length := by omega
    exact fun w' hs' => Mo.of rfl (by rw [e, List.take_length]) hs'

end Go.Proofs.YtlkkiimmangplaaGreatDoor

/- A group's fields through the codec; numbers in a range. -/
namespace Go.Proofs.YtlkkiimmangplaaGreatDoor
open Go.RowKit
set_option linter.unusedVariables false
set_option linter.unusedSimpArgs false

def grpOut (out : ByteArray) (limit last : Int) (empty : Bool) (owner : ByteArray) : ByteArray :=
  out ++ strOfNums (encF 9 limit) ++ strOfNums (encF 9 last) ++ strOfNums [if empty then 1 else 0] ++ encText owner
def grpIn (cs : Array Value) (x : Rd) : Array Value × Rd :=
  (((insN (cs, x) [25, 26]).1.setIfInBounds 27 (.bool (insN (cs, x) [25, 26]).2.bool.1)).setIfInBounds 28 (.string ((insN (cs, x) [25, 26]).2.bool.2.text 200).1), ((insN (cs, x) [25, 26]).2.bool.2.text 200).2)
theorem mem2 {α : Type} {P : α → Prop} {a b : α} (ha : P a) (hb : P b) : ∀ p ∈ [a, b], P p := by
  intro p hp
  rcases List.mem_cons.1 hp with rfl | hp
  · exact ha
  · rcases List.mem_cons.1 hp with rfl | hp
    · exact hb
    · cases hp

set_option maxRecDepth 100000 in
theorem group_w (c q : Nat) (out : ByteArray) (cs : Array Value) (limit last : Int) (empty : Bool) (owner : ByteArray) (w0 w : World) (H : List It) (hst : St w0 (cB c out none :: .blk q 34 cs :: H) w) (h25 : cs[25]? = some (.int .i64 limit)) (h26 : cs[26]? = some (.int .i64 last)) (h27 : cs[27]? = some (.bool empty)) (h28 : cs[28]? = some (.string owner)) (hl : 0 ≤ limit ∧ limit < 9223372036854775808) (hl' : 0 ≤ last ∧ last < 9223372036854775808) (ho : out.size + 1000 < 4294967296) (how : owner.size < 4294967296) :
    Calls Tryz.prog 196 #[.pointer (some ⟨c, 0, none⟩), .pointer (some ⟨q, 0, none⟩)] w (Mo w0 (.tuple #[]) (cB c (grpOut out limit last empty owner) none :: .blk q 34 cs :: H)) := by
  refine enterH Tryz.func196 rfl Tryz.ntmps196 rfl hst ?_
  refine WC.seq ?_
  refine WC.nil1 ?_
  apply WC.draws (al := [7]) (vs := [_, _, _, _, _, _, _, fun s => .slice (some ⟨(s 7).1, 0, none⟩) 2 2, _]) (Hs := fun v HH b s => (bif b 8 then ((.blk (s 7).1 222 (rowP [(⟨q, 25, none⟩, limit), (⟨q, 26, none⟩, last)]) :: cB c (outs out [(⟨q, 25, none⟩, limit), (⟨q, 26, none⟩, last)]) none :: .blk q 34 cs :: H)) else (bnew (b 7) (It.blk (s 7).1 222 #[.pointer (some ⟨q, 25, none⟩), .pointer (some ⟨q, 26, none⟩)]) HH 0))) (by kernel_rfl) (by kernel_rfl) (by kernel_rfl)
  case steps =>
    refine Stps.cons (Stp.off [8] (by kernel_rfl) (Stp.p (fun b s hd => ⟨_, ⟨rfl, P.move rfl⟩, rfl, rfl⟩))) ?_
    refine Stps.cons (Stp.off [8] (by kernel_rfl) (Stp.p (fun b s hd => ⟨_, ⟨rfl, P.move rfl⟩, rfl, rfl⟩))) ?_
    refine Stps.cons (Stp.off [8] (by kernel_rfl) (Stp.p (fun b s hd => ⟨_, ⟨rfl, P.nilCheck rfl⟩, rfl, rfl⟩))) ?_
    refine Stps.cons (Stp.off [8] (by kernel_rfl) (Stp.p (fun b s hd => ⟨_, ⟨rfl, P.fieldAddr fa_34_5 rfl⟩, rfl, rfl⟩))) ?_
    refine Stps.cons (Stp.off [8] (by kernel_rfl) (Stp.p (fun b s hd => ⟨_, ⟨rfl, P.move rfl⟩, rfl, rfl⟩))) ?_
    refine Stps.cons (Stp.off [8] (by kernel_rfl) (Stp.p (fun b s hd => ⟨_, ⟨rfl, P.nilCheck rfl⟩, rfl, rfl⟩))) ?_
    refine Stps.cons (Stp.off [8] (by kernel_rfl) (Stp.p (fun b s hd => ⟨_, ⟨rfl, P.fieldAddr fa_34_6 rfl⟩, rfl, rfl⟩))) ?_
    refine Stps.cons (Stp.off [8] (by kernel_rfl) (Stp.row 0 rfl (fun b s => ⟨rfl, _, _, rfl, fun w => by refine run_rowL Tryz.underlying273 Tryz.sizeOf222 Tryz.zeroValue222 ?_ ?_ ?_ ?_ ?_ ?_ w <;> rfl, fun q => ⟨rfl, _, rfl, fun hb => rfl⟩⟩))) ?_
    refine Stps.cons (Stp.callo (ent_of Tryz.func197 rfl rfl) (fun b s hb hd => ⟨_, _, (.blk (s 7).1 222 (rowP [(⟨q, 25, none⟩, limit), (⟨q, 26, none⟩, last)]) :: cB c out none :: .blk q 34 cs :: H), _, rfl, rfl, (by show (bif b 8 then _ else bnew (b 7) _ _ _) = _; rw [hb, hd 7 (by decide)]; rfl), fun w hs => numbers_w c (s 7).1 out [(⟨q, 25, none⟩, limit), (⟨q, 26, none⟩, last)] w0 w _ hs (mem2 (fun cs w hs => (cell_blk (hs.ok 2 _ rfl).2).trans h25) (fun cs w hs => (cell_blk (hs.ok 2 _ rfl).2).trans h26)) (mem2 hl hl') (by simp; omega), rfl, rfl⟩)) ?_
    exact Stps.nil
  case h0 => exact fun s => rfl
  case agree => exact AgrAll.cons (AgrL.no (fun s x => rfl) (AgrL.no (fun s x => rfl) (AgrL.no (fun s x => rfl) (AgrL.no (fun s x => rfl) (AgrL.no (fun s x => rfl) (AgrL.no (fun s x => rfl) (AgrL.no (fun s x => rfl) (AgrL.yes (by kernel_rfl) (AgrL.yes (by kernel_rfl) (AgrL.nil)))))))))) (AgrAll.nil)
  intro s0
  refine End.shape (ρ' := [(0, _), (1, _), (4, _), (5, _), (6, _), (7, _), (8, _), (9, _), (10, _), (11, _), (12, _)]) (H' := _ :: _ :: _ :: H) (Env.sub_cons rfl (Env.sub_cons rfl (Env.sub_cons rfl (Env.sub_cons rfl (Env.sub_cons rfl (Env.sub_cons rfl (Env.sub_cons rfl (Env.sub_cons rfl (Env.sub_cons rfl (Env.sub_cons rfl (Env.sub_cons rfl (Env.sub_nil)))))))))))) rfl ?_
  refine End.seq ?_
  refine WC.seq ?_
  refine WC.region ?_
  refine WL.p rfl rfl rfl (P.move rfl) ?_
  refine WL.p rfl rfl rfl (P.move rfl) ?_
  refine WL.p rfl rfl rfl (P.nilCheck rfl) ?_
  refine WL.p rfl rfl rfl (P.fieldAddr fa_34_7 rfl) ?_
  refine WL.callo (H' := _) (ent_of Tryz.func198 rfl rfl) rfl rfl rfl (fun w hs => (truth_w c (outs out [(⟨q, 25, none⟩, limit), (⟨q, 26, none⟩, last)]) ⟨q, 27, none⟩ empty w0 w _ hs.swap2 (fun cs w hs => (cell_blk (hs.ok 2 _ rfl).2).trans h27) (by have := outs_size [(⟨q, 25, none⟩, limit), (⟨q, 26, none⟩, last)] out; simp at this; omega)).mono fun e w' h => h.swap2) ?_
  refine WL.nil_ ?_
  refine End.seq ?_
  refine WC.region ?_
  refine WL.p rfl rfl rfl (P.move rfl) ?_
  refine WL.p rfl rfl rfl (P.move rfl) ?_
  refine WL.p rfl rfl rfl (P.nilCheck rfl) ?_
  refine WL.p rfl rfl rfl (P.fieldAddr fa_34_8 rfl) ?_
  refine WL.callo (H' := _) (ent_of Tryz.func199 rfl rfl) rfl rfl rfl (fun w hs => (text_w c (outs out [(⟨q, 25, none⟩, limit), (⟨q, 26, none⟩, last)] ++ strOfNums [if empty then 1 else 0]) ⟨q, 28, none⟩ owner w0 w _ hs.swap2 (fun cs w hs => (cell_blk (hs.ok 2 _ rfl).2).trans h28) (by have := outs_size [(⟨q, 25, none⟩, limit), (⟨q, 26, none⟩, last)] out; simp [size_append, strOfNums_size] at this ⊢; omega) how).mono fun e w' h => h.swap2) ?_
  refine WL.nil_ ?_
  refine End.norm ?_
  refine End.ret0 rfl ?_
  exact fun w' hs' => Mo.of rfl rfl hs'.tail

set_option maxRecDepth 100000 in
theorem group_r (r c q : Nat) (x : Rd) (out : ByteArray) (cs : Array Value) (w0 w : World) (H : List It) (hst : St w0 (rdB r x :: cB c out (some ⟨r, 0, none⟩) :: .blk q 34 cs :: H) w) (hsz : x.1.size < 4294967296) (hcs : cs.size = 33) :
    Calls Tryz.prog 196 #[.pointer (some ⟨c, 0, none⟩), .pointer (some ⟨q, 0, none⟩)] w (Mo w0 (.tuple #[]) (rdB r (grpIn cs x).2 :: cB c out (some ⟨r, 0, none⟩) :: .blk q 34 (grpIn cs x).1 :: H)) := by
  have hi := insN_size [25, 26] (cs, x)
  have hi1 : (insN (cs, x) [25, 26]).1.size = 33 := by rw [hi.1]; exact hcs
  have hi2 : (insN (cs, x) [25, 26]).2.1.size < 4294967296 := Nat.lt_of_le_of_lt hi.2 hsz
  have hi3 := Rd.bool_size (insN (cs, x) [25, 26]).2
  refine enterH Tryz.func196 rfl Tryz.ntmps196 rfl hst ?_
  refine WC.seq ?_
  refine WC.nil1 ?_
  apply WC.draws (al := [7]) (vs := [_, _, _, _, _, _, _, fun s => .slice (some ⟨(s 7).1, 0, none⟩) 2 2, _]) (Hs := fun v HH b s => (bif b 8 then ((.blk (s 7).1 222 (rowO q [25, 26]) :: rdB r (insN (cs, x) [25, 26]).2 :: cB c out (some ⟨r, 0, none⟩) :: .blk q 34 (insN (cs, x) [25, 26]).1 :: H)) else (bnew (b 7) (It.blk (s 7).1 222 #[.pointer (some ⟨q, 25, none⟩), .pointer (some ⟨q, 26, none⟩)]) HH 0))) (by kernel_rfl) (by kernel_rfl) (by kernel_rfl)
  case steps =>
    refine Stps.cons (Stp.off [8] (by kernel_rfl) (Stp.p (fun b s hd => ⟨_, ⟨rfl, P.move rfl⟩, rfl, rfl⟩))) ?_
    refine Stps.cons (Stp.off [8] (by kernel_rfl) (Stp.p (fun b s hd => ⟨_, ⟨rfl, P.move rfl⟩, rfl, rfl⟩))) ?_
    refine Stps.cons (Stp.off [8] (by kernel_rfl) (Stp.p (fun b s hd => ⟨_, ⟨rfl, P.nilCheck rfl⟩, rfl, rfl⟩))) ?_
    refine Stps.cons (Stp.off [8] (by kernel_rfl) (Stp.p (fun b s hd => ⟨_, ⟨rfl, P.fieldAddr fa_34_5 rfl⟩, rfl, rfl⟩))) ?_
    refine Stps.cons (Stp.off [8] (by kernel_rfl) (Stp.p (fun b s hd => ⟨_, ⟨rfl, P.move rfl⟩, rfl, rfl⟩))) ?_
    refine Stps.cons (Stp.off [8] (by kernel_rfl) (Stp.p (fun b s hd => ⟨_, ⟨rfl, P.nilCheck rfl⟩, rfl, rfl⟩))) ?_
    refine Stps.cons (Stp.off [8] (by kernel_rfl) (Stp.p (fun b s hd => ⟨_, ⟨rfl, P.fieldAddr fa_34_6 rfl⟩, rfl, rfl⟩))) ?_
    refine Stps.cons (Stp.off [8] (by kernel_rfl) (Stp.row 0 rfl (fun b s => ⟨rfl, _, _, rfl, fun w => by refine run_rowL Tryz.underlying273 Tryz.sizeOf222 Tryz.zeroValue222 ?_ ?_ ?_ ?_ ?_ ?_ w <;> rfl, fun q => ⟨rfl, _, rfl, fun hb => rfl⟩⟩))) ?_
    refine Stps.cons (Stp.callo (ent_of Tryz.func197 rfl rfl) (fun b s hb hd => ⟨_, _, (.blk (s 7).1 222 (rowO q [25, 26]) :: rdB r x :: cB c out (some ⟨r, 0, none⟩) :: .blk q 34 cs :: H), _, rfl, rfl, (by show (bif b 8 then _ else bnew (b 7) _ _ _) = _; rw [hb, hd 7 (by decide)]; rfl), fun w hs => numbers_r r c q 34 (s 7).1 x out cs [25, 26] w0 w _ hs hsz (mem2 (by omega) (by omega)) (by decide), rfl, rfl⟩)) ?_
    exact Stps.nil
  case h0 => exact fun s => rfl
  case agree => exact AgrAll.cons (AgrL.no (fun s x => rfl) (AgrL.no (fun s x => rfl) (AgrL.no (fun s x => rfl) (AgrL.no (fun s x => rfl) (AgrL.no (fun s x => rfl) (AgrL.no (fun s x => rfl) (AgrL.no (fun s x => rfl) (AgrL.yes (by kernel_rfl) (AgrL.yes (by kernel_rfl) (AgrL.nil)))))))))) (AgrAll.nil)
  intro s0
  refine End.shape (ρ' := [(0, _), (1, _), (4, _), (5, _), (6, _), (7, _), (8, _), (9, _), (10, _), (11, _), (12, _)]) (H' := _ :: _ :: _ :: _ :: H) (Env.sub_cons rfl (Env.sub_cons rfl (Env.sub_cons rfl (Env.sub_cons rfl (Env.sub_cons rfl (Env.sub_cons rfl (Env.sub_cons rfl (Env.sub_cons rfl (Env.sub_cons rfl (Env.sub_cons rfl (Env.sub_cons rfl (Env.sub_nil)))))))))))) rfl ?_
  refine End.seq ?_
  refine WC.seq ?_
  refine WC.region ?_
  refine WL.p rfl rfl rfl (P.move rfl) ?_
  refine WL.p rfl rfl rfl (P.move rfl) ?_
  refine WL.p rfl rfl rfl (P.nilCheck rfl) ?_
  refine WL.p rfl rfl rfl (P.fieldAddr fa_34_7 rfl) ?_
  refine WL.callo (H' := _) (ent_of Tryz.func198 rfl rfl) rfl rfl rfl (fun w hs => (truth_r r c q 34 27 _ out _ w0 w _ hs.rot hi2 (by rw [hi1]; rfl)).mono fun e w' h => ⟨h.1, h.2.tor⟩) ?_
  refine WL.nil_ ?_
  refine End.seq ?_
  refine WC.region ?_
  refine WL.p rfl rfl rfl (P.move rfl) ?_
  refine WL.p rfl rfl rfl (P.move rfl) ?_
  refine WL.p rfl rfl rfl (P.nilCheck rfl) ?_
  refine WL.p rfl rfl rfl (P.fieldAddr fa_34_8 rfl) ?_
  refine WL.callo (H' := _) (ent_of Tryz.func199 rfl rfl) rfl rfl rfl (fun w hs => (text_r r c q 34 28 _ out _ w0 w _ hs.rot (by omega) (by rw [Array.size_setIfInBounds, hi1]; rfl)).mono fun e w' h => ⟨h.1, h.2.tor⟩) ?_
  refine WL.nil_ ?_
  refine End.norm ?_
  refine End.ret0 rfl ?_
  exact fun w' hs' => Mo.of rfl rfl hs'.tail

theorem foldl_min_le (l : List Int) : ∀ z lo : Int, decide (lo ≤ l.foldl min z) = (decide (lo ≤ z) && l.all (fun x => decide (lo ≤ x))) := by
  induction l with
  | nil => intro z lo; rw [List.foldl_nil, List.all_nil, Bool.and_true]
  | cons x r ih =>
    intro z lo
    rw [List.foldl_cons, ih, List.all_cons, ← Bool.and_assoc]
    congr 1
    rw [Bool.eq_iff_iff]; simp; omega
theorem foldl_max_le (l : List Int) : ∀ z hi : Int, decide (l.foldl max z ≤ hi) = (decide (z ≤ hi) && l.all (fun x => decide (x ≤ hi))) := by
  induction l with
  | nil => intro z lo; rw [List.foldl_nil, List.all_nil, Bool.and_true]
  | cons x r ih =>
    intro z lo
    rw [List.foldl_cons, ih, List.all_cons, ← Bool.and_assoc]
    congr 1
    rw [Bool.eq_iff_iff]; simp; omega
def inB (lo hi : Int) (l : List Int) : Bool := l.all (fun x => decide (lo ≤ x)) && l.all (fun x => decide (x ≤ hi))
theorem min_ge {l : List Int} (h : l ≠ []) (lo : Int) : decide (lo ≤ Lib.minOf l) = l.all (fun x => decide (lo ≤ x)) := by
  cases l with
  | nil => exact absurd rfl h
  | cons x r => rw [Lib.minOf, foldl_min_le]; simp
theorem max_le {l : List Int} (h : l ≠ []) (hi : Int) : decide (Lib.maxOf l ≤ hi) = l.all (fun x => decide (x ≤ hi)) := by
  cases l with
  | nil => exact absurd rfl h
  | cons x r => rw [Lib.maxOf, foldl_max_le]; simp
theorem minI_any (A : Option Addr) (c : Nat) (xs : List Int) (w : World) (hr : Sl encI 1 w A xs) (hp : 0 < xs.length) : Calls Tryz.prog 267 #[.slice A xs.length c] w (RetV w (.int .i64 (Lib.minOf xs))) := by
  obtain ⟨b, off, rfl, hc⟩ := hr.at_ hp
  have hl := hr.1
  refine (Tryz.slices_Min_int b off xs.length c xs w hp (Nat.le_refl _) (by omega) (fun j hj => ?_)).mono fun e w' ⟨h1, h2⟩ => ⟨by rw [h1, List.take_length], by rw [h2]; exact St.refl w⟩
  have := hc j xs[j] (by simp [hj]) 0 _ rfl
  simpa [List.getD, hj] using this
theorem maxI_any (A : Option Addr) (c : Nat) (xs : List Int) (w : World) (hr : Sl encI 1 w A xs) (hp : 0 < xs.length) : Calls Tryz.prog 268 #[.slice A xs.length c] w (RetV w (.int .i64 (Lib.maxOf xs))) := by
  obtain ⟨b, off, rfl, hc⟩ := hr.at_ hp
  have hl := hr.1
  refine (Tryz.slices_Max_int b off xs.length c xs w hp (Nat.le_refl _) (by omega) (fun j hj => ?_)).mono fun e w' ⟨h1, h2⟩ => ⟨by rw [h1, List.take_length], by rw [h2]; exact St.refl w⟩
  have := hc j xs[j] (by simp [hj]) 0 _ rfl
  simpa [List.getD, hj] using this

set_option maxRecDepth 100000 in
theorem within_any (lo hi : Int) (A : Option Addr) (c : Nat) (xs : List Int) (w : World) (hr : Sl encI 1 w A xs) :
    Calls Tryz.prog 201 #[.int .i64 lo, .int .i64 hi, .slice A xs.length c] w (RetV w (.bool (inB lo hi xs))) := by
  refine enter Tryz.func201 rfl Tryz.ntmps201 rfl ?_
  refine WC.seq ?_
  refine WC.region ?_
  refine WL.p rfl rfl rfl (P.assign rfl) ?_
  refine WL.nil_ ?_
  refine End.seq ?_
  refine WC.seq ?_
  refine WC.region ?_
  refine WL.p rfl rfl rfl (P.move rfl) ?_
  refine WL.p rfl rfl rfl (P.lenR Tryz.underlying22 rfl) ?_
  refine WL.p rfl rfl rfl (P.cmp rfl rfl rfl) ?_
  refine WL.p rfl rfl rfl (P.move rfl) ?_
  refine WL.split 10 rfl (fun hs10 => ?_) (fun hs10 => ?_)
  ·
    try simp only [decide_eq_true_eq, decide_eq_false_iff_not, beq_iff_eq, beq_eq_false_iff_ne, bne_iff_ne, bne_eq_false_iff_eq, Bool.not_eq_true', Bool.not_eq_false', ne_eq, Int.not_lt, Int.not_le] at hs10
    refine WL.off rfl rfl ?_
    refine WL.off rfl rfl ?_
    refine WL.off rfl rfl ?_
    refine WL.off rfl rfl ?_
    refine WL.off rfl rfl ?_
    refine WL.offU rfl rfl ?_
    refine WL.offU rfl rfl ?_
    refine WL.offU rfl rfl ?_
    refine WL.offU rfl rfl ?_
    refine WL.off rfl rfl ?_
    refine WL.p rfl rfl rfl (P.pickT rfl rfl) ?_
    refine WL.p rfl rfl rfl (P.assign rfl) ?_
    refine WL.nil_ ?_
    refine End.seq ?_
    refine WC.ret ?_
    refine End.ret1 rfl rfl ?_
    exact fun w' hs' => RetV.of (by rw [List.length_eq_zero_iff.1 (by omega : xs.length = 0)]; rfl) hs'
  ·
    try simp only [decide_eq_true_eq, decide_eq_false_iff_not, beq_iff_eq, beq_eq_false_iff_ne, bne_iff_ne, bne_eq_false_iff_eq, Bool.not_eq_true', Bool.not_eq_false', ne_eq, Int.not_lt, Int.not_le] at hs10
    have hp : 0 < xs.length := by omega
    have hne : xs ≠ [] := fun e => by rw [e] at hp; cases hp
    refine WL.p rfl rfl rfl (P.move rfl) ?_
    refine WL.callv (ent_of Tryz.func267 rfl rfl) rfl rfl rfl (fun w hs => minI_any A c xs w (hr.st hs) hp) ?_
    refine WL.p rfl rfl rfl (P.move rfl) ?_
    refine WL.p rfl rfl rfl (P.cmp rfl rfl rfl) ?_
    refine WL.p rfl rfl rfl (P.move rfl) ?_
    refine WL.split 15 rfl (fun hs15 => ?_) (fun hs15 => ?_)
    ·
      try simp only [decide_eq_true_eq, decide_eq_false_iff_not, beq_iff_eq, beq_eq_false_iff_ne, bne_iff_ne, bne_eq_false_iff_eq, Bool.not_eq_true', Bool.not_eq_false', ne_eq, Int.not_lt, Int.not_le] at hs15
      refine WL.p rfl rfl rfl (P.move rfl) ?_
      refine WL.callv (ent_of Tryz.func268 rfl rfl) rfl rfl rfl (fun w hs => maxI_any A c xs w (hr.st hs) hp) ?_
      refine WL.p rfl rfl rfl (P.move rfl) ?_
      refine WL.p rfl rfl rfl (P.cmp rfl rfl rfl) ?_
      refine WL.p rfl rfl rfl (P.pickT rfl rfl) ?_
      refine WL.p rfl rfl rfl (P.pickF rfl rfl) ?_
      refine WL.p rfl rfl rfl (P.assign rfl) ?_
      refine WL.nil_ ?_
      refine End.seq ?_
      refine WC.ret ?_
      refine End.ret1 rfl rfl ?_
      exact fun w' hs' => RetV.of (by rw [inB, ← min_ge hne, decide_eq_true hs15, max_le hne]; rfl) hs'
    ·
      try simp only [decide_eq_true_eq, decide_eq_false_iff_not, beq_iff_eq, beq_eq_false_iff_ne, bne_iff_ne, bne_eq_false_iff_eq, Bool.not_eq_true', Bool.not_eq_false', ne_eq, Int.not_lt, Int.not_le] at hs15
      refine WL.off rfl rfl ?_
      refine WL.off rfl rfl ?_
      refine WL.off rfl rfl ?_
      refine WL.off rfl rfl ?_
      refine WL.p rfl rfl rfl (P.pickF rfl rfl) ?_
      refine WL.p rfl rfl rfl (P.pickF rfl rfl) ?_
      refine WL.p rfl rfl rfl (P.assign rfl) ?_
      refine WL.nil_ ?_
      refine End.seq ?_
      refine WC.ret ?_
      refine End.ret1 rfl rfl ?_
      exact fun w' hs' => RetV.of (by rw [inB, ← min_ge hne, decide_eq_false (by omega)]; rfl) hs'

end Go.Proofs.YtlkkiimmangplaaGreatDoor
