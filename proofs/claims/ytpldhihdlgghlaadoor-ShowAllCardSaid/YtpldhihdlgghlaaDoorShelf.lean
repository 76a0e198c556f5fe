/-
  DERIVED: THE SHELF's CONTRACTS AT THIS DUMP, IN PLAIN WORDS (tools/lay-plain.mjs out of 'TrydShelf.lean', which tools/lay-shelf.mjs wrote): THE SAME DECLARATIONS UNDER THE SAME NAMES: 'import', 'namespace', 'open', 'def', 'theorem' AND NOTHING ELSE: no command of the shelf's: FOR A HAND-IN. Each laying: the table of numbers ('.._ren') and one theorem, a field a fact of the dump's own or the kernel's comparison; each contract: ONE APPLICATION.
-/
import Derived.Shelf.Strings.Builder1
import Derived.Shelf.Strings.Builder2
import Derived.Shelf.Strings.OnBuilder
import Derived.Shelf.Strings.BuilderF
import Derived.Shelf.Strings.BuilderK
import Derived.Shelf.Strings.Builder2Cap
import Derived.Shelf.Strconv.Itoa0
import Derived.Shelf.Strconv.Itoa1
import Derived.Shelf.LaysM
import Derived.Shelf.Strconv.Itoa2
import Derived.Shelf.Strconv.Itoa3
import Derived.Shelf.Strings.Prefix
import Derived.Shelf.Bits.Mul64
import Derived.Shelf.Strings.Repeat
import Derived.Shelf.Strings.BuilderCap
import Derived.Test.YtpldhihdlgghlaaDoorProg
namespace Go.Proofs
open Go.Shelf
def Tryd.lays170_ren : Go.Shelf.Ren := ⟨fun | 170 => 39 | n => n, fun | 70 => 48 | 3 => 3 | 0 => 0 | 72 => 51 | 37 => 49 | 5 => 5 | n => n, fun | n => n⟩
open Go.RowKit in
def Tryd.lays169_ren : Go.Shelf.Ren := ⟨fun | 169 => 20 | n => n, fun | 70 => 48 | 9 => 9 | 0 => 0 | 72 => 51 | 37 => 49 | 127 => 72 | 3 => 3 | 5 => 5 | n => n, fun | n => n⟩
open Go.RowKit in
open Go.RowKit in
open Go.RowKit in
def Tryd.lays241_ren : Go.Shelf.Ren := ⟨fun | 241 => 52 | 277 => 57 | n => n, fun | 70 => 48 | 3 => 3 | 0 => 0 | 72 => 51 | 37 => 49 | 5 => 5 | n => n, fun | n => n⟩
open Go.RowKit in
def Tryd.lays165_ren : Go.Shelf.Ren := ⟨fun | 165 => 38 | 240 => 35 | 241 => 52 | 276 => 48 | 277 => 57 | n => n, fun | 70 => 48 | 3 => 3 | 0 => 0 | 4 => 4 | 9 => 9 | 20 => 20 | 72 => 51 | 37 => 49 | 164 => 80 | 5 => 5 | n => n, fun | n => n⟩
open Go.RowKit in
def Tryd.lays156_ren : Go.Shelf.Ren := ⟨fun | 156 => 31 | 165 => 38 | 166 => 29 | 169 => 20 | 240 => 35 | 241 => 52 | 276 => 48 | 277 => 57 | n => n, fun | 31 => 59 | 9 => 9 | 3 => 3 | 4 => 4 | 0 => 0 | 20 => 20 | 72 => 51 | 76 => 67 | 70 => 48 | 37 => 49 | 75 => 66 | 127 => 72 | 164 => 80 | 5 => 5 | 80 => 56 | n => n, fun | n => n⟩
theorem Tryd.lays156 : Go.Proofs.Lays.n156 Tryd.prog Tryd.lays156_ren := {
  mixed := by kernel_rfl
  f156 := Tryd.func31.trans (congrArg some (by kernel_rfl))
  f165 := Tryd.func38.trans (congrArg some (by kernel_rfl))
  f166 := Tryd.func29.trans (congrArg some (by kernel_rfl))
  f169 := Tryd.func20.trans (congrArg some (by kernel_rfl))
  f240 := Tryd.func35.trans (congrArg some (by kernel_rfl))
  f241 := Tryd.func52.trans (congrArg some (by kernel_rfl))
  f276 := Tryd.func48.trans (congrArg some (by kernel_rfl))
  f277 := Tryd.func57.trans (congrArg some (by kernel_rfl))
  t0 := Tryd.underlying0
  a0 := Tryd.isAgg0
  z0 := Tryd.sizeOf0
  v0 := Tryd.zeroValue0
  t3 := Tryd.underlying3
  a3 := Tryd.isAgg3
  z3 := Tryd.sizeOf3
  v3 := Tryd.zeroValue3
  t4 := Tryd.underlying4
  a4 := Tryd.isAgg4
  z4 := Tryd.sizeOf4
  v4 := Tryd.zeroValue4
  t9 := Tryd.underlying9
  a9 := Tryd.isAgg9
  z9 := Tryd.sizeOf9
  v9 := Tryd.zeroValue9
  t20 := Tryd.underlying20
  a20 := Tryd.isAgg20
  z20 := Tryd.sizeOf20
  v20 := Tryd.zeroValue20
  t31 := Tryd.underlying59
  a31 := Tryd.isAgg59
  z31 := Tryd.sizeOf59
  v31 := Tryd.zeroValue59
  t37 := Tryd.underlying49
  a37 := Tryd.isAgg49
  z37 := Tryd.sizeOf49
  v37 := Tryd.zeroValue49
  t70 := Tryd.underlying48
  a70 := Tryd.isAgg48
  z70 := Tryd.sizeOf48
  v70 := Tryd.zeroValue48
  t72 := Tryd.underlying51
  a72 := Tryd.isAgg51
  z72 := Tryd.sizeOf51
  v72 := Tryd.zeroValue51
  t75 := Tryd.underlying66
  a75 := Tryd.isAgg66
  z75 := Tryd.sizeOf66
  v75 := Tryd.zeroValue66
  t76 := Tryd.underlying67
  a76 := Tryd.isAgg67
  z76 := Tryd.sizeOf67
  v76 := Tryd.zeroValue67
  t127 := Tryd.underlying72
  a127 := Tryd.isAgg72
  z127 := Tryd.sizeOf72
  v127 := Tryd.zeroValue72
  t164 := Tryd.underlying80
  a164 := Tryd.isAgg80
  z164 := Tryd.sizeOf80
  v164 := Tryd.zeroValue80 }
theorem Tryd.Builder_Extra_156 : Builder.Extra Tryd.prog Tryd.lays156_ren := {
  sizeBuilder := by kernel_rfl
  liesBuilder := by kernel_rfl
  t5 := Tryd.underlying5
  a5 := Tryd.isAgg5
  z5 := Tryd.sizeOf5
  v5 := Tryd.zeroValue5
  infoByte := by kernel_rfl
  cellsByte := by kernel_rfl
  sizeByte := by kernel_rfl
  neB5 := by decide }
open Go.RowKit in
/-- No element: the empty string; the world is as it was. (Whatever the slice's address and capacity: a nil slice too.) (LAID: no walk: one application.) -/
theorem Tryd.strings_Join_none (a : Option Addr) (c : Nat) (sep : ByteArray) (w : World) :
    Calls Tryd.prog 31 #[.slice a 0 c, .string sep] w fun e w' => e = .returned (.string ⟨#[]⟩) ∧ w' = w := Any.strings_Join_none Tryd.lays156 Tryd.Builder_Extra_156 a c sep w
open Go.RowKit in
/-- strings.Join: "Join concatenates the elements of its first argument to create a single string. The separator string sep is placed between elements in the resulting string.": HOWEVER MANY ELEMENTS. Below the heap's end the world is as it was. (LAID: no walk: one application.) -/
theorem Tryd.strings_Join (bk o c : Nat) (xs : List ByteArray) (sep : ByteArray) (w : World) (hcells : ∀ (j : Nat) x, xs[j]? = some x → w.cell? ⟨bk, o + j, none⟩ = some (.string x)) (hbk : bk < w.heap.size) (hN : xs.length ≤ 140737488355328) (hcap : xs.length ≤ c) (hlen : (Lib.join (xs.map (·.data.toList)) sep.data.toList).length ≤ 140737488355328) :
    Calls Tryd.prog 31 #[.slice (some ⟨bk, o, none⟩) xs.length c, .string sep] w fun e w' => e = .returned (.string ⟨(Lib.join (xs.map (·.data.toList)) sep.data.toList).toArray⟩) ∧ Below w.heap.size w w' := Any.strings_Join Tryd.lays156 Tryd.Builder_Extra_156 bk o c xs sep w hcells hbk hN hcap hlen
open Go.RowKit in
open Go.RowKit in
open Go.RowKit in
open Go.RowKit in
open Go.RowKit in
open Go.RowKit in
open Go.RowKit in
open Go.RowKit in
open Go.RowKit in
def Tryd.lays129_ren : Go.Shelf.Ren := ⟨fun | 129 => 59 | n => n, fun | 53 => 85 | 3 => 3 | 4 => 4 | 46 => 73 | 5 => 5 | 9 => 9 | n => n, fun | n => n⟩
def Tryd.lays317_ren : Go.Shelf.Ren := ⟨fun | 317 => 58 | n => n, fun | 3 => 3 | 46 => 73 | n => n, fun | n => n⟩
open Go.Lib in
def Tryd.lays318_ren : Go.Shelf.Ren := ⟨fun | 318 => 60 | n => n, fun | 3 => 3 | 4 => 4 | n => n, fun | n => n⟩
open Go.Lib in
def Tryd.lays283_ren : Go.Shelf.Ren := ⟨fun | 283 => 53 | n => n, fun | 3 => 3 | 9 => 9 | 4 => 4 | n => n, fun | n => n⟩
open Go.Lib in
def Tryd.laysM284_ren : Go.Shelf.Ren := ⟨fun | 284 => 54 | 129 => 59 | 317 => 58 | 318 => 60 | n => n, fun | 53 => 85 | 3 => 3 | 212 => 96 | 0 => 0 | 4 => 4 | 46 => 73 | 5 => 5 | 9 => 9 | n => n, fun | 17 => 0 | n => n⟩
open Go.Lib in
def Tryd.lays285_ren : Go.Shelf.Ren := ⟨fun | 285 => 55 | n => n, fun | 37 => 49 | 53 => 85 | 3 => 3 | 4 => 4 | 51 => 82 | 9 => 9 | 5 => 5 | 0 => 0 | n => n, fun | n => n⟩
open Go.RowKit Go.Sort Go.Lib in
def Tryd.laysM246_ren : Go.Shelf.Ren := ⟨fun | 246 => 40 | 283 => 53 | 284 => 54 | 285 => 55 | 286 => 56 | 129 => 59 | 317 => 58 | 318 => 60 | 319 => 61 | 320 => 62 | 337 => 63 | 338 => 64 | n => n, fun | 2 => 2 | 3 => 3 | 9 => 9 | 4 => 4 | 171 => 88 | 0 => 0 | 53 => 85 | 37 => 49 | 5 => 5 | 173 => 91 | 212 => 96 | 51 => 82 | 20 => 20 | 213 => 97 | 46 => 73 | 232 => 101 | 233 => 102 | n => n, fun | 17 => 0 | 18 => 2 | 19 => 3 | n => n⟩
open Go.RowKit Go.Sort Go.Lib in
def Tryd.lays246_ren : Go.Shelf.Ren := ⟨fun | 246 => 40 | 283 => 53 | 284 => 54 | 285 => 55 | 286 => 56 | 129 => 59 | 317 => 58 | 318 => 60 | 319 => 61 | 320 => 62 | 337 => 63 | 338 => 64 | n => n, fun | 2 => 2 | 3 => 3 | 9 => 9 | 4 => 4 | 171 => 88 | 0 => 0 | 53 => 85 | 37 => 49 | 5 => 5 | 173 => 91 | 212 => 96 | 51 => 82 | 20 => 20 | 213 => 97 | 46 => 73 | 232 => 101 | 233 => 102 | n => n, fun | 17 => 0 | 18 => 2 | 19 => 3 | n => n⟩
open Go.RowKit Go.Sort Go.Lib in
def Tryd.laysM243_ren : Go.Shelf.Ren := ⟨fun | 243 => 32 | 246 => 40 | 283 => 53 | 284 => 54 | 285 => 55 | 286 => 56 | 129 => 59 | 317 => 58 | 318 => 60 | 319 => 61 | 320 => 62 | 337 => 63 | 338 => 64 | n => n, fun | 3 => 3 | 9 => 9 | 2 => 2 | 4 => 4 | 171 => 88 | 0 => 0 | 53 => 85 | 37 => 49 | 5 => 5 | 173 => 91 | 212 => 96 | 51 => 82 | 20 => 20 | 213 => 97 | 46 => 73 | 232 => 101 | 233 => 102 | n => n, fun | 17 => 0 | 18 => 2 | 19 => 3 | n => n⟩
open Go.RowKit Go.Sort Go.Lib in
def Tryd.lays243_ren : Go.Shelf.Ren := ⟨fun | 243 => 32 | 246 => 40 | 283 => 53 | 284 => 54 | 285 => 55 | 286 => 56 | 129 => 59 | 317 => 58 | 318 => 60 | 319 => 61 | 320 => 62 | 337 => 63 | 338 => 64 | n => n, fun | 3 => 3 | 9 => 9 | 2 => 2 | 4 => 4 | 171 => 88 | 0 => 0 | 53 => 85 | 37 => 49 | 5 => 5 | 173 => 91 | 212 => 96 | 51 => 82 | 20 => 20 | 213 => 97 | 46 => 73 | 232 => 101 | 233 => 102 | n => n, fun | 17 => 0 | 18 => 2 | 19 => 3 | n => n⟩
open Go.RowKit Go.Sort Go.Lib in
def Tryd.laysM171_ren : Go.Shelf.Ren := ⟨fun | 171 => 18 | 243 => 32 | 246 => 40 | 283 => 53 | 284 => 54 | 285 => 55 | 286 => 56 | 129 => 59 | 317 => 58 | 318 => 60 | 319 => 61 | 320 => 62 | 337 => 63 | 338 => 64 | n => n, fun | 3 => 3 | 9 => 9 | 2 => 2 | 4 => 4 | 171 => 88 | 0 => 0 | 53 => 85 | 37 => 49 | 5 => 5 | 173 => 91 | 212 => 96 | 51 => 82 | 20 => 20 | 213 => 97 | 46 => 73 | 232 => 101 | 233 => 102 | n => n, fun | 17 => 0 | 18 => 2 | 19 => 3 | n => n⟩
theorem Tryd.laysM171 : Go.Proofs.LaysM.n171 Tryd.prog Tryd.laysM171_ren := {
  mixed := by kernel_rfl
  f129 := Tryd.func59.trans (congrArg some (by kernel_rfl))
  f171 := Tryd.func18.trans (congrArg some (by kernel_rfl))
  f243 := Tryd.func32.trans (congrArg some (by kernel_rfl))
  f246 := Tryd.func40.trans (congrArg some (by kernel_rfl))
  f283 := Tryd.func53.trans (congrArg some (by kernel_rfl))
  f284 := Tryd.func54.trans (congrArg some (by kernel_rfl))
  f285 := Tryd.func55.trans (congrArg some (by kernel_rfl))
  f286 := Tryd.func56.trans (congrArg some (by kernel_rfl))
  f317 := Tryd.func58.trans (congrArg some (by kernel_rfl))
  f318 := Tryd.func60.trans (congrArg some (by kernel_rfl))
  f319 := Tryd.func61.trans (congrArg some (by kernel_rfl))
  f320 := Tryd.func62.trans (congrArg some (by kernel_rfl))
  f337 := Tryd.func63.trans (congrArg some (by kernel_rfl))
  f338 := Tryd.func64.trans (congrArg some (by kernel_rfl))
  t0 := Tryd.underlying0
  a0 := Tryd.isAgg0
  z0 := Tryd.sizeOf0
  v0 := Tryd.zeroValue0
  t2 := Tryd.underlying2
  a2 := Tryd.isAgg2
  z2 := Tryd.sizeOf2
  v2 := Tryd.zeroValue2
  t3 := Tryd.underlying3
  a3 := Tryd.isAgg3
  z3 := Tryd.sizeOf3
  v3 := Tryd.zeroValue3
  t4 := Tryd.underlying4
  a4 := Tryd.isAgg4
  z4 := Tryd.sizeOf4
  v4 := Tryd.zeroValue4
  t5 := Tryd.underlying5
  a5 := Tryd.isAgg5
  z5 := Tryd.sizeOf5
  v5 := Tryd.zeroValue5
  t9 := Tryd.underlying9
  a9 := Tryd.isAgg9
  z9 := Tryd.sizeOf9
  v9 := Tryd.zeroValue9
  t20 := Tryd.underlying20
  a20 := Tryd.isAgg20
  z20 := Tryd.sizeOf20
  v20 := Tryd.zeroValue20
  t37 := Tryd.underlying49
  a37 := Tryd.isAgg49
  z37 := Tryd.sizeOf49
  v37 := Tryd.zeroValue49
  t46 := Tryd.underlying73
  a46 := Tryd.isAgg73
  z46 := Tryd.sizeOf73
  v46 := Tryd.zeroValue73
  t51 := Tryd.underlying82
  a51 := Tryd.isAgg82
  z51 := Tryd.sizeOf82
  v51 := Tryd.zeroValue82
  t53 := Tryd.underlying85
  a53 := Tryd.isAgg85
  z53 := Tryd.sizeOf85
  v53 := Tryd.zeroValue85
  t171 := Tryd.underlying88
  a171 := Tryd.isAgg88
  z171 := Tryd.sizeOf88
  v171 := Tryd.zeroValue88
  t173 := Tryd.underlying91
  a173 := Tryd.isAgg91
  z173 := Tryd.sizeOf91
  v173 := Tryd.zeroValue91
  t212 := Tryd.underlying96
  a212 := Tryd.isAgg96
  z212 := Tryd.sizeOf96
  v212 := Tryd.zeroValue96
  t213 := Tryd.underlying97
  a213 := Tryd.isAgg97
  z213 := Tryd.sizeOf97
  t232 := Tryd.underlying101
  a232 := Tryd.isAgg101
  z232 := Tryd.sizeOf101
  v232 := Tryd.zeroValue101
  t233 := Tryd.underlying102
  a233 := Tryd.isAgg102
  z233 := Tryd.sizeOf102
  v233 := Tryd.zeroValue102
  g17 := by kernel_rfl
  g18 := by kernel_rfl
  g19 := by kernel_rfl
  i0 := by kernel_rfl
  i2 := by kernel_rfl
  i3 := by kernel_rfl
  i4 := by kernel_rfl
  i5 := by kernel_rfl
  i9 := by kernel_rfl
  i20 := by kernel_rfl
  i37 := by kernel_rfl
  i46 := by kernel_rfl
  i51 := by kernel_rfl
  i53 := by kernel_rfl
  i171 := by kernel_rfl
  i173 := by kernel_rfl
  i212 := by kernel_rfl
  i232 := by kernel_rfl
  i233 := by kernel_rfl
  m17 := by kernel_rfl
  m18 := by kernel_rfl
  m19 := by kernel_rfl }
open Go.RowKit Go.Sort Go.Lib in
/-- strconv.Itoa: "Itoa is equivalent to FormatInt(int64(i), 10).": i's DECIMAL NUMERAL ('Lib.itoa': a '-' where i is negative, then the digits), FOR EVERY int. The world behind the call: the world before it, new blocks behind the heap (the library's 'var a [24]byte'), draws. (LAID: no walk: one application.) -/
theorem Tryd.strconv_Itoa (n : Int) (h0 : -9223372036854775808 ≤ n) (h1 : n ≤ 9223372036854775807) (w : World) (htab : Lib.TabIs Tryd.prog w "internal/strconv.uint64pow10" .u64 Lib.pow10Tab) :
    Calls Tryd.prog 18 #[.int .i64 n] w fun e w' => e = .returned (.string ⟨(Lib.itoa n).toArray⟩) ∧ ∃ k os, w' = grow (w.drewN k) os := Any.strconv_Itoa Tryd.laysM171 n h0 h1 w htab
def Tryd.lays171_ren : Go.Shelf.Ren := ⟨fun | 171 => 18 | 243 => 32 | 246 => 40 | 283 => 53 | 284 => 54 | 285 => 55 | 286 => 56 | 129 => 59 | 317 => 58 | 318 => 60 | 319 => 61 | 320 => 62 | 337 => 63 | 338 => 64 | n => n, fun | 3 => 3 | 9 => 9 | 2 => 2 | 4 => 4 | 171 => 88 | 0 => 0 | 53 => 85 | 37 => 49 | 5 => 5 | 173 => 91 | 212 => 96 | 51 => 82 | 20 => 20 | 213 => 97 | 46 => 73 | 232 => 101 | 233 => 102 | n => n, fun | 17 => 0 | 18 => 2 | 19 => 3 | n => n⟩
open Go.RowKit Go.Sort Go.Lib in
def Tryd.lays206_ren : Go.Shelf.Ren := ⟨fun | 206 => 51 | n => n, fun | 9 => 9 | 4 => 4 | 3 => 3 | n => n, fun | n => n⟩
open Go.RowKit Go.Lib in
def Tryd.lays99_ren : Go.Shelf.Ren := ⟨fun | 99 => 37 | 206 => 51 | n => n, fun | 9 => 9 | 4 => 4 | 3 => 3 | n => n, fun | n => n⟩
open Go.RowKit Go.Lib in
def Tryd.lays264_ren : Go.Shelf.Ren := ⟨fun | 264 => 50 | n => n, fun | 53 => 85 | 46 => 73 | n => n, fun | n => n⟩
open Go.RowKit Go.Lib in
def Tryd.lays212_ren : Go.Shelf.Ren := ⟨fun | 212 => 36 | 263 => 49 | 264 => 50 | n => n, fun | 46 => 73 | 51 => 82 | 146 => 83 | 53 => 85 | 148 => 86 | n => n, fun | n => n⟩
open Go.RowKit Go.Lib in
def Tryd.lays105_ren : Go.Shelf.Ren := ⟨fun | 105 => 30 | 212 => 36 | 99 => 37 | 165 => 38 | 166 => 29 | 170 => 39 | 169 => 20 | 263 => 49 | 264 => 50 | 206 => 51 | 240 => 35 | 241 => 52 | 276 => 48 | 277 => 57 | n => n, fun | 9 => 9 | 3 => 3 | 4 => 4 | 20 => 20 | 0 => 0 | 46 => 73 | 109 => 74 | 5 => 5 | 72 => 51 | 76 => 67 | 51 => 82 | 146 => 83 | 53 => 85 | 148 => 86 | 70 => 48 | 37 => 49 | 75 => 66 | 127 => 72 | 164 => 80 | 80 => 56 | n => n, fun | n => n⟩
theorem Tryd.lays105 : Go.Proofs.Lays.n105 Tryd.prog Tryd.lays105_ren := {
  mixed := by kernel_rfl
  f99 := Tryd.func37.trans (congrArg some (by kernel_rfl))
  f105 := Tryd.func30.trans (congrArg some (by kernel_rfl))
  f165 := Tryd.func38.trans (congrArg some (by kernel_rfl))
  f166 := Tryd.func29.trans (congrArg some (by kernel_rfl))
  f169 := Tryd.func20.trans (congrArg some (by kernel_rfl))
  f170 := Tryd.func39.trans (congrArg some (by kernel_rfl))
  f206 := Tryd.func51.trans (congrArg some (by kernel_rfl))
  f212 := Tryd.func36.trans (congrArg some (by kernel_rfl))
  f240 := Tryd.func35.trans (congrArg some (by kernel_rfl))
  f241 := Tryd.func52.trans (congrArg some (by kernel_rfl))
  f263 := Tryd.func49.trans (congrArg some (by kernel_rfl))
  f264 := Tryd.func50.trans (congrArg some (by kernel_rfl))
  f276 := Tryd.func48.trans (congrArg some (by kernel_rfl))
  f277 := Tryd.func57.trans (congrArg some (by kernel_rfl))
  t0 := Tryd.underlying0
  a0 := Tryd.isAgg0
  z0 := Tryd.sizeOf0
  v0 := Tryd.zeroValue0
  t3 := Tryd.underlying3
  a3 := Tryd.isAgg3
  z3 := Tryd.sizeOf3
  v3 := Tryd.zeroValue3
  t4 := Tryd.underlying4
  a4 := Tryd.isAgg4
  z4 := Tryd.sizeOf4
  v4 := Tryd.zeroValue4
  t5 := Tryd.underlying5
  a5 := Tryd.isAgg5
  z5 := Tryd.sizeOf5
  v5 := Tryd.zeroValue5
  t9 := Tryd.underlying9
  a9 := Tryd.isAgg9
  z9 := Tryd.sizeOf9
  v9 := Tryd.zeroValue9
  t20 := Tryd.underlying20
  a20 := Tryd.isAgg20
  z20 := Tryd.sizeOf20
  v20 := Tryd.zeroValue20
  t37 := Tryd.underlying49
  a37 := Tryd.isAgg49
  z37 := Tryd.sizeOf49
  v37 := Tryd.zeroValue49
  t46 := Tryd.underlying73
  a46 := Tryd.isAgg73
  z46 := Tryd.sizeOf73
  v46 := Tryd.zeroValue73
  t51 := Tryd.underlying82
  a51 := Tryd.isAgg82
  z51 := Tryd.sizeOf82
  v51 := Tryd.zeroValue82
  t53 := Tryd.underlying85
  a53 := Tryd.isAgg85
  z53 := Tryd.sizeOf85
  v53 := Tryd.zeroValue85
  t70 := Tryd.underlying48
  a70 := Tryd.isAgg48
  z70 := Tryd.sizeOf48
  v70 := Tryd.zeroValue48
  t72 := Tryd.underlying51
  a72 := Tryd.isAgg51
  z72 := Tryd.sizeOf51
  v72 := Tryd.zeroValue51
  t75 := Tryd.underlying66
  a75 := Tryd.isAgg66
  z75 := Tryd.sizeOf66
  v75 := Tryd.zeroValue66
  t76 := Tryd.underlying67
  a76 := Tryd.isAgg67
  z76 := Tryd.sizeOf67
  v76 := Tryd.zeroValue67
  t109 := Tryd.underlying74
  a109 := Tryd.isAgg74
  z109 := Tryd.sizeOf74
  v109 := Tryd.zeroValue74
  t127 := Tryd.underlying72
  a127 := Tryd.isAgg72
  z127 := Tryd.sizeOf72
  v127 := Tryd.zeroValue72
  t146 := Tryd.underlying83
  a146 := Tryd.isAgg83
  z146 := Tryd.sizeOf83
  v146 := Tryd.zeroValue83
  t148 := Tryd.underlying86
  a148 := Tryd.isAgg86
  z148 := Tryd.sizeOf86
  v148 := Tryd.zeroValue86
  t164 := Tryd.underlying80
  a164 := Tryd.isAgg80
  z164 := Tryd.sizeOf80
  v164 := Tryd.zeroValue80 }
theorem Tryd.Builder_Extra_105 : Builder.Extra Tryd.prog Tryd.lays105_ren := {
  sizeBuilder := by kernel_rfl
  liesBuilder := by kernel_rfl
  t5 := Tryd.underlying5
  a5 := Tryd.isAgg5
  z5 := Tryd.sizeOf5
  v5 := Tryd.zeroValue5
  infoByte := by kernel_rfl
  cellsByte := by kernel_rfl
  sizeByte := by kernel_rfl
  neB5 := by decide }
open Go.RowKit Go.Lib in
open Go.RowKit Go.Lib in
open Go.RowKit Go.Lib in
open Go.RowKit Go.Lib in
open Go.RowKit Go.Lib in
open Go.RowKit Go.Lib in
open Go.RowKit Go.Lib in
/-- **strings.Repeat: count ≥ 0, the result within one allocation: count copies of s.** (LAID: no walk: one application.) -/
theorem Tryd.strings_Repeat (s : ByteArray) (c : Nat) (w : World) (hc : c ≤ 9223372036854775807) (hlen : s.size * c ≤ 140737488355328) :
    Calls Tryd.prog 30 #[.string s, .int .i64 c] w fun e w' => e = .returned (.string ⟨(Lib.repeatL s.data.toList c).toArray⟩) ∧ Below w.heap.size w w' := Any.strings_Repeat Tryd.lays105 Tryd.Builder_Extra_105 s c w hc hlen
end Go.Proofs
