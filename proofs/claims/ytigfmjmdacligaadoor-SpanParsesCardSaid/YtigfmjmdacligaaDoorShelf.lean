/-
  DERIVED: THE SHELF's CONTRACTS AT THIS DUMP, IN PLAIN WORDS (tools/lay-plain.mjs out of 'TrydShelf.lean', which tools/lay-shelf.mjs wrote): THE SAME DECLARATIONS UNDER THE SAME NAMES: 'import', 'namespace', 'open', 'def', 'theorem' AND NOTHING ELSE: no command of the shelf's: FOR A HAND-IN. Each laying: the table of numbers ('.._ren') and one theorem, a field a fact of the dump's own or the kernel's comparison; each contract: ONE APPLICATION.
-/
import Derived.Shelf.Strconv.Itoa0
import Derived.Shelf.Strconv.Itoa1
import Derived.Shelf.LaysM
import Derived.Shelf.Strconv.Itoa2
import Derived.Shelf.Strconv.Itoa3
import Derived.Shelf.Strconv.Itoa4
import Derived.Shelf.Strconv.ParseIntEmpty
import Derived.Shelf.Strconv.Clone
import Derived.Shelf.Strconv.SyntaxError
import Derived.Shelf.LaysC
import Derived.Shelf.Strconv.ToError
import Derived.Shelf.Strconv.Lower
import Derived.Shelf.Strconv.ParseUint10
import Derived.Shelf.Strconv.ParseUint10Empty
import Derived.Shelf.Strconv.ParseUint10Any
import Derived.Shelf.Strconv.ParseInt10
import Derived.Shelf.Strconv.RangeError
import Derived.Shelf.Strconv.ToErrorRange
import Derived.Shelf.Strconv.ParseUintEmpty
import Derived.Shelf.Strconv.ParseUint10b64
import Derived.Shelf.Strconv.ParseUint10b32
import Derived.Shelf.Strconv.ParseUint10b16
import Derived.Shelf.Strconv.ParseUint10b8
import Derived.Shelf.Strconv.ParseUint10At
import Derived.Shelf.Strconv.ParseInt10At64
import Derived.Shelf.Strconv.ParseInt10At32
import Derived.Shelf.Strconv.ParseInt10At16
import Derived.Shelf.Strconv.ParseInt10At8
import Derived.Shelf.Strconv.ParseInt10All
import Derived.Shelf.Strconv.ParseIntPublic10
import Derived.Shelf.Strings.Search1
import Derived.Shelf.Strings.Search2
import Derived.Shelf.Strings.Cut
import Derived.Shelf.Strings.Shaped
import Derived.Test.YtigfmjmdacligaaDoorProg
namespace Go.Proofs
open Go.Shelf
def Tryd.lays129_ren : Go.Shelf.Ren := ⟨fun | 129 => 58 | n => n, fun | 53 => 57 | 3 => 3 | 4 => 4 | 46 => 66 | 5 => 5 | 9 => 9 | n => n, fun | n => n⟩
def Tryd.lays317_ren : Go.Shelf.Ren := ⟨fun | 317 => 57 | n => n, fun | 3 => 3 | 46 => 66 | n => n, fun | n => n⟩
def Tryd.lays318_ren : Go.Shelf.Ren := ⟨fun | 318 => 59 | n => n, fun | 3 => 3 | 4 => 4 | n => n, fun | n => n⟩
def Tryd.lays283_ren : Go.Shelf.Ren := ⟨fun | 283 => 47 | n => n, fun | 3 => 3 | 9 => 9 | 4 => 4 | n => n, fun | n => n⟩
def Tryd.laysM284_ren : Go.Shelf.Ren := ⟨fun | 284 => 48 | 129 => 58 | 317 => 57 | 318 => 59 | n => n, fun | 53 => 57 | 3 => 3 | 212 => 72 | 0 => 0 | 4 => 4 | 46 => 66 | 5 => 5 | 9 => 9 | n => n, fun | 17 => 0 | n => n⟩
def Tryd.lays285_ren : Go.Shelf.Ren := ⟨fun | 285 => 49 | n => n, fun | 37 => 53 | 53 => 57 | 3 => 3 | 4 => 4 | 51 => 73 | 9 => 9 | 5 => 5 | 0 => 0 | n => n, fun | n => n⟩
def Tryd.laysM246_ren : Go.Shelf.Ren := ⟨fun | 246 => 43 | 283 => 47 | 284 => 48 | 285 => 49 | 286 => 50 | 129 => 58 | 317 => 57 | 318 => 59 | 319 => 60 | 320 => 61 | 337 => 71 | 338 => 72 | n => n, fun | 2 => 2 | 3 => 3 | 9 => 9 | 4 => 4 | 171 => 56 | 0 => 0 | 53 => 57 | 37 => 53 | 5 => 5 | 173 => 60 | 212 => 72 | 51 => 73 | 20 => 20 | 213 => 74 | 46 => 66 | 232 => 90 | 233 => 91 | n => n, fun | 17 => 0 | 18 => 4 | 19 => 5 | n => n⟩
def Tryd.lays246_ren : Go.Shelf.Ren := ⟨fun | 246 => 43 | 283 => 47 | 284 => 48 | 285 => 49 | 286 => 50 | 129 => 58 | 317 => 57 | 318 => 59 | 319 => 60 | 320 => 61 | 337 => 71 | 338 => 72 | n => n, fun | 2 => 2 | 3 => 3 | 9 => 9 | 4 => 4 | 171 => 56 | 0 => 0 | 53 => 57 | 37 => 53 | 5 => 5 | 173 => 60 | 212 => 72 | 51 => 73 | 20 => 20 | 213 => 74 | 46 => 66 | 232 => 90 | 233 => 91 | n => n, fun | 17 => 0 | 18 => 4 | 19 => 5 | n => n⟩
def Tryd.laysM243_ren : Go.Shelf.Ren := ⟨fun | 243 => 75 | 246 => 43 | 283 => 47 | 284 => 48 | 285 => 49 | 286 => 50 | 129 => 58 | 317 => 57 | 318 => 59 | 319 => 60 | 320 => 61 | 337 => 71 | 338 => 72 | n => n, fun | 3 => 3 | 9 => 9 | 2 => 2 | 4 => 4 | 171 => 56 | 0 => 0 | 53 => 57 | 37 => 53 | 5 => 5 | 173 => 60 | 212 => 72 | 51 => 73 | 20 => 20 | 213 => 74 | 46 => 66 | 232 => 90 | 233 => 91 | n => n, fun | 17 => 0 | 18 => 4 | 19 => 5 | n => n⟩
def Tryd.lays243_ren : Go.Shelf.Ren := ⟨fun | 243 => 75 | 246 => 43 | 283 => 47 | 284 => 48 | 285 => 49 | 286 => 50 | 129 => 58 | 317 => 57 | 318 => 59 | 319 => 60 | 320 => 61 | 337 => 71 | 338 => 72 | n => n, fun | 3 => 3 | 9 => 9 | 2 => 2 | 4 => 4 | 171 => 56 | 0 => 0 | 53 => 57 | 37 => 53 | 5 => 5 | 173 => 60 | 212 => 72 | 51 => 73 | 20 => 20 | 213 => 74 | 46 => 66 | 232 => 90 | 233 => 91 | n => n, fun | 17 => 0 | 18 => 4 | 19 => 5 | n => n⟩
def Tryd.laysM171_ren : Go.Shelf.Ren := ⟨fun | 171 => 70 | 243 => 75 | 246 => 43 | 283 => 47 | 284 => 48 | 285 => 49 | 286 => 50 | 129 => 58 | 317 => 57 | 318 => 59 | 319 => 60 | 320 => 61 | 337 => 71 | 338 => 72 | n => n, fun | 3 => 3 | 9 => 9 | 2 => 2 | 4 => 4 | 171 => 56 | 0 => 0 | 53 => 57 | 37 => 53 | 5 => 5 | 173 => 60 | 212 => 72 | 51 => 73 | 20 => 20 | 213 => 74 | 46 => 66 | 232 => 90 | 233 => 91 | n => n, fun | 17 => 0 | 18 => 4 | 19 => 5 | n => n⟩
def Tryd.lays171_ren : Go.Shelf.Ren := ⟨fun | 171 => 70 | 243 => 75 | 246 => 43 | 283 => 47 | 284 => 48 | 285 => 49 | 286 => 50 | 129 => 58 | 317 => 57 | 318 => 59 | 319 => 60 | 320 => 61 | 337 => 71 | 338 => 72 | n => n, fun | 3 => 3 | 9 => 9 | 2 => 2 | 4 => 4 | 171 => 56 | 0 => 0 | 53 => 57 | 37 => 53 | 5 => 5 | 173 => 60 | 212 => 72 | 51 => 73 | 20 => 20 | 213 => 74 | 46 => 66 | 232 => 90 | 233 => 91 | n => n, fun | 17 => 0 | 18 => 4 | 19 => 5 | n => n⟩
def Tryd.laysM173_ren : Go.Shelf.Ren := ⟨fun | 173 => 38 | 246 => 43 | 283 => 47 | 284 => 48 | 285 => 49 | 286 => 50 | 129 => 58 | 317 => 57 | 318 => 59 | 319 => 60 | 320 => 61 | 337 => 71 | 338 => 72 | n => n, fun | 2 => 2 | 3 => 3 | 9 => 9 | 4 => 4 | 171 => 56 | 0 => 0 | 53 => 57 | 37 => 53 | 5 => 5 | 173 => 60 | 212 => 72 | 51 => 73 | 20 => 20 | 213 => 74 | 46 => 66 | 232 => 90 | 233 => 91 | n => n, fun | 17 => 0 | 18 => 4 | 19 => 5 | n => n⟩
theorem Tryd.laysM173 : Go.Proofs.LaysM.n173 Tryd.prog Tryd.laysM173_ren := {
  mixed := by kernel_rfl
  f129 := Tryd.func58.trans (congrArg some (by kernel_rfl))
  f173 := Tryd.func38.trans (congrArg some (by kernel_rfl))
  f246 := Tryd.func43.trans (congrArg some (by kernel_rfl))
  f283 := Tryd.func47.trans (congrArg some (by kernel_rfl))
  f284 := Tryd.func48.trans (congrArg some (by kernel_rfl))
  f285 := Tryd.func49.trans (congrArg some (by kernel_rfl))
  f286 := Tryd.func50.trans (congrArg some (by kernel_rfl))
  f317 := Tryd.func57.trans (congrArg some (by kernel_rfl))
  f318 := Tryd.func59.trans (congrArg some (by kernel_rfl))
  f319 := Tryd.func60.trans (congrArg some (by kernel_rfl))
  f320 := Tryd.func61.trans (congrArg some (by kernel_rfl))
  f337 := Tryd.func71.trans (congrArg some (by kernel_rfl))
  f338 := Tryd.func72.trans (congrArg some (by kernel_rfl))
  t0 := Tryd.underlying0
  a0 := Tryd.isAgg0
  z0 := Tryd.sizeOf0
  v0 := Tryd.zeroValue0
  t2 := Tryd.underlying2
  a2 := Tryd.isAgg2
  z2 := Tryd.sizeOf2
  v2 := Tryd.zeroValue2
  t3 := Tryd.underlying3
  a3 := Tryd.isAgg3
  z3 := Tryd.sizeOf3
  v3 := Tryd.zeroValue3
  t4 := Tryd.underlying4
  a4 := Tryd.isAgg4
  z4 := Tryd.sizeOf4
  v4 := Tryd.zeroValue4
  t5 := Tryd.underlying5
  a5 := Tryd.isAgg5
  z5 := Tryd.sizeOf5
  v5 := Tryd.zeroValue5
  t9 := Tryd.underlying9
  a9 := Tryd.isAgg9
  z9 := Tryd.sizeOf9
  v9 := Tryd.zeroValue9
  t20 := Tryd.underlying20
  a20 := Tryd.isAgg20
  z20 := Tryd.sizeOf20
  v20 := Tryd.zeroValue20
  t37 := Tryd.underlying53
  a37 := Tryd.isAgg53
  z37 := Tryd.sizeOf53
  v37 := Tryd.zeroValue53
  t46 := Tryd.underlying66
  a46 := Tryd.isAgg66
  z46 := Tryd.sizeOf66
  v46 := Tryd.zeroValue66
  t51 := Tryd.underlying73
  a51 := Tryd.isAgg73
  z51 := Tryd.sizeOf73
  v51 := Tryd.zeroValue73
  t53 := Tryd.underlying57
  a53 := Tryd.isAgg57
  z53 := Tryd.sizeOf57
  v53 := Tryd.zeroValue57
  t171 := Tryd.underlying56
  a171 := Tryd.isAgg56
  z171 := Tryd.sizeOf56
  v171 := Tryd.zeroValue56
  t173 := Tryd.underlying60
  a173 := Tryd.isAgg60
  z173 := Tryd.sizeOf60
  v173 := Tryd.zeroValue60
  t212 := Tryd.underlying72
  a212 := Tryd.isAgg72
  z212 := Tryd.sizeOf72
  v212 := Tryd.zeroValue72
  t213 := Tryd.underlying74
  a213 := Tryd.isAgg74
  z213 := Tryd.sizeOf74
  t232 := Tryd.underlying90
  a232 := Tryd.isAgg90
  z232 := Tryd.sizeOf90
  v232 := Tryd.zeroValue90
  t233 := Tryd.underlying91
  a233 := Tryd.isAgg91
  z233 := Tryd.sizeOf91
  v233 := Tryd.zeroValue91
  g17 := by kernel_rfl
  g18 := by kernel_rfl
  g19 := by kernel_rfl
  i0 := by kernel_rfl
  i2 := by kernel_rfl
  i3 := by kernel_rfl
  i4 := by kernel_rfl
  i5 := by kernel_rfl
  i9 := by kernel_rfl
  i20 := by kernel_rfl
  i37 := by kernel_rfl
  i46 := by kernel_rfl
  i51 := by kernel_rfl
  i53 := by kernel_rfl
  i171 := by kernel_rfl
  i173 := by kernel_rfl
  i212 := by kernel_rfl
  i232 := by kernel_rfl
  i233 := by kernel_rfl
  m17 := by kernel_rfl
  m18 := by kernel_rfl
  m19 := by kernel_rfl }
open Go.RowKit Go.Sort Go.Lib in
/-- strconv.FormatInt: "FormatInt returns the string representation of i in the given base": AT BASE 10: i's decimal numeral, for every int64. (LAID: no walk: one application.) -/
theorem Tryd.strconv_FormatInt_10 (n : Int) (h0 : -9223372036854775808 ≤ n) (h1 : n ≤ 9223372036854775807) (w : World) (htab : Lib.TabIs Tryd.prog w "internal/strconv.uint64pow10" .u64 Lib.pow10Tab) :
    Calls Tryd.prog 38 #[.int .i64 n, .int .i64 10] w fun e w' => e = .returned (.string ⟨(Lib.itoa n).toArray⟩) ∧ ∃ k os, w' = grow (w.drewN k) os := Any.strconv_FormatInt_10 Tryd.laysM173 n h0 h1 w htab
def Tryd.lays173_ren : Go.Shelf.Ren := ⟨fun | 173 => 38 | 246 => 43 | 283 => 47 | 284 => 48 | 285 => 49 | 286 => 50 | 129 => 58 | 317 => 57 | 318 => 59 | 319 => 60 | 320 => 61 | 337 => 71 | 338 => 72 | n => n, fun | 2 => 2 | 3 => 3 | 9 => 9 | 4 => 4 | 171 => 56 | 0 => 0 | 53 => 57 | 37 => 53 | 5 => 5 | 173 => 60 | 212 => 72 | 51 => 73 | 20 => 20 | 213 => 74 | 46 => 66 | 232 => 90 | 233 => 91 | n => n, fun | 17 => 0 | 18 => 4 | 19 => 5 | n => n⟩
def Tryd.lays247_ren : Go.Shelf.Ren := ⟨fun | 247 => 45 | 287 => 52 | 321 => 66 | 322 => 67 | n => n, fun | 9 => 9 | 3 => 3 | 2 => 2 | 75 => 49 | 4 => 4 | 167 => 63 | 5 => 5 | 53 => 57 | 175 => 64 | 46 => 66 | 37 => 53 | 0 => 0 | 21 => 21 | 80 => 92 | n => n, fun | n => n⟩
def Tryd.laysM316_ren : Go.Shelf.Ren := ⟨fun | 316 => 68 | n => n, fun | 9 => 9 | 3 => 3 | 4 => 4 | 37 => 53 | 0 => 0 | 127 => 86 | 5 => 5 | n => n, fun | n => n⟩
def Tryd.laysM279_ren : Go.Shelf.Ren := ⟨fun | 279 => 53 | 316 => 68 | n => n, fun | 9 => 9 | 168 => 67 | 75 => 49 | 210 => 81 | 3 => 3 | 4 => 4 | 37 => 53 | 0 => 0 | 127 => 86 | 80 => 92 | 5 => 5 | n => n, fun | 15 => 2 | n => n⟩
def Tryd.laysC245_ren : Go.Shelf.Ren := ⟨fun | 245 => 46 | 279 => 53 | 280 => 54 | 281 => 55 | 282 => 56 | 316 => 68 | 171 => 70 | 205 => 69 | 243 => 75 | 246 => 43 | 283 => 47 | 284 => 48 | 285 => 49 | 286 => 50 | 129 => 58 | 317 => 57 | 318 => 59 | 319 => 60 | 320 => 61 | 337 => 71 | 338 => 72 | n => n, fun | 9 => 9 | 3 => 3 | 75 => 49 | 167 => 63 | 4 => 4 | 168 => 67 | 210 => 81 | 37 => 53 | 0 => 0 | 127 => 86 | 145 => 89 | 143 => 87 | 2 => 2 | 171 => 56 | 53 => 57 | 5 => 5 | 173 => 60 | 212 => 72 | 51 => 73 | 20 => 20 | 213 => 74 | 46 => 66 | 232 => 90 | 233 => 91 | 80 => 92 | n => n, fun | 15 => 2 | 16 => 3 | 17 => 0 | 18 => 4 | 19 => 5 | n => n⟩
def Tryd.lays321_ren : Go.Shelf.Ren := ⟨fun | 321 => 66 | n => n, fun | 5 => 5 | n => n, fun | n => n⟩
def Tryd.lays287_ren : Go.Shelf.Ren := ⟨fun | 287 => 52 | 321 => 66 | 322 => 67 | n => n, fun | 9 => 9 | 3 => 3 | 53 => 57 | 75 => 49 | 4 => 4 | 167 => 63 | 5 => 5 | 46 => 66 | 37 => 53 | 0 => 0 | 21 => 21 | 80 => 92 | n => n, fun | n => n⟩
def Tryd.laysC247_ren : Go.Shelf.Ren := ⟨fun | 247 => 45 | 287 => 52 | 321 => 66 | 322 => 67 | n => n, fun | 9 => 9 | 3 => 3 | 2 => 2 | 75 => 49 | 4 => 4 | 167 => 63 | 5 => 5 | 53 => 57 | 175 => 64 | 46 => 66 | 37 => 53 | 0 => 0 | 21 => 21 | 80 => 92 | n => n, fun | n => n⟩
def Tryd.laysM280_ren : Go.Shelf.Ren := ⟨fun | 280 => 54 | 316 => 68 | n => n, fun | 9 => 9 | 168 => 67 | 75 => 49 | 210 => 81 | 3 => 3 | 4 => 4 | 37 => 53 | 0 => 0 | 127 => 86 | 80 => 92 | 5 => 5 | n => n, fun | 16 => 3 | n => n⟩
def Tryd.laysC174_ren : Go.Shelf.Ren := ⟨fun | 174 => 41 | 247 => 45 | 245 => 46 | 287 => 52 | 279 => 53 | 280 => 54 | 281 => 55 | 282 => 56 | 321 => 66 | 322 => 67 | 316 => 68 | 171 => 70 | 205 => 69 | 243 => 75 | 246 => 43 | 283 => 47 | 284 => 48 | 285 => 49 | 286 => 50 | 129 => 58 | 317 => 57 | 318 => 59 | 319 => 60 | 320 => 61 | 337 => 71 | 338 => 72 | n => n, fun | 9 => 9 | 3 => 3 | 2 => 2 | 75 => 49 | 85 => 50 | 4 => 4 | 167 => 63 | 5 => 5 | 53 => 57 | 175 => 64 | 46 => 66 | 168 => 67 | 37 => 53 | 0 => 0 | 210 => 81 | 21 => 21 | 127 => 86 | 145 => 89 | 143 => 87 | 171 => 56 | 173 => 60 | 212 => 72 | 51 => 73 | 20 => 20 | 213 => 74 | 232 => 90 | 233 => 91 | 80 => 92 | n => n, fun | 15 => 2 | 16 => 3 | 17 => 0 | 18 => 4 | 19 => 5 | n => n⟩
theorem Tryd.laysC174 : Go.Proofs.LaysC.n174 Tryd.prog Tryd.laysC174_ren := {
  mixed := by kernel_rfl
  f129 := Tryd.func58.trans (congrArg some (by kernel_rfl))
  f171 := Tryd.func70.trans (congrArg some (by kernel_rfl))
  f174 := Tryd.func41.trans (congrArg some (by kernel_rfl))
  f205 := Tryd.func69.trans (congrArg some (by kernel_rfl))
  f243 := Tryd.func75.trans (congrArg some (by kernel_rfl))
  f245 := Tryd.func46.trans (congrArg some (by kernel_rfl))
  f246 := Tryd.func43.trans (congrArg some (by kernel_rfl))
  f247 := Tryd.func45.trans (congrArg some (by kernel_rfl))
  f279 := Tryd.func53.trans (congrArg some (by kernel_rfl))
  f280 := Tryd.func54.trans (congrArg some (by kernel_rfl))
  f281 := Tryd.func55.trans (congrArg some (by kernel_rfl))
  f282 := Tryd.func56.trans (congrArg some (by kernel_rfl))
  f283 := Tryd.func47.trans (congrArg some (by kernel_rfl))
  f284 := Tryd.func48.trans (congrArg some (by kernel_rfl))
  f285 := Tryd.func49.trans (congrArg some (by kernel_rfl))
  f286 := Tryd.func50.trans (congrArg some (by kernel_rfl))
  f287 := Tryd.func52.trans (congrArg some (by kernel_rfl))
  f316 := Tryd.func68.trans (congrArg some (by kernel_rfl))
  f317 := Tryd.func57.trans (congrArg some (by kernel_rfl))
  f318 := Tryd.func59.trans (congrArg some (by kernel_rfl))
  f319 := Tryd.func60.trans (congrArg some (by kernel_rfl))
  f320 := Tryd.func61.trans (congrArg some (by kernel_rfl))
  f321 := Tryd.func66.trans (congrArg some (by kernel_rfl))
  f322 := Tryd.func67.trans (congrArg some (by kernel_rfl))
  f337 := Tryd.func71.trans (congrArg some (by kernel_rfl))
  f338 := Tryd.func72.trans (congrArg some (by kernel_rfl))
  t0 := Tryd.underlying0
  a0 := Tryd.isAgg0
  z0 := Tryd.sizeOf0
  v0 := Tryd.zeroValue0
  t2 := Tryd.underlying2
  a2 := Tryd.isAgg2
  z2 := Tryd.sizeOf2
  v2 := Tryd.zeroValue2
  t3 := Tryd.underlying3
  a3 := Tryd.isAgg3
  z3 := Tryd.sizeOf3
  v3 := Tryd.zeroValue3
  t4 := Tryd.underlying4
  a4 := Tryd.isAgg4
  z4 := Tryd.sizeOf4
  v4 := Tryd.zeroValue4
  t5 := Tryd.underlying5
  a5 := Tryd.isAgg5
  z5 := Tryd.sizeOf5
  v5 := Tryd.zeroValue5
  t9 := Tryd.underlying9
  a9 := Tryd.isAgg9
  z9 := Tryd.sizeOf9
  v9 := Tryd.zeroValue9
  t20 := Tryd.underlying20
  a20 := Tryd.isAgg20
  z20 := Tryd.sizeOf20
  v20 := Tryd.zeroValue20
  t21 := Tryd.underlying21
  a21 := Tryd.isAgg21
  z21 := Tryd.sizeOf21
  v21 := Tryd.zeroValue21
  t37 := Tryd.underlying53
  a37 := Tryd.isAgg53
  z37 := Tryd.sizeOf53
  v37 := Tryd.zeroValue53
  t46 := Tryd.underlying66
  a46 := Tryd.isAgg66
  z46 := Tryd.sizeOf66
  v46 := Tryd.zeroValue66
  t51 := Tryd.underlying73
  a51 := Tryd.isAgg73
  z51 := Tryd.sizeOf73
  v51 := Tryd.zeroValue73
  t53 := Tryd.underlying57
  a53 := Tryd.isAgg57
  z53 := Tryd.sizeOf57
  v53 := Tryd.zeroValue57
  t75 := Tryd.underlying49
  a75 := Tryd.isAgg49
  z75 := Tryd.sizeOf49
  v75 := Tryd.zeroValue49
  t85 := Tryd.underlying50
  a85 := Tryd.isAgg50
  z85 := Tryd.sizeOf50
  v85 := Tryd.zeroValue50
  t127 := Tryd.underlying86
  a127 := Tryd.isAgg86
  z127 := Tryd.sizeOf86
  v127 := Tryd.zeroValue86
  t143 := Tryd.underlying87
  a143 := Tryd.isAgg87
  z143 := Tryd.sizeOf87
  v143 := Tryd.zeroValue87
  t145 := Tryd.underlying89
  a145 := Tryd.isAgg89
  z145 := Tryd.sizeOf89
  v145 := Tryd.zeroValue89
  t167 := Tryd.underlying63
  a167 := Tryd.isAgg63
  z167 := Tryd.sizeOf63
  v167 := Tryd.zeroValue63
  t168 := Tryd.underlying67
  a168 := Tryd.isAgg67
  z168 := Tryd.sizeOf67
  v168 := Tryd.zeroValue67
  t171 := Tryd.underlying56
  a171 := Tryd.isAgg56
  z171 := Tryd.sizeOf56
  v171 := Tryd.zeroValue56
  t173 := Tryd.underlying60
  a173 := Tryd.isAgg60
  z173 := Tryd.sizeOf60
  v173 := Tryd.zeroValue60
  t175 := Tryd.underlying64
  a175 := Tryd.isAgg64
  z175 := Tryd.sizeOf64
  v175 := Tryd.zeroValue64
  t210 := Tryd.underlying81
  a210 := Tryd.isAgg81
  z210 := Tryd.sizeOf81
  v210 := Tryd.zeroValue81
  t212 := Tryd.underlying72
  a212 := Tryd.isAgg72
  z212 := Tryd.sizeOf72
  v212 := Tryd.zeroValue72
  t213 := Tryd.underlying74
  a213 := Tryd.isAgg74
  z213 := Tryd.sizeOf74
  t232 := Tryd.underlying90
  a232 := Tryd.isAgg90
  z232 := Tryd.sizeOf90
  v232 := Tryd.zeroValue90
  t233 := Tryd.underlying91
  a233 := Tryd.isAgg91
  z233 := Tryd.sizeOf91
  v233 := Tryd.zeroValue91
  g15 := by kernel_rfl
  g16 := by kernel_rfl
  g17 := by kernel_rfl
  g18 := by kernel_rfl
  g19 := by kernel_rfl
  t80 := Tryd.underlying92
  a80 := Tryd.isAgg92
  z80 := Tryd.sizeOf92
  v80 := Tryd.zeroValue92
  i0 := by kernel_rfl
  i2 := by kernel_rfl
  i3 := by kernel_rfl
  i4 := by kernel_rfl
  i5 := by kernel_rfl
  i9 := by kernel_rfl
  i20 := by kernel_rfl
  i21 := by kernel_rfl
  i37 := by kernel_rfl
  i46 := by kernel_rfl
  i51 := by kernel_rfl
  i53 := by kernel_rfl
  i75 := by kernel_rfl
  i80 := by kernel_rfl
  i85 := by kernel_rfl
  i127 := by kernel_rfl
  i143 := by kernel_rfl
  i145 := by kernel_rfl
  i167 := by kernel_rfl
  i168 := by kernel_rfl
  i171 := by kernel_rfl
  i173 := by kernel_rfl
  i175 := by kernel_rfl
  i210 := by kernel_rfl
  i212 := by kernel_rfl
  i232 := by kernel_rfl
  i233 := by kernel_rfl
  m15 := by kernel_rfl
  m16 := by kernel_rfl
  m17 := by kernel_rfl
  m18 := by kernel_rfl
  m19 := by kernel_rfl
  c0 := by kernel_rfl
  c2 := by kernel_rfl
  c3 := by kernel_rfl
  c4 := by kernel_rfl
  c5 := by kernel_rfl
  c9 := by kernel_rfl
  c20 := by kernel_rfl
  c21 := by kernel_rfl
  c37 := by kernel_rfl
  c46 := by kernel_rfl
  c51 := by kernel_rfl
  c53 := by kernel_rfl
  c75 := by kernel_rfl
  c80 := by kernel_rfl
  c85 := by kernel_rfl
  c127 := by kernel_rfl
  c143 := by kernel_rfl
  c145 := by kernel_rfl
  c167 := by kernel_rfl
  c168 := by kernel_rfl
  c171 := by kernel_rfl
  c173 := by kernel_rfl
  c175 := by kernel_rfl
  c210 := by kernel_rfl
  c212 := by kernel_rfl
  c213 := by kernel_rfl
  c232 := by kernel_rfl
  c233 := by kernel_rfl }
open Go.RowKit in
/-- strconv.ParseInt(s, 10, 64), AT EVERY STRING THAT SPELLS AN int64 ('Lib.parseIntB 64 s.data.toList = .ok v'): v, AND NO ERROR. (LAID: no walk: one application.) -/
theorem Tryd.strconv_ParseInt_10_at64_ok (s : ByteArray) (hmax : s.size ≤ 9223372036854775806) (v : Int) (h : Lib.parseIntB 64 s.data.toList = .ok v) (w : World) :
    Calls Tryd.prog 41 #[.string s, .int .i64 10, .int .i64 64] w fun e w' => e = .returned (.tuple #[.int .i64 v, .nilIface]) ∧ (w' = w ∨ ∃ t, w' = Lib.bytesWorld w 5 t) := Any.strconv_ParseInt_10_at64_ok Tryd.laysC174 s hmax v h w
open Go.RowKit in
/-- strconv.ParseInt(s, 10, 64), AT EVERY NUMERAL THAT NO int64 HOLDS: THE GREATEST OR THE LEAST int64, BY THE SIGN ('Lib.intSat 64'), AND AN ERROR THAT IS NOT nil: a *NumError in a new block N: {Func: "ParseInt", Num: s's bytes, Err: what the variable ErrRange holds}. Of what was there nothing has turned. (LAID: no walk: one application.) -/
theorem Tryd.strconv_ParseInt_10_at64_range (s : ByteArray) (hlim : s.size ≤ 281474976710656) (h : Lib.parseIntB 64 s.data.toList = .range) (ev : Value) (w : World) (hv : w.cell? ⟨3, 0, none⟩ = some ev) (hev : ev = .nilIface ∨ ∃ te pe, ev = .iface te pe) :
    Calls Tryd.prog 41 #[.string s, .int .i64 10, .int .i64 64] w fun e w' => ∃ N, e = .returned (.tuple #[.int .i64 (Lib.intSat 64 s.data.toList), .iface 67 (.pointer (some ⟨N, 0, none⟩))]) ∧ w.heap.size ≤ N ∧ w'.heap[N]? = some (.cells #[.string ⟨#[80, 97, 114, 115, 101, 73, 110, 116]⟩, .string s, ev] 81 (0, 0)) ∧ Below w.heap.size w w' := Any.strconv_ParseInt_10_at64_range Tryd.laysC174 s hlim h ev w hv hev
def Tryd.lays217_ren : Go.Shelf.Ren := ⟨fun | 217 => 62 | 266 => 73 | n => n, fun | 9 => 9 | 5 => 5 | 3 => 3 | n => n, fun | n => n⟩
def Tryd.lays224_ren : Go.Shelf.Ren := ⟨fun | 224 => 64 | n => n, fun | 3 => 3 | n => n, fun | n => n⟩
def Tryd.lays314_ren : Go.Shelf.Ren := ⟨fun | 314 => 74 | n => n, fun | 9 => 9 | 51 => 73 | 3 => 3 | 4 => 4 | 5 => 5 | 46 => 66 | n => n, fun | n => n⟩
def Tryd.lays267_ren : Go.Shelf.Ren := ⟨fun | 267 => 65 | 314 => 74 | n => n, fun | 9 => 9 | 3 => 3 | 146 => 84 | 51 => 73 | 4 => 4 | 5 => 5 | 46 => 66 | n => n, fun | n => n⟩
def Tryd.lays219_ren : Go.Shelf.Ren := ⟨fun | 219 => 51 | 217 => 62 | 225 => 63 | 224 => 64 | 267 => 65 | 266 => 73 | 314 => 74 | n => n, fun | 9 => 9 | 3 => 3 | 4 => 4 | 5 => 5 | 46 => 66 | 146 => 84 | 51 => 73 | n => n, fun | 1 => 1 | n => n⟩
def Tryd.lays220_ren : Go.Shelf.Ren := ⟨fun | 220 => 44 | 219 => 51 | 217 => 62 | 225 => 63 | 224 => 64 | 267 => 65 | 266 => 73 | 314 => 74 | n => n, fun | 9 => 9 | 4 => 4 | 3 => 3 | 5 => 5 | 46 => 66 | 146 => 84 | 51 => 73 | n => n, fun | 1 => 1 | n => n⟩
def Tryd.lays145_ren : Go.Shelf.Ren := ⟨fun | 145 => 40 | 220 => 44 | 219 => 51 | 217 => 62 | 225 => 63 | 224 => 64 | 267 => 65 | 266 => 73 | 314 => 74 | n => n, fun | 9 => 9 | 4 => 4 | 59 => 46 | 3 => 3 | 5 => 5 | 46 => 66 | 146 => 84 | 51 => 73 | n => n, fun | 1 => 1 | n => n⟩
theorem Tryd.lays145 : Go.Proofs.Lays.n145 Tryd.prog Tryd.lays145_ren := {
  mixed := by kernel_rfl
  f145 := Tryd.func40.trans (congrArg some (by kernel_rfl))
  f217 := Tryd.func62.trans (congrArg some (by kernel_rfl))
  f219 := Tryd.func51.trans (congrArg some (by kernel_rfl))
  f220 := Tryd.func44.trans (congrArg some (by kernel_rfl))
  f224 := Tryd.func64.trans (congrArg some (by kernel_rfl))
  f225 := Tryd.func63.trans (congrArg some (by kernel_rfl))
  f266 := Tryd.func73.trans (congrArg some (by kernel_rfl))
  f267 := Tryd.func65.trans (congrArg some (by kernel_rfl))
  f314 := Tryd.func74.trans (congrArg some (by kernel_rfl))
  t3 := Tryd.underlying3
  a3 := Tryd.isAgg3
  z3 := Tryd.sizeOf3
  v3 := Tryd.zeroValue3
  t4 := Tryd.underlying4
  a4 := Tryd.isAgg4
  z4 := Tryd.sizeOf4
  v4 := Tryd.zeroValue4
  t5 := Tryd.underlying5
  a5 := Tryd.isAgg5
  z5 := Tryd.sizeOf5
  v5 := Tryd.zeroValue5
  t9 := Tryd.underlying9
  a9 := Tryd.isAgg9
  z9 := Tryd.sizeOf9
  v9 := Tryd.zeroValue9
  t46 := Tryd.underlying66
  a46 := Tryd.isAgg66
  z46 := Tryd.sizeOf66
  v46 := Tryd.zeroValue66
  t51 := Tryd.underlying73
  a51 := Tryd.isAgg73
  z51 := Tryd.sizeOf73
  v51 := Tryd.zeroValue73
  t59 := Tryd.underlying46
  a59 := Tryd.isAgg46
  z59 := Tryd.sizeOf46
  v59 := Tryd.zeroValue46
  t146 := Tryd.underlying84
  a146 := Tryd.isAgg84
  z146 := Tryd.sizeOf84
  v146 := Tryd.zeroValue84
  g1 := by kernel_rfl }
open Go.RowKit Go.Lib in
/-- strings.Cut: "Cut slices s around the first instance of sep, returning the text before and after sep. The found result reports whether sep appears in s. If sep does not appear in s, cut returns s, "", false.": IT RETURNS 'Lib.cut s sep'; the world is as it was but for the count of draws. (LAID: no walk: one application.) -/
theorem Tryd.strings_Cut (s sep : ByteArray) (m : Int) (w : World) (hs : s.size < 4294967281) (hm : w.cell? ⟨1, 0, none⟩ = some (.int .i64 m)) :
    Calls Tryd.prog 40 #[.string s, .string sep] w fun e w' => e = .returned (.tuple #[.string ⟨(Lib.cut s.data.toList sep.data.toList).1.toArray⟩, .string ⟨(Lib.cut s.data.toList sep.data.toList).2.1.toArray⟩, .bool (Lib.cut s.data.toList sep.data.toList).2.2]) ∧ ∃ n, w' = w.drewN n := Any.strings_Cut Tryd.lays145 s sep m w hs hm
def Tryd.laysM219_ren : Go.Shelf.Ren := ⟨fun | 219 => 51 | 217 => 62 | 225 => 63 | 224 => 64 | 267 => 65 | 266 => 73 | 314 => 74 | n => n, fun | 9 => 9 | 3 => 3 | 4 => 4 | 5 => 5 | 46 => 66 | 146 => 84 | 51 => 73 | n => n, fun | 1 => 1 | n => n⟩
def Tryd.laysM220_ren : Go.Shelf.Ren := ⟨fun | 220 => 44 | 219 => 51 | 217 => 62 | 225 => 63 | 224 => 64 | 267 => 65 | 266 => 73 | 314 => 74 | n => n, fun | 9 => 9 | 4 => 4 | 3 => 3 | 5 => 5 | 46 => 66 | 146 => 84 | 51 => 73 | n => n, fun | 1 => 1 | n => n⟩
def Tryd.laysM145_ren : Go.Shelf.Ren := ⟨fun | 145 => 40 | 220 => 44 | 219 => 51 | 217 => 62 | 225 => 63 | 224 => 64 | 267 => 65 | 266 => 73 | 314 => 74 | n => n, fun | 9 => 9 | 4 => 4 | 59 => 46 | 3 => 3 | 5 => 5 | 46 => 66 | 146 => 84 | 51 => 73 | n => n, fun | 1 => 1 | n => n⟩
end Go.Proofs
