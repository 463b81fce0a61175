/-
  DERIVED: THE SHELF's CONTRACTS AT THIS DUMP, IN PLAIN WORDS (tools/lay-plain.mjs out of 'TrydShelf.lean', which tools/lay-shelf.mjs wrote): THE SAME DECLARATIONS UNDER THE SAME NAMES: 'import', 'namespace', 'open', 'def', 'theorem' AND NOTHING ELSE: no command of the shelf's: FOR A HAND-IN. Each laying: the table of numbers ('.._ren') and one theorem, a field a fact of the dump's own or the kernel's comparison; each contract: ONE APPLICATION.
-/
import Derived.Shelf.Strings.Fields
import Derived.Test.YtdpfljkcnlamlaaDoorProg
namespace Go.Proofs
open Go.Shelf
def Tryd.lays157_ren : Go.Shelf.Ren := ⟨fun | 157 => 35 | 229 => 39 | 199 => 40 | 261 => 43 | 311 => 46 | 312 => 47 | n => n, fun | 9 => 9 | 31 => 40 | 3 => 3 | 5 => 5 | 4 => 4 | 119 => 43 | 0 => 0 | 40 => 45 | 152 => 50 | 21 => 21 | 154 => 52 | 51 => 53 | 141 => 55 | 196 => 61 | 193 => 58 | 198 => 64 | 49 => 62 | 194 => 59 | 201 => 67 | 226 => 72 | 46 => 57 | 227 => 73 | n => n, fun | 0 => 0 | 6 => 1 | n => n⟩
theorem Tryd.lays157 : Go.Proofs.Lays.n157 Tryd.prog Tryd.lays157_ren := {
  mixed := by kernel_rfl
  f157 := Tryd.func35.trans (congrArg some (by kernel_rfl))
  f199 := Tryd.func40.trans (congrArg some (by kernel_rfl))
  f229 := Tryd.func39.trans (congrArg some (by kernel_rfl))
  f261 := Tryd.func43.trans (congrArg some (by kernel_rfl))
  f311 := Tryd.func46.trans (congrArg some (by kernel_rfl))
  f312 := Tryd.func47.trans (congrArg some (by kernel_rfl))
  t0 := Tryd.underlying0
  a0 := Tryd.isAgg0
  z0 := Tryd.sizeOf0
  v0 := Tryd.zeroValue0
  t3 := Tryd.underlying3
  a3 := Tryd.isAgg3
  z3 := Tryd.sizeOf3
  v3 := Tryd.zeroValue3
  t4 := Tryd.underlying4
  a4 := Tryd.isAgg4
  z4 := Tryd.sizeOf4
  v4 := Tryd.zeroValue4
  t5 := Tryd.underlying5
  a5 := Tryd.isAgg5
  z5 := Tryd.sizeOf5
  v5 := Tryd.zeroValue5
  t9 := Tryd.underlying9
  a9 := Tryd.isAgg9
  z9 := Tryd.sizeOf9
  v9 := Tryd.zeroValue9
  t21 := Tryd.underlying21
  a21 := Tryd.isAgg21
  z21 := Tryd.sizeOf21
  v21 := Tryd.zeroValue21
  t31 := Tryd.underlying40
  a31 := Tryd.isAgg40
  z31 := Tryd.sizeOf40
  v31 := Tryd.zeroValue40
  t40 := Tryd.underlying45
  a40 := Tryd.isAgg45
  z40 := Tryd.sizeOf45
  v40 := Tryd.zeroValue45
  t46 := Tryd.underlying57
  a46 := Tryd.isAgg57
  z46 := Tryd.sizeOf57
  v46 := Tryd.zeroValue57
  t49 := Tryd.underlying62
  a49 := Tryd.isAgg62
  z49 := Tryd.sizeOf62
  v49 := Tryd.zeroValue62
  t51 := Tryd.underlying53
  a51 := Tryd.isAgg53
  z51 := Tryd.sizeOf53
  v51 := Tryd.zeroValue53
  t119 := Tryd.underlying43
  a119 := Tryd.isAgg43
  z119 := Tryd.sizeOf43
  t141 := Tryd.underlying55
  a141 := Tryd.isAgg55
  z141 := Tryd.sizeOf55
  v141 := Tryd.zeroValue55
  t152 := Tryd.underlying50
  a152 := Tryd.isAgg50
  z152 := Tryd.sizeOf50
  v152 := Tryd.zeroValue50
  t154 := Tryd.underlying52
  a154 := Tryd.isAgg52
  z154 := Tryd.sizeOf52
  v154 := Tryd.zeroValue52
  t193 := Tryd.underlying58
  a193 := Tryd.isAgg58
  z193 := Tryd.sizeOf58
  v193 := Tryd.zeroValue58
  t194 := Tryd.underlying59
  a194 := Tryd.isAgg59
  z194 := Tryd.sizeOf59
  v194 := Tryd.zeroValue59
  t196 := Tryd.underlying61
  a196 := Tryd.isAgg61
  z196 := Tryd.sizeOf61
  v196 := Tryd.zeroValue61
  t198 := Tryd.underlying64
  a198 := Tryd.isAgg64
  z198 := Tryd.sizeOf64
  v198 := Tryd.zeroValue64
  t201 := Tryd.underlying67
  a201 := Tryd.isAgg67
  z201 := Tryd.sizeOf67
  v201 := Tryd.zeroValue67
  t226 := Tryd.underlying72
  a226 := Tryd.isAgg72
  z226 := Tryd.sizeOf72
  v226 := Tryd.zeroValue72
  t227 := Tryd.underlying73
  a227 := Tryd.isAgg73
  z227 := Tryd.sizeOf73
  v227 := Tryd.zeroValue73
  g0 := by kernel_rfl
  g6 := by kernel_rfl }
open Go.RowKit Go.Lib in
/-- strings.Fields, the table by 'Lib.TabIs' (as strings.TrimSpace's contract). 'hg': the table's number, by its name: at a dump 'by kernel_rfl'. (LAID: no walk: one application.) -/
theorem Tryd.strings_Fields (s : ByteArray) (w : World) (hs : s.size < 4294967281) (hascii : ∀ (j : Nat) b, s.data.toList[j]? = some b → b.toNat < 128) (htab : Lib.TabIs Tryd.prog w "strings.asciiSpace" .u8 Lib.asciiSpaceTab) :
    Calls Tryd.prog 35 #[.string s] w fun e w' =>
      e = .returned (.slice (some ⟨w.heap.size, 0, none⟩) (Lib.fields s.data.toList).length (Lib.fields s.data.toList).length) ∧ w' = w.alloc (.cells ((Lib.fields s.data.toList).map fun l => Value.string ⟨l.toArray⟩).toArray 9) := Any.strings_Fields Tryd.lays157 (by kernel_rfl) (by kernel_rfl) s w hs hascii htab
end Go.Proofs
