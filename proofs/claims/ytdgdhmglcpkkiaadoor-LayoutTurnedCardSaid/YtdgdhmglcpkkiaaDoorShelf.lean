/-
  DERIVED: THE SHELF's CONTRACTS AT THIS DUMP, IN PLAIN WORDS (tools/lay-plain.mjs out of 'TrydShelf.lean', which tools/lay-shelf.mjs wrote): THE SAME DECLARATIONS UNDER THE SAME NAMES: 'import', 'namespace', 'open', 'def', 'theorem' AND NOTHING ELSE: no command of the shelf's: FOR A HAND-IN. Each laying: the table of numbers ('.._ren') and one theorem, a field a fact of the dump's own or the kernel's comparison; each contract: ONE APPLICATION.
-/
import Derived.Shelf.Strings.Fields
import Derived.Test.YtdgdhmglcpkkiaaDoorProg
namespace Go.Proofs
open Go.Shelf
def Tryd.lays157_ren : Go.Shelf.Ren := ⟨fun | 157 => 29 | 229 => 33 | 199 => 34 | 261 => 35 | 311 => 36 | 312 => 37 | n => n, fun | 9 => 9 | 31 => 41 | 3 => 3 | 5 => 5 | 4 => 4 | 119 => 44 | 0 => 0 | 40 => 46 | 152 => 47 | 21 => 21 | 154 => 49 | 51 => 50 | 141 => 52 | 196 => 56 | 193 => 53 | 198 => 59 | 49 => 57 | 194 => 54 | 201 => 62 | 226 => 64 | 46 => 65 | 227 => 66 | n => n, fun | 0 => 0 | 6 => 1 | n => n⟩
theorem Tryd.lays157 : Go.Proofs.Lays.n157 Tryd.prog Tryd.lays157_ren := {
  mixed := by kernel_rfl
  f157 := Tryd.func29.trans (congrArg some (by kernel_rfl))
  f199 := Tryd.func34.trans (congrArg some (by kernel_rfl))
  f229 := Tryd.func33.trans (congrArg some (by kernel_rfl))
  f261 := Tryd.func35.trans (congrArg some (by kernel_rfl))
  f311 := Tryd.func36.trans (congrArg some (by kernel_rfl))
  f312 := Tryd.func37.trans (congrArg some (by kernel_rfl))
  t0 := Tryd.underlying0
  a0 := Tryd.isAgg0
  z0 := Tryd.sizeOf0
  v0 := Tryd.zeroValue0
  t3 := Tryd.underlying3
  a3 := Tryd.isAgg3
  z3 := Tryd.sizeOf3
  v3 := Tryd.zeroValue3
  t4 := Tryd.underlying4
  a4 := Tryd.isAgg4
  z4 := Tryd.sizeOf4
  v4 := Tryd.zeroValue4
  t5 := Tryd.underlying5
  a5 := Tryd.isAgg5
  z5 := Tryd.sizeOf5
  v5 := Tryd.zeroValue5
  t9 := Tryd.underlying9
  a9 := Tryd.isAgg9
  z9 := Tryd.sizeOf9
  v9 := Tryd.zeroValue9
  t21 := Tryd.underlying21
  a21 := Tryd.isAgg21
  z21 := Tryd.sizeOf21
  v21 := Tryd.zeroValue21
  t31 := Tryd.underlying41
  a31 := Tryd.isAgg41
  z31 := Tryd.sizeOf41
  v31 := Tryd.zeroValue41
  t40 := Tryd.underlying46
  a40 := Tryd.isAgg46
  z40 := Tryd.sizeOf46
  v40 := Tryd.zeroValue46
  t46 := Tryd.underlying65
  a46 := Tryd.isAgg65
  z46 := Tryd.sizeOf65
  v46 := Tryd.zeroValue65
  t49 := Tryd.underlying57
  a49 := Tryd.isAgg57
  z49 := Tryd.sizeOf57
  v49 := Tryd.zeroValue57
  t51 := Tryd.underlying50
  a51 := Tryd.isAgg50
  z51 := Tryd.sizeOf50
  v51 := Tryd.zeroValue50
  t119 := Tryd.underlying44
  a119 := Tryd.isAgg44
  z119 := Tryd.sizeOf44
  t141 := Tryd.underlying52
  a141 := Tryd.isAgg52
  z141 := Tryd.sizeOf52
  v141 := Tryd.zeroValue52
  t152 := Tryd.underlying47
  a152 := Tryd.isAgg47
  z152 := Tryd.sizeOf47
  v152 := Tryd.zeroValue47
  t154 := Tryd.underlying49
  a154 := Tryd.isAgg49
  z154 := Tryd.sizeOf49
  v154 := Tryd.zeroValue49
  t193 := Tryd.underlying53
  a193 := Tryd.isAgg53
  z193 := Tryd.sizeOf53
  v193 := Tryd.zeroValue53
  t194 := Tryd.underlying54
  a194 := Tryd.isAgg54
  z194 := Tryd.sizeOf54
  v194 := Tryd.zeroValue54
  t196 := Tryd.underlying56
  a196 := Tryd.isAgg56
  z196 := Tryd.sizeOf56
  v196 := Tryd.zeroValue56
  t198 := Tryd.underlying59
  a198 := Tryd.isAgg59
  z198 := Tryd.sizeOf59
  v198 := Tryd.zeroValue59
  t201 := Tryd.underlying62
  a201 := Tryd.isAgg62
  z201 := Tryd.sizeOf62
  v201 := Tryd.zeroValue62
  t226 := Tryd.underlying64
  a226 := Tryd.isAgg64
  z226 := Tryd.sizeOf64
  v226 := Tryd.zeroValue64
  t227 := Tryd.underlying66
  a227 := Tryd.isAgg66
  z227 := Tryd.sizeOf66
  v227 := Tryd.zeroValue66
  g0 := by kernel_rfl
  g6 := by kernel_rfl }
open Go.RowKit Go.Lib in
/-- strings.Fields, the table by 'Lib.TabIs' (as strings.TrimSpace's contract). 'hg': the table's number, by its name: at a dump 'by kernel_rfl'. (LAID: no walk: one application.) -/
theorem Tryd.strings_Fields (s : ByteArray) (w : World) (hs : s.size < 4294967281) (hascii : ∀ (j : Nat) b, s.data.toList[j]? = some b → b.toNat < 128) (htab : Lib.TabIs Tryd.prog w "strings.asciiSpace" .u8 Lib.asciiSpaceTab) :
    Calls Tryd.prog 29 #[.string s] w fun e w' =>
      e = .returned (.slice (some ⟨w.heap.size, 0, none⟩) (Lib.fields s.data.toList).length (Lib.fields s.data.toList).length) ∧ w' = w.alloc (.cells ((Lib.fields s.data.toList).map fun l => Value.string ⟨l.toArray⟩).toArray 9) := Any.strings_Fields Tryd.lays157 (by kernel_rfl) (by kernel_rfl) s w hs hascii htab
end Go.Proofs
