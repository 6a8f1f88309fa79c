/-
  DERIVED: THE SHELF's CONTRACTS AT THIS DUMP, IN PLAIN WORDS (tools/lay-plain.mjs out of 'TrydShelf.lean', which tools/lay-shelf.mjs wrote): THE SAME DECLARATIONS UNDER THE SAME NAMES: 'import', 'namespace', 'open', 'def', 'theorem' AND NOTHING ELSE: no command of the shelf's: FOR A HAND-IN. Each laying: the table of numbers ('.._ren') and one theorem, a field a fact of the dump's own or the kernel's comparison; each contract: ONE APPLICATION.
-/
import Derived.Test.YtbioiodjdfcooabDoorProg
import Derived.Shelf.Strings.Builder1
import Derived.Shelf.Small.Wraps
import Derived.Shelf.Strings.BuilderF
import Derived.Shelf.Strings.BuilderK
import Derived.Shelf.Strconv.Itoa0
import Derived.Shelf.Strconv.Itoa1
import Derived.Shelf.LaysM
import Derived.Shelf.Strconv.Itoa2
import Derived.Shelf.Strconv.Itoa3
import Derived.Shelf.Strings.Fields
import Derived.Shelf.Unicode.Latin
import Derived.Shelf.Unicode.Is16White
import Derived.Shelf.Unicode.IsSpaceAny
import Derived.Shelf.Unicode.Is16WhiteD
import Derived.Shelf.Unicode.IsSpaceAnyD
import Derived.Shelf.Strings.FieldsAny
import Derived.Shelf.Strings.FieldsFuncAny
import Derived.Shelf.Unicode.Is16Any
import Derived.Shelf.Unicode.Is32Any
import Derived.Shelf.Unicode.ExclAny
import Derived.Shelf.Slices.Turned
import Derived.Ground.Names2Prog
import Derived.Shelf.Slices.SearchI
namespace Go.Proofs
open Go.Shelf
def Tryd.lays170_ren : Go.Shelf.Ren := ⟨fun | 170 => 47 | n => n, fun | 70 => 73 | 3 => 3 | 0 => 0 | 72 => 76 | 37 => 74 | 5 => 5 | n => n, fun | n => n⟩
theorem Tryd.lays170 : Go.Proofs.Lays.n170 Tryd.prog Tryd.lays170_ren := {
  mixed := by kernel_rfl
  f170 := Tryd.func47.trans (congrArg some (by kernel_rfl))
  t0 := Tryd.underlying0
  a0 := Tryd.isAgg0
  z0 := Tryd.sizeOf0
  v0 := Tryd.zeroValue0
  t3 := Tryd.underlying3
  a3 := Tryd.isAgg3
  z3 := Tryd.sizeOf3
  v3 := Tryd.zeroValue3
  t37 := Tryd.underlying74
  a37 := Tryd.isAgg74
  z37 := Tryd.sizeOf74
  v37 := Tryd.zeroValue74
  t70 := Tryd.underlying73
  a70 := Tryd.isAgg73
  z70 := Tryd.sizeOf73
  v70 := Tryd.zeroValue73
  t72 := Tryd.underlying76
  a72 := Tryd.isAgg76
  z72 := Tryd.sizeOf76
  v72 := Tryd.zeroValue76 }
open Go.RowKit in
/-- (*strings.Builder).Len: "Len returns the number of accumulated bytes; b.Len() == len(b.String()).": the world is as it was. (LAID: no walk: one application.) -/
theorem Tryd.Builder_Len (B b : Nat) (bs : List Value) (w : World) (h : Lib.IsBuilder 76 5 B b bs w) :
    Calls Tryd.prog 47 #[.pointer (some ⟨b, 0, none⟩)] w fun e w' => e = .returned (.int .i64 bs.length) ∧ w' = w := Any.Builder_Len Tryd.lays170 B b bs w h
def Tryd.lays169_ren : Go.Shelf.Ren := ⟨fun | 169 => 50 | n => n, fun | 70 => 73 | 9 => 9 | 0 => 0 | 72 => 76 | 37 => 74 | 127 => 101 | 3 => 3 | 5 => 5 | n => n, fun | n => n⟩
theorem Tryd.lays169 : Go.Proofs.Lays.n169 Tryd.prog Tryd.lays169_ren := {
  mixed := by kernel_rfl
  f169 := Tryd.func50.trans (congrArg some (by kernel_rfl))
  t0 := Tryd.underlying0
  a0 := Tryd.isAgg0
  z0 := Tryd.sizeOf0
  v0 := Tryd.zeroValue0
  t3 := Tryd.underlying3
  a3 := Tryd.isAgg3
  z3 := Tryd.sizeOf3
  v3 := Tryd.zeroValue3
  t9 := Tryd.underlying9
  a9 := Tryd.isAgg9
  z9 := Tryd.sizeOf9
  v9 := Tryd.zeroValue9
  t37 := Tryd.underlying74
  a37 := Tryd.isAgg74
  z37 := Tryd.sizeOf74
  v37 := Tryd.zeroValue74
  t70 := Tryd.underlying73
  a70 := Tryd.isAgg73
  z70 := Tryd.sizeOf73
  v70 := Tryd.zeroValue73
  t72 := Tryd.underlying76
  a72 := Tryd.isAgg76
  z72 := Tryd.sizeOf76
  v72 := Tryd.zeroValue76
  t127 := Tryd.underlying101
  a127 := Tryd.isAgg101
  z127 := Tryd.sizeOf101
  v127 := Tryd.zeroValue101 }
theorem Tryd.Builder_Extra_169 : Builder.Extra Tryd.prog Tryd.lays169_ren := {
  sizeBuilder := by kernel_rfl
  liesBuilder := by kernel_rfl
  t5 := Tryd.underlying5
  a5 := Tryd.isAgg5
  z5 := Tryd.sizeOf5
  v5 := Tryd.zeroValue5
  infoByte := by kernel_rfl
  cellsByte := by kernel_rfl
  sizeByte := by kernel_rfl
  neB5 := by decide }
open Go.RowKit in
/-- (*strings.Builder).String: "String returns the accumulated string.": WHATEVER THE BUILDER HOLDS. (LAID: no walk: one application.) -/
theorem Tryd.Builder_String_any (B b : Nat) (l : List UInt8) (w : World) (h : Lib.IsBuilder 76 5 B b (Lib.byteCells l) w) (hBw : B ≤ w.heap.size) :
    Calls Tryd.prog 50 #[.pointer (some ⟨b, 0, none⟩)] w fun e w' => e = .returned (.string ⟨l.toArray⟩) ∧ Below B w w' := Any.Builder_String_any Tryd.lays169 Tryd.Builder_Extra_169 B b l w h hBw
def Tryd.lays129_ren : Go.Shelf.Ren := ⟨fun | 129 => 102 | n => n, fun | 53 => 124 | 3 => 3 | 4 => 4 | 46 => 144 | 5 => 5 | 9 => 9 | n => n, fun | n => n⟩
theorem Tryd.lays129 : Go.Proofs.Lays.n129 Tryd.prog Tryd.lays129_ren := {
  mixed := by kernel_rfl
  f129 := Tryd.func102.trans (congrArg some (by kernel_rfl))
  t3 := Tryd.underlying3
  a3 := Tryd.isAgg3
  z3 := Tryd.sizeOf3
  v3 := Tryd.zeroValue3
  t4 := Tryd.underlying4
  a4 := Tryd.isAgg4
  z4 := Tryd.sizeOf4
  v4 := Tryd.zeroValue4
  t5 := Tryd.underlying5
  a5 := Tryd.isAgg5
  z5 := Tryd.sizeOf5
  v5 := Tryd.zeroValue5
  t9 := Tryd.underlying9
  a9 := Tryd.isAgg9
  z9 := Tryd.sizeOf9
  v9 := Tryd.zeroValue9
  t46 := Tryd.underlying144
  a46 := Tryd.isAgg144
  z46 := Tryd.sizeOf144
  v46 := Tryd.zeroValue144
  t53 := Tryd.underlying124
  a53 := Tryd.isAgg124
  z53 := Tryd.sizeOf124
  v53 := Tryd.zeroValue124 }
/-- bits.Len64: "Len64 returns the minimum number of bits required to represent x; the result is 0 for x == 0.": IT RETURNS 'Lib.bitLen x'; the world is as it was. ('h0', 'h1': x is a uint64.) (LAID: no walk: one application.) -/
theorem Tryd.bits_Len64 (x : Int) (w : World) (h0 : 0 ≤ x) (h1 : x ≤ 18446744073709551615) :
    Calls Tryd.prog 102 #[.int .u64 x] w fun e w' => e = .returned (.int .i64 (Lib.bitLen x.toNat)) ∧ w' = w := Any.bits_Len64 Tryd.lays129 x w h0 h1
def Tryd.lays171_ren : Go.Shelf.Ren := ⟨fun | 171 => 49 | 243 => 73 | 246 => 90 | 283 => 95 | 284 => 96 | 285 => 97 | 286 => 98 | 129 => 102 | 317 => 101 | 318 => 103 | 319 => 104 | 320 => 105 | 337 => 106 | 338 => 107 | n => n, fun | 3 => 3 | 9 => 9 | 2 => 2 | 4 => 4 | 171 => 123 | 0 => 0 | 53 => 124 | 37 => 74 | 5 => 5 | 173 => 127 | 212 => 142 | 51 => 120 | 20 => 20 | 213 => 143 | 46 => 144 | 232 => 149 | 233 => 150 | n => n, fun | 17 => 2 | 18 => 3 | 19 => 4 | n => n⟩
theorem Tryd.lays171 : Go.Proofs.Lays.n171 Tryd.prog Tryd.lays171_ren := {
  mixed := by kernel_rfl
  f129 := Tryd.func102.trans (congrArg some (by kernel_rfl))
  f171 := Tryd.func49.trans (congrArg some (by kernel_rfl))
  f243 := Tryd.func73.trans (congrArg some (by kernel_rfl))
  f246 := Tryd.func90.trans (congrArg some (by kernel_rfl))
  f283 := Tryd.func95.trans (congrArg some (by kernel_rfl))
  f284 := Tryd.func96.trans (congrArg some (by kernel_rfl))
  f285 := Tryd.func97.trans (congrArg some (by kernel_rfl))
  f286 := Tryd.func98.trans (congrArg some (by kernel_rfl))
  f317 := Tryd.func101.trans (congrArg some (by kernel_rfl))
  f318 := Tryd.func103.trans (congrArg some (by kernel_rfl))
  f319 := Tryd.func104.trans (congrArg some (by kernel_rfl))
  f320 := Tryd.func105.trans (congrArg some (by kernel_rfl))
  f337 := Tryd.func106.trans (congrArg some (by kernel_rfl))
  f338 := Tryd.func107.trans (congrArg some (by kernel_rfl))
  t0 := Tryd.underlying0
  a0 := Tryd.isAgg0
  z0 := Tryd.sizeOf0
  v0 := Tryd.zeroValue0
  t2 := Tryd.underlying2
  a2 := Tryd.isAgg2
  z2 := Tryd.sizeOf2
  v2 := Tryd.zeroValue2
  t3 := Tryd.underlying3
  a3 := Tryd.isAgg3
  z3 := Tryd.sizeOf3
  v3 := Tryd.zeroValue3
  t4 := Tryd.underlying4
  a4 := Tryd.isAgg4
  z4 := Tryd.sizeOf4
  v4 := Tryd.zeroValue4
  t5 := Tryd.underlying5
  a5 := Tryd.isAgg5
  z5 := Tryd.sizeOf5
  v5 := Tryd.zeroValue5
  t9 := Tryd.underlying9
  a9 := Tryd.isAgg9
  z9 := Tryd.sizeOf9
  v9 := Tryd.zeroValue9
  t20 := Tryd.underlying20
  a20 := Tryd.isAgg20
  z20 := Tryd.sizeOf20
  v20 := Tryd.zeroValue20
  t37 := Tryd.underlying74
  a37 := Tryd.isAgg74
  z37 := Tryd.sizeOf74
  v37 := Tryd.zeroValue74
  t46 := Tryd.underlying144
  a46 := Tryd.isAgg144
  z46 := Tryd.sizeOf144
  v46 := Tryd.zeroValue144
  t51 := Tryd.underlying120
  a51 := Tryd.isAgg120
  z51 := Tryd.sizeOf120
  v51 := Tryd.zeroValue120
  t53 := Tryd.underlying124
  a53 := Tryd.isAgg124
  z53 := Tryd.sizeOf124
  v53 := Tryd.zeroValue124
  t171 := Tryd.underlying123
  a171 := Tryd.isAgg123
  z171 := Tryd.sizeOf123
  v171 := Tryd.zeroValue123
  t173 := Tryd.underlying127
  a173 := Tryd.isAgg127
  z173 := Tryd.sizeOf127
  v173 := Tryd.zeroValue127
  t212 := Tryd.underlying142
  a212 := Tryd.isAgg142
  z212 := Tryd.sizeOf142
  v212 := Tryd.zeroValue142
  t213 := Tryd.underlying143
  a213 := Tryd.isAgg143
  z213 := Tryd.sizeOf143
  t232 := Tryd.underlying149
  a232 := Tryd.isAgg149
  z232 := Tryd.sizeOf149
  v232 := Tryd.zeroValue149
  t233 := Tryd.underlying150
  a233 := Tryd.isAgg150
  z233 := Tryd.sizeOf150
  v233 := Tryd.zeroValue150
  g17 := by kernel_rfl
  g18 := by kernel_rfl
  g19 := by kernel_rfl }
open Go.RowKit Go.Sort Go.Lib in
/-- THE ROAD WITHOUT THE TABLE: 0 <= i < 100: NO PREMISE ON THE WORLD, AND THE WORLD IS AS IT WAS: a row that keeps its argument in that range need list no table ('laid = []'). (LAID: no walk: one application.) -/
theorem Tryd.strconv_Itoa_small (i : Nat) (hi : i < 100) (w : World) :
    Calls Tryd.prog 49 #[.int .i64 i] w fun e w' => e = .returned (.string ⟨(Lib.decDigits i).toArray⟩) ∧ w' = w := Any.strconv_Itoa_small Tryd.lays171 i hi w
def Tryd.lays157_ren : Go.Shelf.Ren := ⟨fun | 157 => 70 | 229 => 87 | 199 => 88 | 261 => 94 | 311 => 99 | 312 => 100 | n => n, fun | 9 => 9 | 31 => 71 | 3 => 3 | 5 => 5 | 4 => 4 | 119 => 110 | 0 => 0 | 40 => 112 | 152 => 117 | 21 => 21 | 154 => 119 | 51 => 120 | 141 => 122 | 196 => 132 | 193 => 129 | 198 => 135 | 49 => 133 | 194 => 130 | 201 => 138 | 226 => 146 | 46 => 144 | 227 => 147 | n => n, fun | 0 => 0 | 6 => 1 | n => n⟩
theorem Tryd.lays157 : Go.Proofs.Lays.n157 Tryd.prog Tryd.lays157_ren := {
  mixed := by kernel_rfl
  f157 := Tryd.func70.trans (congrArg some (by kernel_rfl))
  f199 := Tryd.func88.trans (congrArg some (by kernel_rfl))
  f229 := Tryd.func87.trans (congrArg some (by kernel_rfl))
  f261 := Tryd.func94.trans (congrArg some (by kernel_rfl))
  f311 := Tryd.func99.trans (congrArg some (by kernel_rfl))
  f312 := Tryd.func100.trans (congrArg some (by kernel_rfl))
  t0 := Tryd.underlying0
  a0 := Tryd.isAgg0
  z0 := Tryd.sizeOf0
  v0 := Tryd.zeroValue0
  t3 := Tryd.underlying3
  a3 := Tryd.isAgg3
  z3 := Tryd.sizeOf3
  v3 := Tryd.zeroValue3
  t4 := Tryd.underlying4
  a4 := Tryd.isAgg4
  z4 := Tryd.sizeOf4
  v4 := Tryd.zeroValue4
  t5 := Tryd.underlying5
  a5 := Tryd.isAgg5
  z5 := Tryd.sizeOf5
  v5 := Tryd.zeroValue5
  t9 := Tryd.underlying9
  a9 := Tryd.isAgg9
  z9 := Tryd.sizeOf9
  v9 := Tryd.zeroValue9
  t21 := Tryd.underlying21
  a21 := Tryd.isAgg21
  z21 := Tryd.sizeOf21
  v21 := Tryd.zeroValue21
  t31 := Tryd.underlying71
  a31 := Tryd.isAgg71
  z31 := Tryd.sizeOf71
  v31 := Tryd.zeroValue71
  t40 := Tryd.underlying112
  a40 := Tryd.isAgg112
  z40 := Tryd.sizeOf112
  v40 := Tryd.zeroValue112
  t46 := Tryd.underlying144
  a46 := Tryd.isAgg144
  z46 := Tryd.sizeOf144
  v46 := Tryd.zeroValue144
  t49 := Tryd.underlying133
  a49 := Tryd.isAgg133
  z49 := Tryd.sizeOf133
  v49 := Tryd.zeroValue133
  t51 := Tryd.underlying120
  a51 := Tryd.isAgg120
  z51 := Tryd.sizeOf120
  v51 := Tryd.zeroValue120
  t119 := Tryd.underlying110
  a119 := Tryd.isAgg110
  z119 := Tryd.sizeOf110
  t141 := Tryd.underlying122
  a141 := Tryd.isAgg122
  z141 := Tryd.sizeOf122
  v141 := Tryd.zeroValue122
  t152 := Tryd.underlying117
  a152 := Tryd.isAgg117
  z152 := Tryd.sizeOf117
  v152 := Tryd.zeroValue117
  t154 := Tryd.underlying119
  a154 := Tryd.isAgg119
  z154 := Tryd.sizeOf119
  v154 := Tryd.zeroValue119
  t193 := Tryd.underlying129
  a193 := Tryd.isAgg129
  z193 := Tryd.sizeOf129
  v193 := Tryd.zeroValue129
  t194 := Tryd.underlying130
  a194 := Tryd.isAgg130
  z194 := Tryd.sizeOf130
  v194 := Tryd.zeroValue130
  t196 := Tryd.underlying132
  a196 := Tryd.isAgg132
  z196 := Tryd.sizeOf132
  v196 := Tryd.zeroValue132
  t198 := Tryd.underlying135
  a198 := Tryd.isAgg135
  z198 := Tryd.sizeOf135
  v198 := Tryd.zeroValue135
  t201 := Tryd.underlying138
  a201 := Tryd.isAgg138
  z201 := Tryd.sizeOf138
  v201 := Tryd.zeroValue138
  t226 := Tryd.underlying146
  a226 := Tryd.isAgg146
  z226 := Tryd.sizeOf146
  v226 := Tryd.zeroValue146
  t227 := Tryd.underlying147
  a227 := Tryd.isAgg147
  z227 := Tryd.sizeOf147
  v227 := Tryd.zeroValue147
  g0 := by kernel_rfl
  g6 := by kernel_rfl }
open Go.RowKit Go.Lib in
/-- strings.Fields, the table by 'Lib.TabIs' (as strings.TrimSpace's contract). 'hg': the table's number, by its name: at a dump 'by kernel_rfl'. (LAID: no walk: one application.) -/
theorem Tryd.strings_Fields (s : ByteArray) (w : World) (hs : s.size < 4294967281) (hascii : ∀ (j : Nat) b, s.data.toList[j]? = some b → b.toNat < 128) (htab : Lib.TabIs Tryd.prog w "strings.asciiSpace" .u8 Lib.asciiSpaceTab) :
    Calls Tryd.prog 70 #[.string s] w fun e w' =>
      e = .returned (.slice (some ⟨w.heap.size, 0, none⟩) (Lib.fields s.data.toList).length (Lib.fields s.data.toList).length) ∧ w' = w.alloc (.cells ((Lib.fields s.data.toList).map fun l => Value.string ⟨l.toArray⟩).toArray 9) := Any.strings_Fields Tryd.lays157 (by kernel_rfl) (by kernel_rfl) s w hs hascii htab
def Tryd.lays199_ren : Go.Shelf.Ren := ⟨fun | 199 => 88 | 261 => 94 | 311 => 99 | 312 => 100 | n => n, fun | 21 => 21 | 4 => 4 | 51 => 120 | 141 => 122 | 0 => 0 | 196 => 132 | 193 => 129 | 3 => 3 | 198 => 135 | 49 => 133 | 194 => 130 | 201 => 138 | 226 => 146 | 46 => 144 | 227 => 147 | n => n, fun | 6 => 1 | n => n⟩
theorem Tryd.lays199 : Go.Proofs.Lays.n199 Tryd.prog Tryd.lays199_ren := {
  mixed := by kernel_rfl
  f199 := Tryd.func88.trans (congrArg some (by kernel_rfl))
  f261 := Tryd.func94.trans (congrArg some (by kernel_rfl))
  f311 := Tryd.func99.trans (congrArg some (by kernel_rfl))
  f312 := Tryd.func100.trans (congrArg some (by kernel_rfl))
  t0 := Tryd.underlying0
  a0 := Tryd.isAgg0
  z0 := Tryd.sizeOf0
  v0 := Tryd.zeroValue0
  t3 := Tryd.underlying3
  a3 := Tryd.isAgg3
  z3 := Tryd.sizeOf3
  v3 := Tryd.zeroValue3
  t4 := Tryd.underlying4
  a4 := Tryd.isAgg4
  z4 := Tryd.sizeOf4
  v4 := Tryd.zeroValue4
  t21 := Tryd.underlying21
  a21 := Tryd.isAgg21
  z21 := Tryd.sizeOf21
  v21 := Tryd.zeroValue21
  t46 := Tryd.underlying144
  a46 := Tryd.isAgg144
  z46 := Tryd.sizeOf144
  v46 := Tryd.zeroValue144
  t49 := Tryd.underlying133
  a49 := Tryd.isAgg133
  z49 := Tryd.sizeOf133
  v49 := Tryd.zeroValue133
  t51 := Tryd.underlying120
  a51 := Tryd.isAgg120
  z51 := Tryd.sizeOf120
  v51 := Tryd.zeroValue120
  t141 := Tryd.underlying122
  a141 := Tryd.isAgg122
  z141 := Tryd.sizeOf122
  v141 := Tryd.zeroValue122
  t193 := Tryd.underlying129
  a193 := Tryd.isAgg129
  z193 := Tryd.sizeOf129
  v193 := Tryd.zeroValue129
  t194 := Tryd.underlying130
  a194 := Tryd.isAgg130
  z194 := Tryd.sizeOf130
  v194 := Tryd.zeroValue130
  t196 := Tryd.underlying132
  a196 := Tryd.isAgg132
  z196 := Tryd.sizeOf132
  v196 := Tryd.zeroValue132
  t198 := Tryd.underlying135
  a198 := Tryd.isAgg135
  z198 := Tryd.sizeOf135
  v198 := Tryd.zeroValue135
  t201 := Tryd.underlying138
  a201 := Tryd.isAgg138
  z201 := Tryd.sizeOf138
  v201 := Tryd.zeroValue138
  t226 := Tryd.underlying146
  a226 := Tryd.isAgg146
  z226 := Tryd.sizeOf146
  v226 := Tryd.zeroValue146
  t227 := Tryd.underlying147
  a227 := Tryd.isAgg147
  z227 := Tryd.sizeOf147
  v227 := Tryd.zeroValue147
  g6 := by kernel_rfl }
open Go.RowKit Go.Lib in
theorem Tryd.unicode_IsSpace (r : Int) (w : World) (h0 : 0 ≤ r) (h : r ≤ 255) :
    Calls Tryd.prog 88 #[.int .i32 r] w fun e w' => e = .returned (.bool (Lib.isSpaceL r)) ∧ w' = w := Any.unicode_IsSpace Tryd.lays199 r w h0 h
def Tryd.lays110_ren : Go.Shelf.Ren := ⟨fun | 110 => 69 | 109 => 86 | n => n, fun | 31 => 71 | 9 => 9 | 4 => 4 | 3 => 3 | 0 => 0 | n => n, fun | n => n⟩
theorem Tryd.lays110 : Go.Proofs.Lays.n110 Tryd.prog Tryd.lays110_ren := {
  mixed := by kernel_rfl
  f109 := Tryd.func86.trans (congrArg some (by kernel_rfl))
  f110 := Tryd.func69.trans (congrArg some (by kernel_rfl))
  t0 := Tryd.underlying0
  a0 := Tryd.isAgg0
  z0 := Tryd.sizeOf0
  v0 := Tryd.zeroValue0
  t3 := Tryd.underlying3
  a3 := Tryd.isAgg3
  z3 := Tryd.sizeOf3
  v3 := Tryd.zeroValue3
  t4 := Tryd.underlying4
  a4 := Tryd.isAgg4
  z4 := Tryd.sizeOf4
  v4 := Tryd.zeroValue4
  t9 := Tryd.underlying9
  a9 := Tryd.isAgg9
  z9 := Tryd.sizeOf9
  v9 := Tryd.zeroValue9
  t31 := Tryd.underlying71
  a31 := Tryd.isAgg71
  z31 := Tryd.sizeOf71
  v31 := Tryd.zeroValue71 }
open Go.Lib in
/-- slices.Contains at []string: "Contains reports whether v is present in s.": IT RETURNS 'Lib.containsS (the elements) v', which is true just where v is among them ('Lib.containsS_iff'); the world is as it was. ITS CALLEE slices.Index IS MET BY ITS OWN CONTRACT OFF THE SHELF (lay that first): no loop is walked here. (LAID: no walk: one application.) -/
theorem Tryd.slices_Contains_string (b off n c : Nat) (zs : List ByteArray) (x : ByteArray) (w : World) (hz : n ≤ zs.length) (hbig : n ≤ 9223372036854775807) (hc : ∀ j, j < zs.length → w.cell? ⟨b, off + j, none⟩ = some (.string (zs.getD j ByteArray.empty))) :
    Calls Tryd.prog 69 #[.slice (some ⟨b, off, none⟩) n c, .string x] w fun e w' => e = .returned (.bool (Lib.containsS (zs.take n) x)) ∧ w' = w := Any.slices_Contains_string Tryd.lays110 b off n c zs x w hz hbig hc
end Go.Proofs
