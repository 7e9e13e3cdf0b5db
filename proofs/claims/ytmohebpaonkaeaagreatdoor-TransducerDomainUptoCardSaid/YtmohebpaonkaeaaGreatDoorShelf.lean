/-
  DERIVED: THE SHELF's CONTRACTS AT THIS DUMP, IN PLAIN WORDS (tools/lay-plain.mjs out of 'TryzShelf.lean', which tools/lay-shelf.mjs wrote): THE SAME DECLARATIONS UNDER THE SAME NAMES: 'import', 'namespace', 'open', 'def', 'theorem' AND NOTHING ELSE: no command of the shelf's: FOR A HAND-IN. Each laying: the table of numbers ('.._ren') and one theorem, a field a fact of the dump's own or the kernel's comparison; each contract: ONE APPLICATION.
-/
import Derived.Shelf.Sort.Plain
import Derived.Shelf.Slices.In.SortNone
import Derived.Shelf.SlSortCmp.WholeK
import Derived.Test.YtmohebpaonkaeaaGreatDoorProg
namespace Go.Proofs
open Go.Shelf
def Tryz.lays189_ren : Go.Shelf.Ren := ⟨fun | 189 => 117 | 125 => 163 | 257 => 162 | 128 => 194 | 129 => 195 | 294 => 185 | 295 => 186 | 296 => 187 | 297 => 188 | 298 => 189 | 299 => 190 | 216 => 191 | 300 => 192 | 301 => 193 | 328 => 207 | 329 => 208 | 330 => 209 | 331 => 210 | 332 => 211 | 215 => 212 | 343 => 216 | n => n, fun | 28 => 79 | 3 => 3 | 46 => 176 | 0 => 0 | 51 => 260 | 53 => 84 | 4 => 4 | 183 => 253 | 182 => 252 | 131 => 106 | 5 => 5 | 9 => 9 | 218 => 270 | 222 => 274 | 228 => 278 | 229 => 279 | n => n, fun | n => n⟩
theorem Tryz.lays189 : Go.Proofs.Lays.n189 Tryz.prog Tryz.lays189_ren := {
  mixed := by kernel_rfl
  f125 := Tryz.func163.trans (congrArg some (by kernel_rfl))
  f128 := Tryz.func194.trans (congrArg some (by kernel_rfl))
  f129 := Tryz.func195.trans (congrArg some (by kernel_rfl))
  f189 := Tryz.func117.trans (congrArg some (by kernel_rfl))
  f215 := Tryz.func212.trans (congrArg some (by kernel_rfl))
  f216 := Tryz.func191.trans (congrArg some (by kernel_rfl))
  f257 := Tryz.func162.trans (congrArg some (by kernel_rfl))
  f294 := Tryz.func185.trans (congrArg some (by kernel_rfl))
  f295 := Tryz.func186.trans (congrArg some (by kernel_rfl))
  f296 := Tryz.func187.trans (congrArg some (by kernel_rfl))
  f297 := Tryz.func188.trans (congrArg some (by kernel_rfl))
  f298 := Tryz.func189.trans (congrArg some (by kernel_rfl))
  f299 := Tryz.func190.trans (congrArg some (by kernel_rfl))
  f300 := Tryz.func192.trans (congrArg some (by kernel_rfl))
  f301 := Tryz.func193.trans (congrArg some (by kernel_rfl))
  f328 := Tryz.func207.trans (congrArg some (by kernel_rfl))
  f329 := Tryz.func208.trans (congrArg some (by kernel_rfl))
  f330 := Tryz.func209.trans (congrArg some (by kernel_rfl))
  f331 := Tryz.func210.trans (congrArg some (by kernel_rfl))
  f332 := Tryz.func211.trans (congrArg some (by kernel_rfl))
  f343 := Tryz.func216.trans (congrArg some (by kernel_rfl))
  t0 := Tryz.underlying0
  a0 := Tryz.isAgg0
  z0 := Tryz.sizeOf0
  v0 := Tryz.zeroValue0
  t3 := Tryz.underlying3
  a3 := Tryz.isAgg3
  z3 := Tryz.sizeOf3
  v3 := Tryz.zeroValue3
  t4 := Tryz.underlying4
  a4 := Tryz.isAgg4
  z4 := Tryz.sizeOf4
  v4 := Tryz.zeroValue4
  t5 := Tryz.underlying5
  a5 := Tryz.isAgg5
  z5 := Tryz.sizeOf5
  v5 := Tryz.zeroValue5
  t9 := Tryz.underlying9
  a9 := Tryz.isAgg9
  z9 := Tryz.sizeOf9
  v9 := Tryz.zeroValue9
  t28 := Tryz.underlying79
  a28 := Tryz.isAgg79
  z28 := Tryz.sizeOf79
  v28 := Tryz.zeroValue79
  t46 := Tryz.underlying176
  a46 := Tryz.isAgg176
  z46 := Tryz.sizeOf176
  v46 := Tryz.zeroValue176
  t51 := Tryz.underlying260
  a51 := Tryz.isAgg260
  z51 := Tryz.sizeOf260
  v51 := Tryz.zeroValue260
  t53 := Tryz.underlying84
  a53 := Tryz.isAgg84
  z53 := Tryz.sizeOf84
  v53 := Tryz.zeroValue84
  t131 := Tryz.underlying106
  a131 := Tryz.isAgg106
  z131 := Tryz.sizeOf106
  v131 := Tryz.zeroValue106
  t182 := Tryz.underlying252
  a182 := Tryz.isAgg252
  z182 := Tryz.sizeOf252
  v182 := Tryz.zeroValue252
  t183 := Tryz.underlying253
  a183 := Tryz.isAgg253
  z183 := Tryz.sizeOf253
  v183 := Tryz.zeroValue253
  t218 := Tryz.underlying270
  a218 := Tryz.isAgg270
  z218 := Tryz.sizeOf270
  v218 := Tryz.zeroValue270
  t222 := Tryz.underlying274
  a222 := Tryz.isAgg274
  z222 := Tryz.sizeOf274
  v222 := Tryz.zeroValue274
  t228 := Tryz.underlying278
  a228 := Tryz.isAgg278
  z228 := Tryz.sizeOf278
  v228 := Tryz.zeroValue278
  t229 := Tryz.underlying279
  a229 := Tryz.isAgg279
  z229 := Tryz.sizeOf279
  v229 := Tryz.zeroValue279 }
open Go.Sort Go.RowKit in
theorem Tryz.slices_Sort_int (blk off cap : Nat) (zs : List Int) (w : World) (hH : Holds (Value.int .i64) w blk off zs.toArray) (hblk : blk < w.heap.size) (hsz : zs.length < 4611686018427387904) :
    Calls Tryz.prog 117 #[.slice (some ⟨blk, off, none⟩) zs.length cap] w fun e w' =>
      e = .returned (.tuple #[]) ∧ ∃ n os, w' = grow (putRow (Value.int .i64) (Sort.ahead w n) blk off (zs.mergeSort fun x y => decide (x ≤ y)).toArray) os := Any.slices_Sort_int Tryz.lays189 blk off cap zs w hH hblk hsz
open Go.RowKit Go.Sort in
/-- .. and plain. (LAID: no walk: one application.) -/
theorem Tryz.slices_Sort_int_none (p : Option Addr) (cap : Nat) (w : World) :
    Calls Tryz.prog 117 #[.slice p 0 cap] w fun e w' => e = .returned (.tuple #[]) ∧ w' = w := Any.slices_Sort_int_none Tryz.lays189 p cap w
def Tryz.sortC7_ren : Go.Shelf.Ren := ⟨fun | 6 => 127 | 15 => 163 | 14 => 166 | 28 => 194 | 29 => 195 | 20 => 197 | 21 => 198 | 22 => 199 | 23 => 200 | 24 => 201 | 25 => 202 | 26 => 203 | 27 => 204 | 46 => 213 | 47 => 208 | 48 => 209 | 49 => 214 | 50 => 215 | 57 => 217 | n => n, fun | 22 => 28 | 24 => 86 | 25 => 202 | 3 => 3 | 39 => 176 | 0 => 0 | 53 => 260 | 55 => 84 | 4 => 4 | 46 => 253 | 45 => 252 | 50 => 106 | 5 => 5 | 9 => 9 | 66 => 270 | 70 => 274 | 76 => 278 | 77 => 279 | n => n, fun | n => n⟩
theorem Tryz.sortC7 : Go.Proofs.SlLaysF0.n6 Tryz.prog Tryz.sortC7_ren := {
  mixed := by kernel_rfl
  f6 := ⟨Tryz.f127.name, by decide, Tryz.func127.trans (congrArg some (by kernel_rfl))⟩
  f14 := ⟨Tryz.f166.name, by decide, Tryz.func166.trans (congrArg some (by kernel_rfl))⟩
  f15 := Tryz.func163.trans (congrArg some (by kernel_rfl))
  f20 := ⟨Tryz.f197.name, by decide, Tryz.func197.trans (congrArg some (by kernel_rfl))⟩
  f21 := ⟨Tryz.f198.name, by decide, Tryz.func198.trans (congrArg some (by kernel_rfl))⟩
  f22 := ⟨Tryz.f199.name, by decide, Tryz.func199.trans (congrArg some (by kernel_rfl))⟩
  f23 := ⟨Tryz.f200.name, by decide, Tryz.func200.trans (congrArg some (by kernel_rfl))⟩
  f24 := ⟨Tryz.f201.name, by decide, Tryz.func201.trans (congrArg some (by kernel_rfl))⟩
  f25 := ⟨Tryz.f202.name, by decide, Tryz.func202.trans (congrArg some (by kernel_rfl))⟩
  f26 := ⟨Tryz.f203.name, by decide, Tryz.func203.trans (congrArg some (by kernel_rfl))⟩
  f27 := ⟨Tryz.f204.name, by decide, Tryz.func204.trans (congrArg some (by kernel_rfl))⟩
  f28 := Tryz.func194.trans (congrArg some (by kernel_rfl))
  f29 := Tryz.func195.trans (congrArg some (by kernel_rfl))
  f46 := ⟨Tryz.f213.name, by decide, Tryz.func213.trans (congrArg some (by kernel_rfl))⟩
  f47 := Tryz.func208.trans (congrArg some (by kernel_rfl))
  f48 := Tryz.func209.trans (congrArg some (by kernel_rfl))
  f49 := ⟨Tryz.f214.name, by decide, Tryz.func214.trans (congrArg some (by kernel_rfl))⟩
  f50 := ⟨Tryz.f215.name, by decide, Tryz.func215.trans (congrArg some (by kernel_rfl))⟩
  f57 := ⟨Tryz.f217.name, by decide, Tryz.func217.trans (congrArg some (by kernel_rfl))⟩
  t0 := Tryz.underlying0
  a0 := Tryz.isAgg0
  z0 := Tryz.sizeOf0
  v0 := Tryz.zeroValue0
  t3 := Tryz.underlying3
  a3 := Tryz.isAgg3
  z3 := Tryz.sizeOf3
  v3 := Tryz.zeroValue3
  t4 := Tryz.underlying4
  a4 := Tryz.isAgg4
  z4 := Tryz.sizeOf4
  v4 := Tryz.zeroValue4
  t5 := Tryz.underlying5
  a5 := Tryz.isAgg5
  z5 := Tryz.sizeOf5
  v5 := Tryz.zeroValue5
  t9 := Tryz.underlying9
  a9 := Tryz.isAgg9
  z9 := Tryz.sizeOf9
  v9 := Tryz.zeroValue9
  t22 := Tryz.underlying28
  a22 := Tryz.isAgg28
  z22 := Tryz.sizeOf28
  v22 := Tryz.zeroValue28
  t25 := Tryz.underlying202
  a25 := Tryz.isAgg202
  z25 := Tryz.sizeOf202
  v25 := Tryz.zeroValue202
  t39 := Tryz.underlying176
  a39 := Tryz.isAgg176
  z39 := Tryz.sizeOf176
  v39 := Tryz.zeroValue176
  t45 := Tryz.underlying252
  a45 := Tryz.isAgg252
  z45 := Tryz.sizeOf252
  v45 := Tryz.zeroValue252
  t46 := Tryz.underlying253
  a46 := Tryz.isAgg253
  z46 := Tryz.sizeOf253
  v46 := Tryz.zeroValue253
  t50 := Tryz.underlying106
  a50 := Tryz.isAgg106
  z50 := Tryz.sizeOf106
  v50 := Tryz.zeroValue106
  t53 := Tryz.underlying260
  a53 := Tryz.isAgg260
  z53 := Tryz.sizeOf260
  v53 := Tryz.zeroValue260
  t55 := Tryz.underlying84
  a55 := Tryz.isAgg84
  z55 := Tryz.sizeOf84
  v55 := Tryz.zeroValue84
  t66 := Tryz.underlying270
  a66 := Tryz.isAgg270
  z66 := Tryz.sizeOf270
  v66 := Tryz.zeroValue270
  t70 := Tryz.underlying274
  a70 := Tryz.isAgg274
  z70 := Tryz.sizeOf274
  v70 := Tryz.zeroValue274
  t76 := Tryz.underlying278
  a76 := Tryz.isAgg278
  z76 := Tryz.sizeOf278
  v76 := Tryz.zeroValue278
  t77 := Tryz.underlying279
  a77 := Tryz.isAgg279
  z77 := Tryz.sizeOf279
  v77 := Tryz.zeroValue279 }
end Go.Proofs
