/- The library's sort of a list of ints, by its contract on the shelf. -/
import Derived.Shelf.Sort.Plain
import Derived.Test.YtkpbpeajkfgfiaaChecked
namespace Go.Proofs.Ytkpbpeajkfgfiaa
open Go Go.Shelf Go.Sort Go.RowKit Go.Proofs
def sort_ren : Go.Shelf.Ren := ⟨fun | 125 => 82 | 128 => 109 | 129 => 110 | 189 => 74 | 215 => 123 | 216 => 106 | 257 => 81 | 294 => 100 | 295 => 101 | 296 => 102 | 297 => 103 | 298 => 104 | 299 => 105 | 300 => 107 | 301 => 108 | 328 => 118 | 329 => 119 | 330 => 120 | 331 => 121 | 332 => 122 | 343 => 125 | n => n, fun | 0 => 0 | 3 => 3 | 4 => 4 | 5 => 5 | 9 => 9 | 28 => 23 | 46 => 109 | 51 => 147 | 53 => 30 | 131 => 144 | 182 => 139 | 183 => 140 | 218 => 159 | 222 => 163 | 228 => 165 | 229 => 166 | n => n, fun n => n⟩
theorem sort_lays : Lays.n189 Try.prog sort_ren := {
  mixed := by kernel_rfl
  f125 := Try.func82.trans (congrArg some (by kernel_rfl))
  f128 := Try.func109.trans (congrArg some (by kernel_rfl))
  f129 := Try.func110.trans (congrArg some (by kernel_rfl))
  f189 := Try.func74.trans (congrArg some (by kernel_rfl))
  f215 := Try.func123.trans (congrArg some (by kernel_rfl))
  f216 := Try.func106.trans (congrArg some (by kernel_rfl))
  f257 := Try.func81.trans (congrArg some (by kernel_rfl))
  f294 := Try.func100.trans (congrArg some (by kernel_rfl))
  f295 := Try.func101.trans (congrArg some (by kernel_rfl))
  f296 := Try.func102.trans (congrArg some (by kernel_rfl))
  f297 := Try.func103.trans (congrArg some (by kernel_rfl))
  f298 := Try.func104.trans (congrArg some (by kernel_rfl))
  f299 := Try.func105.trans (congrArg some (by kernel_rfl))
  f300 := Try.func107.trans (congrArg some (by kernel_rfl))
  f301 := Try.func108.trans (congrArg some (by kernel_rfl))
  f328 := Try.func118.trans (congrArg some (by kernel_rfl))
  f329 := Try.func119.trans (congrArg some (by kernel_rfl))
  f330 := Try.func120.trans (congrArg some (by kernel_rfl))
  f331 := Try.func121.trans (congrArg some (by kernel_rfl))
  f332 := Try.func122.trans (congrArg some (by kernel_rfl))
  f343 := Try.func125.trans (congrArg some (by kernel_rfl))
  t0 := Try.underlying0
  a0 := Try.isAgg0
  z0 := Try.sizeOf0
  v0 := Try.zeroValue0
  t3 := Try.underlying3
  a3 := Try.isAgg3
  z3 := Try.sizeOf3
  v3 := Try.zeroValue3
  t4 := Try.underlying4
  a4 := Try.isAgg4
  z4 := Try.sizeOf4
  v4 := Try.zeroValue4
  t5 := Try.underlying5
  a5 := Try.isAgg5
  z5 := Try.sizeOf5
  v5 := Try.zeroValue5
  t9 := Try.underlying9
  a9 := Try.isAgg9
  z9 := Try.sizeOf9
  v9 := Try.zeroValue9
  t28 := Try.underlying23
  a28 := Try.isAgg23
  z28 := Try.sizeOf23
  v28 := Try.zeroValue23
  t46 := Try.underlying109
  a46 := Try.isAgg109
  z46 := Try.sizeOf109
  v46 := Try.zeroValue109
  t51 := Try.underlying147
  a51 := Try.isAgg147
  z51 := Try.sizeOf147
  v51 := Try.zeroValue147
  t53 := Try.underlying30
  a53 := Try.isAgg30
  z53 := Try.sizeOf30
  v53 := Try.zeroValue30
  t131 := Try.underlying144
  a131 := Try.isAgg144
  z131 := Try.sizeOf144
  v131 := Try.zeroValue144
  t182 := Try.underlying139
  a182 := Try.isAgg139
  z182 := Try.sizeOf139
  v182 := Try.zeroValue139
  t183 := Try.underlying140
  a183 := Try.isAgg140
  z183 := Try.sizeOf140
  v183 := Try.zeroValue140
  t218 := Try.underlying159
  a218 := Try.isAgg159
  z218 := Try.sizeOf159
  v218 := Try.zeroValue159
  t222 := Try.underlying163
  a222 := Try.isAgg163
  z222 := Try.sizeOf163
  v222 := Try.zeroValue163
  t228 := Try.underlying165
  a228 := Try.isAgg165
  z228 := Try.sizeOf165
  v228 := Try.zeroValue165
  t229 := Try.underlying166
  a229 := Try.isAgg166
  z229 := Try.sizeOf166
  v229 := Try.zeroValue166 }
theorem sort_ints (blk off cap : Nat) (zs : List Int) (w : World) (hH : Holds (Value.int .i64) w blk off zs.toArray) (hblk : blk < w.heap.size) (hsz : zs.length < 4611686018427387904) :
    Calls Try.prog 74 #[.slice (some ⟨blk, off, none⟩) zs.length cap] w fun e w' =>
      e = .returned (.tuple #[]) ∧ ∃ n os, w' = grow (putRow (Value.int .i64) (Sort.ahead w n) blk off (zs.mergeSort fun x y => decide (x ≤ y)).toArray) os :=
  Any.slices_Sort_int sort_lays blk off cap zs w hH hblk hsz
theorem bits_len (x : Int) (w : World) (h0 : 0 ≤ x) (h1 : x ≤ 18446744073709551615) : Calls Try.prog 82 #[.int .u64 x] w fun e w' => e = .returned (.int .i64 (Lib.bitLen x.toNat)) ∧ w' = w :=
  Go.calls_of_every_depth fun D => AnyS.bits_LenIn { sort_lays with } D x w h0 h1
end Go.Proofs.Ytkpbpeajkfgfiaa
