/- Several texts in one, in their build order: what the proofs of this seat share. -/
import Derived.Shelf.Small.Bits
import Derived.Shelf.Strconv.Itoa0
import Derived.Shelf.Sort.Plain
import Derived.Ground.Names2Prog
import Derived.Shelf.Slices.CompactI
import Derived.Shelf.Slices.In.SortNone
import Derived.Ground.SlsfProg
import Derived.Shelf.SlSortCmp.Insertion
import Derived.Shelf.SlSortCmp.SiftDown1
import Derived.Shelf.SlSortCmp.HeapSort1
import Derived.Shelf.SlSortCmp.Insertion1
import Derived.Shelf.SlSortCmp.Median1
import Derived.Shelf.SlSortCmp.Pivot1
import Derived.Shelf.SlSortCmp.ReverseRange1
import Derived.Shelf.SlSortCmp.PartialInsertion1
import Derived.Shelf.SlSortCmp.PartitionEqual1
import Derived.Shelf.SlSortCmp.Partition1
import Derived.Shelf.SlSortCmp.Pdq1
import Derived.Shelf.SlSortCmp.Whole1
import Derived.Shelf.SlSortCmp.NoneTotal
import Derived.Test.YtnakhfmnchmhjaaGreatProg
import Derived.Test.YtnakhfmnchmhjaaGreatPk2
import Derived.Maps.RangeRun
import Derived.Test.YtnakhfmnchmhjaaGreatPk1
set_option linter.unusedVariables false
set_option linter.unusedSimpArgs false
set_option linter.unusedSectionVars false
/- The contracts of Go's library that the kit lays at this seat. Written by the kit's program (lay-shelf, lay-plain). -/
namespace Go.Proofs.YtnakhfmnchmhjaaGreat
open Go.Shelf
def Tryz.lays128_ren : Go.Shelf.Ren := ⟨fun | 128 => 340 | n => n, fun | 51 => 412 | 3 => 3 | 4 => 4 | 46 => 288 | 5 => 5 | 9 => 9 | n => n, fun | n => n⟩
theorem Tryz.lays128 : Go.Proofs.Lays.n128 Tryz.prog Tryz.lays128_ren := {
  mixed := by kernel_rfl
  f128 := Tryz.func340.trans (congrArg some (by kernel_rfl))
  t3 := Tryz.underlying3
  a3 := Tryz.isAgg3
  z3 := Tryz.sizeOf3
  v3 := Tryz.zeroValue3
  t4 := Tryz.underlying4
  a4 := Tryz.isAgg4
  z4 := Tryz.sizeOf4
  v4 := Tryz.zeroValue4
  t5 := Tryz.underlying5
  a5 := Tryz.isAgg5
  z5 := Tryz.sizeOf5
  v5 := Tryz.zeroValue5
  t9 := Tryz.underlying9
  a9 := Tryz.isAgg9
  z9 := Tryz.sizeOf9
  v9 := Tryz.zeroValue9
  t46 := Tryz.underlying288
  a46 := Tryz.isAgg288
  z46 := Tryz.sizeOf288
  v46 := Tryz.zeroValue288
  t51 := Tryz.underlying412
  a51 := Tryz.isAgg412
  z51 := Tryz.sizeOf412
  v51 := Tryz.zeroValue412 }

theorem Tryz.bits_Len32 (x : Int) (w : World) (h0 : 0 ≤ x) (h1 : x ≤ 4294967295) :
    Calls Tryz.prog 340 #[.int .u32 x] w fun e w' => e = .returned (.int .i64 (Lib.bitLen x.toNat)) ∧ w' = w := Any.bits_Len32 Tryz.lays128 x w h0 h1
def Tryz.lays125_ren : Go.Shelf.Ren := ⟨fun | 125 => 276 | 128 => 340 | 129 => 198 | n => n, fun | 46 => 288 | 3 => 3 | 51 => 412 | 53 => 203 | 4 => 4 | 5 => 5 | 9 => 9 | n => n, fun | n => n⟩
theorem Tryz.lays125 : Go.Proofs.Lays.n125 Tryz.prog Tryz.lays125_ren := {
  mixed := by kernel_rfl
  f125 := Tryz.func276.trans (congrArg some (by kernel_rfl))
  f128 := Tryz.func340.trans (congrArg some (by kernel_rfl))
  f129 := Tryz.func198.trans (congrArg some (by kernel_rfl))
  t3 := Tryz.underlying3
  a3 := Tryz.isAgg3
  z3 := Tryz.sizeOf3
  v3 := Tryz.zeroValue3
  t4 := Tryz.underlying4
  a4 := Tryz.isAgg4
  z4 := Tryz.sizeOf4
  v4 := Tryz.zeroValue4
  t5 := Tryz.underlying5
  a5 := Tryz.isAgg5
  z5 := Tryz.sizeOf5
  v5 := Tryz.zeroValue5
  t9 := Tryz.underlying9
  a9 := Tryz.isAgg9
  z9 := Tryz.sizeOf9
  v9 := Tryz.zeroValue9
  t46 := Tryz.underlying288
  a46 := Tryz.isAgg288
  z46 := Tryz.sizeOf288
  v46 := Tryz.zeroValue288
  t51 := Tryz.underlying412
  a51 := Tryz.isAgg412
  z51 := Tryz.sizeOf412
  v51 := Tryz.zeroValue412
  t53 := Tryz.underlying203
  a53 := Tryz.isAgg203
  z53 := Tryz.sizeOf203
  v53 := Tryz.zeroValue203 }

theorem Tryz.bits_Len (x : Int) (w : World) (h0 : 0 ≤ x) (h1 : x ≤ 18446744073709551615) :
    Calls Tryz.prog 276 #[.int .u64 x] w fun e w' => e = .returned (.int .i64 (Lib.bitLen x.toNat)) ∧ w' = w := Any.bits_Len Tryz.lays125 x w h0 h1
def Tryz.lays129_ren : Go.Shelf.Ren := ⟨fun | 129 => 198 | n => n, fun | 53 => 203 | 3 => 3 | 4 => 4 | 46 => 288 | 5 => 5 | 9 => 9 | n => n, fun | n => n⟩
theorem Tryz.lays129 : Go.Proofs.Lays.n129 Tryz.prog Tryz.lays129_ren := {
  mixed := by kernel_rfl
  f129 := Tryz.func198.trans (congrArg some (by kernel_rfl))
  t3 := Tryz.underlying3
  a3 := Tryz.isAgg3
  z3 := Tryz.sizeOf3
  v3 := Tryz.zeroValue3
  t4 := Tryz.underlying4
  a4 := Tryz.isAgg4
  z4 := Tryz.sizeOf4
  v4 := Tryz.zeroValue4
  t5 := Tryz.underlying5
  a5 := Tryz.isAgg5
  z5 := Tryz.sizeOf5
  v5 := Tryz.zeroValue5
  t9 := Tryz.underlying9
  a9 := Tryz.isAgg9
  z9 := Tryz.sizeOf9
  v9 := Tryz.zeroValue9
  t46 := Tryz.underlying288
  a46 := Tryz.isAgg288
  z46 := Tryz.sizeOf288
  v46 := Tryz.zeroValue288
  t53 := Tryz.underlying203
  a53 := Tryz.isAgg203
  z53 := Tryz.sizeOf203
  v53 := Tryz.zeroValue203 }

theorem Tryz.bits_Len64 (x : Int) (w : World) (h0 : 0 ≤ x) (h1 : x ≤ 18446744073709551615) :
    Calls Tryz.prog 198 #[.int .u64 x] w fun e w' => e = .returned (.int .i64 (Lib.bitLen x.toNat)) ∧ w' = w := Any.bits_Len64 Tryz.lays129 x w h0 h1
def Tryz.lays189_ren : Go.Shelf.Ren := ⟨fun | 189 => 189 | 125 => 276 | 257 => 275 | 128 => 340 | 129 => 198 | 294 => 331 | 295 => 332 | 296 => 333 | 297 => 334 | 298 => 335 | 299 => 336 | 216 => 337 | 300 => 338 | 301 => 339 | 328 => 368 | 329 => 369 | 330 => 370 | 331 => 371 | 332 => 372 | 215 => 373 | 343 => 389 | n => n, fun | 28 => 22 | 3 => 3 | 46 => 288 | 0 => 0 | 51 => 412 | 53 => 203 | 4 => 4 | 183 => 406 | 182 => 405 | 131 => 233 | 5 => 5 | 9 => 9 | 218 => 448 | 222 => 156 | 228 => 460 | 229 => 136 | n => n, fun | n => n⟩
theorem Tryz.lays189 : Go.Proofs.Lays.n189 Tryz.prog Tryz.lays189_ren := {
  mixed := by kernel_rfl
  f125 := Tryz.func276.trans (congrArg some (by kernel_rfl))
  f128 := Tryz.func340.trans (congrArg some (by kernel_rfl))
  f129 := Tryz.func198.trans (congrArg some (by kernel_rfl))
  f189 := Tryz.func189.trans (congrArg some (by kernel_rfl))
  f215 := Tryz.func373.trans (congrArg some (by kernel_rfl))
  f216 := Tryz.func337.trans (congrArg some (by kernel_rfl))
  f257 := Tryz.func275.trans (congrArg some (by kernel_rfl))
  f294 := Tryz.func331.trans (congrArg some (by kernel_rfl))
  f295 := Tryz.func332.trans (congrArg some (by kernel_rfl))
  f296 := Tryz.func333.trans (congrArg some (by kernel_rfl))
  f297 := Tryz.func334.trans (congrArg some (by kernel_rfl))
  f298 := Tryz.func335.trans (congrArg some (by kernel_rfl))
  f299 := Tryz.func336.trans (congrArg some (by kernel_rfl))
  f300 := Tryz.func338.trans (congrArg some (by kernel_rfl))
  f301 := Tryz.func339.trans (congrArg some (by kernel_rfl))
  f328 := Tryz.func368.trans (congrArg some (by kernel_rfl))
  f329 := Tryz.func369.trans (congrArg some (by kernel_rfl))
  f330 := Tryz.func370.trans (congrArg some (by kernel_rfl))
  f331 := Tryz.func371.trans (congrArg some (by kernel_rfl))
  f332 := Tryz.func372.trans (congrArg some (by kernel_rfl))
  f343 := Tryz.func389.trans (congrArg some (by kernel_rfl))
  t0 := Tryz.underlying0
  a0 := Tryz.isAgg0
  z0 := Tryz.sizeOf0
  v0 := Tryz.zeroValue0
  t3 := Tryz.underlying3
  a3 := Tryz.isAgg3
  z3 := Tryz.sizeOf3
  v3 := Tryz.zeroValue3
  t4 := Tryz.underlying4
  a4 := Tryz.isAgg4
  z4 := Tryz.sizeOf4
  v4 := Tryz.zeroValue4
  t5 := Tryz.underlying5
  a5 := Tryz.isAgg5
  z5 := Tryz.sizeOf5
  v5 := Tryz.zeroValue5
  t9 := Tryz.underlying9
  a9 := Tryz.isAgg9
  z9 := Tryz.sizeOf9
  v9 := Tryz.zeroValue9
  t28 := Tryz.underlying22
  a28 := Tryz.isAgg22
  z28 := Tryz.sizeOf22
  v28 := Tryz.zeroValue22
  t46 := Tryz.underlying288
  a46 := Tryz.isAgg288
  z46 := Tryz.sizeOf288
  v46 := Tryz.zeroValue288
  t51 := Tryz.underlying412
  a51 := Tryz.isAgg412
  z51 := Tryz.sizeOf412
  v51 := Tryz.zeroValue412
  t53 := Tryz.underlying203
  a53 := Tryz.isAgg203
  z53 := Tryz.sizeOf203
  v53 := Tryz.zeroValue203
  t131 := Tryz.underlying233
  a131 := Tryz.isAgg233
  z131 := Tryz.sizeOf233
  v131 := Tryz.zeroValue233
  t182 := Tryz.underlying405
  a182 := Tryz.isAgg405
  z182 := Tryz.sizeOf405
  v182 := Tryz.zeroValue405
  t183 := Tryz.underlying406
  a183 := Tryz.isAgg406
  z183 := Tryz.sizeOf406
  v183 := Tryz.zeroValue406
  t218 := Tryz.underlying448
  a218 := Tryz.isAgg448
  z218 := Tryz.sizeOf448
  v218 := Tryz.zeroValue448
  t222 := Tryz.underlying156
  a222 := Tryz.isAgg156
  z222 := Tryz.sizeOf156
  v222 := Tryz.zeroValue156
  t228 := Tryz.underlying460
  a228 := Tryz.isAgg460
  z228 := Tryz.sizeOf460
  v228 := Tryz.zeroValue460
  t229 := Tryz.underlying136
  a229 := Tryz.isAgg136
  z229 := Tryz.sizeOf136
  v229 := Tryz.zeroValue136 }
open Go.Sort Go.RowKit in
theorem Tryz.slices_Sort_int (blk off cap : Nat) (zs : List Int) (w : World) (hH : Holds (Value.int .i64) w blk off zs.toArray) (hblk : blk < w.heap.size) (hsz : zs.length < 4611686018427387904) :
    Calls Tryz.prog 189 #[.slice (some ⟨blk, off, none⟩) zs.length cap] w fun e w' =>
      e = .returned (.tuple #[]) ∧ ∃ n os, w' = grow (putRow (Value.int .i64) (Sort.ahead w n) blk off (zs.mergeSort fun x y => decide (x ≤ y)).toArray) os := Any.slices_Sort_int Tryz.lays189 blk off cap zs w hH hblk hsz
def Tryz.lays190_ren : Go.Shelf.Ren := ⟨fun | 190 => 436 | 125 => 276 | 258 => 439 | 128 => 340 | 129 => 198 | 302 => 440 | 303 => 441 | 304 => 442 | 305 => 443 | 306 => 444 | 307 => 445 | 308 => 446 | 309 => 447 | 310 => 448 | 333 => 449 | 329 => 369 | 330 => 370 | 334 => 450 | 335 => 451 | 336 => 452 | 344 => 453 | n => n, fun | 31 => 191 | 9 => 9 | 3 => 3 | 46 => 288 | 0 => 0 | 51 => 412 | 53 => 203 | 4 => 4 | 183 => 406 | 182 => 405 | 131 => 233 | 5 => 5 | 218 => 448 | 222 => 156 | 228 => 460 | 229 => 136 | n => n, fun | n => n⟩
theorem Tryz.lays190 : Go.Proofs.Lays.n190 Tryz.prog Tryz.lays190_ren := {
  mixed := by kernel_rfl
  f125 := Tryz.func276.trans (congrArg some (by kernel_rfl))
  f128 := Tryz.func340.trans (congrArg some (by kernel_rfl))
  f129 := Tryz.func198.trans (congrArg some (by kernel_rfl))
  f190 := Tryz.func436.trans (congrArg some (by kernel_rfl))
  f258 := Tryz.func439.trans (congrArg some (by kernel_rfl))
  f302 := Tryz.func440.trans (congrArg some (by kernel_rfl))
  f303 := Tryz.func441.trans (congrArg some (by kernel_rfl))
  f304 := Tryz.func442.trans (congrArg some (by kernel_rfl))
  f305 := Tryz.func443.trans (congrArg some (by kernel_rfl))
  f306 := Tryz.func444.trans (congrArg some (by kernel_rfl))
  f307 := Tryz.func445.trans (congrArg some (by kernel_rfl))
  f308 := Tryz.func446.trans (congrArg some (by kernel_rfl))
  f309 := Tryz.func447.trans (congrArg some (by kernel_rfl))
  f310 := Tryz.func448.trans (congrArg some (by kernel_rfl))
  f329 := Tryz.func369.trans (congrArg some (by kernel_rfl))
  f330 := Tryz.func370.trans (congrArg some (by kernel_rfl))
  f333 := Tryz.func449.trans (congrArg some (by kernel_rfl))
  f334 := Tryz.func450.trans (congrArg some (by kernel_rfl))
  f335 := Tryz.func451.trans (congrArg some (by kernel_rfl))
  f336 := Tryz.func452.trans (congrArg some (by kernel_rfl))
  f344 := Tryz.func453.trans (congrArg some (by kernel_rfl))
  t0 := Tryz.underlying0
  a0 := Tryz.isAgg0
  z0 := Tryz.sizeOf0
  v0 := Tryz.zeroValue0
  t3 := Tryz.underlying3
  a3 := Tryz.isAgg3
  z3 := Tryz.sizeOf3
  v3 := Tryz.zeroValue3
  t4 := Tryz.underlying4
  a4 := Tryz.isAgg4
  z4 := Tryz.sizeOf4
  v4 := Tryz.zeroValue4
  t5 := Tryz.underlying5
  a5 := Tryz.isAgg5
  z5 := Tryz.sizeOf5
  v5 := Tryz.zeroValue5
  t9 := Tryz.underlying9
  a9 := Tryz.isAgg9
  z9 := Tryz.sizeOf9
  v9 := Tryz.zeroValue9
  t31 := Tryz.underlying191
  a31 := Tryz.isAgg191
  z31 := Tryz.sizeOf191
  v31 := Tryz.zeroValue191
  t46 := Tryz.underlying288
  a46 := Tryz.isAgg288
  z46 := Tryz.sizeOf288
  v46 := Tryz.zeroValue288
  t51 := Tryz.underlying412
  a51 := Tryz.isAgg412
  z51 := Tryz.sizeOf412
  v51 := Tryz.zeroValue412
  t53 := Tryz.underlying203
  a53 := Tryz.isAgg203
  z53 := Tryz.sizeOf203
  v53 := Tryz.zeroValue203
  t131 := Tryz.underlying233
  a131 := Tryz.isAgg233
  z131 := Tryz.sizeOf233
  v131 := Tryz.zeroValue233
  t182 := Tryz.underlying405
  a182 := Tryz.isAgg405
  z182 := Tryz.sizeOf405
  v182 := Tryz.zeroValue405
  t183 := Tryz.underlying406
  a183 := Tryz.isAgg406
  z183 := Tryz.sizeOf406
  v183 := Tryz.zeroValue406
  t218 := Tryz.underlying448
  a218 := Tryz.isAgg448
  z218 := Tryz.sizeOf448
  v218 := Tryz.zeroValue448
  t222 := Tryz.underlying156
  a222 := Tryz.isAgg156
  z222 := Tryz.sizeOf156
  v222 := Tryz.zeroValue156
  t228 := Tryz.underlying460
  a228 := Tryz.isAgg460
  z228 := Tryz.sizeOf460
  v228 := Tryz.zeroValue460
  t229 := Tryz.underlying136
  a229 := Tryz.isAgg136
  z229 := Tryz.sizeOf136
  v229 := Tryz.zeroValue136 }
open Go.Sort Go.RowKit in
theorem Tryz.slices_Sort_string (blk off cap : Nat) (ss : List (List UInt8)) (w : World) (hH : Holds encStr w blk off ss.toArray) (hblk : blk < w.heap.size) (hsz : ss.length < 4611686018427387904) :
    Calls Tryz.prog 436 #[.slice (some ⟨blk, off, none⟩) ss.length cap] w fun e w' =>
      e = .returned (.tuple #[]) ∧ ∃ n os, w' = grow (putRow encStr (Sort.ahead w n) blk off (ss.mergeSort fun x y => decide (x ≤ y)).toArray) os := Any.slices_Sort_string Tryz.lays190 blk off cap ss w hH hblk hsz
def Tryz.laysNm220_ren : Go.Shelf.Ren := ⟨fun | 20 => 194 | n => n, fun | 22 => 22 | 3 => 3 | 4 => 4 | 0 => 0 | n => n, fun | n => n⟩
theorem Tryz.laysNm220 : Go.Proofs.Lays2.n20 Tryz.prog Tryz.laysNm220_ren := {
  mixed := by kernel_rfl
  f20 := Tryz.func194.trans (congrArg some (by kernel_rfl))
  t0 := Tryz.underlying0
  a0 := Tryz.isAgg0
  z0 := Tryz.sizeOf0
  v0 := Tryz.zeroValue0
  t3 := Tryz.underlying3
  a3 := Tryz.isAgg3
  z3 := Tryz.sizeOf3
  v3 := Tryz.zeroValue3
  t4 := Tryz.underlying4
  a4 := Tryz.isAgg4
  z4 := Tryz.sizeOf4
  v4 := Tryz.zeroValue4
  t22 := Tryz.underlying22
  a22 := Tryz.isAgg22
  z22 := Tryz.sizeOf22
  v22 := Tryz.zeroValue22
  i3 := by kernel_rfl }
open Go.RowKit Go.Lib Go.Sort in

theorem Tryz.slices_Compact_int_arr (blk off cap : Nat) (d : Array Int) (w : World) (hH : Holds encI w blk off d) (hsz : d.size ≤ 9223372036854775807) (hcap : d.size ≤ cap) :
    Calls Tryz.prog 194 #[.slice (some ⟨blk, off, none⟩) d.size cap] w fun e w' => e = .returned (.slice (some ⟨blk, off, none⟩) (compactUpTo d d.size).length cap) ∧ ∃ q, w' = putRow encI (Sort.ahead w q) blk off (compactUpTo d d.size ++ List.replicate (d.size - (compactUpTo d d.size).length) 0).toArray := Any.slices_Compact_int_arr Tryz.laysNm220 blk off cap d w hH hsz hcap
open Go.RowKit Go.Lib Go.Sort in

theorem Tryz.slices_Compact_int (blk off cap : Nat) (zs : List Int) (w : World) (hH : Holds (Value.int .i64) w blk off zs.toArray) (hsz : zs.length ≤ 9223372036854775807) (hcap : zs.length ≤ cap) :
    Calls Tryz.prog 194 #[.slice (some ⟨blk, off, none⟩) zs.length cap] w fun e w' => e = .returned (.slice (some ⟨blk, off, none⟩) (Lib.compact zs).length cap) ∧ ∃ q, w' = putRow (Value.int .i64) (Sort.ahead w q) blk off (Lib.compact zs ++ List.replicate (zs.length - (Lib.compact zs).length) 0).toArray := Any.slices_Compact_int Tryz.laysNm220 blk off cap zs w hH hsz hcap
open Go.RowKit Go.Lib Go.Sort in

theorem Tryz.slices_Compact_int_empty (a : Option Addr) (cap : Nat) (w : World) :
    Calls Tryz.prog 194 #[.slice a 0 cap] w fun e w' => e = .returned (.slice a 0 cap) ∧ w' = w := Any.slices_Compact_int_empty Tryz.laysNm220 a cap w
open Go.RowKit Go.Sort in

theorem Tryz.slices_Sort_string_none (p : Option Addr) (cap : Nat) (w : World) :
    Calls Tryz.prog 436 #[.slice p 0 cap] w fun e w' => e = .returned (.tuple #[]) ∧ w' = w := Any.slices_Sort_string_none Tryz.lays190 p cap w
open Go.RowKit Go.Sort in

theorem Tryz.slices_Sort_int_none (p : Option Addr) (cap : Nat) (w : World) :
    Calls Tryz.prog 189 #[.slice p 0 cap] w fun e w' => e = .returned (.tuple #[]) ∧ w' = w := Any.slices_Sort_int_none Tryz.lays189 p cap w
def Tryz.laysSlF20_f393_ren : Go.Shelf.Ren := ⟨fun | 20 => 393 | n => n, fun | 24 => 3 | 22 => 22 | 3 => 3 | 25 => 456 | 4 => 4 | 0 => 0 | n => n, fun | n => n⟩
theorem Tryz.laysSlF20_f393 : Go.Proofs.SlLaysF.n20 Tryz.prog Tryz.laysSlF20_f393_ren := {
  mixed := by kernel_rfl
  f20 := ⟨Tryz.f393.name, by decide, Tryz.func393.trans (congrArg some (by kernel_rfl))⟩
  t0 := Tryz.underlying0
  a0 := Tryz.isAgg0
  z0 := Tryz.sizeOf0
  v0 := Tryz.zeroValue0
  t3 := Tryz.underlying3
  a3 := Tryz.isAgg3
  z3 := Tryz.sizeOf3
  v3 := Tryz.zeroValue3
  t4 := Tryz.underlying4
  a4 := Tryz.isAgg4
  z4 := Tryz.sizeOf4
  v4 := Tryz.zeroValue4
  t22 := Tryz.underlying22
  a22 := Tryz.isAgg22
  z22 := Tryz.sizeOf22
  v22 := Tryz.zeroValue22
  a24 := Tryz.isAgg3
  z24 := Tryz.sizeOf3
  t25 := Tryz.underlying456
  a25 := Tryz.isAgg456
  z25 := Tryz.sizeOf456
  v25 := Tryz.zeroValue456 }
open Go.RowKit Go.Lib Go.Sort in
theorem Tryz.insertionSortCmpFunc_one {α : Type} [Inhabited α] (enc : α → Value) (hO : OneCell enc) (cf : α → α → Int) (g : Nat) (cb : Array Value) (blk off cap a b : Nat) (d : Array α) (w : World) (eg : ∀ args w, (callFunc g args).run Tryz.prog w = .ok (.enter g args) w) (hcmp : CmpReads Tryz.prog g cb enc cf blk off d.size w) (hH : Holds enc w blk off d) (hab : a ≤ b) (hb : b ≤ d.size) (hsz : d.size < 4611686018427387904) :
    Calls Tryz.prog 393 #[.slice (some ⟨blk, off, none⟩) d.size cap, .int .i64 a, .int .i64 b, .func (.func g) #[] cb] w fun e w' =>
      e = .returned (.tuple #[]) ∧ ∃ n, w' = (putRow enc w blk off (Sort.insertionSort (ltOf cf) d a b)).drewN n := Any.insertionSortCmpFunc_one Tryz.laysSlF20_f393 enc hO cf g cb blk off cap a b d w eg hcmp hH hab hb hsz
def Tryz.laysSlF46_f401_ren : Go.Shelf.Ren := ⟨fun | 46 => 401 | n => n, fun | 24 => 3 | 22 => 22 | 3 => 3 | 25 => 456 | 4 => 4 | 0 => 0 | n => n, fun | n => n⟩
theorem Tryz.laysSlF46_f401 : Go.Proofs.SlLaysF.n46 Tryz.prog Tryz.laysSlF46_f401_ren := {
  mixed := by kernel_rfl
  f46 := ⟨Tryz.f401.name, by decide, Tryz.func401.trans (congrArg some (by kernel_rfl))⟩
  t0 := Tryz.underlying0
  a0 := Tryz.isAgg0
  z0 := Tryz.sizeOf0
  v0 := Tryz.zeroValue0
  t3 := Tryz.underlying3
  a3 := Tryz.isAgg3
  z3 := Tryz.sizeOf3
  v3 := Tryz.zeroValue3
  t4 := Tryz.underlying4
  a4 := Tryz.isAgg4
  z4 := Tryz.sizeOf4
  v4 := Tryz.zeroValue4
  t22 := Tryz.underlying22
  a22 := Tryz.isAgg22
  z22 := Tryz.sizeOf22
  v22 := Tryz.zeroValue22
  a24 := Tryz.isAgg3
  z24 := Tryz.sizeOf3
  t25 := Tryz.underlying456
  a25 := Tryz.isAgg456
  z25 := Tryz.sizeOf456
  v25 := Tryz.zeroValue456 }
open Go.RowKit Go.Lib Go.Sort in

theorem Tryz.siftDownCmpFunc {α : Type} [Inhabited α] (enc : α → Value) (cf : α → α → Int) (g : Nat) (cb : Array Value) (blk off cap lo hi first : Nat) (d0 d : Array α) (w0 w : World) (eg : ∀ args w, (callFunc g args).run Tryz.prog w = .ok (.enter g args) w) (hcmp : CmpLays1 Tryz.prog g cb enc cf blk off d0.size w0) (R : Row1 enc w0 blk off d0) (hs : d0.size = d.size) (S : SW enc w0 blk off d w) (hlo : lo ≤ hi) (hb : first + hi ≤ d.size) (hsz : d.size < 4611686018427387904) :
    Calls Tryz.prog 401 #[.slice (some ⟨blk, off, none⟩) d.size cap, .int .i64 lo, .int .i64 hi, .int .i64 first, .func (.func g) #[] cb] w fun e w' =>
      e = .returned (.tuple #[]) ∧ SW enc w0 blk off (siftDown (ltOf cf) hi first lo d) w' := Any.siftDownCmpFunc Tryz.laysSlF46_f401 enc cf g cb blk off cap lo hi first d0 d w0 w eg hcmp R hs S hlo hb hsz
def Tryz.laysSlF21_f394_ren : Go.Shelf.Ren := ⟨fun | 21 => 394 | 46 => 401 | n => n, fun | 24 => 3 | 22 => 22 | 3 => 3 | 25 => 456 | 4 => 4 | 0 => 0 | n => n, fun | n => n⟩
theorem Tryz.laysSlF21_f394 : Go.Proofs.SlLaysF.n21 Tryz.prog Tryz.laysSlF21_f394_ren := {
  mixed := by kernel_rfl
  f21 := ⟨Tryz.f394.name, by decide, Tryz.func394.trans (congrArg some (by kernel_rfl))⟩
  f46 := ⟨Tryz.f401.name, by decide, Tryz.func401.trans (congrArg some (by kernel_rfl))⟩
  t0 := Tryz.underlying0
  a0 := Tryz.isAgg0
  z0 := Tryz.sizeOf0
  v0 := Tryz.zeroValue0
  t3 := Tryz.underlying3
  a3 := Tryz.isAgg3
  z3 := Tryz.sizeOf3
  v3 := Tryz.zeroValue3
  t4 := Tryz.underlying4
  a4 := Tryz.isAgg4
  z4 := Tryz.sizeOf4
  v4 := Tryz.zeroValue4
  t22 := Tryz.underlying22
  a22 := Tryz.isAgg22
  z22 := Tryz.sizeOf22
  v22 := Tryz.zeroValue22
  a24 := Tryz.isAgg3
  z24 := Tryz.sizeOf3
  t25 := Tryz.underlying456
  a25 := Tryz.isAgg456
  z25 := Tryz.sizeOf456
  v25 := Tryz.zeroValue456 }
open Go.RowKit Go.Lib Go.Sort in

theorem Tryz.heapSortCmpFunc {α : Type} [Inhabited α] (enc : α → Value) (cf : α → α → Int) (g : Nat) (cb : Array Value) (blk off cap a b : Nat) (d0 d : Array α) (w0 w : World) (eg : ∀ args w, (callFunc g args).run Tryz.prog w = .ok (.enter g args) w) (hcmp : CmpLays1 Tryz.prog g cb enc cf blk off d0.size w0) (R : Row1 enc w0 blk off d0) (hs : d0.size = d.size) (S : SW enc w0 blk off d w) (hab : a ≤ b) (hb : b ≤ d.size) (hsz : d.size < 4611686018427387904) :
    Calls Tryz.prog 394 #[.slice (some ⟨blk, off, none⟩) d.size cap, .int .i64 a, .int .i64 b, .func (.func g) #[] cb] w fun e w' =>
      e = .returned (.tuple #[]) ∧ SW enc w0 blk off (heapSort (ltOf cf) d a b) w' := Any.heapSortCmpFunc Tryz.laysSlF21_f394 enc cf g cb blk off cap a b d0 d w0 w eg hcmp R hs S hab hb hsz
open Go.RowKit Go.Lib Go.Sort in

theorem Tryz.insertionSortCmpFunc_s {α : Type} [Inhabited α] (enc : α → Value) (cf : α → α → Int) (g : Nat) (cb : Array Value) (blk off cap a b : Nat) (d0 d : Array α) (w0 w : World) (eg : ∀ args w, (callFunc g args).run Tryz.prog w = .ok (.enter g args) w) (hcmp : CmpLays1 Tryz.prog g cb enc cf blk off d0.size w0) (R : Row1 enc w0 blk off d0) (hs : d0.size = d.size) (S : SW enc w0 blk off d w) (hab : a ≤ b) (hb : b ≤ d.size) (hsz : d.size < 4611686018427387904) :
    Calls Tryz.prog 393 #[.slice (some ⟨blk, off, none⟩) d.size cap, .int .i64 a, .int .i64 b, .func (.func g) #[] cb] w fun e w' => e = .returned (.tuple #[]) ∧ SW enc w0 blk off (Sort.insertionSort (ltOf cf) d a b) w' := Any.insertionSortCmpFunc_s Tryz.laysSlF20_f393 enc cf g cb blk off cap a b d0 d w0 w eg hcmp R hs S hab hb hsz
def Tryz.laysSlF57_f404_ren : Go.Shelf.Ren := ⟨fun | 57 => 404 | n => n, fun | 24 => 3 | 22 => 22 | 3 => 3 | 70 => 156 | 25 => 456 | 0 => 0 | 4 => 4 | n => n, fun | n => n⟩
theorem Tryz.laysSlF57_f404 : Go.Proofs.SlLaysF.n57 Tryz.prog Tryz.laysSlF57_f404_ren := {
  mixed := by kernel_rfl
  f57 := ⟨Tryz.f404.name, by decide, Tryz.func404.trans (congrArg some (by kernel_rfl))⟩
  t0 := Tryz.underlying0
  a0 := Tryz.isAgg0
  z0 := Tryz.sizeOf0
  v0 := Tryz.zeroValue0
  t3 := Tryz.underlying3
  a3 := Tryz.isAgg3
  z3 := Tryz.sizeOf3
  v3 := Tryz.zeroValue3
  t4 := Tryz.underlying4
  a4 := Tryz.isAgg4
  z4 := Tryz.sizeOf4
  v4 := Tryz.zeroValue4
  t22 := Tryz.underlying22
  a22 := Tryz.isAgg22
  z22 := Tryz.sizeOf22
  v22 := Tryz.zeroValue22
  a24 := Tryz.isAgg3
  z24 := Tryz.sizeOf3
  t25 := Tryz.underlying456
  a25 := Tryz.isAgg456
  z25 := Tryz.sizeOf456
  v25 := Tryz.zeroValue456
  t70 := Tryz.underlying156
  a70 := Tryz.isAgg156
  z70 := Tryz.sizeOf156
  v70 := Tryz.zeroValue156 }
open Go.RowKit Go.Lib Go.Sort in

theorem Tryz.order2CmpFunc {α : Type} [Inhabited α] (enc : α → Value) (cf : α → α → Int) (g : Nat) (cb : Array Value) (blk off cap a b c s : Nat) (d0 d : Array α) (w0 W : World) (eg : ∀ args w, (callFunc g args).run Tryz.prog w = .ok (.enter g args) w) (hcmp : CmpLays1 Tryz.prog g cb enc cf blk off d0.size w0) (R : Row1 enc w0 blk off d0) (hs : d0.size = d.size) (C : Cnt1 enc w0 blk off d c s W) (ha : a < d.size) (hb : b < d.size) (hsz : d.size < 4611686018427387904) (hss : s < 4611686018427387904) :
    Calls Tryz.prog 404 #[.slice (some ⟨blk, off, none⟩) d.size cap, .int .i64 a, .int .i64 b, .pointer (some ⟨c, 0, none⟩), .func (.func g) #[] cb] W fun e w' =>
      e = .returned (.tuple #[.int .i64 (order2 (ltOf cf) d a b s).1, .int .i64 (order2 (ltOf cf) d a b s).2.1]) ∧ Cnt1 enc w0 blk off d c (order2 (ltOf cf) d a b s).2.2 w' := Any.order2CmpFunc Tryz.laysSlF57_f404 enc cf g cb blk off cap a b c s d0 d w0 W eg hcmp R hs C ha hb hsz hss
def Tryz.laysSlF50_f403_ren : Go.Shelf.Ren := ⟨fun | 50 => 403 | 57 => 404 | n => n, fun | 24 => 3 | 22 => 22 | 3 => 3 | 70 => 156 | 25 => 456 | 77 => 136 | 0 => 0 | 4 => 4 | n => n, fun | n => n⟩
theorem Tryz.laysSlF50_f403 : Go.Proofs.SlLaysF.n50 Tryz.prog Tryz.laysSlF50_f403_ren := {
  mixed := by kernel_rfl
  f50 := ⟨Tryz.f403.name, by decide, Tryz.func403.trans (congrArg some (by kernel_rfl))⟩
  f57 := ⟨Tryz.f404.name, by decide, Tryz.func404.trans (congrArg some (by kernel_rfl))⟩
  t0 := Tryz.underlying0
  a0 := Tryz.isAgg0
  z0 := Tryz.sizeOf0
  v0 := Tryz.zeroValue0
  t3 := Tryz.underlying3
  a3 := Tryz.isAgg3
  z3 := Tryz.sizeOf3
  v3 := Tryz.zeroValue3
  t4 := Tryz.underlying4
  a4 := Tryz.isAgg4
  z4 := Tryz.sizeOf4
  v4 := Tryz.zeroValue4
  t22 := Tryz.underlying22
  a22 := Tryz.isAgg22
  z22 := Tryz.sizeOf22
  v22 := Tryz.zeroValue22
  a24 := Tryz.isAgg3
  z24 := Tryz.sizeOf3
  t25 := Tryz.underlying456
  a25 := Tryz.isAgg456
  z25 := Tryz.sizeOf456
  v25 := Tryz.zeroValue456
  t70 := Tryz.underlying156
  a70 := Tryz.isAgg156
  z70 := Tryz.sizeOf156
  v70 := Tryz.zeroValue156
  t77 := Tryz.underlying136
  a77 := Tryz.isAgg136
  z77 := Tryz.sizeOf136
  v77 := Tryz.zeroValue136 }
open Go.RowKit Go.Lib Go.Sort in

theorem Tryz.medianCmpFunc {α : Type} [Inhabited α] (enc : α → Value) (cf : α → α → Int) (g : Nat) (cb : Array Value) (blk off cap a b c' c s : Nat) (d0 d : Array α) (w0 W : World) (eg : ∀ args w, (callFunc g args).run Tryz.prog w = .ok (.enter g args) w) (hcmp : CmpLays1 Tryz.prog g cb enc cf blk off d0.size w0) (R : Row1 enc w0 blk off d0) (hs : d0.size = d.size) (C : Cnt1 enc w0 blk off d c s W) (ha : a < d.size) (hb : b < d.size) (hc : c' < d.size) (hsz : d.size < 4611686018427387904) (hss : s + 3 < 4611686018427387904) :
    Calls Tryz.prog 403 #[.slice (some ⟨blk, off, none⟩) d.size cap, .int .i64 a, .int .i64 b, .int .i64 c', .pointer (some ⟨c, 0, none⟩), .func (.func g) #[] cb] W fun e w' =>
      e = .returned (.int .i64 (median (ltOf cf) d a b c' s).1) ∧ Cnt1 enc w0 blk off d c (median (ltOf cf) d a b c' s).2 w' := Any.medianCmpFunc Tryz.laysSlF50_f403 enc cf g cb blk off cap a b c' c s d0 d w0 W eg hcmp R hs C ha hb hc hsz hss
def Tryz.laysSlF49_f402_ren : Go.Shelf.Ren := ⟨fun | 49 => 402 | 50 => 403 | 57 => 404 | n => n, fun | 24 => 3 | 22 => 22 | 3 => 3 | 70 => 156 | 25 => 456 | 77 => 136 | 0 => 0 | 4 => 4 | n => n, fun | n => n⟩
theorem Tryz.laysSlF49_f402 : Go.Proofs.SlLaysF.n49 Tryz.prog Tryz.laysSlF49_f402_ren := {
  mixed := by kernel_rfl
  f49 := ⟨Tryz.f402.name, by decide, Tryz.func402.trans (congrArg some (by kernel_rfl))⟩
  f50 := ⟨Tryz.f403.name, by decide, Tryz.func403.trans (congrArg some (by kernel_rfl))⟩
  f57 := ⟨Tryz.f404.name, by decide, Tryz.func404.trans (congrArg some (by kernel_rfl))⟩
  t0 := Tryz.underlying0
  a0 := Tryz.isAgg0
  z0 := Tryz.sizeOf0
  v0 := Tryz.zeroValue0
  t3 := Tryz.underlying3
  a3 := Tryz.isAgg3
  z3 := Tryz.sizeOf3
  v3 := Tryz.zeroValue3
  t4 := Tryz.underlying4
  a4 := Tryz.isAgg4
  z4 := Tryz.sizeOf4
  v4 := Tryz.zeroValue4
  t22 := Tryz.underlying22
  a22 := Tryz.isAgg22
  z22 := Tryz.sizeOf22
  v22 := Tryz.zeroValue22
  a24 := Tryz.isAgg3
  z24 := Tryz.sizeOf3
  t25 := Tryz.underlying456
  a25 := Tryz.isAgg456
  z25 := Tryz.sizeOf456
  v25 := Tryz.zeroValue456
  t70 := Tryz.underlying156
  a70 := Tryz.isAgg156
  z70 := Tryz.sizeOf156
  v70 := Tryz.zeroValue156
  t77 := Tryz.underlying136
  a77 := Tryz.isAgg136
  z77 := Tryz.sizeOf136
  v77 := Tryz.zeroValue136 }
open Go.RowKit Go.Lib Go.Sort in

theorem Tryz.medianAdjacentCmpFunc {α : Type} [Inhabited α] (enc : α → Value) (cf : α → α → Int) (g : Nat) (cb : Array Value) (blk off cap a c s : Nat) (d0 d : Array α) (w0 W : World) (eg : ∀ args w, (callFunc g args).run Tryz.prog w = .ok (.enter g args) w) (hcmp : CmpLays1 Tryz.prog g cb enc cf blk off d0.size w0) (R : Row1 enc w0 blk off d0) (hs : d0.size = d.size) (C : Cnt1 enc w0 blk off d c s W) (ha1 : 1 ≤ a) (ha2 : a + 1 < d.size) (hsz : d.size < 4611686018427387904) (hss : s + 3 < 4611686018427387904) :
    Calls Tryz.prog 402 #[.slice (some ⟨blk, off, none⟩) d.size cap, .int .i64 a, .pointer (some ⟨c, 0, none⟩), .func (.func g) #[] cb] W fun e w' =>
      e = .returned (.int .i64 (medianAdjacent (ltOf cf) d a s).1) ∧ Cnt1 enc w0 blk off d c (medianAdjacent (ltOf cf) d a s).2 w' := Any.medianAdjacentCmpFunc Tryz.laysSlF49_f402 enc cf g cb blk off cap a c s d0 d w0 W eg hcmp R hs C ha1 ha2 hsz hss
def Tryz.laysSlF23_f396_ren : Go.Shelf.Ren := ⟨fun | 23 => 396 | 49 => 402 | 50 => 403 | 57 => 404 | n => n, fun | 24 => 3 | 22 => 22 | 3 => 3 | 25 => 456 | 45 => 405 | 0 => 0 | 4 => 4 | 70 => 156 | 77 => 136 | n => n, fun | n => n⟩
theorem Tryz.laysSlF23_f396 : Go.Proofs.SlLaysF.n23 Tryz.prog Tryz.laysSlF23_f396_ren := {
  mixed := by kernel_rfl
  f23 := ⟨Tryz.f396.name, by decide, Tryz.func396.trans (congrArg some (by kernel_rfl))⟩
  f49 := ⟨Tryz.f402.name, by decide, Tryz.func402.trans (congrArg some (by kernel_rfl))⟩
  f50 := ⟨Tryz.f403.name, by decide, Tryz.func403.trans (congrArg some (by kernel_rfl))⟩
  f57 := ⟨Tryz.f404.name, by decide, Tryz.func404.trans (congrArg some (by kernel_rfl))⟩
  t0 := Tryz.underlying0
  a0 := Tryz.isAgg0
  z0 := Tryz.sizeOf0
  v0 := Tryz.zeroValue0
  t3 := Tryz.underlying3
  a3 := Tryz.isAgg3
  z3 := Tryz.sizeOf3
  v3 := Tryz.zeroValue3
  t4 := Tryz.underlying4
  a4 := Tryz.isAgg4
  z4 := Tryz.sizeOf4
  v4 := Tryz.zeroValue4
  t22 := Tryz.underlying22
  a22 := Tryz.isAgg22
  z22 := Tryz.sizeOf22
  v22 := Tryz.zeroValue22
  a24 := Tryz.isAgg3
  z24 := Tryz.sizeOf3
  t25 := Tryz.underlying456
  a25 := Tryz.isAgg456
  z25 := Tryz.sizeOf456
  v25 := Tryz.zeroValue456
  t45 := Tryz.underlying405
  a45 := Tryz.isAgg405
  z45 := Tryz.sizeOf405
  v45 := Tryz.zeroValue405
  t70 := Tryz.underlying156
  a70 := Tryz.isAgg156
  z70 := Tryz.sizeOf156
  v70 := Tryz.zeroValue156
  t77 := Tryz.underlying136
  a77 := Tryz.isAgg136
  z77 := Tryz.sizeOf136
  v77 := Tryz.zeroValue136 }
open Go.RowKit Go.Lib Go.Sort in

theorem Tryz.choosePivotCmpFunc {α : Type} [Inhabited α] (enc : α → Value) (cf : α → α → Int) (g : Nat) (cb : Array Value) (blk off cap a b : Nat) (d0 d : Array α) (w0 W : World) (eg : ∀ args w, (callFunc g args).run Tryz.prog w = .ok (.enter g args) w) (hcmp : CmpLays1 Tryz.prog g cb enc cf blk off d0.size w0) (R : Row1 enc w0 blk off d0) (hs : d0.size = d.size) (S : SW enc w0 blk off d W) (hab : a < b) (hb : b ≤ d.size) (hsz : d.size < 4611686018427387904) :
    Calls Tryz.prog 396 #[.slice (some ⟨blk, off, none⟩) d.size cap, .int .i64 a, .int .i64 b, .func (.func g) #[] cb] W fun e w' =>
      e = .returned (.tuple #[.int .i64 (choosePivot (ltOf cf) d a b).1, .int .i64 (hintCode (choosePivot (ltOf cf) d a b).2)]) ∧ SW enc w0 blk off d w' := Any.choosePivotCmpFunc Tryz.laysSlF23_f396 enc cf g cb blk off cap a b d0 d w0 W eg hcmp R hs S hab hb hsz
def Tryz.laysSlF24_f397_ren : Go.Shelf.Ren := ⟨fun | 24 => 397 | n => n, fun | 24 => 3 | 22 => 22 | 3 => 3 | 25 => 456 | 4 => 4 | 0 => 0 | n => n, fun | n => n⟩
theorem Tryz.laysSlF24_f397 : Go.Proofs.SlLaysF.n24 Tryz.prog Tryz.laysSlF24_f397_ren := {
  mixed := by kernel_rfl
  f24 := ⟨Tryz.f397.name, by decide, Tryz.func397.trans (congrArg some (by kernel_rfl))⟩
  t0 := Tryz.underlying0
  a0 := Tryz.isAgg0
  z0 := Tryz.sizeOf0
  v0 := Tryz.zeroValue0
  t3 := Tryz.underlying3
  a3 := Tryz.isAgg3
  z3 := Tryz.sizeOf3
  v3 := Tryz.zeroValue3
  t4 := Tryz.underlying4
  a4 := Tryz.isAgg4
  z4 := Tryz.sizeOf4
  v4 := Tryz.zeroValue4
  t22 := Tryz.underlying22
  a22 := Tryz.isAgg22
  z22 := Tryz.sizeOf22
  v22 := Tryz.zeroValue22
  a24 := Tryz.isAgg3
  z24 := Tryz.sizeOf3
  t25 := Tryz.underlying456
  a25 := Tryz.isAgg456
  z25 := Tryz.sizeOf456
  v25 := Tryz.zeroValue456 }
open Go.RowKit Go.Lib Go.Sort in

theorem Tryz.reverseRangeCmpFunc {α : Type} [Inhabited α] (enc : α → Value) (g : Nat) (cb : Array Value) (blk off cap a b : Nat) (d0 d : Array α) (w0 w : World) (R : Row1 enc w0 blk off d0) (hs : d0.size = d.size) (S : SW enc w0 blk off d w) (hab : a ≤ b) (hb : b ≤ d.size) (hsz : d.size < 4611686018427387904) :
    Calls Tryz.prog 397 #[.slice (some ⟨blk, off, none⟩) d.size cap, .int .i64 a, .int .i64 b, .func (.func g) #[] cb] w fun e w' => e = .returned (.tuple #[]) ∧ SW enc w0 blk off (reverseRange d a b) w' := Any.reverseRangeCmpFunc Tryz.laysSlF24_f397 enc g cb blk off cap a b d0 d w0 w R hs S hab hb hsz
def Tryz.laysSlF25_f398_ren : Go.Shelf.Ren := ⟨fun | 25 => 398 | n => n, fun | 24 => 3 | 22 => 22 | 3 => 3 | 25 => 456 | 4 => 4 | 0 => 0 | n => n, fun | n => n⟩
theorem Tryz.laysSlF25_f398 : Go.Proofs.SlLaysF.n25 Tryz.prog Tryz.laysSlF25_f398_ren := {
  mixed := by kernel_rfl
  f25 := ⟨Tryz.f398.name, by decide, Tryz.func398.trans (congrArg some (by kernel_rfl))⟩
  t0 := Tryz.underlying0
  a0 := Tryz.isAgg0
  z0 := Tryz.sizeOf0
  v0 := Tryz.zeroValue0
  t3 := Tryz.underlying3
  a3 := Tryz.isAgg3
  z3 := Tryz.sizeOf3
  v3 := Tryz.zeroValue3
  t4 := Tryz.underlying4
  a4 := Tryz.isAgg4
  z4 := Tryz.sizeOf4
  v4 := Tryz.zeroValue4
  t22 := Tryz.underlying22
  a22 := Tryz.isAgg22
  z22 := Tryz.sizeOf22
  v22 := Tryz.zeroValue22
  a24 := Tryz.isAgg3
  z24 := Tryz.sizeOf3
  t25 := Tryz.underlying456
  a25 := Tryz.isAgg456
  z25 := Tryz.sizeOf456
  v25 := Tryz.zeroValue456 }
open Go.RowKit Go.Lib Go.Sort in

theorem Tryz.partialInsertionSortCmpFunc {α : Type} [Inhabited α] (enc : α → Value) (cf : α → α → Int) (g : Nat) (cb : Array Value) (blk off cap a b : Nat) (d0 d : Array α) (w0 w : World) (eg : ∀ args w, (callFunc g args).run Tryz.prog w = .ok (.enter g args) w) (hcmp : CmpLays1 Tryz.prog g cb enc cf blk off d0.size w0) (R : Row1 enc w0 blk off d0) (hs : d0.size = d.size) (S : SW enc w0 blk off d w) (hab : a < b) (hb : b ≤ d.size) (hsz : d.size < 4611686018427387904) :
    Calls Tryz.prog 398 #[.slice (some ⟨blk, off, none⟩) d.size cap, .int .i64 a, .int .i64 b, .func (.func g) #[] cb] w fun e w' =>
      e = .returned (.bool (Sort.partialInsertionSort (ltOf cf) d a b).2) ∧ SW enc w0 blk off (Sort.partialInsertionSort (ltOf cf) d a b).1 w' := Any.partialInsertionSortCmpFunc Tryz.laysSlF25_f398 enc cf g cb blk off cap a b d0 d w0 w eg hcmp R hs S hab hb hsz
def Tryz.laysSlF26_f399_ren : Go.Shelf.Ren := ⟨fun | 26 => 399 | n => n, fun | 24 => 3 | 22 => 22 | 3 => 3 | 25 => 456 | 0 => 0 | 4 => 4 | n => n, fun | n => n⟩
theorem Tryz.laysSlF26_f399 : Go.Proofs.SlLaysF.n26 Tryz.prog Tryz.laysSlF26_f399_ren := {
  mixed := by kernel_rfl
  f26 := ⟨Tryz.f399.name, by decide, Tryz.func399.trans (congrArg some (by kernel_rfl))⟩
  t0 := Tryz.underlying0
  a0 := Tryz.isAgg0
  z0 := Tryz.sizeOf0
  v0 := Tryz.zeroValue0
  t3 := Tryz.underlying3
  a3 := Tryz.isAgg3
  z3 := Tryz.sizeOf3
  v3 := Tryz.zeroValue3
  t4 := Tryz.underlying4
  a4 := Tryz.isAgg4
  z4 := Tryz.sizeOf4
  v4 := Tryz.zeroValue4
  t22 := Tryz.underlying22
  a22 := Tryz.isAgg22
  z22 := Tryz.sizeOf22
  v22 := Tryz.zeroValue22
  a24 := Tryz.isAgg3
  z24 := Tryz.sizeOf3
  t25 := Tryz.underlying456
  a25 := Tryz.isAgg456
  z25 := Tryz.sizeOf456
  v25 := Tryz.zeroValue456 }
open Go.RowKit Go.Lib Go.Sort in

theorem Tryz.partitionEqualCmpFunc {α : Type} [Inhabited α] (enc : α → Value) (cf : α → α → Int) (g : Nat) (cb : Array Value) (blk off cap a b pivot : Nat) (d0 d : Array α) (w0 w : World) (eg : ∀ args w, (callFunc g args).run Tryz.prog w = .ok (.enter g args) w) (hcmp : CmpLays1 Tryz.prog g cb enc cf blk off d0.size w0) (R : Row1 enc w0 blk off d0) (hs : d0.size = d.size) (S : SW enc w0 blk off d w) (hap : a ≤ pivot) (hpb : pivot < b) (hb : b ≤ d.size) (hsz : d.size < 4611686018427387904) :
    Calls Tryz.prog 399 #[.slice (some ⟨blk, off, none⟩) d.size cap, .int .i64 a, .int .i64 b, .int .i64 pivot, .func (.func g) #[] cb] w fun e w' =>
      e = .returned (.int .i64 (Sort.partitionEqual (ltOf cf) d a b pivot).1) ∧ SW enc w0 blk off (Sort.partitionEqual (ltOf cf) d a b pivot).2 w' := Any.partitionEqualCmpFunc Tryz.laysSlF26_f399 enc cf g cb blk off cap a b pivot d0 d w0 w eg hcmp R hs S hap hpb hb hsz
def Tryz.laysSlF27_f400_ren : Go.Shelf.Ren := ⟨fun | 27 => 400 | n => n, fun | 24 => 3 | 22 => 22 | 3 => 3 | 25 => 456 | 4 => 4 | 0 => 0 | n => n, fun | n => n⟩
theorem Tryz.laysSlF27_f400 : Go.Proofs.SlLaysF.n27 Tryz.prog Tryz.laysSlF27_f400_ren := {
  mixed := by kernel_rfl
  f27 := ⟨Tryz.f400.name, by decide, Tryz.func400.trans (congrArg some (by kernel_rfl))⟩
  t0 := Tryz.underlying0
  a0 := Tryz.isAgg0
  z0 := Tryz.sizeOf0
  v0 := Tryz.zeroValue0
  t3 := Tryz.underlying3
  a3 := Tryz.isAgg3
  z3 := Tryz.sizeOf3
  v3 := Tryz.zeroValue3
  t4 := Tryz.underlying4
  a4 := Tryz.isAgg4
  z4 := Tryz.sizeOf4
  v4 := Tryz.zeroValue4
  t22 := Tryz.underlying22
  a22 := Tryz.isAgg22
  z22 := Tryz.sizeOf22
  v22 := Tryz.zeroValue22
  a24 := Tryz.isAgg3
  z24 := Tryz.sizeOf3
  t25 := Tryz.underlying456
  a25 := Tryz.isAgg456
  z25 := Tryz.sizeOf456
  v25 := Tryz.zeroValue456 }
open Go.RowKit Go.Lib Go.Sort in

theorem Tryz.partitionCmpFunc {α : Type} [Inhabited α] (enc : α → Value) (cf : α → α → Int) (g : Nat) (cb : Array Value) (blk off cap a b pivot : Nat) (d0 d : Array α) (w0 w : World) (eg : ∀ args w, (callFunc g args).run Tryz.prog w = .ok (.enter g args) w) (hcmp : CmpLays1 Tryz.prog g cb enc cf blk off d0.size w0) (R : Row1 enc w0 blk off d0) (hs : d0.size = d.size) (S : SW enc w0 blk off d w) (hap : a ≤ pivot) (hpb : pivot < b) (hb : b ≤ d.size) (hsz : d.size < 4611686018427387904) :
    Calls Tryz.prog 400 #[.slice (some ⟨blk, off, none⟩) d.size cap, .int .i64 a, .int .i64 b, .int .i64 pivot, .func (.func g) #[] cb] w fun e w' =>
      e = .returned (.tuple #[.int .i64 (Sort.partition (ltOf cf) d a b pivot).1, .bool (Sort.partition (ltOf cf) d a b pivot).2.1]) ∧ SW enc w0 blk off (Sort.partition (ltOf cf) d a b pivot).2.2 w' := Any.partitionCmpFunc Tryz.laysSlF27_f400 enc cf g cb blk off cap a b pivot d0 d w0 w eg hcmp R hs S hap hpb hb hsz
def Tryz.laysSlF14_f391_ren : Go.Shelf.Ren := ⟨fun | 14 => 391 | 20 => 393 | 21 => 394 | 22 => 395 | 23 => 396 | 24 => 397 | 25 => 398 | 26 => 399 | 27 => 400 | 46 => 401 | 47 => 369 | 48 => 370 | 49 => 402 | 50 => 403 | 15 => 276 | 57 => 404 | 28 => 340 | 29 => 198 | n => n, fun | 24 => 3 | 22 => 22 | 3 => 3 | 25 => 456 | 4 => 4 | 0 => 0 | 46 => 406 | 45 => 405 | 50 => 233 | 66 => 448 | 39 => 288 | 55 => 203 | 70 => 156 | 76 => 460 | 77 => 136 | 53 => 412 | 5 => 5 | 9 => 9 | n => n, fun | n => n⟩
theorem Tryz.laysSlF14_f391 : Go.Proofs.SlLaysF.n14 Tryz.prog Tryz.laysSlF14_f391_ren := {
  mixed := by kernel_rfl
  f14 := ⟨Tryz.f391.name, by decide, Tryz.func391.trans (congrArg some (by kernel_rfl))⟩
  f15 := Tryz.func276.trans (congrArg some (by kernel_rfl))
  f20 := ⟨Tryz.f393.name, by decide, Tryz.func393.trans (congrArg some (by kernel_rfl))⟩
  f21 := ⟨Tryz.f394.name, by decide, Tryz.func394.trans (congrArg some (by kernel_rfl))⟩
  f22 := ⟨Tryz.f395.name, by decide, Tryz.func395.trans (congrArg some (by kernel_rfl))⟩
  f23 := ⟨Tryz.f396.name, by decide, Tryz.func396.trans (congrArg some (by kernel_rfl))⟩
  f24 := ⟨Tryz.f397.name, by decide, Tryz.func397.trans (congrArg some (by kernel_rfl))⟩
  f25 := ⟨Tryz.f398.name, by decide, Tryz.func398.trans (congrArg some (by kernel_rfl))⟩
  f26 := ⟨Tryz.f399.name, by decide, Tryz.func399.trans (congrArg some (by kernel_rfl))⟩
  f27 := ⟨Tryz.f400.name, by decide, Tryz.func400.trans (congrArg some (by kernel_rfl))⟩
  f28 := Tryz.func340.trans (congrArg some (by kernel_rfl))
  f29 := Tryz.func198.trans (congrArg some (by kernel_rfl))
  f46 := ⟨Tryz.f401.name, by decide, Tryz.func401.trans (congrArg some (by kernel_rfl))⟩
  f47 := Tryz.func369.trans (congrArg some (by kernel_rfl))
  f48 := Tryz.func370.trans (congrArg some (by kernel_rfl))
  f49 := ⟨Tryz.f402.name, by decide, Tryz.func402.trans (congrArg some (by kernel_rfl))⟩
  f50 := ⟨Tryz.f403.name, by decide, Tryz.func403.trans (congrArg some (by kernel_rfl))⟩
  f57 := ⟨Tryz.f404.name, by decide, Tryz.func404.trans (congrArg some (by kernel_rfl))⟩
  t0 := Tryz.underlying0
  a0 := Tryz.isAgg0
  z0 := Tryz.sizeOf0
  v0 := Tryz.zeroValue0
  t3 := Tryz.underlying3
  a3 := Tryz.isAgg3
  z3 := Tryz.sizeOf3
  v3 := Tryz.zeroValue3
  t4 := Tryz.underlying4
  a4 := Tryz.isAgg4
  z4 := Tryz.sizeOf4
  v4 := Tryz.zeroValue4
  t5 := Tryz.underlying5
  a5 := Tryz.isAgg5
  z5 := Tryz.sizeOf5
  v5 := Tryz.zeroValue5
  t9 := Tryz.underlying9
  a9 := Tryz.isAgg9
  z9 := Tryz.sizeOf9
  v9 := Tryz.zeroValue9
  t22 := Tryz.underlying22
  a22 := Tryz.isAgg22
  z22 := Tryz.sizeOf22
  v22 := Tryz.zeroValue22
  a24 := Tryz.isAgg3
  z24 := Tryz.sizeOf3
  t25 := Tryz.underlying456
  a25 := Tryz.isAgg456
  z25 := Tryz.sizeOf456
  v25 := Tryz.zeroValue456
  t39 := Tryz.underlying288
  a39 := Tryz.isAgg288
  z39 := Tryz.sizeOf288
  v39 := Tryz.zeroValue288
  t45 := Tryz.underlying405
  a45 := Tryz.isAgg405
  z45 := Tryz.sizeOf405
  v45 := Tryz.zeroValue405
  t46 := Tryz.underlying406
  a46 := Tryz.isAgg406
  z46 := Tryz.sizeOf406
  v46 := Tryz.zeroValue406
  t50 := Tryz.underlying233
  a50 := Tryz.isAgg233
  z50 := Tryz.sizeOf233
  v50 := Tryz.zeroValue233
  t53 := Tryz.underlying412
  a53 := Tryz.isAgg412
  z53 := Tryz.sizeOf412
  v53 := Tryz.zeroValue412
  t55 := Tryz.underlying203
  a55 := Tryz.isAgg203
  z55 := Tryz.sizeOf203
  v55 := Tryz.zeroValue203
  t66 := Tryz.underlying448
  a66 := Tryz.isAgg448
  z66 := Tryz.sizeOf448
  v66 := Tryz.zeroValue448
  t70 := Tryz.underlying156
  a70 := Tryz.isAgg156
  z70 := Tryz.sizeOf156
  v70 := Tryz.zeroValue156
  t76 := Tryz.underlying460
  a76 := Tryz.isAgg460
  z76 := Tryz.sizeOf460
  v76 := Tryz.zeroValue460
  t77 := Tryz.underlying136
  a77 := Tryz.isAgg136
  z77 := Tryz.sizeOf136
  v77 := Tryz.zeroValue136 }
open Go.RowKit Go.Lib Go.Sort in

theorem Tryz.pdqsortCmpFunc_all {α : Type} [Inhabited α] (enc : α → Value) (cf : α → α → Int) (g : Nat) (cb : Array Value) (hO : SWO (ltOf cf)) (blk off cap : Nat) (d0 : Array α) (w0 : World) (eg : ∀ args w, (callFunc g args).run Tryz.prog w = .ok (.enter g args) w) (hcmp : CmpLays1 Tryz.prog g cb enc cf blk off d0.size w0) (R : Row1 enc w0 blk off d0) :
    ∀ (N a b limit : Nat) (d : Array α) (w : World), b - a < N → d0.size = d.size → SW enc w0 blk off d w → a ≤ b → b ≤ d.size → d.size < 4611686018427387904 → limit < 4611686018427387904 → Below (ltOf cf) a b d →
    Calls Tryz.prog 391 #[.slice (some ⟨blk, off, none⟩) d.size cap, .int .i64 a, .int .i64 b, .int .i64 limit, .func (.func g) #[] cb] w fun e w' => e = .returned (.tuple #[]) ∧ SW enc w0 blk off (pdq (ltOf cf) d a b limit true true) w' := Any.pdqsortCmpFunc_all Tryz.laysSlF14_f391 enc cf g cb hO blk off cap d0 w0 eg hcmp R
def Tryz.laysSlF6_f377_ren : Go.Shelf.Ren := ⟨fun | 6 => 377 | 15 => 276 | 14 => 391 | 28 => 340 | 29 => 198 | 20 => 393 | 21 => 394 | 22 => 395 | 23 => 396 | 24 => 397 | 25 => 398 | 26 => 399 | 27 => 400 | 46 => 401 | 47 => 369 | 48 => 370 | 49 => 402 | 50 => 403 | 57 => 404 | n => n, fun | 22 => 22 | 24 => 3 | 25 => 456 | 3 => 3 | 39 => 288 | 0 => 0 | 53 => 412 | 55 => 203 | 4 => 4 | 46 => 406 | 45 => 405 | 50 => 233 | 5 => 5 | 9 => 9 | 66 => 448 | 70 => 156 | 76 => 460 | 77 => 136 | n => n, fun | n => n⟩
theorem Tryz.laysSlF6_f377 : Go.Proofs.SlLaysF.n6 Tryz.prog Tryz.laysSlF6_f377_ren := {
  mixed := by kernel_rfl
  f6 := ⟨Tryz.f377.name, by decide, Tryz.func377.trans (congrArg some (by kernel_rfl))⟩
  f14 := ⟨Tryz.f391.name, by decide, Tryz.func391.trans (congrArg some (by kernel_rfl))⟩
  f15 := Tryz.func276.trans (congrArg some (by kernel_rfl))
  f20 := ⟨Tryz.f393.name, by decide, Tryz.func393.trans (congrArg some (by kernel_rfl))⟩
  f21 := ⟨Tryz.f394.name, by decide, Tryz.func394.trans (congrArg some (by kernel_rfl))⟩
  f22 := ⟨Tryz.f395.name, by decide, Tryz.func395.trans (congrArg some (by kernel_rfl))⟩
  f23 := ⟨Tryz.f396.name, by decide, Tryz.func396.trans (congrArg some (by kernel_rfl))⟩
  f24 := ⟨Tryz.f397.name, by decide, Tryz.func397.trans (congrArg some (by kernel_rfl))⟩
  f25 := ⟨Tryz.f398.name, by decide, Tryz.func398.trans (congrArg some (by kernel_rfl))⟩
  f26 := ⟨Tryz.f399.name, by decide, Tryz.func399.trans (congrArg some (by kernel_rfl))⟩
  f27 := ⟨Tryz.f400.name, by decide, Tryz.func400.trans (congrArg some (by kernel_rfl))⟩
  f28 := Tryz.func340.trans (congrArg some (by kernel_rfl))
  f29 := Tryz.func198.trans (congrArg some (by kernel_rfl))
  f46 := ⟨Tryz.f401.name, by decide, Tryz.func401.trans (congrArg some (by kernel_rfl))⟩
  f47 := Tryz.func369.trans (congrArg some (by kernel_rfl))
  f48 := Tryz.func370.trans (congrArg some (by kernel_rfl))
  f49 := ⟨Tryz.f402.name, by decide, Tryz.func402.trans (congrArg some (by kernel_rfl))⟩
  f50 := ⟨Tryz.f403.name, by decide, Tryz.func403.trans (congrArg some (by kernel_rfl))⟩
  f57 := ⟨Tryz.f404.name, by decide, Tryz.func404.trans (congrArg some (by kernel_rfl))⟩
  t0 := Tryz.underlying0
  a0 := Tryz.isAgg0
  z0 := Tryz.sizeOf0
  v0 := Tryz.zeroValue0
  t3 := Tryz.underlying3
  a3 := Tryz.isAgg3
  z3 := Tryz.sizeOf3
  v3 := Tryz.zeroValue3
  t4 := Tryz.underlying4
  a4 := Tryz.isAgg4
  z4 := Tryz.sizeOf4
  v4 := Tryz.zeroValue4
  t5 := Tryz.underlying5
  a5 := Tryz.isAgg5
  z5 := Tryz.sizeOf5
  v5 := Tryz.zeroValue5
  t9 := Tryz.underlying9
  a9 := Tryz.isAgg9
  z9 := Tryz.sizeOf9
  v9 := Tryz.zeroValue9
  t22 := Tryz.underlying22
  a22 := Tryz.isAgg22
  z22 := Tryz.sizeOf22
  v22 := Tryz.zeroValue22
  a24 := Tryz.isAgg3
  z24 := Tryz.sizeOf3
  t25 := Tryz.underlying456
  a25 := Tryz.isAgg456
  z25 := Tryz.sizeOf456
  v25 := Tryz.zeroValue456
  t39 := Tryz.underlying288
  a39 := Tryz.isAgg288
  z39 := Tryz.sizeOf288
  v39 := Tryz.zeroValue288
  t45 := Tryz.underlying405
  a45 := Tryz.isAgg405
  z45 := Tryz.sizeOf405
  v45 := Tryz.zeroValue405
  t46 := Tryz.underlying406
  a46 := Tryz.isAgg406
  z46 := Tryz.sizeOf406
  v46 := Tryz.zeroValue406
  t50 := Tryz.underlying233
  a50 := Tryz.isAgg233
  z50 := Tryz.sizeOf233
  v50 := Tryz.zeroValue233
  t53 := Tryz.underlying412
  a53 := Tryz.isAgg412
  z53 := Tryz.sizeOf412
  v53 := Tryz.zeroValue412
  t55 := Tryz.underlying203
  a55 := Tryz.isAgg203
  z55 := Tryz.sizeOf203
  v55 := Tryz.zeroValue203
  t66 := Tryz.underlying448
  a66 := Tryz.isAgg448
  z66 := Tryz.sizeOf448
  v66 := Tryz.zeroValue448
  t70 := Tryz.underlying156
  a70 := Tryz.isAgg156
  z70 := Tryz.sizeOf156
  v70 := Tryz.zeroValue156
  t76 := Tryz.underlying460
  a76 := Tryz.isAgg460
  z76 := Tryz.sizeOf460
  v76 := Tryz.zeroValue460
  t77 := Tryz.underlying136
  a77 := Tryz.isAgg136
  z77 := Tryz.sizeOf136
  v77 := Tryz.zeroValue136 }
open Go.RowKit Go.Lib Go.Sort in

theorem Tryz.slices_SortFunc_eq {α : Type} [Inhabited α] (enc : α → Value) (h1 : OneCell enc) (cf : α → α → Int) (hO : SWO (ltOf cf)) (g : Nat) (cb : Array Value) (blk off cap : Nat) (d : Array α) (w : World) (eg : ∀ args w, (callFunc g args).run Tryz.prog w = .ok (.enter g args) w) (hcmp : CmpLays1 Tryz.prog g cb enc cf blk off d.size w) (hH : Holds enc w blk off d) (hblk : blk < w.heap.size) (hsz : d.size < 4611686018427387904) :
    Calls Tryz.prog 377 #[.slice (some ⟨blk, off, none⟩) d.size cap, .func (.func g) #[] cb] w fun e w' =>
      e = .returned (.tuple #[]) ∧ ∃ n os, w' = sortWorld enc w blk off n (pdq (ltOf cf) d 0 d.size (Lib.bitLen d.size) true true) os := Any.slices_SortFunc_eq Tryz.laysSlF6_f377 enc h1 cf hO g cb blk off cap d w eg hcmp hH hblk hsz
open Go.RowKit Go.Lib Go.Sort in

theorem Tryz.slices_SortFunc {α : Type} [Inhabited α] (enc : α → Value) (h1 : OneCell enc) (cf : α → α → Int) (hO : SWO (ltOf cf)) (g : Nat) (cb : Array Value) (blk off cap : Nat) (d : Array α) (w : World) (eg : ∀ args w, (callFunc g args).run Tryz.prog w = .ok (.enter g args) w) (hcmp : CmpLays1 Tryz.prog g cb enc cf blk off d.size w) (hH : Holds enc w blk off d) (hblk : blk < w.heap.size) (hsz : d.size < 4611686018427387904) :
    Calls Tryz.prog 377 #[.slice (some ⟨blk, off, none⟩) d.size cap, .func (.func g) #[] cb] w fun e w' =>
      e = .returned (.tuple #[]) ∧ ∃ d' n os, PermIn 0 d.size d d' ∧ SortedIn (ltOf cf) 0 d.size d' ∧ w' = sortWorld enc w blk off n d' os := Any.slices_SortFunc Tryz.laysSlF6_f377 enc h1 cf hO g cb blk off cap d w eg hcmp hH hblk hsz
def Tryz.laysSlF020_f393_ren : Go.Shelf.Ren := ⟨fun | 20 => 393 | n => n, fun | 24 => 3 | 22 => 22 | 3 => 3 | 25 => 456 | 4 => 4 | 0 => 0 | n => n, fun | n => n⟩
theorem Tryz.laysSlF020_f393 : Go.Proofs.SlLaysF0.n20 Tryz.prog Tryz.laysSlF020_f393_ren := {
  mixed := by kernel_rfl
  f20 := ⟨Tryz.f393.name, by decide, Tryz.func393.trans (congrArg some (by kernel_rfl))⟩
  t0 := Tryz.underlying0
  a0 := Tryz.isAgg0
  z0 := Tryz.sizeOf0
  v0 := Tryz.zeroValue0
  t3 := Tryz.underlying3
  a3 := Tryz.isAgg3
  z3 := Tryz.sizeOf3
  v3 := Tryz.zeroValue3
  t4 := Tryz.underlying4
  a4 := Tryz.isAgg4
  z4 := Tryz.sizeOf4
  v4 := Tryz.zeroValue4
  t22 := Tryz.underlying22
  a22 := Tryz.isAgg22
  z22 := Tryz.sizeOf22
  v22 := Tryz.zeroValue22
  t25 := Tryz.underlying456
  a25 := Tryz.isAgg456
  z25 := Tryz.sizeOf456
  v25 := Tryz.zeroValue456 }
open Go.RowKit Go.Lib Go.Sort in
theorem Tryz.insertionSortCmpFunc_none {α : Type} [Inhabited α] (p : Option Addr) (cap : Nat) (fv : Value) (w : World) :
    Calls Tryz.prog 393 #[.slice p 0 cap, .int .i64 0, .int .i64 0, fv] w fun e w' => e = .returned (.tuple #[]) ∧ w' = w := AnyF.insertionSortCmpFunc_none Tryz.laysSlF020_f393 p cap fv w
def Tryz.laysSlF014_f391_ren : Go.Shelf.Ren := ⟨fun | 14 => 391 | 20 => 393 | 21 => 394 | 22 => 395 | 23 => 396 | 24 => 397 | 25 => 398 | 26 => 399 | 27 => 400 | 46 => 401 | 47 => 369 | 48 => 370 | 49 => 402 | 50 => 403 | 15 => 276 | 57 => 404 | 28 => 340 | 29 => 198 | n => n, fun | 24 => 3 | 22 => 22 | 3 => 3 | 25 => 456 | 4 => 4 | 0 => 0 | 46 => 406 | 45 => 405 | 50 => 233 | 66 => 448 | 39 => 288 | 55 => 203 | 70 => 156 | 76 => 460 | 77 => 136 | 53 => 412 | 5 => 5 | 9 => 9 | n => n, fun | n => n⟩
theorem Tryz.laysSlF014_f391 : Go.Proofs.SlLaysF0.n14 Tryz.prog Tryz.laysSlF014_f391_ren := {
  mixed := by kernel_rfl
  f14 := ⟨Tryz.f391.name, by decide, Tryz.func391.trans (congrArg some (by kernel_rfl))⟩
  f15 := Tryz.func276.trans (congrArg some (by kernel_rfl))
  f20 := ⟨Tryz.f393.name, by decide, Tryz.func393.trans (congrArg some (by kernel_rfl))⟩
  f21 := ⟨Tryz.f394.name, by decide, Tryz.func394.trans (congrArg some (by kernel_rfl))⟩
  f22 := ⟨Tryz.f395.name, by decide, Tryz.func395.trans (congrArg some (by kernel_rfl))⟩
  f23 := ⟨Tryz.f396.name, by decide, Tryz.func396.trans (congrArg some (by kernel_rfl))⟩
  f24 := ⟨Tryz.f397.name, by decide, Tryz.func397.trans (congrArg some (by kernel_rfl))⟩
  f25 := ⟨Tryz.f398.name, by decide, Tryz.func398.trans (congrArg some (by kernel_rfl))⟩
  f26 := ⟨Tryz.f399.name, by decide, Tryz.func399.trans (congrArg some (by kernel_rfl))⟩
  f27 := ⟨Tryz.f400.name, by decide, Tryz.func400.trans (congrArg some (by kernel_rfl))⟩
  f28 := Tryz.func340.trans (congrArg some (by kernel_rfl))
  f29 := Tryz.func198.trans (congrArg some (by kernel_rfl))
  f46 := ⟨Tryz.f401.name, by decide, Tryz.func401.trans (congrArg some (by kernel_rfl))⟩
  f47 := Tryz.func369.trans (congrArg some (by kernel_rfl))
  f48 := Tryz.func370.trans (congrArg some (by kernel_rfl))
  f49 := ⟨Tryz.f402.name, by decide, Tryz.func402.trans (congrArg some (by kernel_rfl))⟩
  f50 := ⟨Tryz.f403.name, by decide, Tryz.func403.trans (congrArg some (by kernel_rfl))⟩
  f57 := ⟨Tryz.f404.name, by decide, Tryz.func404.trans (congrArg some (by kernel_rfl))⟩
  t0 := Tryz.underlying0
  a0 := Tryz.isAgg0
  z0 := Tryz.sizeOf0
  v0 := Tryz.zeroValue0
  t3 := Tryz.underlying3
  a3 := Tryz.isAgg3
  z3 := Tryz.sizeOf3
  v3 := Tryz.zeroValue3
  t4 := Tryz.underlying4
  a4 := Tryz.isAgg4
  z4 := Tryz.sizeOf4
  v4 := Tryz.zeroValue4
  t5 := Tryz.underlying5
  a5 := Tryz.isAgg5
  z5 := Tryz.sizeOf5
  v5 := Tryz.zeroValue5
  t9 := Tryz.underlying9
  a9 := Tryz.isAgg9
  z9 := Tryz.sizeOf9
  v9 := Tryz.zeroValue9
  t22 := Tryz.underlying22
  a22 := Tryz.isAgg22
  z22 := Tryz.sizeOf22
  v22 := Tryz.zeroValue22
  t25 := Tryz.underlying456
  a25 := Tryz.isAgg456
  z25 := Tryz.sizeOf456
  v25 := Tryz.zeroValue456
  t39 := Tryz.underlying288
  a39 := Tryz.isAgg288
  z39 := Tryz.sizeOf288
  v39 := Tryz.zeroValue288
  t45 := Tryz.underlying405
  a45 := Tryz.isAgg405
  z45 := Tryz.sizeOf405
  v45 := Tryz.zeroValue405
  t46 := Tryz.underlying406
  a46 := Tryz.isAgg406
  z46 := Tryz.sizeOf406
  v46 := Tryz.zeroValue406
  t50 := Tryz.underlying233
  a50 := Tryz.isAgg233
  z50 := Tryz.sizeOf233
  v50 := Tryz.zeroValue233
  t53 := Tryz.underlying412
  a53 := Tryz.isAgg412
  z53 := Tryz.sizeOf412
  v53 := Tryz.zeroValue412
  t55 := Tryz.underlying203
  a55 := Tryz.isAgg203
  z55 := Tryz.sizeOf203
  v55 := Tryz.zeroValue203
  t66 := Tryz.underlying448
  a66 := Tryz.isAgg448
  z66 := Tryz.sizeOf448
  v66 := Tryz.zeroValue448
  t70 := Tryz.underlying156
  a70 := Tryz.isAgg156
  z70 := Tryz.sizeOf156
  v70 := Tryz.zeroValue156
  t76 := Tryz.underlying460
  a76 := Tryz.isAgg460
  z76 := Tryz.sizeOf460
  v76 := Tryz.zeroValue460
  t77 := Tryz.underlying136
  a77 := Tryz.isAgg136
  z77 := Tryz.sizeOf136
  v77 := Tryz.zeroValue136 }
open Go.RowKit Go.Lib Go.Sort in
theorem Tryz.pdqsortCmpFunc_none {α : Type} [Inhabited α] (p : Option Addr) (cap : Nat) (lim : Int) (fv : Value) (w : World) :
    Calls Tryz.prog 391 #[.slice p 0 cap, .int .i64 0, .int .i64 0, .int .i64 lim, fv] w fun e w' => e = .returned (.tuple #[]) ∧ w' = w := AnyF.pdqsortCmpFunc_none Tryz.laysSlF014_f391 p cap lim fv w
def Tryz.laysSlF06_f377_ren : Go.Shelf.Ren := ⟨fun | 6 => 377 | 15 => 276 | 14 => 391 | 28 => 340 | 29 => 198 | 20 => 393 | 21 => 394 | 22 => 395 | 23 => 396 | 24 => 397 | 25 => 398 | 26 => 399 | 27 => 400 | 46 => 401 | 47 => 369 | 48 => 370 | 49 => 402 | 50 => 403 | 57 => 404 | n => n, fun | 22 => 22 | 24 => 3 | 25 => 456 | 3 => 3 | 39 => 288 | 0 => 0 | 53 => 412 | 55 => 203 | 4 => 4 | 46 => 406 | 45 => 405 | 50 => 233 | 5 => 5 | 9 => 9 | 66 => 448 | 70 => 156 | 76 => 460 | 77 => 136 | n => n, fun | n => n⟩
theorem Tryz.laysSlF06_f377 : Go.Proofs.SlLaysF0.n6 Tryz.prog Tryz.laysSlF06_f377_ren := {
  mixed := by kernel_rfl
  f6 := ⟨Tryz.f377.name, by decide, Tryz.func377.trans (congrArg some (by kernel_rfl))⟩
  f14 := ⟨Tryz.f391.name, by decide, Tryz.func391.trans (congrArg some (by kernel_rfl))⟩
  f15 := Tryz.func276.trans (congrArg some (by kernel_rfl))
  f20 := ⟨Tryz.f393.name, by decide, Tryz.func393.trans (congrArg some (by kernel_rfl))⟩
  f21 := ⟨Tryz.f394.name, by decide, Tryz.func394.trans (congrArg some (by kernel_rfl))⟩
  f22 := ⟨Tryz.f395.name, by decide, Tryz.func395.trans (congrArg some (by kernel_rfl))⟩
  f23 := ⟨Tryz.f396.name, by decide, Tryz.func396.trans (congrArg some (by kernel_rfl))⟩
  f24 := ⟨Tryz.f397.name, by decide, Tryz.func397.trans (congrArg some (by kernel_rfl))⟩
  f25 := ⟨Tryz.f398.name, by decide, Tryz.func398.trans (congrArg some (by kernel_rfl))⟩
  f26 := ⟨Tryz.f399.name, by decide, Tryz.func399.trans (congrArg some (by kernel_rfl))⟩
  f27 := ⟨Tryz.f400.name, by decide, Tryz.func400.trans (congrArg some (by kernel_rfl))⟩
  f28 := Tryz.func340.trans (congrArg some (by kernel_rfl))
  f29 := Tryz.func198.trans (congrArg some (by kernel_rfl))
  f46 := ⟨Tryz.f401.name, by decide, Tryz.func401.trans (congrArg some (by kernel_rfl))⟩
  f47 := Tryz.func369.trans (congrArg some (by kernel_rfl))
  f48 := Tryz.func370.trans (congrArg some (by kernel_rfl))
  f49 := ⟨Tryz.f402.name, by decide, Tryz.func402.trans (congrArg some (by kernel_rfl))⟩
  f50 := ⟨Tryz.f403.name, by decide, Tryz.func403.trans (congrArg some (by kernel_rfl))⟩
  f57 := ⟨Tryz.f404.name, by decide, Tryz.func404.trans (congrArg some (by kernel_rfl))⟩
  t0 := Tryz.underlying0
  a0 := Tryz.isAgg0
  z0 := Tryz.sizeOf0
  v0 := Tryz.zeroValue0
  t3 := Tryz.underlying3
  a3 := Tryz.isAgg3
  z3 := Tryz.sizeOf3
  v3 := Tryz.zeroValue3
  t4 := Tryz.underlying4
  a4 := Tryz.isAgg4
  z4 := Tryz.sizeOf4
  v4 := Tryz.zeroValue4
  t5 := Tryz.underlying5
  a5 := Tryz.isAgg5
  z5 := Tryz.sizeOf5
  v5 := Tryz.zeroValue5
  t9 := Tryz.underlying9
  a9 := Tryz.isAgg9
  z9 := Tryz.sizeOf9
  v9 := Tryz.zeroValue9
  t22 := Tryz.underlying22
  a22 := Tryz.isAgg22
  z22 := Tryz.sizeOf22
  v22 := Tryz.zeroValue22
  t25 := Tryz.underlying456
  a25 := Tryz.isAgg456
  z25 := Tryz.sizeOf456
  v25 := Tryz.zeroValue456
  t39 := Tryz.underlying288
  a39 := Tryz.isAgg288
  z39 := Tryz.sizeOf288
  v39 := Tryz.zeroValue288
  t45 := Tryz.underlying405
  a45 := Tryz.isAgg405
  z45 := Tryz.sizeOf405
  v45 := Tryz.zeroValue405
  t46 := Tryz.underlying406
  a46 := Tryz.isAgg406
  z46 := Tryz.sizeOf406
  v46 := Tryz.zeroValue406
  t50 := Tryz.underlying233
  a50 := Tryz.isAgg233
  z50 := Tryz.sizeOf233
  v50 := Tryz.zeroValue233
  t53 := Tryz.underlying412
  a53 := Tryz.isAgg412
  z53 := Tryz.sizeOf412
  v53 := Tryz.zeroValue412
  t55 := Tryz.underlying203
  a55 := Tryz.isAgg203
  z55 := Tryz.sizeOf203
  v55 := Tryz.zeroValue203
  t66 := Tryz.underlying448
  a66 := Tryz.isAgg448
  z66 := Tryz.sizeOf448
  v66 := Tryz.zeroValue448
  t70 := Tryz.underlying156
  a70 := Tryz.isAgg156
  z70 := Tryz.sizeOf156
  v70 := Tryz.zeroValue156
  t76 := Tryz.underlying460
  a76 := Tryz.isAgg460
  z76 := Tryz.sizeOf460
  v76 := Tryz.zeroValue460
  t77 := Tryz.underlying136
  a77 := Tryz.isAgg136
  z77 := Tryz.sizeOf136
  v77 := Tryz.zeroValue136 }
open Go.RowKit Go.Lib Go.Sort in

theorem Tryz.slices_SortFunc_none {α : Type} [Inhabited α] (p : Option Addr) (cap : Nat) (fv : Value) (w : World) :
    Calls Tryz.prog 377 #[.slice p 0 cap, fv] w fun e w' => e = .returned (.tuple #[]) ∧ w' = w := AnyF.slices_SortFunc_none Tryz.laysSlF06_f377 p cap fv w
open Go.RowKit Go.Lib Go.Sort in

theorem Tryz.slices_SortFunc_total {α : Type} [Inhabited α] (enc : α → Value) (h1 : OneCell enc) (cf : α → α → Int) (hO : SWO (ltOf cf)) (g : Nat) (cb : Array Value) (blk off cap : Nat) (d : Array α) (w : World) (eg : ∀ args w, (callFunc g args).run Tryz.prog w = .ok (.enter g args) w) (hcmp : CmpLays1 Tryz.prog g cb enc cf blk off d.size w) (hH : Holds enc w blk off d) (hblk : blk < w.heap.size) (hsz : d.size < 4611686018427387904) (hT : ∀ x y, (ltOf cf) x y = false → (ltOf cf) y x = false → x = y) :
    Calls Tryz.prog 377 #[.slice (some ⟨blk, off, none⟩) d.size cap, .func (.func g) #[] cb] w fun e w' =>
      e = .returned (.tuple #[]) ∧ ∃ n os, w' = sortWorld enc w blk off n (d.toList.mergeSort fun x y => !(ltOf cf) y x).toArray os := Any.slices_SortFunc_total Tryz.laysSlF6_f377 enc h1 cf hO g cb blk off cap d w eg hcmp hH hblk hsz hT
end Go.Proofs.YtnakhfmnchmhjaaGreat
/-
  Ranges over maps: the iterator is a piece of its own; what it has handed out is a list of keys.
-/
namespace Go.Proofs.YtnakhfmnchmhjaaGreat.SL
set_option linter.unusedVariables false
set_option linter.unusedSectionVars false
open Go.RowKit

section
variable {κ : Type} [DecidableEq κ]

/-- the iterator has handed out the entries of the keys 'done' -/
structure ItP (es : Array MapEntry) (ck since last : Nat) (seen : Array Nat) (m : List (κ × Value)) (done : List κ) : Prop where
  hold : ∀ x ∈ es.toList, x.born < since
  sc : since ≤ last
  ck : since ≤ ck
  rel : ∀ (i : Nat) (e : MapEntry) (p : κ × Value), es[i]? = some e → m[i]? = some p → (seen.contains e.born = true ↔ p.1 ∈ done)

/-- the entry that was handed out last -/
def LastE (es : Array MapEntry) (seen : Array Nat) (key val : Value) : Prop := ∃ e ∈ es.toList, e.key = key ∧ e.val = val ∧ ∃ s0 : Array Nat, seen = s0.push e.born

theorem ItP.start {enc : κ → Value} {es : Array MapEntry} {ck : Nat} {m : List (κ × Value)} (h : MapP enc es ck m) : ItP es ck ck ck #[] m [] :=
  ⟨h.clock, Nat.le_refl _, Nat.le_refl _, fun i e p _ _ => by simp⟩

theorem MapP.at {enc : κ → Value} {es : Array MapEntry} {ck : Nat} {m : List (κ × Value)} (h : MapP enc es ck m) {i : Nat} {e : MapEntry} (he : es[i]? = some e) : ∃ p, m[i]? = some p ∧ e.key = enc p.1 ∧ e.val = p.2 := by
  have h1 := congrArg (fun l => l[i]?) h.eq
  simp only [List.getElem?_map] at h1
  have he' : es.toList[i]? = some e := by simpa using he
  rw [he'] at h1
  cases hp : m[i]? with
  | none => rw [hp] at h1; simp at h1
  | some p =>
    rw [hp] at h1
    simp only [Option.map_some, Option.some.injEq, Prod.mk.injEq] at h1
    exact ⟨p, rfl, h1.1, h1.2⟩
theorem MapP.at' {enc : κ → Value} {es : Array MapEntry} {ck : Nat} {m : List (κ × Value)} (h : MapP enc es ck m) {i : Nat} {p : κ × Value} (hp : m[i]? = some p) : ∃ e, es[i]? = some e ∧ e.key = enc p.1 ∧ e.val = p.2 := by
  have hlt : i < es.size := by rw [h.length]; exact (List.getElem?_eq_some_iff.1 hp).1
  obtain ⟨q, hq, h1, h2⟩ := h.at (Array.getElem?_eq_getElem hlt)
  rw [hp] at hq; cases hq
  exact ⟨_, Array.getElem?_eq_getElem hlt, h1, h2⟩

theorem mget_at {m : List (κ × Value)} (hn : (m.map (·.1)).Nodup) {i : Nat} {p : κ × Value} (hp : m[i]? = some p) : mget m p.1 = some p.2 := by
  induction m generalizing i with
  | nil => simp at hp
  | cons q m ih =>
    obtain ⟨k, v⟩ := q
    rw [List.map_cons, List.nodup_cons] at hn
    cases i with
    | zero => simp at hp; subst hp; simp [mget]
    | succ i =>
      have hp' : m[i]? = some p := by simpa using hp
      have hne : k ≠ p.1 := fun e => hn.1 (by rw [e]; exact List.mem_map.2 ⟨p, List.mem_of_getElem? hp', rfl⟩)
      simp only [mget]
      rw [if_neg (by simpa using hne)]
      exact ih hn.2 hp'

/-- what 'next' hands out -/
def nxV (enc : κ → Value) : Option (κ × Value) → List Value
  | none => [.bool false]
  | some (k, u) => [.bool true, enc k, u]
def NxS (enc : κ → Value) (es : Array MapEntry) (ck since : Nat) (m : List (κ × Value)) (done : List κ) : Option (κ × Value) → Array Nat → Nat → Prop
  | none, _, _ => ∀ p ∈ m, p.1 ∈ done
  | some (k, u), seen', last' => mget m k = some u ∧ k ∉ done ∧ ItP es ck since ck seen' m (k :: done) ∧ LastE es seen' (enc k) u ∧ last' = ck
theorem nxV_ok (enc : κ → Value) (n : Option (κ × Value)) : (nxV enc n)[0]? = some (.bool n.isSome) := by cases n <;> rfl

/-- how many entries are still to come -/
def leftN (m : List (κ × Value)) (done : List κ) : Nat := (m.filter fun p => !decide (p.1 ∈ done)).length
theorem leftN_next {m : List (κ × Value)} {k : κ} {u : Value} {done : List κ} (h : mget m k = some u) (hk : k ∉ done) : leftN m (k :: done) < leftN m done := by
  have hm := mget_mem h
  unfold leftN
  have hsub : (m.filter fun p => !decide (p.1 ∈ k :: done)) = (m.filter fun p => !decide (p.1 ∈ done)).filter fun p => !decide (p.1 = k) := by
    rw [List.filter_filter]
    apply List.filter_congr
    intro p _
    by_cases h1 : p.1 = k <;> by_cases h2 : p.1 ∈ done <;> simp [h1, h2]
  rw [hsub]
  exact List.length_filter_lt_length_iff_exists.2 ⟨(k, u), by rw [List.mem_filter]; exact ⟨hm, by simp [hk]⟩, by simp⟩
theorem mdel_sub (m : List (κ × Value)) (k : κ) : (mdel m k).Sublist m := by
  cases h : mget m k with
  | none => rw [mdel_none h]; exact List.Sublist.refl _
  | some u => rw [mdel_some h]; exact List.eraseIdx_sublist _ _
theorem leftN_del (m : List (κ × Value)) (k : κ) (done : List κ) : leftN (mdel m k) done ≤ leftN m done := ((mdel_sub m k).filter _).length_le

theorem ItP.del {es : Array MapEntry} {ck since last : Nat} {seen : Array Nat} {m : List (κ × Value)} {done : List κ} (h : ItP es ck since last seen m done) (j : Nat) (hl : es.size = m.length) : ItP (es.eraseIdxIfInBounds j) ck since last seen (m.eraseIdx j) done := by
  have hes : (es.eraseIdxIfInBounds j).toList = es.toList.eraseIdx j := by
    unfold Array.eraseIdxIfInBounds
    split
    · simp
    · rename_i hj; rw [List.eraseIdx_of_length_le (by simpa using hj)]
  refine ⟨fun x hx => ?_, h.sc, h.ck, fun i e p he hp => ?_⟩
  · rw [hes] at hx; exact h.hold x (List.mem_of_mem_eraseIdx hx)
  · have he' : (es.toList.eraseIdx j)[i]? = some e := by rw [← hes, Array.getElem?_toList]; exact he
    rw [List.getElem?_eraseIdx] at he' hp
    by_cases hij : i < j
    · rw [if_pos hij] at he' hp; exact h.rel i e p (by simpa using he') hp
    · rw [if_neg hij] at he' hp; exact h.rel (i + 1) e p (by simpa using he') hp

section
variable {X : Cx} {σ : Loc} {L : Sh} {ty T : TypeId} {x y : Operand}

/-- a field of a struct's value -/
theorem Yld.field {fs : Array Field} {f : Field} {i : Nat} {cs : List Value} {v : Value} (ht : X.P.underlying T = some (.struct fs)) (hf : fs[i]? = some f) (hx : ev σ x = some (.agg cs.toArray)) (hp : PartV X.P f.type cs f.offset v) : Yld X (.field T x i) ty σ L v :=
  Yld.of (fun ρ => Instr.field T (ρ x) i) (fun ρ o ho => by simp [execOp, ho]) fun a w ha hm => by
    rw [ha.ev hx]
    simp only [Instr.field, Sem.run_bind, run_underlying ht, Result.andThen_ok, hf, asAgg, Sem.run_pure]
    exact hp w

/-- 'delete(m, k)' while a range goes on -/
theorem Eff.deleteR {kt e c b : Nat} {enc : κ → Value} {k : κ} {es : Array MapEntry} {clock since last : Nat} {seen : Array Nat} {m : List (κ × Value)} {done : List κ} {t2 : TypeId} (ht : X.P.underlying T = some (.map kt e)) (K : KeyOK X.P kt enc) (hx : ev σ x = some (.map (some b))) (hy : ev σ y = some (enc k))
    (hL : lk L c = some (single b (.map es clock))) (hM : MapP enc es clock m) (hI : ItP es clock since last seen m done) : Eff X (.call { callee := .builtin .delete, args := #[x, y], argTypes := #[T, t2] }) ty σ L (fun v L' => v = .tuple #[] ∧ ∃ es', MapP enc es' clock (mdel m k) ∧ ItP es' clock since last seen (mdel m k) done ∧ L' = (c, single b (.map es' clock)) :: L) := fun a w ha hm o ho hty Kk Q hK => by
  have hb := hm.sub c _ hL b _ (single_self _ _)
  have hrun : ∃ w' es', (Builtin.delete_ #[T, t2] ty #[.map (some b), enc k]).run X.P w = .ok (.tuple #[]) w' ∧ MapP enc es' clock (mdel m k) ∧ ItP es' clock since last seen (mdel m k) done ∧ Mem X.E ((c, single b (.map es' clock)) :: L) w' := by
    cases h : mget m k with
    | none =>
      refine ⟨_, es, ?_, by rw [mdel_none h]; exact hM, by rw [mdel_none h]; exact hI, hm.setMap hL _⟩
      simp only [Builtin.delete_, List.getElem?_toArray, List.getElem?_cons_zero, List.getElem?_cons_succ, Sem.run_bind, run_underlying ht, Result.andThen_ok, run_getObj_map hb, K.check, K.find k es.toList m w hM.eq, h, Option.map_none, run_setObj_map hb, Sem.run_pure]
    | some u =>
      refine ⟨_, _, ?_, hM.del k h, by rw [mdel_some h]; exact hI.del _ hM.length, hm.setMap hL _⟩
      simp only [Builtin.delete_, List.getElem?_toArray, List.getElem?_cons_zero, List.getElem?_cons_succ, Sem.run_bind, run_underlying ht, Result.andThen_ok, run_getObj_map hb, K.check, K.find k es.toList m w hM.eq, h, Option.map_some, run_setObj_map hb, Sem.run_pure]
  obtain ⟨w', es', hr, hM', hI', hm'⟩ := hrun
  unfold Oper.wp
  have : (execOp a.eval o).run X.P w = .ok (.value (.tuple #[])) w' := by
    simp only [execOp, ho, resolve, Sem.run_bind, Sem.run_pure, Result.andThen_ok, invoke, builtin, eval2 hx hy a ha, hty]
    rw [hr]; rfl
  rw [this]
  exact hK _ _ w' ⟨rfl, es', hM', hI', rfl⟩ hm'

theorem Eff.range {kt e c b : Nat} {es : Array MapEntry} {ck : Nat} (c' : Nat) (ht : X.P.underlying T = some (.map kt e)) (hx : ev σ x = some (.map (some b))) (hL : lk L c = some (single b (.map es ck))) :
    Eff X (.range T x) ty σ L (fun v L' => ∃ r, v = .pointer (some ⟨r, 0, none⟩) ∧ L' = (c', single r (.mapIter (some b) ck #[] ck)) :: L) :=
  Eff.val (fun ρ => Instr.range T (ρ x)) (fun ρ o ho => by simp [execOp, ho]) fun a w ha hm => by
    rw [ha.ev hx]
    have hb := hm.sub c _ hL b _ (single_self _ _)
    refine ⟨_, _, _, ?_, ⟨w.heap.size, rfl, rfl⟩, hm.alloc c' _⟩
    simp [Instr.range, run_underlying ht, run_getObj_map hb, newObj]
    rfl

theorem Eff.next {c c2 b r : Nat} {enc : κ → Value} {es : Array MapEntry} {ck since last : Nat} {seen : Array Nat} {m : List (κ × Value)} {done : List κ} (hx : ev σ x = some (.pointer (some ⟨r, 0, none⟩))) (hL : lk L c = some (single b (.map es ck))) (hL2 : lk L c2 = some (single r (.mapIter (some b) since seen last)))
    (hM : MapP enc es ck m) (hI : ItP es ck since last seen m done) :
    Eff X (.next x false) ty σ L (fun v L' => ∃ n seen' last', v = .tuple (nxV enc n).toArray ∧ NxS enc es ck since m done n seen' last' ∧ L' = (c2, single r (.mapIter (some b) since seen' last')) :: L) := fun a w ha hm o ho hty K Q hK => by
  have hb := hm.sub c _ hL b _ (single_self _ _)
  have hr := hm.sub c2 _ hL2 r _ (single_self _ _)
  have hexec : ∀ v w', (Instr.next (.pointer (some ⟨r, 0, none⟩)) false ty).run X.P w = .ok v w' → (execOp a.eval o).run X.P w = .ok (.value v) w' := fun v w' h => by
    simp only [execOp, ho, ha.ev hx, Sem.run_bind, hty]
    rw [h]; rfl
  unfold Oper.wp
  rcases run_next_at (P := X.P) w ty r b since last seen es ck hr hb hI.hold hI.sc with ⟨h0, hrun⟩ | ⟨e, he, w1, hw1, hrun⟩
  · rw [hexec _ _ hrun]
    refine hK _ _ w ⟨none, seen, last, rfl, fun p hp => ?_, rfl⟩ (hm.weak fun i J h => by
      rw [lk_cons] at h
      split at h
      · rename_i e'; cases h; rw [← e']; exact hL2
      · exact h)
    obtain ⟨i, hi⟩ := List.getElem?_of_mem hp
    obtain ⟨e, he, h1, h2⟩ := hM.at' hi
    refine (hI.rel i e p he hi).1 ?_
    cases hc : seen.contains e.born with
    | true => rfl
    | false =>
      have : e ∈ (leftOf es seen) := by
        unfold leftOf
        rw [Array.mem_filter]
        exact ⟨Array.mem_of_getElem? he, by rw [hc]; rfl⟩
      rw [Array.eq_empty_of_size_eq_zero h0] at this
      simp at this
  · rw [hexec _ _ hrun]
    have he' : e ∈ es ∧ seen.contains e.born = false := by
      have : e ∈ (leftOf es seen) := by simpa using he
      unfold leftOf at this
      rw [Array.mem_filter] at this
      exact ⟨this.1, by simpa using this.2⟩
    obtain ⟨i, hlt, hi⟩ := Array.getElem_of_mem he'.1
    have hi' : es[i]? = some e := by rw [Array.getElem?_eq_getElem hlt, hi]
    obtain ⟨p, hp, h1, h2⟩ := hM.at hi'
    have hnot : p.1 ∉ done := fun h => by
      have := (hI.rel i e p hi' hp).2 h
      rw [this] at he'; cases he'.2
    have hm1 : Mem X.E L w1 := by rcases hw1 with rfl | rfl; exact hm; exact hm.drew
    have hr1 : w1.heap[r]? = some (.mapIter (some b) since seen last) := by rcases hw1 with rfl | rfl <;> exact hr
    rw [h1, h2]
    refine hK _ _ _ ⟨some (p.1, p.2), seen.push e.born, ck, rfl, ⟨mget_at hM.nodup hp, hnot, ⟨hI.hold, hI.ck, hI.ck, fun j e2 q hj hq => ?_⟩, ⟨e, by simpa using he'.1, h1, h2, seen, rfl⟩, rfl⟩, rfl⟩ ?_
    · rw [List.mem_cons]
      constructor
      · intro h
        simp only [Array.contains_eq_mem, Array.mem_push, decide_eq_true_eq] at h
        rcases h with h | h
        · exact .inr ((hI.rel j e2 q hj hq).1 (by simpa [Array.contains_eq_mem] using h))
        · left
          have hij : j = i := by
            have hjl : es.toList[j]? = some e2 := by simpa using hj
            have hil : es.toList[i]? = some e := by simpa using hi'
            have hb := hM.born
            have hj2 : (es.toList.map (·.born))[j]? = some e2.born := by simp [hjl]
            have hi2 : (es.toList.map (·.born))[i]? = some e.born := by simp [hil]
            have hjlt := (List.getElem?_eq_some_iff.1 hj2).1
            exact (List.getElem?_inj hjlt hb).1 (by rw [hj2, hi2, h])
          subst hij
          rw [hp] at hq; cases hq; rfl
      · rintro (h | h)
        · have hij : j = i := by
            have hn := hM.nodup
            have hj2 : (m.map (·.1))[j]? = some q.1 := by simp [hq]
            have hi2 : (m.map (·.1))[i]? = some p.1 := by simp [hp]
            have hjlt := (List.getElem?_eq_some_iff.1 hj2).1
            exact (List.getElem?_inj hjlt hn).1 (by rw [hj2, hi2, h])
          subst hij
          rw [hi'] at hj; cases hj
          simp [Array.contains_eq_mem]
        · have := (hI.rel j e2 q hj hq).2 h
          simp only [Array.contains_eq_mem, Array.mem_push, decide_eq_true_eq] at this ⊢
          exact .inl this
    · refine hm1.set c2 (.inl hL2) ⟨rfl, rfl, by simp [ChangeMaps.setBlock], fun k hk hD => ?_⟩ (fun k y hk => ?_) (fun k y hk => ?_)
      · have : k ≠ r := fun e => hD ⟨_, by rw [e]; exact single_self _ _⟩
        simp only [ChangeMaps.setBlock]
        rw [Array.getElem?_setIfInBounds_ne (Ne.symm this)]
      · obtain ⟨rfl, rfl⟩ := single_inv hk
        have hlt := (Array.getElem?_eq_some_iff.1 hr1).1
        simp [ChangeMaps.setBlock, hlt]
      · obtain ⟨rfl, rfl⟩ := single_inv hk; exact .inl ⟨_, single_self _ _⟩

/-- the round's key and value -/
theorem Yld.entry {c c2 b r : Nat} {enc : κ → Value} {es : Array MapEntry} {ck since : Nat} {seen : Array Nat} {m : List (κ × Value)} {key val : Value} (hx : ev σ x = some (.pointer (some ⟨r, 0, none⟩))) (hL : lk L c = some (single b (.map es ck))) (hL2 : lk L c2 = some (single r (.mapIter (some b) since seen ck)))
    (hM : MapP enc es ck m) (hE : LastE es seen key val) : Yld X (.entry x) ty σ L (.tuple [key, val].toArray) := fun a w ha hm o ho _ => by
  obtain ⟨e, he, rfl, rfl, s0, rfl⟩ := hE
  have h := run_entry_at (P := X.P) w r b since s0 es ck e (hm.sub c2 _ hL2 r _ (single_self _ _)) (hm.sub c _ hL b _ (single_self _ _)) he hM.born
  simp only [execOp, ho, ha.ev hx, Sem.run_bind, h]
  rfl
end
end
end Go.Proofs.YtnakhfmnchmhjaaGreat.SL
/- Short names for the steps of a walk: what is found by looking is left out. -/
namespace Go.Proofs.YtnakhfmnchmhjaaGreat.SL
set_option linter.unusedVariables false
open Go
open Go.RowKit

section
variable {X : Cx} {Q : Exit → Act → World → Prop} {σ : Loc} {L : Sh} {ops : Array Oper} {l : List Oper} {op : Op} {ty T : TypeId} {pos : String} {after : Array Edge} {x y z : Operand} {Ls : Sh} {p : Plan}

/-! ### quiet operations -/
theorem q_mv {v : Value} (hx : ev σ x = some v := by exact rfl) : Yld X (.move x) ty σ L v := Yld.move hx
theorem q_as {v : Value} (hx : ev σ x = some v := by exact rfl) : Yld X (.assign x) ty σ L v := Yld.assign hx
theorem q_np {p : Addr} (hx : ev σ x = some (.pointer (some p)) := by exact rfl) : Yld X (.nilCheck x) ty σ L (.pointer (some p)) := Yld.nilP hx
theorem q_fa {s f off b o : Nat} (hs : fieldOff X.P s f = some off) (hx : ev σ x = some (.pointer (some ⟨b, o, none⟩)) := by exact rfl) : Yld X (.fieldAddr s x f) ty σ L (.pointer (some ⟨b, o + off, none⟩)) := Yld.fieldAddr hs hx
theorem q_l (c : Nat) {v : Value} {b o : Nat} {H : PH} {cs : List Value} {e : TypeId} {fr : Nat × Nat} {d : TypeDesc} (hT : X.P.underlying T = some d) (hd : aggD d = false := by exact rfl) (hx : ev σ x = some (.pointer (some ⟨b, o, none⟩)) := by exact rfl) (hL : lk L c = some H := by exact rfl)
    (hH : H b = some (.cells cs.toArray e fr) := by first | exact single_self _ _ | exact pset_self _ _ _ | assumption) (hv : cs[o]? = some v := by exact rfl) : Yld X (.load T x) ty σ L v := Yld.load1 hT hd hx hL hH hv
theorem q_lw (c : Nat) {b n : Nat} {H : PH} {cs : List Value} {e : TypeId} {fr : Nat × Nat} {d : TypeDesc} (hT : X.P.underlying T = some d) (hn : sz X.P T n) (hd : aggD d = true := by exact rfl) (hx : ev σ x = some (.pointer (some ⟨b, 0, none⟩)) := by exact rfl) (hL : lk L c = some H := by exact rfl)
    (hH : H b = some (.cells cs.toArray e fr) := by first | exact single_self _ _ | exact pset_self _ _ _ | assumption) (hl : cs.length = n := by exact rfl) : Yld X (.load T x) ty σ L (.agg cs.toArray) := Yld.loadW hT hd hn hx hL hH hl
theorem q_la (c : Nat) {b o n : Nat} {H : PH} {cs vs : List Value} {e : TypeId} {fr : Nat × Nat} {d : TypeDesc} (hT : X.P.underlying T = some d) (hn : sz X.P T n) (hd : aggD d = true := by exact rfl) (hx : ev σ x = some (.pointer (some ⟨b, o, none⟩)) := by exact rfl) (hL : lk L c = some H := by exact rfl)
    (hH : H b = some (.cells cs.toArray e fr) := by first | exact single_self _ _ | exact pset_self _ _ _ | assumption) (hvs : (cs.drop o).take n = vs := by exact rfl) (hl : vs.length = n := by exact rfl) : Yld X (.load T x) ty σ L (.agg vs.toArray) := Yld.loadA hT hd hn hx hL hH hvs hl
theorem q_ix {e c m n : Nat} {p : Option Addr} {k : IntKind} {i : Int} {H : PH} {ls : List (List Value)} (ht : X.P.underlying T = some (.slice e)) (hm : sz X.P e m) (hx : ev σ x = some (.slice p n c) := by exact rfl) (hy : ev σ y = some (.int k i) := by exact rfl)
    (hS : Sl H p c m ls := by first | assumption | exact Own.sl (by assumption)) (hn : n = ls.length := by first | rfl | omega | (simp; done) | (simp; omega)) (h0 : 0 ≤ i := by omega) (h1 : i < ls.length := by first | omega | (simp; done) | (simp; omega)) : Yld X (.indexAddr T x y) ty σ L (.pointer (some (rowAt p (i.toNat * m)))) := Yld.indexRow ht hm hx hy hS hn h0 h1
theorem q_r1 (cl : Nat) {c m i : Nat} {p : Option Addr} {H : PH} {ls : List (List Value)} {v : Value} {d : TypeDesc} (hT : X.P.underlying T = some d) (hd : aggD d = false := by exact rfl) (hx : ev σ x = some (.pointer (some (rowAt p (i * m)))) := by exact rfl) (hL : lk L cl = some H := by exact rfl)
    (hS : Sl H p c m ls := by first | assumption | exact Own.sl (by assumption)) (hl : ls[i]? = some [v] := by first | assumption | simp) : Yld X (.load T x) ty σ L v := Yld.loadRow1 hT hd hx hL hS hl
theorem q_rA (cl : Nat) {c m i : Nat} {p : Option Addr} {H : PH} {ls : List (List Value)} {l : List Value} {d : TypeDesc} (hT : X.P.underlying T = some d) (hn : sz X.P T m) (hd : aggD d = true := by exact rfl) (hx : ev σ x = some (.pointer (some (rowAt p (i * m)))) := by exact rfl) (hL : lk L cl = some H := by exact rfl)
    (hS : Sl H p c m ls := by first | assumption | exact Own.sl (by assumption)) (hl : ls[i]? = some l := by assumption) : Yld X (.load T x) ty σ L (.agg l.toArray) := Yld.loadRow hT hd hn hx hL hS hl
theorem q_rF (cl j : Nat) {c m i : Nat} {p : Option Addr} {H : PH} {ls : List (List Value)} {l : List Value} {v : Value} {d : TypeDesc} (hT : X.P.underlying T = some d) (hd : aggD d = false := by exact rfl) (hx : ev σ x = some (.pointer (some ⟨(rowAt p (i * m)).block, (rowAt p (i * m)).off + j, none⟩)) := by exact rfl) (hL : lk L cl = some H := by exact rfl)
    (hS : Sl H p c m ls := by first | assumption | exact Own.sl (by assumption)) (hl : ls[i]? = some l := by assumption) (hv : l[j]? = some v := by exact rfl) : Yld X (.load T x) ty σ L v := Yld.loadRowF hT hd hx hL hS hl hv
theorem q_b {op : BinOp} {yT : TypeId} {u v r : Value} (h : BinV X.P op T u v r) (hx : ev σ x = some u := by exact rfl) (hy : ev σ y = some v := by exact rfl) : Yld X (.binOp op T x y yT) ty σ L r := Yld.bin hx hy h
theorem q_ad {yT : TypeId} {a b : Int} {r : Value} (hx : ev σ x = some (.int .i64 a) := by exact rfl) (hy : ev σ y = some (.int .i64 b) := by exact rfl) (h : BinV X.P .add T (.int .i64 a) (.int .i64 b) r := by first | exact BinV.add (by omega) (by omega) | exact BinV.addW) : Yld X (.binOp .add T x y yT) ty σ L r := Yld.bin hx hy h
theorem q_sb {yT : TypeId} {a b : Int} {r : Value} (hx : ev σ x = some (.int .i64 a) := by exact rfl) (hy : ev σ y = some (.int .i64 b) := by exact rfl) (h : BinV X.P .sub T (.int .i64 a) (.int .i64 b) r := by first | exact BinV.sub (by omega) (by omega) | exact BinV.subW) : Yld X (.binOp .sub T x y yT) ty σ L r := Yld.bin hx hy h
theorem q_ml {yT : TypeId} {a b : Int} {r : Value} (hx : ev σ x = some (.int .i64 a) := by exact rfl) (hy : ev σ y = some (.int .i64 b) := by exact rfl) (h : BinV X.P .mul T (.int .i64 a) (.int .i64 b) r := by first | exact BinV.mul (by omega) (by omega) | exact BinV.mulW) : Yld X (.binOp .mul T x y yT) ty σ L r := Yld.bin hx hy h
theorem q_x {i : Nat} {vs : List Value} {v : Value} (hx : ev σ x = some (.tuple vs.toArray) := by exact rfl) (hi : vs[i]? = some v := by exact rfl) : Yld X (.extract x i) ty σ L v := Yld.extract hx hi
theorem q_n {e : TypeId} {p : Option Addr} {n c : Nat} (ht : X.P.underlying T = some (.slice e)) (hx : ev σ x = some (.slice p n c) := by exact rfl) : Yld X (.call { callee := .builtin .len, args := #[x], argTypes := #[T] }) ty σ L (.int .i64 n) := Yld.lenSl ht hx
theorem q_ns {s : ByteArray} (ht : X.P.underlying T = some .string) (hx : ev σ x = some (.string s) := by exact rfl) : Yld X (.call { callee := .builtin .len, args := #[x], argTypes := #[T] }) ty σ L (.int .i64 s.size) := Yld.lenS ht hx
theorem q_bp {parts : List (Nat × Operand)} {pl : List (Nat × List Value)} {zs : List Value} {places : List (Nat × Nat)} {cs' : List Value} (hlay : layS X.P T = some (zs, places)) (hp : Parts σ parts pl := by repeat (first | exact .nil | refine .cons rfl rfl ?_)) (hf : fillL places zs pl = some cs' := by exact rfl) : Yld X (.build T parts.toArray) ty σ L (.agg cs'.toArray) := Yld.buildP hlay hp hf
theorem q_fi {fs : Array Field} {f : Field} {i : Nat} {cs : List Value} {v : Value} (ht : X.P.underlying T = some (.struct fs)) (hp : PartV X.P f.type cs f.offset v) (hf : fs[i]? = some f := by exact rfl) (hx : ev σ x = some (.agg cs.toArray) := by exact rfl) : Yld X (.field T x i) ty σ L v := Yld.field ht hf hx hp

/-! ### one step -/
theorem q_q {d : Nat} {v : Value} (hy : Yld X op ty σ L v) (h : RL X ops Q l ((d, v) :: σ) L) (hd : Nat.blt d X.n = true := by exact rfl) : RL X ops Q (⟨some d, op, ty, pos, after, none⟩ :: l) σ L := RL.q hy hd h
theorem q_g {d j t : Nat} {g : Bool} {v : Value} (hy : Yld X op ty σ L v) (h : RL X ops Q l ((d, v) :: σ) L) (hj : guardSlot ops j = some t := by exact rfl) (hx : lk σ t = some (.bool g) := by exact rfl) (hd : Nat.blt d X.n = true := by exact rfl) :
    RL X ops Q (⟨some d, op, ty, pos, after, some (j, g)⟩ :: l) σ L := RL.gq hj hx hy hd h
theorem q_gs {d j t : Nat} {g x : Bool} (h : RL X ops Q l ((d, undef) :: σ) L) (hj : guardSlot ops j = some t := by exact rfl) (hx : lk σ t = some (.bool x) := by exact rfl) (hne : (x == g) = false := by exact rfl) (hd : Nat.blt d X.n = true := by exact rfl) :
    RL X ops Q (⟨some d, op, ty, pos, after, some (j, g)⟩ :: l) σ L := RL.gskip hj hx hne hd h
theorem q_d {i d : Nat} {v : Value} (ho : ops[i]? = some ⟨some d, op, ty, pos, after, none⟩) (hy : Yld X op ty σ Ls v) (h : DL X ops Q Ls p ((d, v) :: σ) L) (hd : Nat.blt d X.n = true := by exact rfl) : DL X ops Q Ls (.q i p) σ L := DL.q ho hy hd h
theorem q_ds {i d j t : Nat} {g x : Bool} (h : DL X ops Q Ls p ((d, undef) :: σ) L) (ho : ops[i]? = some ⟨some d, op, ty, pos, after, some (j, g)⟩ := by exact rfl) (hj : guardSlot ops j = some t := by exact rfl) (hx : lk σ t = some (.bool x) := by exact rfl) (hne : (x == g) = false := by exact rfl) (hd : Nat.blt d X.n = true := by exact rfl) :
    DL X ops Q Ls (.q i p) σ L := DL.gskip ho hj hx hne hd h

theorem q_gu {d j t : Nat} {g : Bool} (h : RL X ops Q l ((d, undef) :: σ) L) (hj : guardSlot ops j = some t := by exact rfl) (hx : lk σ t = some undef := by exact rfl) (hd : Nat.blt d X.n = true := by exact rfl) :
    RL X ops Q (⟨some d, op, ty, pos, after, some (j, g)⟩ :: l) σ L := RL.gskipU hj hx hd h
theorem q_du {i d j t : Nat} {g : Bool} (h : DL X ops Q Ls p ((d, undef) :: σ) L) (ho : ops[i]? = some ⟨some d, op, ty, pos, after, some (j, g)⟩ := by exact rfl) (hj : guardSlot ops j = some t := by exact rfl) (hx : lk σ t = some undef := by exact rfl) (hd : Nat.blt d X.n = true := by exact rfl) :
    DL X ops Q Ls (.q i p) σ L := DL.gskipU ho hj hx hd h
theorem q_dg {i d j t : Nat} {g : Bool} {v : Value} (ho : ops[i]? = some ⟨some d, op, ty, pos, after, some (j, g)⟩) (hy : Yld X op ty σ Ls v) (h : DL X ops Q Ls p ((d, v) :: σ) L) (hj : guardSlot ops j = some t := by exact rfl) (hx : lk σ t = some (.bool g) := by exact rfl) (hd : Nat.blt d X.n = true := by exact rfl) :
    DL X ops Q Ls (.q i p) σ L := DL.gq ho hj hx hy hd h
theorem q_dm {σ' : Loc} {L' : Sh} (hS : Keep σ σ' := by exact .to rfl) (hL : Keep L L' := by exact .to rfl) : DL X ops (Mid Q (Meet3 X Ls σ' L')) Ls .done σ L := DL.meet hS hL

/-! ### effects -/
theorem q_e {d : Nat} {R : Value → Sh → Prop} (hy : Eff X op ty σ L R) (h : ∀ v L', R v L' → RL X ops Q l ((d, v) :: σ) L') (hd : Nat.blt d X.n = true := by exact rfl) : RL X ops Q (⟨some d, op, ty, pos, after, none⟩ :: l) σ L := RL.e hy hd h
theorem q_st (c : Nat) {b o n : Nat} {cs : List Value} {e : TypeId} {v : Value} {vs : List Value} {cs' : List Value} (hn : sz X.P T n) (hx : ev σ x = some (.pointer (some ⟨b, o, none⟩)) := by exact rfl) (hy : ev σ y = some v := by exact rfl) (hL : lk L c = some (single b (.cells cs.toArray e (0, 0))) := by exact rfl)
    (hv : v.cells = vs.toArray := by exact rfl) (hl : vs.length = n := by exact rfl) (ho : Nat.ble (o + n) cs.length = true := by exact rfl) (h1 : vs.all (·.oneCell') = true := by exact rfl) (hcs : putAt cs o vs = cs' := by (try simp only [putAt, List.take, List.drop, List.nil_append, List.cons_append, List.append_nil, List.length_cons, List.length_nil, Nat.add_zero, Nat.zero_add, Nat.reduceAdd]); rfl) :
    Eff X (.store T x y) ty σ L (fun _ L' => L' = (c, single b (.cells cs'.toArray e (0, 0))) :: L) := Eff.storeS vs hn hx hy hL hv hl ho h1 hcs
theorem q_s {b o n : Nat} (cc : Nat) {cs : List Value} {e : TypeId} {v : Value} {vs : List Value} {cs' : List Value} (hn : sz X.P T n)
    (h : RL X ops Q l σ ((cc, single b (.cells cs'.toArray e (0, 0))) :: L)) (hx : ev σ x = some (.pointer (some ⟨b, o, none⟩)) := by exact rfl) (hy : ev σ y = some v := by exact rfl) (hL : lk L cc = some (single b (.cells cs.toArray e (0, 0))) := by exact rfl)
    (hv : v.cells = vs.toArray := by exact rfl) (hl : vs.length = n := by exact rfl) (ho : Nat.ble (o + n) cs.length = true := by exact rfl) (h1 : vs.all (·.oneCell') = true := by exact rfl) (hcs : putAt cs o vs = cs' := by (try simp only [putAt, List.take, List.drop, List.nil_append, List.cons_append, List.append_nil, List.length_cons, List.length_nil, Nat.add_zero, Nat.zero_add, Nat.reduceAdd]); rfl) :
    RL X ops Q (⟨none, .store T x y, ty, pos, after, none⟩ :: l) σ L := RL.e0 (Eff.storeS vs hn hx hy hL hv hl ho h1 hcs) (by rintro _ _ rfl; exact h)
theorem q_bx (c : Nat) {d : Nat} {v : Value} {vs : List Value} (h : ∀ b, RL X ops Q l ((d, .pointer (some ⟨b, 0, none⟩)) :: σ) ((c, single b (.cells vs.toArray T (0, 0))) :: L)) (hx : ev σ x = some v := by exact rfl) (hv : v.cells = vs.toArray := by exact rfl) (hd : Nat.blt d X.n = true := by exact rfl) :
    RL X ops Q (⟨some d, .box T x, ty, pos, after, none⟩ :: l) σ L := RL.e (Eff.box c vs hx hv) hd (by rintro _ _ ⟨b, rfl, rfl⟩; exact h b)
theorem q_al (c : Nat) {d : Nat} {cs : List Value} (hz : zc X.P T cs) (h : ∀ b, RL X ops Q l ((d, .pointer (some ⟨b, 0, none⟩)) :: σ) ((c, single b (.cells cs.toArray T (0, 0))) :: L)) (hd : Nat.blt d X.n = true := by exact rfl) :
    RL X ops Q (⟨some d, .alloc T, ty, pos, after, none⟩ :: l) σ L := RL.e (Eff.alloc c hz) hd (by rintro _ _ ⟨b, rfl, rfl⟩; exact h b)
theorem q_c {f : FuncId} {xs : List Operand} {ts : Array TypeId} {vs : List Value} {Hs : List PH} {R0 : Value → List PH → Prop} (hent : Ent X.P f) (ins outs : List Nat) (hf : Ct X.P f vs Hs R0)
    (hargs : Evs σ xs vs := by repeat (first | exact .nil | refine .cons rfl ?_)) (hin : lks L ins = some Hs := by exact rfl) (hni : nodupB ins = true := by exact rfl) (hno : nodupB outs = true := by exact rfl) (hio : ins.all outs.contains = true := by exact rfl)
    (hlen : ∀ v Hs', R0 v Hs' → outs.length = Hs'.length := by intro _ _ h; (repeat (obtain ⟨_, h⟩ := h)); first | rfl | (subst h; rfl)) :
    Eff X (.call { callee := .value (.func f), args := xs.toArray, argTypes := ts }) ty σ L (fun v L' => ∃ Hs', R0 v Hs' ∧ L' = relab outs Hs' L) := Eff.call hent ins outs hargs hf hin hni hno hio hlen

theorem q_o {i d : Nat} {R : Value → Sh → Prop} (ho : ops[i]? = some ⟨some d, op, ty, pos, after, none⟩) (hy : Eff X op ty σ L R) (h : ∀ v L', R v L' → DL X ops Q Ls p ((d, v) :: σ) L') (hd : Nat.blt d X.n = true := by exact rfl)
    (hLs : ∀ v L', R v L' → Keep L' Ls := by intro _ _ h; first | (obtain ⟨_, h, rfl⟩ := h; (repeat (obtain ⟨_, h⟩ := h)); (try subst h); (repeat (first | exact .nil | refine .cons rfl ?_)); done) | ((repeat (obtain ⟨_, h⟩ := h)); (try subst h); (repeat (first | exact .nil | refine .cons rfl ?_)); done)) : DL X ops Q Ls (.one i p) σ L := DL.one ho hy hd hLs h
theorem q_o0 {i : Nat} {R : Value → Sh → Prop} (ho : ops[i]? = some ⟨none, op, ty, pos, after, none⟩) (hy : Eff X op ty σ L R) (h : ∀ v L', R v L' → DL X ops Q Ls p σ L')
    (hLs : ∀ v L', R v L' → Keep L' Ls := by intro _ _ h; first | (obtain ⟨_, h, rfl⟩ := h; (repeat (obtain ⟨_, h⟩ := h)); (try subst h); (repeat (first | exact .nil | refine .cons rfl ?_)); done) | ((repeat (obtain ⟨_, h⟩ := h)); (try subst h); (repeat (first | exact .nil | refine .cons rfl ?_)); done)) : DL X ops Q Ls (.one i p) σ L := DL.one0 ho hy hLs h
theorem q_m {σ' : Loc} {L' : Sh} (hS : Keep σ σ' := by exact .to rfl) (hL : Keep L L' := by exact .to rfl) : RL X ops (Mid Q (Meet X σ' L')) [] σ L := RL.nil (N.meet hS hL)
theorem q_or {σ0 : Loc} {L0 : Sh} (t d : Nat) {b c : Bool} (k : Nat) (ks cs : List Nat)
    (h1 : b = false → RL X ops (Mid Q (Meet X ((d, .bool c) :: σ0) L0)) (l.take k) ((t, .bool false) :: σ0) L0)
    (h2 : b = true → RL X ops (Mid Q (Meet X ((d, .bool true) :: σ0) L0)) (l.take k) ((t, .bool true) :: σ0) L0)
    (h : RL X ops Q (l.drop k) ((d, .bool (b || c)) :: σ0) L0) (hx : lk σ t = some (.bool b) := by exact rfl) (hk : pk σ ks = some σ0 := by exact rfl) (hL : pk L cs = some L0 := by exact rfl) : RL X ops Q l σ L := RL.or k hx (.of ks hk) (.of cs hL) h1 h2 h
theorem q_and {σ0 : Loc} {L0 : Sh} (t d : Nat) {b c : Bool} (k : Nat) (ks cs : List Nat)
    (h1 : b = true → RL X ops (Mid Q (Meet X ((d, .bool c) :: σ0) L0)) (l.take k) ((t, .bool true) :: σ0) L0)
    (h2 : b = false → RL X ops (Mid Q (Meet X ((d, .bool false) :: σ0) L0)) (l.take k) ((t, .bool false) :: σ0) L0)
    (h : RL X ops Q (l.drop k) ((d, .bool (b && c)) :: σ0) L0) (hx : lk σ t = some (.bool b) := by exact rfl) (hk : pk σ ks = some σ0 := by exact rfl) (hL : pk L cs = some L0 := by exact rfl) : RL X ops Q l σ L := RL.and k hx (.of ks hk) (.of cs hL) h1 h2 h

/-! ### what stands around -/
theorem q_k {c : Code} {σ' : Loc} {L' : Sh} (ks cs : List Nat) (h : W X c Q σ' L') (hσ : pk σ ks = some σ' := by exact rfl) (hL : pk L cs = some L' := by exact rfl) : W X c Q σ L := W.keep (.of ks hσ) (.of cs hL) h
theorem q_sr {id : Nat} {l : List Oper} {y : Code} (h : RL X l.toArray (Exit.then (y.wp X.P Q) Q) l σ L) : W X (.seq (.region id l.toArray false) y) Q σ L := W.seq (W.region h)
theorem q_nn {y : Code} (h : W X y Q σ L) : RL X ops (Exit.then (y.wp X.P Q) Q) [] σ L := RL.nil (N.next h)
theorem q_an {d : Nat} {v : Value} {y : Code} (h : W X y Q ((d, v) :: σ) L) (hx : ev σ x = some v := by exact rfl) (hd : Nat.blt d X.n = true := by exact rfl) : RL X ops (Exit.then (y.wp X.P Q) Q) [⟨some d, .assign x, ty, pos, after, none⟩] σ L := RL.q (Yld.assign hx) hd (RL.nil (N.next h))
theorem q_cD {c : Operand} {x y : Code} {p : Prop} [Decidable p] (ht : p → W X x Q σ L) (hf : ¬ p → W X y Q σ L) (hc : ev σ c = some (.bool (decide p)) := by exact rfl) : W X (.cond c x y) Q σ L := W.condD hc ht hf
theorem q_cB {c : Operand} {x y : Code} {b : Bool} (ht : b = true → W X x Q σ L) (hf : b = false → W X y Q σ L) (hc : ev σ c = some (.bool b) := by exact rfl) : W X (.cond c x y) Q σ L := W.cond hc ht hf
end
section
variable {α : Type}
theorem q_a {σ l : List (Nat × α)} {k : Nat} {v u : α} (r : Keep σ l) (h : lk σ k = some u := by exact rfl) (e : u = v := by first | rfl | (simp; done) | (congr 1; simp; done) | (congr 1; omega)) : Keep σ ((k, v) :: l) := .as h e r
end
section
variable {P : Program} {n : Nat} {E : Env} {σ : Loc} {L : Sh} {fn : Func} {F : PH} {R : Value → List PH → Prop}
theorem q_rc (c : Nat) {t : Tmp} {ty : TypeId} {b m : Nat} {H : PH} {cs : List Value} {e : TypeId} {fr : Nat × Nat} {d : TypeDesc} (hT : P.underlying ty = some d) (hn : sz P ty m) (hx : lk σ t = some (.pointer (some ⟨b, 0, none⟩)) := by exact rfl) (hL : lk L c = some H := by exact rfl)
    (hH : H b = some (.cells cs.toArray e fr) := by first | exact single_self _ _ | exact pset_self _ _ _ | assumption) (hd : aggD d = true := by exact rfl) (hl : cs.length = m := by exact rfl) : ResV P σ L (.cell t ty) (.agg cs.toArray) :=
  .cell hx hL fun w hs => run_loadVarA hT hd hn hl fun j u hj => by rw [Nat.zero_add, PH.sub.cell hs hH]; exact hj
theorem q_r {vs : List Value} (outs : List Nat) {Hs' : List PH} (hv : ResL P σ L fn.results.toList vs) (ho : lks L outs = some Hs') (hn : (nodupB outs && !outs.contains 0) = true) (hF : lk L 0 = some F) (hR : R (resOf vs) Hs') :
    N ⟨P, n, E⟩ (bodyPost P fn (Post E F R)) .ret σ L := by
  rw [Bool.and_eq_true, Bool.not_eq_true'] at hn
  exact N.retBy outs hv ho hn.1 hn.2 hF hR
end
end Go.Proofs.YtnakhfmnchmhjaaGreat.SL
/- Contracts of package slices. Written by program (walk2.py). -/
namespace Go.Proofs.YtnakhfmnchmhjaaGreat
open SL Cfg
set_option linter.unusedVariables false
set_option linter.unusedSimpArgs false
theorem sz3 : sz Tryz.prog 3 1 := (by kernel_rfl : (Tryz.prog.info? 3).map (·.size) = some 1)
theorem ent277 : Ent Tryz.prog 277 := ⟨_, _, Tryz.func277, by kernel_rfl, rfl⟩
theorem zc3 : zc Tryz.prog 3 [.int .i64 0] := (by kernel_rfl : ((Tryz.prog.info? 3).bind (·.zero)).map (fun v => v.cells.toList) = some [.int .i64 0])
theorem el3 : el Tryz.prog 3 1 8 := .mk (by kernel_rfl)
theorem sz22 : sz Tryz.prog 22 1 := (by kernel_rfl : (Tryz.prog.info? 22).map (·.size) = some 1)
theorem ent278 : Ent Tryz.prog 278 := ⟨_, _, Tryz.func278, by kernel_rfl, rfl⟩
theorem mix : Tryz.prog.follows .mixedOrders = true := by kernel_rfl
abbrev u22 := @Tryz.underlying22
abbrev u3 := @Tryz.underlying3
abbrev u281 := @Tryz.underlying281
theorem int_one (z : Int) : ∀ r ∈ ([[Value.int .i64 z]] : List (List Value)), ∀ v ∈ r, v.oneCell' = true := by
  intro r hr v hv
  simp only [List.mem_singleton] at hr; subst hr
  simp only [List.mem_singleton] at hv; subst hv; rfl
structure Cfg.DI where
  i : Nat
  j : Nat
  H : PH
  ls : List Int
structure Cfg.CI where
  i : Nat
  H : PH
  p : Option Addr
  c : Nat
structure Cfg.SI where
  i : Nat
  H : PH
  p : Option Addr
  c : Nat
  s : List Int

set_option maxRecDepth 100000 in
set_option maxHeartbeats 400000 in
theorem indexFunc1_ct (l : List Int) (H1 : PH) (p : Option Addr) (c : Nat) (hl : Sl H1 p c 1 (iz l)) (f : Nat) (cap : List Value) (G1 : PH) (q : Int → Bool) (hent : Ent Tryz.prog f) (hf : ∀ z : Int, Ct Tryz.prog f (.int .i64 z :: cap) [G1] (fun v Hs => v = .bool (q z) ∧ Hs = [G1])) : Ct Tryz.prog 277 [.slice p l.length c, .func (.func f) [].toArray cap.toArray] [H1, G1] (fun v Hs => ∃ r : Int, v = .int .i64 r ∧ IxF q l r ∧ Hs = [H1, G1]) := by
  refine Ct.body Tryz.func277 rfl Tryz.ntmps277 rfl ?_
  intro E F
  have hmxl := hl.len_le
  simp only [iz_len, maxLen] at hmxl
  refine q_sr (q_an ?_)
  refine W.seq (q_sr (q_q q_mv (q_q (q_n u22) (q_q q_mv (q_nn (W.block ?_))))))
  refine W.loopK (ι := Nat) (fun j => (j ≤ l.length ∧ ∀ (i : Nat) z, i < j → l[i]? = some z → q z = false)) (fun j => [(8, .int .i64 (j : Nat))]) (fun j => []) (fun j => l.length - j) (.of [0, 1, 7] rfl) (.of [0, 1, 2] rfl) 0 ?_ ?_ ?_ ?_
  · exact ⟨Nat.zero_le _, upto0⟩
  · exact (q_a .nil)
  · exact .nil
  rintro j ⟨hj, hI⟩
  refine q_k [8, 0, 1, 7] [0, 1, 2] ?_
  refine q_sr (q_q (q_b BinV.lss) (q_nn (W.seq ?_)))
  first | refine W.condD rfl (fun hc9 => ?_) (fun hc9 => ?_) | (refine W.cond rfl (fun hc9 => ?_) (fun hc9 => ?_) <;> try simp only [Bool.or_eq_true, Bool.and_eq_true, Bool.not_eq_true', Bool.not_eq_false', decide_eq_true_eq, Bool.or_eq_false_iff, Bool.and_eq_false_iff, decide_eq_false_iff_not, beq_iff_eq, beq_eq_false_iff_ne, ne_eq, Decidable.not_not] at hc9)
  ·
   obtain ⟨z, hz, hlz⟩ := iz_at (show j < l.length by omega)
   refine W.skip (N.next (W.seq (W.block (q_sr (q_q q_mv (q_an ?_))))))
   refine q_sr (q_q q_mv (q_q q_mv (q_q q_mv ?_)))
   refine q_q (q_ix u22 sz3) ?_
   refine q_q (by first | exact (by first | exact q_r1 1 u3 | exact q_r1 2 u3) | exact (by first | exact q_rF 1 0 u3 | exact q_rF 2 0 u3)) ?_
   refine q_e (Eff.callV hent [2] [2] rfl (.cons rfl .nil) (hf z) rfl rfl rfl rfl (by rintro _ _ ⟨_, rfl⟩; rfl)) ?_
   rintro _ _ ⟨_, ⟨rfl, rfl⟩, rfl⟩
   refine q_nn (q_k [0, 1, 5, 7, 8, 16] [0, 1, 2] ?_)
   refine W.cond rfl (fun hc16 => ?_) (fun hc16 => ?_)
   ·
    refine q_sr (q_q q_mv (q_an ?_))
    refine q_k [4] [0, 1, 2] ?_
    refine W.ret (N.block_ret (N.then_ret (N.then_ret (N.block_ret (N.then_ret ?_)))))
    exact q_r [1, 2] (.cons (.tmp rfl) .nil) rfl rfl rfl ⟨_, rfl, .inr ⟨j, rfl, ⟨z, hz, hc16⟩, hI⟩, rfl⟩
   ·
    refine W.skip (N.block_normal (N.next (W.region ?_)))
    refine q_q q_ad (q_q q_mv (RL.nil ?_))
    exact N.famK (j + 1) ⟨⟨by omega, upto hI hz (by simpa using hc16)⟩, by omega⟩ (q_a .nil) (.to rfl) .nil (.to rfl)
  ·
   refine W.exit (N.then_exit (N.then_exit (N.block_eq (N.next ?_))))
   refine W.keep .nil (.of [0, 1, 2] rfl) (q_sr (q_an ?_))
   refine W.ret ?_
   exact q_r [1, 2] (.cons (.tmp rfl) .nil) rfl rfl rfl ⟨_, rfl, .inl ⟨rfl, allOf (by omega) hI⟩, rfl⟩

set_option maxRecDepth 100000 in
set_option maxHeartbeats 1600000 in
theorem deleteFunc1_ct (l : List Int) (H1 : PH) (p : Option Addr) (c : Nat) (hO : Own H1 p c 3 1 (iz l)) (f : Nat) (cap : List Value) (G1 : PH) (q : Int → Bool) (hent : Ent Tryz.prog f) (hf : ∀ z : Int, Ct Tryz.prog f (.int .i64 z :: cap) [G1] (fun v Hs => v = .bool (q z) ∧ Hs = [G1])) : Ct Tryz.prog 191 [.slice p l.length c, .func (.func f) [].toArray cap.toArray] [H1, G1] (fun v Hs => ∃ H', v = .slice p (l.filter fun z => !q z).length c ∧ Own H' p c 3 1 (iz (l.filter fun z => !q z)) ∧ Hs = [H', G1]) := by
  refine Ct.body Tryz.func191 rfl Tryz.ntmps191 rfl ?_
  intro E F
  have hl := hO.sl
  have hmxl := hl.len_le
  simp only [iz_len, maxLen] at hmxl
  refine q_sr (q_an ?_)
  refine q_sr (q_q q_mv (q_q q_mv ?_))
  refine q_e (q_c ent277 [1, 2] [1, 2] (indexFunc1_ct l H1 p c hO.sl f cap G1 q hent hf)) ?_
  rintro _ _ ⟨_, ⟨r, rfl, hr, rfl⟩, rfl⟩
  refine q_an ?_
  refine q_k [0, 1, 5] [0, 1, 2] ?_
  refine W.seq (q_sr (q_q q_mv (q_q (q_b BinV.eql) (q_nn ?_))))
  first | refine W.condD rfl (fun hc12 => ?_) (fun hc12 => ?_) | (refine W.cond rfl (fun hc12 => ?_) (fun hc12 => ?_) <;> try simp only [Bool.or_eq_true, Bool.and_eq_true, Bool.not_eq_true', Bool.not_eq_false', decide_eq_true_eq, Bool.or_eq_false_iff, Bool.and_eq_false_iff, decide_eq_false_iff_not, beq_iff_eq, beq_eq_false_iff_ne, ne_eq, Decidable.not_not] at hc12)
  ·
   have hall : ∀ z ∈ l, q z = false := by
     rcases hr with ⟨_, h⟩ | ⟨n, h, _⟩
     · exact h
     · omega
   refine q_sr (q_q q_mv (q_an ?_))
   refine q_k [4] [0, 1, 2] ?_
   refine W.ret (N.then_ret ?_)
   exact q_r [1, 2] (.cons (.tmp rfl) .nil) rfl rfl rfl ⟨H1, by rw [del_none hall]; rfl, by rw [del_none hall]; exact hO, rfl⟩
  ·
   obtain ⟨n, rfl, ⟨zn, hzn, hqn⟩, hbn⟩ := hr.resolve_left (fun h => hc12 h.1)
   have hnl := (List.getElem?_eq_some_iff.1 hzn).1
   refine W.skip (N.next (W.seq (q_sr (q_q q_mv ?_))))
   refine q_q q_ad (q_an ?_)
   refine q_k [0, 1, 5, 6] [0, 1, 2] ?_
   refine W.block ?_
   refine W.loopK (ι := DI) (fun x => (x.i + 1 ≤ x.j ∧ x.j ≤ l.length ∧ x.ls.length = l.length ∧ Own x.H p c 3 1 (iz x.ls) ∧ x.ls.take x.i = (l.take x.j).filter (fun z => !q z) ∧ x.ls.drop x.j = l.drop x.j)) (fun x => [(5, .int .i64 (x.i : Nat)), (6, .int .i64 (x.j : Nat))]) (fun x => [(1, x.H)]) (fun x => l.length - x.j) (.of [0, 1] rfl) (.of [0, 2] rfl) ⟨n, n + 1, H1, l⟩ ?_ ?_ ?_ ?_
   · exact ⟨Nat.le_refl _, by dsimp only; omega, rfl, hO, del_start hnl (fun z hz => by rw [hzn] at hz; cases hz; exact hqn) hbn, rfl⟩
   · exact (q_a (q_a .nil))
   · exact (.to rfl)
   rintro x ⟨hi, hj, hlen, hOx, htk, hdr⟩
   refine q_k [5, 6, 0, 1] [1, 0, 2] ?_
   refine W.seq (q_sr (q_q q_mv (q_q q_mv (q_q (q_n u22) (q_q (q_b BinV.lss) (q_nn ?_))))))
   first | refine W.condD rfl (fun hc19 => ?_) (fun hc19 => ?_) | (refine W.cond rfl (fun hc19 => ?_) (fun hc19 => ?_) <;> try simp only [Bool.or_eq_true, Bool.and_eq_true, Bool.not_eq_true', Bool.not_eq_false', decide_eq_true_eq, Bool.or_eq_false_iff, Bool.and_eq_false_iff, decide_eq_false_iff_not, beq_iff_eq, beq_eq_false_iff_ne, ne_eq, Decidable.not_not] at hc19)
   ·
    obtain ⟨v, hv, _⟩ := iz_at (show x.j < l.length by omega)
    have hlv : (iz x.ls)[x.j]? = some [.int .i64 v] := iz_get (by rw [drop_get hdr (Nat.le_refl _)]; exact hv)
    obtain ⟨o, ho, hlo⟩ := iz_at (show x.i < x.ls.length by omega)
    refine W.skip (N.next (q_k [0, 1, 5, 6] [0, 1, 2] ?_))
    refine W.seq (W.block (q_sr (q_q q_mv (q_q q_mv ?_))))
    refine q_q (q_ix u22 sz3) ?_
    refine q_q (by first | exact (by first | exact q_r1 2 u3 | exact q_r1 1 u3) | exact (by first | exact q_rF 2 0 u3 | exact q_rF 1 0 u3)) ?_
    refine q_an ?_
    refine q_k [0, 1, 5, 6, 7] [0, 1, 2] ?_
    refine q_sr (q_q q_mv (q_q q_mv ?_))
    refine q_e (Eff.callV hent [2] [2] rfl (.cons rfl .nil) (hf v) rfl rfl rfl rfl (by rintro _ _ ⟨_, rfl⟩; rfl)) ?_
    rintro _ _ ⟨_, ⟨rfl, rfl⟩, rfl⟩
    refine q_q Yld.nt (q_nn ?_)
    refine W.cond rfl (fun hc29 => ?_) (fun hc29 => ?_) <;> simp only [Bool.not_eq_true', Bool.not_eq_false'] at hc29
    ·
     refine q_sr (q_q q_mv (q_q q_mv (q_q q_mv ?_)))
     refine q_q (q_ix u22 sz3) ?_
     refine RL.e0 (Eff.storeRow (tc := 1) (j := 0) sz3 rfl rfl rfl hOx hlo rfl rfl rfl rfl rfl) ?_
     rintro _ _ ⟨Hb, hOb, rfl⟩
     refine q_nn (q_k [0, 1, 5, 6] [0, 1, 2] ?_)
     refine W.region (q_q q_mv ?_)
     refine q_q q_ad (q_q q_as (RL.nil (N.block_normal (N.next (W.region (q_q q_mv ?_))))))
     refine q_q q_ad (q_q q_as (RL.nil ?_))
     exact N.famK ⟨x.i + 1, x.j + 1, Hb, x.ls.set x.i v⟩ ⟨⟨by dsimp only; omega, by dsimp only; omega, by dsimp only; rw [List.length_set]; exact hlen, by dsimp only; rw [iz_set]; exact hOb, (del_keep hlen (by omega) htk hdr hv hc29).1, (del_keep hlen (by omega) htk hdr hv hc29).2⟩, by dsimp only; omega⟩ (q_a (q_a .nil)) (.to rfl) (.to rfl) (.to rfl)
    ·
     refine W.skip (N.block_normal (N.next (q_k [0, 1, 5, 6] [0, 1, 2] ?_)))
     refine W.region (q_q q_mv ?_)
     refine q_q q_ad (q_q q_as (RL.nil ?_))
     exact N.famK ⟨x.i, x.j + 1, x.H, x.ls⟩ ⟨⟨by dsimp only; omega, by dsimp only; omega, hlen, hOx, (del_skip htk hdr hv hc29).1, (del_skip htk hdr hv hc29).2⟩, by dsimp only; omega⟩ (q_a (q_a .nil)) (.to rfl) (.to rfl) (.to rfl)
   ·
    have hend : x.j = l.length := by omega
    have hfl : x.ls.take x.i = (l.filter fun z => !q z) := by rw [htk, hend, List.take_length]
    have hfi : (l.filter fun z => !q z).length = x.i := by rw [← hfl, List.length_take]; omega
    refine W.exit (N.then_exit (N.then_exit (N.block_eq (N.next (q_k [0, 5] [0, 1, 2] ?_)))))
    refine q_sr (q_q q_mv (q_q q_mv ?_))
    refine q_q (Yld.sliceL u22 sz3 rfl rfl (by omega) (by first | omega | (simp; done) | (simp; omega))) ?_
    refine RL.e0 (Eff.clearOwn (tc := 1) (k := x.i) u22 zc3 rfl rfl rfl rfl hOx (by simp; omega) rfl (by simp [hlen])) ?_
    rintro _ _ ⟨rfl, Hc, hOc, rfl⟩
    refine q_nn (q_sr (q_q q_mv (q_q q_mv ?_)))
    refine q_q (Yld.sliceH u22 sz3 rfl rfl (by omega) (by first | omega | (simp; done) | (simp; omega))) ?_
    refine q_an ?_
    refine q_k [4] [0, 1, 2] ?_
    refine W.ret ?_
    exact q_r [1, 2] (.cons (.tmp rfl) .nil) rfl rfl rfl ⟨Hc, by rw [hfi]; rfl, by rw [← hfl, iz_take]; exact hOc, rfl⟩

set_option maxRecDepth 100000 in
set_option maxHeartbeats 400000 in
theorem indexFunc2_ct (l : List Int) (H1 : PH) (p : Option Addr) (c : Nat) (hl : Sl H1 p c 1 (iz l)) (f : Nat) (cap : List Value) (G1 G2 : PH) (q : Int → Bool) (hent : Ent Tryz.prog f) (hf : ∀ z : Int, Ct Tryz.prog f (.int .i64 z :: cap) [G1, G2] (fun v Hs => v = .bool (q z) ∧ Hs = [G1, G2])) : Ct Tryz.prog 277 [.slice p l.length c, .func (.func f) [].toArray cap.toArray] [H1, G1, G2] (fun v Hs => ∃ r : Int, v = .int .i64 r ∧ IxF q l r ∧ Hs = [H1, G1, G2]) := by
  refine Ct.body Tryz.func277 rfl Tryz.ntmps277 rfl ?_
  intro E F
  have hmxl := hl.len_le
  simp only [iz_len, maxLen] at hmxl
  refine q_sr (q_an ?_)
  refine W.seq (q_sr (q_q q_mv (q_q (q_n u22) (q_q q_mv (q_nn (W.block ?_))))))
  refine W.loopK (ι := Nat) (fun j => (j ≤ l.length ∧ ∀ (i : Nat) z, i < j → l[i]? = some z → q z = false)) (fun j => [(8, .int .i64 (j : Nat))]) (fun j => []) (fun j => l.length - j) (.of [0, 1, 7] rfl) (.of [0, 1, 2, 3] rfl) 0 ?_ ?_ ?_ ?_
  · exact ⟨Nat.zero_le _, upto0⟩
  · exact (q_a .nil)
  · exact .nil
  rintro j ⟨hj, hI⟩
  refine q_k [8, 0, 1, 7] [0, 1, 2, 3] ?_
  refine q_sr (q_q (q_b BinV.lss) (q_nn (W.seq ?_)))
  first | refine W.condD rfl (fun hc9 => ?_) (fun hc9 => ?_) | (refine W.cond rfl (fun hc9 => ?_) (fun hc9 => ?_) <;> try simp only [Bool.or_eq_true, Bool.and_eq_true, Bool.not_eq_true', Bool.not_eq_false', decide_eq_true_eq, Bool.or_eq_false_iff, Bool.and_eq_false_iff, decide_eq_false_iff_not, beq_iff_eq, beq_eq_false_iff_ne, ne_eq, Decidable.not_not] at hc9)
  ·
   obtain ⟨z, hz, hlz⟩ := iz_at (show j < l.length by omega)
   refine W.skip (N.next (W.seq (W.block (q_sr (q_q q_mv (q_an ?_))))))
   refine q_sr (q_q q_mv (q_q q_mv (q_q q_mv ?_)))
   refine q_q (q_ix u22 sz3) ?_
   refine q_q (by first | exact (by first | exact q_r1 1 u3 | exact q_r1 2 u3 | exact q_r1 3 u3) | exact (by first | exact q_rF 1 0 u3 | exact q_rF 2 0 u3 | exact q_rF 3 0 u3)) ?_
   refine q_e (Eff.callV hent [2, 3] [2, 3] rfl (.cons rfl .nil) (hf z) rfl rfl rfl rfl (by rintro _ _ ⟨_, rfl⟩; rfl)) ?_
   rintro _ _ ⟨_, ⟨rfl, rfl⟩, rfl⟩
   refine q_nn (q_k [0, 1, 5, 7, 8, 16] [0, 1, 2, 3] ?_)
   refine W.cond rfl (fun hc16 => ?_) (fun hc16 => ?_)
   ·
    refine q_sr (q_q q_mv (q_an ?_))
    refine q_k [4] [0, 1, 2, 3] ?_
    refine W.ret (N.block_ret (N.then_ret (N.then_ret (N.block_ret (N.then_ret ?_)))))
    exact q_r [1, 2, 3] (.cons (.tmp rfl) .nil) rfl rfl rfl ⟨_, rfl, .inr ⟨j, rfl, ⟨z, hz, hc16⟩, hI⟩, rfl⟩
   ·
    refine W.skip (N.block_normal (N.next (W.region ?_)))
    refine q_q q_ad (q_q q_mv (RL.nil ?_))
    exact N.famK (j + 1) ⟨⟨by omega, upto hI hz (by simpa using hc16)⟩, by omega⟩ (q_a .nil) (.to rfl) .nil (.to rfl)
  ·
   refine W.exit (N.then_exit (N.then_exit (N.block_eq (N.next ?_))))
   refine W.keep .nil (.of [0, 1, 2, 3] rfl) (q_sr (q_an ?_))
   refine W.ret ?_
   exact q_r [1, 2, 3] (.cons (.tmp rfl) .nil) rfl rfl rfl ⟨_, rfl, .inl ⟨rfl, allOf (by omega) hI⟩, rfl⟩

set_option maxRecDepth 100000 in
set_option maxHeartbeats 1600000 in
theorem deleteFunc2_ct (l : List Int) (H1 : PH) (p : Option Addr) (c : Nat) (hO : Own H1 p c 3 1 (iz l)) (f : Nat) (cap : List Value) (G1 G2 : PH) (q : Int → Bool) (hent : Ent Tryz.prog f) (hf : ∀ z : Int, Ct Tryz.prog f (.int .i64 z :: cap) [G1, G2] (fun v Hs => v = .bool (q z) ∧ Hs = [G1, G2])) : Ct Tryz.prog 191 [.slice p l.length c, .func (.func f) [].toArray cap.toArray] [H1, G1, G2] (fun v Hs => ∃ H', v = .slice p (l.filter fun z => !q z).length c ∧ Own H' p c 3 1 (iz (l.filter fun z => !q z)) ∧ Hs = [H', G1, G2]) := by
  refine Ct.body Tryz.func191 rfl Tryz.ntmps191 rfl ?_
  intro E F
  have hl := hO.sl
  have hmxl := hl.len_le
  simp only [iz_len, maxLen] at hmxl
  refine q_sr (q_an ?_)
  refine q_sr (q_q q_mv (q_q q_mv ?_))
  refine q_e (q_c ent277 [1, 2, 3] [1, 2, 3] (indexFunc2_ct l H1 p c hO.sl f cap G1 G2 q hent hf)) ?_
  rintro _ _ ⟨_, ⟨r, rfl, hr, rfl⟩, rfl⟩
  refine q_an ?_
  refine q_k [0, 1, 5] [0, 1, 2, 3] ?_
  refine W.seq (q_sr (q_q q_mv (q_q (q_b BinV.eql) (q_nn ?_))))
  first | refine W.condD rfl (fun hc12 => ?_) (fun hc12 => ?_) | (refine W.cond rfl (fun hc12 => ?_) (fun hc12 => ?_) <;> try simp only [Bool.or_eq_true, Bool.and_eq_true, Bool.not_eq_true', Bool.not_eq_false', decide_eq_true_eq, Bool.or_eq_false_iff, Bool.and_eq_false_iff, decide_eq_false_iff_not, beq_iff_eq, beq_eq_false_iff_ne, ne_eq, Decidable.not_not] at hc12)
  ·
   have hall : ∀ z ∈ l, q z = false := by
     rcases hr with ⟨_, h⟩ | ⟨n, h, _⟩
     · exact h
     · omega
   refine q_sr (q_q q_mv (q_an ?_))
   refine q_k [4] [0, 1, 2, 3] ?_
   refine W.ret (N.then_ret ?_)
   exact q_r [1, 2, 3] (.cons (.tmp rfl) .nil) rfl rfl rfl ⟨H1, by rw [del_none hall]; rfl, by rw [del_none hall]; exact hO, rfl⟩
  ·
   obtain ⟨n, rfl, ⟨zn, hzn, hqn⟩, hbn⟩ := hr.resolve_left (fun h => hc12 h.1)
   have hnl := (List.getElem?_eq_some_iff.1 hzn).1
   refine W.skip (N.next (W.seq (q_sr (q_q q_mv ?_))))
   refine q_q q_ad (q_an ?_)
   refine q_k [0, 1, 5, 6] [0, 1, 2, 3] ?_
   refine W.block ?_
   refine W.loopK (ι := DI) (fun x => (x.i + 1 ≤ x.j ∧ x.j ≤ l.length ∧ x.ls.length = l.length ∧ Own x.H p c 3 1 (iz x.ls) ∧ x.ls.take x.i = (l.take x.j).filter (fun z => !q z) ∧ x.ls.drop x.j = l.drop x.j)) (fun x => [(5, .int .i64 (x.i : Nat)), (6, .int .i64 (x.j : Nat))]) (fun x => [(1, x.H)]) (fun x => l.length - x.j) (.of [0, 1] rfl) (.of [0, 2, 3] rfl) ⟨n, n + 1, H1, l⟩ ?_ ?_ ?_ ?_
   · exact ⟨Nat.le_refl _, by dsimp only; omega, rfl, hO, del_start hnl (fun z hz => by rw [hzn] at hz; cases hz; exact hqn) hbn, rfl⟩
   · exact (q_a (q_a .nil))
   · exact (.to rfl)
   rintro x ⟨hi, hj, hlen, hOx, htk, hdr⟩
   refine q_k [5, 6, 0, 1] [1, 0, 2, 3] ?_
   refine W.seq (q_sr (q_q q_mv (q_q q_mv (q_q (q_n u22) (q_q (q_b BinV.lss) (q_nn ?_))))))
   first | refine W.condD rfl (fun hc19 => ?_) (fun hc19 => ?_) | (refine W.cond rfl (fun hc19 => ?_) (fun hc19 => ?_) <;> try simp only [Bool.or_eq_true, Bool.and_eq_true, Bool.not_eq_true', Bool.not_eq_false', decide_eq_true_eq, Bool.or_eq_false_iff, Bool.and_eq_false_iff, decide_eq_false_iff_not, beq_iff_eq, beq_eq_false_iff_ne, ne_eq, Decidable.not_not] at hc19)
   ·
    obtain ⟨v, hv, _⟩ := iz_at (show x.j < l.length by omega)
    have hlv : (iz x.ls)[x.j]? = some [.int .i64 v] := iz_get (by rw [drop_get hdr (Nat.le_refl _)]; exact hv)
    obtain ⟨o, ho, hlo⟩ := iz_at (show x.i < x.ls.length by omega)
    refine W.skip (N.next (q_k [0, 1, 5, 6] [0, 1, 2, 3] ?_))
    refine W.seq (W.block (q_sr (q_q q_mv (q_q q_mv ?_))))
    refine q_q (q_ix u22 sz3) ?_
    refine q_q (by first | exact (by first | exact q_r1 2 u3 | exact q_r1 3 u3 | exact q_r1 1 u3) | exact (by first | exact q_rF 2 0 u3 | exact q_rF 3 0 u3 | exact q_rF 1 0 u3)) ?_
    refine q_an ?_
    refine q_k [0, 1, 5, 6, 7] [0, 1, 2, 3] ?_
    refine q_sr (q_q q_mv (q_q q_mv ?_))
    refine q_e (Eff.callV hent [2, 3] [2, 3] rfl (.cons rfl .nil) (hf v) rfl rfl rfl rfl (by rintro _ _ ⟨_, rfl⟩; rfl)) ?_
    rintro _ _ ⟨_, ⟨rfl, rfl⟩, rfl⟩
    refine q_q Yld.nt (q_nn ?_)
    refine W.cond rfl (fun hc29 => ?_) (fun hc29 => ?_) <;> simp only [Bool.not_eq_true', Bool.not_eq_false'] at hc29
    ·
     refine q_sr (q_q q_mv (q_q q_mv (q_q q_mv ?_)))
     refine q_q (q_ix u22 sz3) ?_
     refine RL.e0 (Eff.storeRow (tc := 1) (j := 0) sz3 rfl rfl rfl hOx hlo rfl rfl rfl rfl rfl) ?_
     rintro _ _ ⟨Hb, hOb, rfl⟩
     refine q_nn (q_k [0, 1, 5, 6] [0, 1, 2, 3] ?_)
     refine W.region (q_q q_mv ?_)
     refine q_q q_ad (q_q q_as (RL.nil (N.block_normal (N.next (W.region (q_q q_mv ?_))))))
     refine q_q q_ad (q_q q_as (RL.nil ?_))
     exact N.famK ⟨x.i + 1, x.j + 1, Hb, x.ls.set x.i v⟩ ⟨⟨by dsimp only; omega, by dsimp only; omega, by dsimp only; rw [List.length_set]; exact hlen, by dsimp only; rw [iz_set]; exact hOb, (del_keep hlen (by omega) htk hdr hv hc29).1, (del_keep hlen (by omega) htk hdr hv hc29).2⟩, by dsimp only; omega⟩ (q_a (q_a .nil)) (.to rfl) (.to rfl) (.to rfl)
    ·
     refine W.skip (N.block_normal (N.next (q_k [0, 1, 5, 6] [0, 1, 2, 3] ?_)))
     refine W.region (q_q q_mv ?_)
     refine q_q q_ad (q_q q_as (RL.nil ?_))
     exact N.famK ⟨x.i, x.j + 1, x.H, x.ls⟩ ⟨⟨by dsimp only; omega, by dsimp only; omega, hlen, hOx, (del_skip htk hdr hv hc29).1, (del_skip htk hdr hv hc29).2⟩, by dsimp only; omega⟩ (q_a (q_a .nil)) (.to rfl) (.to rfl) (.to rfl)
   ·
    have hend : x.j = l.length := by omega
    have hfl : x.ls.take x.i = (l.filter fun z => !q z) := by rw [htk, hend, List.take_length]
    have hfi : (l.filter fun z => !q z).length = x.i := by rw [← hfl, List.length_take]; omega
    refine W.exit (N.then_exit (N.then_exit (N.block_eq (N.next (q_k [0, 5] [0, 1, 2, 3] ?_)))))
    refine q_sr (q_q q_mv (q_q q_mv ?_))
    refine q_q (Yld.sliceL u22 sz3 rfl rfl (by omega) (by first | omega | (simp; done) | (simp; omega))) ?_
    refine RL.e0 (Eff.clearOwn (tc := 1) (k := x.i) u22 zc3 rfl rfl rfl rfl hOx (by simp; omega) rfl (by simp [hlen])) ?_
    rintro _ _ ⟨rfl, Hc, hOc, rfl⟩
    refine q_nn (q_sr (q_q q_mv (q_q q_mv ?_)))
    refine q_q (Yld.sliceH u22 sz3 rfl rfl (by omega) (by first | omega | (simp; done) | (simp; omega))) ?_
    refine q_an ?_
    refine q_k [4] [0, 1, 2, 3] ?_
    refine W.ret ?_
    exact q_r [1, 2, 3] (.cons (.tmp rfl) .nil) rfl rfl rfl ⟨Hc, by rw [hfi]; rfl, by rw [← hfl, iz_take]; exact hOc, rfl⟩

set_option maxRecDepth 100000 in
set_option maxHeartbeats 400000 in
theorem growNil_ct (n : Nat) (hn : n ≤ 1000000) : Ct Tryz.prog 278 [.slice none 0 0, .int .i64 (n : Nat)] [] (fun v Hs => ∃ H' p' c', v = .slice p' 0 c' ∧ Own H' p' c' 3 1 (iz []) ∧ Hs = [H']) := by
  refine Ct.body Tryz.func278 rfl Tryz.ntmps278 rfl ?_
  intro E F
  refine W.seq ?_
  refine W.imp (Imp.empty _ 30) (W.region (q_an ?_))
  refine W.seq (q_sr (q_q q_mv (q_q (q_b BinV.lss) (q_nn ?_))))
  first | (refine W.as (t := 6) rfl (boolF (by first | assumption | omega | (simp; done))) ?_; refine W.condF rfl ?_) | refine W.condF rfl ?_
  refine W.skip (N.next (W.seq (q_sr (q_q q_mv (q_q q_mv ?_)))))
  refine q_q (Yld.capSl u22 rfl) (q_q q_mv (q_q (q_n u22) ?_))
  refine q_q q_sb ?_
  refine q_q q_sb (q_an ?_)
  refine q_k [0, 1] [0, 30] ?_
  refine q_sr (q_q q_mv (q_q (q_b BinV.gtr) (q_nn ?_)))
  first | refine W.condD rfl (fun hc16 => ?_) (fun hc16 => ?_) | (refine W.cond rfl (fun hc16 => ?_) (fun hc16 => ?_) <;> try simp only [Bool.or_eq_true, Bool.and_eq_true, Bool.not_eq_true', Bool.not_eq_false', decide_eq_true_eq, Bool.or_eq_false_iff, Bool.and_eq_false_iff, decide_eq_false_iff_not, beq_iff_eq, beq_eq_false_iff_ne, ne_eq, Decidable.not_not] at hc16)
  ·
   refine W.region (q_q q_mv (q_q q_mv ?_))
   refine q_q (Yld.capSl u22 rfl) ?_
   refine q_q (Yld.sliceH u22 sz3 rfl rfl (by omega) (by first | omega | (simp; done) | (simp; omega))) ?_
   refine q_q q_mv ?_
   refine q_e (Eff.appendZ 30 (m := n) u22 u3 el3 zc3 rfl rfl rfl (by omega) (by decide) (by omega) (by simp only [maxLen]; omega)) ?_
   rintro _ _ ⟨Ha, pa, ca, rfl, hOa, rfl⟩
   refine q_q q_mv (q_q (q_n u22) ?_)
   refine q_q (Yld.sliceH u22 sz3 rfl rfl (by omega) (by first | omega | (simp; done) | (simp; omega))) ?_
   refine q_an ?_
   refine q_k [0] [0, 30] ?_
   refine q_sr (q_q q_mv (q_an ?_))
   refine W.ret ?_
   exact q_r [30] (.cons (.tmp rfl) .nil) rfl rfl rfl ⟨Ha, pa, ca, rfl, (hOa.take 0), rfl⟩
  ·
   refine W.skip (N.next (q_sr (q_q q_mv (q_an ?_))))
   refine q_k [4] [0, 30] ?_
   refine W.ret ?_
   exact q_r [30] (.cons (.tmp rfl) .nil) rfl rfl rfl ⟨emp, none, 0, rfl, Own.nil _ _, rfl⟩

def Cfg.SV (s : Option Addr × Nat × List Int) : List Value := [.slice s.1 s.2.2.length s.2.1]

set_option maxRecDepth 100000 in
set_option maxHeartbeats 1600000 in
theorem concat_ct (ss : List (Option Addr × Nat × List Int)) (G H : PH) (q : Option Addr) (d : Nat) (hG : Sl G q d 1 (ss.map SV)) (hH : ∀ s ∈ ss, Sl H s.1 s.2.1 1 (iz s.2.2)) (hT : (catL ss).length ≤ 1000000) : Ct Tryz.prog 192 [.slice q ss.length d] [G, H] (fun v Hs => ∃ H' p' c', v = .slice p' (catL ss).length c' ∧ Own H' p' c' 3 1 (iz (catL ss)) ∧ Hs = [G, H, H']) := by
  refine Ct.body Tryz.func192 rfl Tryz.ntmps192 rfl ?_
  intro E F
  have hmx := hG.len_le
  simp only [List.length_map, maxLen] at hmx
  refine q_sr (q_an ?_)
  refine q_sr (q_an ?_)
  refine W.seq (q_sr (q_q q_mv (q_q (q_n u281) (q_q q_mv (q_nn (W.block ?_))))))
  refine W.loopK (ι := Nat) (fun j => (j ≤ ss.length)) (fun j => [(3, .int .i64 ((catL (ss.take j)).length : Nat)), (11, .int .i64 (j : Nat))]) (fun j => []) (fun j => ss.length - j) (.of [0, 9, 10] rfl) (.of [0, 1, 2] rfl) 0 ?_ ?_ ?_ ?_
  · exact Nat.zero_le _
  · exact (q_a (q_a .nil))
  · exact .nil
  rintro j hj
  refine q_k [3, 11, 0, 9, 10] [0, 1, 2] ?_
  refine q_sr (q_q (q_b BinV.lss) (q_nn (W.seq ?_)))
  first | refine W.condD rfl (fun hc12 => ?_) (fun hc12 => ?_) | (refine W.cond rfl (fun hc12 => ?_) (fun hc12 => ?_) <;> try simp only [Bool.or_eq_true, Bool.and_eq_true, Bool.not_eq_true', Bool.not_eq_false', decide_eq_true_eq, Bool.or_eq_false_iff, Bool.and_eq_false_iff, decide_eq_false_iff_not, beq_iff_eq, beq_eq_false_iff_ne, ne_eq, Decidable.not_not] at hc12)
  ·
   obtain ⟨s, hs⟩ : ∃ s, ss[j]? = some s := ⟨_, List.getElem?_eq_getElem (show j < ss.length by omega)⟩
   have hls : (ss.map SV)[j]? = some [.slice s.1 s.2.2.length s.2.1] := by simp [hs, SV]
   have hct := cat_take hs
   have hctl : (catL (ss.take (j + 1))).length = (catL (ss.take j)).length + s.2.2.length := by rw [hct, List.length_append]
   have hcle := cat_le ss (j + 1)
   refine W.skip (N.next (W.seq (W.block (q_sr ?_))))
   refine q_q (q_ix u281 sz22) ?_
   refine q_q (by first | exact (by first | exact q_r1 1 u22 | exact q_r1 2 u22) | exact (by first | exact q_rF 1 0 u22 | exact q_rF 2 0 u22)) ?_
   refine q_an ?_
   refine q_sr (q_q q_mv (q_q q_mv (q_q (q_n u22) ?_)))
   refine q_q q_ad (q_an ?_)
   refine q_k [0, 3, 9, 10, 11] [0, 1, 2] ?_
   refine q_sr (q_q q_mv (q_q (q_b BinV.lss) (q_nn ?_)))
   first | (refine W.as (t := 20) rfl (boolF (by first | assumption | omega | (simp; done))) ?_; refine W.condF rfl ?_) | refine W.condF rfl ?_
   refine W.skip (N.block_normal (N.next (W.region ?_)))
   refine q_q q_ad (q_q q_mv (RL.nil ?_))
   exact N.famK (j + 1) ⟨by omega, by omega⟩ (.as rfl (by rw [hctl]; rfl) (q_a .nil)) (.to rfl) .nil (.to rfl)
  ·
   refine W.exit (N.then_exit (N.then_exit (N.block_eq (N.next (q_k [0, 3] [0, 1, 2] ?_)))))
   refine q_sr (q_q q_mv ?_)
   refine q_e (q_c ent278 [] [30] (growNil_ct _ (Nat.le_trans (cat_le ss _) hT))) ?_
   rintro _ _ ⟨_, ⟨Hg, pg, cg, rfl, hOg, rfl⟩, rfl⟩
   refine q_an ?_
   refine W.seq (q_sr (q_q q_mv (q_q (q_n u281) (q_q q_mv (q_nn (q_k [6, 25, 26, 27] [0, 1, 2, 30] ?_))))))
   refine W.block ?_
   refine W.loopK (ι := CI) (fun x => (x.i ≤ ss.length ∧ Own x.H x.p x.c 3 1 (iz (catL (ss.take x.i))))) (fun x => [(6, .slice x.p (catL (ss.take x.i)).length x.c), (27, .int .i64 (x.i : Nat))]) (fun x => [(30, x.H)]) (fun x => ss.length - x.i) (.of [25, 26] rfl) (.of [0, 1, 2] rfl) ⟨0, Hg, pg, cg⟩ ?_ ?_ ?_ ?_
   · exact ⟨Nat.zero_le _, hOg⟩
   · exact (q_a (q_a .nil))
   · exact (.to rfl)
   rintro x ⟨hi, hO⟩
   refine q_k [6, 27, 25, 26] [30, 0, 1, 2] ?_
   refine q_sr (q_q (q_b BinV.lss) (q_nn (W.seq ?_)))
   first | refine W.condD rfl (fun hc28 => ?_) (fun hc28 => ?_) | (refine W.cond rfl (fun hc28 => ?_) (fun hc28 => ?_) <;> try simp only [Bool.or_eq_true, Bool.and_eq_true, Bool.not_eq_true', Bool.not_eq_false', decide_eq_true_eq, Bool.or_eq_false_iff, Bool.and_eq_false_iff, decide_eq_false_iff_not, beq_iff_eq, beq_eq_false_iff_ne, ne_eq, Decidable.not_not] at hc28)
   ·
    obtain ⟨s, hs⟩ : ∃ s, ss[x.i]? = some s := ⟨_, List.getElem?_eq_getElem (show x.i < ss.length by omega)⟩
    have hls : (ss.map SV)[x.i]? = some [.slice s.1 s.2.2.length s.2.1] := by simp [hs, SV]
    have hct := cat_take hs
    have hctl : (catL (ss.take (x.i + 1))).length = (catL (ss.take x.i)).length + s.2.2.length := by rw [hct, List.length_append]
    have hcle := cat_le ss (x.i + 1)
    refine W.skip (N.next (W.seq (W.block (q_sr ?_))))
    refine q_q (q_ix u281 sz22) ?_
    refine q_q (by first | exact (by first | exact q_r1 1 u22 | exact q_r1 2 u22 | exact q_r1 30 u22) | exact (by first | exact q_rF 1 0 u22 | exact q_rF 2 0 u22 | exact q_rF 30 0 u22)) ?_
    refine q_an ?_
    refine W.region (q_q q_mv (q_q q_mv ?_))
    refine q_e (Eff.append (tc := 30) (sc := 2) u22 el3 rfl rfl rfl rfl hO (by simp) (hH s (List.mem_of_getElem? hs)) (by simp) (iz_one _) (by decide) (by simp; omega) (by simp [maxLen]; omega)) ?_
    rintro _ _ ⟨Ha, pa, ca, rfl, hOa, rfl⟩
    refine q_q q_as (RL.nil (N.block_normal (N.next (q_k [6, 25, 26, 27] [0, 1, 2, 30] ?_))))
    refine W.region ?_
    refine q_q q_ad (q_q q_mv (RL.nil ?_))
    exact N.famK ⟨x.i + 1, Ha, pa, ca⟩ ⟨⟨by dsimp only; omega, by dsimp only; rw [hct, iz_app]; exact hOa⟩, by dsimp only; omega⟩ (.as rfl (by show Value.slice _ _ _ = Value.slice _ _ _; rw [hct]; simp) (q_a .nil)) (.to rfl) (.to rfl) (.to rfl)
   ·
    have hend : x.i = ss.length := by omega
    refine W.exit (N.then_exit (N.then_exit (N.block_eq (N.next (q_k [6] [0, 1, 2, 30] ?_)))))
    refine q_sr (q_q q_mv (q_an ?_))
    refine W.ret ?_
    exact q_r [1, 2, 30] (.cons (.tmp rfl) .nil) rfl rfl rfl ⟨x.H, x.p, x.c, by rw [hend, List.take_length]; rfl, by rw [hend, List.take_length] at hO; exact hO, rfl⟩

structure Cfg.KI where
  w : Nat
  d : Nat
  H : PH
  ls : List Int

set_option maxRecDepth 100000 in
set_option maxHeartbeats 1600000 in
theorem compact_ct (l : List Int) (H1 : PH) (p : Option Addr) (c n : Nat) (hn : n = l.length) (hO : Own H1 p c 3 1 (iz l)) : Ct Tryz.prog 194 [.slice p n c] [H1] (fun v Hs => ∃ H', v = .slice p (cpt l).length c ∧ Own H' p c 3 1 (iz (cpt l)) ∧ Hs = [H']) := by
  refine Ct.body Tryz.func194 rfl Tryz.ntmps194 rfl ?_
  intro E F
  have hl := hO.sl
  have hmxl := hl.len_le
  simp only [iz_len, maxLen] at hmxl
  refine q_sr (q_an ?_)
  refine W.seq (q_sr (q_q q_mv (q_q (q_n u22) (q_q (q_b BinV.lss) (q_nn ?_)))))
  first | refine W.condD rfl (fun hc8 => ?_) (fun hc8 => ?_) | (refine W.cond rfl (fun hc8 => ?_) (fun hc8 => ?_) <;> try simp only [Bool.or_eq_true, Bool.and_eq_true, Bool.not_eq_true', Bool.not_eq_false', decide_eq_true_eq, Bool.or_eq_false_iff, Bool.and_eq_false_iff, decide_eq_false_iff_not, beq_iff_eq, beq_eq_false_iff_ne, ne_eq, Decidable.not_not] at hc8)
  ·
   have hcl : cpt l = l := by
     have := cpt_id (l := l) (Nat.le_refl _) (fun m z y hm hy hz => by omega)
     rwa [List.take_length] at this
   refine q_sr (q_q q_mv (q_an ?_))
   refine q_k [2] [0, 1] ?_
   refine W.ret (N.then_ret ?_)
   exact q_r [1] (.cons (.tmp rfl) .nil) rfl rfl rfl ⟨H1, by rw [hcl, hn]; rfl, by rw [hcl]; exact hO, rfl⟩
  ·
   refine W.skip (N.next (q_k [0] [0, 1] ?_))
   refine W.seq (q_sr (q_an ?_))
   refine W.block ?_
   refine W.loopK (ι := Nat) (fun i => (1 ≤ i ∧ i ≤ n ∧ ∀ (m : Nat) z y, m + 1 < i → l[m]? = some y → l[m + 1]? = some z → z ≠ y)) (fun i => [(3, .int .i64 (i : Nat))]) (fun i => []) (fun i => n - i) (.of [0] rfl) (.of [0, 1] rfl) 1 ?_ ?_ ?_ ?_
   · exact ⟨Nat.le_refl _, by omega, fun m z y h => by omega⟩
   · exact (q_a .nil)
   · exact .nil
   rintro i ⟨hi1, hi, hI⟩
   refine q_k [3, 0] [0, 1] ?_
   refine W.seq (q_sr (q_q q_mv (q_q q_mv (q_q (q_n u22) (q_q (q_b BinV.lss) (q_nn ?_))))))
   first | refine W.condD rfl (fun hc13 => ?_) (fun hc13 => ?_) | (refine W.cond rfl (fun hc13 => ?_) (fun hc13 => ?_) <;> try simp only [Bool.or_eq_true, Bool.and_eq_true, Bool.not_eq_true', Bool.not_eq_false', decide_eq_true_eq, Bool.or_eq_false_iff, Bool.and_eq_false_iff, decide_eq_false_iff_not, beq_iff_eq, beq_eq_false_iff_ne, ne_eq, Decidable.not_not] at hc13)
   ·
    obtain ⟨a, ha, hla⟩ := iz_at (show i < l.length by omega)
    obtain ⟨b, hb, hlb⟩ := iz_at (show i - 1 < l.length by omega)
    have hlb2 : (iz l)[((i : Int) - 1).toNat]? = some [.int .i64 b] := by rw [show ((i : Int) - 1).toNat = i - 1 by omega]; exact hlb
    refine W.skip (N.next (q_k [0, 3] [0, 1] ?_))
    refine W.seq (W.block (W.seq ?_))
    refine W.draw (.q 0 (.q 1 (.q 2 (.q 3 (.q 4 (.q 5 (.q 6 (.q 7 (.q 8 (.q 9 .done)))))))))) (.of [0, 1] rfl) mix (by kernel_rfl) (by kernel_rfl) (q_d rfl q_mv (q_d rfl q_mv ?_))
    refine q_d rfl (q_ix u22 sz3) ?_
    refine q_d rfl (by first | exact (q_r1 1 u3) | exact (q_rF 1 0 u3)) ?_
    refine q_d rfl q_mv (q_d rfl q_mv ?_)
    refine q_d rfl q_sb ?_
    refine q_d rfl (q_ix u22 sz3) ?_
    refine q_d rfl (by first | exact (q_r1 1 u3) | exact (q_rF 1 0 u3)) ?_
    refine q_d rfl (q_b BinV.eql) (DL.done (N.next (q_k [0, 3, 25] [0, 1] ?_)))
    first | refine W.condD rfl (fun hc25 => ?_) (fun hc25 => ?_) | (refine W.cond rfl (fun hc25 => ?_) (fun hc25 => ?_) <;> try simp only [Bool.or_eq_true, Bool.and_eq_true, Bool.not_eq_true', Bool.not_eq_false', decide_eq_true_eq, Bool.or_eq_false_iff, Bool.and_eq_false_iff, decide_eq_false_iff_not, beq_iff_eq, beq_eq_false_iff_ne, ne_eq, Decidable.not_not] at hc25)
    ·
     have hab : a = b := hc25
     subst hab
     have hst : l.take i = cpt (l.take (i + 0 + 1)) := by
       have h1 := cpt_eq (l := l) (j := i - 1) hb (by rw [show i - 1 + 1 = i by omega]; exact ha)
       rw [show i - 1 + 2 = i + 0 + 1 by omega, show i - 1 + 1 = i by omega] at h1
       rw [h1, cpt_id (by omega) hI]
     refine q_sr (q_q q_mv (q_q q_mv ?_))
     refine q_q (Yld.sliceL u22 sz3 rfl rfl (by omega) (by first | omega | (simp; done) | (simp; omega))) ?_
     refine q_an ?_
     refine q_k [0, 3, 4] [0, 1] ?_
     refine W.seq (q_sr (q_an ?_))
     refine W.block ?_
     refine W.loopK (ι := KI) (fun x => (i + x.d + 1 ≤ l.length ∧ x.w ≤ i + x.d ∧ x.ls.length = l.length ∧ Own x.H p c 3 1 (iz x.ls) ∧ x.ls.take x.w = cpt (l.take (i + x.d + 1)) ∧ x.ls.drop (i + x.d) = l.drop (i + x.d))) (fun x => [(3, .int .i64 (x.w : Nat)), (5, .int .i64 ((x.d + 1 : Nat) : Int))]) (fun x => [(1, x.H)]) (fun x => l.length - x.d) (.of [0, 4] rfl) (.of [0] rfl) ⟨i, 0, H1, l⟩ ?_ ?_ ?_ ?_
     · exact ⟨by dsimp only; omega, Nat.le_refl _, rfl, hO, hst, rfl⟩
     · exact (q_a (q_a .nil))
     · exact (.to rfl)
     rintro x ⟨hd, hw, hlen, hOx, htk, hdr⟩
     refine q_k [3, 5, 0, 4] [1, 0] ?_
     refine W.seq (q_sr (q_q q_mv (q_q q_mv (q_q (q_n u22) (q_q (q_b BinV.lss) (q_nn ?_))))))
     first | refine W.condD rfl (fun hc32 => ?_) (fun hc32 => ?_) | (refine W.cond rfl (fun hc32 => ?_) (fun hc32 => ?_) <;> try simp only [Bool.or_eq_true, Bool.and_eq_true, Bool.not_eq_true', Bool.not_eq_false', decide_eq_true_eq, Bool.or_eq_false_iff, Bool.and_eq_false_iff, decide_eq_false_iff_not, beq_iff_eq, beq_eq_false_iff_ne, ne_eq, Decidable.not_not] at hc32)
     ·
      obtain ⟨y, hy, _⟩ := iz_at (show i + x.d < l.length by omega)
      obtain ⟨z, hz, _⟩ := iz_at (show i + x.d + 1 < l.length by omega)
      have hSd := hOx.sl.drop (k := i) (by simp; omega)
      have hlz : ((iz x.ls).drop i)[x.d + 1]? = some [.int .i64 z] := by rw [List.getElem?_drop, ← Nat.add_assoc]; exact iz_get (by rw [drop_get hdr (by omega)]; exact hz)
      have hly : ((iz x.ls).drop i)[(((x.d + 1 : Nat) : Int) - 1).toNat]? = some [.int .i64 y] := by
        rw [show (((x.d + 1 : Nat) : Int) - 1).toNat = x.d by omega, List.getElem?_drop]
        exact iz_get (by rw [drop_get hdr (Nat.le_refl _)]; exact hy)
      obtain ⟨o, ho, hlo⟩ := iz_at (show x.w < x.ls.length by omega)
      refine W.skip (N.next (q_k [0, 3, 4, 5] [0, 1] ?_))
      refine W.seq (W.block (W.seq ?_))
      refine W.draw (.q 0 (.q 1 (.q 2 (.q 3 (.q 4 (.q 5 (.q 6 (.q 7 (.q 8 (.q 9 .done)))))))))) (.of [0, 1] rfl) mix (by kernel_rfl) (by kernel_rfl) (q_d rfl q_mv (q_d rfl q_mv ?_))
      refine q_d rfl (q_ix u22 sz3) ?_
      refine q_d rfl (by first | exact (q_r1 1 u3) | exact (q_rF 1 0 u3)) ?_
      refine q_d rfl q_mv (q_d rfl q_mv ?_)
      refine q_d rfl q_sb ?_
      refine q_d rfl (q_ix u22 sz3) ?_
      refine q_d rfl (by first | exact (q_r1 1 u3) | exact (q_rF 1 0 u3)) ?_
      refine q_d rfl (q_b BinV.neq) (DL.done (N.next (q_k [0, 3, 4, 5, 44] [0, 1] ?_)))
      first | refine W.condD rfl (fun hc44 => ?_) (fun hc44 => ?_) | (refine W.cond rfl (fun hc44 => ?_) (fun hc44 => ?_) <;> try simp only [Bool.or_eq_true, Bool.and_eq_true, Bool.not_eq_true', Bool.not_eq_false', decide_eq_true_eq, Bool.or_eq_false_iff, Bool.and_eq_false_iff, decide_eq_false_iff_not, beq_iff_eq, beq_eq_false_iff_ne, ne_eq, Decidable.not_not] at hc44)
      ·
       refine q_sr (q_q q_mv (q_q q_mv (q_q q_mv (q_q q_mv ?_))))
       refine q_q (q_ix u22 sz3) ?_
       refine q_q (by first | exact (q_r1 1 u3) | exact (q_rF 1 0 u3)) ?_
       refine q_q (q_ix u22 sz3) ?_
       refine RL.e0 (Eff.storeRow (tc := 1) (j := 0) sz3 rfl rfl rfl hOx hlo rfl rfl rfl rfl rfl) ?_
       rintro _ _ ⟨Hb, hOb, rfl⟩
       refine q_nn (q_k [0, 3, 4, 5] [0, 1] ?_)
       refine W.region (q_q q_mv ?_)
       refine q_q q_ad (q_q q_as (RL.nil (N.block_normal (N.next (W.region (q_q q_mv ?_))))))
       refine q_q q_ad (q_q q_as (RL.nil ?_))
       exact N.famK ⟨x.w + 1, x.d + 1, Hb, x.ls.set x.w z⟩ ⟨⟨by dsimp only; omega, by dsimp only; omega, by dsimp only; rw [List.length_set]; exact hlen, by dsimp only; rw [iz_set]; exact hOb, (cp_keep hlen hw htk hdr hy hz hc44).1, (cp_keep hlen hw htk hdr hy hz hc44).2⟩, by dsimp only; omega⟩ (q_a (q_a .nil)) (.to rfl) (.to rfl) (.to rfl)
      ·
       have hzy : z = y := by omega
       refine W.skip (N.block_normal (N.next (W.region (q_q q_mv ?_))))
       refine q_q q_ad (q_q q_as (RL.nil ?_))
       exact N.famK ⟨x.w, x.d + 1, x.H, x.ls⟩ ⟨⟨by dsimp only; omega, by dsimp only; omega, hlen, hOx, (cp_skip htk hdr hy (hzy ▸ hz)).1, (cp_skip htk hdr hy (hzy ▸ hz)).2⟩, by dsimp only; omega⟩ (q_a (q_a .nil)) (.to rfl) (.to rfl) (.to rfl)
     ·
      have hend : i + x.d + 1 = l.length := by omega
      have hfl : x.ls.take x.w = cpt l := by rw [htk, hend, List.take_length]
      have hfi : (cpt l).length = x.w := by rw [← hfl, List.length_take]; omega
      refine W.exit (N.then_exit (N.then_exit (N.block_eq (N.next (q_k [0, 3] [0, 1] ?_)))))
      refine q_sr (q_q q_mv (q_q q_mv ?_))
      refine q_q (Yld.sliceL u22 sz3 rfl rfl (by omega) (by first | omega | (simp; done) | (simp; omega))) ?_
      refine RL.e0 (Eff.clearOwn (tc := 1) (k := x.w) u22 zc3 rfl rfl rfl rfl hOx (by simp; omega) rfl (by simp [hlen, hn])) ?_
      rintro _ _ ⟨rfl, Hc, hOc, rfl⟩
      refine q_nn (q_sr (q_q q_mv (q_q q_mv ?_)))
      refine q_q (Yld.sliceH u22 sz3 rfl rfl (by omega) (by first | omega | (simp; done) | (simp; omega))) ?_
      refine q_an ?_
      refine q_k [2] [0, 1] ?_
      refine W.ret (N.block_ret (N.then_ret (N.then_ret (N.block_ret (N.then_ret ?_)))))
      exact q_r [1] (.cons (.tmp rfl) .nil) rfl rfl rfl ⟨Hc, by rw [hfi]; rfl, by rw [← hfl, iz_take]; exact hOc, rfl⟩
    ·
     refine W.skip (N.block_normal (N.next (W.region (q_q q_mv ?_))))
     refine q_q q_ad (q_q q_as (RL.nil ?_))
     exact N.famK (i + 1) ⟨⟨by omega, by omega, fun m z y hm hy hz => by
         by_cases e : m + 1 = i
         · subst e; rw [hz] at ha; cases ha; rw [show m + 1 - 1 = m by omega, hy] at hb; cases hb; exact hc25
         · exact hI m z y (by omega) hy hz⟩, by omega⟩ (q_a .nil) (.to rfl) .nil (.to rfl)
   ·
    have hcl : cpt l = l := by
      have := cpt_id (l := l) (Nat.le_refl _) (fun m z y hm hy hz => hI m z y (by omega) hy hz)
      rwa [List.take_length] at this
    refine W.exit (N.then_exit (N.then_exit (N.block_eq (N.next (q_k [0] [0, 1] ?_)))))
    refine q_sr (q_q q_mv (q_an ?_))
    refine W.ret ?_
    exact q_r [1] (.cons (.tmp rfl) .nil) rfl rfl rfl ⟨H1, by rw [hcl, hn]; rfl, by rw [hcl]; exact hO, rfl⟩

theorem sort_ct (l : List Int) (H1 : PH) (p : Option Addr) (c : Nat) (hO : Own H1 p c 3 1 (iz l)) (hb : l.length ≤ 1000000) : Ct Tryz.prog 189 [.slice p l.length c] [H1] (fun v Hs => v = .tuple #[] ∧ ∃ H', Own H' p c 3 1 (iz (srt l)) ∧ Hs = [H']) :=
  sort_ct_of (Value.int .i64) srt srt_len (fun _ => rfl) (fun blk off cap zs w hH hb hs => Tryz.slices_Sort_int blk off cap zs w hH hb hs) (fun p cap w => Tryz.slices_Sort_int_none p cap w) hO (by omega)

end Go.Proofs.YtnakhfmnchmhjaaGreat
