/-
  The library's contracts that this seat leans on, laid in plain words.
-/
import Derived.Shelf.Sort.Plain
import Derived.Shelf.Slices.CompactI
import Derived.Shelf.Slices.In.SortNone
import Derived.Test.YtmajbdehejhbfaaProg
namespace Go.Proofs.Ytmajbdehejhbfaa
open Go Go.Shelf
def sh_lays189_ren : Go.Shelf.Ren := ⟨fun | 189 => 100 | 125 => 141 | 257 => 140 | 128 => 169 | 129 => 170 | 294 => 160 | 295 => 161 | 296 => 162 | 297 => 163 | 298 => 164 | 299 => 165 | 216 => 166 | 300 => 167 | 301 => 168 | 328 => 185 | 329 => 186 | 330 => 187 | 331 => 188 | 332 => 189 | 215 => 190 | 343 => 204 | n => n, fun | 28 => 42 | 3 => 3 | 46 => 201 | 0 => 0 | 51 => 222 | 53 => 224 | 4 => 4 | 183 => 214 | 182 => 213 | 131 => 219 | 5 => 5 | 9 => 9 | 218 => 235 | 222 => 239 | 228 => 249 | 229 => 250 | n => n, fun | n => n⟩
theorem sh_lays189 : Go.Proofs.Lays.n189 Try.prog sh_lays189_ren := {
  mixed := by kernel_rfl
  f125 := Try.func141.trans (congrArg some (by kernel_rfl))
  f128 := Try.func169.trans (congrArg some (by kernel_rfl))
  f129 := Try.func170.trans (congrArg some (by kernel_rfl))
  f189 := Try.func100.trans (congrArg some (by kernel_rfl))
  f215 := Try.func190.trans (congrArg some (by kernel_rfl))
  f216 := Try.func166.trans (congrArg some (by kernel_rfl))
  f257 := Try.func140.trans (congrArg some (by kernel_rfl))
  f294 := Try.func160.trans (congrArg some (by kernel_rfl))
  f295 := Try.func161.trans (congrArg some (by kernel_rfl))
  f296 := Try.func162.trans (congrArg some (by kernel_rfl))
  f297 := Try.func163.trans (congrArg some (by kernel_rfl))
  f298 := Try.func164.trans (congrArg some (by kernel_rfl))
  f299 := Try.func165.trans (congrArg some (by kernel_rfl))
  f300 := Try.func167.trans (congrArg some (by kernel_rfl))
  f301 := Try.func168.trans (congrArg some (by kernel_rfl))
  f328 := Try.func185.trans (congrArg some (by kernel_rfl))
  f329 := Try.func186.trans (congrArg some (by kernel_rfl))
  f330 := Try.func187.trans (congrArg some (by kernel_rfl))
  f331 := Try.func188.trans (congrArg some (by kernel_rfl))
  f332 := Try.func189.trans (congrArg some (by kernel_rfl))
  f343 := Try.func204.trans (congrArg some (by kernel_rfl))
  t0 := Try.underlying0
  a0 := Try.isAgg0
  z0 := Try.sizeOf0
  v0 := Try.zeroValue0
  t3 := Try.underlying3
  a3 := Try.isAgg3
  z3 := Try.sizeOf3
  v3 := Try.zeroValue3
  t4 := Try.underlying4
  a4 := Try.isAgg4
  z4 := Try.sizeOf4
  v4 := Try.zeroValue4
  t5 := Try.underlying5
  a5 := Try.isAgg5
  z5 := Try.sizeOf5
  v5 := Try.zeroValue5
  t9 := Try.underlying9
  a9 := Try.isAgg9
  z9 := Try.sizeOf9
  v9 := Try.zeroValue9
  t28 := Try.underlying42
  a28 := Try.isAgg42
  z28 := Try.sizeOf42
  v28 := Try.zeroValue42
  t46 := Try.underlying201
  a46 := Try.isAgg201
  z46 := Try.sizeOf201
  v46 := Try.zeroValue201
  t51 := Try.underlying222
  a51 := Try.isAgg222
  z51 := Try.sizeOf222
  v51 := Try.zeroValue222
  t53 := Try.underlying224
  a53 := Try.isAgg224
  z53 := Try.sizeOf224
  v53 := Try.zeroValue224
  t131 := Try.underlying219
  a131 := Try.isAgg219
  z131 := Try.sizeOf219
  v131 := Try.zeroValue219
  t182 := Try.underlying213
  a182 := Try.isAgg213
  z182 := Try.sizeOf213
  v182 := Try.zeroValue213
  t183 := Try.underlying214
  a183 := Try.isAgg214
  z183 := Try.sizeOf214
  v183 := Try.zeroValue214
  t218 := Try.underlying235
  a218 := Try.isAgg235
  z218 := Try.sizeOf235
  v218 := Try.zeroValue235
  t222 := Try.underlying239
  a222 := Try.isAgg239
  z222 := Try.sizeOf239
  v222 := Try.zeroValue239
  t228 := Try.underlying249
  a228 := Try.isAgg249
  z228 := Try.sizeOf249
  v228 := Try.zeroValue249
  t229 := Try.underlying250
  a229 := Try.isAgg250
  z229 := Try.sizeOf250
  v229 := Try.zeroValue250 }
open Go.Sort Go.RowKit in
theorem sh_slices_Sort_int (blk off cap : Nat) (zs : List Int) (w : World) (hH : Holds (Value.int .i64) w blk off zs.toArray) (hblk : blk < w.heap.size) (hsz : zs.length < 4611686018427387904) :
    Calls Try.prog 100 #[.slice (some ⟨blk, off, none⟩) zs.length cap] w fun e w' =>
      e = .returned (.tuple #[]) ∧ ∃ n os, w' = grow (putRow (Value.int .i64) (Sort.ahead w n) blk off (zs.mergeSort fun x y => decide (x ≤ y)).toArray) os := Any.slices_Sort_int sh_lays189 blk off cap zs w hH hblk hsz
def sh_laysNm220_ren : Go.Shelf.Ren := ⟨fun | 20 => 101 | n => n, fun | 22 => 42 | 3 => 3 | 4 => 4 | 0 => 0 | n => n, fun | n => n⟩
theorem sh_laysNm220 : Go.Proofs.Lays2.n20 Try.prog sh_laysNm220_ren := {
  mixed := by kernel_rfl
  f20 := Try.func101.trans (congrArg some (by kernel_rfl))
  t0 := Try.underlying0
  a0 := Try.isAgg0
  z0 := Try.sizeOf0
  v0 := Try.zeroValue0
  t3 := Try.underlying3
  a3 := Try.isAgg3
  z3 := Try.sizeOf3
  v3 := Try.zeroValue3
  t4 := Try.underlying4
  a4 := Try.isAgg4
  z4 := Try.sizeOf4
  v4 := Try.zeroValue4
  t22 := Try.underlying42
  a22 := Try.isAgg42
  z22 := Try.sizeOf42
  v22 := Try.zeroValue42
  i3 := by kernel_rfl }
open Go.RowKit Go.Lib Go.Sort in
theorem sh_slices_Compact_int (blk off cap : Nat) (zs : List Int) (w : World) (hH : Holds (Value.int .i64) w blk off zs.toArray) (hsz : zs.length ≤ 9223372036854775807) (hcap : zs.length ≤ cap) :
    Calls Try.prog 101 #[.slice (some ⟨blk, off, none⟩) zs.length cap] w fun e w' => e = .returned (.slice (some ⟨blk, off, none⟩) (Lib.compact zs).length cap) ∧ ∃ q, w' = putRow (Value.int .i64) (Sort.ahead w q) blk off (Lib.compact zs ++ List.replicate (zs.length - (Lib.compact zs).length) 0).toArray := Any.slices_Compact_int sh_laysNm220 blk off cap zs w hH hsz hcap
open Go.RowKit Go.Lib Go.Sort in
theorem sh_slices_Compact_int_empty (a : Option Addr) (cap : Nat) (w : World) :
    Calls Try.prog 101 #[.slice a 0 cap] w fun e w' => e = .returned (.slice a 0 cap) ∧ w' = w := Any.slices_Compact_int_empty sh_laysNm220 a cap w
def sh_laysNm231_ren : Go.Shelf.Ren := ⟨fun | 31 => 166 | 37 => 190 | n => n, fun | 3 => 3 | 4 => 4 | n => n, fun | n => n⟩
theorem sh_laysNm231 : Go.Proofs.Lays2.n31 Try.prog sh_laysNm231_ren := {
  mixed := by kernel_rfl
  f31 := Try.func166.trans (congrArg some (by kernel_rfl))
  f37 := Try.func190.trans (congrArg some (by kernel_rfl))
  t3 := Try.underlying3
  a3 := Try.isAgg3
  z3 := Try.sizeOf3
  v3 := Try.zeroValue3
  t4 := Try.underlying4
  a4 := Try.isAgg4
  z4 := Try.sizeOf4
  v4 := Try.zeroValue4 }
open Go.RowKit Go.Sort in
theorem sh_slices_Sort_int_none (p : Option Addr) (cap : Nat) (w : World) :
    Calls Try.prog 100 #[.slice p 0 cap] w fun e w' => e = .returned (.tuple #[]) ∧ w' = w := Any.slices_Sort_int_none sh_lays189 p cap w
end Go.Proofs.Ytmajbdehejhbfaa
