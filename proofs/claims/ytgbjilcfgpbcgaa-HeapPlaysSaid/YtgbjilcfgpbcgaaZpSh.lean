import Derived.Shelf.Spec.SlicesInsert
import Derived.Shelf.Spec.SlicesInsertGrow
import Derived.Ground.Names2Prog
import Derived.Shelf.Slices.SearchI
import Derived.Shelf.Slices.Delete
import Derived.Shelf.Slices.Cells
import Derived.Shelf.Slices.Empties
import Derived.Test.YtgbjilcfgpbcgaaProg
/- The shelf's contracts of BinarySearch, Delete, Insert at whole numbers, for this program's numbers (laid by the kit's lay-plain). -/
namespace Go.Proofs.Ytgbjilcfgpbcgaa
open Go.Shelf
def laysNm225_ren : Go.Shelf.Ren := ⟨fun | 25 => 28 | 31 => 36 | 32 => 37 | 37 => 40 | n => n, fun | 22 => 22 | 3 => 3 | 4 => 4 | 40 => 65 | 0 => 0 | n => n, fun | n => n⟩
theorem laysNm225 : Go.Proofs.Lays2.n25 Try.prog laysNm225_ren := {
  mixed := by kernel_rfl
  f25 := Try.func28.trans (congrArg some (by kernel_rfl))
  f31 := Try.func36.trans (congrArg some (by kernel_rfl))
  f32 := Try.func37.trans (congrArg some (by kernel_rfl))
  f37 := Try.func40.trans (congrArg some (by kernel_rfl))
  t0 := Try.underlying0
  a0 := Try.isAgg0
  z0 := Try.sizeOf0
  v0 := Try.zeroValue0
  t3 := Try.underlying3
  a3 := Try.isAgg3
  z3 := Try.sizeOf3
  v3 := Try.zeroValue3
  t4 := Try.underlying4
  a4 := Try.isAgg4
  z4 := Try.sizeOf4
  v4 := Try.zeroValue4
  t22 := Try.underlying22
  a22 := Try.isAgg22
  z22 := Try.sizeOf22
  v22 := Try.zeroValue22
  t40 := Try.underlying65
  a40 := Try.isAgg65
  z40 := Try.sizeOf65
  v40 := Try.zeroValue65 }
open Go.RowKit Go.Lib in
theorem slices_BinarySearch_int (b off n c : Nat) (zs : List Int) (x : Int) (w : World) (hz : n ≤ zs.length) (hbig : n < 4611686018427387904) (hc : ∀ j, j < zs.length → w.cell? ⟨b, off + j, none⟩ = some (.int .i64 (zs.getD j 0))) (hs : (zs.take n).Pairwise (· ≤ ·)) :
    Calls Try.prog 28 #[.slice (some ⟨b, off, none⟩) n c, .int .i64 x] w fun e w' => e = .returned (.tuple #[.int .i64 ((zs.take n).countP (· < x) : Nat), .bool ((zs.take n).contains x)]) ∧ ∃ q, w' = w.drewN q := Any.slices_BinarySearch_int laysNm225 b off n c zs x w hz hbig hc hs
def laysNm223_ren : Go.Shelf.Ren := ⟨fun | 23 => 29 | n => n, fun | 22 => 22 | 3 => 3 | 4 => 4 | 0 => 0 | n => n, fun | n => n⟩
theorem laysNm223 : Go.Proofs.Lays2.n23 Try.prog laysNm223_ren := {
  mixed := by kernel_rfl
  f23 := Try.func29.trans (congrArg some (by kernel_rfl))
  t0 := Try.underlying0
  a0 := Try.isAgg0
  z0 := Try.sizeOf0
  v0 := Try.zeroValue0
  t3 := Try.underlying3
  a3 := Try.isAgg3
  z3 := Try.sizeOf3
  v3 := Try.zeroValue3
  t4 := Try.underlying4
  a4 := Try.isAgg4
  z4 := Try.sizeOf4
  v4 := Try.zeroValue4
  t22 := Try.underlying22
  a22 := Try.isAgg22
  z22 := Try.sizeOf22
  v22 := Try.zeroValue22
  i3 := by kernel_rfl }
open Go.RowKit Go.Lib Go.Sort in
theorem slices_Delete_int_cells (b off n c i j : Nat) (zs : List Int) (w : World) (hz : n ≤ zs.length) (hcap : n ≤ c) (hm : c ≤ 9223372036854775807) (hij : i ≤ j) (hj : j ≤ n) (hc : ∀ j, j < zs.length → w.cell? ⟨b, off + j, none⟩ = some (.int .i64 (zs.getD j 0))) (hf : ∀ j, j < n → w.frozen? ⟨b, off + j, none⟩ = false) :
    Calls Try.prog 29 #[.slice (some ⟨b, off, none⟩) n c, .int .i64 i, .int .i64 j] w fun e w' => e = .returned (.slice (some ⟨b, off, none⟩) (n - (j - i)) c) ∧ ∃ q, w' = (w.drewN q).setCells b off (((zs.take n).take i ++ (zs.take n).drop j ++ List.replicate (j - i) 0).map (Value.int .i64)) := Any.slices_Delete_int_cells laysNm223 b off n c i j zs w hz hcap hm hij hj hc hf
open Go.RowKit Go.Lib in
theorem slices_BinarySearch_int_empty (a : Option Addr) (c : Nat) (x : Int) (w : World) :
    Calls Try.prog 28 #[.slice a 0 c, .int .i64 x] w fun e w' => e = .returned (.tuple #[.int .i64 0, .bool false]) ∧ w' = w := Any.slices_BinarySearch_int_empty laysNm225 a c x w
open Go.RowKit Go.Lib in
theorem slices_Delete_int_empty (a : Option Addr) (c : Nat) (w : World) :
    Calls Try.prog 29 #[.slice a 0 c, .int .i64 0, .int .i64 0] w fun e w' => e = .returned (.slice a 0 c) ∧ w' = w := Any.slices_Delete_int_empty laysNm223 a c w
def laysNm221_ren : Go.Shelf.Ren := ⟨fun | 21 => 30 | 27 => 38 | 28 => 39 | 35 => 41 | 39 => 42 | n => n, fun | 22 => 22 | 3 => 3 | 4 => 4 | 0 => 0 | n => n, fun | n => n⟩
theorem laysNm221 : Go.Proofs.Lays2.n21 Try.prog laysNm221_ren := {
  mixed := by kernel_rfl
  f21 := Try.func30.trans (congrArg some (by kernel_rfl))
  f27 := Try.func38.trans (congrArg some (by kernel_rfl))
  f28 := Try.func39.trans (congrArg some (by kernel_rfl))
  f35 := Try.func41.trans (congrArg some (by kernel_rfl))
  f39 := Try.func42.trans (congrArg some (by kernel_rfl))
  t0 := Try.underlying0
  a0 := Try.isAgg0
  z0 := Try.sizeOf0
  v0 := Try.zeroValue0
  t3 := Try.underlying3
  a3 := Try.isAgg3
  z3 := Try.sizeOf3
  v3 := Try.zeroValue3
  t4 := Try.underlying4
  a4 := Try.isAgg4
  z4 := Try.sizeOf4
  v4 := Try.zeroValue4
  t22 := Try.underlying22
  a22 := Try.isAgg22
  z22 := Try.sizeOf22
  v22 := Try.zeroValue22
  i3 := by kernel_rfl }
end Go.Proofs.Ytgbjilcfgpbcgaa
