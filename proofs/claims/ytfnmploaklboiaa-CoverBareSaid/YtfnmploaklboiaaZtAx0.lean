import Derived.Test.YtfnmploaklboiaaProg
import Derived.Below
import Derived.Deep.Draws
import Derived.Deep.AppendLies
import Derived.Maps.AppendAt
import Derived.OwnWalk
import Derived.Laws.BytesArg
import Derived.Laws.MakeOwn
import Derived.Laws.OwnMore
import Derived.Deep.OwnRows
import Derived.Tactics
import Derived.Lib.ConvBytes
import Derived.Laws.Slices
import Derived.WalkKit
import Derived.KernelRfl
import Derived.RowKit3
import Derived.Deep.LoopGhost
import Derived.Deep.QuietTactic
import Derived.BigQuiet
import Derived.WideLaws
import Derived.Deep.DeepCutAuto
import Derived.Deep.CutBlock
import Derived.Deep.RegionHeld3
import Derived.Laws.Rows
import Derived.Lib.AppendStr
import Derived.ArgAppend
import Derived.Laws.IdiomCopy
import Derived.OrdersHeld
import Derived.Laws.BitsLemmas
import Derived.RowKit
import Derived.Test.YtfnmploaklboiaaZtWWords
import Derived.Test.YtfnmploaklboiaaZtWLast
import Derived.Test.YtfnmploaklboiaaZtWTab
import Derived.Test.YtfnmploaklboiaaZtWApart
import Derived.Test.YtfnmploaklboiaaZtWFoot
import Derived.Test.YtfnmploaklboiaaZtWKept
import Derived.Test.YtfnmploaklboiaaZtWShare
import Derived.Test.YtfnmploaklboiaaZtWN
import Derived.Laws.StructEq
import Derived.Test.YtfnmploaklboiaaZtWRepsOne
import Derived.Test.YtfnmploaklboiaaZtWMore
namespace Go.Proofs.Ytfnmploaklboiaa.A
open Go.RowKit Go.Proofs.YtfnmploaklboiaaW.PrintWords Go.Proofs.YtfnmploaklboiaaW.PrintLast Go.Proofs.YtfnmploaklboiaaW.PrintMore
attribute [local go_sem] max2_int min2_int max_two min_two max_three min_three max_four min_four   -- for this text's walks alone
set_option linter.unusedVariables false
set_option linter.unusedSimpArgs false
def errW : Option Int → Value
  | none => .nilIface
  | some c => .iface 0 (.int .i64 c)
theorem errW_none : errW none = .nilIface := rfl
theorem errW_some (c : Int) : errW (some c) = .iface 0 (.int .i64 c) := rfl
/-! #### struct type 79 -/
structure S79 where
  f0 : Int
  f1 : Int
  f2 : ByteArray
def k79 : Kd S79 := Kd.iso (Kd.pair (Kd.int .i64) (Kd.pair (Kd.int .i64) Kd.string)) (fun x : S79 => (x.f0, x.f1, x.f2))
/-! #### struct type 81, nested in itself -/
structure S81 where
  f0 : Int
  f1 : Int
  f2 : (List S81)
  f3 : S79
  f4 : Int
  f5 : Int
def F81 (d : Kd S81) : Kd S81 := Kd.iso (Kd.pair (Kd.int .i64) (Kd.pair (Kd.int .i64) (Kd.pair (Kd.slice 81 d) (Kd.pair k79 (Kd.pair (Kd.int .i64) (Kd.int .i64)))))) (fun x : S81 => (x.f0, x.f1, x.f2, x.f3, x.f4, x.f5))
theorem sub81 : Kd.Sub F81 [81] := Kd.sub_iso _ (Kd.sub_pair (Kd.sub_const _ (by decide)) (Kd.sub_pair (Kd.sub_const _ (by decide)) (Kd.sub_pair (Kd.sub_slice 81 (by decide) Kd.sub_id) (Kd.sub_pair (Kd.sub_const _ (by decide)) (Kd.sub_pair (Kd.sub_const _ (by decide)) (Kd.sub_const _ (by decide)))))))
theorem sz81 : ∀ n, (Kd.upto F81 8 [81] n).sz = 8 := Kd.upto_sz (fun _ => rfl)
def k81 : Kd S81 := Kd.fix F81 8 [81] sz81 (Kd.upto_E sub81)
/-! #### struct type 33 -/
structure S33 where
  f0 : Int
  f1 : Int
  f2 : Int
  f3 : Int
  f4 : Int
  f5 : ByteArray
  f6 : Int
  f7 : (List S81)
  f8 : (List S81)
  f9 : Bool
  f10 : Bool
  f11 : (List S81)
  f12 : Int
  f13 : (List Bool)
def z33 : S33 := ⟨(0 : Int), (0 : Int), (0 : Int), (0 : Int), (0 : Int), (⟨#[]⟩ : ByteArray), (0 : Int), ([] : List S81), ([] : List S81), false, false, ([] : List S81), (0 : Int), ([] : List Bool)⟩
def k33 : Kd S33 := Kd.iso (Kd.pair (Kd.int .i64) (Kd.pair (Kd.int .i64) (Kd.pair (Kd.int .i64) (Kd.pair (Kd.int .i64) (Kd.pair (Kd.int .i64) (Kd.pair Kd.string (Kd.pair (Kd.int .i64) (Kd.pair (Kd.slice 81 k81) (Kd.pair (Kd.slice 81 k81) (Kd.pair Kd.bool (Kd.pair Kd.bool (Kd.pair (Kd.slice 81 k81) (Kd.pair (Kd.int .i64) (Kd.slice 4 Kd.bool)))))))))))))) (fun x : S33 => (x.f0, x.f1, x.f2, x.f3, x.f4, x.f5, x.f6, x.f7, x.f8, x.f9, x.f10, x.f11, x.f12, x.f13))
theorem k33_open {w : World} {x : S33} {cs : List Value} (h : k33.K w x cs) : ∃ A7 c7 A8 c8 A11 c11 A13 c13, cs = [.int .i64 x.f0, .int .i64 x.f1, .int .i64 x.f2, .int .i64 x.f3, .int .i64 x.f4, .string x.f5, .int .i64 x.f6, .slice A7 x.f7.length c7, .slice A8 x.f8.length c8, .bool x.f9, .bool x.f10, .slice A11 x.f11.length c11, .int .i64 x.f12, .slice A13 x.f13.length c13] ∧ x.f7.length ≤ c7 ∧ k81.C w A7 x.f7.length x.f7 ∧ x.f8.length ≤ c8 ∧ k81.C w A8 x.f8.length x.f8 ∧ x.f11.length ≤ c11 ∧ k81.C w A11 x.f11.length x.f11 ∧ x.f13.length ≤ c13 ∧ Kd.bool.C w A13 x.f13.length x.f13 := by
  obtain ⟨_, _, rfl, rfl, ⟨_, _, rfl, rfl, ⟨_, _, rfl, rfl, ⟨_, _, rfl, rfl, ⟨_, _, rfl, rfl, ⟨_, _, rfl, rfl, ⟨_, _, rfl, rfl, ⟨_, _, rfl, ⟨A7, c7, rfl, l7, g7⟩, ⟨_, _, rfl, ⟨A8, c8, rfl, l8, g8⟩, ⟨_, _, rfl, rfl, ⟨_, _, rfl, rfl, ⟨_, _, rfl, ⟨A11, c11, rfl, l11, g11⟩, ⟨_, _, rfl, rfl, ⟨A13, c13, rfl, l13, g13⟩⟩⟩⟩⟩⟩⟩⟩⟩⟩⟩⟩⟩⟩ := h
  exact ⟨A7, c7, A8, c8, A11, c11, A13, c13, rfl, l7, g7, l8, g8, l11, g11, l13, g13⟩
theorem k33_mk (w : World) (x : S33) {A7 : Option Addr} {c7 : Nat} (l7 : x.f7.length ≤ c7) (g7 : k81.C w A7 x.f7.length x.f7) {A8 : Option Addr} {c8 : Nat} (l8 : x.f8.length ≤ c8) (g8 : k81.C w A8 x.f8.length x.f8) {A11 : Option Addr} {c11 : Nat} (l11 : x.f11.length ≤ c11) (g11 : k81.C w A11 x.f11.length x.f11) {A13 : Option Addr} {c13 : Nat} (l13 : x.f13.length ≤ c13) (g13 : Kd.bool.C w A13 x.f13.length x.f13) : k33.K w x [.int .i64 x.f0, .int .i64 x.f1, .int .i64 x.f2, .int .i64 x.f3, .int .i64 x.f4, .string x.f5, .int .i64 x.f6, .slice A7 x.f7.length c7, .slice A8 x.f8.length c8, .bool x.f9, .bool x.f10, .slice A11 x.f11.length c11, .int .i64 x.f12, .slice A13 x.f13.length c13] := ⟨[.int .i64 x.f0], [.int .i64 x.f1, .int .i64 x.f2, .int .i64 x.f3, .int .i64 x.f4, .string x.f5, .int .i64 x.f6, .slice A7 x.f7.length c7, .slice A8 x.f8.length c8, .bool x.f9, .bool x.f10, .slice A11 x.f11.length c11, .int .i64 x.f12, .slice A13 x.f13.length c13], rfl, rfl, ⟨[.int .i64 x.f1], [.int .i64 x.f2, .int .i64 x.f3, .int .i64 x.f4, .string x.f5, .int .i64 x.f6, .slice A7 x.f7.length c7, .slice A8 x.f8.length c8, .bool x.f9, .bool x.f10, .slice A11 x.f11.length c11, .int .i64 x.f12, .slice A13 x.f13.length c13], rfl, rfl, ⟨[.int .i64 x.f2], [.int .i64 x.f3, .int .i64 x.f4, .string x.f5, .int .i64 x.f6, .slice A7 x.f7.length c7, .slice A8 x.f8.length c8, .bool x.f9, .bool x.f10, .slice A11 x.f11.length c11, .int .i64 x.f12, .slice A13 x.f13.length c13], rfl, rfl, ⟨[.int .i64 x.f3], [.int .i64 x.f4, .string x.f5, .int .i64 x.f6, .slice A7 x.f7.length c7, .slice A8 x.f8.length c8, .bool x.f9, .bool x.f10, .slice A11 x.f11.length c11, .int .i64 x.f12, .slice A13 x.f13.length c13], rfl, rfl, ⟨[.int .i64 x.f4], [.string x.f5, .int .i64 x.f6, .slice A7 x.f7.length c7, .slice A8 x.f8.length c8, .bool x.f9, .bool x.f10, .slice A11 x.f11.length c11, .int .i64 x.f12, .slice A13 x.f13.length c13], rfl, rfl, ⟨[.string x.f5], [.int .i64 x.f6, .slice A7 x.f7.length c7, .slice A8 x.f8.length c8, .bool x.f9, .bool x.f10, .slice A11 x.f11.length c11, .int .i64 x.f12, .slice A13 x.f13.length c13], rfl, rfl, ⟨[.int .i64 x.f6], [.slice A7 x.f7.length c7, .slice A8 x.f8.length c8, .bool x.f9, .bool x.f10, .slice A11 x.f11.length c11, .int .i64 x.f12, .slice A13 x.f13.length c13], rfl, rfl, ⟨[.slice A7 x.f7.length c7], [.slice A8 x.f8.length c8, .bool x.f9, .bool x.f10, .slice A11 x.f11.length c11, .int .i64 x.f12, .slice A13 x.f13.length c13], rfl, ⟨A7, c7, rfl, l7, g7⟩, ⟨[.slice A8 x.f8.length c8], [.bool x.f9, .bool x.f10, .slice A11 x.f11.length c11, .int .i64 x.f12, .slice A13 x.f13.length c13], rfl, ⟨A8, c8, rfl, l8, g8⟩, ⟨[.bool x.f9], [.bool x.f10, .slice A11 x.f11.length c11, .int .i64 x.f12, .slice A13 x.f13.length c13], rfl, rfl, ⟨[.bool x.f10], [.slice A11 x.f11.length c11, .int .i64 x.f12, .slice A13 x.f13.length c13], rfl, rfl, ⟨[.slice A11 x.f11.length c11], [.int .i64 x.f12, .slice A13 x.f13.length c13], rfl, ⟨A11, c11, rfl, l11, g11⟩, ⟨[.int .i64 x.f12], [.slice A13 x.f13.length c13], rfl, rfl, ⟨A13, c13, rfl, l13, g13⟩⟩⟩⟩⟩⟩⟩⟩⟩⟩⟩⟩⟩⟩
theorem k33_mkM (w : World) (base : Nat) (ok : Nat → Prop) (x : S33) {v7 : Value} (g7 : k81.R 81 w base ok v7 x.f7) {v8 : Value} (g8 : k81.R 81 w base ok v8 x.f8) {v11 : Value} (g11 : k81.R 81 w base ok v11 x.f11) {v13 : Value} (g13 : Kd.bool.R 4 w base ok v13 x.f13) : k33.M w base ok x [.int .i64 x.f0, .int .i64 x.f1, .int .i64 x.f2, .int .i64 x.f3, .int .i64 x.f4, .string x.f5, .int .i64 x.f6, v7, v8, .bool x.f9, .bool x.f10, v11, .int .i64 x.f12, v13] := ⟨[.int .i64 x.f0], [.int .i64 x.f1, .int .i64 x.f2, .int .i64 x.f3, .int .i64 x.f4, .string x.f5, .int .i64 x.f6, v7, v8, .bool x.f9, .bool x.f10, v11, .int .i64 x.f12, v13], rfl, rfl, ⟨[.int .i64 x.f1], [.int .i64 x.f2, .int .i64 x.f3, .int .i64 x.f4, .string x.f5, .int .i64 x.f6, v7, v8, .bool x.f9, .bool x.f10, v11, .int .i64 x.f12, v13], rfl, rfl, ⟨[.int .i64 x.f2], [.int .i64 x.f3, .int .i64 x.f4, .string x.f5, .int .i64 x.f6, v7, v8, .bool x.f9, .bool x.f10, v11, .int .i64 x.f12, v13], rfl, rfl, ⟨[.int .i64 x.f3], [.int .i64 x.f4, .string x.f5, .int .i64 x.f6, v7, v8, .bool x.f9, .bool x.f10, v11, .int .i64 x.f12, v13], rfl, rfl, ⟨[.int .i64 x.f4], [.string x.f5, .int .i64 x.f6, v7, v8, .bool x.f9, .bool x.f10, v11, .int .i64 x.f12, v13], rfl, rfl, ⟨[.string x.f5], [.int .i64 x.f6, v7, v8, .bool x.f9, .bool x.f10, v11, .int .i64 x.f12, v13], rfl, rfl, ⟨[.int .i64 x.f6], [v7, v8, .bool x.f9, .bool x.f10, v11, .int .i64 x.f12, v13], rfl, rfl, ⟨[v7], [v8, .bool x.f9, .bool x.f10, v11, .int .i64 x.f12, v13], rfl, ⟨v7, rfl, g7⟩, ⟨[v8], [.bool x.f9, .bool x.f10, v11, .int .i64 x.f12, v13], rfl, ⟨v8, rfl, g8⟩, ⟨[.bool x.f9], [.bool x.f10, v11, .int .i64 x.f12, v13], rfl, rfl, ⟨[.bool x.f10], [v11, .int .i64 x.f12, v13], rfl, rfl, ⟨[v11], [.int .i64 x.f12, v13], rfl, ⟨v11, rfl, g11⟩, ⟨[.int .i64 x.f12], [v13], rfl, rfl, ⟨v13, rfl, g13⟩⟩⟩⟩⟩⟩⟩⟩⟩⟩⟩⟩⟩⟩
def rd_T33 (xs : List S33) (i : Int) : S33 := xs.getD i.toNat z33
theorem at_T33 {w : World} {A : Option Addr} {n : Nat} {xs : List S33} (h : Kd.C k33 w A n xs) (i : Int) (h0 : 0 ≤ i) (h1 : i < n) : ∃ ad A7 c7 A8 c8 A11 c11 A13 c13, A = some ad ∧ w.cell? (ad.add (i.toNat * 14)) = some (.int .i64 (rd_T33 xs i).f0) ∧ w.cell? ⟨(ad.add (i.toNat * 14)).block, (ad.add (i.toNat * 14)).off + 1, none⟩ = some (.int .i64 (rd_T33 xs i).f1) ∧ w.cell? ⟨(ad.add (i.toNat * 14)).block, (ad.add (i.toNat * 14)).off + 2, none⟩ = some (.int .i64 (rd_T33 xs i).f2) ∧ w.cell? ⟨(ad.add (i.toNat * 14)).block, (ad.add (i.toNat * 14)).off + 3, none⟩ = some (.int .i64 (rd_T33 xs i).f3) ∧ w.cell? ⟨(ad.add (i.toNat * 14)).block, (ad.add (i.toNat * 14)).off + 4, none⟩ = some (.int .i64 (rd_T33 xs i).f4) ∧ w.cell? ⟨(ad.add (i.toNat * 14)).block, (ad.add (i.toNat * 14)).off + 5, none⟩ = some (.string (rd_T33 xs i).f5) ∧ w.cell? ⟨(ad.add (i.toNat * 14)).block, (ad.add (i.toNat * 14)).off + 6, none⟩ = some (.int .i64 (rd_T33 xs i).f6) ∧ w.cell? ⟨(ad.add (i.toNat * 14)).block, (ad.add (i.toNat * 14)).off + 7, none⟩ = some (.slice A7 (rd_T33 xs i).f7.length c7) ∧ w.cell? ⟨(ad.add (i.toNat * 14)).block, (ad.add (i.toNat * 14)).off + 8, none⟩ = some (.slice A8 (rd_T33 xs i).f8.length c8) ∧ w.cell? ⟨(ad.add (i.toNat * 14)).block, (ad.add (i.toNat * 14)).off + 9, none⟩ = some (.bool (rd_T33 xs i).f9) ∧ w.cell? ⟨(ad.add (i.toNat * 14)).block, (ad.add (i.toNat * 14)).off + 10, none⟩ = some (.bool (rd_T33 xs i).f10) ∧ w.cell? ⟨(ad.add (i.toNat * 14)).block, (ad.add (i.toNat * 14)).off + 11, none⟩ = some (.slice A11 (rd_T33 xs i).f11.length c11) ∧ w.cell? ⟨(ad.add (i.toNat * 14)).block, (ad.add (i.toNat * 14)).off + 12, none⟩ = some (.int .i64 (rd_T33 xs i).f12) ∧ w.cell? ⟨(ad.add (i.toNat * 14)).block, (ad.add (i.toNat * 14)).off + 13, none⟩ = some (.slice A13 (rd_T33 xs i).f13.length c13) ∧ (rd_T33 xs i).f7.length ≤ c7 ∧ k81.C w A7 (rd_T33 xs i).f7.length (rd_T33 xs i).f7 ∧ (rd_T33 xs i).f8.length ≤ c8 ∧ k81.C w A8 (rd_T33 xs i).f8.length (rd_T33 xs i).f8 ∧ (rd_T33 xs i).f11.length ≤ c11 ∧ k81.C w A11 (rd_T33 xs i).f11.length (rd_T33 xs i).f11 ∧ (rd_T33 xs i).f13.length ≤ c13 ∧ Kd.bool.C w A13 (rd_T33 xs i).f13.length (rd_T33 xs i).f13 := by
  obtain ⟨ad, c, e, _, hK, hc0⟩ := Kd.C_get h z33 i h0 h1
  have hc : ∀ j u, c[j]? = some u → w.cell? (ad.add (i.toNat * 14 + j)) = some u := hc0
  obtain ⟨A7, c7, A8, c8, A11, c11, A13, c13, rfl, l7, g7, l8, g8, l11, g11, l13, g13⟩ := k33_open hK
  exact ⟨ad, A7, c7, A8, c8, A11, c11, A13, c13, e, hc 0 _ rfl, by rw [← add_field _ _ 1 (by omega)]; exact hc 1 _ rfl, by rw [← add_field _ _ 2 (by omega)]; exact hc 2 _ rfl, by rw [← add_field _ _ 3 (by omega)]; exact hc 3 _ rfl, by rw [← add_field _ _ 4 (by omega)]; exact hc 4 _ rfl, by rw [← add_field _ _ 5 (by omega)]; exact hc 5 _ rfl, by rw [← add_field _ _ 6 (by omega)]; exact hc 6 _ rfl, by rw [← add_field _ _ 7 (by omega)]; exact hc 7 _ rfl, by rw [← add_field _ _ 8 (by omega)]; exact hc 8 _ rfl, by rw [← add_field _ _ 9 (by omega)]; exact hc 9 _ rfl, by rw [← add_field _ _ 10 (by omega)]; exact hc 10 _ rfl, by rw [← add_field _ _ 11 (by omega)]; exact hc 11 _ rfl, by rw [← add_field _ _ 12 (by omega)]; exact hc 12 _ rfl, by rw [← add_field _ _ 13 (by omega)]; exact hc 13 _ rfl, l7, g7, l8, g8, l11, g11, l13, g13⟩
end Go.Proofs.Ytfnmploaklboiaa.A
