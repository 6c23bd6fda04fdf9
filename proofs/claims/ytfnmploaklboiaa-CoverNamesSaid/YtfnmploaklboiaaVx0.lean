-- Printed by the kit's print.py for functions that this session names.
import Derived.Test.YtfnmploaklboiaaProg
import Derived.Below
import Derived.Deep.Draws
import Derived.Deep.AppendLies
import Derived.Maps.AppendAt
import Derived.OwnWalk
import Derived.Laws.BytesArg
import Derived.Laws.MakeOwn
import Derived.Laws.OwnMore
import Derived.Deep.OwnRows
import Derived.Tactics
import Derived.Lib.ConvBytes
import Derived.Laws.Slices
import Derived.WalkKit
import Derived.KernelRfl
import Derived.RowKit3
import Derived.Deep.LoopGhost
import Derived.Deep.QuietTactic
import Derived.BigQuiet
import Derived.WideLaws
import Derived.Deep.DeepCutAuto
import Derived.Deep.CutBlock
import Derived.Deep.RegionHeld3
import Derived.Laws.Rows
import Derived.Lib.AppendStr
import Derived.ArgAppend
import Derived.Laws.IdiomCopy
import Derived.OrdersHeld
import Derived.Laws.BitsLemmas
import Derived.RowKit
import Derived.Test.YtfnmploaklboiaaX1
import Derived.Lib.Hide
import Derived.LoopTactic
import Derived.Test.YtfnmploaklboiaaWWords
import Derived.Test.YtfnmploaklboiaaWLast
import Derived.Test.YtfnmploaklboiaaWTab
import Derived.Test.YtfnmploaklboiaaWFour
import Derived.Test.YtfnmploaklboiaaWQPut
import Derived.Test.YtfnmploaklboiaaWApart
import Derived.Test.YtfnmploaklboiaaWArr
import Derived.Test.YtfnmploaklboiaaWZeros
import Derived.Test.YtfnmploaklboiaaWFoot
import Derived.Test.YtfnmploaklboiaaWKept
import Derived.Test.YtfnmploaklboiaaWShare
import Derived.Test.YtfnmploaklboiaaWN
import Derived.Test.YtfnmploaklboiaaWFootNe
import Derived.Test.YtfnmploaklboiaaWAt
import Derived.Test.YtfnmploaklboiaaWEqStruct
import Derived.Test.YtfnmploaklboiaaWRepsOne
import Derived.Test.YtfnmploaklboiaaWInv
import Derived.Test.YtfnmploaklboiaaWInvWords
import Derived.Test.YtfnmploaklboiaaWGuard
import Derived.Test.YtfnmploaklboiaaWNEv
import Derived.Test.YtfnmploaklboiaaWMore
namespace Go.Proofs.Ytfnmploaklboiaa.V
open Go.RowKit Go.Proofs.YtfnmploaklboiaaW.PrintWords Go.Proofs.YtfnmploaklboiaaW.PrintLast Go.Proofs.YtfnmploaklboiaaW.PrintMore Go.Proofs.Ytfnmploaklboiaa.A
attribute [local go_sem] max2_int min2_int max_two min_two max_three min_three max_four min_four   -- for this text's walks alone
set_option linter.unusedVariables false
set_option linter.unusedSimpArgs false



theorem info33 : (Try.prog.info? 33).map (fun i => (i.zero, i.size, i.bytes)) = some (some (.agg #[(.int .i64 0), (.int .i64 0), (.int .i64 0), (.int .i64 0), (.int .i64 0), (.string ⟨#[]⟩), (.int .i64 0), (.slice none 0 0), (.slice none 0 0), (.bool false), (.bool false), (.slice none 0 0), (.int .i64 0), (.slice none 0 0)]), 14, 176) := by kernel_rfl
-- the values' own types
/-! #### struct type 79 -/
theorem k79_mkF (W : World) (ok : Nat → Prop) (x : S79) : Kd.FK k79 W ok x [.int .i64 x.f0, .int .i64 x.f1, .string x.f2] := fun W2 _ => k79_mk W2 x
/-! #### struct type 81, nested in itself -/
theorem k81_openF {W : World} {ok : Nat → Prop} {x : S81} {cs : List Value} (h : Kd.FK k81 W ok x cs) : ∃ A2 c2, cs = [.int .i64 x.f0, .int .i64 x.f1, .slice A2 x.f2.length c2, .int .i64 x.f3.f0, .int .i64 x.f3.f1, .string x.f3.f2, .int .i64 x.f4, .int .i64 x.f5] ∧ x.f2.length ≤ c2 ∧ Kd.F k81 W ok A2 x.f2.length x.f2 := by
  obtain ⟨A2, c2, rfl, l2, _⟩ := k81_open (Kd.FK_now h)
  exact ⟨A2, c2, rfl, l2, (fun W' hW => by obtain ⟨A2_, c2_, he, l2_, g2_⟩ := k81_open (h W' hW); injection (Option.some.inj (show some (Value.slice A2 x.f2.length c2) = some (Value.slice A2_ x.f2.length c2_) from congrArg (fun l => l[2]?) he)) with ha_ _ _; rw [ha_]; exact g2_)⟩
theorem k81_mkF (W : World) (ok : Nat → Prop) (x : S81) {A2 : Option Addr} {c2 : Nat} (l2 : x.f2.length ≤ c2) (g2 : Kd.F k81 W ok A2 x.f2.length x.f2) : Kd.FK k81 W ok x [.int .i64 x.f0, .int .i64 x.f1, .slice A2 x.f2.length c2, .int .i64 x.f3.f0, .int .i64 x.f3.f1, .string x.f3.f2, .int .i64 x.f4, .int .i64 x.f5] := fun W2 hW => k81_mk W2 x l2 (g2 W2 hW)
/-! #### struct type 33 -/
theorem k33_openF {W : World} {ok : Nat → Prop} {x : S33} {cs : List Value} (h : Kd.FK k33 W ok x cs) : ∃ A7 c7 A8 c8 A11 c11 A13 c13, cs = [.int .i64 x.f0, .int .i64 x.f1, .int .i64 x.f2, .int .i64 x.f3, .int .i64 x.f4, .string x.f5, .int .i64 x.f6, .slice A7 x.f7.length c7, .slice A8 x.f8.length c8, .bool x.f9, .bool x.f10, .slice A11 x.f11.length c11, .int .i64 x.f12, .slice A13 x.f13.length c13] ∧ x.f7.length ≤ c7 ∧ Kd.F k81 W ok A7 x.f7.length x.f7 ∧ x.f8.length ≤ c8 ∧ Kd.F k81 W ok A8 x.f8.length x.f8 ∧ x.f11.length ≤ c11 ∧ Kd.F k81 W ok A11 x.f11.length x.f11 ∧ x.f13.length ≤ c13 ∧ Kd.F Kd.bool W ok A13 x.f13.length x.f13 := by
  obtain ⟨A7, c7, A8, c8, A11, c11, A13, c13, rfl, l7, _, l8, _, l11, _, l13, _⟩ := k33_open (Kd.FK_now h)
  exact ⟨A7, c7, A8, c8, A11, c11, A13, c13, rfl, l7, (fun W' hW => by obtain ⟨A7_, c7_, A8_, c8_, A11_, c11_, A13_, c13_, he, l7_, g7_, l8_, g8_, l11_, g11_, l13_, g13_⟩ := k33_open (h W' hW); injection (Option.some.inj (show some (Value.slice A7 x.f7.length c7) = some (Value.slice A7_ x.f7.length c7_) from congrArg (fun l => l[7]?) he)) with ha_ _ _; rw [ha_]; exact g7_), l8, (fun W' hW => by obtain ⟨A7_, c7_, A8_, c8_, A11_, c11_, A13_, c13_, he, l7_, g7_, l8_, g8_, l11_, g11_, l13_, g13_⟩ := k33_open (h W' hW); injection (Option.some.inj (show some (Value.slice A8 x.f8.length c8) = some (Value.slice A8_ x.f8.length c8_) from congrArg (fun l => l[8]?) he)) with ha_ _ _; rw [ha_]; exact g8_), l11, (fun W' hW => by obtain ⟨A7_, c7_, A8_, c8_, A11_, c11_, A13_, c13_, he, l7_, g7_, l8_, g8_, l11_, g11_, l13_, g13_⟩ := k33_open (h W' hW); injection (Option.some.inj (show some (Value.slice A11 x.f11.length c11) = some (Value.slice A11_ x.f11.length c11_) from congrArg (fun l => l[11]?) he)) with ha_ _ _; rw [ha_]; exact g11_), l13, (fun W' hW => by obtain ⟨A7_, c7_, A8_, c8_, A11_, c11_, A13_, c13_, he, l7_, g7_, l8_, g8_, l11_, g11_, l13_, g13_⟩ := k33_open (h W' hW); injection (Option.some.inj (show some (Value.slice A13 x.f13.length c13) = some (Value.slice A13_ x.f13.length c13_) from congrArg (fun l => l[13]?) he)) with ha_ _ _; rw [ha_]; exact g13_)⟩
theorem k33_mkF (W : World) (ok : Nat → Prop) (x : S33) {A7 : Option Addr} {c7 : Nat} (l7 : x.f7.length ≤ c7) (g7 : Kd.F k81 W ok A7 x.f7.length x.f7) {A8 : Option Addr} {c8 : Nat} (l8 : x.f8.length ≤ c8) (g8 : Kd.F k81 W ok A8 x.f8.length x.f8) {A11 : Option Addr} {c11 : Nat} (l11 : x.f11.length ≤ c11) (g11 : Kd.F k81 W ok A11 x.f11.length x.f11) {A13 : Option Addr} {c13 : Nat} (l13 : x.f13.length ≤ c13) (g13 : Kd.F Kd.bool W ok A13 x.f13.length x.f13) : Kd.FK k33 W ok x [.int .i64 x.f0, .int .i64 x.f1, .int .i64 x.f2, .int .i64 x.f3, .int .i64 x.f4, .string x.f5, .int .i64 x.f6, .slice A7 x.f7.length c7, .slice A8 x.f8.length c8, .bool x.f9, .bool x.f10, .slice A11 x.f11.length c11, .int .i64 x.f12, .slice A13 x.f13.length c13] := fun W2 hW => k33_mk W2 x l7 (g7 W2 hW) l8 (g8 W2 hW) l11 (g11 W2 hW) l13 (g13 W2 hW)
def rd_L8 (xs : List (List S33)) (i : Int) : (List S33) := xs.getD i.toNat ([] : List S33)
theorem at_L8 {w : World} {A : Option Addr} {n : Nat} {xs : List (List S33)} (h : Kd.C (Kd.slice 33 k33) w A n xs) (i : Int) (h0 : 0 ≤ i) (h1 : i < n) : ∃ ad A0 c0, A = some ad ∧ w.cell? (ad.add i.toNat) = some (.slice A0 (rd_L8 xs i).length c0) ∧ (rd_L8 xs i).length ≤ c0 ∧ k33.C w A0 (rd_L8 xs i).length (rd_L8 xs i) := by
  obtain ⟨ad, c, e, _, hK, hc0⟩ := Kd.C_get h ([] : List S33) i h0 h1
  have hc : ∀ j u, c[j]? = some u → w.cell? (ad.add (i.toNat * 1 + j)) = some u := hc0
  obtain ⟨A0, c0, rfl, l0, g0⟩ := hK
  exact ⟨ad, A0, c0, e, by have hq := hc 0 _ rfl; rwa [Nat.mul_one, Nat.add_zero] at hq, l0, g0⟩

/-! #### struct type 25 -/
structure S25 where
  f0 : ByteArray
  f1 : (List S33)
def z25 : S25 := ⟨(⟨#[]⟩ : ByteArray), ([] : List S33)⟩
def k25 : Kd S25 := Kd.iso (Kd.pair Kd.string (Kd.slice 33 k33)) (fun x : S25 => (x.f0, x.f1))
theorem k25_open {w : World} {x : S25} {cs : List Value} (h : k25.K w x cs) : ∃ A1 c1, cs = [.string x.f0, .slice A1 x.f1.length c1] ∧ x.f1.length ≤ c1 ∧ k33.C w A1 x.f1.length x.f1 := by
  obtain ⟨_, _, rfl, rfl, ⟨A1, c1, rfl, l1, g1⟩⟩ := h
  exact ⟨A1, c1, rfl, l1, g1⟩
theorem k25_openM {w : World} {base : Nat} {ok : Nat → Prop} {x : S25} {cs : List Value} (h : k25.M w base ok x cs) : ∃ v1, cs = [.string x.f0, v1] ∧ k33.R 33 w base ok v1 x.f1 := by
  obtain ⟨_, _, rfl, rfl, ⟨v1, rfl, g1⟩⟩ := h
  exact ⟨v1, rfl, g1⟩
theorem k25_mk (w : World) (x : S25) {A1 : Option Addr} {c1 : Nat} (l1 : x.f1.length ≤ c1) (g1 : k33.C w A1 x.f1.length x.f1) : k25.K w x [.string x.f0, .slice A1 x.f1.length c1] := ⟨[.string x.f0], [.slice A1 x.f1.length c1], rfl, rfl, ⟨A1, c1, rfl, l1, g1⟩⟩
theorem k25_mkM (w : World) (base : Nat) (ok : Nat → Prop) (x : S25) {v1 : Value} (g1 : k33.R 33 w base ok v1 x.f1) : k25.M w base ok x [.string x.f0, v1] := ⟨[.string x.f0], [v1], rfl, rfl, ⟨v1, rfl, g1⟩⟩
theorem k25_openF {W : World} {ok : Nat → Prop} {x : S25} {cs : List Value} (h : Kd.FK k25 W ok x cs) : ∃ A1 c1, cs = [.string x.f0, .slice A1 x.f1.length c1] ∧ x.f1.length ≤ c1 ∧ Kd.F k33 W ok A1 x.f1.length x.f1 := by
  obtain ⟨A1, c1, rfl, l1, _⟩ := k25_open (Kd.FK_now h)
  exact ⟨A1, c1, rfl, l1, (fun W' hW => by obtain ⟨A1_, c1_, he, l1_, g1_⟩ := k25_open (h W' hW); injection (Option.some.inj (show some (Value.slice A1 x.f1.length c1) = some (Value.slice A1_ x.f1.length c1_) from congrArg (fun l => l[1]?) he)) with ha_ _ _; rw [ha_]; exact g1_)⟩
theorem k25_mkF (W : World) (ok : Nat → Prop) (x : S25) {A1 : Option Addr} {c1 : Nat} (l1 : x.f1.length ≤ c1) (g1 : Kd.F k33 W ok A1 x.f1.length x.f1) : Kd.FK k25 W ok x [.string x.f0, .slice A1 x.f1.length c1] := fun W2 hW => k25_mk W2 x l1 (g1 W2 hW)
def rd_T25 (xs : List S25) (i : Int) : S25 := xs.getD i.toNat z25
theorem at_T25 {w : World} {A : Option Addr} {n : Nat} {xs : List S25} (h : Kd.C k25 w A n xs) (i : Int) (h0 : 0 ≤ i) (h1 : i < n) : ∃ ad A1 c1, A = some ad ∧ w.cell? (ad.add (i.toNat * 2)) = some (.string (rd_T25 xs i).f0) ∧ w.cell? ⟨(ad.add (i.toNat * 2)).block, (ad.add (i.toNat * 2)).off + 1, none⟩ = some (.slice A1 (rd_T25 xs i).f1.length c1) ∧ (rd_T25 xs i).f1.length ≤ c1 ∧ k33.C w A1 (rd_T25 xs i).f1.length (rd_T25 xs i).f1 := by
  obtain ⟨ad, c, e, _, hK, hc0⟩ := Kd.C_get h z25 i h0 h1
  have hc : ∀ j u, c[j]? = some u → w.cell? (ad.add (i.toNat * 2 + j)) = some u := hc0
  obtain ⟨A1, c1, rfl, l1, g1⟩ := k25_open hK
  exact ⟨ad, A1, c1, e, hc 0 _ rfl, by rw [← add_field _ _ 1 (by omega)]; exact hc 1 _ rfl, l1, g1⟩

end Go.Proofs.Ytfnmploaklboiaa.V
