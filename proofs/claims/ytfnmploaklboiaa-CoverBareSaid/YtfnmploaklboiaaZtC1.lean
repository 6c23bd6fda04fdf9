import Derived.Test.YtfnmploaklboiaaZtAx0
import Derived.Test.YtfnmploaklboiaaZtM1
import Derived.Maps.OwnSet
import Derived.Maps.OwnOps
import Derived.StringKeys
/- A map in memory as a function of its keys, whatever its elements are: look-ups, stores. -/
namespace Go.Proofs.Ytfnmploaklboiaa
open Go.RowKit Go.Proofs.YtfnmploaklboiaaW.PrintWords A
open Go.Maps (Keyed)
set_option linter.unusedSimpArgs false
set_option linter.unusedVariables false
/-- An element read as itself. -/
def hvR (v : Value) : Option (DataW Value × List MemPlace) := some (.held v, [])
/-- Block b is a map of at most n entries: key kl is there just if f kl is some value, and leads to it. -/
def MapF (k : TypeId) (w : World) (b n : Nat) (f : Lit → Option Value) : Prop :=
  ∃ D, w.ownsMap Try.prog k hvR b n D ∧ ∀ kl, WideAt.IsKeyLit kl → Maps.has D kl = (f kl).isSome ∧ ∀ v, f kl = some v → ∀ z, D.atKey kl z = .held v
open Classical in
noncomputable def updF (f : Lit → Option Value) (kl : Lit) (v : Value) : Lit → Option Value := fun x => if x = kl then some v else f x
theorem MapF.made (k : TypeId) (w : World) : MapF k (w.alloc (.map #[] 0)) w.heap.size 0 (fun _ => none) :=
  ⟨.map [], World.ownsMap_made w _ k _, fun kl _ => ⟨rfl, fun v h => by cases h⟩⟩
theorem MapF.kept {k : TypeId} {w w' : World} {b n : Nat} {f : Lit → Option Value} {row : Option Nat} (h : MapF k w b n f) (hg : w.grownBy w' row) (hne : some b ≠ row) : MapF k w' b n f := by
  obtain ⟨D, h1, h2⟩ := h
  exact ⟨D, h1.kept hg hne, h2⟩
theorem MapF.lt {k : TypeId} {w : World} {b n : Nat} {f : Lit → Option Value} (h : MapF k w b n f) : b < w.heap.size := by
  obtain ⟨D, h1, h2⟩ := h
  exact h1.lt
theorem MapF.blk {k : TypeId} {w w' : World} {b n : Nat} {f : Lit → Option Value} (h : MapF k w b n f) (hb : w'.heap[b]? = w.heap[b]?) : MapF k w' b n f := by
  obtain ⟨D, ⟨es, clock, h1, h2⟩, h3⟩ := h
  exact ⟨D, ⟨es, clock, hb.trans h1, h2⟩, h3⟩
theorem MapF.look_ok {k t e : TypeId} {w : World} {b n : Nat} {f : Lit → Option Value} (h : MapF k w b n f) (K : Keyed Try.prog k) (ht : Try.prog.underlying t = some (.map k e)) {z : Value} (hz : (zeroValue e).run Try.prog w = .ok z w)
    {key : Value} {kl : Lit} (hk : WideAt.IsKeyLit kl) (hkey : keyOf Try.prog k key = some kl) :
    (Instr.lookup t (.map (some b)) key true).run Try.prog w = .ok (.tuple #[(f kl).getD z, .bool (f kl).isSome]) w := by
  obtain ⟨D, h1, h2⟩ := h
  obtain ⟨hh, hat⟩ := h2 kl hk
  obtain ⟨v, ps, hrun, hv⟩ := h1.look_ok K ht hz (zd := .held z) (zp := []) rfl hkey
  rw [hrun, hh]
  have hv' : DataW.held v = D.atKey kl (.held z) := congrArg Prod.fst (Option.some.inj hv)
  cases hf : f kl with
  | none =>
    rw [hf] at hh
    rw [Maps.atKey_of_not_has hh] at hv'
    injection hv' with hv'
    rw [hv']; rfl
  | some u =>
    rw [hat u hf] at hv'
    injection hv' with hv'
    rw [hv']; rfl
theorem MapF.look {k t e : TypeId} {w : World} {b n : Nat} {f : Lit → Option Value} (h : MapF k w b n f) (K : Keyed Try.prog k) (ht : Try.prog.underlying t = some (.map k e)) {z : Value} (hz : (zeroValue e).run Try.prog w = .ok z w)
    {key : Value} {kl : Lit} (hk : WideAt.IsKeyLit kl) (hkey : keyOf Try.prog k key = some kl) :
    (Instr.lookup t (.map (some b)) key false).run Try.prog w = .ok ((f kl).getD z) w := by
  obtain ⟨D, h1, h2⟩ := h
  obtain ⟨hh, hat⟩ := h2 kl hk
  obtain ⟨v, ps, hrun, hv⟩ := h1.lookup K ht hz (zd := .held z) (zp := []) rfl hkey
  rw [hrun]
  have hv' : DataW.held v = D.atKey kl (.held z) := congrArg Prod.fst (Option.some.inj hv)
  cases hf : f kl with
  | none =>
    rw [hf] at hh
    rw [Maps.atKey_of_not_has hh] at hv'
    injection hv' with hv'
    rw [hv']; rfl
  | some u =>
    rw [hat u hf] at hv'
    injection hv' with hv'
    rw [hv']; rfl
theorem MapF.store {k t e : TypeId} {w : World} {b n : Nat} {f : Lit → Option Value} (h : MapF k w b n f) (K : Keyed Try.prog k) (ht : Try.prog.underlying t = some (.map k e)) (hn : n < maxLen) {key val : Value} {kl : Lit} (hk : WideAt.IsKeyLit kl) (hkey : keyOf Try.prog k key = some kl) :
    ∃ w', (Instr.mapUpdate t (.map (some b)) key val).run Try.prog w = .ok () w' ∧ MapF k w' b (n + 1) (updF f kl val) ∧ w.grownBy w' (some b) := by
  obtain ⟨D, h1, h2⟩ := h
  obtain ⟨w', hrun, h3, h4⟩ := h1.update K ht hn (val := val) (d := .held val) (ps := []) hkey rfl
  refine ⟨w', hrun, ⟨_, h3, fun x hx => ?_⟩, h4⟩
  unfold updF
  by_cases e : x = kl
  · subst e
    rw [if_pos rfl]
    refine ⟨Maps.has_put_same (h1.isMap) hk _, fun v hv z => ?_⟩
    obtain rfl := Option.some.inj hv
    exact Maps.atKey_put_same h1.isMap hk _ _
  · rw [if_neg e]
    refine ⟨(Maps.has_put_other e _).trans (h2 x hx).1, fun v hv z => ?_⟩
    exact (Maps.atKey_put_other e _ _).trans ((h2 x hx).2 v hv z)
theorem keyedS : Keyed Try.prog 9 := Maps.string_keyed Try.underlying9
theorem keyedI : Keyed Try.prog 3 := Maps.int_keyed Try.underlying3
abbrev keyS (s : ByteArray) : Lit := .string s.data.toList
abbrev keyI (c : Int) : Lit := .int .i64 c
theorem isKeyS (s : ByteArray) : WideAt.IsKeyLit (keyS s) := by simp [WideAt.IsKeyLit]
theorem isKeyI (c : Int) : WideAt.IsKeyLit (keyI c) := by simp [WideAt.IsKeyLit]
theorem keyOfS (s : ByteArray) (h : s.size ≤ maxLen) : keyOf Try.prog 9 (.string s) = some (keyS s) := WideMaps.keyOf_string_mk Try.underlying9 h
theorem keyOfI (c : Int) (h : -9223372036854775808 ≤ c ∧ c < 9223372036854775808) : keyOf Try.prog 3 (.int .i64 c) = some (keyI c) :=
  Maps.keyOf_int_mk Try.underlying3 (by unfold Lit.wf; simp [IntKind.min, IntKind.max, IntKind.bits, IntKind.signed]; omega)
theorem zero3 (w : World) : (zeroValue 3).run Try.prog w = .ok (.int .i64 0) w := by kernel_rfl
abbrev z33v : Value := .agg #[.int .i64 0, .int .i64 0, .int .i64 0, .int .i64 0, .int .i64 0, .string ⟨#[]⟩, .int .i64 0, .slice none 0 0, .slice none 0 0, .bool false, .bool false, .slice none 0 0, .int .i64 0, .slice none 0 0]
theorem zero33 (w : World) : (zeroValue 33).run Try.prog w = .ok z33v w := by kernel_rfl
theorem und37 : Try.prog.underlying 37 = some (.map 9 3) := Try.underlying37
theorem und38 : Try.prog.underlying 38 = some (.map 3 33) := Try.underlying38
end Go.Proofs.Ytfnmploaklboiaa
