import Derived.Test.YtfnmploaklboiaaRows
import Derived.Test.YtfnmploaklboiaaZsD4
import Derived.Test.YtfnmploaklboiaaZsD3
import Derived.Test.YtfnmploaklboiaaZsRd
import Derived.WalkKit
import Derived.ProofKit
import Derived.OpenShut
import Derived.ShutString
import Derived.ChangeOld
import Derived.Below
import Derived.SizedLaws
import Derived.Carry
/- The law CoverStronger: a plan that is covered stays so when all its modes become X, and when it is locked more at its beginning: for every input the call returns true. -/
namespace Go.Proofs.Ytfnmploaklboiaa.coverStronger
open Go.ChangeShapes Go.WideShapes Go.ChangeAt Go.RowKit Go.Proofs.Ytfnmploaklboiaa.Rd Go.Proofs.YtfnmploaklboiaaW.PrintWords
open Go.ChangeMaps (open_string shut_string)
set_option linter.unusedVariables false
set_option linter.unusedSimpArgs false
theorem own : ownKnob Try.prog.godebug = none := by kernel_rfl
theorem laidOut : laidOutB Try.prog = true := by kernel_rfl
theorem and3 (mode : Int) : 0 ≤ Go.bits .and .i64 mode 3 ∧ Go.bits .and .i64 mode 3 ≤ 3 := by
  have h : (BitVec.ofInt 64 mode &&& BitVec.ofInt 64 3).toNat ≤ 3 := by rw [BitVec.toNat_and]; exact Nat.and_le_right
  have e : Go.bits .and .i64 mode 3 = wrap64 (((BitVec.ofInt 64 mode &&& BitVec.ofInt 64 3).toNat : Nat) : Int) := by unfold Go.bits Go.RowKit.wrap64; exact IntKind.wrap_i64 _
  rw [e]
  generalize (BitVec.ofInt 64 mode &&& BitVec.ofInt 64 3).toNat = n at h
  simp only [wrap64]
  omega
theorem lockMode (mode : Int) : 1 ≤ wrap64 (1 + Go.bits .and .i64 mode 3) ∧ wrap64 (1 + Go.bits .and .i64 mode 3) ≤ 4 := by
  have := and3 mode
  generalize Go.bits .and .i64 mode 3 = n at this
  simp only [wrap64]
  omega
theorem right (W : World) (t : ByteArray) (Ad : Option Addr) (l : List A.S33) (c : Nat) (tab : ByteArray) (mode : Int) (hC : Kd.C A.k33 W Ad l.length l) (hc : l.length ≤ c) (ht : t.size ≤ maxLen) (htab : tab.size ≤ maxLen) (hl : l.length * 176 ≤ 140737488351232) (hq : ∀ x ∈ l, Q33 x) :
    Calls Try.prog 5 #[.agg #[.string t, .slice Ad l.length c], .string tab, .int .i64 mode] W fun e w' => e = .returned (.bool true) ∧ Below W.heap.size W w' := by
  have hs : ∀ x ∈ l, x.f5.size ≤ maxLen ∧ -9223372036854775808 ≤ x.f1 ∧ x.f1 < 9223372036854775808 := by
    intro x hx
    obtain ⟨_, h1, _, _, _, h5, _⟩ := hq x hx
    refine ⟨h5, ?_⟩
    have e : IntKind.i64.min = -9223372036854775808 := by decide
    simp [Lit.wf] at h1
    omega
  cases hck : ckB t l with
  | false => exact stronger_no W t Ad l c tab mode hC hc (by omega) ht hs hck
  | true => exact stronger_calls W t Ad l c tab mode hC hc (by omega) ht hs hck (ck_toX t l hck) htab (fun hn => ck_lock t l tab _ (lockMode mode) hn hck)
set_option maxRecDepth 100000 in
theorem lifted (os : Os) (started : os.Started) (H : Type) (enc : TypeId × Value → H) :
    ReturnsInHanded {} Try.checked os 5 .any (Rows.coverStrongerSpec.pre6 enc Try.prog Try.f5 Rows.coverStrongerRow.domain false) (Rows.coverStrongerSpec.post enc Try.prog Try.f5 false true false false) := by
  refine returnsInHanded_of_change_sized (C := Try.checked) own started (by kernel_rfl) Try.func5
    (ChangeSpec.witness6 (enc := enc) (C := Try.checked) false ⟨#[], #[.agg #[.string ByteArray.empty, .slice none 0 0], .string ByteArray.empty, .int .i64 0], []⟩ 8 (by kernel_rfl) (by kernel_rfl) (by kernel_rfl) (by kernel_rfl)) ?_
  intro W base args ds gs before hval0 hW hcnd hsz0 _
  have hsz : (DataW.weightsEach Try.prog (Try.f5.params.toList ++ Rows.coverStrongerSpec.plain.varTypes Try.prog) (ds ++ gs)).all (· ≤ reachBytes) = true := hsz0
  have hval : ∀ (j : Nat) t v, Try.f5.params[j]? = some t → args[j]? = some v → Value.okWide Try.prog W .any base t v := hval0
  have hW' := hW
  obtain ⟨p, q, hA0, hV, rfl, hfz, hnd⟩ := hW
  have hA : DataW.TrodAll enc Try.prog W 0 (fun _ => true) true Try.f5.params.toList args.toList ds p := hA0
  rw [Try.params5] at hA hval hsz
  obtain ⟨v0, vs0, d0, ds0, p0, q0, hargs, rfl, rfl, h0, r0⟩ := trodAll_cons hA
  obtain ⟨v1, vs1, d1, ds1, p1, q1, rfl, rfl, rfl, h1, r1⟩ := trodAll_cons r0
  obtain ⟨v2, vs2, d2, ds2, p2, q2, rfl, rfl, rfl, h2, r2⟩ := trodAll_cons r1
  obtain ⟨rfl, rfl, rfl⟩ := trodAll_nil r2
  obtain rfl : args = #[v0, v1, v2] := by cases args; simp_all
  obtain ⟨rfl, rfl⟩ := trodVars_none hV
  obtain ⟨cs0, rfl, _⟩ := okWide_struct Try.underlying25 (hval 0 25 v0 rfl rfl)
  have lt0 := places_lt h0
  obtain ⟨t0, A0, l0, c0, rfl, ht0, hc0, hr0, hq0, hl0⟩ := open_plan hsz (j := 0) rfl rfl h0
  obtain ⟨a1, rfl, rfl, rfl, w1⟩ := open_string Try.underlying9 (hval 1 9 v1 rfl rfl) h1
  obtain ⟨a2, rfl, rfl, rfl, w2⟩ := open_int Try.underlying3 (hval 2 3 v2 rfl rfl) h2
  clear hA0 hval0 hsz0
  refine (right W t0 A0 l0 c0 a1 a2 hr0 hc0 ht0 w1 hl0 hq0).mono fun e W' ⟨he, bel0⟩ => ?_
  have bel : Below W.heap.size W W' := bel0
  subst he
  exact ⟨_, rfl, _, _, _, [], _, [], hW', trodAll_mk1 (shut_bool Try.underlying4 _), (trodAll_cons_mk (Below.trod laidOut (by kernel_rfl) (of_decide_eq_true (by kernel_rfl)) h0 bel lt0) (trodAll_cons_mk (shut_string Try.underlying9 w1) (trodAll_cons_mk (shut_int Try.underlying3 w2) trodAll_mk0))), rfl, bel.frame _, fun h => by cases h⟩
theorem over : Rows.coverStrongerRow.holds Try.pinned (OpenSpec.ofChange Rows.coverStrongerSpec) :=
  OpenClaim.holds_of_wide 5 Try.f5 rfl rfl rfl rfl rfl rfl rfl ⟨rfl, rfl, rfl, rfl, rfl⟩ rfl rfl rfl rfl rfl (by kernel_rfl) Try.func5 (by kernel_rfl)
    (of_decide_eq_true (by kernel_rfl)) (by unfold Func.isWrapper; first | (rw [if_pos (by decide +kernel)]; kernel_rfl) | (rw [if_neg (by decide +kernel)]; exact ⟨rfl, rfl⟩))
    (fun os started H enc _ => lifted os started H enc)
theorem proved : Rows.CoverStrongerSaid := over
#print axioms proved
end Go.Proofs.Ytfnmploaklboiaa.coverStronger
namespace Go.Proofs.Ytfnmploaklboiaa
/-- The row, under a short name, for the claim. -/
theorem coverStronger_holds : Rows.CoverStrongerSaid := coverStronger.proved
end Go.Proofs.Ytfnmploaklboiaa
