import Derived.Test.YtfnmploaklboiaaZtP9
import Derived.Test.YtfnmploaklboiaaZtD5
/- Layer 22: the plain law of CoverBare: a plan that opens a table and has no lock is not covered. -/
namespace Go.Proofs.Ytfnmploaklboiaa
open Go.RowKit Go.Proofs.YtfnmploaklboiaaW.PrintWords V A
set_option linter.unusedSimpArgs false
set_option linter.unusedVariables false
theorem mode_bare (s : ByteArray) : ∀ (l : List S33) (m : Int), (∀ x ∈ l, x.f0 ≠ 1) → l.foldl (fun m x => if x.f0 = 1 ∧ x.f5 = s then joinT m x.f3 else m) m = m
  | [], m, h => rfl
  | x :: r, m, h => by
    rw [List.foldl_cons, if_neg (fun q => h x List.mem_cons_self q.1)]
    exact mode_bare s r m fun y hy => h y (List.mem_cons_of_mem _ hy)
theorem bare_no (t : ByteArray) (l xs : List S33) (hk : xs.map keyB = (l.filter noL).map keyB) (ho : 0 < cntO [2] l) : ckB t xs = false := by
  obtain ⟨z, hz, hz2⟩ : ∃ z ∈ l, z.f0 = 2 := by
    apply Classical.byContradiction
    intro h
    have := cntO_zero' 2 l fun z hz q => h ⟨z, hz, q⟩
    omega
  have hb : ∀ x ∈ xs, x.f0 ≠ 1 := by
    intro x hx e
    have : keyB x ∈ (l.filter noL).map keyB := by rw [← hk]; exact List.mem_map_of_mem hx
    obtain ⟨u, hu, huk⟩ := List.mem_map.1 this
    have h0 := congrArg Prod.fst huk
    have hn := (List.mem_filter.1 hu).2
    unfold noL at hn
    have h0' : u.f0 = x.f0 := h0
    rw [h0', e] at hn
    cases hn
  obtain ⟨x, hx, hx2⟩ : ∃ x ∈ xs, x.f0 = 2 := by
    have : keyB z ∈ xs.map keyB := by rw [hk]; exact List.mem_map_of_mem (List.mem_filter.2 ⟨hz, by unfold noL; rw [hz2]; rfl⟩)
    obtain ⟨u, hu, huk⟩ := List.mem_map.1 this
    have h0 : u.f0 = z.f0 := congrArg Prod.fst huk
    exact ⟨u, hu, by rw [h0]; exact hz2⟩
  have hr : readR xs x = false := by
    unfold readR
    rw [if_pos hx2]
    have hm : modeF xs x.f5 = 0 := mode_bare x.f5 xs 0 hb
    rw [hm]
    cases List.find? (openP x.f1) xs with
    | none => rfl
    | some y =>
      show ((y.f5.toList == x.f5.toList && y.f6 == x.f6) && (cov 0 3 || (decide (x.f6 ≥ 0) && cov 0 1))) = false
      rw [show cov 0 3 = false by decide +kernel, show cov 0 1 = false by decide +kernel]
      simp
  have hf : readsB (modeF xs) xs = false := by
    rw [reads_eq, Bool.eq_false_iff]
    intro h
    have := List.all_eq_true.1 h x hx
    rw [hr] at this
    cases this
  unfold ckB
  rw [hf]
  simp
end Go.Proofs.Ytfnmploaklboiaa
