import Derived.Test.YtgbjilcfgpbcgaaZpH28
/- Layer 8: the reference's lay, walked. -/
namespace Go.Proofs.Ytgbjilcfgpbcgaa
open Go.RowKit Go.Proofs.YtgbjilcfgpbcgaaW.PrintWords Go.Proofs.YtgbjilcfgpbcgaaW.PrintLast Go.Proofs.YtgbjilcfgpbcgaaW.PrintMore
set_option linter.unusedSimpArgs false
set_option linter.unusedVariables false
theorem info51 : (Try.prog.info? 51).map (fun i => (i.zero, i.size, i.bytes)) = some (some (.agg #[.int .i64 0, .slice none 0 0]), 2, 32) := by kernel_rfl
/-- A slot's row in memory. -/
theorem slot_M {W : World} {base : Nat} {ok : Nat → Prop} (id : Int) (row : List Int) {v : Value} (h : kb.R 5 W base ok v row) : k51.M W base ok ⟨id, row⟩ [.int .i64 id, v] := B.k51_mkM W base ok ⟨id, row⟩ h
/-- append(h.Slots, s). -/
theorem app51 {W : World} {base : Nat} {ok okp : Nat → Prop} {vs : Value} {sl : List S51} (HO : k51.R 51 W base ok vs sl) (x : S51) {v : Value} (hv : kb.R 5 W base okp v x.f1) (hokp : ∀ k, okp k → ok k ∧ some k ≠ vs.ownBlock) (hfresh : ∀ k, W.heap.size ≤ k → ok k) (hbase : base ≤ W.heap.size) (hl : sl.length + 1 ≤ 4000000000001) :
    ∃ v1 w1, (Builtin.append_ #[46, 46] 46 #[vs, .slice (some ⟨W.heap.size, 0, none⟩) 1 1]).run Try.prog (W.alloc (.cells #[.int .i64 x.f0, v] 51)) = .ok v1 w1 ∧ k51.R 51 w1 base ok v1 (sl ++ [x]) ∧ W.grownBy w1 vs.ownBlock ∧ (v1.ownBlock = vs.ownBlock ∨ ∃ b, v1.ownBlock = some b ∧ W.heap.size ≤ b) := by
  obtain ⟨i0, hi, hzz⟩ := Option.map_eq_some_iff.1 info51
  simp only [Prod.mk.injEq] at hzz
  obtain ⟨hz0, hz1, hz2⟩ := hzz
  obtain ⟨h0, inner, hown, hr⟩ := HO
  have hp := slot_M x.f0 x.f1 hv
  have hK : k51.K W x [.int .i64 x.f0, v] := k51.K_of_M hp
  obtain ⟨v1, w1, hrun, hown1, hg, _, hat⟩ := run_append_own_at (P := Try.prog) (W.alloc (.cells #[.int .i64 x.f0, v] 51)) base 46 46 51 i0 (.agg #[.int .i64 0, .slice none 0 0]) 2 32 Try.underlying46 hi hz0 hz1 hz2 rfl (by decide) vs sl.length inner (hown.alloc _) ⟨W.heap.size, 0, none⟩ 1 1 [.int .i64 x.f0, v] rfl
    (by simpa using World.news_of_block (cs := #[.int .i64 x.f0, v]) (t := 51) (fr := (0, 0)) (heap_alloc_new W (.cells #[.int .i64 x.f0, v] 51))) (k51.K_one hK) (by simp only [maxLen]; omega) (by omega) (by simp; omega)
  have hg2 : W.grownBy w1 vs.ownBlock := World.grownBy.trans (World.grownBy_alloc W _ _) hg
  have hat2 : v1.ownBlock = vs.ownBlock ∨ ∃ b, v1.ownBlock = some b ∧ W.heap.size ≤ b := by
    rcases hat with hat | hat
    · exact .inl hat
    · exact .inr ⟨_, hat, by simp⟩
  exact ⟨v1, w1, hrun, Kd.R_appended h0 hr hp hokp hfresh hown1 hg2 hat2, hg2, hat2⟩
/-- h.Slots[i] = s. -/
theorem put51 {W : World} {base g n cap : Nat} {ok okp : Nat → Prop} {sl : List S51} (h : k51.R 51 W base ok (.slice (some ⟨g, 0, none⟩) n cap) sl) (i : Nat) (hi : i < n) (x : S51) {v : Value} (hv : kb.R 5 W base okp v x.f1) (hokp : ∀ k, okp k → ok k ∧ k ≠ g) :
    k51.R 51 ((W.setCell ⟨g, i * 2, none⟩ (.int .i64 x.f0)).setCell ⟨g, i * 2 + 1, none⟩ v) base ok (.slice (some ⟨g, 0, none⟩) n cap) (sl.set i x) ∧ W.grownBy ((W.setCell ⟨g, i * 2, none⟩ (.int .i64 x.f0)).setCell ⟨g, i * 2 + 1, none⟩ v) (some g) := by
  obtain ⟨hn, hnc, hC⟩ := Kd.R_reads' h
  obtain ⟨ad, c, e, hcl, hK, hcc⟩ := Kd.C_get hC B.z51 (i : Int) (by omega) (by omega)
  injection e with e
  subst e
  rw [Int.toNat_natCast] at hcc hK
  have hcc' : ∀ j u, c[j]? = some u → W.cell? ⟨g, ((i : Int)).toNat * k51.sz + j, none⟩ = some u := fun j u hu => by
    rw [Int.toNat_natCast]
    have := hcc j u hu
    rwa [add_plain] at this
  have := Kd.R_seg h (i : Int) (by omega) (by omega) (seg := [.int .i64 x.f0, v]) (j := 0) hcl hcc' (by show 0 + 2 ≤ 2; omega) (x' := x) (okp := okp) (by
    rw [List.take_zero, List.nil_append, List.drop_eq_nil_of_le (by rw [hcl]; show 2 ≤ 0 + 2; omega), List.append_nil]
    exact slot_M x.f0 x.f1 hv) hokp
  rw [Int.toNat_natCast] at this
  exact this
end Go.Proofs.Ytgbjilcfgpbcgaa
