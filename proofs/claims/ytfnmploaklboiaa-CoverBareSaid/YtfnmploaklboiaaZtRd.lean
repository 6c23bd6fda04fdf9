import Derived.Test.YtfnmploaklboiaaZtRf
import Derived.Test.YtfnmploaklboiaaZtC2
/- What a plan that came in reads as: its table, its instructions, and how many they may be. -/
namespace Go.Proofs.Ytfnmploaklboiaa.Rd
open Go.ChangeShapes Go.WideShapes Go.RowKit Go.Deep Go.Joins Go.Proofs.YtfnmploaklboiaaW.PrintWords A
set_option linter.unusedVariables false
variable {w : World}
theorem r3 (m : Nat) : RdsF Try.prog w 3 (Kd.int .i64) (fun n => (Lit.int .i64 n).wf = true) m := rdsF_int m Try.underlying3
theorem r3' (m : Nat) : RdsF Try.prog w 3 (Kd.int .i64) (fun _ => True) m := rdsF_weak (r3 m) fun _ _ => trivial
theorem r2' (m : Nat) : RdsF Try.prog w 2 (Kd.int .i64) (fun _ => True) m := rdsF_weak (rdsF_int m Try.underlying2) fun _ _ => trivial
theorem r9 (m : Nat) : RdsF Try.prog w 9 Kd.string (fun s => s.size ≤ maxLen) m := rdsF_string m Try.underlying9
theorem r9' (m : Nat) : RdsF Try.prog w 9 Kd.string (fun _ => True) m := rdsF_weak (r9 m) fun _ _ => trivial
theorem r4 (m : Nat) : RdsF Try.prog w 4 Kd.bool (fun _ => True) m := rdsF_bool m Try.underlying4
theorem r79 (m : Nat) : RdsF Try.prog w 79 k79 (fun _ => True) (m + 1) :=
  rdsF_weak (rdsF_iso (fun x : S79 => (x.f0, x.f1, x.f2)) (fun p => ⟨p.1, p.2.1, p.2.2⟩) (fun _ => rfl)
    (rdsF_struct (tot := 3) Try.underlying79 (by kernel_rfl) (flds_cons rfl (by kernel_rfl : 1 = _) (r3' m) (flds_cons rfl (by kernel_rfl : 2 = _) (r2' m) (flds_one rfl (by kernel_rfl) (r9' m)))))) fun _ _ => trivial
theorem r81 (m : Nat) : RdsF Try.prog w 81 k81 (fun _ => True) m := by
  refine rdsF_fix sz81 (Kd.upto_E sub81) (fun n d hd h => ?_) m
  have h30 : RdsF Try.prog w 30 (Kd.slice 81 d) (fun l => ∀ a ∈ l, True) n := rdsF_less (Nat.le_succ n) (rdsF_slice Try.underlying30 (by rw [hd]; kernel_rfl) h)
  have h79 : RdsF Try.prog w 79 k79 (fun _ => True) n := rdsF_less (Nat.le_succ n) (r79 n)
  unfold F81
  exact rdsF_weak (rdsF_iso (fun x : S81 => (x.f0, x.f1, x.f2, x.f3, x.f4, x.f5)) (fun p => ⟨p.1, p.2.1, p.2.2.1, p.2.2.2.1, p.2.2.2.2.1, p.2.2.2.2.2⟩) (fun _ => rfl)
    (rdsF_struct (tot := 8) Try.underlying81 (by kernel_rfl) (flds_cons rfl (by kernel_rfl : 1 = _) (r3' n) (flds_cons rfl (by kernel_rfl : 2 = _) (r3' n) (flds_cons rfl (by kernel_rfl : 3 = _) h30
      (flds_cons rfl (by kernel_rfl : 6 = _) h79 (flds_cons rfl (by kernel_rfl : 7 = _) (r3' n) (flds_one rfl (by kernel_rfl) (r3' n))))))))) fun _ _ => trivial
theorem r30 (m : Nat) : RdsF Try.prog w 30 (Kd.slice 81 k81) (fun l => ∀ a ∈ l, True) m := rdsF_less (Nat.le_succ m) (rdsF_slice Try.underlying30 (by kernel_rfl) (r81 m))
theorem r31 (m : Nat) : RdsF Try.prog w 31 (Kd.slice 4 Kd.bool) (fun l => ∀ a ∈ l, True) m := rdsF_less (Nat.le_succ m) (rdsF_slice Try.underlying31 (by kernel_rfl) (r4 m))
/-- What is known of an instruction that came in. -/
def Q33 (x : S33) : Prop := (Lit.int .i64 x.f0).wf = true ∧ (Lit.int .i64 x.f1).wf = true ∧ (Lit.int .i64 x.f2).wf = true ∧ (Lit.int .i64 x.f3).wf = true ∧ (Lit.int .i64 x.f4).wf = true ∧ x.f5.size ≤ maxLen ∧ (Lit.int .i64 x.f6).wf = true
theorem r33 (m : Nat) : RdsF Try.prog w 33 k33 Q33 m := by
  refine rdsF_less (Nat.le_succ m) ?_
  exact rdsF_weak (rdsF_iso (fun x : S33 => (x.f0, x.f1, x.f2, x.f3, x.f4, x.f5, x.f6, x.f7, x.f8, x.f9, x.f10, x.f11, x.f12, x.f13))
    (fun p => ⟨p.1, p.2.1, p.2.2.1, p.2.2.2.1, p.2.2.2.2.1, p.2.2.2.2.2.1, p.2.2.2.2.2.2.1, p.2.2.2.2.2.2.2.1, p.2.2.2.2.2.2.2.2.1, p.2.2.2.2.2.2.2.2.2.1, p.2.2.2.2.2.2.2.2.2.2.1, p.2.2.2.2.2.2.2.2.2.2.2.1, p.2.2.2.2.2.2.2.2.2.2.2.2.1, p.2.2.2.2.2.2.2.2.2.2.2.2.2⟩) (fun _ => rfl)
    (rdsF_struct (tot := 14) Try.underlying33 (by kernel_rfl) (flds_cons rfl (by kernel_rfl : 1 = _) (r3 m) (flds_cons rfl (by kernel_rfl : 2 = _) (r3 m) (flds_cons rfl (by kernel_rfl : 3 = _) (r3 m) (flds_cons rfl (by kernel_rfl : 4 = _) (r3 m) (flds_cons rfl (by kernel_rfl : 5 = _) (r3 m)
      (flds_cons rfl (by kernel_rfl : 6 = _) (r9 m) (flds_cons rfl (by kernel_rfl : 7 = _) (r3 m) (flds_cons rfl (by kernel_rfl : 8 = _) (r30 m) (flds_cons rfl (by kernel_rfl : 9 = _) (r30 m) (flds_cons rfl (by kernel_rfl : 10 = _) (r4 m) (flds_cons rfl (by kernel_rfl : 11 = _) (r4 m)
      (flds_cons rfl (by kernel_rfl : 12 = _) (r30 m) (flds_cons rfl (by kernel_rfl : 13 = _) (r3 m) (flds_one rfl (by kernel_rfl) (r31 m)))))))))))))))))
    fun x h => ⟨h.1, h.2.1, h.2.2.1, h.2.2.2.1, h.2.2.2.2.1, h.2.2.2.2.2.1, h.2.2.2.2.2.2.1⟩
/-- A plan that came in. -/
theorem open_plan {H : Type} {enc : TypeId × Value → H} {cs : Array Value} {d : DataW H} {ps : List MemPlace} {ts : List TypeId} {ds : List (DataW H)} {j : Nat}
    (hsz : (DataW.weightsEach Try.prog ts ds).all (· ≤ reachBytes) = true) (ht : ts[j]? = some 25) (hd : ds[j]? = some d) (h : DataW.Trod enc Try.prog w 0 (fun _ => true) true 25 (.agg cs) d ps) :
    ∃ (t : ByteArray) (A : Option Addr) (l : List S33) (c : Nat), cs = #[.string t, .slice A l.length c] ∧ t.size ≤ maxLen ∧ l.length ≤ c ∧ Kd.C k33 w A l.length l ∧ (∀ x ∈ l, Q33 x) ∧ l.length * 176 ≤ 140737488351232 := by
  obtain ⟨fuel, hf⟩ := h
  obtain ⟨xs, n, rfl, hx, hl, hlen, hg⟩ := DataW.trod_struct Try.underlying25 hf
  rw [show Try.prog.cellsOf 25 = 2 from by kernel_rfl] at hl
  match xs, hlen with
  | [y0, y1], _ =>
    have g0 : DataW.trod enc Try.prog w 0 (fun _ => true) true n 9 (((Value.agg cs).cells.toList.drop 0).take (Try.prog.cellsOf 9)) = some y0 := hg 0 _ rfl
    have g1 : DataW.trod enc Try.prog w 0 (fun _ => true) true n 23 (((Value.agg cs).cells.toList.drop 1).take (Try.prog.cellsOf 23)) = some y1 := hg 1 _ rfl
    obtain ⟨hd0, hp0⟩ := Prod.mk.inj hx
    subst hd0
    have hl2 : cs.toList.length = 2 := by simpa [Value.cells] using hl
    obtain ⟨v0, v1, hcs⟩ : ∃ v0 v1, cs.toList = [v0, v1] := by
      match h : cs.toList, hl2 with
      | [v0, v1], _ => exact ⟨v0, v1, rfl⟩
    have e0 : ((Value.agg cs).cells.toList.drop 0).take (Try.prog.cellsOf 9) = [v0] := by
      rw [show Try.prog.cellsOf 9 = 1 from by kernel_rfl, show (Value.agg cs).cells.toList = [v0, v1] from hcs]; rfl
    have e1 : ((Value.agg cs).cells.toList.drop 1).take (Try.prog.cellsOf 23) = [v1] := by
      rw [show Try.prog.cellsOf 23 = 1 from by kernel_rfl, show (Value.agg cs).cells.toList = [v0, v1] from hcs]; rfl
    rw [e0] at g0
    rw [e1] at g1
    obtain ⟨t, ht0, htq⟩ := r9 n _ _ _ _ _ (Nat.le_refl n) g0
    obtain ⟨l, ⟨A, c, hv1, hc, hC⟩, hq⟩ := rdsF_less (Nat.le_succ n) (rdsF_slice Try.underlying23 (by kernel_rfl) (r33 n)) _ _ _ _ _ (Nat.le_refl n) g1
    have hv0 : v0 = .string t := by
      have h : [v0] = [.string t] := ht0
      injection h
    have hv1' : v1 = .slice A l.length c := by
      injection hv1
    subst hv0 hv1'
    refine ⟨t, A, l, c, ?_, htq, hc, hC, hq, ?_⟩
    · cases cs; simp_all
    · rcases DataW.trod_slice Try.underlying23 g1 with ⟨h0, _⟩ | ⟨a, len, cap, elems, rest, m, _, h0, h1, _, _, _, hlen, _, _⟩
      · injection h0 with h0 _
        injection h0 with _ h0 _
        rw [h0]; decide
      · injection h0 with h0 _
        injection h0 with _ h0 _
        have hm := List.all_eq_true.1 hsz _ (DataW.weights_mem_each ht hd ((elems.length + rest.length) * Try.prog.bytesOf 33) (by
          have hy1 : y1.1 = .slice (elems.map (·.1)) (rest.map (·.1)) := by
            have := congrArg Prod.fst h1
            simpa using this
          simp only [List.map_cons, List.map_nil]
          rw [hy1]
          simp [DataW.weights, Try.underlying25, Try.underlying23, DataW.weightsEach]))
        rw [show Try.prog.bytesOf 33 = 176 from by kernel_rfl] at hm
        have hm' : (elems.length + rest.length) * 176 ≤ 140737488351232 := of_decide_eq_true hm
        rw [h0, ← hlen]
        omega
end Go.Proofs.Ytfnmploaklboiaa.Rd
