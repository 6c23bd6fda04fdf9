import Derived.Test.YtnjobnkkpfaigaaZfC4
import Derived.Test.YtnjobnkkpfaigaaZfAx
/- Package rows: Decode. -/
namespace Go.Proofs.Ytnjobnkkpfaigaa
open Go.RowKit Go.Shelf Go.Proofs.YtnjobnkkpfaigaaW.PrintWords Go.Proofs.YtnjobnkkpfaigaaW.PrintLast Go.Proofs.YtnjobnkkpfaigaaW.PrintMore A Fl
set_option linter.unusedVariables false
set_option linter.unusedSimpArgs false
/-- What a value's reading leaves. -/
structure Got where
  v : S43
  xs : List Int
  err : Int
def valR (xs : List Int) (err t : Int) : Got :=
  if t = 1 then ⟨⟨1, (takeY xs err 1).getD 0 0, ⟨#[]⟩⟩, takeX xs err 1, if (takeY xs err 1).getD 0 0 > 1 then failE (takeE xs err 1) 2 else takeE xs err 1⟩
  else if t = 2 then ⟨⟨2, numN xs err, ⟨#[]⟩⟩, takeX xs err 8, takeE xs err 8⟩
  else if t = 3 then ⟨⟨3, numN xs err, ⟨#[]⟩⟩, takeX xs err 8, if (numN xs err != canonI (numN xs err)) = true then failE (takeE xs err 8) 2 else takeE xs err 8⟩
  else if t = 4 then ⟨⟨4, 0, strOfNums (takeY (takeX xs err 1) (textE xs err) ((takeY xs err 1).getD 0 0))⟩, takeX (takeX xs err 1) (textE xs err) ((takeY xs err 1).getD 0 0), takeE (takeX xs err 1) (textE xs err) ((takeY xs err 1).getD 0 0)⟩
  else ⟨⟨t, 0, ⟨#[]⟩⟩, xs, failE err 30⟩
theorem value_calls (g : Nat) (xs : List Int) (err t : Int) (w0 w : World) (hx : ∀ x ∈ xs, 0 ≤ x ∧ x < 256) (hI : Cut w0 w g xs err) (hB : Below w0.heap.size w0 w) :
    Calls Try.prog 24 #[.pointer (some ⟨g, 0, none⟩), .int .i64 t] w (ValPost w0 w g (valR xs err t).v.f0 (valR xs err t).v.f1 (valR xs err t).v.f2 (valR xs err t).xs (valR xs err t).err) := by
  unfold valR
  by_cases h1 : t = 1
  · subst h1
    rw [if_pos rfl]
    exact value_bool g xs err w0 w hx hI hB
  · rw [if_neg h1]
    by_cases h2 : t = 2
    · subst h2
      rw [if_pos rfl]
      simpa using value_num 2 (by decide) true false (by decide) (by decide) (by decide) g xs err w0 w hI hB
    · rw [if_neg h2]
      by_cases h3 : t = 3
      · subst h3
        rw [if_pos rfl]
        simpa using value_num 3 (by decide) false true (by decide) (by decide) (by decide) g xs err w0 w hI hB
      · rw [if_neg h3]
        by_cases h4 : t = 4
        · subst h4
          rw [if_pos rfl]
          exact value_text g xs err w0 w hx hI hB
        · rw [if_neg h4]
          exact value_bad g xs err t w0 w hI hB h1 h2 h3 h4
theorem bytes_drop {xs : List Int} (hx : ∀ x ∈ xs, 0 ≤ x ∧ x < 256) (n : Nat) : ∀ x ∈ xs.drop n, 0 ≤ x ∧ x < 256 := fun x h => hx x (List.mem_of_mem_drop h)
theorem bytes_takeX {xs : List Int} (hx : ∀ x ∈ xs, 0 ≤ x ∧ x < 256) (err n : Int) : ∀ x ∈ takeX xs err n, 0 ≤ x ∧ x < 256 := by
  unfold takeX; split
  · exact hx
  · exact bytes_drop hx _
theorem bytes_val {xs : List Int} (hx : ∀ x ∈ xs, 0 ≤ x ∧ x < 256) (err t : Int) : ∀ x ∈ (valR xs err t).xs, 0 ≤ x ∧ x < 256 := by
  unfold valR
  repeat' split
  all_goals first | exact hx | exact bytes_takeX hx _ _ | exact bytes_takeX (bytes_takeX hx _ _) _ _
end Go.Proofs.Ytnjobnkkpfaigaa
