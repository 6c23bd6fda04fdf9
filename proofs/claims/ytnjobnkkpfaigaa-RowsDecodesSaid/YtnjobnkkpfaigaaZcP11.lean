import Derived.Test.YtnjobnkkpfaigaaZcP10
/- Layer 6: the reference's reading of one value is the program's: the cases. -/
namespace Go.Proofs.Ytnjobnkkpfaigaa
open Go.RowKit Go.Proofs.YtnjobnkkpfaigaaW.PrintWords Go.Proofs.YtnjobnkkpfaigaaW.PrintMore Fl V A
set_option linter.unusedSimpArgs false
set_option linter.unusedVariables false
theorem one_end (k : Nat) (x0 : Int) (x1 : List Int) (x2 n u a b : Int) (c : ByteArray) : haspref06_one.l0 (k + 1) x0 x1 x2 n u (-1) a b c = haspref06_one.j4 k x0 x1 (wrap64 (x2 + n)) u (if x0 = 1 then decide (u > 1) else false) a b c := by
  rw [haspref06_one.l0, if_neg (by decide)]
  by_cases h : x0 = 1
  · rw [if_pos h, if_pos h]
  · rw [if_neg h, if_neg h]
/-- From the place of the bytes on: n bytes, then the number's ways. -/
theorem one_j2 (g n : Nat) (x0 : Int) (x1 : List Int) (at_ : Nat) (a b : Int) (c : ByteArray) (h : at_ ≤ x1.length) (hl : x1.length < 140737488355328) (hn : n ≤ 8) (hn0 : 1 ≤ n) :
    haspref06_one.j2 (n + g + 2) x0 x1 at_ n a b c = if x1.length - at_ < n then some (a, b, c, (at_ : Int), 3) else
      haspref06_one.j4 g x0 x1 ((at_ + n : Nat) : Int) (((x1.drop at_).take n).reverse.foldl stepU 0) (if x0 = 1 then decide (((x1.drop at_).take n).reverse.foldl stepU 0 > 1) else false) a b c := by
  have e0 : wrap64 ((x1.length : Int) - (at_ : Int)) = ((x1.length - at_ : Nat) : Int) := by rw [IntWalk.wrap64_in _ (by omega)]; omega
  rw [show n + g + 2 = (n + g + 1) + 1 by omega, haspref06_one.j2, e0]
  by_cases hs : x1.length - at_ < n
  · rw [if_pos (by omega), if_pos hs]
  · rw [if_neg (by omega), if_neg hs]
    have e1 : wrap64 ((n : Int) - 1) = (n : Int) - 1 := by rw [IntWalk.wrap64_in _ (by omega)]
    have e2 : wrap64 ((at_ : Int) + (n : Int)) = ((at_ + n : Nat) : Int) := by rw [IntWalk.wrap64_in _ (by omega)]; omega
    rw [e1, onel0_at n g x0 x1 at_ n 0 a b c (by omega) hl, one_end, e2]
theorem stepU_byte (x : Int) (h0 : 0 ≤ x) (h1 : x < 256) : stepU 0 x = x := by unfold stepU; rw [u64w, u64w, u64w]; omega
theorem one_byte (x1 : List Int) (at_ : Nat) (h : at_ < x1.length) (hx : ∀ x ∈ x1, 0 ≤ x ∧ x < 256) : ((x1.drop at_).take 1).reverse.foldl stepU 0 = x1[at_] := by
  have hm := hx _ (List.getElem_mem h)
  rw [List.drop_eq_getElem_cons h]
  exact stepU_byte _ hm.1 hm.2
theorem take1_ok (x1 : List Int) (at_ : Nat) (h : at_ < x1.length) : (takeY (x1.drop at_) 0 1).getD 0 0 = x1[at_] := by
  have e := takeY_ok (x1.drop at_) 1 (by rw [List.length_drop]; omega)
  rw [show ((1 : Nat) : Int) = 1 from rfl] at e
  rw [e, List.drop_eq_getElem_cons h]
  rfl
theorem take1_no (x1 : List Int) (at_ : Nat) (h : x1.length ≤ at_) : (takeY (x1.drop at_) 0 1).getD 0 0 = 0 := by
  have e := takeY_no (x1.drop at_) 1 (by rw [List.length_drop]; omega)
  rw [show ((1 : Nat) : Int) = 1 from rfl] at e
  rw [e]
  rfl
theorem takeE1_ok (x1 : List Int) (at_ : Nat) (h : at_ < x1.length) : takeE (x1.drop at_) 0 1 = 0 := takeE_ok (x1.drop at_) 1 (by rw [List.length_drop]; omega)
theorem takeE1_no (x1 : List Int) (at_ : Nat) (h : x1.length ≤ at_) : takeE (x1.drop at_) 0 1 = 3 := takeE_no (x1.drop at_) 1 (by rw [List.length_drop]; omega)
theorem takeX1_ok (x1 : List Int) (at_ : Nat) (h : at_ < x1.length) : takeX (x1.drop at_) 0 1 = x1.drop (at_ + 1) := by
  have e := takeX_ok (x1.drop at_) 1 (by rw [List.length_drop]; omega)
  rw [show ((1 : Nat) : Int) = 1 from rfl] at e
  rw [e, List.drop_drop]
theorem one_bool (g : Nat) (x1 : List Int) (at_ : Nat) (h : at_ ≤ x1.length) (hl : x1.length < 140737488355328) (hx : ∀ x ∈ x1, 0 ≤ x ∧ x < 256) : OneOk x1 at_ 1 (haspref06_one.f (g + 20) 1 x1 at_) := by
  unfold haspref06_one.f
  rw [if_neg (by decide), show decide ((1 : Int) > 4) = false by decide, show g + 20 = (g + 19) + 1 by omega, haspref06_one.j0, if_neg (by decide), if_neg (by decide), show ((1 : Int) == 3) = false by decide, show g + 19 = (g + 18) + 1 by omega, haspref06_one.j1, if_neg (by decide)]
  have e := one_j2 (g + 15) 1 1 x1 at_ 0 0 ⟨#[]⟩ h hl (by omega) (by omega)
  rw [show 1 + (g + 15) + 2 = g + 18 by omega, show ((1 : Nat) : Int) = 1 from rfl] at e
  rw [e]
  unfold OneOk valR
  simp only [if_true]
  by_cases hs : x1.length - at_ < 1
  · rw [if_pos hs, take1_no x1 at_ (by omega), takeE1_no x1 at_ (by omega)]
    exact ⟨_, _, _, _, _, rfl, by simp, by omega⟩
  · rw [if_neg hs, one_byte x1 at_ (by omega) hx, take1_ok x1 at_ (by omega), takeE1_ok x1 at_ (by omega), takeX1_ok x1 at_ (by omega)]
    rw [show g + 15 = (g + 14) + 1 by omega, haspref06_one.j4]
    have hb := hx _ (List.getElem_mem (show at_ < x1.length by omega))
    by_cases h1 : x1[at_] > 1
    · rw [if_pos (by simpa using h1)]
      exact ⟨_, _, _, _, _, rfl, by rw [if_pos h1]; rfl, by omega⟩
    · rw [if_neg (by simpa using h1), if_neg (by decide), show g + 14 = (g + 13) + 1 by omega, haspref06_one.j5, if_neg (by decide), if_pos (by decide)]
      rw [IntWalk.wrap64_in _ (by omega)]
      exact ⟨_, _, _, _, _, rfl, by rw [if_neg h1], fun _ => ⟨at_ + 1, rfl, by omega, by omega, rfl, rfl⟩⟩
theorem take8_ok (x1 : List Int) (at_ : Nat) (h : at_ + 8 ≤ x1.length) : takeE (x1.drop at_) 0 8 = 0 ∧ takeX (x1.drop at_) 0 8 = x1.drop (at_ + 8) := by
  refine ⟨takeE_ok (x1.drop at_) 8 (by rw [List.length_drop]; omega), ?_⟩
  have e := takeX_ok (x1.drop at_) 8 (by rw [List.length_drop]; omega)
  rw [show ((8 : Nat) : Int) = 8 from rfl] at e
  rw [e, List.drop_drop]
theorem takeE8_no (x1 : List Int) (at_ : Nat) (h : x1.length - at_ < 8) : takeE (x1.drop at_) 0 8 = 3 := takeE_no (x1.drop at_) 8 (by rw [List.length_drop]; omega)
theorem bytes_at {x1 : List Int} (hx : ∀ x ∈ x1, 0 ≤ x ∧ x < 256) (at_ : Nat) : ∀ x ∈ x1.drop at_, 0 ≤ x ∧ x < 256 := fun x h => hx x (List.mem_of_mem_drop h)
theorem valR_2 (xs : List Int) (err : Int) : valR xs err 2 = ⟨⟨2, numN xs err, ⟨#[]⟩⟩, takeX xs err 8, takeE xs err 8⟩ := by
  unfold valR; rw [if_neg (by decide), if_pos rfl]
theorem valR_3 (xs : List Int) (err : Int) : valR xs err 3 = ⟨⟨3, numN xs err, ⟨#[]⟩⟩, takeX xs err 8, if (numN xs err != canonI (numN xs err)) = true then failE (takeE xs err 8) 2 else takeE xs err 8⟩ := by
  unfold valR; rw [if_neg (by decide), if_neg (by decide), if_pos rfl]
theorem valR_4 (xs : List Int) (err : Int) : valR xs err 4 = ⟨⟨4, 0, strOfNums (takeY (takeX xs err 1) (textE xs err) ((takeY xs err 1).getD 0 0))⟩, takeX (takeX xs err 1) (textE xs err) ((takeY xs err 1).getD 0 0), takeE (takeX xs err 1) (textE xs err) ((takeY xs err 1).getD 0 0)⟩ := by
  unfold valR; rw [if_neg (by decide), if_neg (by decide), if_neg (by decide), if_pos rfl]
theorem valR_bad (xs : List Int) (err t : Int) (ht : t < 1 ∨ t > 4) : valR xs err t = ⟨⟨t, 0, ⟨#[]⟩⟩, xs, failE err 30⟩ := by
  unfold valR; rw [if_neg (by omega), if_neg (by omega), if_neg (by omega), if_neg (by omega)]
theorem one_int (g : Nat) (x1 : List Int) (at_ : Nat) (h : at_ ≤ x1.length) (hl : x1.length < 140737488355328) (hx : ∀ x ∈ x1, 0 ≤ x ∧ x < 256) : OneOk x1 at_ 2 (haspref06_one.f (g + 20) 2 x1 at_) := by
  unfold haspref06_one.f
  rw [if_neg (by decide), show decide ((2 : Int) > 4) = false by decide, show g + 20 = (g + 19) + 1 by omega, haspref06_one.j0, if_neg (by decide), if_pos rfl, show g + 19 = (g + 18) + 1 by omega, haspref06_one.j1, if_pos rfl]
  have e := one_j2 (g + 8) 8 2 x1 at_ 0 0 ⟨#[]⟩ h hl (by omega) (by omega)
  rw [show 8 + (g + 8) + 2 = g + 18 by omega, show ((8 : Nat) : Int) = 8 from rfl] at e
  rw [e]
  unfold OneOk
  rw [valR_2]
  by_cases hs : x1.length - at_ < 8
  · rw [if_pos hs]
    exact ⟨_, _, _, _, _, rfl, takeE8_no x1 at_ hs, by omega⟩
  · rw [if_neg hs]
    obtain ⟨h1, h2⟩ := take8_ok x1 at_ (by omega)
    have hN := numN_ok (x1.drop at_) (by rw [List.length_drop]; omega) (bytes_at hx at_)
    rw [if_neg (show ¬ (2 : Int) = 1 by decide), show g + 8 = (g + 7) + 1 by omega, haspref06_one.j4, if_neg (by decide), if_neg (by decide), show g + 7 = (g + 6) + 1 by omega, haspref06_one.j5, if_neg (by decide), if_pos (by decide), ← hN]
    exact ⟨_, _, _, _, _, rfl, h1, fun _ => ⟨at_ + 8, rfl, by omega, by omega, rfl, h2⟩⟩
theorem one_real (g : Nat) (x1 : List Int) (at_ : Nat) (h : at_ ≤ x1.length) (hl : x1.length < 140737488355328) (hx : ∀ x ∈ x1, 0 ≤ x ∧ x < 256) : OneOk x1 at_ 3 (haspref06_one.f (g + 20) 3 x1 at_) := by
  unfold haspref06_one.f
  rw [if_neg (by decide), show decide ((3 : Int) > 4) = false by decide, show g + 20 = (g + 19) + 1 by omega, haspref06_one.j0, if_neg (by decide), if_neg (by decide), show ((3 : Int) == 3) = true by decide, show g + 19 = (g + 18) + 1 by omega, haspref06_one.j1, if_pos rfl]
  have e := one_j2 (g + 8) 8 3 x1 at_ 0 0 ⟨#[]⟩ h hl (by omega) (by omega)
  rw [show 8 + (g + 8) + 2 = g + 18 by omega, show ((8 : Nat) : Int) = 8 from rfl] at e
  rw [e]
  unfold OneOk
  rw [valR_3]
  by_cases hs : x1.length - at_ < 8
  · rw [if_pos hs, numN_no _ (by rw [List.length_drop]; omega), takeE8_no x1 at_ hs]
    exact ⟨_, _, _, _, _, rfl, by rw [show ((0 : Int) != canonI 0) = false by decide +kernel]; rfl, by omega⟩
  · rw [if_neg hs]
    obtain ⟨h1, h2⟩ := take8_ok x1 at_ (by omega)
    have hN := numN_ok (x1.drop at_) (by rw [List.length_drop]; omega) (bytes_at hx at_)
    rw [if_neg (show ¬ (3 : Int) = 1 by decide), show g + 8 = (g + 7) + 1 by omega, haspref06_one.j4, if_neg (by decide), if_pos rfl, ← hN, canon_same, Option.bind_some, h1]
    rw [show g + 7 = (g + 6) + 1 by omega, haspref06_one.j5]
    obtain ⟨N, hN'⟩ : ∃ N, numN (x1.drop at_) 0 = N := ⟨_, rfl⟩
    rw [hN'] at hN ⊢
    by_cases hc : N = canonI N
    · rw [if_neg (by simpa using hc.symm), if_pos (by decide), ← hN]
      exact ⟨_, _, _, _, _, rfl, by rw [if_neg (by simpa using hc)], fun _ => ⟨at_ + 8, rfl, by omega, by omega, rfl, h2⟩⟩
    · rw [if_pos (by simpa using fun e => hc e.symm)]
      exact ⟨_, _, _, _, _, rfl, by rw [if_pos (by simpa using hc)]; rfl, by omega⟩
theorem one_text (g : Nat) (x1 : List Int) (at_ : Nat) (h : at_ ≤ x1.length) (hl : x1.length < 140737488355328) (hx : ∀ x ∈ x1, 0 ≤ x ∧ x < 256) : OneOk x1 at_ 4 (haspref06_one.f (g + 20) 4 x1 at_) := by
  unfold haspref06_one.f
  rw [if_neg (by decide), show decide ((4 : Int) > 4) = false by decide, show g + 20 = (g + 19) + 1 by omega, haspref06_one.j0, if_neg (by decide), if_neg (by decide), show ((4 : Int) == 3) = false by decide, show g + 19 = (g + 18) + 1 by omega, haspref06_one.j1, if_neg (by decide)]
  have e := one_j2 (g + 15) 1 4 x1 at_ 0 0 ⟨#[]⟩ h hl (by omega) (by omega)
  rw [show 1 + (g + 15) + 2 = g + 18 by omega, show ((1 : Nat) : Int) = 1 from rfl] at e
  rw [e]
  unfold OneOk
  rw [valR_4]
  unfold textE
  by_cases hs : x1.length - at_ < 1
  · rw [if_pos hs, take1_no x1 at_ (by omega), takeE1_no x1 at_ (by omega), if_neg (by decide)]
    exact ⟨_, _, _, _, _, rfl, (by dsimp only; exact takeE_keep (by decide) _ _), by omega⟩
  · rw [if_neg hs, one_byte x1 at_ (by omega) hx, take1_ok x1 at_ (by omega), takeE1_ok x1 at_ (by omega), takeX1_ok x1 at_ (by omega)]
    have hb := hx _ (List.getElem_mem (show at_ < x1.length by omega))
    obtain ⟨y, hy⟩ : ∃ y : Nat, x1[at_] = (y : Int) := ⟨x1[at_].toNat, by omega⟩
    rw [hy] at hb ⊢
    rw [if_neg (show ¬ (4 : Int) = 1 by decide), show g + 15 = (g + 14) + 1 by omega, haspref06_one.j4, if_neg (by decide), if_neg (by decide), show g + 14 = (g + 13) + 1 by omega, haspref06_one.j5, if_neg (by decide), if_neg (by decide)]
    by_cases h2 : (y : Int) > 200
    · rw [if_pos h2, if_pos h2]
      exact ⟨_, _, _, _, _, rfl, (by dsimp only; exact takeE_keep (by decide) _ _), by omega⟩
    · rw [if_neg h2, if_neg h2]
      have e0 : wrap64 ((x1.length : Int) - ((at_ + 1 : Nat) : Int)) = ((x1.length - (at_ + 1) : Nat) : Int) := by rw [IntWalk.wrap64_in _ (by omega)]; omega
      have e1 : wrap64 (y : Int) = (y : Int) := IntWalk.wrap64_in _ (by omega)
      simp only [e0, e1]
      by_cases h3 : x1.length - (at_ + 1) < y
      · rw [if_pos (by omega)]
        exact ⟨_, _, _, _, _, rfl, takeE_no _ _ (by rw [List.length_drop]; omega), by omega⟩
      · have e2 : wrap64 (((at_ + 1 : Nat) : Int) + (y : Int)) = ((at_ + 1 + y : Nat) : Int) := by rw [IntWalk.wrap64_in _ (by omega)]; omega
        rw [if_neg (by omega), if_pos (by omega), e2, if_pos (by omega), if_pos (by omega), Int.toNat_natCast, Int.toNat_natCast]
        have hle : y ≤ (x1.drop (at_ + 1)).length := by rw [List.length_drop]; omega
        refine ⟨_, _, _, _, _, rfl, takeE_ok _ _ hle, fun _ => ⟨at_ + 1 + y, rfl, by omega, by omega, ?_, ?_⟩⟩
        · rw [takeY_ok _ _ hle, List.drop_take]
          congr 3
          omega
        · rw [takeX_ok _ _ hle, List.drop_drop]
theorem one_bad (g : Nat) (t : Int) (x1 : List Int) (at_ : Nat) (ht : t < 1 ∨ t > 4) : OneOk x1 at_ t (haspref06_one.f (g + 20) t x1 at_) := by
  unfold OneOk
  rw [valR_bad _ _ _ ht]
  refine ⟨0, 0, ⟨#[]⟩, at_, 30, ?_, rfl, by omega⟩
  unfold haspref06_one.f
  by_cases h : t < 1
  · rw [if_pos h, show g + 20 = (g + 19) + 1 by omega, haspref06_one.j0, if_pos rfl]
  · rw [if_neg h, decide_eq_true (show t > 4 by omega), show g + 20 = (g + 19) + 1 by omega, haspref06_one.j0, if_pos rfl]
theorem one_ok (g : Nat) (t : Int) (x1 : List Int) (at_ : Nat) (h : at_ ≤ x1.length) (hl : x1.length < 140737488355328) (hx : ∀ x ∈ x1, 0 ≤ x ∧ x < 256) : OneOk x1 at_ t (haspref06_one.f (g + 20) t x1 at_) := by
  by_cases ht : t < 1 ∨ t > 4
  · exact one_bad g t x1 at_ ht
  · have : t = 1 ∨ t = 2 ∨ t = 3 ∨ t = 4 := by omega
    rcases this with rfl | rfl | rfl | rfl
    · exact one_bool g x1 at_ h hl hx
    · exact one_int g x1 at_ h hl hx
    · exact one_real g x1 at_ h hl hx
    · exact one_text g x1 at_ h hl hx
end Go.Proofs.Ytnjobnkkpfaigaa
