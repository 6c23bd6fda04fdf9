/- Layer 5: KeysBehind, the plain law. -/
import Derived.Test.YthoemenchimggaaDoorP0
import Derived.Test.YthoemenchimggaaDoorVx12
namespace Go.Proofs.YthoemenchimggaaDoor
open Go.RowKit Go.Proofs.YthoemenchimggaaDoorW.PrintWords Fl V A
set_option linter.unusedSimpArgs false
set_option linter.unusedVariables false
theorem w64s (i : Nat) (h : i < 140737488355328) (h0 : 0 < i) : wrap64 ((i : Int) - 1) = ((i - 1 : Nat) : Int) := by simp only [wrap64]; omega
theorem rdi_at (l : List Int) (i : Nat) (h : i < l.length) : rd l (i : Int) = l[i] := by simp [rd, List.getD, h]
/-- The order of bytes. -/
def ordL : List Int → List Int → Int
  | [], [] => 0
  | [], _ :: _ => -1
  | _ :: _, [] => 1
  | x :: a, y :: b => if x < y then -1 else if y < x then 1 else ordL a b
theorem order_at : ∀ (m : Nat) (a b : List Int) (i g : Nat), a.length - i ≤ m → i ≤ a.length → i ≤ b.length → a.length ≤ 4398046511104 → b.length ≤ 4398046511104 →
    haspref05_Order.l0 (2 * m + g + 2) a b i = some (ordL (a.drop i) (b.drop i)) := by
  intro m
  induction m with
  | zero =>
    intro a b i g hm hi hj ha hb
    have : i = a.length := by omega
    subst this
    rw [show 2 * 0 + g + 2 = g + 1 + 1 by omega, haspref05_Order.l0, if_neg (by omega), haspref05_Order.j1, if_neg (by decide), List.drop_length]
    by_cases h : a.length < b.length
    · rw [if_pos (by omega), List.drop_eq_getElem_cons h, ordL]
    · rw [if_neg (by omega), if_neg (by omega), List.drop_of_length_le (by omega), ordL]
  | succ m ih =>
    intro a b i g hm hi hj ha hb
    rw [show 2 * (m + 1) + g + 2 = (2 * m + g + 2) + 1 + 1 by omega, haspref05_Order.l0]
    by_cases h : i < a.length
    · rw [if_pos (by omega), haspref05_Order.j1, List.drop_eq_getElem_cons h]
      by_cases h2 : i < b.length
      · rw [if_pos (by simpa using h2), if_pos (by omega), if_pos (by omega), if_pos (by omega), rdi_at a i h, rdi_at b i h2, List.drop_eq_getElem_cons h2, ordL]
        by_cases h3 : a[i] < b[i]
        · rw [if_pos h3, if_pos h3]
        · rw [if_neg h3, if_neg h3]
          by_cases h4 : b[i] < a[i]
          · rw [if_pos h4, if_pos h4]
          · rw [if_neg h4, if_neg h4, w64n i (by omega), ih a b (i + 1) g (by omega) (by omega) (by omega) ha hb]
      · rw [if_neg (by simpa using h2), if_neg (by omega), if_pos (by omega), List.drop_of_length_le (i := i) (l := b) (by omega), ordL]
    · have : i = a.length := by omega
      subst this
      rw [if_neg (by omega), haspref05_Order.j1, if_neg (by decide), List.drop_length]
      by_cases h : a.length < b.length
      · rw [if_pos (by omega), List.drop_eq_getElem_cons h, ordL]
      · rw [if_neg (by omega), if_neg (by omega), List.drop_of_length_le (by omega), ordL]
theorem order_eq (a b : List Int) (k : Nat) (hk : 2 * a.length + 2 ≤ k) (ha : a.length ≤ 4398046511104) (hb : b.length ≤ 4398046511104) : haspref05_Order.f k a b = some (ordL a b) := by
  have h := order_at a.length a b 0 (k - 2 * a.length - 2) (by omega) (by omega) (by omega) ha hb
  rw [show 2 * a.length + (k - 2 * a.length - 2) + 2 = k by omega, List.drop_zero, List.drop_zero] at h
  exact h
theorem begins_at : ∀ (m : Nat) (a b : List Int) (i g : Nat), b.length - i ≤ m → i ≤ b.length → b.length ≤ a.length → a.length ≤ 4398046511104 →
    haspref05_Begins.l0 (m + g + 1) a b i = some (decide ((b.drop i) <+: (a.drop i))) := by
  intro m
  induction m with
  | zero =>
    intro a b i g hm hi hj ha
    have : i = b.length := by omega
    subst this
    rw [haspref05_Begins.l0, if_neg (by omega), List.drop_length]
    simp
  | succ m ih =>
    intro a b i g hm hi hj ha
    rw [show m + 1 + g + 1 = (m + g + 1) + 1 by omega, haspref05_Begins.l0]
    by_cases h : i < b.length
    · have h2 : i < a.length := by omega
      rw [if_pos (by omega), if_pos (by omega), if_pos (by omega), rdi_at a i h2, rdi_at b i h, List.drop_eq_getElem_cons h, List.drop_eq_getElem_cons h2]
      by_cases h3 : a[i] = b[i]
      · rw [if_pos h3, w64n i (by omega), ih a b (i + 1) g (by omega) (by omega) hj ha]
        simp only [List.cons_prefix_cons, h3, true_and]
      · rw [if_neg h3]
        have : ¬ b[i] = a[i] := fun h => h3 h.symm
        simp only [List.cons_prefix_cons, this, false_and, decide_false]
    · have : i = b.length := by omega
      subst this
      rw [if_neg (by omega), List.drop_length]
      simp
theorem begins_eq (a b : List Int) (k : Nat) (hk : b.length + 1 ≤ k) (ha : a.length ≤ 4398046511104) : haspref05_Begins.f k a b = some (decide (b <+: a)) := by
  unfold haspref05_Begins.f
  by_cases h : a.length < b.length
  · rw [if_pos (by omega)]
    have : ¬ b <+: a := fun hp => by have := hp.length_le; omega
    simp [this]
  · rw [if_neg (by omega)]
    have h := begins_at b.length a b 0 (k - b.length - 1) (by omega) (by omega) (by omega) ha
    rw [show b.length + (k - b.length - 1) + 1 = k by omega, List.drop_zero, List.drop_zero] at h
    exact h
/-- What comes behind all that begin with the first i bytes. -/
def behR (l : List Int) : Nat → List Int × Bool
  | 0 => ([], false)
  | i + 1 => if rd l (i : Int) = 255 then behR l i else ((l.take (i + 1)).set i ((rd l (i : Int) + 1) % 256), true)
theorem rd_take (l : List Int) (i : Nat) (h : i < l.length) : rd (l.take (i + 1)) (i : Int) = rd l (i : Int) := by
  rw [rdi_at l i h, rdi_at (l.take (i + 1)) i (by rw [List.length_take]; omega), List.getElem_take]
theorem behind_at (l : List Int) (hl : l.length ≤ 4398046511104) : ∀ (i g : Nat), i ≤ l.length → keys_Behind.l0 (i + g + 1) l i = some (behR l i) := by
  intro i
  induction i with
  | zero =>
    intro g _
    rw [keys_Behind.l0, if_neg (by decide), if_pos (by decide), behR]
  | succ i ih =>
    intro g hi
    rw [show i + 1 + g + 1 = (i + g + 1) + 1 by omega, keys_Behind.l0, w64s (i + 1) (by omega) (by omega), Nat.add_sub_cancel, if_pos (by omega), if_pos (by omega), if_pos (by omega), behR]
    by_cases h : rd l (i : Int) = 255
    · rw [if_pos h, if_pos h, ih g (by omega)]
    · rw [if_neg h, if_neg h, if_neg (by omega), if_pos (by omega), if_pos (by omega), Int.toNat_natCast, Int.toNat_natCast, bytes_Clone.f, if_pos (by rw [List.length_take]; omega), Option.bind_some,
        if_pos (by rw [List.length_take]; omega), rd_take l i (by omega)]
theorem refcopy_at (l : List Int) (hl : l.length ≤ 4398046511104) (n : Nat) (hn : n ≤ l.length) : ∀ (m i g : Nat), n - i ≤ m → i ≤ n →
    haspref05_Behind.l1 (m + g + 1) l n (l.take i) i = if n = 0 then some ([], false) else some ((l.take n).set (n - 1) ((rd l ((n - 1 : Nat) : Int) + 1) % 256), true) := by
  intro m
  induction m with
  | zero =>
    intro i g hm hi
    have : i = n := by omega
    subst this
    rw [haspref05_Behind.l1, if_neg (by omega)]
    by_cases h0 : i = 0
    · subst h0; rw [if_pos (by decide), if_pos rfl]; rfl
    · rw [if_neg (by omega), if_neg h0, w64s i (by omega) (by omega), if_pos (by omega), if_pos (by rw [List.length_take]; omega), Int.toNat_natCast]
      obtain ⟨j, rfl⟩ : ∃ j, i = j + 1 := ⟨i - 1, by omega⟩
      rw [Nat.add_sub_cancel, rd_take l j (by omega)]
  | succ m ih =>
    intro i g hm hi
    rw [show m + 1 + g + 1 = (m + g + 1) + 1 by omega, haspref05_Behind.l1]
    by_cases h : i < n
    · rw [if_pos (by omega), if_pos (by omega), if_pos (by omega), if_pos (by rw [List.length_take]; omega), rdi_at l i (by omega), ← List.take_succ_eq_append_getElem (by omega), w64n i (by omega)]
      exact ih (i + 1) g (by omega) (by omega)
    · have : i = n := by omega
      subst this
      have := ih i (g + 1) (by omega) (by omega)
      rw [show m + (g + 1) + 1 = (m + g + 1) + 1 by omega, haspref05_Behind.l1] at this
      exact this
theorem refbehind_at (l : List Int) (hl : l.length ≤ 4398046511104) : ∀ (i g : Nat), i ≤ l.length → haspref05_Behind.l0 (i + g + l.length + 4) l i = some (behR l i) := by
  intro i
  induction i with
  | zero =>
    intro g _
    have h := refcopy_at l hl 0 (by omega) 0 0 (g + l.length + 1) (by omega) (by omega)
    rw [show 0 + g + l.length + 4 = (0 + (g + l.length + 1) + 1) + 1 + 1 by omega, haspref05_Behind.l0, if_neg (by decide), haspref05_Behind.j1]
    exact h
  | succ i ih =>
    intro g hi
    rw [show i + 1 + g + l.length + 4 = (i + g + l.length + 4) + 1 by omega, haspref05_Behind.l0, w64s (i + 1) (by omega) (by omega), Nat.add_sub_cancel, if_pos (by omega), if_pos (by omega), if_pos (by omega), behR]
    by_cases h : rd l (i : Int) = 255
    · rw [if_pos h, if_pos h, ih g (by omega)]
    · rw [if_neg h, if_neg h]
      have h := refcopy_at l hl (i + 1) (by omega) (i + 1) 0 (g + l.length + 1) (by omega) (by omega)
      rw [show i + g + l.length + 4 = (i + 1 + (g + l.length + 1) + 1) + 1 by omega, haspref05_Behind.j1]
      rw [if_neg (by omega), Nat.add_sub_cancel] at h
      exact h
theorem ordL_pre : ∀ (p a b : List Int), ordL (p ++ a) (p ++ b) = ordL a b
  | [], a, b => rfl
  | x :: p, a, b => by rw [List.cons_append, List.cons_append, ordL, if_neg (by omega), if_neg (by omega), ordL_pre p a b]
theorem ff_pre : ∀ (f o : List Int), (∀ x ∈ f, x = 255) → (∀ x ∈ o, x < 256) → ¬ ordL o f < 0 → f <+: o
  | [], o, _, _, _ => List.nil_prefix
  | x :: f, [], _, _, h => absurd (by rw [ordL]; decide) h
  | x :: f, y :: o, hf, ho, h => by
    have hx := hf x (List.mem_cons_self ..)
    have hy := ho y (List.mem_cons_self ..)
    rw [ordL] at h
    by_cases h1 : y < x
    · rw [if_pos h1] at h; exact absurd (by decide) h
    · have e : y = x := by omega
      subst e
      rw [if_neg (by omega), if_neg (by omega)] at h
      rw [List.cons_prefix_cons]
      exact ⟨rfl, ff_pre f o (fun z hz => hf z (List.mem_cons_of_mem _ hz)) (fun z hz => ho z (List.mem_cons_of_mem _ hz)) h⟩
theorem none_between (c : Int) (f : List Int) (hf : ∀ x ∈ f, x = 255) : ∀ (p o : List Int), (∀ x ∈ o, x < 256) → ¬ (p ++ c :: f) <+: o → ¬ ordL o (p ++ c :: f) < 0 → ¬ ordL o (p ++ [c + 1]) < 0
  | [], [], _, _, h => absurd (by rw [List.nil_append, ordL]; decide) h
  | [], x :: o, ho, hp, h => by
    simp only [List.nil_append, ordL, List.cons_prefix_cons] at h hp ⊢
    by_cases h1 : x < c
    · rw [if_pos h1] at h; exact absurd (by decide) h
    · by_cases h2 : c < x
      · rw [if_neg (by omega)]
        split
        · decide
        · cases o <;> simp [ordL]
      · have e : x = c := by omega
        subst e
        rw [if_neg (by omega), if_neg (by omega)] at h
        exact absurd ⟨rfl, ff_pre f o hf (fun z hz => ho z (List.mem_cons_of_mem _ hz)) h⟩ hp
  | y :: p, [], _, _, h => absurd (by rw [List.cons_append, ordL]; decide) h
  | y :: p, x :: o, ho, hp, h => by
    simp only [List.cons_append, ordL, List.cons_prefix_cons] at h hp ⊢
    by_cases h1 : x < y
    · rw [if_pos h1] at h; exact absurd (by decide) h
    · by_cases h2 : y < x
      · rw [if_neg h1, if_pos h2]; decide
      · have e : x = y := by omega
        subst e
        rw [if_neg (by omega), if_neg (by omega)] at h ⊢
        exact none_between c f hf p o (fun z hz => ho z (List.mem_cons_of_mem _ hz)) (fun hq => hp ⟨rfl, hq⟩) h
/-- The answer's shape. -/
theorem behR_shape (l : List Int) (hb : ∀ x ∈ l, 0 ≤ x ∧ x < 256) : ∀ (i : Nat), i ≤ l.length → (∀ x ∈ l.drop i, x = 255) → (behR l i).2 = true →
    ∃ p c f, l = p ++ c :: f ∧ (∀ x ∈ f, x = 255) ∧ (behR l i).1 = p ++ [c + 1]
  | 0, _, _, h => by simp [behR] at h
  | i + 1, hi, hd, h => by
    have hlt : i < l.length := by omega
    by_cases h2 : rd l (i : Int) = 255
    · rw [behR, if_pos h2] at h ⊢
      refine behR_shape l hb i (by omega) (fun x hx => ?_) h
      rw [List.drop_eq_getElem_cons hlt] at hx
      rcases List.mem_cons.1 hx with rfl | hx
      · rw [rdi_at l i hlt] at h2; exact h2
      · exact hd x hx
    · rw [behR, if_neg h2] at h ⊢
      rw [rdi_at l i hlt] at h2 ⊢
      have hr := hb l[i] (List.getElem_mem hlt)
      refine ⟨l.take i, l[i], l.drop (i + 1), ?_, hd, ?_⟩
      · rw [← List.drop_eq_getElem_cons hlt, List.take_append_drop]
      · show (l.take (i + 1)).set i ((l[i] + 1) % 256) = _
        rw [List.take_succ_eq_append_getElem hlt, List.set_append_right _ _ (by rw [List.length_take]; omega), List.length_take, Nat.min_eq_left (by omega), Nat.sub_self]
        simp only [List.set_cons_zero]
        rw [show (l[i] + 1) % 256 = l[i] + 1 by omega]
theorem BehindPure (b more other : List Int) (hl : b.length + more.length + other.length ≤ 10000000) (hb : ∀ x ∈ b, 0 ≤ x ∧ x < 256) (ho : ∀ x ∈ other, 0 ≤ x ∧ x < 256) : ∃ k, hasplaw05_KeysBehind.f k b more other = some true := by
  refine ⟨2 * b.length + 2 * more.length + 2 * other.length + 100, ?_⟩
  unfold hasplaw05_KeysBehind.f
  have e1 : keys_Behind.f (2 * b.length + 2 * more.length + 2 * other.length + 100) b = some (behR b b.length) := by
    have := behind_at b (by omega) b.length (b.length + 2 * more.length + 2 * other.length + 99) (by omega)
    rw [show b.length + (b.length + 2 * more.length + 2 * other.length + 99) + 1 = 2 * b.length + 2 * more.length + 2 * other.length + 100 by omega] at this
    exact this
  have e2 : haspref05_Behind.f (2 * b.length + 2 * more.length + 2 * other.length + 100) b = some (behR b b.length) := by
    have := refbehind_at b (by omega) b.length (2 * more.length + 2 * other.length + 96) (by omega)
    rw [show b.length + (2 * more.length + 2 * other.length + 96) + b.length + 4 = 2 * b.length + 2 * more.length + 2 * other.length + 100 by omega] at this
    exact this
  rw [speaks_eq _ (by omega), Option.bind_some, if_pos rfl, Option.bind_some, if_pos (by rw [List.length_nil]; omega), List.nil_append, e1, Option.bind_some, e2, Option.bind_some, bne_self_eq_false, if_neg (by decide), bne_self_eq_false,
    hasplaw05_KeysBehind.j0, if_neg (by decide)]
  cases ht : (behR b b.length).2
  · rw [if_neg (by decide)]
  · obtain ⟨p, c, f, hbe, hf, hh⟩ := behR_shape b hb b.length (Nat.le_refl _) (by rw [List.drop_length]; intro x hx; cases hx) ht
    have hlen : (behR b b.length).1.length ≤ 10000000 := by
      rw [hh]
      have := congrArg List.length hbe
      simp only [List.length_append, List.length_cons, List.length_nil] at this ⊢
      omega
    have o1 : ordL (b ++ more) (behR b b.length).1 = -1 := by
      rw [hh]
      conv => lhs; rw [hbe]
      rw [List.append_assoc, ordL_pre, List.cons_append, ordL, if_pos (by omega)]
    rw [if_pos rfl, Option.bind_some, if_pos (by rw [List.length_nil]; omega), Option.bind_some, List.nil_append, if_pos (by omega),
      order_eq _ _ _ (by rw [List.length_append]; omega) (by rw [List.length_append]; omega) (by omega), Option.bind_some, o1, if_neg (by decide), begins_eq _ _ _ (by omega) (by omega), Option.bind_some]
    by_cases hp : b <+: other
    · rw [if_pos (decide_eq_true hp)]
    · rw [if_neg (by simpa using hp), order_eq _ _ _ (by omega) (by omega) (by omega), Option.bind_some]
      by_cases h3 : ordL other b < 0
      · rw [if_pos h3]
      · rw [if_neg h3, order_eq _ _ _ (by omega) (by omega) (by omega), Option.bind_some]
        have := none_between c f hf p other (fun x hx => (ho x hx).2) (by rw [← hbe]; exact hp) (by rw [← hbe]; exact h3)
        rw [hh]
        exact congrArg some (decide_eq_true (by omega))
end Go.Proofs.YthoemenchimggaaDoor
