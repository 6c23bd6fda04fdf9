import Derived.Test.YtfnmploaklboiaaZsP9
import Derived.Test.YtfnmploaklboiaaZsD1
/- Layer 22: the plain law of CoverStronger: a covered plan stays so with modes X, and with one lock more ahead. -/
namespace Go.Proofs.Ytfnmploaklboiaa
open Go.RowKit Go.Proofs.YtfnmploaklboiaaW.PrintWords V A
set_option linter.unusedSimpArgs false
set_option linter.unusedVariables false
/-- A change of instructions that leaves what they are. -/
structure Mild (f : S33 → S33) : Prop where
  h0 : ∀ x, (f x).f0 = x.f0
  h1 : ∀ x, (f x).f1 = x.f1
  h2 : ∀ x, x.f0 = 2 → f x = x
  h3 : ∀ x, x.f0 = 3 → cov x.f3 3 = true → cov x.f4 3 = true → (cov (f x).f3 3 && cov (f x).f4 3) = true
  h4 : ∀ x, wrB x = true → wrB (f x) = true
/-- The other plan: what it opens and locks, against this one. -/
structure More (f : S33 → S33) (l l' : List S33) : Prop where
  find : ∀ c, l'.find? (openP c) = (l.find? (openP c)).map f
  mode : ∀ s a, cov (modeF l s) a = true → cov (modeF l' s) a = true
  wr : l.all wrB = true → l'.all wrB = true
theorem openP_mild {f : S33 → S33} (hf : Mild f) (c : Int) (x : S33) : openP c (f x) = openP c x := by unfold openP; rw [hf.h0, hf.h1]
theorem find_map {f : S33 → S33} (hf : Mild f) (c : Int) : ∀ l : List S33, (l.map f).find? (openP c) = (l.find? (openP c)).map f
  | [] => rfl
  | x :: r => by
    rw [List.map_cons]
    by_cases h : openP c x = true
    · rw [List.find?_cons_of_pos h, List.find?_cons_of_pos (by rw [openP_mild hf]; exact h)]; rfl
    · rw [List.find?_cons_of_neg h, List.find?_cons_of_neg (by rw [openP_mild hf]; exact h)]; exact find_map hf c r
theorem openP_two {c : Int} {l : List S33} {z : S33} (h : l.find? (openP c) = some z) : z.f0 = 2 := by
  have := List.find?_some h
  unfold openP at this
  simp at this
  exact this.1
theorem readR_mild {f : S33 → S33} (hf : Mild f) {l l' : List S33} (hm : More f l l') (x : S33) (h : readR l x = true) : readR l' (f x) = true := by
  unfold readR at h ⊢
  rw [hf.h0, hf.h1, hm.find]
  by_cases h2 : x.f0 = 2
  · rw [if_pos h2] at h ⊢
    cases hz : l.find? (openP x.f1) with
    | none => rw [hz] at h; cases h
    | some z =>
      rw [hz] at h
      rw [Option.map_some, hf.h2 z (openP_two hz), hf.h2 x h2]
      have h' : ((z.f5.toList == x.f5.toList && z.f6 == x.f6) && (cov (modeF l x.f5) 3 || (decide (x.f6 ≥ 0) && cov (modeF l x.f5) 1))) = true := h
      show ((z.f5.toList == x.f5.toList && z.f6 == x.f6) && (cov (modeF l' x.f5) 3 || (decide (x.f6 ≥ 0) && cov (modeF l' x.f5) 1))) = true
      rw [Bool.and_eq_true] at h' ⊢
      refine ⟨h'.1, ?_⟩
      have h'' := h'.2
      rw [Bool.or_eq_true, Bool.and_eq_true] at h'' ⊢
      exact h''.imp (hm.mode _ _) (fun q => ⟨q.1, hm.mode _ _ q.2⟩)
  · rw [if_neg h2] at h ⊢
    by_cases h3 : x.f0 = 3
    · rw [if_pos h3] at h ⊢
      cases hz : l.find? (openP x.f1) with
      | none => rw [hz] at h; cases h
      | some z =>
        rw [hz] at h
        rw [Option.map_some, hf.h2 z (openP_two hz)]
        have h' : (decide (z.f6 < 0) || (cov x.f3 3 && cov x.f4 3)) = true := h
        show (decide (z.f6 < 0) || (cov (f x).f3 3 && cov (f x).f4 3)) = true
        rw [Bool.or_eq_true] at h' ⊢
        exact h'.imp id (fun q => by rw [Bool.and_eq_true] at q; exact hf.h3 x h3 q.1 q.2)
    · rw [if_neg h3]
theorem tail_mild {f : S33 → S33} (hf : Mild f) {l l' : List S33} (hm : More f l l') (t : ByteArray) (e : Int) (h : tailB t l e = true) : tailB t l' e = true := by
  unfold tailB at h ⊢
  rw [hm.find]
  rw [Bool.or_eq_true] at h ⊢
  refine h.imp id fun q => ?_
  cases hz : l.find? (openP 0) with
  | none => rw [hz] at q; cases q
  | some z =>
    rw [hz] at q
    rw [Option.map_some, hf.h2 z (openP_two hz)]
    have q' : (l.all wrB && (z.f5.toList == t.toList)) = true := q
    show (l'.all wrB && (z.f5.toList == t.toList)) = true
    rw [Bool.and_eq_true] at q' ⊢
    exact ⟨hm.wr q'.1, q'.2⟩
theorem quiet_mild {f : S33 → S33} (hf : Mild f) (r : List S33) : (r.map f).all quietB = r.all quietB := by
  rw [List.all_map]
  congr 1
  funext x
  show quietB (f x) = quietB x
  unfold quietB
  rw [hf.h0]
theorem ph2_mild {f : S33 → S33} (hf : Mild f) {l l' : List S33} (hm : More f l l') (t : ByteArray) (e : Int) (r : List S33) (h : ph2 t l e r = true) : ph2 t l' e (r.map f) = true := by
  cases r with
  | nil => cases h
  | cons x r =>
    rw [List.map_cons]
    have h : (x.f0 == 10 && (r.all quietB && (cov (modeF l t) 2 && tailB t l e))) = true := h
    show ((f x).f0 == 10 && ((r.map f).all quietB && (cov (modeF l' t) 2 && tailB t l' e))) = true
    rw [hf.h0, quiet_mild hf]
    rw [Bool.and_eq_true, Bool.and_eq_true, Bool.and_eq_true] at h ⊢
    exact ⟨h.1, h.2.1, hm.mode _ _ h.2.2.1, tail_mild hf hm t e h.2.2.2⟩
theorem ph1_mild {f : S33 → S33} (hf : Mild f) {l l' : List S33} (hm : More f l l') (t : ByteArray) : ∀ (r : List S33) (e : Int), ph1 t l r e = true → ph1 t l' (r.map f) e = true
  | [], e, h => by cases h
  | x :: r, e, h => by
    rw [List.map_cons]
    rw [ph1] at h ⊢
    rw [hf.h0]
    by_cases h9 : x.f0 = 9
    · rw [if_pos h9] at h ⊢; exact ph2_mild hf hm t e r h
    rw [if_neg h9] at h ⊢
    by_cases h10 : x.f0 = 10
    · rw [if_pos h10] at h; cases h
    rw [if_neg h10] at h ⊢
    by_cases h6 : x.f0 = 6
    · rw [if_pos h6] at h ⊢; exact ph1_mild hf hm t r (e + 1) h
    · rw [if_neg h6] at h ⊢; exact ph1_mild hf hm t r e h
theorem cnt_mild {f : S33 → S33} (hf : Mild f) (ops : List Int) : ∀ r : List S33, cntO ops (r.map f) = cntO ops r
  | [] => rfl
  | x :: r => by
    have ih := cnt_mild hf ops r
    unfold cntO at ih ⊢
    rw [List.map_cons, List.countP_cons, List.countP_cons, ih, hf.h0]
theorem lk_mild {f : S33 → S33} (hf : Mild f) : ∀ (b : Bool) (r : List S33), lkB b (r.map f) = lkB b r
  | b, [] => rfl
  | b, x :: r => by rw [List.map_cons, lkB, lkB, hf.h0, lk_mild hf]
/-- What a plan is asked behind its shape. -/
def restB (t : ByteArray) (l : List S33) : Bool := lkB true l && (readsB (modeF l) l && chB (modeF l) t l)
theorem rest_iff (t : ByteArray) (l : List S33) : restB t l = true ↔ (lkB true l = true ∧ (∀ x ∈ l, readR l x = true) ∧ goC t l l 0 0 (-1) 0 0 = true) := by
  unfold restB
  rw [Bool.and_eq_true, Bool.and_eq_true, reads_eq, List.all_eq_true]
  constructor
  · rintro ⟨a, b, c⟩
    exact ⟨a, b, by rw [ch_eq t l (by rw [reads_eq]; exact List.all_eq_true.2 b)]; exact c⟩
  · rintro ⟨a, b, c⟩
    exact ⟨a, b, by rw [← ch_eq t l (by rw [reads_eq]; exact List.all_eq_true.2 b)]; exact c⟩
theorem rest_map {f : S33 → S33} (hf : Mild f) (t : ByteArray) (l : List S33) (hm : More f l (l.map f)) (h : restB t l = true) : restB t (l.map f) = true := by
  rw [rest_iff] at h ⊢
  obtain ⟨a, b, c⟩ := h
  refine ⟨by rw [lk_mild hf]; exact a, fun x hx => ?_, ?_⟩
  · obtain ⟨u, hu, rfl⟩ := List.mem_map.1 hx
    exact readR_mild hf hm u (b u hu)
  · by_cases ht : t.toList = []
    · rw [goC_empty t _ ht] at c ⊢
      rw [cnt_mild hf]; exact c
    · rw [goC_ph1 t _ ht] at c ⊢
      exact ph1_mild hf hm t l 0 c
theorem rest_cons {f : S33 → S33} (hf : Mild f) (t : ByteArray) (l : List S33) (k : S33) (hk : k.f0 = 1) (hm : More f l (k :: l.map f)) (h : restB t l = true) : restB t (k :: l.map f) = true := by
  rw [rest_iff] at h ⊢
  obtain ⟨a, b, c⟩ := h
  refine ⟨?_, fun x hx => ?_, ?_⟩
  · rw [lkB, hk, lk_mild hf]; simpa using a
  · rcases List.mem_cons.1 hx with rfl | hx
    · unfold readR; rw [if_neg (by omega), if_neg (by omega)]
    · obtain ⟨u, hu, rfl⟩ := List.mem_map.1 hx
      exact readR_mild hf hm u (b u hu)
  · by_cases ht : t.toList = []
    · rw [goC_empty t _ ht] at c ⊢
      have : cntO [6, 7, 9, 10] (k :: l.map f) = cntO [6, 7, 9, 10] l := by
        rw [← cnt_mild hf _ l]
        unfold cntO
        rw [List.countP_cons, hk]; rfl
      rw [this]; exact c
    · rw [goC_ph1 t _ ht] at c ⊢
      rw [ph1, if_neg (by omega), if_neg (by omega), if_neg (by omega)]
      exact ph1_mild hf hm t l 0 c
/-! The two changes. -/
theorem known_mem (m : Int) (h : isKnown m = true) : m = 0 ∨ m = 1 ∨ m = 2 ∨ m = 3 ∨ m = 4 ∨ m = 5 ∨ m = 6 := by
  unfold isKnown at h
  simp only [Bool.and_eq_true, decide_eq_true_eq] at h
  omega
theorem join_known (a b : Int) (ha : isKnown a = true) (hb : isKnown b = true) : isKnown (joinT a b) = true := by
  rcases known_mem a ha with rfl | rfl | rfl | rfl | rfl | rfl | rfl <;> rcases known_mem b hb with rfl | rfl | rfl | rfl | rfl | rfl | rfl <;> decide +kernel
theorem cov_known {a b : Int} (h : cov a b = true) : isKnown a = true ∧ isKnown b = true := by
  unfold cov at h
  rw [Bool.and_eq_true, Bool.and_eq_true] at h
  exact h.1
theorem cov_six (b : Int) (hb : isKnown b = true) : cov 6 b = true := by
  rcases known_mem b hb with rfl | rfl | rfl | rfl | rfl | rfl | rfl <;> decide +kernel
theorem cov_zero (b : Int) (hb : isKnown b = true) : cov b 0 = true := by
  rcases known_mem b hb with rfl | rfl | rfl | rfl | rfl | rfl | rfl <;> decide +kernel
def allT (f : Int → Int → Int → Bool) : Bool := [0, 1, 2, 3, 4, 5, 6].all fun a => [0, 1, 2, 3, 4, 5, 6].all fun b => [0, 1, 2, 3, 4, 5, 6].all fun c => f a b c
theorem allT_at {f : Int → Int → Int → Bool} (h : allT f = true) (a b c : Int) (ha : isKnown a = true) (hb : isKnown b = true) (hc : isKnown c = true) : f a b c = true := by
  have m : ∀ x : Int, isKnown x = true → x ∈ ([0, 1, 2, 3, 4, 5, 6] : List Int) := fun x hx => by rcases known_mem x hx with rfl | rfl | rfl | rfl | rfl | rfl | rfl <;> simp
  exact List.all_eq_true.1 (List.all_eq_true.1 (List.all_eq_true.1 h a (m a ha)) b (m b hb)) c (m c hc)
theorem cov_trans_all : allT (fun a b c => !(cov a b && cov b c) || cov a c) = true := by decide +kernel
theorem cov_join_all : allT (fun a b c => !(cov a b) || cov (joinT a c) (joinT b c)) = true := by decide +kernel
theorem cov_trans {a b c : Int} (h1 : cov a b = true) (h2 : cov b c = true) : cov a c = true := by
  have := allT_at cov_trans_all a b c (cov_known h1).1 (cov_known h1).2 (cov_known h2).2
  simpa [h1, h2] using this
theorem cov_join {a b c : Int} (h1 : cov a b = true) (hc : isKnown c = true) : cov (joinT a c) (joinT b c) = true := by
  have := allT_at cov_join_all a b c (cov_known h1).1 (cov_known h1).2 hc
  simpa [h1] using this
/-- Both folds, over locks whose modes are known. -/
theorem modes_fold (s : ByteArray) (f : S33 → S33) (h0 : ∀ x, (f x).f0 = x.f0) (h5 : ∀ x, (f x).f5 = x.f5) (h3 : ∀ x, (f x).f3 = x.f3) : ∀ (l : List S33) (m m' : Int), (∀ x ∈ l, isKnown x.f3 = true) → cov m' m = true →
    cov ((l.map f).foldl (fun m x => if x.f0 = 1 ∧ x.f5 = s then joinT m x.f3 else m) m') (l.foldl (fun m x => if x.f0 = 1 ∧ x.f5 = s then joinT m x.f3 else m) m) = true
  | [], m, m', hl, h => h
  | x :: r, m, m', hl, h => by
    rw [List.map_cons, List.foldl_cons, List.foldl_cons, h0, h5, h3]
    refine modes_fold s f h0 h5 h3 r _ _ (fun y hy => hl y (List.mem_cons_of_mem _ hy)) ?_
    by_cases hx : x.f0 = 1 ∧ x.f5 = s
    · rw [if_pos hx, if_pos hx]; exact cov_join h (hl x List.mem_cons_self)
    · rw [if_neg hx, if_neg hx]; exact h
theorem modes_six (s : ByteArray) : ∀ (l : List S33) (m m' : Int), (∀ x ∈ l, isKnown x.f3 = true) → (m' = 6 ∧ isKnown m = true ∨ m = 0 ∧ m' = 0) →
    ((l.map toX).foldl (fun m x => if x.f0 = 1 ∧ x.f5 = s then joinT m x.f3 else m) m' = 6 ∧ isKnown (l.foldl (fun m x => if x.f0 = 1 ∧ x.f5 = s then joinT m x.f3 else m) m) = true) ∨
    (l.foldl (fun m x => if x.f0 = 1 ∧ x.f5 = s then joinT m x.f3 else m) m = 0 ∧ (l.map toX).foldl (fun m x => if x.f0 = 1 ∧ x.f5 = s then joinT m x.f3 else m) m' = 0)
  | [], m, m', hl, h => h
  | x :: r, m, m', hl, h => by
    rw [List.map_cons, List.foldl_cons, List.foldl_cons]
    refine modes_six s r _ _ (fun y hy => hl y (List.mem_cons_of_mem _ hy)) ?_
    by_cases hx : x.f0 = 1 ∧ x.f5 = s
    · have e : toX x = { x with f3 := 6, f4 := 6 } := if_pos (.inl hx.1)
      rw [e, if_pos hx, if_pos (show x.f0 = 1 ∧ x.f5 = s from hx)]
      refine .inl ⟨?_, ?_⟩
      · show joinT m' 6 = 6
        rcases h with ⟨rfl, _⟩ | ⟨_, rfl⟩ <;> decide +kernel
      · rcases h with ⟨_, hk⟩ | ⟨rfl, _⟩
        · exact join_known _ _ hk (hl x List.mem_cons_self)
        · exact join_known _ _ (by decide) (hl x List.mem_cons_self)
    · have e0 : (toX x).f0 = x.f0 := by unfold toX; split <;> rfl
      have e5 : (toX x).f5 = x.f5 := by unfold toX; split <;> rfl
      rw [if_neg hx, if_neg (by rw [e0, e5]; exact hx)]; exact h
theorem toX_mild : Mild toX where
  h0 x := by unfold toX; split <;> rfl
  h1 x := by unfold toX; split <;> rfl
  h2 x h := by unfold toX; rw [if_neg (by omega)]
  h3 x h _ _ := by unfold toX; rw [if_pos (.inr h)]; exact (by decide +kernel : (cov 6 3 && cov 6 3) = true)
  h4 x h := by
    unfold toX
    split
    · rename_i hx
      rcases hx with hx | hx
      · unfold wrB; show (!(x.f0 == 3 && _)) = true; rw [hx]; rfl
      · unfold wrB; show (!(x.f0 == 3 && !(x.f1 != 0 || cov 6 5))) = true
        rw [show cov 6 5 = true by decide +kernel]; simp
    · exact h
theorem bump_mild : Mild bump where
  h0 x := by unfold bump; split <;> rfl
  h1 x := by unfold bump; split <;> rfl
  h2 x h := by unfold bump; rw [if_neg (by omega)]
  h3 x h a b := by unfold bump; rw [if_pos (.inl h)]; show (cov x.f3 3 && cov x.f4 3) = true; rw [a, b]; rfl
  h4 x h := by unfold bump; split <;> exact h
theorem wr_map {f : S33 → S33} (hf : Mild f) (l : List S33) (h : l.all wrB = true) : (l.map f).all wrB = true := by
  rw [List.all_eq_true] at h ⊢
  intro x hx
  obtain ⟨u, hu, rfl⟩ := List.mem_map.1 hx
  exact hf.h4 u (h u hu)
theorem toX_more (l : List S33) (hl : ∀ x ∈ l, isKnown x.f3 = true) : More toX l (l.map toX) where
  find c := find_map toX_mild c l
  wr := wr_map toX_mild l
  mode s a h := by
    unfold modeF at h ⊢
    rcases modes_six s l 0 0 hl (.inr ⟨rfl, rfl⟩) with ⟨e, _⟩ | ⟨e1, e2⟩
    · rw [e]; exact cov_six a (cov_known h).2
    · rw [e1] at h; rw [e2]; exact h
theorem bump_more (l : List S33) (hl : ∀ x ∈ l, isKnown x.f3 = true) (tab : ByteArray) (m : Int) (hm : isKnown m = true) : More bump l (lockI tab m :: l.map bump) where
  find c := by
    rw [List.find?_cons_of_neg (by unfold openP lockI; simp)]
    exact find_map bump_mild c l
  wr h := by
    rw [List.all_cons, wr_map bump_mild l h]
    rfl
  mode s a h := by
    unfold modeF at h ⊢
    rw [List.foldl_cons]
    refine cov_trans (modes_fold s bump bump_mild.h0 (fun x => by unfold bump; split <;> rfl) (fun x => by unfold bump; split <;> rfl) l 0 _ hl ?_) h
    by_cases hx : (lockI tab m).f0 = 1 ∧ (lockI tab m).f5 = s
    · rw [if_pos hx]; exact cov_zero _ (join_known 0 m (by decide) hm)
    · rw [if_neg hx]; decide +kernel
theorem right_known {n : Int} {x : S33} (h : rightB n x = true) : isKnown x.f3 = true := by
  have : modB x = true := by
    unfold rightB at h
    split at h
    · simp at h; exact h.1
    split at h
    · simp at h; exact h.1.1
    split at h
    · simp at h; exact h.1.1
    split at h
    · simp at h; exact h.1.1.1
    split at h
    · simp at h; exact h.1
    · simp at h; exact h.1.1
  unfold modB at this
  rw [Bool.and_eq_true] at this
  exact this.1
theorem right_toX {n : Int} {x : S33} (h : rightB n x = true) : rightB n (toX x) = true := by
  unfold toX
  split
  · rename_i hx
    unfold rightB at h ⊢
    rcases hx with hx | hx
    · rw [if_pos hx] at h
      rw [if_pos (show _ = _ from hx)]
      show ((isKnown 6 && isKnown 6) && ((6 : Int) != 0)) = true
      decide
    · rw [if_neg (by omega), if_neg (by omega), if_pos hx] at h
      rw [if_neg (show ¬ x.f0 = 1 by omega), if_neg (show ¬ x.f0 = 2 by omega), if_pos (show _ = _ from hx)]
      rw [Bool.and_eq_true, Bool.and_eq_true] at h ⊢
      exact ⟨⟨(by decide : (isKnown 6 && isKnown 6) = true), h.1.2⟩, h.2⟩
  · exact h
theorem right_bump {n : Nat} (hn : n ≤ 4096) {x : S33} (h : rightB n x = true) : rightB (n + 1 : Nat) (bump x) = true := by
  have hpl : plaB n x = true → plaB (n + 1 : Nat) { x with f2 := wrap64 (x.f2 + 1) } = true := by
    intro hp
    unfold plaB at hp ⊢
    simp only [Bool.and_eq_true, decide_eq_true_eq] at hp ⊢
    have e : wrap64 (x.f2 + 1) = x.f2 + 1 := by simp only [wrap64]; omega
    show wrap64 (x.f2 + 1) ≥ 0 ∧ wrap64 (x.f2 + 1) < _
    rw [e]; omega
  unfold bump
  by_cases hx : x.f0 = 3 ∨ x.f0 = 4 ∨ x.f0 = 8
  · rw [if_pos hx]
    unfold rightB at h ⊢
    rcases hx with hx | hx | hx
    · rw [if_neg (by omega), if_neg (by omega), if_pos hx, Bool.and_eq_true] at h
      rw [if_neg (show ¬ x.f0 = 1 by omega), if_neg (show ¬ x.f0 = 2 by omega), if_pos (show _ = _ from hx), Bool.and_eq_true]
      exact ⟨h.1, hpl h.2⟩
    · rw [if_neg (by omega), if_neg (by omega), if_neg (by omega), if_pos hx, Bool.and_eq_true, Bool.and_eq_true] at h
      rw [if_neg (show ¬ x.f0 = 1 by omega), if_neg (show ¬ x.f0 = 2 by omega), if_neg (show ¬ x.f0 = 3 by omega), if_pos (show _ = _ from hx), Bool.and_eq_true, Bool.and_eq_true]
      exact ⟨⟨h.1.1, hpl h.1.2⟩, h.2⟩
    · rw [if_neg (by omega), if_neg (by omega), if_neg (by omega), if_neg (by omega), if_pos hx, Bool.and_eq_true] at h
      rw [if_neg (show ¬ x.f0 = 1 by omega), if_neg (show ¬ x.f0 = 2 by omega), if_neg (show ¬ x.f0 = 3 by omega), if_neg (show ¬ x.f0 = 4 by omega), if_pos (show _ = _ from hx), Bool.and_eq_true]
      exact ⟨h.1, hpl h.2⟩
  · rw [if_neg hx]
    unfold rightB at h ⊢
    rw [if_neg (c := x.f0 = 3) (by omega), if_neg (c := x.f0 = 4) (by omega), if_neg (c := x.f0 = 8) (by omega)] at h ⊢
    exact h
theorem shape_split (l : List S33) : shapeB l = true ↔ (1 ≤ l.length ∧ l.length ≤ 4096 ∧ (rd_T33 l ((l.length : Int) - 1)).f0 = 12 ∧ ∀ x ∈ l, rightB l.length x = true) := by
  unfold shapeB
  rw [Bool.and_eq_true, List.all_eq_true]
  constructor
  · rintro ⟨a, b⟩
    simp at a
    exact ⟨by omega, by omega, a.2, b⟩
  · rintro ⟨a, b, c, d⟩
    refine ⟨?_, d⟩
    simp [c]
    omega
theorem rd_map (f : S33 → S33) (l : List S33) (i : Int) (h0 : 0 ≤ i) (h1 : i < l.length) : rd_T33 (l.map f) i = f (rd_T33 l i) := by
  have hh : i.toNat < l.length := by omega
  simp [rd_T33, List.getD, hh]
theorem ck_split (t : ByteArray) (l : List S33) : ckB t l = true ↔ (shapeB l = true ∧ restB t l = true) := by
  unfold ckB restB
  rw [Bool.and_eq_true]
theorem ck_toX (t : ByteArray) (l : List S33) (h : ckB t l = true) : ckB t (l.map toX) = true := by
  rw [ck_split] at h ⊢
  obtain ⟨a, b⟩ := h
  rw [shape_split] at a
  obtain ⟨a1, a2, a3, a4⟩ := a
  refine ⟨(shape_split _).2 ⟨by rw [List.length_map]; exact a1, by rw [List.length_map]; exact a2, ?_, fun x hx => ?_⟩, rest_map toX_mild t l (toX_more l fun x hx => right_known (a4 x hx)) b⟩
  · rw [List.length_map, rd_map toX l _ (by omega) (by omega), toX_mild.h0]; exact a3
  · obtain ⟨u, hu, rfl⟩ := List.mem_map.1 hx
    rw [List.length_map]; exact right_toX (a4 u hu)
theorem ck_lock (t : ByteArray) (l : List S33) (tab : ByteArray) (m : Int) (hm : 1 ≤ m ∧ m ≤ 4) (hn : l.length + 1 ≤ 4096) (h : ckB t l = true) : ckB t (lockI tab m :: l.map bump) = true := by
  rw [ck_split] at h ⊢
  obtain ⟨a, b⟩ := h
  rw [shape_split] at a
  obtain ⟨a1, a2, a3, a4⟩ := a
  have hk : isKnown m = true := by unfold isKnown; simp; omega
  have hlen : (lockI tab m :: l.map bump).length = l.length + 1 := by rw [List.length_cons, List.length_map]
  refine ⟨(shape_split _).2 ⟨by omega, by omega, ?_, fun x hx => ?_⟩, rest_cons bump_mild t l (lockI tab m) rfl (bump_more l (fun x hx => right_known (a4 x hx)) tab m hk) b⟩
  · rw [hlen, show (((l.length + 1 : Nat) : Int) - 1) = (l.length : Int) by omega]
    have e : rd_T33 (lockI tab m :: l.map bump) (l.length : Int) = rd_T33 (l.map bump) ((l.length : Int) - 1) := by
      unfold rd_T33
      rw [show ((l.length : Int)).toNat = ((l.length : Int) - 1).toNat + 1 by omega, List.getD_cons_succ]
    rw [e, rd_map bump l _ (by omega) (by omega), bump_mild.h0]; exact a3
  · rw [hlen]
    rcases List.mem_cons.1 hx with rfl | hx
    · unfold rightB
      rw [if_pos (show (lockI tab m).f0 = 1 from rfl)]
      unfold modB
      show ((isKnown m && isKnown 0) && (m != 0)) = true
      rw [hk, show isKnown 0 = true by decide]
      simp; omega
    · obtain ⟨u, hu, rfl⟩ := List.mem_map.1 hx
      exact right_bump (by omega) (a4 u hu)
end Go.Proofs.Ytfnmploaklboiaa
