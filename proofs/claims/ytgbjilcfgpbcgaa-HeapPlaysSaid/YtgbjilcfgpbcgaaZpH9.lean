import Derived.Test.YtgbjilcfgpbcgaaZpH8
/- Layer 8: Back, Behind, walked. -/
namespace Go.Proofs.Ytgbjilcfgpbcgaa
open Go.RowKit Go.Proofs.YtgbjilcfgpbcgaaW.PrintWords Go.Proofs.YtgbjilcfgpbcgaaW.PrintLast Go.Proofs.YtgbjilcfgpbcgaaW.PrintMore
set_option linter.unusedSimpArgs false
set_option linter.unusedVariables false
theorem ret_bool {a b : Bool} (h : a = b) : Ending.returned (.bool a) = .returned (.bool b) := by rw [h]
/-- May the row come back under this number? -/
def backB (S : St) (id : Int) : Bool := decide (1 ≤ id) && (decide (id ≤ S.last) && (findP S id).isNone)
def BackPost (base : Nat) (O : Nat → Prop) (w : World) (hb : Nat) (S : St) (id : Int) (row : List Int) (b : Bool) (e : Ending) (w' : World) : Prop :=
  if b = true then e = .returned (.bool true) ∧ HeapAt base (grow O w w') w' hb (layP S id row) ∧ Fr base O w w' else e = .returned (.bool false) ∧ w' = w
theorem back_none {base : Nat} {O : Nat → Prop} {w : World} {hb : Nat} {S : St} {id : Int} {row : List Int} (e : Ending) (w' : World) (h : e = .returned (.bool false) ∧ w' = w) : BackPost base O w hb S id row false e w' := by
  unfold BackPost; rw [if_neg (by decide)]; exact h
theorem back_some {base : Nat} {O : Nat → Prop} {w : World} {hb : Nat} {S : St} {id : Int} {row : List Int} (e : Ending) (w' : World) (h : e = .returned (.bool true) ∧ HeapAt base (grow O w w') w' hb (layP S id row) ∧ Fr base O w w') : BackPost base O w hb S id row true e w' := by
  unfold BackPost; rw [if_pos rfl]; exact h
set_option maxHeartbeats 2000000 in
theorem back_calls {base : Nat} {O : Nat → Prop} {w : World} {hb : Nat} {S : St} {N : Int} (h : HeapAt base O w hb S) (hI : Inv N S) (hN : N ≤ 4000000000000) (hO : ∀ k, O k → base ≤ k ∧ k < w.heap.size) (hbw : base ≤ w.heap.size) (id : Int) (hid : I64 id)
    (A : Option Addr) (n c : Nat) (xs : List Int) (hC : kb.C w A n xs) (hl : xs.length = n) (hn : n ≤ 140737488355328) : Calls Try.prog 16 #[.pointer (some ⟨hb, 0, none⟩), .int .i64 id, .slice A n c] w (BackPost base O w hb S id xs (backB S id)) := by
  obtain ⟨mb, vi, vf, cb, rv, h⟩ := h
  have c0 : w.cell? ⟨hb, 0, none⟩ = some (.map (some mb)) := (blk_cell h.blk 0).trans rfl
  have c4 : w.cell? ⟨hb, 4, none⟩ = some (.int .i64 S.last) := (blk_cell h.blk 4).trans rfl
  by_cases h1 : id < 1
  · have e : backB S id = false := by unfold backB; rw [decide_eq_false (by omega)]; rfl
    have d1 : decide (id < 1) = true := decide_eq_true h1
    rw [e]
    refine Calls.mono ?_ (fun e w' => back_none e w')
    clear h hI hN hO hbw hid hC hl hn e h1
    go_enter Try.func16, Try.ntmps16
    go_wp2
    go_ret
    exact ⟨rfl, rfl⟩
  · have d1 : decide (id < 1) = false := decide_eq_false h1
    by_cases h2 : id > S.last
    · have e : backB S id = false := by unfold backB; rw [decide_eq_false (p := id ≤ S.last) (by omega)]; simp
      have d2 : decide (id > S.last) = true := decide_eq_true h2
      rw [e]
      refine Calls.mono ?_ (fun e w' => back_none e w')
      clear h hI hN hO hbw hid hC hl hn e h1 h2
      go_enter Try.func16, Try.ntmps16
      go_wp2
      go_ret
      exact ⟨rfl, rfl⟩
    · have d2 : decide (id > S.last) = false := decide_eq_false h2
      cases hf : findP S id with
      | some x =>
        have e : backB S id = false := by unfold backB; rw [hf]; simp
        rw [e]
        have hlk := h.look_some id hid hf w rfl
        refine Calls.mono ?_ (fun e w' => back_none e w')
        clear h hI hN hO hbw hid hC hl hn e h1 h2 hf
        go_enter Try.func16, Try.ntmps16
        go_wp2
        go_ret
        exact ⟨rfl, rfl⟩
      | none =>
        have e : backB S id = true := by unfold backB; rw [hf, decide_eq_true (p := 1 ≤ id) (by omega), decide_eq_true (p := id ≤ S.last) (by omega)]; rfl
        rw [e]
        have hlk := h.look_none id hid hf w rfl
        have HLAY := Aside0.mk (lay_calls h hI hN hO hbw id ⟨by omega, by omega⟩ (find_none hf) A n c xs hC hl hn)
        refine Calls.mono ?_ (fun e w' => back_some e w')
        clear h hI hN hO hbw hid hC hl hn e h1 h2 hf
        go_enter Try.func16, Try.ntmps16
        go_wp2_with (first | (go_at_call 27; (with_reducible refine HLAY.out.mono ?_); rintro e w2 ⟨rfl, hH, hF⟩; have HH := Aside0.mk hH; have HF := Aside0.mk hF; clear hH hF))
        go_ret
        exact ⟨rfl, HH.out, HF.out⟩
def behP (S : St) (id : Int) : Option Int := S.ids.find? fun x => decide (x > id)
theorem count_le (id : Int) : ∀ (xs : List Int), xs.Pairwise (· < ·) → xs.countP (fun x => decide (x < id)) + (if xs.contains id = true then 1 else 0) = xs.countP (fun x => decide (x ≤ id))
  | [], _ => rfl
  | x :: r, h => by
    obtain ⟨h1, h2⟩ := List.pairwise_cons.1 h
    have ih := count_le id r h2
    rw [List.countP_cons, List.countP_cons, List.contains_cons]
    by_cases e : x = id
    · subst e
      have : r.contains x = false := by
        rw [List.contains_eq_mem]; exact decide_eq_false fun hm => by have := h1 x hm; omega
      rw [this] at ih
      simp at ih ⊢
      omega
    · have hb : (id == x) = false := beq_eq_false_iff_ne.2 fun q => e q.symm
      rw [hb, Bool.false_or]
      by_cases hl : x < id
      · rw [decide_eq_true hl, decide_eq_true (p := x ≤ id) (by omega)]
        simp at ih ⊢; omega
      · rw [decide_eq_false hl, decide_eq_false (p := x ≤ id) (by omega)]
        simp at ih ⊢; omega
theorem find_gt (id : Int) : ∀ (xs : List Int), xs.Pairwise (· < ·) → xs.find? (fun x => decide (x > id)) = xs[xs.countP (fun x => decide (x ≤ id))]?
  | [], _ => rfl
  | x :: r, h => by
    obtain ⟨h1, h2⟩ := List.pairwise_cons.1 h
    rw [List.countP_cons]
    by_cases hl : x ≤ id
    · rw [List.find?_cons_of_neg (by simp; omega), find_gt id r h2, decide_eq_true hl]
      simp
    · rw [List.find?_cons_of_pos (by simp; omega), decide_eq_false hl]
      have : r.countP (fun x => decide (x ≤ id)) = 0 := by
        rw [List.countP_eq_zero]
        intro y hy
        have := h1 y hy
        simp; omega
      rw [this]; rfl
def behV (o : Option Int) : Value := match o with
  | none => .tuple #[.int .i64 0, .bool false]
  | some y => .tuple #[.int .i64 y, .bool true]
set_option maxHeartbeats 2000000 in
theorem behind_calls {base : Nat} {O : Nat → Prop} {w : World} {hb : Nat} {S : St} {N : Int} (h : HeapAt base O w hb S) (hI : Inv N S) (hN : N ≤ 4000000000000) (id : Int) : Calls Try.prog 11 #[.pointer (some ⟨hb, 0, none⟩), .int .i64 id] w fun e w' => e = .returned (behV (behP S id)) ∧ Below w.heap.size w w' := by
  obtain ⟨mb, vi, vf, cb, rv, h⟩ := h
  have HS := search_calls vi S.ids id w base O h.ids (hI.ids.imp fun h => Int.le_of_lt h) (by have := hI.cnt; have := hI.bd; rw [List.length_map]; omega)
  have hlen : (S.ids.length : Int) ≤ 4000000000000 := by have := hI.cnt; have := hI.bd; rw [List.length_map]; omega
  have hcnt := count_le id S.ids hI.ids
  have hfd := find_gt id S.ids hI.ids
  have hcl : S.ids.countP (fun x => decide (x ≤ id)) ≤ S.ids.length := List.countP_le_length
  unfold behP
  rw [hfd]
  clear hfd
  obtain ⟨k, hk⟩ : ∃ k, S.ids.countP (fun x => decide (x ≤ id)) = k := ⟨_, rfl⟩
  obtain ⟨i, hi⟩ : ∃ i, S.ids.countP (fun x => decide (x < id)) = i := ⟨_, rfl⟩
  obtain ⟨b, hb2⟩ : ∃ b, S.ids.contains id = b := ⟨_, rfl⟩
  rw [hk, hi, hb2] at hcnt
  rw [hk] at hcl
  rw [hk]
  rw [hi, hb2] at HS
  have HS := Aside0.mk HS
  clear hk hi hb2
  have hrow := row_of h.ids
  obtain ⟨xs, hxs⟩ : ∃ xs, S.ids = xs := ⟨_, rfl⟩
  have c1 : w.cell? ⟨hb, 1, none⟩ = some vi := (blk_cell h.blk 1).trans rfl
  rw [hxs] at hrow hlen hcl
  rw [hxs]
  clear hI hN h hxs
  obtain ⟨A, c, ev, hcell⟩ : ∃ A c, vi = .slice A xs.length c ∧ ∀ j (hj : j < xs.length), ∃ g, A = some ⟨g, 0, none⟩ ∧ w.cell? ⟨g, j, none⟩ = some (.int .i64 xs[j]) := by
    rcases hrow with ⟨rfl, rfl⟩ | ⟨g, cap, cur, rfl, _, _, h3, _, _, _, h7⟩
    · exact ⟨none, 0, rfl, fun j hj => absurd hj (Nat.not_lt_zero j)⟩
    · refine ⟨_, _, rfl, fun j hj => ⟨g, rfl, ?_⟩⟩
      have := row_cell h3 h7 j hj
      rw [Nat.zero_add] at this
      rw [this]; simp [List.getD, hj]
  subst ev
  obtain ⟨n, hn⟩ : ∃ n, xs.length = n := ⟨_, rfl⟩
  rw [hn] at c1 HS hlen hcl
  by_cases hlt : k < n
  · obtain ⟨g, rfl, hc⟩ := hcell k (by omega)
    have hg : xs[k]? = some (xs[k]'(by omega)) := List.getElem?_eq_getElem (by omega)
    rw [hg]
    obtain ⟨y, hy⟩ : ∃ y, xs[k]'(by omega) = y := ⟨_, rfl⟩
    rw [hy] at hc ⊢
    have d1 : decide ((k : Int) ≥ (n : Int)) = false := decide_eq_false (by omega)
    have q0 : (0 : Int) ≤ (k : Int) := by omega
    have q1 : (k : Int) < (n : Int) := by omega
    show Calls _ _ _ _ (fun e w' => e = .returned (.tuple #[.int .i64 y, .bool true]) ∧ _)
    clear hcell hrow hg hy hn
    cases b with
    | false =>
      have e : i = k := by simpa using hcnt
      subst e
      clear hcnt
      go_enter Try.func11, Try.ntmps11
      go_wp2_with (first | (go_at_call 28; (with_reducible refine HS.out.mono ?_); rintro e w5 ⟨rfl, q, rfl⟩))
      go_ret2
      exact ⟨rfl, pw_below_drewN (Below.refl _ _) _⟩
    | true =>
      have e : k = i + 1 := by simpa using hcnt.symm
      subst e
      clear hcnt
      have w1 : wrap64 ((i : Int) + 1) = ((i + 1 : Nat) : Int) := by simp only [wrap64]; omega
      go_enter Try.func11, Try.ntmps11
      go_wp2_with (first | (go_at_call 28; (with_reducible refine HS.out.mono ?_); rintro e w5 ⟨rfl, q, rfl⟩))
      go_ret2
      exact ⟨rfl, pw_below_drewN (Below.refl _ _) _⟩
  · have hg : xs[k]? = none := List.getElem?_eq_none (by omega)
    rw [hg]
    have d1 : decide ((k : Int) ≥ (n : Int)) = true := decide_eq_true (by omega)
    show Calls _ _ _ _ (fun e w' => e = .returned (.tuple #[.int .i64 0, .bool false]) ∧ _)
    clear hcell hrow hg hn
    cases b with
    | false =>
      have e : i = k := by simpa using hcnt
      subst e
      clear hcnt
      go_enter Try.func11, Try.ntmps11
      go_wp2_with (first | (go_at_call 28; (with_reducible refine HS.out.mono ?_); rintro e w5 ⟨rfl, q, rfl⟩))
      go_ret2
      exact ⟨rfl, pw_below_drewN (Below.refl _ _) _⟩
    | true =>
      have e : k = i + 1 := by simpa using hcnt.symm
      subst e
      clear hcnt
      have w1 : wrap64 ((i : Int) + 1) = ((i + 1 : Nat) : Int) := by simp only [wrap64]; omega
      go_enter Try.func11, Try.ntmps11
      go_wp2_with (first | (go_at_call 28; (with_reducible refine HS.out.mono ?_); rintro e w5 ⟨rfl, q, rfl⟩))
      go_ret2
      exact ⟨rfl, pw_below_drewN (Below.refl _ _) _⟩
end Go.Proofs.Ytgbjilcfgpbcgaa
