import Derived.Test.YtgbjilcfgpbcgaaZpH15
/- Layer 8: the calls of a heap, each in one word. -/
namespace Go.Proofs.Ytgbjilcfgpbcgaa
open Go.RowKit Go.Proofs.YtgbjilcfgpbcgaaW.PrintWords Go.Proofs.YtgbjilcfgpbcgaaW.PrintLast Go.Proofs.YtgbjilcfgpbcgaaW.PrintMore
set_option linter.unusedSimpArgs false
set_option linter.unusedVariables false
/-- A heap S in memory, all its blocks in O, made by at most N calls that lay. -/
structure H8 (B : Nat) (w : World) (hb : Nat) (S : St) (N : Int) (O : Nat → Prop) : Prop where
  at_ : HeapAt B O w hb S
  own : ∀ k, O k → B ≤ k ∧ k < w.heap.size
  base : B ≤ w.heap.size
  inv : Inv N S
  rows : ∀ e ∈ S.ents, e.row.length ≤ 140737488355328
/-- What a call leaves behind. -/
structure Nx (B : Nat) (w : World) (hb : Nat) (O : Nat → Prop) (S' : St) (N' : Int) (w' : World) (O' : Nat → Prop) : Prop where
  heap : H8 B w' hb S' N' O'
  fr : Fr B O w w'
  old : ∀ k, k < w.heap.size → O' k → O k
theorem H8.below {B : Nat} {w w' : World} {hb : Nat} {S : St} {N : Int} {O : Nat → Prop} (h : H8 B w hb S N O) (hk : Below w.heap.size w w') : H8 B w' hb S N O :=
  ⟨h.at_.below hk, fun k ho => ⟨(h.own k ho).1, Nat.lt_of_lt_of_le (h.own k ho).2 hk.size⟩, Nat.le_trans h.base hk.size, h.inv, h.rows⟩
theorem H8.mono {B : Nat} {w : World} {hb : Nat} {S : St} {N M : Int} {O : Nat → Prop} (h : H8 B w hb S N O) (hm : N ≤ M) : H8 B w hb S M O := ⟨h.at_, h.own, h.base, h.inv.mono hm, h.rows⟩
theorem Nx.same {B : Nat} {w w' : World} {hb : Nat} {S : St} {N : Int} {O : Nat → Prop} (h : H8 B w hb S N O) (hk : Below w.heap.size w w') : Nx B w hb O S N w' O :=
  ⟨h.below hk, ⟨hk.mono h.base, Kept.of_below hk _⟩, fun k _ ho => ho⟩
theorem Nx.of {B : Nat} {w w' : World} {hb : Nat} {S S' : St} {N N' : Int} {O : Nat → Prop} (h : H8 B w hb S N O) (ha : HeapAt B (grow O w w') w' hb S') (hf : Fr B O w w') (hi : Inv N' S') (hr : ∀ e ∈ S'.ents, e.row.length ≤ 140737488355328) : Nx B w hb O S' N' w' (grow O w w') :=
  ⟨⟨ha, fun k ho => ho.elim (fun ho => ⟨(h.own k ho).1, Nat.lt_of_lt_of_le (h.own k ho).2 hf.low.size⟩) (fun hk => ⟨Nat.le_trans h.base hk.1, hk.2⟩), Nat.le_trans h.base hf.low.size, hi, hr⟩, hf, fun k hk ho => ho.elim (fun h => h) (fun h => by omega)⟩
/-- A row of bytes that the heap does not own. -/
theorem kept_C {w : World} {bb : Nat} {O : Nat → Prop} {A : Option Addr} {n c : Nat} {xs : List Int} (h : kb.R 5 w bb (fun k => ¬ O k) (.slice A n c) xs) : xs.length = n ∧ ∀ W, Kept w W O → kb.C W A n xs := by
  obtain ⟨h1, h2, h3⟩ := Kd.R_reads' h
  refine ⟨h1.symm, fun W hk => ?_⟩
  have := Kd.R_step (w1 := W) h (fun k hn hl => hk.2 k hl hn)
  obtain ⟨_, _, h4⟩ := Kd.R_reads' this
  rw [h1]; exact h4
theorem lay_rows {S : St} {id : Int} {xs : List Int} (h : ∀ e ∈ S.ents, e.row.length ≤ 140737488355328) (hx : xs.length ≤ 140737488355328) : ∀ e ∈ (layP S id xs).ents, e.row.length ≤ 140737488355328 := fun e he => by
  rcases (mem_insAt _ _ _ _).1 he with rfl | he
  · exact hx
  · exact h e he
theorem H8.addC {B : Nat} {w : World} {hb : Nat} {S : St} {N : Int} {O : Nat → Prop} (h : H8 B w hb S N O) (hN : N + 1 ≤ 4000000000000) {A : Option Addr} {n c : Nat} {xs : List Int} (hC : ∀ W, Kept w W O → kb.C W A n xs) (hl : xs.length = n) (hn : n ≤ 140737488355328) :
    Calls Try.prog 9 #[.pointer (some ⟨hb, 0, none⟩), .slice A n c] w fun e w' => e = .returned (.int .i64 (S.last + 1)) ∧ Nx B w hb O (addP S xs) (N + 1) w' (grow O w w') := by
  refine (add_calls h.at_ h.inv hN h.own h.base A n c xs hC hl hn).mono fun e w' ⟨he, ha, hf⟩ => ⟨he, Nx.of h ha hf (addP_inv h.inv xs) ?_⟩
  exact lay_rows (S := { S with last := S.last + 1 }) h.rows (by rw [hl]; exact hn)
theorem H8.add {B : Nat} {w : World} {hb : Nat} {S : St} {N : Int} {O : Nat → Prop} (h : H8 B w hb S N O) (hN : N + 1 ≤ 4000000000000) {bb : Nat} {A : Option Addr} {n c : Nat} {xs : List Int} (hr : kb.R 5 w bb (fun k => ¬ O k) (.slice A n c) xs) (hn : n ≤ 140737488355328) :
    Calls Try.prog 9 #[.pointer (some ⟨hb, 0, none⟩), .slice A n c] w fun e w' => e = .returned (.int .i64 (S.last + 1)) ∧ Nx B w hb O (addP S xs) (N + 1) w' (grow O w w') := h.addC hN (kept_C hr).2 (kept_C hr).1 hn
theorem H8.backC {B : Nat} {w : World} {hb : Nat} {S : St} {N : Int} {O : Nat → Prop} (h : H8 B w hb S N O) (hN : N ≤ 4000000000000) (id : Int) (hid : I64 id) {A : Option Addr} {n c : Nat} {xs : List Int} (hC : ∀ W, Kept w W O → kb.C W A n xs) (hl : xs.length = n) (hn : n ≤ 140737488355328) :
    Calls Try.prog 16 #[.pointer (some ⟨hb, 0, none⟩), .int .i64 id, .slice A n c] w fun e w' => e = .returned (.bool (backB S id)) ∧ Nx B w hb O (if backB S id = true then layP S id xs else S) (N + 1) w' (grow O w w') := by
  refine (back_calls h.at_ h.inv hN h.own h.base id hid A n c xs (hC w (Kept.refl _ _)) hl hn).mono fun e w' hp => ?_
  unfold BackPost at hp
  cases hb2 : backB S id with
  | false =>
    rw [hb2, if_neg (by decide)] at hp
    obtain ⟨he, rfl⟩ := hp
    refine ⟨he, ?_⟩
    rw [if_neg (by decide)]
    exact Nx.of h (h.at_.mono fun k ho _ => .inl ho) (Fr.refl _ _ _) (h.inv.mono (by omega)) h.rows
  | true =>
    rw [hb2, if_pos rfl] at hp
    obtain ⟨he, ha, hf⟩ := hp
    refine ⟨he, ?_⟩
    rw [if_pos rfl]
    unfold backB at hb2
    simp only [Bool.and_eq_true, decide_eq_true_eq] at hb2
    obtain ⟨h1, h2, h3⟩ := hb2
    exact Nx.of h ha hf (layP_inv h.inv id xs ⟨h1, h2⟩ (find_none (Option.isNone_iff_eq_none.1 h3))) (lay_rows h.rows (by rw [hl]; exact hn))
theorem H8.back {B : Nat} {w : World} {hb : Nat} {S : St} {N : Int} {O : Nat → Prop} (h : H8 B w hb S N O) (hN : N ≤ 4000000000000) (id : Int) (hid : I64 id) {bb : Nat} {A : Option Addr} {n c : Nat} {xs : List Int} (hr : kb.R 5 w bb (fun k => ¬ O k) (.slice A n c) xs) (hn : n ≤ 140737488355328) :
    Calls Try.prog 16 #[.pointer (some ⟨hb, 0, none⟩), .int .i64 id, .slice A n c] w fun e w' => e = .returned (.bool (backB S id)) ∧ Nx B w hb O (if backB S id = true then layP S id xs else S) (N + 1) w' (grow O w w') := h.backC hN id hid (kept_C hr).2 (kept_C hr).1 hn
theorem H8.drop {B : Nat} {w : World} {hb : Nat} {S : St} {N : Int} {O : Nat → Prop} (h : H8 B w hb S N O) (hN : N ≤ 4000000000000) (id : Int) (hid : I64 id) :
    Calls Try.prog 10 #[.pointer (some ⟨hb, 0, none⟩), .int .i64 id] w fun e w' => e = .returned (.bool (findP S id).isSome) ∧ Nx B w hb O (dropP S id) N w' (grow O w w') := by
  cases hf : findP S id with
  | none =>
    refine (drop_no h.at_ id hid hf).mono fun e w' hp => ?_
    obtain ⟨he, rfl⟩ := hp
    refine ⟨he, ?_⟩
    rw [drop_none hf]
    exact Nx.of h (h.at_.mono fun k ho _ => .inl ho) (Fr.refl _ _ _) h.inv h.rows
  | some x =>
    refine (drop_yes h.at_ h.inv hN h.own h.base id hid x hf).mono fun e w' ⟨he, ha, hfr⟩ => ⟨he, Nx.of h ha hfr (dropP_inv h.inv id) fun e he => h.rows e ((mem_drop h.inv hf e).1 he).1⟩
theorem H8.len {B : Nat} {w : World} {hb : Nat} {S : St} {N : Int} {O : Nat → Prop} (h : H8 B w hb S N O) : Calls Try.prog 14 #[.pointer (some ⟨hb, 0, none⟩)] w fun e w' => e = .returned (.int .i64 S.ents.length) ∧ w' = w := len_calls h.at_
theorem H8.last {B : Nat} {w : World} {hb : Nat} {S : St} {N : Int} {O : Nat → Prop} (h : H8 B w hb S N O) : Calls Try.prog 25 #[.pointer (some ⟨hb, 0, none⟩)] w fun e w' => e = .returned (.int .i64 S.last) ∧ w' = w := last_calls h.at_
theorem H8.get {B : Nat} {w : World} {hb : Nat} {S : St} {N : Int} {O : Nat → Prop} (h : H8 B w hb S N O) (id : Int) (hid : I64 id) :
    Calls Try.prog 12 #[.pointer (some ⟨hb, 0, none⟩), .int .i64 id] w fun e w' => ∃ v, e = .returned (.tuple #[v, .bool (findP S id).isSome]) ∧ kb.R 5 w' w.heap.size (fun _ => True) v ((findP S id).elim [] Ent.row) ∧ Below w.heap.size w w' := by
  refine (get_calls h.at_ id hid h.rows).mono fun e w' hp => ?_
  unfold GetPost at hp
  cases hf : findP S id with
  | none =>
    rw [hf] at hp
    obtain ⟨he, rfl⟩ := hp
    exact ⟨_, he, Kd.R_nil _ _ _ _ _, Below.refl _ _⟩
  | some x =>
    rw [hf] at hp
    exact hp
theorem H8.pages {B : Nat} {w : World} {hb : Nat} {S : St} {N : Int} {O : Nat → Prop} (h : H8 B w hb S N O) (hN : N ≤ 4000000000000) : Calls Try.prog 13 #[.pointer (some ⟨hb, 0, none⟩)] w fun e w' => ∃ v, e = .returned v ∧ ki.R 3 w' w.heap.size (fun _ => True) v (pagesP S) ∧ Below w.heap.size w w' := pages_calls h.at_ h.inv hN
theorem H8.place {B : Nat} {w : World} {hb : Nat} {S : St} {N : Int} {O : Nat → Prop} (h : H8 B w hb S N O) (hN : N ≤ 4000000000000) (id : Int) (hid : I64 id) : Calls Try.prog 17 #[.pointer (some ⟨hb, 0, none⟩), .int .i64 id] w fun e w' => e = .returned (.tuple #[.int .i64 (placeP (findP S id)).1, .int .i64 (placeP (findP S id)).2]) ∧ Below w.heap.size w w' := place_calls h.at_ h.inv hN id hid
theorem H8.behind {B : Nat} {w : World} {hb : Nat} {S : St} {N : Int} {O : Nat → Prop} (h : H8 B w hb S N O) (hN : N ≤ 4000000000000) (id : Int) : Calls Try.prog 11 #[.pointer (some ⟨hb, 0, none⟩), .int .i64 id] w fun e w' => e = .returned (behV (behP S id)) ∧ Below w.heap.size w w' := behind_calls h.at_ h.inv hN id
theorem H8.set {B : Nat} {w : World} {hb : Nat} {S : St} {N : Int} {O : Nat → Prop} (h : H8 B w hb S N O) (id : Int) (hid : I64 id) {bb : Nat} {A : Option Addr} {n c : Nat} {xs : List Int} (hr : kb.R 5 w bb (fun k => ¬ O k) (.slice A n c) xs) (hn : n ≤ 140737488355328) :
    Calls Try.prog 22 #[.pointer (some ⟨hb, 0, none⟩), .int .i64 id, .slice A n c] w fun e w' => e = .returned (.bool (findP S id).isSome) ∧ Nx B w hb O (setP S id xs) N w' (grow O w w') := by
  obtain ⟨hl, hC⟩ := kept_C hr
  refine (set_calls h.at_ h.own h.base id hid A n c xs (hC w (Kept.refl _ _)) hl hn).mono fun e w' hp => ?_
  unfold SetPost at hp
  have hrow : ∀ e ∈ (setP S id xs).ents, e.row.length ≤ 140737488355328 := fun e he => by
    obtain ⟨u, hu, rfl⟩ := List.mem_map.1 he
    by_cases e1 : u.id = id
    · rw [if_pos e1]; show xs.length ≤ _; rw [hl]; exact hn
    · rw [if_neg e1]; exact h.rows u hu
  cases hf : findP S id with
  | none =>
    rw [hf] at hp
    obtain ⟨he, rfl⟩ := hp
    refine ⟨he, ?_⟩
    have e1 : setP S id xs = S := by
      have : S.ents.map (reRow id xs) = S.ents := by
        refine (List.map_congr_left fun e he => ?_).trans (List.map_id _)
        unfold reRow
        rw [if_neg]
        · rfl
        · intro e1
          exact find_none hf (e1 ▸ List.mem_map_of_mem he)
      rw [setP_eq, this]
    rw [e1]
    exact Nx.of h (h.at_.mono fun k ho _ => .inl ho) (Fr.refl _ _ _) h.inv h.rows
  | some x =>
    rw [hf] at hp
    obtain ⟨he, ha, hfr⟩ := hp
    exact ⟨he, Nx.of h ha hfr (setP_inv h.inv id xs) hrow⟩
theorem H8.new (w : World) (B : Nat) (hB : B ≤ w.heap.size) : Calls Try.prog 8 #[] w fun e w' => ∃ hb, e = .returned (.pointer (some ⟨hb, 0, none⟩)) ∧ H8 B w' hb S0 0 (fun k => w.heap.size ≤ k ∧ k < w'.heap.size) ∧ Below w.heap.size w w' :=
  (new_calls w B hB).mono fun e w' ⟨hb, he, ha, hk⟩ => ⟨hb, he, ⟨ha, fun k hk => ⟨by omega, hk.2⟩, Nat.le_trans hB hk.size, Inv.zero, fun e he => by cases he⟩, hk⟩
end Go.Proofs.Ytgbjilcfgpbcgaa
