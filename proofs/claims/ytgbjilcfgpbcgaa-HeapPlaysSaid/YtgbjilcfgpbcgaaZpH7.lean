import Derived.Test.YtgbjilcfgpbcgaaZpH6
/- Layer 8: New, Add, Len, Last, Get, Place, Set, Back, walked. -/
namespace Go.Proofs.Ytgbjilcfgpbcgaa
open Go.RowKit Go.Proofs.YtgbjilcfgpbcgaaW.PrintWords Go.Proofs.YtgbjilcfgpbcgaaW.PrintLast Go.Proofs.YtgbjilcfgpbcgaaW.PrintMore
set_option linter.unusedSimpArgs false
set_option linter.unusedVariables false
abbrev S0 : St := ⟨[], [], 0, 0⟩
set_option maxHeartbeats 1000000 in
theorem new_calls (w : World) (base : Nat) (hbw : base ≤ w.heap.size) :
    Calls Try.prog 8 #[] w fun e w' => ∃ hb, e = .returned (.pointer (some ⟨hb, 0, none⟩)) ∧ HeapAt base (fun k => w.heap.size ≤ k ∧ k < w'.heap.size) w' hb S0 ∧ Below w.heap.size w w' := by
  have hmm := @run_makeMap Try.prog
  have hm := MapG.made w
  have hs : (w.alloc (.map #[] 0)).heap.size = w.heap.size + 1 := by simp
  have hH : HeapAt base (fun k => w.heap.size ≤ k ∧ k < ((w.alloc (.map #[] 0)).alloc (.cells #[.map (some w.heap.size), .slice none 0 0, .slice none 0 0, .int .i64 0, .int .i64 0] 57)).heap.size) ((w.alloc (.map #[] 0)).alloc (.cells #[.map (some w.heap.size), .slice none 0 0, .slice none 0 0, .int .i64 0, .int .i64 0] 57)) (w.heap.size + 1) S0 := by
    refine ⟨w.heap.size, .slice none 0 0, .slice none 0 0, fun _ => 0, fun _ => .slice none 0 0, ?_⟩
    have hb := heap_alloc_new (w.alloc (.map #[] 0)) (.cells #[.map (some w.heap.size), .slice none 0 0, .slice none 0 0, .int .i64 0, .int .i64 0] 57)
    rw [hs] at hb
    refine ⟨hb, ?_, ⟨by omega, ⟨by omega, by simp⟩, hbw, ⟨by omega, by simp; omega⟩⟩, Kd.R_nil _ _ _ _ _, Kd.R_nil _ _ _ _ _, fun k hk => by simp [Value.ownBlock] at hk, fun e he => (by cases he), fun e he => (by cases he), fun e he => (by cases he)⟩
    have e : fM (S0.ents.map Ent.id) (fun _ => 0) = fun _ => none := by
      funext kl
      cases kl with
      | int k c => cases k <;> rfl
      | _ => rfl
    rw [e]
    exact hm.blk (Below.heap_alloc (w.alloc (.map #[] 0)) _ w.heap.size (by omega))
  have HH := Aside0.mk hH
  have HB : Aside0 (Below w.heap.size w ((w.alloc (.map #[] 0)).alloc (.cells #[.map (some w.heap.size), .slice none 0 0, .slice none 0 0, .int .i64 0, .int .i64 0] 57))) := ⟨below_alloc (below_alloc (Below.refl _ _) _) _⟩
  clear hm hs hH hbw
  go_enter Try.func8, Try.ntmps8
  go_wp2
  go_ret
  refine ⟨_, ?_, HH.out, HB.out⟩
  simp
theorem len_calls {base : Nat} {O : Nat → Prop} {w : World} {hb : Nat} {S : St} (h : HeapAt base O w hb S) : Calls Try.prog 14 #[.pointer (some ⟨hb, 0, none⟩)] w fun e w' => e = .returned (.int .i64 S.ents.length) ∧ w' = w := by
  obtain ⟨mb, vi, vf, cb, rv, h⟩ := h
  have c0 : w.cell? ⟨hb, 0, none⟩ = some (.map (some mb)) := (blk_cell h.blk 0).trans rfl
  have hlen := h.map.len 3
  clear h
  go_enter Try.func14, Try.ntmps14
  go_wp2
  go_ret
  exact ⟨rfl, rfl⟩
theorem last_calls {base : Nat} {O : Nat → Prop} {w : World} {hb : Nat} {S : St} (h : HeapAt base O w hb S) : Calls Try.prog 25 #[.pointer (some ⟨hb, 0, none⟩)] w fun e w' => e = .returned (.int .i64 S.last) ∧ w' = w := by
  obtain ⟨mb, vi, vf, cb, rv, h⟩ := h
  have c4 : w.cell? ⟨hb, 4, none⟩ = some (.int .i64 S.last) := (blk_cell h.blk 4).trans rfl
  clear h
  go_enter Try.func25, Try.ntmps25
  go_wp2
  go_ret
  exact ⟨rfl, rfl⟩
theorem HeapAt.cell4 {base : Nat} {O : Nat → Prop} {w : World} {hb : Nat} {S : St} (h : HeapAt base O w hb S) : w.cell? ⟨hb, 4, none⟩ = some (.int .i64 S.last) := by
  obtain ⟨mb, vi, vf, cb, rv, h⟩ := h
  exact (blk_cell h.blk 4).trans rfl
theorem Inv.bump {N : Int} {S : St} (h : Inv N S) : Inv (N + 1) { S with last := S.last + 1 } where
  ids := h.ids
  idr e he := by have := h.idr e he; exact ⟨this.1, by show e.id ≤ S.last + 1; omega⟩
  free := h.free
  frr := h.frr
  sl := h.sl
  dis := h.dis
  cnt := h.cnt
  bd := by have := h.bd; exact ⟨by show S.edge ≤ N + 1; omega, by show 0 ≤ S.last + 1; omega, by show S.last + 1 ≤ N + 1; omega⟩
theorem add_new {N : Int} {S : St} (h : Inv N S) : S.last + 1 ∉ S.ids := by
  intro hm
  obtain ⟨e, he, heq⟩ := List.mem_map.1 hm
  have := h.idr e he
  omega
theorem lay_last (S : St) (id : Int) (xs : List Int) : (layP S id xs).last = S.last := (slot_ents S).2
set_option maxHeartbeats 1000000 in
theorem add_calls {base : Nat} {O : Nat → Prop} {w : World} {hb : Nat} {S : St} {N : Int} (h : HeapAt base O w hb S) (hI : Inv N S) (hN : N + 1 ≤ 4000000000000) (hO : ∀ k, O k → base ≤ k ∧ k < w.heap.size) (hbw : base ≤ w.heap.size)
    (A : Option Addr) (n c : Nat) (xs : List Int) (hC : ∀ W, Kept w W O → kb.C W A n xs) (hl : xs.length = n) (hn : n ≤ 140737488355328) :
    Calls Try.prog 9 #[.pointer (some ⟨hb, 0, none⟩), .slice A n c] w fun e w' => e = .returned (.int .i64 (S.last + 1)) ∧ HeapAt base (grow O w w') w' hb (addP S xs) ∧ Fr base O w w' := by
  obtain ⟨mb, vi, vf, cb, rv, h⟩ := h
  have hset := h.set4 (S.last + 1)
  have hsz : (w.setCell ⟨hb, 4, none⟩ (.int .i64 (S.last + 1))).heap.size = w.heap.size := by simp
  have hlow : Fr base O w (w.setCell ⟨hb, 4, none⟩ (.int .i64 (S.last + 1))) := (Fr.refl base O w).set (fun k hk => (hO k hk).1) h.own.2.1 4 _
  have hC2 : kb.C (w.setCell ⟨hb, 4, none⟩ (.int .i64 (S.last + 1))) A n xs := hC _ hlow.kept
  have c4 : w.cell? ⟨hb, 4, none⟩ = some (.int .i64 S.last) := (blk_cell h.blk 4).trans rfl
  have f4 : w.frozen? ⟨hb, 4, none⟩ = false := frozen_of_row w hb 4 _ 57 h.blk
  have d4 : (w.setCell ⟨hb, 4, none⟩ (.int .i64 (S.last + 1))).cell? ⟨hb, 4, none⟩ = some (.int .i64 (S.last + 1)) := (blk_cell hset.blk 4).trans rfl
  have hlay := lay_calls (S := { S with last := S.last + 1 }) hset hI.bump hN (fun k hk => by rw [hsz]; exact hO k hk) (by rw [hsz]; exact hbw) (S.last + 1) ⟨by have := hI.bd; omega, Int.le_refl _⟩ (add_new hI) A n c xs hC2 hl hn
  have l63 : S.last ≤ 4000000000000 := by have := hI.bd; omega
  have l0 : 0 ≤ S.last := hI.bd.2.1
  obtain ⟨la, hla⟩ : ∃ la, S.last = la := ⟨_, rfl⟩
  have HLAY := Aside0.mk hlay
  have HLOW := Aside0.mk hlow
  have HSZ := Aside0.mk hsz
  rw [hla] at c4 d4 l63 l0 HLAY HLOW HSZ
  rw [hla]
  have HLA := Aside0.mk hla
  clear hset hsz hlow hC2 hlay hla hI hN hO hbw hC hl hn h
  go_enter Try.func9, Try.ntmps9
  go_wp2_with (first | (go_at_call 27; (with_reducible refine HLAY.out.mono ?_); rintro e w2 ⟨rfl, hH, hF⟩; have HH := Aside0.mk hH; have HF := Aside0.mk hF; have k4 := hH.cell4; rw [lay_last] at k4; clear hH hF))
  go_ret
  refine ⟨ret_int rfl, ?_, HLOW.out.trans HF.out⟩
  have := HH.out
  unfold grow at this ⊢
  rw [HSZ.out] at this
  unfold addP
  rw [HLA.out]
  exact this
end Go.Proofs.Ytgbjilcfgpbcgaa
