import Derived.Test.YtgbjilcfgpbcgaaZpH3
/- Layer 8: a heap takes a slot. -/
namespace Go.Proofs.Ytgbjilcfgpbcgaa
open Go.RowKit Go.Proofs.YtgbjilcfgpbcgaaW.PrintWords Go.Proofs.YtgbjilcfgpbcgaaW.PrintLast Go.Proofs.YtgbjilcfgpbcgaaW.PrintMore
set_option linter.unusedSimpArgs false
set_option linter.unusedVariables false
theorem ty_ne {w : World} {k : Nat} {a b : Array Value} {t s : TypeId} {p : Prop} (h1 : w.heap[k]? = some (.cells a t (0, 0))) (h2 : w.heap[k]? = some (.cells b s (0, 0))) (hne : t ≠ s) : p := by
  rw [h1] at h2
  injection h2 with h2
  injection h2 with _ h2
  exact absurd h2 hne
/-- A store into the heap's own block. -/
theorem Hq.set3 {base : Nat} {O : Nat → Prop} {w : World} {hb : Nat} {E : List Ent} {I F : List Int} {ed la : Int} {mb : Nat} {vi vf : Value} {cb : Int → Nat} {rv : Int → Value} (h : Hq base O w hb E I F ed la mb vi vf cb rv) (x : Int) : Hq base O (w.setCell ⟨hb, 3, none⟩ (.int .i64 x)) hb E I F x la mb vi vf cb rv := by
  have hk : ∀ k, k ≠ hb → (w.setCell ⟨hb, 3, none⟩ (.int .i64 x)).heap[k]? = w.heap[k]? := fun k hk => Below.heap_setCell w ⟨hb, 3, none⟩ _ k hk
  have hm : mb ≠ hb := fun e => by
    obtain ⟨D, ⟨es, clock, hm, _⟩, _⟩ := h.map
    rw [e, h.blk] at hm; cases hm
  refine ⟨(heap_setCell_same w hb 3 _ 57 _ h.blk).trans rfl, h.map.blk (hk mb hm), h.own, Kd.R_set h.ids h.blk (fun q hq => ?_) 3 _, Kd.R_set h.free h.blk (fun q hq => ?_) 3 _, h.apart, fun e he => ⟨(hk _ fun e' => ?_).trans (h.cell e he).1, (h.cell e he).2⟩, h.cinj, fun e he => Kd.R_set (h.row e he) h.blk (fun q hq => ?_) 3 _⟩
  · have : q = 3 := by simpa [Kd.int, Kd.scalar] using hq
    omega
  · have : q = 3 := by simpa [Kd.int, Kd.scalar] using hq
    omega
  · have := (h.cell e he).1; rw [e'] at this; exact ty_ne h.blk this (by decide)
  · have : q = 5 := by simpa [Kd.int, Kd.scalar] using hq
    omega
theorem Hq.set4 {base : Nat} {O : Nat → Prop} {w : World} {hb : Nat} {E : List Ent} {I F : List Int} {ed la : Int} {mb : Nat} {vi vf : Value} {cb : Int → Nat} {rv : Int → Value} (h : Hq base O w hb E I F ed la mb vi vf cb rv) (x : Int) : Hq base O (w.setCell ⟨hb, 4, none⟩ (.int .i64 x)) hb E I F ed x mb vi vf cb rv := by
  have hk : ∀ k, k ≠ hb → (w.setCell ⟨hb, 4, none⟩ (.int .i64 x)).heap[k]? = w.heap[k]? := fun k hk => Below.heap_setCell w ⟨hb, 4, none⟩ _ k hk
  have hm : mb ≠ hb := fun e => by
    obtain ⟨D, ⟨es, clock, hm, _⟩, _⟩ := h.map
    rw [e, h.blk] at hm; cases hm
  refine ⟨(heap_setCell_same w hb 4 _ 57 _ h.blk).trans rfl, h.map.blk (hk mb hm), h.own, Kd.R_set h.ids h.blk (fun q hq => ?_) 4 _, Kd.R_set h.free h.blk (fun q hq => ?_) 4 _, h.apart, fun e he => ⟨(hk _ fun e' => ?_).trans (h.cell e he).1, (h.cell e he).2⟩, h.cinj, fun e he => Kd.R_set (h.row e he) h.blk (fun q hq => ?_) 4 _⟩
  · have : q = 3 := by simpa [Kd.int, Kd.scalar] using hq
    omega
  · have : q = 3 := by simpa [Kd.int, Kd.scalar] using hq
    omega
  · have := (h.cell e he).1; rw [e'] at this; exact ty_ne h.blk this (by decide)
  · have : q = 5 := by simpa [Kd.int, Kd.scalar] using hq
    omega
/-- The free slots' row has been made anew (in w1), and is stored. -/
theorem Hq.put2 {base : Nat} {O O' : Nat → Prop} {w w1 : World} {hb : Nat} {E : List Ent} {I F : List Int} {ed la : Int} {mb : Nat} {vi vf vf' : Value} {cb : Int → Nat} {rv : Int → Value} {fr : List Int} (h : Hq base O w hb E I F ed la mb vi vf cb rv) (hr : ki.R 3 w1 base O' vf' fr) (hO : ∀ k, O k → O' k) (hg : w.grownBy w1 vf.ownBlock) (hv : vf'.ownBlock = vf.ownBlock ∨ ∃ b, vf'.ownBlock = some b ∧ w.heap.size ≤ b) :
    Hq base O' (w1.setCell ⟨hb, 2, none⟩ vf') hb E I fr ed la mb vi vf' cb rv := by
  have n1 := Kd.R_ne h.free h.blk (by decide)
  have e1 := (hg.block hb (blk_lt h.blk) n1).trans h.blk
  have hk : ∀ k, k ≠ hb → (w1.setCell ⟨hb, 2, none⟩ vf').heap[k]? = w1.heap[k]? := fun k hk => Below.heap_setCell w1 ⟨hb, 2, none⟩ _ k hk
  have hm : mb ≠ hb := fun e => by
    obtain ⟨D, ⟨es, clock, hm, _⟩, _⟩ := h.map
    rw [e, h.blk] at hm; cases hm
  have nm : some mb ≠ vf.ownBlock := fun e => by
    obtain ⟨cells, hc⟩ := own_typed (Kd.R_own h.free).choose_spec mb e.symm
    obtain ⟨D, ⟨es, clock, hm, _⟩, _⟩ := h.map
    rw [hc] at hm; cases hm
  have hids : ki.R 3 w1 base O vi I := by
    refine Kd.R_mono (ok := fun k => O k ∧ vi.ownBlock = some k) ?_ fun k hk => hk.1
    refine Kd.R_step ⟨fun k hk => ⟨h.ids.1 k hk, hk⟩, h.ids.2⟩ fun k ho hl => hg.block k hl (fun e => h.apart k ho.2 e.symm)
  have hrow : ∀ e ∈ E, kb.R 5 w1 base O (rv e.id) e.row := fun e he => by
    refine Kd.R_mono (ok := fun k => O k ∧ k ≠ 0 ∨ O k) ?_ fun k hk => hk.elim And.left id
    refine Kd.R_step (Kd.R_mono (Kd.R_bound (h.row e he)) (ok' := fun k => O k ∧ ∃ cells, w.heap[k]? = some (.cells cells 5 (0, 0))) fun k hk => ⟨hk.1, ?_⟩) (fun k ho hl => hg.block k hl (fun e => ?_)) |> fun r => Kd.R_mono r (fun k hk => .inr hk.1)
    · obtain ⟨_, _, _, q, hq, cells, hc⟩ := hk
      have : q = 5 := by simpa [Kd.int, Kd.scalar] using hq
      subst this; exact ⟨cells, hc⟩
    · obtain ⟨cells, hc⟩ := own_typed (Kd.R_own h.free).choose_spec k e.symm
      obtain ⟨_, cells', hc'⟩ := ho
      rw [hc] at hc'; injection hc' with hc'; injection hc' with _ hc'; cases hc'
  have e1' := (heap_setCell_same w1 hb 2 _ 57 vf' e1).trans (show some _ = some (Obj.cells #[.map (some mb), vi, vf', .int .i64 ed, .int .i64 la] 57 (0, 0)) from rfl)
  refine ⟨e1', h.map.blk ((hk mb hm).trans (hg.block mb h.map.lt nm)), ⟨h.own.1, hO _ h.own.2.1, h.own.2.2.1, hO _ h.own.2.2.2⟩, Kd.R_mono (Kd.R_set hids e1 (fun q hq => ?_) 2 _) hO, Kd.R_set hr e1 (fun q hq => ?_) 2 _, fun k hk hk2 => ?_, fun e he => ⟨(hk _ fun e' => ?_).trans ((hg.block _ (blk_lt (h.cell e he).1) fun e' => ?_).trans (h.cell e he).1), (h.cell e he).2.1, hO _ (h.cell e he).2.2⟩, h.cinj, fun e he => Kd.R_mono (Kd.R_set (hrow e he) e1 (fun q hq => ?_) 2 _) hO⟩
  · have : q = 3 := by simpa [Kd.int, Kd.scalar] using hq
    omega
  · have : q = 3 := by simpa [Kd.int, Kd.scalar] using hq
    omega
  · rcases hv with hv | ⟨b, hv, hb'⟩
    · rw [hv] at hk2; exact h.apart k hk hk2
    · rw [hv] at hk2
      injection hk2 with hk2
      obtain ⟨cells, hc⟩ := own_typed (Kd.R_own h.ids).choose_spec k hk
      have := blk_lt hc
      omega
  · have := (h.cell e he).1; rw [e'] at this; exact ty_ne h.blk this (by decide)
  · exact Kd.R_ne h.free (h.cell e he).1 (by decide) e'
  · have : q = 5 := by simpa [Kd.int, Kd.scalar] using hq
    omega
/-- The numbers' row has been made anew (in w1), and is stored. -/
theorem Hq.put1 {base : Nat} {O O' : Nat → Prop} {w w1 : World} {hb : Nat} {E : List Ent} {I F : List Int} {ed la : Int} {mb : Nat} {vi vf vi' : Value} {cb : Int → Nat} {rv : Int → Value} {fr : List Int} (h : Hq base O w hb E I F ed la mb vi vf cb rv) (hr : ki.R 3 w1 base O' vi' fr) (hO : ∀ k, O k → O' k) (hg : w.grownBy w1 vi.ownBlock) (hv : vi'.ownBlock = vi.ownBlock ∨ ∃ b, vi'.ownBlock = some b ∧ w.heap.size ≤ b) :
    Hq base O' (w1.setCell ⟨hb, 1, none⟩ vi') hb E fr F ed la mb vi' vf cb rv := by
  have n1 := Kd.R_ne h.ids h.blk (by decide)
  have e1 := (hg.block hb (blk_lt h.blk) n1).trans h.blk
  have hk : ∀ k, k ≠ hb → (w1.setCell ⟨hb, 1, none⟩ vi').heap[k]? = w1.heap[k]? := fun k hk => Below.heap_setCell w1 ⟨hb, 1, none⟩ _ k hk
  have hm : mb ≠ hb := fun e => by
    obtain ⟨D, ⟨es, clock, hm, _⟩, _⟩ := h.map
    rw [e, h.blk] at hm; cases hm
  have nm : some mb ≠ vi.ownBlock := fun e => by
    obtain ⟨cells, hc⟩ := own_typed (Kd.R_own h.ids).choose_spec mb e.symm
    obtain ⟨D, ⟨es, clock, hm, _⟩, _⟩ := h.map
    rw [hc] at hm; cases hm
  have hfr : ki.R 3 w1 base O vf F := by
    refine Kd.R_mono (ok := fun k => O k ∧ vf.ownBlock = some k) ?_ fun k hk => hk.1
    refine Kd.R_step ⟨fun k hk => ⟨h.free.1 k hk, hk⟩, h.free.2⟩ fun k ho hl => hg.block k hl (fun e => h.apart k e.symm ho.2)
  have hrow : ∀ e ∈ E, kb.R 5 w1 base O (rv e.id) e.row := fun e he => by
    refine Kd.R_mono (ok := fun k => O k ∧ k ≠ 0 ∨ O k) ?_ fun k hk => hk.elim And.left id
    refine Kd.R_step (Kd.R_mono (Kd.R_bound (h.row e he)) (ok' := fun k => O k ∧ ∃ cells, w.heap[k]? = some (.cells cells 5 (0, 0))) fun k hk => ⟨hk.1, ?_⟩) (fun k ho hl => hg.block k hl (fun e => ?_)) |> fun r => Kd.R_mono r (fun k hk => .inr hk.1)
    · obtain ⟨_, _, _, q, hq, cells, hc⟩ := hk
      have : q = 5 := by simpa [Kd.int, Kd.scalar] using hq
      subst this; exact ⟨cells, hc⟩
    · obtain ⟨cells, hc⟩ := own_typed (Kd.R_own h.ids).choose_spec k e.symm
      obtain ⟨_, cells', hc'⟩ := ho
      rw [hc] at hc'; injection hc' with hc'; injection hc' with _ hc'; cases hc'
  have e1' := (heap_setCell_same w1 hb 1 _ 57 vi' e1).trans (show some _ = some (Obj.cells #[.map (some mb), vi', vf, .int .i64 ed, .int .i64 la] 57 (0, 0)) from rfl)
  refine ⟨e1', h.map.blk ((hk mb hm).trans (hg.block mb h.map.lt nm)), ⟨h.own.1, hO _ h.own.2.1, h.own.2.2.1, hO _ h.own.2.2.2⟩, Kd.R_set hr e1 (fun q hq => ?_) 1 _, Kd.R_mono (Kd.R_set hfr e1 (fun q hq => ?_) 1 _) hO, fun k hk hk2 => ?_, fun e he => ⟨(hk _ fun e' => ?_).trans ((hg.block _ (blk_lt (h.cell e he).1) fun e' => ?_).trans (h.cell e he).1), (h.cell e he).2.1, hO _ (h.cell e he).2.2⟩, h.cinj, fun e he => Kd.R_mono (Kd.R_set (hrow e he) e1 (fun q hq => ?_) 1 _) hO⟩
  · have : q = 3 := by simpa [Kd.int, Kd.scalar] using hq
    omega
  · have : q = 3 := by simpa [Kd.int, Kd.scalar] using hq
    omega
  · rcases hv with hv | ⟨b, hv, hb'⟩
    · rw [hv] at hk; exact h.apart k hk hk2
    · rw [hv] at hk
      injection hk with hk
      obtain ⟨cells, hc⟩ := own_typed (Kd.R_own h.free).choose_spec k hk2
      have := blk_lt hc
      omega
  · have := (h.cell e he).1; rw [e'] at this; exact ty_ne h.blk this (by decide)
  · exact Kd.R_ne h.ids (h.cell e he).1 (by decide) e'
  · have : q = 5 := by simpa [Kd.int, Kd.scalar] using hq
    omega
end Go.Proofs.Ytgbjilcfgpbcgaa
