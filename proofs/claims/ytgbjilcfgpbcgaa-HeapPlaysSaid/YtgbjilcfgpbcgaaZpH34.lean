import Derived.Test.YtgbjilcfgpbcgaaZpH33
/- Layer 8: the two heaps and the call's own blocks: each call in one word. -/
namespace Go.Proofs.Ytgbjilcfgpbcgaa
open Go.RowKit Go.Proofs.YtgbjilcfgpbcgaaW.PrintWords Go.Proofs.YtgbjilcfgpbcgaaW.PrintLast Go.Proofs.YtgbjilcfgpbcgaaW.PrintMore
set_option linter.unusedSimpArgs false
set_option linter.unusedVariables false
/-- Two heaps (not always of one state), the script's call, and 'in'. -/
structure M8 (B : Nat) (w : World) (hb : Nat) (S : St) (N : Int) (O : Nat → Prop) (g : Nat) (sl : List S51) (la : Int) (O2 : Nat → Prop) (go : Nat) (cs : Array Value) (v : Value) (xs : List Int) : Prop where
  h : H8 B w hb S N O
  r : R8 B w g sl la O2
  dis : ∀ k, O k → ¬ O2 k
  env : Env B w go cs O O2 v xs
theorem M8.below {B : Nat} {w w' : World} {hb : Nat} {S : St} {N : Int} {O : Nat → Prop} {g : Nat} {sl : List S51} {la : Int} {O2 : Nat → Prop} {go : Nat} {cs : Array Value} {v : Value} {xs : List Int} (h : M8 B w hb S N O g sl la O2 go cs v xs) (hk : Below w.heap.size w w') : M8 B w' hb S N O g sl la O2 go cs v xs := ⟨h.h.below hk, h.r.below hk, h.dis, h.env.below hk⟩
theorem M8.nx {B : Nat} {w w' : World} {hb : Nat} {S S' : St} {N N' : Int} {O O' : Nat → Prop} {g : Nat} {sl : List S51} {la : Int} {O2 : Nat → Prop} {go : Nat} {cs : Array Value} {v : Value} {xs : List Int} (h : M8 B w hb S N O g sl la O2 go cs v xs) (hn : Nx B w hb O S' N' w' O') : M8 B w' hb S' N' O' g sl la O2 go cs v xs := by
  obtain ⟨h1, h2⟩ := side_h (S := S) (N := N) h.r h.dis hn
  exact ⟨hn.heap, h1, h2, h.env.step hn.fr.kept (fun k hk => .inl hk) hn.old fun k _ hk => hk⟩
theorem M8.nr {B : Nat} {w w' : World} {hb : Nat} {S : St} {N : Int} {O : Nat → Prop} {g : Nat} {sl sl' : List S51} {la la' : Int} {O2 O2' : Nat → Prop} {go : Nat} {cs : Array Value} {v : Value} {xs : List Int} (h : M8 B w hb S N O g sl la O2 go cs v xs) (hn : Nr B w g O2 sl' la' w' O2') : M8 B w' hb S N O g sl' la' O2' go cs v xs := by
  obtain ⟨h1, h2⟩ := side_r h.h h.dis hn
  exact ⟨h1, hn.heap, h2, h.env.step hn.fr.kept (fun k hk => .inr hk) (fun k _ hk => hk) hn.old⟩
/-- What a call leaves: the same, some blocks more. -/
def Go8 (B : Nat) (w : World) (hb : Nat) (S : St) (N : Int) (g : Nat) (sl : List S51) (la : Int) (go : Nat) (cs : Array Value) (v : Value) (xs : List Int) (w' : World) : Prop := ∃ O O2, M8 B w' hb S N O g sl la O2 go cs v xs ∧ Below B w w'
section
variable {B : Nat} {w : World} {hb : Nat} {S : St} {N : Int} {O : Nat → Prop} {g : Nat} {sl : List S51} {la : Int} {O2 : Nat → Prop} {go : Nat} {cs : Array Value} {A : Option Addr} {n c : Nat} {xs : List Int}
theorem M8.add (h : M8 B w hb S N O g sl la O2 go cs (.slice A n c) xs) (hN : N + 1 ≤ 4000000000000) (hn : n ≤ 140737488355328) :
    Calls Try.prog 9 #[.pointer (some ⟨hb, 0, none⟩), .slice A n c] w fun e w' => e = .returned (.int .i64 (S.last + 1)) ∧ Go8 B w hb (addP S xs) (N + 1) g sl la go cs (.slice A n c) xs w' :=
  (h.h.add hN (Kd.R_mono h.env.row fun k hk => hk.1) hn).mono fun e w' ⟨he, hx⟩ => ⟨he, _, _, h.nx hx, hx.fr.low⟩
theorem M8.drop (h : M8 B w hb S N O g sl la O2 go cs (.slice A n c) xs) (hN : N ≤ 4000000000000) (id : Int) (hid : I64 id) :
    Calls Try.prog 10 #[.pointer (some ⟨hb, 0, none⟩), .int .i64 id] w fun e w' => e = .returned (.bool (findP S id).isSome) ∧ Go8 B w hb (dropP S id) N g sl la go cs (.slice A n c) xs w' :=
  (h.h.drop hN id hid).mono fun e w' ⟨he, hx⟩ => ⟨he, _, _, h.nx hx, hx.fr.low⟩
theorem M8.back (h : M8 B w hb S N O g sl la O2 go cs (.slice A n c) xs) (hN : N ≤ 4000000000000) (id : Int) (hid : I64 id) (hn : n ≤ 140737488355328) :
    Calls Try.prog 16 #[.pointer (some ⟨hb, 0, none⟩), .int .i64 id, .slice A n c] w fun e w' => e = .returned (.bool (backB S id)) ∧ Go8 B w hb (if backB S id = true then layP S id xs else S) (N + 1) g sl la go cs (.slice A n c) xs w' :=
  (h.h.back hN id hid (Kd.R_mono h.env.row fun k hk => hk.1) hn).mono fun e w' ⟨he, hx⟩ => ⟨he, _, _, h.nx hx, hx.fr.low⟩
theorem M8.set (h : M8 B w hb S N O g sl la O2 go cs (.slice A n c) xs) (id : Int) (hid : I64 id) (hn : n ≤ 140737488355328) :
    Calls Try.prog 22 #[.pointer (some ⟨hb, 0, none⟩), .int .i64 id, .slice A n c] w fun e w' => e = .returned (.bool (findP S id).isSome) ∧ Go8 B w hb (setP S id xs) N g sl la go cs (.slice A n c) xs w' :=
  (h.h.set id hid (Kd.R_mono h.env.row fun k hk => hk.1) hn).mono fun e w' ⟨he, hx⟩ => ⟨he, _, _, h.nx hx, hx.fr.low⟩
theorem M8.addR (h : M8 B w hb S N O g sl la O2 go cs (.slice A n c) xs) (hbd : sl.length + 1 ≤ 4000000000000) (hla : 0 ≤ la ∧ la ≤ 4000000000000) {A1 : Option Addr} {n1 c1 : Nat} {ys : List Int} (hl : ys.length = n1) (hc : n1 ≤ c1) (hC : ∀ W, (∀ k, k < B → W.heap[k]? = w.heap[k]?) → kb.C W A1 n1 ys) (hn : n1 ≤ 140737488355328) {j : Nat} (hj : FirstFree sl j) :
    Calls Try.prog 18 #[.pointer (some ⟨g, 0, none⟩), .slice A1 n1 c1] w fun e w' => e = .returned (.int .i64 (la + 1)) ∧ Go8 B w hb S N g (layR sl j ⟨la + 1, ys⟩) (la + 1) go cs (.slice A n c) xs w' :=
  (addR_calls h.r hbd hla A1 n1 c1 ys hl hc (fun W hk => hC W fun k hkb => hk.2 k (Nat.lt_of_lt_of_le hkb h.r.base) fun ho => by have := (h.r.own k ho).1; omega) hn hj).mono fun e w' ⟨he, hx⟩ => ⟨he, _, _, h.nr hx, hx.fr.low⟩
theorem M8.dropR (h : M8 B w hb S N O g sl la O2 go cs (.slice A n c) xs) (hbd : sl.length + 1 ≤ 4000000000000) (id : Int) :
    Calls Try.prog 19 #[.pointer (some ⟨g, 0, none⟩), .int .i64 id] w fun e w' => ∃ r, FindRes sl id r ∧ e = .returned (.bool (decide (r ≥ 0))) ∧ Go8 B w hb S N g (if r ≥ 0 then sl.set r.toNat ⟨0, []⟩ else sl) la go cs (.slice A n c) xs w' :=
  (dropR_calls h.r hbd id).mono fun e w' ⟨r, hr, he, hx⟩ => ⟨r, hr, he, _, _, h.nr hx, hx.fr.low⟩
theorem M8.backR {S0' : St} {N0 : Int} (h : M8 B w hb S N O g sl la O2 go cs (.slice A n c) xs) (hI : Inv N0 S0') (hr : Rel S0' sl) (hls : S0'.last = la) (hbd : sl.length + 1 ≤ 4000000000000) (id : Int) {A1 : Option Addr} {n1 c1 : Nat} {ys : List Int} (hl : ys.length = n1) (hc : n1 ≤ c1) (hC : ∀ W, (∀ k, k < B → W.heap[k]? = w.heap[k]?) → kb.C W A1 n1 ys) (hn : n1 ≤ 140737488355328) {j : Nat} (hj : FirstFree sl j) :
    Calls Try.prog 20 #[.pointer (some ⟨g, 0, none⟩), .int .i64 id, .slice A1 n1 c1] w fun e w' => e = .returned (.bool (backB S0' id)) ∧ Go8 B w hb S N g (if backB S0' id = true then layR sl j ⟨id, ys⟩ else sl) la go cs (.slice A n c) xs w' :=
  (backR_calls h.r hI hr hls hbd id A1 n1 c1 ys hl hc (fun W hk => hC W fun k hkb => hk.block k (Nat.lt_of_lt_of_le hkb h.r.base)) hn hj).mono fun e w' ⟨he, hx⟩ => ⟨he, _, _, h.nr hx, hx.fr.low⟩
theorem M8.behind (h : M8 B w hb S N O g sl la O2 go cs (.slice A n c) xs) (hN : N ≤ 4000000000000) (id : Int) : Calls Try.prog 11 #[.pointer (some ⟨hb, 0, none⟩), .int .i64 id] w fun e w' => e = .returned (.tuple #[.int .i64 ((behP S id).getD 0), .bool (behP S id).isSome]) ∧ Below w.heap.size w w' :=
  (h.h.behind hN id).mono fun e w' ⟨he, hx⟩ => ⟨by rw [behV_eq] at he; exact he, hx⟩
end
/-- 'in' is written. -/
theorem M8.put {B : Nat} {w : World} {hb : Nat} {S : St} {N : Int} {O : Nat → Prop} {g : Nat} {sl : List S51} {la : Int} {O2 : Nat → Prop} {go : Nat} {cs : Array Value} {q n c : Nat} {xs : List Int} (h : M8 B w hb S N O g sl la O2 go cs (.slice (some ⟨q, 0, none⟩) n c) xs) (i : Nat) (x : Int) :
    M8 B (w.setCell ⟨q, i, none⟩ (.int .u8 x)) hb S N O g sl la O2 go cs (.slice (some ⟨q, 0, none⟩) n c) (xs.set i x) := by
  have hq := h.env.row.1 q (by simp [Value.ownBlock])
  have hk : Kept w (w.setCell ⟨q, i, none⟩ (.int .u8 x)) (fun k => k = q) := Kept.setCell (S := fun k => k = q) (p := ⟨q, i, none⟩) (Kept.refl w _) (.inl rfl) _
  obtain ⟨hR, _⟩ := Kd.R_putg h.env.row (i : Int) x
  rw [Int.toNat_natCast] at hR
  have hne : go ≠ q := fun e => Kd.R_ne h.env.row h.env.blk (by decide) (by rw [e]; simp [Value.ownBlock])
  exact ⟨h.h.kept hk fun k ho e => hq.1 (e ▸ ho), h.r.kept hk fun k ho e => hq.2 (e ▸ ho), h.dis, ⟨(hk.2 go (blk_lt h.env.blk) hne).trans h.env.blk, h.env.out, hR⟩⟩
theorem setP_none {S : St} {id : Int} {xs : List Int} (hf : findP S id = none) : setP S id xs = S := by
  have : S.ents.map (reRow id xs) = S.ents := by
    refine (List.map_congr_left fun e he => ?_).trans (List.map_id _)
    unfold reRow
    rw [if_neg]
    · rfl
    · intro e1
      exact find_none hf (e1 ▸ List.mem_map_of_mem he)
  rw [setP_eq, this]
/-- A row of the reference's heap is written. -/
theorem row_fin {B : Nat} {w W : World} {g : Nat} {sl : List S51} {la : Int} {O : Nat → Prop} {b n cap : Nat} (ha : RefAt B O w g sl la (.slice (some ⟨b, 0, none⟩) n cap)) (ho : ∀ k, O k → B ≤ k ∧ k < w.heap.size) (hb : B ≤ w.heap.size) (hbd : sl.length ≤ 4000000000000) (hbw : Below w.heap.size w W) {ys : List Int} {v : Value} (hv : kb.R 5 W w.heap.size (fun _ => True) v ys) (i : Nat) (hi : i < n) :
    Nr B w g O (sl.set i ⟨idA sl i, ys⟩) la (W.setCell ⟨b, i * 2 + 1, none⟩ v) (grow O w (W.setCell ⟨b, i * 2 + 1, none⟩ v)) := by
  have hOb : O b := ha.slots.1 b (by simp [Value.ownBlock])
  have hsl : k51.R 51 W B (fun k => O k ∨ w.heap.size ≤ k) (.slice (some ⟨b, 0, none⟩) n cap) sl := Kd.R_mono (Kd.R_below ha.slots hbw) fun _ h => .inl h
  obtain ⟨hn, hnc, hC⟩ := Kd.R_reads' hsl
  obtain ⟨ad, c, e, hcl, hK, hcc⟩ := Kd.C_get hC Go.Proofs.Ytgbjilcfgpbcgaa.B.z51 (i : Int) (by omega) (by omega)
  injection e with e
  subst e
  rw [Int.toNat_natCast] at hcc hK
  have hcc' : ∀ j u, c[j]? = some u → W.cell? ⟨b, ((i : Int)).toNat * k51.sz + j, none⟩ = some u := fun j u hu => by
    rw [Int.toNat_natCast]
    have := hcc j u hu
    rwa [add_plain] at this
  obtain ⟨A1, c1, hcs, _, _⟩ := Go.Proofs.Ytgbjilcfgpbcgaa.B.k51_open hK
  have hR := Kd.R_seg hsl (i : Int) (by omega) (by omega) (seg := [v]) (j := 1) hcl hcc' (by show 1 + 1 ≤ 2; omega) (x' := ⟨idA sl i, ys⟩) (okp := fun k => w.heap.size ≤ k) (by
    rw [hcs]
    exact slot_M (idA sl i) ys (Kd.R_lower (Kd.R_mono (Kd.R_bound hv) fun k hk => hk.2.1) hb)) fun k hk => ⟨.inr hk, fun e => by have := (ho b hOb).2; omega⟩
  rw [Int.toNat_natCast] at hR
  obtain ⟨h1, h2⟩ := hR
  have h1 : k51.R 51 (W.setCell ⟨b, i * 2 + 1, none⟩ v) B (fun k => O k ∨ w.heap.size ≤ k) (.slice (some ⟨b, 0, none⟩) n cap) (sl.set i ⟨idA sl i, ys⟩) := h1
  have h2 : W.grownBy (W.setCell ⟨b, i * 2 + 1, none⟩ v) (some b) := h2
  have hfr : Fr B O w (W.setCell ⟨b, i * 2 + 1, none⟩ v) := ((Fr.refl B O w).below hbw hb).set (fun k hk => (ho k hk).1) hOb _ _
  have hbk : W.heap[g]? = _ := (hbw.block g (blk_lt ha.blk)).trans ha.blk
  obtain ⟨b', cap', cur, hv', _, hc', _⟩ := slots_form ha.slots (by omega)
  injection hv' with e1 _ _
  injection e1 with e1
  injection e1 with e1 _ _
  subst e1
  have hgb : g ≠ b := fun e => by have := ha.blk; rw [e, hc'] at this; injection this with this; injection this with _ t; exact absurd t (by decide)
  refine ⟨⟨⟨.slice (some ⟨b, 0, none⟩) n cap, ⟨?_, ⟨ha.own.1, .inl ha.own.2⟩, ?_⟩⟩, own_bound ho hb hfr.low.size, Nat.le_trans hb hfr.low.size, by rw [List.length_set]; exact hbd⟩, hfr, old_grow⟩
  · exact (h2.block g (blk_lt hbk) (fun e => by injection e with e; exact hgb e)).trans hbk
  · exact Kd.R_mono (Kd.R_bound h1) fun k hk => hk.1.imp (fun h => h) fun h => ⟨h, hk.2.2.1⟩
end Go.Proofs.Ytgbjilcfgpbcgaa
