import Derived.Test.YtgbjilcfgpbcgaaZpSh
import Derived.Test.YtgbjilcfgpbcgaaZpWMore
import Derived.Test.YtgbjilcfgpbcgaaZpWKept
import Derived.Test.YtgbjilcfgpbcgaaZpWTab
import Derived.Test.YtgbjilcfgpbcgaaZpWN
import Derived.Deep.DeepCutAuto
import Derived.Deep.CutBlock
import Derived.Deep.RegionHeld3
import Derived.LoopTactic
import Derived.Lib.Hide
import Derived.RegionTactic
import Derived.ChangeAlike
import Derived.Outline
/- Layer 8: the library's BinarySearch, Delete and Insert on a row of whole numbers that one owns; bytes.Clone. -/
namespace Go.Proofs.Ytgbjilcfgpbcgaa
open Go.RowKit Go.Proofs.YtgbjilcfgpbcgaaW.PrintWords Go.Proofs.YtgbjilcfgpbcgaaW.PrintLast Go.Proofs.YtgbjilcfgpbcgaaW.PrintMore
set_option linter.unusedSimpArgs false
set_option linter.unusedVariables false
abbrev ki : Kd Int := Kd.int .i64
abbrev kb : Kd Int := Kd.int .u8
abbrev ints (xs : List Int) : List Value := encs (Value.int .i64) xs
theorem row_of {w : World} {base : Nat} {ok : Nat → Prop} {v : Value} {xs : List Int} (h : ki.R 3 w base ok v xs) :
    (v = .slice none 0 0 ∧ xs = []) ∨ ∃ g cap cur, v = .slice (some ⟨g, 0, none⟩) xs.length cap ∧ ok g ∧ base ≤ g ∧ w.heap[g]? = some (.cells cur 3 (0, 0)) ∧ xs.length ≤ cap ∧ cap ≤ maxLen ∧ cur.size = cap ∧ cur.toList.take xs.length = ints xs := by
  have ho := Kd.own_of_R h
  rcases ho.2 with ⟨hv, h0⟩ | ⟨g, cap, cur, hv, h1, h2, h3, h4, h5, h6⟩
  · exact .inl ⟨hv, List.length_eq_zero_iff.1 h0⟩
  · refine .inr ⟨g, cap, cur, hv, h.1 g (by rw [hv]; simp [Value.ownBlock]), h1, h2, h3, h4, by simpa using h5, by simpa using h6⟩
theorem row_mk {w : World} {base g cap : Nat} {ok : Nat → Prop} {cur : Array Value} {xs : List Int} (h1 : ok g) (h2 : base ≤ g) (h3 : w.heap[g]? = some (.cells cur 3 (0, 0))) (h4 : xs.length ≤ cap) (h5 : cap ≤ maxLen) (h6 : cur.size = cap) (h7 : cur.toList.take xs.length = ints xs) :
    ki.R 3 w base ok (.slice (some ⟨g, 0, none⟩) xs.length cap) xs :=
  Kd.R_of_own ⟨by rw [encs_length]; simp, .inr ⟨g, cap, cur, rfl, h2, h3, h4, h5, by simpa using h6, by simpa using h7⟩⟩ (fun k hk => by
    have : g = k := by simpa [Value.ownBlock] using hk
    subst this; exact h1)
theorem row_cell {w : World} {g : Nat} {cur : Array Value} {xs : List Int} (h3 : w.heap[g]? = some (.cells cur 3 (0, 0))) (h7 : cur.toList.take xs.length = ints xs) (j : Nat) (hj : j < xs.length) : w.cell? ⟨g, 0 + j, none⟩ = some (.int .i64 (xs.getD j 0)) := by
  rw [Nat.zero_add, blk_cell h3 j, ← Array.getElem?_toList]
  have : (cur.toList.take xs.length)[j]? = (ints xs)[j]? := by rw [h7]
  rw [List.getElem?_take, if_pos hj] at this
  rw [this]
  simp [encs, List.getD, hj]
theorem heap_drewN (w : World) (q : Nat) : (w.drewN q).heap = w.heap := rfl
theorem search_calls (v : Value) (xs : List Int) (x : Int) (w : World) (base : Nat) (ok : Nat → Prop) (h : ki.R 3 w base ok v xs) (hs : xs.Pairwise (· ≤ ·)) (hl : xs.length < 4611686018427387904) :
    Calls Try.prog 28 #[v, .int .i64 x] w fun e w' => e = .returned (.tuple #[.int .i64 (xs.countP (· < x) : Nat), .bool (xs.contains x)]) ∧ ∃ q, w' = w.drewN q := by
  rcases row_of h with ⟨rfl, rfl⟩ | ⟨g, cap, cur, rfl, h1, h2, h3, h4, h5, h6, h7⟩
  · refine (slices_BinarySearch_int_empty none 0 x w).mono fun e w' hp => ?_
    obtain ⟨rfl, rfl⟩ := hp
    exact ⟨rfl, 0, rfl⟩
  · have := slices_BinarySearch_int g 0 xs.length cap xs x w (Nat.le_refl _) hl (row_cell h3 h7) (by rw [List.take_length]; exact hs)
    rw [List.take_length] at this
    exact this
theorem grown_set {w : World} {g q : Nat} {o : Nat} {vs : List Value} : w.grownBy ((w.drewN q).setCells g o vs) (some g) := by
  obtain ⟨a, b, c, d⟩ := setCells_same g vs o (w.drewN q)
  refine ⟨a, b, c, by rw [d, heap_drewN]; exact Nat.le_refl _, fun k hk hne => ?_⟩
  rw [setCells_far vs o k (fun e => hne (by rw [e])), heap_drewN]
theorem delete_calls (v : Value) (xs : List Int) (i j : Nat) (w : World) (base : Nat) (ok : Nat → Prop) (h : ki.R 3 w base ok v xs) (hij : i ≤ j) (hj : j ≤ xs.length) :
    Calls Try.prog 29 #[v, .int .i64 i, .int .i64 j] w fun e w' => ∃ v', e = .returned v' ∧ ki.R 3 w' base ok v' (xs.take i ++ xs.drop j) ∧ v'.ownBlock = v.ownBlock ∧ w.grownBy w' v.ownBlock := by
  rcases row_of h with ⟨rfl, rfl⟩ | ⟨g, cap, cur, rfl, h1, h2, h3, h4, h5, h6, h7⟩
  · have hj0 : j = 0 := by simpa using hj
    subst hj0
    have hi0 : i = 0 := by omega
    subst hi0
    refine (slices_Delete_int_empty none 0 w).mono fun e w' hp => ?_
    obtain ⟨rfl, rfl⟩ := hp
    exact ⟨_, rfl, Kd.R_nil _ _ _ _ _, rfl, ⟨rfl, rfl, rfl, Nat.le_refl _, fun _ _ _ => rfl⟩⟩
  · have hm : cap ≤ 9223372036854775807 := by have : maxLen ≤ 9223372036854775807 := by decide
                                              omega
    refine (slices_Delete_int_cells g 0 xs.length cap i j xs w (Nat.le_refl _) h4 hm hij hj (row_cell h3 h7) (fun k _ => frozen_of_row w g (0 + k) cur 3 h3)).mono fun e w' hp => ?_
    obtain ⟨rfl, q, rfl⟩ := hp
    rw [List.take_length]
    have hlen : (xs.take i ++ xs.drop j).length = xs.length - (j - i) := by rw [List.length_append, List.length_take, List.length_drop]; omega
    have h3' : (w.drewN q).heap[g]? = some (.cells cur 3 (0, 0)) := by rw [heap_drewN]; exact h3
    obtain ⟨cur', k1, k2, k3⟩ := setCells_row ((xs.take i ++ xs.drop j ++ List.replicate (j - i) 0).map (Value.int .i64)) 0 (w.drewN q) cur h3' (by simp only [List.length_map, List.length_append, List.length_replicate]; rw [← List.length_append, hlen]; omega)
    refine ⟨_, rfl, ?_, rfl, grown_set⟩
    rw [← hlen]
    refine row_mk h1 h2 k1 (by omega) h5 (by rw [k2, h6]) ?_
    rw [k3, List.take_zero, List.nil_append, List.map_append, List.append_assoc, List.take_append_of_le_length (by simp), List.take_of_length_le (by simp)]
    rfl
/-- One number more, at its place. -/
def insAt {α : Type} (xs : List α) (i : Nat) (x : α) : List α := xs.take i ++ x :: xs.drop i
theorem insAt_length {α : Type} (xs : List α) (i : Nat) (x : α) (hi : i ≤ xs.length) : (insAt xs i x).length = xs.length + 1 := by
  unfold insAt; rw [List.length_append, List.length_cons, List.length_take, List.length_drop]; omega
theorem grown_fresh {w w1 : World} {o : Obj} {vs us : List Value} {a b : Nat} {row : Option Nat} (h : w1 = ((w.alloc o).drew.setCells w.heap.size a vs).drew.setCells w.heap.size b us) : w.grownBy w1 row := by
  subst h
  obtain ⟨a1, b1, c1, d1⟩ := setCells_same w.heap.size us b (((w.alloc o).drew.setCells w.heap.size a vs).drew)
  obtain ⟨a2, b2, c2, d2⟩ := setCells_same w.heap.size vs a ((w.alloc o).drew)
  refine ⟨a1.trans a2, b1.trans b2, c1.trans c2, ?_, fun k hk _ => ?_⟩
  · rw [d1]
    show w.heap.size ≤ ((w.alloc o).drew.setCells w.heap.size a vs).heap.size
    rw [d2]
    show w.heap.size ≤ (w.alloc o).heap.size
    simp
  · rw [setCells_far us b k (by omega)]
    show ((w.alloc o).drew.setCells w.heap.size a vs).heap[k]? = _
    rw [setCells_far vs a k (by omega)]
    exact Below.heap_alloc w o k hk
theorem take_ints (ys : List Int) (zs : List Value) : (ints ys ++ zs).take ys.length = ints ys := by
  rw [List.take_append_of_le_length (by rw [encs_length]; exact Nat.le_refl _), List.take_of_length_le (by rw [encs_length]; exact Nat.le_refl _)]
theorem zsize (k : Nat) : (Builtin.zeroCells (Value.int .i64 0).cells k).size = k := by
  rw [size_zeroCells]; exact Nat.mul_one k
set_option maxHeartbeats 1000000 in
theorem insert_calls (v : Value) (xs : List Int) (i vb : Nat) (x : Int) (w : World) (base : Nat) (ok : Nat → Prop) (h : ki.R 3 w base ok v xs) (hi : i ≤ xs.length) (hb : base ≤ w.heap.size) (hvb : w.heap[vb]? = some (.cells #[.int .i64 x] 3 (0, 0))) (hne : v.ownBlock ≠ some vb) (hl : (xs.length + 1) * 8 ≤ 140737488355328) :
    Calls Try.prog 30 #[v, .int .i64 i, .slice (some ⟨vb, 0, none⟩) 1 1] w fun e w' => ∃ v', e = .returned v' ∧ ki.R 3 w' base (fun k => ok k ∨ w.heap.size ≤ k) v' (insAt xs i x) ∧ w.grownBy w' v.ownBlock ∧ (v'.ownBlock = v.ownBlock ∨ ∃ b, v'.ownBlock = some b ∧ w.heap.size ≤ b) := by
  have hmx : maxLen ≤ 9223372036854775807 := by decide
  have hbig : 140737488355328 ≤ maxLen := by decide
  have hvs : ∀ j u, ([Value.int .i64 x] : List Value)[j]? = some u → w.cell? ⟨vb, 0 + j, none⟩ = some u := fun j u hu => by
    rw [Nat.zero_add, blk_cell hvb j, ← Array.getElem?_toList]; exact hu
  have h1v : ∀ u ∈ ([Value.int .i64 x] : List Value), u.oneCell' = true := fun u hu => by
    obtain rfl := List.mem_singleton.1 hu; rfl
  rcases row_of h with ⟨rfl, rfl⟩ | ⟨g, cap, cur, rfl, h1, h2, h3, h4, h5, h6, h7⟩
  · have hi0 : i = 0 := by simpa using hi
    subst hi0
    refine (Any2.slices_Insert_int_end_grow laysNm221 none 0 0 vb 0 1 1 [] [.int .i64 x] w (by omega) (by omega) (by omega) (by omega) rfl rfl (fun _ => rfl) (fun a ha => by cases ha) hvs h1v).mono fun e w' hp => ?_
    obtain ⟨rfl, rfl⟩ := hp
    have hG := grownCap_ge w (0 + 1) 0 (laysNm221_ren.t 3)
    have hG2 := grownCap_le_maxLen w (0 + 1) 0 (laysNm221_ren.t 3) (by omega)
    generalize grownCap w (0 + 1) 0 (laysNm221_ren.t 3) = G at hG hG2
    have hx : w.drew.heap.size = w.heap.size := rfl
    refine ⟨_, rfl, ?_, ⟨rfl, rfl, rfl, by simp, fun k hk _ => Below.heap_alloc w.drew _ k hk⟩, .inr ⟨_, rfl, Nat.le_refl _⟩⟩
    refine row_mk (xs := [x]) (.inr (Nat.le_refl _)) hb (heap_alloc_new w.drew _) hG hG2 ?_ ?_
    · rw [Array.size_append, zsize]
      show 1 + (G - (0 + 1)) = G
      omega
    · rw [Array.toList_append]
      exact take_ints [x] _
  · have hc := row_cell h3 h7
    have hcs : ∀ j u, (ints xs)[j]? = some u → w.cell? ⟨g, 0 + j, none⟩ = some u := fun j u hu => by
      obtain ⟨hj, hu'⟩ := List.getElem?_eq_some_iff.1 hu
      rw [encs_length] at hj
      rw [hc j hj, ← hu']
      simp [encs, List.getD, hj]
    have hvg : vb ≠ g := fun e => hne (by rw [e]; rfl)
    have hsz : ∀ j, j < cap → (w.cell? ⟨g, 0 + j, none⟩).isSome = true := fun j hj => by
      rw [Nat.zero_add, blk_cell h3 j, Array.getElem?_eq_getElem (by omega)]; rfl
    have hfz : ∀ j, w.frozen? ⟨g, 0 + j, none⟩ = false := fun j => frozen_of_row w g (0 + j) cur 3 h3
    have hil : (insAt xs i x).length = xs.length + 1 := insAt_length xs i x hi
    have hsplit : ints (insAt xs i x) = ints (xs.take i) ++ ([Value.int .i64 x] ++ ints (xs.drop i)) := by
      unfold insAt; rw [ints, encs_append]; rfl
    have hcur : cur.toList = ints xs ++ cur.toList.drop xs.length := by rw [← h7, List.take_append_drop]
    by_cases hroom : xs.length + 1 ≤ cap
    · by_cases hin : i < xs.length
      · refine (Any2.slices_Insert_int_shift laysNm221 g 0 xs.length cap i vb 0 1 1 (ints xs) [.int .i64 x] w hin (by omega) hroom (by omega) hvg (encs_length xs) rfl hcs (fun j hj => hsz j (by omega)) (fun j _ => hfz j) hvs (fun u hu => ?_) h1v 3 3 1 cur.size ?_ ?_ (by omega) ?_ ?_).mono fun e w' hp => ?_
        · obtain ⟨y, _, rfl⟩ := List.mem_map.1 hu; rfl
        · simp [World.shape?, hvb]
        · simp [World.shape?, h3]
        · simp [World.frozen?, hvb]
        · simp [World.frozen?, hvb]
        obtain ⟨rfl, rfl⟩ := hp
        have h3' : w.drew.heap[g]? = some (.cells cur 3 (0, 0)) := h3
        obtain ⟨cu1, k1, k2, k3⟩ := setCells_row ((ints xs).drop i) (0 + (i + 1)) w.drew cur h3' (by rw [List.length_drop, encs_length]; omega)
        obtain ⟨cu2, m1, m2, m3⟩ := setCells_row [Value.int .i64 x] (0 + i) (w.drew.setCells g (0 + (i + 1)) ((ints xs).drop i)) cu1 k1 (by show 0 + i + 1 ≤ _; omega)
        obtain ⟨a1, b1, c1, d1⟩ := setCells_same g [Value.int .i64 x] (0 + i) (w.drew.setCells g (0 + (i + 1)) ((ints xs).drop i))
        obtain ⟨a2, b2, c2, d2⟩ := setCells_same g ((ints xs).drop i) (0 + (i + 1)) w.drew
        refine ⟨_, rfl, ?_, ⟨a1.trans a2, b1.trans b2, c1.trans c2, by rw [d1, d2]; exact Nat.le_refl _, fun k hk hn => ?_⟩, .inl rfl⟩
        · rw [← hil]
          refine row_mk (.inl h1) h2 m1 (by omega) h5 (by rw [m2, k2, h6]) ?_
          have e : cu2.toList = ints (insAt xs i x) ++ cu1.toList.drop (xs.length + 1) := by
            rw [m3, k3, hsplit, Nat.zero_add, Nat.zero_add]
            have l1 : (cur.toList.take (i + 1)).length = i + 1 := by rw [List.length_take, Array.length_toList]; omega
            have l2 : ((ints xs).drop i).length = xs.length - i := by rw [List.length_drop, encs_length]
            have e1 : (cur.toList.take (i + 1) ++ (ints xs).drop i ++ cur.toList.drop (i + 1 + ((ints xs).drop i).length)).take i = ints (xs.take i) := by
              rw [List.append_assoc, List.take_append_of_le_length (by omega), List.take_take, Nat.min_eq_left (by omega), hcur, List.take_append_of_le_length (by rw [encs_length]; omega)]
              simp [encs]
            have e2 : ∀ X : List Value, (cur.toList.take (i + 1) ++ (ints xs).drop i ++ X).drop (i + [Value.int .i64 x].length) = (ints xs).drop i ++ X := by
              intro X
              rw [List.append_assoc, List.drop_append_of_le_length (by rw [l1]; exact Nat.le_refl _), List.drop_of_length_le (by rw [l1]; exact Nat.le_refl _), List.nil_append]
            rw [e1, e2]
            have e3 : ints (xs.drop i) = (ints xs).drop i := by simp [encs]
            have e4 : (cur.toList.take (i + 1) ++ (ints xs).drop i ++ cur.toList.drop (i + 1 + ((ints xs).drop i).length)).drop (xs.length + 1) = cur.toList.drop (i + 1 + ((ints xs).drop i).length) := by
              rw [List.drop_append_of_le_length (by rw [List.length_append, l1, l2]; omega), List.drop_of_length_le (by rw [List.length_append, l1, l2]; omega), List.nil_append]
            rw [e4, e3]
            simp only [List.append_assoc]
          rw [e]
          exact take_ints _ _
        · have hkg : k ≠ g := fun e => hn (by rw [e]; rfl)
          rw [setCells_far _ _ k hkg, setCells_far _ _ k hkg]; rfl
      · obtain rfl : i = xs.length := by omega
        refine (Any2.slices_Insert_int_end_room laysNm221 g 0 xs.length cap vb 0 1 1 [.int .i64 x] w (by omega) hroom (by omega) rfl (fun j hj => by rw [Nat.add_assoc]; exact hsz _ (by omega)) (fun j _ => by rw [Nat.add_assoc]; exact hfz _) hvs h1v).mono fun e w' hp => ?_
        obtain ⟨rfl, rfl⟩ := hp
        obtain ⟨cu1, k1, k2, k3⟩ := setCells_row [Value.int .i64 x] (0 + xs.length) w cur h3 (by show 0 + xs.length + 1 ≤ _; omega)
        refine ⟨_, rfl, ?_, grown_set (q := 0), .inl rfl⟩
        rw [← hil]
        refine row_mk (.inl h1) h2 k1 (by omega) h5 (by rw [k2, h6]) ?_
        rw [k3, hsplit, Nat.zero_add, h7, hil]
        simp only [List.take_length, List.drop_length]
        have := take_ints (xs ++ [x]) (cur.toList.drop (xs.length + [Value.int .i64 x].length))
        rw [List.length_append] at this
        have e1 : ints (xs ++ [x]) = ints xs ++ [Value.int .i64 x] := encs_append xs [x]
        rw [e1] at this
        exact this.trans (by simp [encs])
    · have hcn : cap = xs.length := by omega
      by_cases hin : i < xs.length
      · refine (Any2.slices_Insert_int_grow laysNm221 g 0 xs.length cap i vb 0 1 1 (ints xs) [.int .i64 x] w hin (by omega) h4 (by omega) hl (encs_length xs) rfl hcs hvs (fun u hu => ?_) h1v).mono fun e w' hp => ?_
        · obtain ⟨y, _, rfl⟩ := List.mem_map.1 hu; rfl
        obtain ⟨rfl, hw'⟩ := hp
        have hG := grownCap_ge w (xs.length + 1) cap (laysNm221_ren.t 3)
        have hG2 := grownCap_le_maxLen w (xs.length + 1) cap (laysNm221_ren.t 3) (by omega)
        generalize grownCap w (xs.length + 1) cap (laysNm221_ren.t 3) = G at hG hG2 hw'
        refine ⟨_, rfl, ?_, grown_fresh hw', .inr ⟨_, rfl, Nat.le_refl _⟩⟩
        have l0 : (((ints xs).take i).toArray ++ Builtin.zeroCells (Value.int .i64 0).cells (xs.length + 1 - i) ++ Builtin.zeroCells (Value.int .i64 0).cells (G - (xs.length + 1))).size = G := by
          rw [Array.size_append, Array.size_append, zsize, zsize, List.size_toArray, List.length_take, encs_length]; omega
        have l1 : ((ints xs).take i).length = i := by rw [List.length_take, encs_length]; omega
        obtain ⟨cu1, k1, k2, k3⟩ := setCells_row [Value.int .i64 x] i ((w.alloc (.cells (((ints xs).take i).toArray ++ Builtin.zeroCells (Value.int .i64 0).cells (xs.length + 1 - i) ++ Builtin.zeroCells (Value.int .i64 0).cells (G - (xs.length + 1))) 3)).drew) (g := w.heap.size) _ (heap_alloc_new w _) (by rw [l0]; show i + 1 ≤ G; omega)
        obtain ⟨cu2, m1, m2, m3⟩ := setCells_row ((ints xs).drop i) (i + 1) _ cu1 (show (((w.alloc (.cells (((ints xs).take i).toArray ++ Builtin.zeroCells (Value.int .i64 0).cells (xs.length + 1 - i) ++ Builtin.zeroCells (Value.int .i64 0).cells (G - (xs.length + 1))) 3)).drew.setCells w.heap.size i [Value.int .i64 x]).drew).heap[w.heap.size]? = _ from k1) (by rw [k2, l0, List.length_drop, encs_length]; omega)
        subst hw'
        have e3 : ints (xs.drop i) = (ints xs).drop i := by simp [encs]
        have e4 : ints (xs.take i) = (ints xs).take i := by simp [encs]
        have e1 : (((ints xs).take i).toArray ++ Builtin.zeroCells (Value.int .i64 0).cells (xs.length + 1 - i) ++ Builtin.zeroCells (Value.int .i64 0).cells (G - (xs.length + 1))).toList.take i = (ints xs).take i := by
          rw [Array.toList_append, Array.toList_append, List.append_assoc, List.take_append_of_le_length (by show i ≤ ((ints xs).take i).length; omega)]
          exact List.take_of_length_le (Nat.le_of_eq l1)
        rw [e1] at k3
        have e2 : cu1.toList.take (i + 1) = (ints xs).take i ++ [Value.int .i64 x] := by
          rw [k3, List.take_append_of_le_length (by rw [List.length_append, l1]; exact Nat.le_refl _), List.take_of_length_le (by rw [List.length_append, l1]; exact Nat.le_refl _)]
        rw [e2] at m3
        have e5 : cu2.toList = ints (insAt xs i x) ++ cu1.toList.drop (i + 1 + ((ints xs).drop i).length) := by
          rw [m3, hsplit, e3, e4]; simp only [List.append_assoc]
        have hrow := row_mk (base := base) (ok := fun k => ok k ∨ w.heap.size ≤ k) (xs := insAt xs i x) (cap := G) (.inr (Nat.le_refl _)) hb m1 (by omega) hG2 (by rw [m2, k2, l0]) (by rw [e5]; exact take_ints _ _)
        rw [hil] at hrow
        exact hrow
      · obtain rfl : i = xs.length := by omega
        refine (Any2.slices_Insert_int_end_grow laysNm221 (some ⟨g, 0, none⟩) xs.length cap vb 0 1 1 (ints xs) [.int .i64 x] w (by omega) h4 (by omega) hl (encs_length xs) rfl (fun h => by cases h) (fun a ha j u hu => by
          cases ha
          have := hcs j u hu
          rw [Nat.zero_add] at this
          have e : (⟨g, 0, none⟩ : Addr).add j = ⟨g, j, none⟩ := by
            unfold Addr.add; split
            · rename_i h0; subst h0; rfl
            · simp
          rw [e]; exact this) hvs h1v).mono fun e w' hp => ?_
        obtain ⟨rfl, rfl⟩ := hp
        have hG := grownCap_ge w (xs.length + 1) cap (laysNm221_ren.t 3)
        have hG2 := grownCap_le_maxLen w (xs.length + 1) cap (laysNm221_ren.t 3) (by omega)
        generalize grownCap w (xs.length + 1) cap (laysNm221_ren.t 3) = G at hG hG2
        refine ⟨_, rfl, ?_, ⟨rfl, rfl, rfl, by simp, fun k hk _ => Below.heap_alloc w.drew _ k hk⟩, .inr ⟨_, rfl, Nat.le_refl _⟩⟩
        have hrow := row_mk (base := base) (ok := fun k => ok k ∨ w.heap.size ≤ k) (xs := insAt xs xs.length x) (cap := G) (.inr (Nat.le_refl _)) hb (heap_alloc_new w.drew (.cells ((ints xs ++ [Value.int .i64 x]).toArray ++ Builtin.zeroCells (Value.int .i64 0).cells (G - (xs.length + 1))) 3)) (by omega) hG2 (by
          rw [Array.size_append, zsize, List.size_toArray, List.length_append, encs_length]
          show xs.length + 1 + (G - (xs.length + 1)) = G
          omega) (by
          rw [Array.toList_append]
          have e : (ints xs ++ [Value.int .i64 x]).toArray.toList = ints (insAt xs xs.length x) := by
            rw [hsplit, List.take_length, List.drop_length]; simp [encs]
          rw [e]; exact take_ints _ _)
        rw [hil] at hrow
        exact hrow
end Go.Proofs.Ytgbjilcfgpbcgaa
