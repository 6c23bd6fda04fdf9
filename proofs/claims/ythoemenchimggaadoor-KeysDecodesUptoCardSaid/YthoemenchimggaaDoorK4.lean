/- Package keys' reader: a value. -/
import Derived.Test.YthoemenchimggaaDoorK3
namespace Go.Proofs.YthoemenchimggaaDoor
open Go.RowKit Go.Proofs.YthoemenchimggaaDoorW.PrintWords Go.Proofs.YthoemenchimggaaDoorW.PrintLast Go.Proofs.YthoemenchimggaaDoorW.PrintMore A Fl
set_option linter.unusedVariables false
set_option linter.unusedSimpArgs false
/-- What a value's reading gives: the value and what is left, or an error. -/
inductive ValR where
  | ok (v : S35) (rest : List Int)
  | err (c : Int)
def valB (k : Int) (ys : List Int) : ValR :=
  if k = 0 then .ok ⟨0, 0, ⟨#[]⟩⟩ ys
  else if k = 1 then (match ys with
    | [] => .err 3
    | z :: zs => if z > 1 then .err 2 else .ok ⟨1, z, ⟨#[]⟩⟩ zs)
  else if k = 2 then (if ys.length < 8 then .err 3 else .ok ⟨2, wrap64 (bits .xor .u64 (numU (ys.take 8)) 9223372036854775808), ⟨#[]⟩⟩ (ys.drop 8))
  else if k = 3 then (if ys.length < 8 then .err 3 else if (ordU (disU (numU (ys.take 8))) != numU (ys.take 8)) = true then .err 2 else if (disU (numU (ys.take 8)) != canonI (disU (numU (ys.take 8)))) = true then .err 2 else .ok ⟨3, disU (numU (ys.take 8)), ⟨#[]⟩⟩ (ys.drop 8))
  else if k = 4 then (match textP ys [] with
    | .ok out rest => .ok ⟨4, 0, strOfNums out⟩ rest
    | .err c => .err c)
  else .err 50
def valP : List Int → ValR
  | [] => .err 3
  | y :: ys => valB (y - 1) ys
def ValPost (w0 w : World) (g : Nat) (en : Ending) (w' : World) : ValR → Prop
  | .ok v rest => en = .returned (.agg #[.int .i64 v.f0, .int .i64 v.f1, .string v.f2]) ∧ Rdr w0 w' g rest ∧ Below w0.heap.size w0 w' ∧ KeepBut w w' g none
  | .err c => en = .panicked (trb c) ∧ Below w0.heap.size w0 w' ∧ KeepBut w w' g none
theorem results_one {P : Program} {fn : Func} {p : Tmp} {ty : TypeId} (h : fn.results = #[.cell p ty]) (tmps : Array Value) (w : World) (g : Nat) (t : TypeId) (cs : Array Value) (fr : Nat × Nat) (d : TypeDesc)
    (hp : tmps.getD p undef = .pointer (some ⟨g, 0, none⟩)) (hg : w.heap[g]? = some (.cells cs t fr))
    (hu : P.underlying ty = some d) (hd : (match d with | .struct _ | .array _ _ => true | _ => false) = true) (hi : (P.info? ty).map (·.size) = some cs.size) :
    (results fn tmps).run P w = .ok (.agg cs) w := by
  have hp' : tmps[p]?.getD undef = .pointer (some ⟨g, 0, none⟩) := by simpa using hp
  simp [results, h, hp', asAddr, run_loadVar_row w g t ty cs fr d hg hu hd hi]
abbrev cel (k n : Int) (s : ByteArray) : Obj := .cells #[.int .i64 k, .int .i64 n, .string s] 35 (0, 0)
abbrev put35 (W : World) (gb : Nat) (t n : Int) (s : ByteArray) : World := ((W.setCell ⟨gb, 0, none⟩ (.int .i64 t)).setCell ⟨gb, 1, none⟩ (.int .i64 n)).setCell ⟨gb, 2, none⟩ (.string s)
theorem put_blk {W : World} {gb : Nat} {a b c : Value} (t n : Int) (s : ByteArray) (h : W.heap[gb]? = some (.cells #[a, b, c] 35 (0, 0))) : (put35 W gb t n s).heap[gb]? = some (cel t n s) := by
  have h1 := blk_set h 0 (.int .i64 t)
  have h2 := blk_set h1 1 (.int .i64 n)
  have h3 := blk_set h2 2 (.string s)
  simpa using h3
/-- What a value's reading has in hand: the reader, the result's variable (gr), the value's own (gv). -/
structure Two (w0 w W : World) (g gr gv : Nat) (k n : Int) (s : ByteArray) (rest : List Int) : Prop where
  rdr : Rdr w0 W g rest
  bel : Below w0.heap.size w0 W
  keep : KeepBut w W g none
  br : W.heap[gr]? = some (cel 0 0 ⟨#[]⟩)
  bv : W.heap[gv]? = some (cel k n s)
  lr : w.heap.size ≤ gr
  lv : w.heap.size ≤ gv
  ne : gr ≠ gv
  lg : g < w.heap.size
  l0 : w0.heap.size ≤ w.heap.size
namespace Two
variable {w0 w W W1 : World} {g gr gv : Nat} {k n : Int} {s : ByteArray} {rest rest1 : List Int}
theorem step (h : Two w0 w W g gr gv k n s rest) (hr : Rdr w0 W1 g rest1) (hb : Below w0.heap.size w0 W1) (hk : KeepBut W W1 g none) : Two w0 w W1 g gr gv k n s rest1 :=
  ⟨hr, hb, h.keep.trans hk (.inl rfl), hk.blk h.br (by have := h.lg; have := h.lr; omega) (by simp), hk.blk h.bv (by have := h.lg; have := h.lv; omega) (by simp), h.lr, h.lv, h.ne, h.lg, h.l0⟩
theorem far {j : Nat} {u : Value} (h : Rdr w0 W g rest) (hg : g < gv) : Rdr w0 (W.setCell ⟨gv, j, none⟩ u) g rest := by
  obtain ⟨A0, c0, h1, h2, h3, h4⟩ := h
  exact ⟨A0, c0, h1, blk_far h2 (p := ⟨gv, j, none⟩) (Nat.ne_of_lt hg) _, h3, h4⟩
theorem set1 (h : Two w0 w W g gr gv k n s rest) (m : Int) : Two w0 w (W.setCell ⟨gv, 1, none⟩ (.int .i64 m)) g gr gv k m s rest :=
  ⟨far h.rdr (Nat.lt_of_lt_of_le h.lg h.lv), below_set h.bel (Nat.le_trans h.l0 h.lv), keep_far h.keep (p := ⟨gv, 1, none⟩) h.lv _, blk_far h.br (p := ⟨gv, 1, none⟩) h.ne _, by simpa using blk_set h.bv 1 (.int .i64 m), h.lr, h.lv, h.ne, h.lg, h.l0⟩
theorem set2 (h : Two w0 w W g gr gv k n s rest) (m : ByteArray) : Two w0 w (W.setCell ⟨gv, 2, none⟩ (.string m)) g gr gv k n m rest :=
  ⟨far h.rdr (Nat.lt_of_lt_of_le h.lg h.lv), below_set h.bel (Nat.le_trans h.l0 h.lv), keep_far h.keep (p := ⟨gv, 2, none⟩) h.lv _, blk_far h.br (p := ⟨gv, 2, none⟩) h.ne _, by simpa using blk_set h.bv 2 (.string m), h.lr, h.lv, h.ne, h.lg, h.l0⟩
theorem r (h : Two w0 w W g gr gv k n s rest) : W.cell? ⟨gr, 0, none⟩ = some (.int .i64 0) ∧ W.cell? ⟨gr, 1, none⟩ = some (.int .i64 0) ∧ W.cell? ⟨gr, 2, none⟩ = some (.string (⟨#[]⟩ : ByteArray)) :=
  ⟨(blk_cell h.br 0).trans rfl, (blk_cell h.br 1).trans rfl, (blk_cell h.br 2).trans rfl⟩
theorem v (h : Two w0 w W g gr gv k n s rest) : W.cell? ⟨gv, 0, none⟩ = some (.int .i64 k) ∧ W.cell? ⟨gv, 1, none⟩ = some (.int .i64 n) ∧ W.cell? ⟨gv, 2, none⟩ = some (.string s) :=
  ⟨(blk_cell h.bv 0).trans rfl, (blk_cell h.bv 1).trans rfl, (blk_cell h.bv 2).trans rfl⟩
theorem fr (h : Two w0 w W g gr gv k n s rest) : W.frozen? ⟨gr, 0, none⟩ = false ∧ W.frozen? ⟨gr, 1, none⟩ = false ∧ W.frozen? ⟨gr, 2, none⟩ = false := ⟨blk_frozen h.br 0, blk_frozen h.br 1, blk_frozen h.br 2⟩
theorem fv (h : Two w0 w W g gr gv k n s rest) : W.frozen? ⟨gv, 0, none⟩ = false ∧ W.frozen? ⟨gv, 1, none⟩ = false ∧ W.frozen? ⟨gv, 2, none⟩ = false := ⟨blk_frozen h.bv 0, blk_frozen h.bv 1, blk_frozen h.bv 2⟩
theorem fin (h : Two w0 w W g gr gv k n s rest) : Rdr w0 (put35 W gr k n s) g rest ∧ Below w0.heap.size w0 (put35 W gr k n s) ∧ KeepBut w (put35 W gr k n s) g none :=
  ⟨far (far (far h.rdr (Nat.lt_of_lt_of_le h.lg h.lr)) (Nat.lt_of_lt_of_le h.lg h.lr)) (Nat.lt_of_lt_of_le h.lg h.lr), below_set (below_set (below_set h.bel (Nat.le_trans h.l0 h.lr)) (Nat.le_trans h.l0 h.lr)) (Nat.le_trans h.l0 h.lr),
   keep_far (keep_far (keep_far h.keep (p := ⟨gr, 0, none⟩) h.lr _) (p := ⟨gr, 1, none⟩) h.lr _) (p := ⟨gr, 2, none⟩) h.lr _⟩
theorem drawN (h : Two w0 w W g gr gv k n s rest) (m : Nat) : Two w0 w (W.drewN m) g gr gv k n s rest := ⟨h.rdr, pw_below_drewN h.bel m, h.keep, h.br, h.bv, h.lr, h.lv, h.ne, h.lg, h.l0⟩
end Two
/-- Behind the first byte. -/
theorem two_start {w0 w w1 : World} {g : Nat} {rest : List Int} (k : Int) (hR : Rdr w0 w1 g rest) (hB : Below w0.heap.size w0 w1) (hK : KeepBut (w.alloc (cel 0 0 ⟨#[]⟩)) w1 g none) (hg : g < w.heap.size) (h0 : w0.heap.size ≤ w.heap.size) :
    Two w0 w (w1.alloc (cel k 0 ⟨#[]⟩)) g w.heap.size w1.heap.size k 0 ⟨#[]⟩ rest := by
  have hsz : w.heap.size + 1 ≤ w1.heap.size := by have := hK.1; simpa using this
  have hbr : w1.heap[w.heap.size]? = some (cel 0 0 ⟨#[]⟩) := hK.blk (heap_alloc_new w _) (Nat.ne_of_gt hg) (by simp)
  have hk1 : KeepBut w w1 g none := (KeepBut.of_below (below_alloc (Below.refl _ _) _) g none).trans hK (.inl rfl)
  exact ⟨hR.step (below_alloc (Below.refl _ _) _), below_alloc hB _, keep_alloc hk1 _, blk_alloc hbr _, heap_alloc_new w1 _, Nat.le_refl _, by omega, by omega, hg, h0⟩
set_option maxHeartbeats 4000000 in
set_option maxRecDepth 100000 in
theorem value_null (g : Nat) (ys : List Int) (w0 w : World) (hI : Rdr w0 w g (1 :: ys)) (hB : Below w0.heap.size w0 w) :
    Calls Tryd.prog 30 #[.pointer (some ⟨g, 0, none⟩)] w fun en w' => ValPost w0 w g en w' (.ok ⟨0, 0, ⟨#[]⟩⟩ ys) := by
  have HI := Aside0.mk (hI.step (W1 := w.alloc (cel 0 0 ⟨#[]⟩)) (below_alloc (Below.refl _ _) _))
  have HB := Aside0.mk (below_alloc hB (cel 0 0 ⟨#[]⟩))
  have HG := Aside0.mk hI.lt
  have HS := Aside0.mk hB.size
  clear hI hB
  go_enter Tryd.func30, Tryd.ntmps30
  go_wp2_with fail
  refine (take_ok g (1 :: ys) 1 w0 _ HI.out HB.out (by simp)).mono ?_
  rintro en w1 ⟨A1, c1, rfl, hc1, hC1, hR1, hB1, hK1⟩
  obtain ⟨ad1, rfl, hcell1⟩ := byte_0 hC1
  have hcell1 := (hB1.cell (World.block_lt_of_cell? w0 _ hcell1)).trans hcell1
  rw [List.drop_one, List.tail_cons] at hR1
  have T := Aside0.mk (two_start 0 hR1 hB1 hK1 HG.out HS.out)
  obtain ⟨r0, r1, r2⟩ := T.out.r
  obtain ⟨s0, s1, s2⟩ := T.out.fr
  clear hC1 hR1 hB1 hK1 hc1
  go_wp2
  refine bodyPost_ret (results_one rfl _ _ w.heap.size 35 #[.int .i64 0, .int .i64 0, .string (⟨#[]⟩ : ByteArray)] (0, 0) _ rfl (put_blk 0 0 ⟨#[]⟩ T.out.br) Tryd.underlying35 rfl (by kernel_rfl)) rfl ?_
  obtain ⟨q1, q2, q3⟩ := T.out.fin
  exact ⟨rfl, q1, q2, q3⟩
theorem value_empty (g : Nat) (w0 w : World) (hI : Rdr w0 w g []) (hB : Below w0.heap.size w0 w) :
    Calls Tryd.prog 30 #[.pointer (some ⟨g, 0, none⟩)] w fun en w' => ValPost w0 w g en w' (.err 3) := by
  have HI := Aside0.mk (hI.step (W1 := w.alloc (cel 0 0 ⟨#[]⟩)) (below_alloc (Below.refl _ _) _))
  have HB := Aside0.mk (below_alloc hB (cel 0 0 ⟨#[]⟩))
  clear hI hB
  go_enter Tryd.func30, Tryd.ntmps30
  go_wp2_with fail
  refine (take_no g [] 1 w0 _ HI.out HB.out (by simp)).mono ?_
  rintro en w1 ⟨rfl, rfl⟩
  exact ⟨rfl, rfl, HB.out, KeepBut.of_below (below_alloc (Below.refl _ _) _) g none⟩
set_option maxHeartbeats 4000000 in
set_option maxRecDepth 100000 in
theorem value_bad (g : Nat) (y : Int) (ys : List Int) (w0 w : World) (h0 : 0 ≤ y) (h256 : y < 256) (hk : y - 1 < 0 ∨ 4 < y - 1) (hI : Rdr w0 w g (y :: ys)) (hB : Below w0.heap.size w0 w) :
    Calls Tryd.prog 30 #[.pointer (some ⟨g, 0, none⟩)] w fun en w' => ValPost w0 w g en w' (.err 50) := by
  have b0 : (y - 1 == 0) = false := by simp; omega
  have b1 : (y - 1 == 1) = false := by simp; omega
  have b2 : (y - 1 == 2) = false := by simp; omega
  have b3 : (y - 1 == 3) = false := by simp; omega
  have b4 : (y - 1 == 4) = false := by simp; omega
  have hw0 : wrap64 y = y := IntWalk.wrap64_in _ (by omega)
  have hw1 : wrap64 (y - 1) = y - 1 := IntWalk.wrap64_in _ (by omega)
  clear hk
  have HI := Aside0.mk (hI.step (W1 := w.alloc (cel 0 0 ⟨#[]⟩)) (below_alloc (Below.refl _ _) _))
  have HB := Aside0.mk (below_alloc hB (cel 0 0 ⟨#[]⟩))
  have HG := Aside0.mk hI.lt
  have HS := Aside0.mk hB.size
  clear hI hB
  go_enter Tryd.func30, Tryd.ntmps30
  go_wp2_with fail
  refine (take_ok g (y :: ys) 1 w0 _ HI.out HB.out (by simp)).mono ?_
  rintro en w1 ⟨A1, c1, rfl, hc1, hC1, hR1, hB1, hK1⟩
  obtain ⟨ad1, rfl, hcell1⟩ := byte_0 hC1
  have hcell1 := (hB1.cell (World.block_lt_of_cell? w0 _ hcell1)).trans hcell1
  rw [List.drop_one, List.tail_cons] at hR1
  have T := Aside0.mk (two_start (y - 1) hR1 hB1 hK1 HG.out HS.out)
  obtain ⟨r0, r1, r2⟩ := T.out.r
  obtain ⟨s0, s1, s2⟩ := T.out.fr
  clear hC1 hR1 hB1 hK1 hc1
  go_wp2
  exact ⟨rfl, rfl, T.out.bel, T.out.keep⟩
set_option maxHeartbeats 4000000 in
set_option maxRecDepth 100000 in
theorem value_bool (g : Nat) (ys : List Int) (w0 w : World) (hx : ∀ x ∈ ys, 0 ≤ x ∧ x < 256) (hI : Rdr w0 w g (2 :: ys)) (hB : Below w0.heap.size w0 w) :
    Calls Tryd.prog 30 #[.pointer (some ⟨g, 0, none⟩)] w fun en w' => ValPost w0 w g en w' (valB 1 ys) := by
  unfold valB
  rw [if_neg (by decide), if_pos rfl]
  cases ys with
  | nil =>
    have HI := Aside0.mk (hI.step (W1 := w.alloc (cel 0 0 ⟨#[]⟩)) (below_alloc (Below.refl _ _) _))
    have HB := Aside0.mk (below_alloc hB (cel 0 0 ⟨#[]⟩))
    have HG := Aside0.mk hI.lt
    have HS := Aside0.mk hB.size
    clear hI hB
    go_enter Tryd.func30, Tryd.ntmps30
    go_wp2_with fail
    refine (take_ok g (2 :: []) 1 w0 _ HI.out HB.out (by simp)).mono ?_
    rintro en w1 ⟨A1, c1, rfl, hc1, hC1, hR1, hB1, hK1⟩
    obtain ⟨ad1, rfl, hcell1⟩ := byte_0 hC1
    have hcell1 := (hB1.cell (World.block_lt_of_cell? w0 _ hcell1)).trans hcell1
    rw [List.drop_one, List.tail_cons] at hR1
    have T := Aside0.mk (two_start 1 hR1 hB1 hK1 HG.out HS.out)
    obtain ⟨r0, r1, r2⟩ := T.out.r
    obtain ⟨s0, s1, s2⟩ := T.out.fr
    clear hC1 hR1 hB1 hK1 hc1
    go_wp2_with fail
    refine (take_no g [] 1 w0 _ T.out.rdr T.out.bel (by simp)).mono ?_
    rintro en w2 ⟨rfl, rfl⟩
    exact ⟨rfl, rfl, T.out.bel, T.out.keep⟩
  | cons z zs =>
    have hz := hx z (List.mem_cons_self ..)
    clear hx
    dsimp only
    by_cases hgt : z > 1
    · rw [if_pos hgt]
      have cz : decide (z > 1) = true := decide_eq_true hgt
      clear hgt
      have HI := Aside0.mk (hI.step (W1 := w.alloc (cel 0 0 ⟨#[]⟩)) (below_alloc (Below.refl _ _) _))
      have HB := Aside0.mk (below_alloc hB (cel 0 0 ⟨#[]⟩))
      have HG := Aside0.mk hI.lt
      have HS := Aside0.mk hB.size
      clear hI hB
      go_enter Tryd.func30, Tryd.ntmps30
      go_wp2_with fail
      refine (take_ok g (2 :: (z :: zs)) 1 w0 _ HI.out HB.out (by simp)).mono ?_
      rintro en w1 ⟨A1, c1, rfl, hc1, hC1, hR1, hB1, hK1⟩
      obtain ⟨ad1, rfl, hcell1⟩ := byte_0 hC1
      have hcell1 := (hB1.cell (World.block_lt_of_cell? w0 _ hcell1)).trans hcell1
      rw [List.drop_one, List.tail_cons] at hR1
      have T := Aside0.mk (two_start 1 hR1 hB1 hK1 HG.out HS.out)
      obtain ⟨r0, r1, r2⟩ := T.out.r
      obtain ⟨s0, s1, s2⟩ := T.out.fr
      clear hC1 hR1 hB1 hK1 hc1
      have hw0 : wrap64 z = z := IntWalk.wrap64_in _ (by omega)
      go_wp2_with fail
      refine (take_ok g (z :: zs) 1 w0 _ T.out.rdr T.out.bel (by simp)).mono ?_
      rintro en w2 ⟨A2, c2, rfl, hc2, hC2, hR2, hB2, hK2⟩
      obtain ⟨ad2, rfl, hcell2⟩ := byte_0 hC2
      have hcell2 := (hB2.cell (World.block_lt_of_cell? w0 _ hcell2)).trans hcell2
      rw [List.drop_one, List.tail_cons] at hR2
      have T1 := Aside0.mk (T.out.step hR2 hB2 hK2)
      have T2 := Aside0.mk (T1.out.set1 z)
      clear r0 r1 r2 s0 s1 s2 hC2 hR2 hB2 hK2 hc2
      obtain ⟨v0, v1, v2⟩ := T1.out.v
      obtain ⟨f0, f1, f2⟩ := T1.out.fv
      obtain ⟨r0, r1, r2⟩ := T2.out.r
      obtain ⟨s0, s1, s2⟩ := T2.out.fr
      obtain ⟨u0, u1, u2⟩ := T2.out.v
      go_wp2
      exact ⟨rfl, rfl, T2.out.bel, T2.out.keep⟩
    · rw [if_neg hgt]
      have cz : decide (z > 1) = false := decide_eq_false hgt
      clear hgt
      have HI := Aside0.mk (hI.step (W1 := w.alloc (cel 0 0 ⟨#[]⟩)) (below_alloc (Below.refl _ _) _))
      have HB := Aside0.mk (below_alloc hB (cel 0 0 ⟨#[]⟩))
      have HG := Aside0.mk hI.lt
      have HS := Aside0.mk hB.size
      clear hI hB
      go_enter Tryd.func30, Tryd.ntmps30
      go_wp2_with fail
      refine (take_ok g (2 :: (z :: zs)) 1 w0 _ HI.out HB.out (by simp)).mono ?_
      rintro en w1 ⟨A1, c1, rfl, hc1, hC1, hR1, hB1, hK1⟩
      obtain ⟨ad1, rfl, hcell1⟩ := byte_0 hC1
      have hcell1 := (hB1.cell (World.block_lt_of_cell? w0 _ hcell1)).trans hcell1
      rw [List.drop_one, List.tail_cons] at hR1
      have T := Aside0.mk (two_start 1 hR1 hB1 hK1 HG.out HS.out)
      obtain ⟨r0, r1, r2⟩ := T.out.r
      obtain ⟨s0, s1, s2⟩ := T.out.fr
      clear hC1 hR1 hB1 hK1 hc1
      have hw0 : wrap64 z = z := IntWalk.wrap64_in _ (by omega)
      go_wp2_with fail
      refine (take_ok g (z :: zs) 1 w0 _ T.out.rdr T.out.bel (by simp)).mono ?_
      rintro en w2 ⟨A2, c2, rfl, hc2, hC2, hR2, hB2, hK2⟩
      obtain ⟨ad2, rfl, hcell2⟩ := byte_0 hC2
      have hcell2 := (hB2.cell (World.block_lt_of_cell? w0 _ hcell2)).trans hcell2
      rw [List.drop_one, List.tail_cons] at hR2
      have T1 := Aside0.mk (T.out.step hR2 hB2 hK2)
      have T2 := Aside0.mk (T1.out.set1 z)
      clear r0 r1 r2 s0 s1 s2 hC2 hR2 hB2 hK2 hc2
      obtain ⟨v0, v1, v2⟩ := T1.out.v
      obtain ⟨f0, f1, f2⟩ := T1.out.fv
      obtain ⟨r0, r1, r2⟩ := T2.out.r
      obtain ⟨s0, s1, s2⟩ := T2.out.fr
      obtain ⟨u0, u1, u2⟩ := T2.out.v
      go_wp2
      refine bodyPost_ret (results_one rfl _ _ w.heap.size 35 #[.int .i64 (1), .int .i64 (z), .string ((⟨#[]⟩ : ByteArray))] (0, 0) _ rfl (put_blk (1) (z) ((⟨#[]⟩ : ByteArray)) T2.out.br) Tryd.underlying35 rfl (by kernel_rfl)) rfl ?_
      obtain ⟨q1, q2, q3⟩ := T2.out.fin
      exact ⟨rfl, q1, q2, q3⟩
set_option maxHeartbeats 4000000 in
set_option maxRecDepth 100000 in
theorem value_int (g : Nat) (ys : List Int) (w0 w : World) (hI : Rdr w0 w g (3 :: ys)) (hB : Below w0.heap.size w0 w) :
    Calls Tryd.prog 30 #[.pointer (some ⟨g, 0, none⟩)] w fun en w' => ValPost w0 w g en w' (valB 2 ys) := by
  unfold valB
  rw [if_neg (by decide), if_neg (by decide), if_pos rfl]
  by_cases hl : ys.length < 8
  · rw [if_pos hl]
    have HI := Aside0.mk (hI.step (W1 := w.alloc (cel 0 0 ⟨#[]⟩)) (below_alloc (Below.refl _ _) _))
    have HB := Aside0.mk (below_alloc hB (cel 0 0 ⟨#[]⟩))
    have HG := Aside0.mk hI.lt
    have HS := Aside0.mk hB.size
    clear hI hB
    go_enter Tryd.func30, Tryd.ntmps30
    go_wp2_with fail
    refine (take_ok g (3 :: ys) 1 w0 _ HI.out HB.out (by simp)).mono ?_
    rintro en w1 ⟨A1, c1, rfl, hc1, hC1, hR1, hB1, hK1⟩
    obtain ⟨ad1, rfl, hcell1⟩ := byte_0 hC1
    have hcell1 := (hB1.cell (World.block_lt_of_cell? w0 _ hcell1)).trans hcell1
    rw [List.drop_one, List.tail_cons] at hR1
    have T := Aside0.mk (two_start 2 hR1 hB1 hK1 HG.out HS.out)
    obtain ⟨r0, r1, r2⟩ := T.out.r
    obtain ⟨s0, s1, s2⟩ := T.out.fr
    clear hC1 hR1 hB1 hK1 hc1
    go_wp2_with fail
    refine (number_no g ys w0 _ T.out.rdr T.out.bel hl).mono ?_
    rintro en w2 ⟨rfl, rfl⟩
    exact ⟨rfl, rfl, T.out.bel, T.out.keep⟩
  · rw [if_neg hl]
    have HL := Aside0.mk (Nat.le_of_not_lt hl)
    obtain ⟨n, hn⟩ : ∃ n, numU (ys.take 8) = n := ⟨_, rfl⟩
    rw [hn]
    have HN := Aside0.mk hn
    clear hl hn
    have HI := Aside0.mk (hI.step (W1 := w.alloc (cel 0 0 ⟨#[]⟩)) (below_alloc (Below.refl _ _) _))
    have HB := Aside0.mk (below_alloc hB (cel 0 0 ⟨#[]⟩))
    have HG := Aside0.mk hI.lt
    have HS := Aside0.mk hB.size
    clear hI hB
    go_enter Tryd.func30, Tryd.ntmps30
    go_wp2_with fail
    refine (take_ok g (3 :: ys) 1 w0 _ HI.out HB.out (by simp)).mono ?_
    rintro en w1 ⟨A1, c1, rfl, hc1, hC1, hR1, hB1, hK1⟩
    obtain ⟨ad1, rfl, hcell1⟩ := byte_0 hC1
    have hcell1 := (hB1.cell (World.block_lt_of_cell? w0 _ hcell1)).trans hcell1
    rw [List.drop_one, List.tail_cons] at hR1
    have T := Aside0.mk (two_start 2 hR1 hB1 hK1 HG.out HS.out)
    obtain ⟨r0, r1, r2⟩ := T.out.r
    obtain ⟨s0, s1, s2⟩ := T.out.fr
    clear hC1 hR1 hB1 hK1 hc1
    go_wp2_with fail
    refine (number_ok g ys w0 _ T.out.rdr T.out.bel HL.out).mono ?_
    rintro en w2 ⟨rfl, hR2, hB2, hK2⟩
    rw [HN.out]
    have T1 := Aside0.mk (T.out.step hR2 hB2 hK2)
    have T2 := Aside0.mk (T1.out.set1 (wrap64 (bits .xor .u64 n 9223372036854775808)))
    clear r0 r1 r2 s0 s1 s2 hR2 hB2 hK2
    obtain ⟨v0, v1, v2⟩ := T1.out.v
    obtain ⟨f0, f1, f2⟩ := T1.out.fv
    obtain ⟨r0, r1, r2⟩ := T2.out.r
    obtain ⟨s0, s1, s2⟩ := T2.out.fr
    obtain ⟨u0, u1, u2⟩ := T2.out.v
    go_wp2
    refine bodyPost_ret (results_one rfl _ _ w.heap.size 35 #[.int .i64 (2), .int .i64 (wrap64 (bits .xor .u64 n 9223372036854775808)), .string ((⟨#[]⟩ : ByteArray))] (0, 0) _ rfl (put_blk (2) (wrap64 (bits .xor .u64 n 9223372036854775808)) ((⟨#[]⟩ : ByteArray)) T2.out.br) Tryd.underlying35 rfl (by kernel_rfl)) rfl ?_
    obtain ⟨q1, q2, q3⟩ := T2.out.fin
    exact ⟨rfl, q1, q2, q3⟩
set_option maxHeartbeats 4000000 in
set_option maxRecDepth 100000 in
theorem value_text (g : Nat) (ys : List Int) (w0 w : World) (hI : Rdr w0 w g (5 :: ys)) (hB : Below w0.heap.size w0 w) :
    Calls Tryd.prog 30 #[.pointer (some ⟨g, 0, none⟩)] w fun en w' => ValPost w0 w g en w' (valB 4 ys) := by
  unfold valB
  rw [if_neg (by decide), if_neg (by decide), if_neg (by decide), if_neg (by decide), if_pos rfl]
  have C0 : ∀ W, Rdr w0 W g ys → Below w0.heap.size w0 W → Calls Tryd.prog 42 #[.pointer (some ⟨g, 0, none⟩)] W fun en w' => TextPost w0 W g en w' (textP ys []) := fun W h1 h2 => text_calls g ys w0 W h1 h2
  obtain ⟨R, hR⟩ : ∃ R, textP ys [] = R := ⟨_, rfl⟩
  rw [hR] at C0 ⊢
  have C := Aside0.mk C0
  clear hR C0
  cases R with
  | err c =>
    have HI := Aside0.mk (hI.step (W1 := w.alloc (cel 0 0 ⟨#[]⟩)) (below_alloc (Below.refl _ _) _))
    have HB := Aside0.mk (below_alloc hB (cel 0 0 ⟨#[]⟩))
    have HG := Aside0.mk hI.lt
    have HS := Aside0.mk hB.size
    clear hI hB
    go_enter Tryd.func30, Tryd.ntmps30
    go_wp2_with fail
    refine (take_ok g (5 :: ys) 1 w0 _ HI.out HB.out (by simp)).mono ?_
    rintro en w1 ⟨A1, c1, rfl, hc1, hC1, hR1, hB1, hK1⟩
    obtain ⟨ad1, rfl, hcell1⟩ := byte_0 hC1
    have hcell1 := (hB1.cell (World.block_lt_of_cell? w0 _ hcell1)).trans hcell1
    rw [List.drop_one, List.tail_cons] at hR1
    have T := Aside0.mk (two_start 4 hR1 hB1 hK1 HG.out HS.out)
    obtain ⟨r0, r1, r2⟩ := T.out.r
    obtain ⟨s0, s1, s2⟩ := T.out.fr
    clear hC1 hR1 hB1 hK1 hc1
    go_wp2_with fail
    refine (C.out _ T.out.rdr T.out.bel).mono ?_
    rintro en w2 ⟨rfl, hB2, hK2⟩
    exact ⟨rfl, rfl, hB2, T.out.keep.trans hK2 (.inl rfl)⟩
  | ok out rest =>
    obtain ⟨S, hS⟩ : ∃ S, strOfNums out = S := ⟨_, rfl⟩
    dsimp only
    rw [hS]
    have HSS := Aside0.mk hS
    clear hS
    have HI := Aside0.mk (hI.step (W1 := w.alloc (cel 0 0 ⟨#[]⟩)) (below_alloc (Below.refl _ _) _))
    have HB := Aside0.mk (below_alloc hB (cel 0 0 ⟨#[]⟩))
    have HG := Aside0.mk hI.lt
    have HS := Aside0.mk hB.size
    clear hI hB
    go_enter Tryd.func30, Tryd.ntmps30
    go_wp2_with fail
    refine (take_ok g (5 :: ys) 1 w0 _ HI.out HB.out (by simp)).mono ?_
    rintro en w1 ⟨A1, c1, rfl, hc1, hC1, hR1, hB1, hK1⟩
    obtain ⟨ad1, rfl, hcell1⟩ := byte_0 hC1
    have hcell1 := (hB1.cell (World.block_lt_of_cell? w0 _ hcell1)).trans hcell1
    rw [List.drop_one, List.tail_cons] at hR1
    have T := Aside0.mk (two_start 4 hR1 hB1 hK1 HG.out HS.out)
    obtain ⟨r0, r1, r2⟩ := T.out.r
    obtain ⟨s0, s1, s2⟩ := T.out.fr
    clear hC1 hR1 hB1 hK1 hc1
    go_wp2_with fail
    refine (C.out _ T.out.rdr T.out.bel).mono ?_
    rintro en w2 ⟨rfl, hR2, hB2, hK2⟩
    rw [HSS.out]
    have T1 := Aside0.mk (T.out.step hR2 hB2 hK2)
    have T2 := Aside0.mk (T1.out.set2 S)
    clear r0 r1 r2 s0 s1 s2 hR2 hB2 hK2
    obtain ⟨v0, v1, v2⟩ := T1.out.v
    obtain ⟨f0, f1, f2⟩ := T1.out.fv
    obtain ⟨r0, r1, r2⟩ := T2.out.r
    obtain ⟨s0, s1, s2⟩ := T2.out.fr
    obtain ⟨u0, u1, u2⟩ := T2.out.v
    go_wp2
    refine bodyPost_ret (results_one rfl _ _ w.heap.size 35 #[.int .i64 (4), .int .i64 (0), .string (S)] (0, 0) _ rfl (put_blk (4) (0) (S) T2.out.br) Tryd.underlying35 rfl (by kernel_rfl)) rfl ?_
    obtain ⟨q1, q2, q3⟩ := T2.out.fin
    exact ⟨rfl, q1, q2, q3⟩
set_option maxHeartbeats 4000000 in
set_option maxRecDepth 100000 in
theorem value_real (g : Nat) (ys : List Int) (w0 w : World) (hI : Rdr w0 w g (4 :: ys)) (hB : Below w0.heap.size w0 w) :
    Calls Tryd.prog 30 #[.pointer (some ⟨g, 0, none⟩)] w fun en w' => ValPost w0 w g en w' (valB 3 ys) := by
  unfold valB
  rw [if_neg (by decide), if_neg (by decide), if_neg (by decide), if_pos rfl]
  by_cases hl : ys.length < 8
  · rw [if_pos hl]
    have HI := Aside0.mk (hI.step (W1 := w.alloc (cel 0 0 ⟨#[]⟩)) (below_alloc (Below.refl _ _) _))
    have HB := Aside0.mk (below_alloc hB (cel 0 0 ⟨#[]⟩))
    have HG := Aside0.mk hI.lt
    have HS := Aside0.mk hB.size
    clear hI hB
    go_enter Tryd.func30, Tryd.ntmps30
    go_wp2_with fail
    refine (take_ok g (4 :: ys) 1 w0 _ HI.out HB.out (by simp)).mono ?_
    rintro en w1 ⟨A1, c1, rfl, hc1, hC1, hR1, hB1, hK1⟩
    obtain ⟨ad1, rfl, hcell1⟩ := byte_0 hC1
    have hcell1 := (hB1.cell (World.block_lt_of_cell? w0 _ hcell1)).trans hcell1
    rw [List.drop_one, List.tail_cons] at hR1
    have T := Aside0.mk (two_start 3 hR1 hB1 hK1 HG.out HS.out)
    obtain ⟨r0, r1, r2⟩ := T.out.r
    obtain ⟨s0, s1, s2⟩ := T.out.fr
    clear hC1 hR1 hB1 hK1 hc1
    go_wp2_with fail
    refine (number_no g ys w0 _ T.out.rdr T.out.bel hl).mono ?_
    rintro en w2 ⟨rfl, rfl⟩
    exact ⟨rfl, rfl, T.out.bel, T.out.keep⟩
  · rw [if_neg hl]
    have HL := Aside0.mk (Nat.le_of_not_lt hl)
    obtain ⟨n, hn⟩ : ∃ n, numU (ys.take 8) = n := ⟨_, rfl⟩
    obtain ⟨d, hd⟩ : ∃ d, disU n = d := ⟨_, rfl⟩
    obtain ⟨o, ho⟩ : ∃ o, ordU d = o := ⟨_, rfl⟩
    obtain ⟨q, hq⟩ : ∃ q, canonI d = q := ⟨_, rfl⟩
    rw [hn, hd, ho, hq]
    have HN := Aside0.mk hn
    have HD := Aside0.mk hd
    have O : ∀ W, Calls Tryd.prog 25 #[.int .i64 d] W fun e w' => e = .returned (.int .u64 o) ∧ w' = W := fun W => (ordered_calls d W).mono fun _ _ ⟨h1, h2⟩ => ⟨by rw [h1, ho], h2.symm⟩
    have Q : ∀ W, Calls Tryd.prog 41 #[.int .i64 d] W fun e w' => e = .returned (.int .i64 q) ∧ w' = W := fun W => (canon_calls d W).mono fun _ _ ⟨h1, h2⟩ => ⟨by rw [h1, hq], h2.symm⟩
    have HOc := Aside0.mk O
    have HQc := Aside0.mk Q
    clear hl hn hd ho hq O Q
    cases c1 : (o != n)
    · rw [if_neg Bool.false_ne_true]
      cases c2 : (d != q)
      · rw [if_neg Bool.false_ne_true]
        have HI := Aside0.mk (hI.step (W1 := w.alloc (cel 0 0 ⟨#[]⟩)) (below_alloc (Below.refl _ _) _))
        have HB := Aside0.mk (below_alloc hB (cel 0 0 ⟨#[]⟩))
        have HG := Aside0.mk hI.lt
        have HS := Aside0.mk hB.size
        clear hI hB
        go_enter Tryd.func30, Tryd.ntmps30
        go_wp2_with fail
        refine (take_ok g (4 :: ys) 1 w0 _ HI.out HB.out (by simp)).mono ?_
        rintro en w1 ⟨A1, c1, rfl, hc1, hC1, hR1, hB1, hK1⟩
        obtain ⟨ad1, rfl, hcell1⟩ := byte_0 hC1
        have hcell1 := (hB1.cell (World.block_lt_of_cell? w0 _ hcell1)).trans hcell1
        rw [List.drop_one, List.tail_cons] at hR1
        have T := Aside0.mk (two_start 3 hR1 hB1 hK1 HG.out HS.out)
        obtain ⟨r0, r1, r2⟩ := T.out.r
        obtain ⟨s0, s1, s2⟩ := T.out.fr
        clear hC1 hR1 hB1 hK1 hc1
        go_wp2_with fail
        refine (number_ok g ys w0 _ T.out.rdr T.out.bel HL.out).mono ?_
        rintro en w2 ⟨rfl, hR2, hB2, hK2⟩
        rw [HN.out]
        have T1 := Aside0.mk (T.out.step hR2 hB2 hK2)
        have T2 := Aside0.mk (T1.out.set1 d)
        clear r0 r1 r2 s0 s1 s2 hR2 hB2 hK2
        obtain ⟨v0, v1, v2⟩ := T1.out.v
        obtain ⟨f0, f1, f2⟩ := T1.out.fv
        obtain ⟨r0, r1, r2⟩ := T2.out.r
        obtain ⟨s0, s1, s2⟩ := T2.out.fr
        obtain ⟨u0, u1, u2⟩ := T2.out.v
        go_wp2_with fail
        refine (disordered_calls n _).mono ?_
        rintro en w3 ⟨rfl, rfl⟩
        rw [HD.out]
        go_wp2_with fail
        go_quiet (first | (go_at_call 25; exact Calls.quiet_of_same (HOc.out _)) | (go_at_call 41; exact Calls.quiet_of_same (HQc.out _)))
        have T3 := Aside0.mk (T2.out.drawN nq)
        clear r0 r1 r2 s0 s1 s2 v0 v1 v2 f0 f1 f2 u0 u1 u2
        obtain ⟨r0, r1, r2⟩ := T3.out.r
        obtain ⟨s0, s1, s2⟩ := T3.out.fr
        obtain ⟨u0, u1, u2⟩ := T3.out.v
        go_wp2
        refine bodyPost_ret (results_one rfl _ _ w.heap.size 35 #[.int .i64 (3), .int .i64 (d), .string ((⟨#[]⟩ : ByteArray))] (0, 0) _ rfl (put_blk (3) (d) ((⟨#[]⟩ : ByteArray)) T3.out.br) Tryd.underlying35 rfl (by kernel_rfl)) rfl ?_
        obtain ⟨q1, q2, q3⟩ := T3.out.fin
        exact ⟨rfl, q1, q2, q3⟩
      · rw [if_pos rfl]
        have HI := Aside0.mk (hI.step (W1 := w.alloc (cel 0 0 ⟨#[]⟩)) (below_alloc (Below.refl _ _) _))
        have HB := Aside0.mk (below_alloc hB (cel 0 0 ⟨#[]⟩))
        have HG := Aside0.mk hI.lt
        have HS := Aside0.mk hB.size
        clear hI hB
        go_enter Tryd.func30, Tryd.ntmps30
        go_wp2_with fail
        refine (take_ok g (4 :: ys) 1 w0 _ HI.out HB.out (by simp)).mono ?_
        rintro en w1 ⟨A1, c1, rfl, hc1, hC1, hR1, hB1, hK1⟩
        obtain ⟨ad1, rfl, hcell1⟩ := byte_0 hC1
        have hcell1 := (hB1.cell (World.block_lt_of_cell? w0 _ hcell1)).trans hcell1
        rw [List.drop_one, List.tail_cons] at hR1
        have T := Aside0.mk (two_start 3 hR1 hB1 hK1 HG.out HS.out)
        obtain ⟨r0, r1, r2⟩ := T.out.r
        obtain ⟨s0, s1, s2⟩ := T.out.fr
        clear hC1 hR1 hB1 hK1 hc1
        go_wp2_with fail
        refine (number_ok g ys w0 _ T.out.rdr T.out.bel HL.out).mono ?_
        rintro en w2 ⟨rfl, hR2, hB2, hK2⟩
        rw [HN.out]
        have T1 := Aside0.mk (T.out.step hR2 hB2 hK2)
        have T2 := Aside0.mk (T1.out.set1 d)
        clear r0 r1 r2 s0 s1 s2 hR2 hB2 hK2
        obtain ⟨v0, v1, v2⟩ := T1.out.v
        obtain ⟨f0, f1, f2⟩ := T1.out.fv
        obtain ⟨r0, r1, r2⟩ := T2.out.r
        obtain ⟨s0, s1, s2⟩ := T2.out.fr
        obtain ⟨u0, u1, u2⟩ := T2.out.v
        go_wp2_with fail
        refine (disordered_calls n _).mono ?_
        rintro en w3 ⟨rfl, rfl⟩
        rw [HD.out]
        go_wp2_with fail
        go_quiet (first | (go_at_call 25; exact Calls.quiet_of_same (HOc.out _)) | (go_at_call 41; exact Calls.quiet_of_same (HQc.out _)))
        have T3 := Aside0.mk (T2.out.drawN nq)
        clear r0 r1 r2 s0 s1 s2 v0 v1 v2 f0 f1 f2 u0 u1 u2
        go_wp2
        exact ⟨rfl, rfl, T3.out.bel, T3.out.keep⟩
    · rw [if_pos rfl]
      have HI := Aside0.mk (hI.step (W1 := w.alloc (cel 0 0 ⟨#[]⟩)) (below_alloc (Below.refl _ _) _))
      have HB := Aside0.mk (below_alloc hB (cel 0 0 ⟨#[]⟩))
      have HG := Aside0.mk hI.lt
      have HS := Aside0.mk hB.size
      clear hI hB
      go_enter Tryd.func30, Tryd.ntmps30
      go_wp2_with fail
      refine (take_ok g (4 :: ys) 1 w0 _ HI.out HB.out (by simp)).mono ?_
      rintro en w1 ⟨A1, c1, rfl, hc1, hC1, hR1, hB1, hK1⟩
      obtain ⟨ad1, rfl, hcell1⟩ := byte_0 hC1
      have hcell1 := (hB1.cell (World.block_lt_of_cell? w0 _ hcell1)).trans hcell1
      rw [List.drop_one, List.tail_cons] at hR1
      have T := Aside0.mk (two_start 3 hR1 hB1 hK1 HG.out HS.out)
      obtain ⟨r0, r1, r2⟩ := T.out.r
      obtain ⟨s0, s1, s2⟩ := T.out.fr
      clear hC1 hR1 hB1 hK1 hc1
      go_wp2_with fail
      refine (number_ok g ys w0 _ T.out.rdr T.out.bel HL.out).mono ?_
      rintro en w2 ⟨rfl, hR2, hB2, hK2⟩
      rw [HN.out]
      have T1 := Aside0.mk (T.out.step hR2 hB2 hK2)
      have T2 := Aside0.mk (T1.out.set1 d)
      clear r0 r1 r2 s0 s1 s2 hR2 hB2 hK2
      obtain ⟨v0, v1, v2⟩ := T1.out.v
      obtain ⟨f0, f1, f2⟩ := T1.out.fv
      obtain ⟨r0, r1, r2⟩ := T2.out.r
      obtain ⟨s0, s1, s2⟩ := T2.out.fr
      obtain ⟨u0, u1, u2⟩ := T2.out.v
      go_wp2_with fail
      refine (disordered_calls n _).mono ?_
      rintro en w3 ⟨rfl, rfl⟩
      rw [HD.out]
      go_wp2_with fail
      go_quiet (first | (go_at_call 25; exact Calls.quiet_of_same (HOc.out _)) | (go_at_call 41; exact Calls.quiet_of_same (HQc.out _)))
      have T3 := Aside0.mk (T2.out.drawN nq)
      clear r0 r1 r2 s0 s1 s2 v0 v1 v2 f0 f1 f2 u0 u1 u2
      go_wp2
      exact ⟨rfl, rfl, T3.out.bel, T3.out.keep⟩
theorem value_calls (g : Nat) (xs : List Int) (w0 w : World) (hx : ∀ x ∈ xs, 0 ≤ x ∧ x < 256) (hI : Rdr w0 w g xs) (hB : Below w0.heap.size w0 w) :
    Calls Tryd.prog 30 #[.pointer (some ⟨g, 0, none⟩)] w fun en w' => ValPost w0 w g en w' (valP xs) := by
  cases xs with
  | nil => exact value_empty g w0 w hI hB
  | cons y ys =>
    have hy := hx y (List.mem_cons_self ..)
    have hys : ∀ x ∈ ys, 0 ≤ x ∧ x < 256 := fun x h => hx x (List.mem_cons_of_mem _ h)
    have hk : y = 1 ∨ y = 2 ∨ y = 3 ∨ y = 4 ∨ y = 5 ∨ (y - 1 < 0 ∨ 4 < y - 1) := by omega
    rcases hk with rfl | rfl | rfl | rfl | rfl | hk
    · exact value_null g ys w0 w hI hB
    · exact value_bool g ys w0 w hys hI hB
    · exact value_int g ys w0 w hI hB
    · exact value_real g ys w0 w hI hB
    · exact value_text g ys w0 w hI hB
    · have e : valP (y :: ys) = .err 50 := by
        show valB (y - 1) ys = .err 50
        unfold valB
        rw [if_neg (by omega), if_neg (by omega), if_neg (by omega), if_neg (by omega), if_neg (by omega)]
      rw [e]
      exact value_bad g y ys w0 w hy.1 hy.2 hk hI hB
end Go.Proofs.YthoemenchimggaaDoor
