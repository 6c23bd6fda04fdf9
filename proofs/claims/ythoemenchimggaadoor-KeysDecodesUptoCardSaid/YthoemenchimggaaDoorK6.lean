/- Package keys: Decode. -/
import Derived.Test.YthoemenchimggaaDoorK5
import Derived.Deep.RegionLaw
namespace Go.Proofs.YthoemenchimggaaDoor
open Go.RowKit Go.Proofs.YthoemenchimggaaDoorW.PrintWords Go.Proofs.YthoemenchimggaaDoorW.PrintLast Go.Proofs.YthoemenchimggaaDoorW.PrintMore A Fl
set_option linter.unusedVariables false
set_option linter.unusedSimpArgs false
def decP : Nat → List Int → List S35 → List S35 × Int
  | 0, _, acc => (acc, 0)
  | k + 1, xs, acc => if xs = [] then (acc, 0) else match valP xs with
    | .ok v rest => decP k rest (acc ++ [v])
    | .err c => ([], c)
def decK (l : List Int) : List S35 × Int := decP l.length l []
def DecPost (w : World) (r1 : List S35) (r2 : Int) (e : Ending) (w' : World) : Prop :=
  ∃ v0_ : Value, e = .returned (.tuple #[v0_, .int .i64 r2]) ∧ Kd.R k35 35 w' w.heap.size (fun _ => True) v0_ r1 ∧ Below w.heap.size w w'
theorem decP_nil (k : Nat) (acc : List S35) : decP k [] acc = (acc, 0) := by cases k <;> simp [decP]
theorem textP_drop : ∀ (xs out o rest : List Int), textP xs out = .ok o rest → ∃ n, 1 ≤ n ∧ n ≤ xs.length ∧ rest = xs.drop n
  | [], out, o, rest, h => by simp [textP] at h
  | [c], out, o, rest, h => by
    simp only [textP] at h
    split at h
    · simp at h
    · split at h <;> simp at h
  | c :: d :: xs, out, o, rest, h => by
    simp only [textP] at h
    split at h
    · split at h
      · injection h with h1 h2
        exact ⟨2, by omega, by simp, by rw [← h2]; rfl⟩
      · split at h
        · split at h
          · simp at h
          · obtain ⟨n, h1, h2, h3⟩ := textP_drop xs _ o rest h
            exact ⟨n + 2, by omega, by simp; omega, by rw [h3]; rfl⟩
        · simp at h
    · split at h
      · simp at h
      · obtain ⟨n, h1, h2, h3⟩ := textP_drop (d :: xs) _ o rest h
        exact ⟨n + 1, by omega, by simp at h2 ⊢; omega, by rw [h3]; rfl⟩
theorem valP_drop (xs rest : List Int) (v : S35) (h : valP xs = .ok v rest) : ∃ n, 1 ≤ n ∧ n ≤ xs.length ∧ rest = xs.drop n := by
  cases xs with
  | nil => simp [valP] at h
  | cons y ys =>
    have h' : valB (y - 1) ys = .ok v rest := h
    have key : ∃ n, n ≤ ys.length ∧ rest = ys.drop n := by
      unfold valB at h'
      split at h'
      · injection h' with h1 h2
        exact ⟨0, Nat.zero_le _, h2.symm⟩
      · split at h'
        · cases ys with
          | nil => simp at h'
          | cons z zs =>
            dsimp only at h'
            split at h'
            · simp at h'
            · injection h' with h1 h2
              exact ⟨1, by simp, h2.symm⟩
        · split at h'
          · split at h'
            · simp at h'
            · rename_i hl
              injection h' with h1 h2
              exact ⟨8, by omega, h2.symm⟩
          · split at h'
            · split at h'
              · simp at h'
              · rename_i hl
                split at h'
                · simp at h'
                · split at h'
                  · simp at h'
                  · injection h' with h1 h2
                    exact ⟨8, by omega, h2.symm⟩
            · split at h'
              · split at h'
                · rename_i o r ht
                  injection h' with h1 h2
                  obtain ⟨n, _, g2, g3⟩ := textP_drop ys [] o r ht
                  exact ⟨n, g2, h2.symm.trans g3⟩
                · simp at h'
              · simp at h'
    obtain ⟨n, h1, h2⟩ := key
    exact ⟨n + 1, by omega, by simp; omega, by rw [h2]; rfl⟩
/-- What a reading of a whole key has in hand. -/
structure Dec (w W : World) (v : Value) (xs : List Int) (acc : List S35) : Prop where
  rdr : Rdr w W (w.heap.size + 1 + 1) xs
  bl : W.heap[w.heap.size]? = some (.cells #[v] 22 (0, 0))
  be : W.heap[w.heap.size + 1]? = some (.cells #[.int .i64 0] 29 (0, 0))
  row : Kd.R k35 35 W (w.heap.size + 1 + 1 + 1) (fun k => w.heap.size + 1 + 1 + 1 ≤ k) v acc
  bel : Below w.heap.size w W
  sz : w.heap.size + 1 + 1 + 1 ≤ W.heap.size
namespace Dec
variable {w W W1 : World} {v : Value} {xs ys : List Int} {acc : List S35}
theorem l (h : Dec w W v xs acc) : W.cell? ⟨w.heap.size, 0, none⟩ = some v := (blk_cell h.bl 0).trans rfl
theorem e (h : Dec w W v xs acc) : W.cell? ⟨w.heap.size + 1, 0, none⟩ = some (.int .i64 0) := (blk_cell h.be 0).trans rfl
theorem fl (h : Dec w W v xs acc) : W.frozen? ⟨w.heap.size, 0, none⟩ = false := blk_frozen h.bl 0
theorem fe (h : Dec w W v xs acc) : W.frozen? ⟨w.heap.size + 1, 0, none⟩ = false := blk_frozen h.be 0
theorem r (h : Dec w W v xs acc) : ∃ A c, W.cell? ⟨w.heap.size + 1 + 1, 0, none⟩ = some (.slice A xs.length c) := by
  obtain ⟨A0, c0, h1, h2, h3, h4⟩ := h.rdr
  exact ⟨A0, c0, (blk_cell h2 0).trans rfl⟩
theorem drew (h : Dec w W v xs acc) : Dec w W.drew v xs acc := ⟨h.rdr, h.bl, h.be, h.row, below_drew1 h.bel, h.sz⟩
theorem step (h : Dec w W v xs acc) (hr : Rdr w W1 (w.heap.size + 1 + 1) ys) (hb : Below w.heap.size w W1) (hk : KeepBut W W1 (w.heap.size + 1 + 1) none) : Dec w W1 v ys acc :=
  ⟨hr, hk.blk h.bl (by omega) (by simp), hk.blk h.be (by omega) (by simp), Kd.R_keep h.row hk (fun k hk => by omega), hb, Nat.le_trans h.sz hk.1⟩
/-- A row has been appended to, and the list is stored. -/
theorem put {v1 : Value} {acc1 : List S35} (h : Dec w W v xs acc) (ho : Kd.R k35 35 W1 (w.heap.size + 1 + 1 + 1) (fun k => w.heap.size + 1 + 1 + 1 ≤ k) v1 acc1) (hb : Below (w.heap.size + 1 + 1 + 1) W W1) : Dec w (W1.setCell ⟨w.heap.size, 0, none⟩ v1) v1 xs acc1 := by
  obtain ⟨A0, c0, h1, h2, h3, h4⟩ := h.rdr
  refine ⟨⟨A0, c0, h1, blk_far ((hb.block _ (by omega)).trans h2) (p := ⟨w.heap.size, 0, none⟩) (by show w.heap.size + 1 + 1 ≠ w.heap.size; omega) _, h3, h4⟩, ?_, blk_far ((hb.block _ (by omega)).trans h.be) (p := ⟨w.heap.size, 0, none⟩) (by show w.heap.size + 1 ≠ w.heap.size; omega) _, Kd.R_far (p := ⟨w.heap.size, 0, none⟩) ho (fun k hk => by show k ≠ w.heap.size; omega) _, below_set (h.bel.trans (hb.mono (by omega))) (Nat.le_refl _), ?_⟩
  · simpa using blk_set ((hb.block _ (by omega)).trans h.bl) 0 v1
  · have := hb.size
    have := h.sz
    simp
    omega
theorem fin (h : Dec w W v xs acc) (c : Int) : (W.setCell ⟨w.heap.size + 1, 0, none⟩ (.int .i64 c)).cell? ⟨w.heap.size, 0, none⟩ = some v ∧ (W.setCell ⟨w.heap.size + 1, 0, none⟩ (.int .i64 c)).cell? ⟨w.heap.size + 1, 0, none⟩ = some (.int .i64 c) ∧
    Kd.R k35 35 (W.setCell ⟨w.heap.size + 1, 0, none⟩ (.int .i64 c)) w.heap.size (fun _ => True) v acc ∧ Below w.heap.size w (W.setCell ⟨w.heap.size + 1, 0, none⟩ (.int .i64 c)) := by
  refine ⟨?_, World.cell?_setCell_same _ _ _ (by rw [h.e]), Kd.R_mono (Kd.R_lower (Kd.R_far (p := ⟨w.heap.size + 1, 0, none⟩) h.row (fun k hk => by show k ≠ w.heap.size + 1; omega) _) (by omega)) (fun _ _ => trivial), below_set h.bel (by omega)⟩
  rw [World.cell?_setCell_other _ _ _ _ (by intro e; injection e; omega)]
  exact h.l
theorem fall (h : Dec w W v xs acc) (hb : Below w.heap.size w W1) (hk : KeepBut W W1 (w.heap.size + 1 + 1) none) : W1.cell? ⟨w.heap.size, 0, none⟩ = some v ∧ W1.cell? ⟨w.heap.size + 1, 0, none⟩ = some (.int .i64 0) ∧ W1.frozen? ⟨w.heap.size, 0, none⟩ = false ∧ W1.frozen? ⟨w.heap.size + 1, 0, none⟩ = false := by
  have b1 := hk.blk h.bl (by omega) (by simp)
  have b2 := hk.blk h.be (by omega) (by simp)
  exact ⟨(blk_cell b1 0).trans rfl, (blk_cell b2 0).trans rfl, blk_frozen b1 0, blk_frozen b2 0⟩
end Dec
theorem res16 (tmps : Array Value) (pl pe : Addr) (A : Option Addr) (n k : Nat) (c : Int) (w : World) (h2 : tmps.getD 2 undef = .pointer (some pl)) (h3 : tmps.getD 3 undef = .pointer (some pe)) (hl : w.cell? pl = some (.slice A n k)) (he : w.cell? pe = some (.int .i64 c)) :
    (results Tryd.f16 tmps).run Tryd.prog w = .ok (.tuple #[.slice A n k, .int .i64 c]) w := by
  have h2' : tmps[2]?.getD undef = .pointer (some pl) := by simpa using h2
  have h3' : tmps[3]?.getD undef = .pointer (some pe) := by simpa using h3
  simp [results, Tryd.results16, go_sem, h2', h3', hl, he]
theorem dec_start (w : World) (A0 : Option Addr) (c0 : Nat) (l : List Int) (hr0 : kb.C w A0 l.length l) (hc0 : l.length ≤ c0) :
    Dec w (((w.alloc (.cells #[.slice none 0 0] 22)).alloc (.cells #[.int .i64 0] 29)).alloc (.cells #[.slice A0 l.length c0] 54)) (.slice none 0 0) l [] := by
  have s1 : (w.alloc (.cells #[.slice none 0 0] 22)).heap.size = w.heap.size + 1 := by simp
  have s2 : ((w.alloc (.cells #[.slice none 0 0] 22)).alloc (.cells #[.int .i64 0] 29)).heap.size = w.heap.size + 1 + 1 := by simp
  have b1 := heap_alloc_new w (.cells #[.slice none 0 0] 22)
  have b2 := heap_alloc_new (w.alloc (.cells #[.slice none 0 0] 22)) (.cells #[.int .i64 0] 29)
  have b3 := heap_alloc_new ((w.alloc (.cells #[.slice none 0 0] 22)).alloc (.cells #[.int .i64 0] 29)) (.cells #[.slice A0 l.length c0] 54)
  rw [s1] at b2
  rw [s2] at b3
  exact ⟨⟨A0, c0, hc0, b3, by omega, hr0⟩, blk_alloc (blk_alloc b1 _) _, blk_alloc b2 _, Kd.R_nil _ _ _ _ _, below_alloc (below_alloc (below_alloc (Below.refl _ _) _) _) _, by simp⟩
set_option maxHeartbeats 4000000 in
set_option maxRecDepth 100000 in
theorem decode_calls (A0 : Option Addr) (c0 : Nat) (l : List Int) (r1 : List S35) (r2 : Int) (w : World) (hr0 : kb.C w A0 l.length l) (hc0 : l.length ≤ c0) (hx : ∀ x ∈ l, 0 ≤ x ∧ x < 256) (hl : l.length ≤ 4398046511104) (h : decK l = (r1, r2)) :
    Calls Tryd.prog 16 #[.slice A0 l.length c0] w (DecPost w r1 r2) := by
  have hmf : ∀ (fn : Fn) (first cap : Array Value) (w : World), (Instr.makeFunc fn first cap).run Tryd.prog w = .ok (.func fn first cap) w := fun _ _ _ _ => rfl
  have HD := Aside0.mk h
  have HX := Aside0.mk hx
  have HS := Aside0.mk (dec_start w A0 c0 l hr0 hc0)
  have HL := Aside0.mk hl
  clear h hx hr0 hc0 hl
  unfold decK at HD
  go_enter_defers Tryd.func16, Tryd.ntmps16
  go_wp2_with fail
  go_loopg [] l.length (fun gk wr => ∃ (xs : List Int) (acc : List S35) (v : Value), Aside0 (xs.length ≤ gk) ∧ Aside0 (acc.length + xs.length ≤ l.length) ∧ Aside0 (decP gk xs acc = (r1, r2)) ∧ Aside0 (∀ x ∈ xs, 0 ≤ x ∧ x < 256) ∧ Aside0 (Dec w wr v xs acc))
  case atStart => exact ⟨l, [], _, ⟨Nat.le_refl _⟩, ⟨by simp⟩, HD, HX, HS⟩
  case round =>
    obtain ⟨xs, acc, v, HG, HN, HD, HX, HS⟩ := hrel
    obtain ⟨Ar, cr, hr⟩ := HS.out.r
    obtain ⟨Av, cv, rfl⟩ := Kd.R_slice HS.out.row
    cases xs with
    | nil =>
      have c1 : decide ((([] : List Int).length : Int) > 0) = false := by decide
      obtain ⟨q1, q2⟩ := Prod.mk.inj ((decP_nil _ _).symm.trans HD.out)
      subst q1 q2
      have hl0 := HS.out.l
      have he0 := HS.out.e
      have hfl := HS.out.fl
      have hfe := HS.out.fe
      go_wp2_with fail
      refine leaves_cons (f := 29) (args := #[.pointer (some ⟨w.heap.size, 0, none⟩), .pointer (some ⟨w.heap.size + 1, 0, none⟩)]) (by simp) (by simp [go_sem]) ?_
      refine (catch_idle _ _ _).mono ?_
      rintro e u' w'' ⟨rfl, rfl, rfl⟩
      have P := (HS.out.put HS.out.row (Below.refl _ _)).fin 0
      exact ⟨_, res16 _ _ _ _ _ _ _ _ rfl rfl P.1 P.2.1, _, rfl, P.2.2.1, P.2.2.2⟩
    | cons y ys =>
      have c1 : decide (((y :: ys).length : Int) > 0) = true := decide_eq_true (by simp)
      cases gk with
      | zero => exact absurd HG.out (by simp)
      | succ k =>
      have hD := HD.out
      rw [decP, if_neg (by simp)] at hD
      have VC : ∀ W, Rdr w W (w.heap.size + 1 + 1) (y :: ys) → Below w.heap.size w W → Calls Tryd.prog 30 #[.pointer (some ⟨w.heap.size + 1 + 1, 0, none⟩)] W fun en w' => ValPost w W (w.heap.size + 1 + 1) en w' (valP (y :: ys)) := fun W h1 h2 => value_calls _ _ w W HX.out h1 h2
      have HS' := Aside0.mk HS.out.drew
      have hl0 := HS.out.l
      have hl0' := HS'.out.l
      clear HD
      cases hv : valP (y :: ys) with
      | err c =>
        rw [hv] at VC hD
        have HV := Aside0.mk VC
        obtain ⟨q1, q2⟩ := Prod.mk.inj hD
        subst q1 q2
        clear VC hv hD
        go_wp2_with fail
        refine wp_region_any (by kernel_rfl) ?_
        change wpAny _ _ _ _ _ _ _ (World.drew _)
        refine wpAny_ready (rs := [0, 1]) (by kernel_rfl) (by simp) ?_
        refine AllReady.cons rfl (fun K hK => ?_) ?_
        · go_simp
          refine hK _ _ ?_
          clear hK K
          refine wpAny_ready (rs := [1]) (by kernel_rfl) (by simp) ?_
          refine AllReady.cons rfl (fun K hK => ?_) AllReady.nil
          go_simp
          refine hK _ _ ?_
          clear hK K
          refine wpAny_ready (rs := [2]) (by kernel_rfl) (by simp) ?_
          refine AllReady.cons rfl (fun K hK => ?_) AllReady.nil
          go_simp
          refine (HV.out _ HS'.out.rdr HS'.out.bel).mono ?_
          rintro en w1 ⟨rfl, hB, hK⟩
          refine leaves_cons (f := 29) (args := #[.pointer (some ⟨w.heap.size, 0, none⟩), .pointer (some ⟨w.heap.size + 1, 0, none⟩)]) (by simp) (by simp [go_sem]) ?_
          have P := HS'.out.fall hB hK
          refine (catch_panicking ⟨w.heap.size, 0, none⟩ ⟨w.heap.size + 1, 0, none⟩ _ 0 c [] w1 P.1 P.2.1 P.2.2.1 P.2.2.2 (by intro e; injection e; omega) w.heap.size (Nat.le_refl _) (Nat.le_succ _) hB.size).mono ?_
          rintro e u' w'' ⟨rfl, rfl, g1, g2, g3⟩
          exact ⟨_, res16 _ _ _ _ _ _ _ _ rfl rfl g1 g2, _, rfl, Kd.R_nil _ _ _ _ _, hB.trans g3⟩
        · refine AllReady.cons rfl (fun K hK => ?_) AllReady.nil
          go_simp
          refine hK _ _ ?_
          clear hK K
          refine wpAny_ready (rs := [0, 2]) (by kernel_rfl) (by simp) ?_
          refine AllReady.cons rfl (fun K hK => ?_) ?_
          · go_simp
            refine hK _ _ ?_
            clear hK K
            refine wpAny_ready (rs := [2]) (by kernel_rfl) (by simp) ?_
            refine AllReady.cons rfl (fun K hK => ?_) AllReady.nil
            go_simp
            refine (HV.out _ HS'.out.rdr HS'.out.bel).mono ?_
            rintro en w1 ⟨rfl, hB, hK⟩
            refine leaves_cons (f := 29) (args := #[.pointer (some ⟨w.heap.size, 0, none⟩), .pointer (some ⟨w.heap.size + 1, 0, none⟩)]) (by simp) (by simp [go_sem]) ?_
            have P := HS'.out.fall hB hK
            refine (catch_panicking ⟨w.heap.size, 0, none⟩ ⟨w.heap.size + 1, 0, none⟩ _ 0 c [] w1 P.1 P.2.1 P.2.2.1 P.2.2.2 (by intro e; injection e; omega) w.heap.size (Nat.le_refl _) (Nat.le_succ _) hB.size).mono ?_
            rintro e u' w'' ⟨rfl, rfl, g1, g2, g3⟩
            exact ⟨_, res16 _ _ _ _ _ _ _ _ rfl rfl g1 g2, _, rfl, Kd.R_nil _ _ _ _ _, hB.trans g3⟩
          · refine AllReady.cons rfl (fun K hK => ?_) AllReady.nil
            go_simp
            refine (HV.out _ HS'.out.rdr HS'.out.bel).mono ?_
            rintro en w1 ⟨rfl, hB, hK⟩
            refine leaves_cons (f := 29) (args := #[.pointer (some ⟨w.heap.size, 0, none⟩), .pointer (some ⟨w.heap.size + 1, 0, none⟩)]) (by simp) (by simp [go_sem]) ?_
            have P := HS'.out.fall hB hK
            refine (catch_panicking ⟨w.heap.size, 0, none⟩ ⟨w.heap.size + 1, 0, none⟩ _ 0 c [] w1 P.1 P.2.1 P.2.2.1 P.2.2.2 (by intro e; injection e; omega) w.heap.size (Nat.le_refl _) (Nat.le_succ _) hB.size).mono ?_
            rintro e u' w'' ⟨rfl, rfl, g1, g2, g3⟩
            exact ⟨_, res16 _ _ _ _ _ _ _ _ rfl rfl g1 g2, _, rfl, Kd.R_nil _ _ _ _ _, hB.trans g3⟩
      | ok v rest =>
        rw [hv] at VC hD
        dsimp only at hD
        have HD := Aside0.mk hD
        have HV := Aside0.mk VC
        obtain ⟨n, n1, n2, n3⟩ := valP_drop _ _ _ hv
        have hrl : rest.length + 1 ≤ (y :: ys).length := by rw [n3, List.length_drop]; omega
        have hrx : ∀ x ∈ rest, 0 ≤ x ∧ x < 256 := fun x hx => HX.out x (by rw [n3] at hx; exact List.mem_of_mem_drop hx)
        have HRL := Aside0.mk hrl
        have HRX := Aside0.mk hrx
        clear VC hv hD n1 n2 n3 hrl hrx n
        go_wp2_with fail
        refine wp_region_noPanic ?_
        go_region_law (first | (go_simp; go_at_call 30; refine (HV.out _ HS'.out.rdr HS'.out.bel).mono ?_; rintro en w1 ⟨rfl, hR, hB, hK⟩; have T1 := Aside0.mk (HS'.out.step hR hB hK); have hl1 := T1.out.l; have hl2 := ((below_alloc (Below.refl w1.heap.size w1) (.cells #[.int .i64 v.f0, .int .i64 v.f1, .string v.f2] 35)).cell (p := ⟨w.heap.size, 0, none⟩) (Nat.lt_of_lt_of_le (by show w.heap.size < w.heap.size + 1 + 1 + 1; omega) T1.out.sz)).trans hl1; clear hR hB hK) | (refine Kd.R_append_step k35 (w0 := w1) (w.heap.size + 1 + 1 + 1) rfl (.tmp 15) (.tmp 18) 22 35 (.agg #[.int .i64 0, .int .i64 0, .string ⟨#[]⟩]) 32 rfl Tryd.underlying22 info35 rfl (by decide) (by omega) (.slice Av acc.length cv) acc v [.int .i64 v.f0, .int .i64 v.f1, .string v.f2] (fun k => w.heap.size + 1 + 1 + 1 ≤ k) (fun _ => False) rfl rfl ?aP (fun _ hk => hk.elim) ?aF ?aO ?aB ?aS ?aL ?_; (case aP => exact k35_mkM _ _ _ v); (case aB => exact Below.refl _ _); (case aF => exact (fun k hk => Nat.le_trans T1.out.sz hk)); (case aO => exact T1.out.row); (case aS => exact T1.out.sz); (case aL => have h1 := HN.out; have h2 := HL.out; rw [List.length_cons] at h1; omega); intro v79 w7 ho hb hg hat; obtain ⟨A7, c7, e7⟩ := Kd.R_slice ho; subst e7; have HO7 := Aside0.mk ho; have HB7 := Aside0.mk hb; have hl7 := (hb.cell (p := ⟨w.heap.size, 0, none⟩) (by show w.heap.size < w.heap.size + 1 + 1 + 1; omega)).trans hl1; have hf7 := (hb.frozen (p := ⟨w.heap.size, 0, none⟩) (by show w.heap.size < w.heap.size + 1 + 1 + 1; omega)).trans T1.out.fl; clear ho hb hg hat))
        all_goals
          refine NoPanic.normal ?_
          go_wp2_with fail
          go_roundg k
          case measure => exact Nat.lt_succ_self _
          case rel => exact ⟨rest, acc ++ [v], _, ⟨by have h1 := HRL.out; have h2 := HG.out; omega⟩, ⟨by have h1 := HRL.out; have h2 := HN.out; rw [List.length_append, List.length_singleton]; omega⟩, HD, HRX, ⟨by first | exact T1.out.put HO7.out HB7.out | (have hq := T1.out.put HO7.out HB7.out; rw [List.length_append, List.length_singleton] at hq; exact hq)⟩⟩
end Go.Proofs.YthoemenchimggaaDoor
