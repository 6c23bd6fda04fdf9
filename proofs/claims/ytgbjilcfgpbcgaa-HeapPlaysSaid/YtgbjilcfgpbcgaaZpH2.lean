import Derived.Test.YtgbjilcfgpbcgaaZpH1
import Derived.Maps.OwnSet
import Derived.Maps.OwnOps
import Derived.Lib.SlBuf
/- Layer 8: bytes.Clone; a map from whole numbers to pointers, as a function of its keys. -/
namespace Go.Proofs.Ytgbjilcfgpbcgaa
open Go.RowKit Go.Proofs.YtgbjilcfgpbcgaaW.PrintWords Go.Proofs.YtgbjilcfgpbcgaaW.PrintLast Go.Proofs.YtgbjilcfgpbcgaaW.PrintMore
open Go.Maps (Keyed)
set_option linter.unusedSimpArgs false
set_option linter.unusedVariables false
theorem info5' : (Try.prog.info? 5).map (fun i => (i.zero, i.size, i.bytes)) = some (some (.int .u8 0), 1, 1) := by kernel_rfl
theorem info3' : (Try.prog.info? 3).map (fun i => (i.zero, i.size, i.bytes)) = some (some (.int .i64 0), 1, 8) := by kernel_rfl
theorem kb_nil {W : World} {n : Nat} {xs : List Int} (h : kb.C W none n xs) : n = 0 := by
  by_cases h0 : 0 < n
  · obtain ⟨ad, e, _⟩ := h.2.2 h0
    cases e
  · omega
theorem try_nil (W : World) (a : Option Addr) (n c n' c' : Nat) : (binOp .eql 27 (.slice a n c) (.slice none n' c')).run Try.prog W = .ok (.bool a.isNone) W := Lib.run_eql_slice_nil W _ _ a n c n' c' Try.underlying27
theorem clone_calls (A : Option Addr) (n c : Nat) (xs : List Int) (w : World) (hl : xs.length = n) (hn : n ≤ 140737488355328) (h : kb.C w A n xs) :
    Calls Try.prog 31 #[.slice A n c] w fun e w' => ∃ v, e = .returned v ∧ kb.R 5 w' w.heap.size (fun _ => True) v xs ∧ Below w.heap.size w w' := by
  have q := try_nil
  have H := Aside0.mk h
  have HL := Aside0.mk hl
  clear hl
  cases A with
  | none =>
    have h0 := kb_nil h
    obtain rfl : xs = [] := List.length_eq_zero_iff.1 (by have := HL.out; omega)
    clear h
    go_enter Try.func31, Try.ntmps31
    go_wp2
    go_ret
    exact ⟨_, rfl, Kd.R_nil _ _ _ _ _, Below.refl _ _⟩
  | some a =>
    clear h
    go_enter Try.func31, Try.ntmps31
    go_wp2_with (first | ((with_reducible refine gate_dst (N := 5) rfl ?_); refine Kd.R_lit kb _ 5 ?hg (N := 5) ?hd (xs := ([] : List Int)) (inner := []) (ok := fun _ => True) (okp := fun _ => True) ?hr ?hp (fun _ hk => hk) trivial (Below.refl _ _) (Nat.le_refl _) (by simp) ?_; (case hd => rfl); (case hg => rfl); (case hr => first | (go_simp; done) | (go_simp; rfl)); (case hp => exact (Reps.none _ _)); intro v5 w1 ho4 hb hg_ hnew_; clear hg_ hnew_; have HO := Aside0.mk ho4; have HB := Aside0.mk hb; clear hb ho4) | ((with_reducible refine gate_builtin (b := .append) (xs := #[.tmp 5, .tmp 6]) rfl ?_); at_builtin; refine Kd.R_append_row (P := Try.prog) (Value.int .u8) (0 : Int) (h1 := fun _ => rfl) (w0 := w) w.heap.size rfl (.tmp 5) (.tmp 6) 27 5 (.int .u8 0) 1 rfl Try.underlying27 info5' rfl (by decide) v5 [] xs (some a) n c (fun _ => True) rfl rfl (fun _ _ => trivial) ?aO ?aR ?aB ?aS ?aL ?_; (case aO => exact HO.out); (case aR => exact Kd.C_below H.out HB.out); (case aB => exact HB.out); (case aS => exact HB.out.size); (case aL => rw [List.length_nil]; omega); intro v7 w2 ho hb hg hat; have HO7 := Aside0.mk ho; have HB7 := Aside0.mk hb; clear ho hb hg hat))
    go_ret
    exact ⟨_, rfl, HO7.out, HB7.out⟩
/-- An element read as itself. -/
def hvR (v : Value) : Option (DataW Value × List MemPlace) := some (.held v, [])
/-- Block b is a map of n entries, whole numbers its keys: key kl is there just if f kl is some value, and leads to it. -/
def MapG (w : World) (b n : Nat) (f : Lit → Option Value) : Prop :=
  ∃ D, w.ownsMap Try.prog 3 hvR b n D ∧ Maps.size D = n ∧ ∀ kl, WideAt.IsKeyLit kl → Maps.has D kl = (f kl).isSome ∧ ∀ v, f kl = some v → ∀ z, D.atKey kl z = .held v
theorem keyedI : Keyed Try.prog 3 := Maps.int_keyed Try.underlying3
abbrev keyI (c : Int) : Lit := .int .i64 c
theorem isKeyI (c : Int) : WideAt.IsKeyLit (keyI c) := by simp [WideAt.IsKeyLit]
theorem keyOfI (c : Int) (h : -9223372036854775808 ≤ c ∧ c < 9223372036854775808) : keyOf Try.prog 3 (.int .i64 c) = some (keyI c) :=
  Maps.keyOf_int_mk Try.underlying3 (by unfold Lit.wf; simp [IntKind.min, IntKind.max, IntKind.bits, IntKind.signed]; omega)
theorem zero59 (w : World) : (zeroValue 59).run Try.prog w = .ok (.pointer none) w := by kernel_rfl
theorem und55 : Try.prog.underlying 55 = some (.map 3 59) := Try.underlying55
theorem MapG.made (w : World) : MapG (w.alloc (.map #[] 0)) w.heap.size 0 (fun _ => none) :=
  ⟨.map [], World.ownsMap_made w _ 3 _, rfl, fun kl _ => ⟨rfl, fun v h => by cases h⟩⟩
theorem MapG.lt {w : World} {b n : Nat} {f : Lit → Option Value} (h : MapG w b n f) : b < w.heap.size := by
  obtain ⟨D, h1, h2⟩ := h
  exact h1.lt
theorem MapG.blk {w w' : World} {b n : Nat} {f : Lit → Option Value} (h : MapG w b n f) (hb : w'.heap[b]? = w.heap[b]?) : MapG w' b n f := by
  obtain ⟨D, ⟨es, clock, h1, h2⟩, h3⟩ := h
  exact ⟨D, ⟨es, clock, hb.trans h1, h2⟩, h3⟩
theorem MapG.look {w : World} {b n : Nat} {f : Lit → Option Value} (h : MapG w b n f) (c : Int) (hc : -9223372036854775808 ≤ c ∧ c < 9223372036854775808) :
    ∀ w' : World, w'.heap[b]? = w.heap[b]? → (Instr.lookup 55 (.map (some b)) (.int .i64 c) false).run Try.prog w' = .ok ((f (keyI c)).getD (.pointer none)) w' := by
  intro w' hw'
  obtain ⟨D, h1, _, h2⟩ := h.blk hw'
  obtain ⟨hh, hat⟩ := h2 (keyI c) (isKeyI c)
  obtain ⟨v, ps, hrun, hv⟩ := h1.lookup keyedI und55 (zero59 w') (zd := .held (.pointer none)) (zp := []) rfl (keyOfI c hc)
  rw [hrun]
  have hv' : DataW.held v = D.atKey (keyI c) (.held (.pointer none)) := congrArg Prod.fst (Option.some.inj hv)
  cases hf : f (keyI c) with
  | none =>
    rw [hf] at hh
    rw [Maps.atKey_of_not_has hh] at hv'
    injection hv' with hv'
    rw [hv']; rfl
  | some u =>
    rw [hat u hf] at hv'
    injection hv' with hv'
    rw [hv']; rfl
theorem MapG.len {w : World} {b n : Nat} {f : Lit → Option Value} (h : MapG w b n f) (ty : TypeId) : (Builtin.len_ #[55] ty #[.map (some b)]).run Try.prog w = .ok (.int .i64 n) w := by
  obtain ⟨D, h1, h2, _⟩ := h
  rw [h1.len und55 ty, h2]
/-- One entry more. -/
theorem MapG.store {w : World} {b n : Nat} {f f' : Lit → Option Value} (h : MapG w b n f) (c : Int) (hc : -9223372036854775808 ≤ c ∧ c < 9223372036854775808) (hn : n < 9223372036854775807) (val : Value) (hnew : f (keyI c) = none) (hs : f' (keyI c) = some val) (ho : ∀ kl, kl ≠ keyI c → f' kl = f kl) :
    ∃ w', (Instr.mapUpdate 55 (.map (some b)) (.int .i64 c) val).run Try.prog w = .ok () w' ∧ MapG w' b (n + 1) f' ∧ w.grownBy w' (some b) := by
  obtain ⟨D, h1, h0, h2⟩ := h
  have hk := isKeyI c
  obtain ⟨w', hrun, h3, h4⟩ := h1.update keyedI und55 (by unfold maxLen; omega) (val := val) (d := .held val) (ps := []) (keyOfI c hc) rfl
  refine ⟨w', hrun, ⟨_, h3, ?_, fun x hx => ?_⟩, h4⟩
  · rw [Maps.size_put (h1.tidy keyedI), (h2 (keyI c) hk).1, hnew, h0]; rfl
  · by_cases e : x = keyI c
    · subst e
      rw [hs]
      refine ⟨Maps.has_put_same h1.isMap hk _, fun v hv z => ?_⟩
      obtain rfl := Option.some.inj hv
      exact Maps.atKey_put_same h1.isMap hk _ _
    · rw [ho x e]
      refine ⟨(Maps.has_put_other e _).trans (h2 x hx).1, fun v hv z => ?_⟩
      exact (Maps.atKey_put_other e _ _).trans ((h2 x hx).2 v hv z)
theorem own_tight {w : World} {b n : Nat} {D : DataW Value} (h : w.ownsMap Try.prog 3 hvR b n D) : w.ownsMap Try.prog 3 hvR b (Maps.size D) D := by
  obtain ⟨es, clock, hb, F, hs, rfl⟩ := h
  exact ⟨es, clock, hb, F, by rw [Maps.size_eq, length_sorted]; simp, rfl⟩
/-- One entry less. -/
theorem MapG.del {w : World} {b n : Nat} {f f' : Lit → Option Value} (h : MapG w b (n + 1) f) (c : Int) (hc : -9223372036854775808 ≤ c ∧ c < 9223372036854775808) (hold : (f (keyI c)).isSome = true) (hs : f' (keyI c) = none) (ho : ∀ kl, kl ≠ keyI c → f' kl = f kl) (ty : TypeId) :
    ∃ w', (Builtin.delete_ #[55, 3] ty #[.map (some b), .int .i64 c]).run Try.prog w = .ok (.tuple #[]) w' ∧ MapG w' b n f' ∧ w.grownBy w' (some b) := by
  obtain ⟨D, h1, h0, h2⟩ := h
  have hk := isKeyI c
  obtain ⟨w', hrun, h3, h4⟩ := h1.drop keyedI und55 (keyOfI c hc) ty
  have hhas : Maps.has D (keyI c) = true := (h2 (keyI c) hk).1.trans hold
  have hsz : Maps.size (D.del (keyI c)) = n := by
    have := Maps.size_del (k := keyI c) (h1.tidy keyedI)
    rw [hhas, if_pos rfl, h0] at this
    omega
  refine ⟨w', hrun, ⟨_, ?_, hsz, fun x hx => ?_⟩, h4.grown⟩
  · have := own_tight h3
    rwa [hsz] at this
  · by_cases e : x = keyI c
    · subst e
      rw [hs]
      exact ⟨Maps.has_del_same, fun v hv => by cases hv⟩
    · rw [ho x e]
      refine ⟨(Maps.has_del_other e).trans (h2 x hx).1, fun v hv z => ?_⟩
      exact (Maps.atKey_del_other e _).trans ((h2 x hx).2 v hv z)
end Go.Proofs.Ytgbjilcfgpbcgaa
