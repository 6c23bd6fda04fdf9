import Derived.Test.YtnjobnkkpfaigaaZeC6
/- Package rows: Decode, in the form in which the printed texts take it. -/
namespace Go.Proofs.Ytnjobnkkpfaigaa
open Go.RowKit Go.Proofs.YtnjobnkkpfaigaaW.PrintWords A
def bytesB (l : List Int) : Bool := l.all fun x => decide (0 ≤ x) && decide (x < 256)
theorem bytesB_iff {l : List Int} (h : bytesB l = true) : ∀ x ∈ l, 0 ≤ x ∧ x < 256 := by
  intro x hx
  have := List.all_eq_true.1 h x hx
  simpa using this
def rows_Decode.f (l0 : List S47) (l1 : List Int) : Option (List S43 × Int) :=
  if (bytesB l1 && decide (l0.length ≤ 4398046511104)) = true then some (decodeV l0 l1) else none
theorem rows_Decode.calls (A0 : Option Addr) (c0 : Nat) (l0 : List (S47)) (A1 : Option Addr) (c1 : Nat) (l1 : List Int) (r1 : List (S43)) (r2 : Int) (w : World) (hr0 : Kd.C k47 w A0 l0.length l0) (hc0 : l0.length ≤ c0) (hr1 : Kd.C (Kd.int .u8) w A1 l1.length l1) (hc1 : l1.length ≤ c1) (h : rows_Decode.f l0 l1 = some (r1, r2)) :
    Calls Try.prog 17 #[.slice A0 l0.length c0, .slice A1 l1.length c1] w fun e w' => ∃ v0_ : Value, e = .returned (.tuple #[v0_, .int .i64 r2]) ∧ Kd.R k43 43 w' w.heap.size (fun _ => True) v0_ r1 ∧ Below w.heap.size w w' := by
  unfold rows_Decode.f at h
  split at h
  · rename_i hb
    rw [Bool.and_eq_true] at hb
    exact decode_calls A0 c0 l0 A1 c1 l1 r1 r2 w hr0 hc0 hr1 hc1 (bytesB_iff hb.1) (of_decide_eq_true hb.2) (Option.some.inj h)
  · cases h
end Go.Proofs.Ytnjobnkkpfaigaa
