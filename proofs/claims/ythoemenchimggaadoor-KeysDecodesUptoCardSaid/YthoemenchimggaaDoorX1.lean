/- The contracts of package keys and of bytes.Clone, in the form in which the printed texts take them. -/
import Derived.Test.YthoemenchimggaaDoorK6
import Derived.Test.YthoemenchimggaaDoorK7
import Derived.Test.YthoemenchimggaaDoorK11
namespace Go.Proofs.YthoemenchimggaaDoor
open Go.RowKit Go.Proofs.YthoemenchimggaaDoorW.PrintWords A
set_option linter.unusedVariables false
theorem isEmpty_bne (l : List UInt8) : l.isEmpty = !(l != []) := by cases l <;> rfl
def bytesB (l : List Int) : Bool := l.all fun x => decide (0 ≤ x) && decide (x < 256)
theorem bytesB_iff {l : List Int} (h : bytesB l = true) : ∀ x ∈ l, 0 ≤ x ∧ x < 256 := by
  intro x hx
  have := List.all_eq_true.1 h x hx
  simpa using this
def keys_Encode.f (l0 : List S35) : Option (List Int) := if (keyL l0).length ≤ 70000000000000 then some (keyL l0) else none
theorem keys_Encode.calls (A0 : Option Addr) (c0 : Nat) (l0 : List (S35)) (r : List Int) (w : World) (hr0 : Kd.C k35 w A0 l0.length l0) (hc0 : l0.length ≤ c0) (h : keys_Encode.f l0 = some r) :
    Calls Tryd.prog 12 #[.slice A0 l0.length c0] w fun e w' => ∃ v0_ : Value, e = .returned (v0_) ∧ Kd.R (Kd.int .u8) 5 w' w.heap.size (fun _ => True) v0_ r ∧ Below w.heap.size w w' := by
  unfold keys_Encode.f at h
  split at h
  · rename_i hb
    obtain rfl := Option.some.inj h
    exact encode_calls A0 c0 l0 w hr0 hc0 hb
  · cases h
def keys_Decode.f (l0 : List Int) : Option (List S35 × Int) := if (bytesB l0 && decide (l0.length ≤ 4398046511104)) = true then some (decK l0) else none
theorem keys_Decode.calls (A0 : Option Addr) (c0 : Nat) (l0 : List Int) (r1 : List S35) (r2 : Int) (w : World) (hr0 : Kd.C (Kd.int .u8) w A0 l0.length l0) (hc0 : l0.length ≤ c0) (h : keys_Decode.f l0 = some (r1, r2)) :
    Calls Tryd.prog 16 #[.slice A0 l0.length c0] w fun e w' => ∃ v0_ : Value, e = .returned (.tuple #[v0_, .int .i64 r2]) ∧ Kd.R k35 35 w' w.heap.size (fun _ => True) v0_ r1 ∧ Below w.heap.size w w' := by
  unfold keys_Decode.f at h
  split at h
  · rename_i hb
    rw [Bool.and_eq_true] at hb
    exact decode_calls A0 c0 l0 r1 r2 w hr0 hc0 (bytesB_iff hb.1) (of_decide_eq_true hb.2) (Option.some.inj h)
  · cases h
def bytes_Clone.f (l0 : List Int) : Option (List Int) := if l0.length ≤ 140737488355328 then some l0 else none
theorem bytes_Clone.calls (A0 : Option Addr) (c0 : Nat) (l0 : List Int) (r : List Int) (w : World) (hr0 : Kd.C (Kd.int .u8) w A0 l0.length l0) (hc0 : l0.length ≤ c0) (h : bytes_Clone.f l0 = some r) :
    Calls Tryd.prog 35 #[.slice A0 l0.length c0] w fun e w' => ∃ v0_ : Value, e = .returned (v0_) ∧ Kd.R (Kd.int .u8) 5 w' w.heap.size (fun _ => True) v0_ r ∧ Below w.heap.size w w' := by
  unfold bytes_Clone.f at h
  split at h
  · rename_i hb
    obtain rfl := Option.some.inj h
    exact clone_calls A0 l0.length c0 l0 w rfl hb hr0
  · cases h
end Go.Proofs.YthoemenchimggaaDoor
