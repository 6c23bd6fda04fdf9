import Derived.Test.YtgbjilcfgpbcgaaZwH17
/- Layer 8: what came in (calls of a script); the plain law of HeapBacks. -/
namespace Go.Proofs.Ytgbjilcfgpbcgaa
open Go.RowKit Go.Proofs.YtgbjilcfgpbcgaaW.PrintWords Go.Proofs.YtgbjilcfgpbcgaaW.PrintLast Go.Proofs.YtgbjilcfgpbcgaaW.PrintMore
set_option linter.unusedSimpArgs false
set_option linter.unusedVariables false
/-- A call of a script. -/
structure S38 where
  f0 : Int
  f1 : Int
  f2 : List Int
def z38 : S38 := ⟨0, 0, []⟩
def k38 : Kd S38 := Kd.iso (Kd.pair (Kd.int .i64) (Kd.pair (Kd.int .i64) (Kd.slice 5 (Kd.int .u8)))) (fun x : S38 => (x.f0, x.f1, x.f2))
def rd38 (xs : List S38) (i : Nat) : S38 := xs.getD i z38
/-- A row goes and comes back. -/
theorem back_ok {N : Int} {S : St} (hI : Inv N S) {id : Int} {x : Ent} (hf : findP S id = some x) : backB (dropP S id) id = true := by
  obtain ⟨hx, he⟩ := find_some hf
  have hr := hI.idr x hx
  rw [he] at hr
  unfold backB
  rw [drop_last, decide_eq_true hr.1, decide_eq_true hr.2]
  have : findP (dropP S id) id = none := List.find?_eq_none.2 fun e he' => by
    have := ((mem_drop hI hf e).1 he').2
    simpa using this
  rw [this]; rfl
end Go.Proofs.Ytgbjilcfgpbcgaa
