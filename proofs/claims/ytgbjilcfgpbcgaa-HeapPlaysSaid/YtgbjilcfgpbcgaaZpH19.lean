import Derived.Test.YtgbjilcfgpbcgaaZpH18
/- Layer 8: HeapBacks, walked. -/
namespace Go.Proofs.Ytgbjilcfgpbcgaa
open Go.RowKit Go.Proofs.YtgbjilcfgpbcgaaW.PrintWords Go.Proofs.YtgbjilcfgpbcgaaW.PrintLast Go.Proofs.YtgbjilcfgpbcgaaW.PrintMore
set_option linter.unusedSimpArgs false
set_option linter.unusedVariables false
theorem Nx.row {B : Nat} {w w' : World} {hb : Nat} {O O' : Nat → Prop} {S' : St} {N' : Int} (h : Nx B w hb O S' N' w' O') {b : Nat} {v : Value} {xs : List Int} (hr : kb.R 5 w b (fun k => ¬ O k) v xs) : kb.R 5 w' b (fun k => ¬ O' k) v xs :=
  Kd.R_mono (ok := fun k => ¬ O k ∧ k < w.heap.size) (Kd.R_step (Kd.R_mono (Kd.R_bound hr) fun k hk => ⟨hk.1, hk.2.2.1⟩) fun k hk hl => h.fr.kept.2 k hl hk.1) fun k hk ho => hk.1 (h.old k hk.2 ho)
theorem H8.back_some {B : Nat} {w : World} {hb : Nat} {S : St} {N : Int} {O : Nat → Prop} {id : Int} (h : H8 B w hb (dropP S id) N O) (hI : Inv N S) (hN : N ≤ 4000000000000) (hid : I64 id) {x : Ent} (hf : findP S id = some x) {bb : Nat} {A : Option Addr} {n c : Nat} {xs : List Int} (hr : kb.R 5 w bb (fun k => ¬ O k) (.slice A n c) xs) (hn : n ≤ 140737488355328) :
    Calls Try.prog 16 #[.pointer (some ⟨hb, 0, none⟩), .int .i64 id, .slice A n c] w fun e w' => e = .returned (.bool true) ∧ Nx B w hb O (layP (dropP S id) id xs) (N + 1) w' (grow O w w') :=
  (h.back hN id hid hr hn).mono fun e w' ⟨he, hn⟩ => by rw [back_ok hI hf, if_pos rfl] at hn; rw [back_ok hI hf] at he; exact ⟨he, hn⟩
/-- What is known of a call that came in. -/
abbrev Q38 (x : S38) : Prop := I64 x.f0 ∧ I64 x.f1 ∧ x.f2.length ≤ 140737488351232
end Go.Proofs.Ytgbjilcfgpbcgaa
