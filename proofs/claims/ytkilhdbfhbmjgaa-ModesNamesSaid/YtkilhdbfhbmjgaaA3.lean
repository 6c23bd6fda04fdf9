import Derived.Test.YtkilhdbfhbmjgaaA25
namespace Go.Proofs.Ytkilhdbfhbmjgaa
open Go.RowKit
theorem refTog_idx0 (b : Int) (hb : isKnown b = true) : ∃ c : Int, (togT 0 b = (c == 121)) ∧ (48 ≤ c ∧ c ≤ 121) ∧ ∀ w, (Instr.index 9 (.string ⟨#[121, 121, 121, 121, 121, 121, 121]⟩) (.int .i64 b)).run Try.prog w = .ok (.int .u8 c) w := by
  rcases known_cases hb with rfl | rfl | rfl | rfl | rfl | rfl | rfl
  · exact ⟨121, by decide +kernel, by decide, fun w => by kernel_rfl⟩
  · exact ⟨121, by decide +kernel, by decide, fun w => by kernel_rfl⟩
  · exact ⟨121, by decide +kernel, by decide, fun w => by kernel_rfl⟩
  · exact ⟨121, by decide +kernel, by decide, fun w => by kernel_rfl⟩
  · exact ⟨121, by decide +kernel, by decide, fun w => by kernel_rfl⟩
  · exact ⟨121, by decide +kernel, by decide, fun w => by kernel_rfl⟩
  · exact ⟨121, by decide +kernel, by decide, fun w => by kernel_rfl⟩
theorem refTog_idx1 (b : Int) (hb : isKnown b = true) : ∃ c : Int, (togT 1 b = (c == 121)) ∧ (48 ≤ c ∧ c ≤ 121) ∧ ∀ w, (Instr.index 9 (.string ⟨#[121, 121, 121, 121, 121, 121, 110]⟩) (.int .i64 b)).run Try.prog w = .ok (.int .u8 c) w := by
  rcases known_cases hb with rfl | rfl | rfl | rfl | rfl | rfl | rfl
  · exact ⟨121, by decide +kernel, by decide, fun w => by kernel_rfl⟩
  · exact ⟨121, by decide +kernel, by decide, fun w => by kernel_rfl⟩
  · exact ⟨121, by decide +kernel, by decide, fun w => by kernel_rfl⟩
  · exact ⟨121, by decide +kernel, by decide, fun w => by kernel_rfl⟩
  · exact ⟨121, by decide +kernel, by decide, fun w => by kernel_rfl⟩
  · exact ⟨121, by decide +kernel, by decide, fun w => by kernel_rfl⟩
  · exact ⟨110, by decide +kernel, by decide, fun w => by kernel_rfl⟩
theorem refTog_idx2 (b : Int) (hb : isKnown b = true) : ∃ c : Int, (togT 2 b = (c == 121)) ∧ (48 ≤ c ∧ c ≤ 121) ∧ ∀ w, (Instr.index 9 (.string ⟨#[121, 121, 121, 110, 110, 110, 110]⟩) (.int .i64 b)).run Try.prog w = .ok (.int .u8 c) w := by
  rcases known_cases hb with rfl | rfl | rfl | rfl | rfl | rfl | rfl
  · exact ⟨121, by decide +kernel, by decide, fun w => by kernel_rfl⟩
  · exact ⟨121, by decide +kernel, by decide, fun w => by kernel_rfl⟩
  · exact ⟨121, by decide +kernel, by decide, fun w => by kernel_rfl⟩
  · exact ⟨110, by decide +kernel, by decide, fun w => by kernel_rfl⟩
  · exact ⟨110, by decide +kernel, by decide, fun w => by kernel_rfl⟩
  · exact ⟨110, by decide +kernel, by decide, fun w => by kernel_rfl⟩
  · exact ⟨110, by decide +kernel, by decide, fun w => by kernel_rfl⟩
theorem refTog_idx3 (b : Int) (hb : isKnown b = true) : ∃ c : Int, (togT 3 b = (c == 121)) ∧ (48 ≤ c ∧ c ≤ 121) ∧ ∀ w, (Instr.index 9 (.string ⟨#[121, 121, 110, 121, 110, 121, 110]⟩) (.int .i64 b)).run Try.prog w = .ok (.int .u8 c) w := by
  rcases known_cases hb with rfl | rfl | rfl | rfl | rfl | rfl | rfl
  · exact ⟨121, by decide +kernel, by decide, fun w => by kernel_rfl⟩
  · exact ⟨121, by decide +kernel, by decide, fun w => by kernel_rfl⟩
  · exact ⟨110, by decide +kernel, by decide, fun w => by kernel_rfl⟩
  · exact ⟨121, by decide +kernel, by decide, fun w => by kernel_rfl⟩
  · exact ⟨110, by decide +kernel, by decide, fun w => by kernel_rfl⟩
  · exact ⟨121, by decide +kernel, by decide, fun w => by kernel_rfl⟩
  · exact ⟨110, by decide +kernel, by decide, fun w => by kernel_rfl⟩
theorem refTog_idx4 (b : Int) (hb : isKnown b = true) : ∃ c : Int, (togT 4 b = (c == 121)) ∧ (48 ≤ c ∧ c ≤ 121) ∧ ∀ w, (Instr.index 9 (.string ⟨#[121, 121, 110, 110, 110, 110, 110]⟩) (.int .i64 b)).run Try.prog w = .ok (.int .u8 c) w := by
  rcases known_cases hb with rfl | rfl | rfl | rfl | rfl | rfl | rfl
  · exact ⟨121, by decide +kernel, by decide, fun w => by kernel_rfl⟩
  · exact ⟨121, by decide +kernel, by decide, fun w => by kernel_rfl⟩
  · exact ⟨110, by decide +kernel, by decide, fun w => by kernel_rfl⟩
  · exact ⟨110, by decide +kernel, by decide, fun w => by kernel_rfl⟩
  · exact ⟨110, by decide +kernel, by decide, fun w => by kernel_rfl⟩
  · exact ⟨110, by decide +kernel, by decide, fun w => by kernel_rfl⟩
  · exact ⟨110, by decide +kernel, by decide, fun w => by kernel_rfl⟩
theorem refTog_idx5 (b : Int) (hb : isKnown b = true) : ∃ c : Int, (togT 5 b = (c == 121)) ∧ (48 ≤ c ∧ c ≤ 121) ∧ ∀ w, (Instr.index 9 (.string ⟨#[121, 121, 110, 121, 110, 110, 110]⟩) (.int .i64 b)).run Try.prog w = .ok (.int .u8 c) w := by
  rcases known_cases hb with rfl | rfl | rfl | rfl | rfl | rfl | rfl
  · exact ⟨121, by decide +kernel, by decide, fun w => by kernel_rfl⟩
  · exact ⟨121, by decide +kernel, by decide, fun w => by kernel_rfl⟩
  · exact ⟨110, by decide +kernel, by decide, fun w => by kernel_rfl⟩
  · exact ⟨121, by decide +kernel, by decide, fun w => by kernel_rfl⟩
  · exact ⟨110, by decide +kernel, by decide, fun w => by kernel_rfl⟩
  · exact ⟨110, by decide +kernel, by decide, fun w => by kernel_rfl⟩
  · exact ⟨110, by decide +kernel, by decide, fun w => by kernel_rfl⟩
theorem refTog_idx6 (b : Int) (hb : isKnown b = true) : ∃ c : Int, (togT 6 b = (c == 121)) ∧ (48 ≤ c ∧ c ≤ 121) ∧ ∀ w, (Instr.index 9 (.string ⟨#[121, 110, 110, 110, 110, 110, 110]⟩) (.int .i64 b)).run Try.prog w = .ok (.int .u8 c) w := by
  rcases known_cases hb with rfl | rfl | rfl | rfl | rfl | rfl | rfl
  · exact ⟨121, by decide +kernel, by decide, fun w => by kernel_rfl⟩
  · exact ⟨110, by decide +kernel, by decide, fun w => by kernel_rfl⟩
  · exact ⟨110, by decide +kernel, by decide, fun w => by kernel_rfl⟩
  · exact ⟨110, by decide +kernel, by decide, fun w => by kernel_rfl⟩
  · exact ⟨110, by decide +kernel, by decide, fun w => by kernel_rfl⟩
  · exact ⟨110, by decide +kernel, by decide, fun w => by kernel_rfl⟩
  · exact ⟨110, by decide +kernel, by decide, fun w => by kernel_rfl⟩

set_option maxHeartbeats 4000000 in
theorem refTog_calls (a b : Int) (w : World) :
    Calls Try.prog 10 #[.int .i64 a, .int .i64 b] w fun e w' => e = .returned (.bool (togT a b)) ∧ Below w.heap.size w w' := by
  cases ka : isKnown a
  · have Hk := Lib.hid ka
    rcases unknown_cases ka with h | ⟨h0, h⟩
    all_goals
      clear ka
      go_enter Try.func10, Try.ntmps10
      go_wp2
      go_ret
      exact ⟨ret_bool (by simp [togT, tog, Hk.out]), (Below.refl _ _).alloc (Nat.le_refl _) _⟩
  · cases kb : isKnown b
    · have Hk := Lib.hid kb
      obtain ⟨ha0, ha1⟩ := known_range ka
      rcases unknown_cases kb with h | ⟨h0, h⟩
      all_goals
        clear ka kb
        go_enter Try.func10, Try.ntmps10
        go_wp2
        go_ret
        exact ⟨ret_bool (by simp [togT, tog, Hk.out]), (Below.refl _ _).alloc (Nat.le_refl _) _⟩
    · obtain ⟨hb0, hb1⟩ := known_range kb
      rcases known_cases ka with rfl | rfl | rfl | rfl | rfl | rfl | rfl
      · obtain ⟨c, hc, ⟨hc0, hc1⟩, hi⟩ := refTog_idx0 b kb
        have Hc := Lib.hid hc
        clear ka kb hc
        go_enter Try.func10, Try.ntmps10
        go_wp2
        go_ret
        exact ⟨ret_bool Hc.out.symm, (Below.refl _ _).alloc (Nat.le_refl _) _⟩
      · obtain ⟨c, hc, ⟨hc0, hc1⟩, hi⟩ := refTog_idx1 b kb
        have Hc := Lib.hid hc
        clear ka kb hc
        go_enter Try.func10, Try.ntmps10
        go_wp2
        go_ret
        exact ⟨ret_bool Hc.out.symm, (Below.refl _ _).alloc (Nat.le_refl _) _⟩
      · obtain ⟨c, hc, ⟨hc0, hc1⟩, hi⟩ := refTog_idx2 b kb
        have Hc := Lib.hid hc
        clear ka kb hc
        go_enter Try.func10, Try.ntmps10
        go_wp2
        go_ret
        exact ⟨ret_bool Hc.out.symm, (Below.refl _ _).alloc (Nat.le_refl _) _⟩
      · obtain ⟨c, hc, ⟨hc0, hc1⟩, hi⟩ := refTog_idx3 b kb
        have Hc := Lib.hid hc
        clear ka kb hc
        go_enter Try.func10, Try.ntmps10
        go_wp2
        go_ret
        exact ⟨ret_bool Hc.out.symm, (Below.refl _ _).alloc (Nat.le_refl _) _⟩
      · obtain ⟨c, hc, ⟨hc0, hc1⟩, hi⟩ := refTog_idx4 b kb
        have Hc := Lib.hid hc
        clear ka kb hc
        go_enter Try.func10, Try.ntmps10
        go_wp2
        go_ret
        exact ⟨ret_bool Hc.out.symm, (Below.refl _ _).alloc (Nat.le_refl _) _⟩
      · obtain ⟨c, hc, ⟨hc0, hc1⟩, hi⟩ := refTog_idx5 b kb
        have Hc := Lib.hid hc
        clear ka kb hc
        go_enter Try.func10, Try.ntmps10
        go_wp2
        go_ret
        exact ⟨ret_bool Hc.out.symm, (Below.refl _ _).alloc (Nat.le_refl _) _⟩
      · obtain ⟨c, hc, ⟨hc0, hc1⟩, hi⟩ := refTog_idx6 b kb
        have Hc := Lib.hid hc
        clear ka kb hc
        go_enter Try.func10, Try.ntmps10
        go_wp2
        go_ret
        exact ⟨ret_bool Hc.out.symm, (Below.refl _ _).alloc (Nat.le_refl _) _⟩
theorem refJoin_idx0 (b : Int) (hb : isKnown b = true) : ∃ c : Int, (joinT 0 b = c - 48) ∧ (48 ≤ c ∧ c ≤ 121) ∧ ∀ w, (Instr.index 9 (.string ⟨#[48, 49, 50, 51, 52, 53, 54]⟩) (.int .i64 b)).run Try.prog w = .ok (.int .u8 c) w := by
  rcases known_cases hb with rfl | rfl | rfl | rfl | rfl | rfl | rfl
  · exact ⟨48, by decide +kernel, by decide, fun w => by kernel_rfl⟩
  · exact ⟨49, by decide +kernel, by decide, fun w => by kernel_rfl⟩
  · exact ⟨50, by decide +kernel, by decide, fun w => by kernel_rfl⟩
  · exact ⟨51, by decide +kernel, by decide, fun w => by kernel_rfl⟩
  · exact ⟨52, by decide +kernel, by decide, fun w => by kernel_rfl⟩
  · exact ⟨53, by decide +kernel, by decide, fun w => by kernel_rfl⟩
  · exact ⟨54, by decide +kernel, by decide, fun w => by kernel_rfl⟩
theorem refJoin_idx1 (b : Int) (hb : isKnown b = true) : ∃ c : Int, (joinT 1 b = c - 48) ∧ (48 ≤ c ∧ c ≤ 121) ∧ ∀ w, (Instr.index 9 (.string ⟨#[49, 49, 50, 51, 52, 53, 54]⟩) (.int .i64 b)).run Try.prog w = .ok (.int .u8 c) w := by
  rcases known_cases hb with rfl | rfl | rfl | rfl | rfl | rfl | rfl
  · exact ⟨49, by decide +kernel, by decide, fun w => by kernel_rfl⟩
  · exact ⟨49, by decide +kernel, by decide, fun w => by kernel_rfl⟩
  · exact ⟨50, by decide +kernel, by decide, fun w => by kernel_rfl⟩
  · exact ⟨51, by decide +kernel, by decide, fun w => by kernel_rfl⟩
  · exact ⟨52, by decide +kernel, by decide, fun w => by kernel_rfl⟩
  · exact ⟨53, by decide +kernel, by decide, fun w => by kernel_rfl⟩
  · exact ⟨54, by decide +kernel, by decide, fun w => by kernel_rfl⟩
theorem refJoin_idx2 (b : Int) (hb : isKnown b = true) : ∃ c : Int, (joinT 2 b = c - 48) ∧ (48 ≤ c ∧ c ≤ 121) ∧ ∀ w, (Instr.index 9 (.string ⟨#[50, 50, 50, 52, 52, 54, 54]⟩) (.int .i64 b)).run Try.prog w = .ok (.int .u8 c) w := by
  rcases known_cases hb with rfl | rfl | rfl | rfl | rfl | rfl | rfl
  · exact ⟨50, by decide +kernel, by decide, fun w => by kernel_rfl⟩
  · exact ⟨50, by decide +kernel, by decide, fun w => by kernel_rfl⟩
  · exact ⟨50, by decide +kernel, by decide, fun w => by kernel_rfl⟩
  · exact ⟨52, by decide +kernel, by decide, fun w => by kernel_rfl⟩
  · exact ⟨52, by decide +kernel, by decide, fun w => by kernel_rfl⟩
  · exact ⟨54, by decide +kernel, by decide, fun w => by kernel_rfl⟩
  · exact ⟨54, by decide +kernel, by decide, fun w => by kernel_rfl⟩
theorem refJoin_idx3 (b : Int) (hb : isKnown b = true) : ∃ c : Int, (joinT 3 b = c - 48) ∧ (48 ≤ c ∧ c ≤ 121) ∧ ∀ w, (Instr.index 9 (.string ⟨#[51, 51, 52, 51, 52, 53, 54]⟩) (.int .i64 b)).run Try.prog w = .ok (.int .u8 c) w := by
  rcases known_cases hb with rfl | rfl | rfl | rfl | rfl | rfl | rfl
  · exact ⟨51, by decide +kernel, by decide, fun w => by kernel_rfl⟩
  · exact ⟨51, by decide +kernel, by decide, fun w => by kernel_rfl⟩
  · exact ⟨52, by decide +kernel, by decide, fun w => by kernel_rfl⟩
  · exact ⟨51, by decide +kernel, by decide, fun w => by kernel_rfl⟩
  · exact ⟨52, by decide +kernel, by decide, fun w => by kernel_rfl⟩
  · exact ⟨53, by decide +kernel, by decide, fun w => by kernel_rfl⟩
  · exact ⟨54, by decide +kernel, by decide, fun w => by kernel_rfl⟩
theorem refJoin_idx4 (b : Int) (hb : isKnown b = true) : ∃ c : Int, (joinT 4 b = c - 48) ∧ (48 ≤ c ∧ c ≤ 121) ∧ ∀ w, (Instr.index 9 (.string ⟨#[52, 52, 52, 52, 52, 54, 54]⟩) (.int .i64 b)).run Try.prog w = .ok (.int .u8 c) w := by
  rcases known_cases hb with rfl | rfl | rfl | rfl | rfl | rfl | rfl
  · exact ⟨52, by decide +kernel, by decide, fun w => by kernel_rfl⟩
  · exact ⟨52, by decide +kernel, by decide, fun w => by kernel_rfl⟩
  · exact ⟨52, by decide +kernel, by decide, fun w => by kernel_rfl⟩
  · exact ⟨52, by decide +kernel, by decide, fun w => by kernel_rfl⟩
  · exact ⟨52, by decide +kernel, by decide, fun w => by kernel_rfl⟩
  · exact ⟨54, by decide +kernel, by decide, fun w => by kernel_rfl⟩
  · exact ⟨54, by decide +kernel, by decide, fun w => by kernel_rfl⟩
theorem refJoin_idx5 (b : Int) (hb : isKnown b = true) : ∃ c : Int, (joinT 5 b = c - 48) ∧ (48 ≤ c ∧ c ≤ 121) ∧ ∀ w, (Instr.index 9 (.string ⟨#[53, 53, 54, 53, 54, 53, 54]⟩) (.int .i64 b)).run Try.prog w = .ok (.int .u8 c) w := by
  rcases known_cases hb with rfl | rfl | rfl | rfl | rfl | rfl | rfl
  · exact ⟨53, by decide +kernel, by decide, fun w => by kernel_rfl⟩
  · exact ⟨53, by decide +kernel, by decide, fun w => by kernel_rfl⟩
  · exact ⟨54, by decide +kernel, by decide, fun w => by kernel_rfl⟩
  · exact ⟨53, by decide +kernel, by decide, fun w => by kernel_rfl⟩
  · exact ⟨54, by decide +kernel, by decide, fun w => by kernel_rfl⟩
  · exact ⟨53, by decide +kernel, by decide, fun w => by kernel_rfl⟩
  · exact ⟨54, by decide +kernel, by decide, fun w => by kernel_rfl⟩
theorem refJoin_idx6 (b : Int) (hb : isKnown b = true) : ∃ c : Int, (joinT 6 b = c - 48) ∧ (48 ≤ c ∧ c ≤ 121) ∧ ∀ w, (Instr.index 9 (.string ⟨#[54, 54, 54, 54, 54, 54, 54]⟩) (.int .i64 b)).run Try.prog w = .ok (.int .u8 c) w := by
  rcases known_cases hb with rfl | rfl | rfl | rfl | rfl | rfl | rfl
  · exact ⟨54, by decide +kernel, by decide, fun w => by kernel_rfl⟩
  · exact ⟨54, by decide +kernel, by decide, fun w => by kernel_rfl⟩
  · exact ⟨54, by decide +kernel, by decide, fun w => by kernel_rfl⟩
  · exact ⟨54, by decide +kernel, by decide, fun w => by kernel_rfl⟩
  · exact ⟨54, by decide +kernel, by decide, fun w => by kernel_rfl⟩
  · exact ⟨54, by decide +kernel, by decide, fun w => by kernel_rfl⟩
  · exact ⟨54, by decide +kernel, by decide, fun w => by kernel_rfl⟩

set_option maxHeartbeats 4000000 in
theorem refJoin_calls (a b : Int) (w : World) :
    Calls Try.prog 12 #[.int .i64 a, .int .i64 b] w fun e w' => e = .returned (.int .i64 (joinT a b)) ∧ Below w.heap.size w w' := by
  cases ka : isKnown a
  · have Hk := Lib.hid ka
    rcases unknown_cases ka with h | ⟨h0, h⟩
    all_goals
      clear ka
      go_enter Try.func12, Try.ntmps12
      go_wp2
      go_ret
      exact ⟨ret_int (by simp [joinT, Hk.out]), (Below.refl _ _).alloc (Nat.le_refl _) _⟩
  · cases kb : isKnown b
    · have Hk := Lib.hid kb
      obtain ⟨ha0, ha1⟩ := known_range ka
      rcases unknown_cases kb with h | ⟨h0, h⟩
      all_goals
        clear ka kb
        go_enter Try.func12, Try.ntmps12
        go_wp2
        go_ret
        exact ⟨ret_int (by simp [joinT, Hk.out]), (Below.refl _ _).alloc (Nat.le_refl _) _⟩
    · obtain ⟨hb0, hb1⟩ := known_range kb
      rcases known_cases ka with rfl | rfl | rfl | rfl | rfl | rfl | rfl
      · obtain ⟨c, hc, ⟨hc0, hc1⟩, hi⟩ := refJoin_idx0 b kb
        have Hc := Lib.hid hc
        clear ka kb hc
        go_enter Try.func12, Try.ntmps12
        go_wp2
        go_ret
        exact ⟨ret_int Hc.out.symm, (Below.refl _ _).alloc (Nat.le_refl _) _⟩
      · obtain ⟨c, hc, ⟨hc0, hc1⟩, hi⟩ := refJoin_idx1 b kb
        have Hc := Lib.hid hc
        clear ka kb hc
        go_enter Try.func12, Try.ntmps12
        go_wp2
        go_ret
        exact ⟨ret_int Hc.out.symm, (Below.refl _ _).alloc (Nat.le_refl _) _⟩
      · obtain ⟨c, hc, ⟨hc0, hc1⟩, hi⟩ := refJoin_idx2 b kb
        have Hc := Lib.hid hc
        clear ka kb hc
        go_enter Try.func12, Try.ntmps12
        go_wp2
        go_ret
        exact ⟨ret_int Hc.out.symm, (Below.refl _ _).alloc (Nat.le_refl _) _⟩
      · obtain ⟨c, hc, ⟨hc0, hc1⟩, hi⟩ := refJoin_idx3 b kb
        have Hc := Lib.hid hc
        clear ka kb hc
        go_enter Try.func12, Try.ntmps12
        go_wp2
        go_ret
        exact ⟨ret_int Hc.out.symm, (Below.refl _ _).alloc (Nat.le_refl _) _⟩
      · obtain ⟨c, hc, ⟨hc0, hc1⟩, hi⟩ := refJoin_idx4 b kb
        have Hc := Lib.hid hc
        clear ka kb hc
        go_enter Try.func12, Try.ntmps12
        go_wp2
        go_ret
        exact ⟨ret_int Hc.out.symm, (Below.refl _ _).alloc (Nat.le_refl _) _⟩
      · obtain ⟨c, hc, ⟨hc0, hc1⟩, hi⟩ := refJoin_idx5 b kb
        have Hc := Lib.hid hc
        clear ka kb hc
        go_enter Try.func12, Try.ntmps12
        go_wp2
        go_ret
        exact ⟨ret_int Hc.out.symm, (Below.refl _ _).alloc (Nat.le_refl _) _⟩
      · obtain ⟨c, hc, ⟨hc0, hc1⟩, hi⟩ := refJoin_idx6 b kb
        have Hc := Lib.hid hc
        clear ka kb hc
        go_enter Try.func12, Try.ntmps12
        go_wp2
        go_ret
        exact ⟨ret_int Hc.out.symm, (Below.refl _ _).alloc (Nat.le_refl _) _⟩
end Go.Proofs.Ytkilhdbfhbmjgaa
