/- Package grades and package fit on right arguments. -/
import Derived.Test.YtdcedfciaaooiaaU15
import Derived.Test.YtdcedfciaaooiaaX1
set_option linter.unusedVariables false
namespace Go.Proofs.Ytdcedfciaaooiaa
open Go.RowKit

theorem gsized_any (n : Int) (w : World) : Calls Try.prog 81 #[.int .i64 n] w fun e w' => e = .returned (.int .i64 (sizeE n)) ∧ w = w' := by
  have hx : n < 1 ∨ 100000 < n ∨ (1 ≤ n ∧ n ≤ 100000) := by omega
  rcases hx with h | h | h
  all_goals
    go_enter Try.func81, Try.ntmps81
    go_wp2
    go_ret
    exact ⟨reti (by unfold sizeE; split <;> omega), rfl⟩
theorem fsized_any (n : Int) (w : World) : Calls Try.prog 104 #[.int .i64 n] w fun e w' => e = .returned (.int .i64 (sizeE n)) ∧ w = w' := by
  have hx : n < 1 ∨ 100000 < n ∨ (1 ≤ n ∧ n ≤ 100000) := by omega
  rcases hx with h | h | h
  all_goals
    go_enter Try.func104, Try.ntmps104
    go_wp2
    go_ret
    exact ⟨reti (by unfold sizeE; split <;> omega), rfl⟩
theorem rsize_any (n : Int) (w : World) : Calls Try.prog 101 #[.int .i64 n] w fun e w' => e = .returned (.int .i64 (sizeE n)) ∧ w = w' := by
  have hx : n < 1 ∨ 100000 < n ∨ (1 ≤ n ∧ n ≤ 100000) := by omega
  rcases hx with h | h | h
  all_goals
    go_enter Try.func101, Try.ntmps101
    go_wp2
    go_ret
    exact ⟨reti (by unfold sizeE; split <;> omega), rfl⟩
theorem graded_any (n : Int) (w : World) : Calls Try.prog 82 #[.int .i64 n] w fun e w' => e = .returned (.int .i64 (gradeE n)) ∧ w = w' := by
  have hx : n < 5 ∨ 12 < n ∨ (5 ≤ n ∧ n ≤ 12) := by omega
  rcases hx with h | h | h
  all_goals
    go_enter Try.func82, Try.ntmps82
    go_wp2
    go_ret
    exact ⟨reti (by unfold gradeE; split <;> omega), rfl⟩
theorem gcheck_any (b : Bool) (k g : Int) (w : World) : Calls Try.prog 84 #[.agg #[.bool b, .int .i64 k, .int .i64 g]] w (Ret (.int .i64 (classE k g)) w) := by
  have hx : k < 0 ∨ 9 < k ∨ (0 ≤ k ∧ k ≤ 9) := by omega
  rcases hx with h | h | h
  all_goals
    have hc : ∀ r, (k < 0 ∨ 9 < k) → r = 1 → r = classE k g := fun r hr h => by unfold classE; rw [if_pos hr, h]
    have hd : ¬ (k < 0 ∨ 9 < k) → classE k g = gradeE g := fun hr => by unfold classE; rw [if_neg hr]
    go_enter Try.func84, Try.ntmps84
    go_wp2_with (first | (go_at_call 82; refine (graded_any _ _).mono ?_; rintro e w' ⟨rfl, rfl⟩))
    go_ret
    first
      | exact Ret.int (hc _ (by omega) rfl) (by (repeat (first | (with_reducible assumption) | with_reducible exact Ext.refl _ | with_reducible apply Ext.alloc | with_reducible apply Ext.drew | with_reducible apply Ext.drewN | ((with_reducible apply Ext.set); case hp => (first | (simp; done) | (dsimp only; omega) | omega)) | ((with_reducible apply Ext.trans); case k => with_reducible assumption))))
      | exact Ret.int (hd (by omega)).symm (by (repeat (first | (with_reducible assumption) | with_reducible exact Ext.refl _ | with_reducible apply Ext.alloc | with_reducible apply Ext.drew | with_reducible apply Ext.drewN | ((with_reducible apply Ext.set); case hp => (first | (simp; done) | (dsimp only; omega) | omega)) | ((with_reducible apply Ext.trans); case k => with_reducible assumption))))
theorem rcheck15_any (b : Bool) (k g : Int) (w : World) : Calls Try.prog 102 #[.agg #[.bool b, .int .i64 k, .int .i64 g]] w (Ret (.int .i64 (classE k g)) w) := by
  have hx : k < 0 ∨ 9 < k ∨ (0 ≤ k ∧ k ≤ 9 ∧ g < 5) ∨ (0 ≤ k ∧ k ≤ 9 ∧ 12 < g) ∨ (0 ≤ k ∧ k ≤ 9 ∧ 5 ≤ g ∧ g ≤ 12) := by omega
  rcases hx with h | h | h | h | h
  all_goals
    go_enter Try.func102, Try.ntmps102
    go_wp2
    go_ret
    exact Ret.int (by unfold classE gradeE; split <;> first | omega | (split <;> omega)) (by (repeat (first | (with_reducible assumption) | with_reducible exact Ext.refl _ | with_reducible apply Ext.alloc | with_reducible apply Ext.drew | with_reducible apply Ext.drewN | ((with_reducible apply Ext.set); case hp => (first | (simp; done) | (dsimp only; omega) | omega)) | ((with_reducible apply Ext.trans); case k => with_reducible assumption))))

set_option maxRecDepth 20000 in
theorem gtol_ok (n g : Int) (hn : sizeE n = 0) (hg : gradeE g = 0) (w : World) : Calls Try.prog 44 #[.int .i64 n, .int .i64 g] w (Ret (.tuple #[.int .i64 (tolI n g), .int .i64 0]) w) := by
  have h1 := sizeE_zero hn
  have h2 := gradeE_zero hg
  go_enter Try.func44, Try.ntmps44
  go_wp2_with fail
  refine (gsized_any n _).mono ?_
  rintro e w1 ⟨rfl, rfl⟩
  rw [hn]
  go_wp2_with fail
  refine (graded_any g _).mono ?_
  rintro e w1 ⟨rfl, rfl⟩
  rw [hg]
  go_wp2_with fail; refine (tolerance_any n g h1.2 h2.1 h2.2 _).mono ?_; rintro e w2 ⟨rfl, h2'⟩
  go_wp2_with fail
  go_ret2
  exact Ret.mk' rfl (by (repeat (first | (with_reducible assumption) | with_reducible exact Ext.refl _ | with_reducible apply Ext.alloc | with_reducible apply Ext.drew | with_reducible apply Ext.drewN | ((with_reducible apply Ext.set); case hp => (first | (simp; done) | (dsimp only; omega) | omega)) | ((with_reducible apply Ext.trans); case k => with_reducible assumption))))
set_option maxRecDepth 20000 in
theorem gdev_ok (n : Int) (b : Bool) (k : Nat) (g : Int) (hn : sizeE n = 0) (hk : k < 10) (hg : classE (k : Int) g = 0) (w : World) :
    Calls Try.prog 45 #[.int .i64 n, .agg #[.bool b, .int .i64 (k : Int), .int .i64 g]] w (Ret (.tuple #[.agg #[.int .i64 (awayI n b k g).lo, .int .i64 (awayI n b k g).hi], .int .i64 0]) w) := by
  have h1 := sizeE_zero hn
  have h2 := classE_zero hg
  go_enter Try.func45, Try.ntmps45
  go_wp2_with fail
  refine (gsized_any n _).mono ?_
  rintro e w1 ⟨rfl, rfl⟩
  rw [hn]
  go_wp2_with fail; refine (gcheck_any b _ g _).mono ?_; rintro e w2 ⟨rfl, h2'⟩
  rw [hg]
  have hA : Blk w2 w.heap.size #[.bool b, .int .i64 (k : Int), .int .i64 g] 69 := by (repeat (first | (with_reducible assumption) | ((with_reducible apply Blk.new_at); focus (first | (simp; done) | (simp; omega))) | with_reducible apply Blk.alloc | with_reducible apply Blk.drew | with_reducible apply Blk.drewN | with_reducible apply Blk.set | ((with_reducible apply Blk.far); case hp => (first | (simp; done) | (dsimp only; omega))) | ((with_reducible apply Blk.ext); case he => with_reducible assumption)))
  have a0 := hA.cell 0
  have a1 := hA.cell 1
  have a2 := hA.cell 2
  simp at a0 a1 a2
  go_wp2_with fail; refine (deviations_any n b k g h1.2 hk h2.2.2.1 h2.2.2.2 _).mono ?_; rintro e w3 ⟨rfl, h3⟩
  have B : Blk w3 (w.heap.size + 1) #[.int .i64 0, .int .i64 0] 23 := (by (repeat (first | (with_reducible assumption) | ((with_reducible apply Blk.new_at); focus (first | (simp; done) | (simp; omega))) | with_reducible apply Blk.alloc | with_reducible apply Blk.drew | with_reducible apply Blk.drewN | with_reducible apply Blk.set | ((with_reducible apply Blk.far); case hp => (first | (simp; done) | (dsimp only; omega))) | ((with_reducible apply Blk.ext); case he => with_reducible assumption)))); obtain ⟨B1, B2, B3, B4⟩ := B.c2; have B5 := B.lt
  go_wp2_with fail
  refine end_ct rfl rfl _ _ _ _ _ rfl rfl (by (repeat (first | (with_reducible assumption) | ((with_reducible apply Blk.new_at); focus (first | (simp; done) | (simp; omega))) | with_reducible apply Blk.alloc | with_reducible apply Blk.drew | with_reducible apply Blk.drewN | with_reducible apply Blk.set | ((with_reducible apply Blk.far); case hp => (first | (simp; done) | (dsimp only; omega))) | ((with_reducible apply Blk.ext); case he => with_reducible assumption)))) Try.underlying23 rfl (by exact szL) ?_
  exact Ret.mk' (by simp) (by (repeat (first | (with_reducible assumption) | with_reducible exact Ext.refl _ | with_reducible apply Ext.alloc | with_reducible apply Ext.drew | with_reducible apply Ext.drewN | ((with_reducible apply Ext.set); case hp => (first | (simp; done) | (dsimp only; omega) | omega)) | ((with_reducible apply Ext.trans); case k => with_reducible assumption))))
end Go.Proofs.Ytdcedfciaaooiaa
