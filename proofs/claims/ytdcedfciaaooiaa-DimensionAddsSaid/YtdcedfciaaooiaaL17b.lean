/- The law DimensionMeets returns true at every input: the walk. -/
import Derived.Test.YtdcedfciaaooiaaA17
set_option linter.unusedVariables false
namespace Go.Proofs.Ytdcedfciaaooiaa
open Go.RowKit

theorem bothE_1 {a b c d : Int} (h : chk a b ≠ 0) : bothE a b c d = chk a b := by simp [bothE, firstE, h]
theorem bothE_2 {a b c d : Int} (h : chk a b = 0) : bothE a b c d = chk c d := by rw [bothE_cases, if_pos h]

/-- One end of the law: what the calls answer is told by letters. -/
theorem meets_bad (a b c d v : Int) (w : World) (h : bothE a b c d ≠ 0) : Calls Try.prog 6 #[.agg #[.int .i64 a, .int .i64 b], .agg #[.int .i64 c, .int .i64 d], .int .i64 v] w (Ret (.bool true) w) := by
  cases h1 : chk a b != 0
  · have z1 := Lib.hid (show chk a b = 0 by simpa using h1)
    have h2 : (chk c d != 0) = true := by rw [bothE_2 z1.out] at h; simpa using h
    clear h
    go_enter Try.func6, Try.ntmps6
    go_wp2_with fail; refine (rcheck_any _ _ _).mono ?_; rintro e w1 ⟨rfl, e1⟩
    have B : Blk w1 (w.heap.size + 1) #[.int .i64 c, .int .i64 d] 23 := (by (repeat (first | (with_reducible assumption) | ((with_reducible apply Blk.new_at); focus (first | (simp; done) | (simp; omega))) | with_reducible apply Blk.alloc | with_reducible apply Blk.drew | with_reducible apply Blk.drewN | with_reducible apply Blk.set | ((with_reducible apply Blk.far); case hp => (first | (simp; done) | (dsimp only; omega))) | ((with_reducible apply Blk.ext); case he => with_reducible assumption)))); obtain ⟨B1, B2, B3, B4⟩ := B.c2; have B5 := B.lt
    go_wp2_with fail; refine (rcheck_any _ _ _).mono ?_; rintro e w2 ⟨rfl, e2⟩
    go_wp2_with fail; refine (awake17_any _).mono ?_; rintro e w3 ⟨rfl, e3⟩
    go_wp2_with fail
    go_ret
    exact Ret.bool (by first | rfl | (simp; done)) (by (repeat (first | (with_reducible assumption) | with_reducible exact Ext.refl _ | with_reducible apply Ext.alloc | with_reducible apply Ext.drew | with_reducible apply Ext.drewN | ((with_reducible apply Ext.set); case hp => (first | (simp; done) | (dsimp only; omega) | omega)) | ((with_reducible apply Ext.trans); case k => with_reducible assumption))))
  · clear h
    go_enter Try.func6, Try.ntmps6
    go_wp2_with fail; refine (rcheck_any _ _ _).mono ?_; rintro e w1 ⟨rfl, e1⟩
    go_wp2_with fail
    refine (awake17_any _).mono ?_
    rintro e w3 ⟨rfl, e3⟩
    go_wp2_with fail
    go_ret
    exact Ret.bool (by first | rfl | (simp; done)) (by (repeat (first | (with_reducible assumption) | with_reducible exact Ext.refl _ | with_reducible apply Ext.alloc | with_reducible apply Ext.drew | with_reducible apply Ext.drewN | ((with_reducible apply Ext.set); case hp => (first | (simp; done) | (dsimp only; omega) | omega)) | ((with_reducible apply Ext.trans); case k => with_reducible assumption))))

set_option maxRecDepth 20000 in
set_option maxHeartbeats 8000000 in
theorem meets_no (a b c d v : Int) (w : World) (h1 : (chk a b != 0) = false) (h2 : (chk c d != 0) = false) (x y : Bool)
    (C1 : Hid (∀ w, Calls Try.prog 33 #[.agg #[.int .i64 a, .int .i64 b], .int .i64 v] w (Ret (.tuple #[.bool x, .int .i64 0]) w)))
    (C2 : Hid (∀ w, Calls Try.prog 33 #[.agg #[.int .i64 c, .int .i64 d], .int .i64 v] w (Ret (.tuple #[.bool y, .int .i64 0]) w)))
    (C3 : Hid (∀ w, Calls Try.prog 34 #[.agg #[.int .i64 a, .int .i64 b], .agg #[.int .i64 c, .int .i64 d]] w (Ret (.tuple #[.bool false, .int .i64 0]) w)))
    (C4 : Hid (∀ w, Calls Try.prog 22 #[.agg #[.int .i64 a, .int .i64 b], .agg #[.int .i64 c, .int .i64 d]] w (Ret (.tuple #[.agg #[.int .i64 0, .int .i64 0], .int .i64 16]) w)))
    (hxy : (x && y) = false) : Calls Try.prog 6 #[.agg #[.int .i64 a, .int .i64 b], .agg #[.int .i64 c, .int .i64 d], .int .i64 v] w (Ret (.bool true) w) := by
  have hx : x = false ∨ (x = true ∧ y = false) := by revert hxy; cases x <;> cases y <;> simp
  clear hxy
  rcases hx with rfl | ⟨rfl, rfl⟩
  all_goals
    go_enter Try.func6, Try.ntmps6
    go_wp2_with fail; refine (rcheck_any _ _ _).mono ?_; rintro e w1 ⟨rfl, e1⟩
    have A : Blk w1 (w.heap.size) #[.int .i64 a, .int .i64 b] 23 := (by (repeat (first | (with_reducible assumption) | ((with_reducible apply Blk.new_at); focus (first | (simp; done) | (simp; omega))) | with_reducible apply Blk.alloc | with_reducible apply Blk.drew | with_reducible apply Blk.drewN | with_reducible apply Blk.set | ((with_reducible apply Blk.far); case hp => (first | (simp; done) | (dsimp only; omega))) | ((with_reducible apply Blk.ext); case he => with_reducible assumption)))); obtain ⟨A1, A2, A3, A4⟩ := A.c2; have A5 := A.lt
    have B : Blk w1 (w.heap.size + 1) #[.int .i64 c, .int .i64 d] 23 := (by (repeat (first | (with_reducible assumption) | ((with_reducible apply Blk.new_at); focus (first | (simp; done) | (simp; omega))) | with_reducible apply Blk.alloc | with_reducible apply Blk.drew | with_reducible apply Blk.drewN | with_reducible apply Blk.set | ((with_reducible apply Blk.far); case hp => (first | (simp; done) | (dsimp only; omega))) | ((with_reducible apply Blk.ext); case he => with_reducible assumption)))); obtain ⟨B1, B2, B3, B4⟩ := B.c2; have B5 := B.lt
    go_wp2_with fail; refine (rcheck_any _ _ _).mono ?_; rintro e w2 ⟨rfl, e2⟩
    have A' : Blk w2 (w.heap.size) #[.int .i64 a, .int .i64 b] 23 := (by (repeat (first | (with_reducible assumption) | ((with_reducible apply Blk.new_at); focus (first | (simp; done) | (simp; omega))) | with_reducible apply Blk.alloc | with_reducible apply Blk.drew | with_reducible apply Blk.drewN | with_reducible apply Blk.set | ((with_reducible apply Blk.far); case hp => (first | (simp; done) | (dsimp only; omega))) | ((with_reducible apply Blk.ext); case he => with_reducible assumption)))); obtain ⟨A'1, A'2, A'3, A'4⟩ := A'.c2; have A'5 := A'.lt
    go_wp2_with fail; refine (C1.out _).mono ?_; rintro e w3 ⟨rfl, e3⟩
    have B' : Blk w3 (w.heap.size + 1) #[.int .i64 c, .int .i64 d] 23 := (by (repeat (first | (with_reducible assumption) | ((with_reducible apply Blk.new_at); focus (first | (simp; done) | (simp; omega))) | with_reducible apply Blk.alloc | with_reducible apply Blk.drew | with_reducible apply Blk.drewN | with_reducible apply Blk.set | ((with_reducible apply Blk.far); case hp => (first | (simp; done) | (dsimp only; omega))) | ((with_reducible apply Blk.ext); case he => with_reducible assumption)))); obtain ⟨B'1, B'2, B'3, B'4⟩ := B'.c2; have B'5 := B'.lt
    go_wp2_with fail; refine (C2.out _).mono ?_; rintro e w4 ⟨rfl, e4⟩
    have A'' : Blk w4 (w.heap.size) #[.int .i64 a, .int .i64 b] 23 := (by (repeat (first | (with_reducible assumption) | ((with_reducible apply Blk.new_at); focus (first | (simp; done) | (simp; omega))) | with_reducible apply Blk.alloc | with_reducible apply Blk.drew | with_reducible apply Blk.drewN | with_reducible apply Blk.set | ((with_reducible apply Blk.far); case hp => (first | (simp; done) | (dsimp only; omega))) | ((with_reducible apply Blk.ext); case he => with_reducible assumption)))); obtain ⟨A''1, A''2, A''3, A''4⟩ := A''.c2; have A''5 := A''.lt
    have B'' : Blk w4 (w.heap.size + 1) #[.int .i64 c, .int .i64 d] 23 := (by (repeat (first | (with_reducible assumption) | ((with_reducible apply Blk.new_at); focus (first | (simp; done) | (simp; omega))) | with_reducible apply Blk.alloc | with_reducible apply Blk.drew | with_reducible apply Blk.drewN | with_reducible apply Blk.set | ((with_reducible apply Blk.far); case hp => (first | (simp; done) | (dsimp only; omega))) | ((with_reducible apply Blk.ext); case he => with_reducible assumption)))); obtain ⟨B''1, B''2, B''3, B''4⟩ := B''.c2; have B''5 := B''.lt
    go_wp2_with fail; refine (C3.out _).mono ?_; rintro e w5 ⟨rfl, e5⟩
    have A3 : Blk w5 (w.heap.size) #[.int .i64 a, .int .i64 b] 23 := (by (repeat (first | (with_reducible assumption) | ((with_reducible apply Blk.new_at); focus (first | (simp; done) | (simp; omega))) | with_reducible apply Blk.alloc | with_reducible apply Blk.drew | with_reducible apply Blk.drewN | with_reducible apply Blk.set | ((with_reducible apply Blk.far); case hp => (first | (simp; done) | (dsimp only; omega))) | ((with_reducible apply Blk.ext); case he => with_reducible assumption)))); obtain ⟨A31, A32, A33, A34⟩ := A3.c2; have A35 := A3.lt
    have B3 : Blk w5 (w.heap.size + 1) #[.int .i64 c, .int .i64 d] 23 := (by (repeat (first | (with_reducible assumption) | ((with_reducible apply Blk.new_at); focus (first | (simp; done) | (simp; omega))) | with_reducible apply Blk.alloc | with_reducible apply Blk.drew | with_reducible apply Blk.drewN | with_reducible apply Blk.set | ((with_reducible apply Blk.far); case hp => (first | (simp; done) | (dsimp only; omega))) | ((with_reducible apply Blk.ext); case he => with_reducible assumption)))); obtain ⟨B31, B32, B33, B34⟩ := B3.c2; have B35 := B3.lt
    go_wp2_with fail; refine (C4.out _).mono ?_; rintro e w6 ⟨rfl, e6⟩
    go_wp2_with fail; refine (awake17_any _).mono ?_; rintro e w7 ⟨rfl, e7⟩
    go_wp2_with fail
    go_ret
    exact Ret.bool (by first | rfl | (simp; done)) (by (repeat (first | (with_reducible assumption) | with_reducible exact Ext.refl _ | with_reducible apply Ext.alloc | with_reducible apply Ext.drew | with_reducible apply Ext.drewN | ((with_reducible apply Ext.set); case hp => (first | (simp; done) | (dsimp only; omega) | omega)) | ((with_reducible apply Ext.trans); case k => with_reducible assumption))))

set_option maxRecDepth 20000 in
set_option maxHeartbeats 8000000 in
theorem meets_yes (a b c d v m n : Int) (w : World) (h1 : (chk a b != 0) = false) (h2 : (chk c d != 0) = false) (x y i : Bool)
    (C1 : Hid (∀ w, Calls Try.prog 33 #[.agg #[.int .i64 a, .int .i64 b], .int .i64 v] w (Ret (.tuple #[.bool x, .int .i64 0]) w)))
    (C2 : Hid (∀ w, Calls Try.prog 33 #[.agg #[.int .i64 c, .int .i64 d], .int .i64 v] w (Ret (.tuple #[.bool y, .int .i64 0]) w)))
    (C3 : Hid (∀ w, Calls Try.prog 34 #[.agg #[.int .i64 a, .int .i64 b], .agg #[.int .i64 c, .int .i64 d]] w (Ret (.tuple #[.bool i, .int .i64 0]) w)))
    (C4 : Hid (∀ w, Calls Try.prog 22 #[.agg #[.int .i64 a, .int .i64 b], .agg #[.int .i64 c, .int .i64 d]] w (Ret (.tuple #[.agg #[.int .i64 m, .int .i64 n], .int .i64 0]) w)))
    (C5 : Hid (∀ w, Calls Try.prog 33 #[.agg #[.int .i64 m, .int .i64 n], .int .i64 v] w (Ret (.tuple #[.bool (x && y), .int .i64 0]) w)))
    (hi : i = ((m == a) && (n == b))) : Calls Try.prog 6 #[.agg #[.int .i64 a, .int .i64 b], .agg #[.int .i64 c, .int .i64 d], .int .i64 v] w (Ret (.bool true) w) := by
  have hs0 : w.heap.size ≤ w.heap.size := Nat.le_refl _
  have hx : (x = false ∧ (x && y) = false) ∨ (x = true ∧ y = false) ∨ (x = true ∧ y = true) := by cases x <;> cases y <;> simp
  have hj : ((m == a) = true ∧ (n == b) = true ∧ i = true) ∨ ((m == a) = false ∧ i = false) ∨ ((m == a) = true ∧ (n == b) = false ∧ i = false) := by
    subst hi; cases (m == a) <;> cases (n == b) <;> simp
  clear hi
  rcases hx with ⟨rfl, hz⟩ | ⟨rfl, rfl⟩ | ⟨rfl, rfl⟩
  all_goals
    rcases hj with ⟨j1, j2, rfl⟩ | ⟨j1, rfl⟩ | ⟨j1, j2, rfl⟩
    all_goals
      go_enter Try.func6, Try.ntmps6
      go_wp2_with fail; refine (rcheck_any _ _ _).mono ?_; rintro e w1 ⟨rfl, e1⟩
      have A : Blk w1 (w.heap.size) #[.int .i64 a, .int .i64 b] 23 := (by (repeat (first | (with_reducible assumption) | ((with_reducible apply Blk.new_at); focus (first | (simp; done) | (simp; omega))) | with_reducible apply Blk.alloc | with_reducible apply Blk.drew | with_reducible apply Blk.drewN | with_reducible apply Blk.set | ((with_reducible apply Blk.far); case hp => (first | (simp; done) | (dsimp only; omega))) | ((with_reducible apply Blk.ext); case he => with_reducible assumption)))); obtain ⟨A1, A2, A3, A4⟩ := A.c2; have A5 := A.lt
      have B : Blk w1 (w.heap.size + 1) #[.int .i64 c, .int .i64 d] 23 := (by (repeat (first | (with_reducible assumption) | ((with_reducible apply Blk.new_at); focus (first | (simp; done) | (simp; omega))) | with_reducible apply Blk.alloc | with_reducible apply Blk.drew | with_reducible apply Blk.drewN | with_reducible apply Blk.set | ((with_reducible apply Blk.far); case hp => (first | (simp; done) | (dsimp only; omega))) | ((with_reducible apply Blk.ext); case he => with_reducible assumption)))); obtain ⟨B1, B2, B3, B4⟩ := B.c2; have B5 := B.lt
      go_wp2_with fail; refine (rcheck_any _ _ _).mono ?_; rintro e w2 ⟨rfl, e2⟩
      have A' : Blk w2 (w.heap.size) #[.int .i64 a, .int .i64 b] 23 := (by (repeat (first | (with_reducible assumption) | ((with_reducible apply Blk.new_at); focus (first | (simp; done) | (simp; omega))) | with_reducible apply Blk.alloc | with_reducible apply Blk.drew | with_reducible apply Blk.drewN | with_reducible apply Blk.set | ((with_reducible apply Blk.far); case hp => (first | (simp; done) | (dsimp only; omega))) | ((with_reducible apply Blk.ext); case he => with_reducible assumption)))); obtain ⟨A'1, A'2, A'3, A'4⟩ := A'.c2; have A'5 := A'.lt
      go_wp2_with fail; refine (C1.out _).mono ?_; rintro e w3 ⟨rfl, e3⟩
      have B' : Blk w3 (w.heap.size + 1) #[.int .i64 c, .int .i64 d] 23 := (by (repeat (first | (with_reducible assumption) | ((with_reducible apply Blk.new_at); focus (first | (simp; done) | (simp; omega))) | with_reducible apply Blk.alloc | with_reducible apply Blk.drew | with_reducible apply Blk.drewN | with_reducible apply Blk.set | ((with_reducible apply Blk.far); case hp => (first | (simp; done) | (dsimp only; omega))) | ((with_reducible apply Blk.ext); case he => with_reducible assumption)))); obtain ⟨B'1, B'2, B'3, B'4⟩ := B'.c2; have B'5 := B'.lt
      go_wp2_with fail; refine (C2.out _).mono ?_; rintro e w4 ⟨rfl, e4⟩
      have A'' : Blk w4 (w.heap.size) #[.int .i64 a, .int .i64 b] 23 := (by (repeat (first | (with_reducible assumption) | ((with_reducible apply Blk.new_at); focus (first | (simp; done) | (simp; omega))) | with_reducible apply Blk.alloc | with_reducible apply Blk.drew | with_reducible apply Blk.drewN | with_reducible apply Blk.set | ((with_reducible apply Blk.far); case hp => (first | (simp; done) | (dsimp only; omega))) | ((with_reducible apply Blk.ext); case he => with_reducible assumption)))); obtain ⟨A''1, A''2, A''3, A''4⟩ := A''.c2; have A''5 := A''.lt
      have B'' : Blk w4 (w.heap.size + 1) #[.int .i64 c, .int .i64 d] 23 := (by (repeat (first | (with_reducible assumption) | ((with_reducible apply Blk.new_at); focus (first | (simp; done) | (simp; omega))) | with_reducible apply Blk.alloc | with_reducible apply Blk.drew | with_reducible apply Blk.drewN | with_reducible apply Blk.set | ((with_reducible apply Blk.far); case hp => (first | (simp; done) | (dsimp only; omega))) | ((with_reducible apply Blk.ext); case he => with_reducible assumption)))); obtain ⟨B''1, B''2, B''3, B''4⟩ := B''.c2; have B''5 := B''.lt
      go_wp2_with fail; refine (C3.out _).mono ?_; rintro e w5 ⟨rfl, e5⟩
      have A3 : Blk w5 (w.heap.size) #[.int .i64 a, .int .i64 b] 23 := (by (repeat (first | (with_reducible assumption) | ((with_reducible apply Blk.new_at); focus (first | (simp; done) | (simp; omega))) | with_reducible apply Blk.alloc | with_reducible apply Blk.drew | with_reducible apply Blk.drewN | with_reducible apply Blk.set | ((with_reducible apply Blk.far); case hp => (first | (simp; done) | (dsimp only; omega))) | ((with_reducible apply Blk.ext); case he => with_reducible assumption)))); obtain ⟨A31, A32, A33, A34⟩ := A3.c2; have A35 := A3.lt
      have B3 : Blk w5 (w.heap.size + 1) #[.int .i64 c, .int .i64 d] 23 := (by (repeat (first | (with_reducible assumption) | ((with_reducible apply Blk.new_at); focus (first | (simp; done) | (simp; omega))) | with_reducible apply Blk.alloc | with_reducible apply Blk.drew | with_reducible apply Blk.drewN | with_reducible apply Blk.set | ((with_reducible apply Blk.far); case hp => (first | (simp; done) | (dsimp only; omega))) | ((with_reducible apply Blk.ext); case he => with_reducible assumption)))); obtain ⟨B31, B32, B33, B34⟩ := B3.c2; have B35 := B3.lt
      go_wp2_with fail; refine (C4.out _).mono ?_; rintro e w6 ⟨rfl, e6⟩
      go_wp2_with fail; refine (C5.out _).mono ?_; rintro e w7 ⟨rfl, e7⟩
      have A4 : Blk w7 (w.heap.size) #[.int .i64 a, .int .i64 b] 23 := (by (repeat (first | (with_reducible assumption) | ((with_reducible apply Blk.new_at); focus (first | (simp; done) | (simp; omega))) | with_reducible apply Blk.alloc | with_reducible apply Blk.drew | with_reducible apply Blk.drewN | with_reducible apply Blk.set | ((with_reducible apply Blk.far); case hp => (first | (simp; done) | (dsimp only; omega))) | ((with_reducible apply Blk.ext); case he => with_reducible assumption)))); obtain ⟨A41, A42, A43, A44⟩ := A4.c2; have A45 := A4.lt
      have M4 : Blk w7 (w6.heap.size) #[.int .i64 m, .int .i64 n] 23 := (by (repeat (first | (with_reducible assumption) | ((with_reducible apply Blk.new_at); focus (first | (simp; done) | (simp; omega))) | with_reducible apply Blk.alloc | with_reducible apply Blk.drew | with_reducible apply Blk.drewN | with_reducible apply Blk.set | ((with_reducible apply Blk.far); case hp => (first | (simp; done) | (dsimp only; omega))) | ((with_reducible apply Blk.ext); case he => with_reducible assumption)))); obtain ⟨M41, M42, M43, M44⟩ := M4.c2; have M45 := M4.lt
      go_wp2_with fail; refine (awake17_any _).mono ?_; rintro e w8 ⟨rfl, e8⟩
      have hs6 : w.heap.size ≤ w6.heap.size := by have q := A3.lt; have := e6.size; omega
      go_wp2_with fail
      go_ret
      exact Ret.bool (by first | rfl | (simp; done)) (by (repeat (first | (with_reducible assumption) | with_reducible exact Ext.refl _ | with_reducible apply Ext.alloc | with_reducible apply Ext.drew | with_reducible apply Ext.drewN | ((with_reducible apply Ext.set); case hp => (first | (simp; done) | (dsimp only; omega) | omega)) | ((with_reducible apply Ext.trans); case k => with_reducible assumption))))

theorem law_meets (a b c d v : Int) (w : World) : Calls Try.prog 6 #[.agg #[.int .i64 a, .int .i64 b], .agg #[.int .i64 c, .int .i64 d], .int .i64 v] w (Ret (.bool true) w) := by
  by_cases hb : bothE a b c d = 0
  case neg => exact meets_bad a b c d v w hb
  obtain ⟨h1, h2⟩ := bothE_zero hb
  have g1 := chk_zero h1
  have g2 := chk_zero h2
  have C1 := fun w => contains_any a b v w
  have C2 := fun w => contains_any c d v w
  have C3 := fun w => inside_any a b c d w
  have C4 := fun w => meet_any a b c d w
  have k1 : containsB a b v = (decide (a ≤ v) && decide (v ≤ b)) := by simp [containsB, h1]
  have k2 : containsB c d v = (decide (c ≤ v) && decide (v ≤ d)) := by simp [containsB, h2]
  have k3 : insideB a b c d = (decide (c ≤ a) && decide (b ≤ d)) := by simp [insideB, hb]
  simp only [h1, h2, hb] at C1 C2 C3
  by_cases hm : max a c ≤ min b d
  · have m1 : meetL a b c d = ⟨max a c, min b d⟩ := by unfold meetL; rw [if_pos ⟨hb, hm⟩]
    have m2 : meetE a b c d = 0 := by unfold meetE; rw [if_pos hb, if_pos hm]
    have h5 : chk (max a c) (min b d) = 0 := chk_of (by omega) hm (by omega)
    have C5 := fun w => contains_any (max a c) (min b d) v w
    have k5 : containsB (max a c) (min b d) v = (containsB a b v && containsB c d v) := by
      rw [k1, k2, Bool.eq_iff_iff]
      simp only [containsB, h5, if_true, Bool.and_eq_true, decide_eq_true_eq]
      omega
    have k6 : insideB a b c d = ((max a c == a) && (min b d == b)) := by
      rw [k3, Bool.eq_iff_iff]
      simp only [Bool.and_eq_true, decide_eq_true_eq, beq_iff_eq]
      omega
    simp only [m1, m2] at C4
    simp only [h5, k5] at C5
    exact meets_yes a b c d v (max a c) (min b d) w (by simp [h1]) (by simp [h2]) _ _ _ C1 C2 C3 C4 C5 k6
  · have m1 : meetL a b c d = ⟨0, 0⟩ := by unfold meetL; rw [if_neg (fun h => hm h.2)]
    have m2 : meetE a b c d = 16 := by unfold meetE; rw [if_pos hb, if_neg hm]
    have k7 : insideB a b c d = false := by rw [k3, Bool.eq_false_iff]; simp only [ne_eq, Bool.and_eq_true, decide_eq_true_eq]; omega
    simp only [m1, m2] at C4
    simp only [k7] at C3
    exact meets_no a b c d v w (by simp [h1]) (by simp [h2]) _ _ C1 C2 C3 C4 (by rw [k1, k2, Bool.eq_false_iff]; simp only [ne_eq, Bool.and_eq_true, decide_eq_true_eq]; omega)
end Go.Proofs.Ytdcedfciaaooiaa
