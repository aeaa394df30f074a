/- The law DimensionAdds returns true at every input: the walk. -/
import Derived.Test.YtdcedfciaaooiaaL17b
set_option linter.unusedVariables false
namespace Go.Proofs.Ytdcedfciaaooiaa
open Go.RowKit

theorem adds_bad (a b c d p q : Int) (w : World) (h : bothE a b c d ≠ 0) : Calls Try.prog 7 #[.agg #[.int .i64 a, .int .i64 b], .agg #[.int .i64 c, .int .i64 d], .agg #[.int .u16 p, .int .u16 q]] w (Ret (.bool true) w) := by
  cases h1 : chk a b != 0
  · have z1 := Lib.hid (show chk a b = 0 by simpa using h1)
    have h2 : (chk c d != 0) = true := by rw [bothE_2 z1.out] at h; simpa using h
    clear h
    go_enter Try.func7, Try.ntmps7
    go_wp2_with fail; refine (rcheck_any _ _ _).mono ?_; rintro e w1 ⟨rfl, e1⟩
    have B : Blk w1 (w.heap.size + 1) #[.int .i64 c, .int .i64 d] 23 := (by (repeat (first | (with_reducible assumption) | ((with_reducible apply Blk.new_at); focus (first | (simp; done) | (simp; omega))) | with_reducible apply Blk.alloc | with_reducible apply Blk.drew | with_reducible apply Blk.drewN | with_reducible apply Blk.set | ((with_reducible apply Blk.far); case hp => (first | (simp; done) | (dsimp only; omega))) | ((with_reducible apply Blk.ext); case he => with_reducible assumption)))); obtain ⟨B1, B2, B3, B4⟩ := B.c2; have B5 := B.lt
    go_wp2_with fail; refine (rcheck_any _ _ _).mono ?_; rintro e w2 ⟨rfl, e2⟩
    go_wp2_with fail; refine (awake17_any _).mono ?_; rintro e w3 ⟨rfl, e3⟩
    go_wp2_with fail
    go_ret
    exact Ret.bool (by first | rfl | (simp; done)) (by (repeat (first | (with_reducible assumption) | with_reducible exact Ext.refl _ | with_reducible apply Ext.alloc | with_reducible apply Ext.drew | with_reducible apply Ext.drewN | ((with_reducible apply Ext.set); case hp => (first | (simp; done) | (dsimp only; omega) | omega)) | ((with_reducible apply Ext.trans); case k => with_reducible assumption))))
  · clear h
    go_enter Try.func7, Try.ntmps7
    go_wp2_with fail; refine (rcheck_any _ _ _).mono ?_; rintro e w1 ⟨rfl, e1⟩
    go_wp2_with fail
    refine (awake17_any _).mono ?_
    rintro e w3 ⟨rfl, e3⟩
    go_wp2_with fail
    go_ret
    exact Ret.bool (by first | rfl | (simp; done)) (by (repeat (first | (with_reducible assumption) | with_reducible exact Ext.refl _ | with_reducible apply Ext.alloc | with_reducible apply Ext.drew | with_reducible apply Ext.drewN | ((with_reducible apply Ext.set); case hp => (first | (simp; done) | (dsimp only; omega) | omega)) | ((with_reducible apply Ext.trans); case k => with_reducible assumption))))

set_option maxRecDepth 20000 in
set_option maxHeartbeats 8000000 in
theorem adds_no (a b c d p q r zl zh : Int) (w : World) (h1 : (chk a b != 0) = false) (h2 : (chk c d != 0) = false)
    (N : Hid (∀ w, Calls Try.prog 35 #[.agg #[.int .i64 a, .int .i64 b]] w (Ret (.tuple #[.agg #[.int .i64 (-b), .int .i64 (-a)], .int .i64 0]) w)))
    (Z : Hid (∀ w, Calls Try.prog 24 #[.agg #[.int .i64 a, .int .i64 b], .agg #[.int .i64 (-b), .int .i64 (-a)]] w (Ret (.tuple #[.agg #[.int .i64 zl, .int .i64 zh], .int .i64 r]) w)))
    (S : Hid (∀ w, Calls Try.prog 24 #[.agg #[.int .i64 a, .int .i64 b], .agg #[.int .i64 c, .int .i64 d]] w (Ret (.tuple #[.agg #[.int .i64 0, .int .i64 0], .int .i64 2]) w)))
    (hr : (r == 0) = false ∨ ((r == 0) = true ∧ zl ≤ 0 ∧ -100000 ≤ zl ∧ zh = -zl)) :
    Calls Try.prog 7 #[.agg #[.int .i64 a, .int .i64 b], .agg #[.int .i64 c, .int .i64 d], .agg #[.int .u16 p, .int .u16 q]] w (Ret (.bool true) w) := by
  rcases hr with hr | ⟨hr, hz1, hz2, rfl⟩
  all_goals
    go_enter Try.func7, Try.ntmps7
    go_wp2_with fail; refine (rcheck_any _ _ _).mono ?_; rintro e w1 ⟨rfl, e1⟩
    have B : Blk w1 (w.heap.size + 1) #[.int .i64 c, .int .i64 d] 23 := (by (repeat (first | (with_reducible assumption) | ((with_reducible apply Blk.new_at); focus (first | (simp; done) | (simp; omega))) | with_reducible apply Blk.alloc | with_reducible apply Blk.drew | with_reducible apply Blk.drewN | with_reducible apply Blk.set | ((with_reducible apply Blk.far); case hp => (first | (simp; done) | (dsimp only; omega))) | ((with_reducible apply Blk.ext); case he => with_reducible assumption)))); obtain ⟨B1, B2, B3, B4⟩ := B.c2; have B5 := B.lt
    go_wp2_with fail; refine (rcheck_any _ _ _).mono ?_; rintro e w2 ⟨rfl, e2⟩
    have A : Blk w2 (w.heap.size) #[.int .i64 a, .int .i64 b] 23 := (by (repeat (first | (with_reducible assumption) | ((with_reducible apply Blk.new_at); focus (first | (simp; done) | (simp; omega))) | with_reducible apply Blk.alloc | with_reducible apply Blk.drew | with_reducible apply Blk.drewN | with_reducible apply Blk.set | ((with_reducible apply Blk.far); case hp => (first | (simp; done) | (dsimp only; omega))) | ((with_reducible apply Blk.ext); case he => with_reducible assumption)))); obtain ⟨A1, A2, A3, A4⟩ := A.c2; have A5 := A.lt
    go_wp2_with fail; refine (N.out _).mono ?_; rintro e w3 ⟨rfl, e3⟩
    have A' : Blk w3 (w.heap.size) #[.int .i64 a, .int .i64 b] 23 := (by (repeat (first | (with_reducible assumption) | ((with_reducible apply Blk.new_at); focus (first | (simp; done) | (simp; omega))) | with_reducible apply Blk.alloc | with_reducible apply Blk.drew | with_reducible apply Blk.drewN | with_reducible apply Blk.set | ((with_reducible apply Blk.far); case hp => (first | (simp; done) | (dsimp only; omega))) | ((with_reducible apply Blk.ext); case he => with_reducible assumption)))); obtain ⟨A'1, A'2, A'3, A'4⟩ := A'.c2; have A'5 := A'.lt
    go_wp2_with fail; refine (Z.out _).mono ?_; rintro e w4 ⟨rfl, e4⟩
    have A'' : Blk w4 (w.heap.size) #[.int .i64 a, .int .i64 b] 23 := (by (repeat (first | (with_reducible assumption) | ((with_reducible apply Blk.new_at); focus (first | (simp; done) | (simp; omega))) | with_reducible apply Blk.alloc | with_reducible apply Blk.drew | with_reducible apply Blk.drewN | with_reducible apply Blk.set | ((with_reducible apply Blk.far); case hp => (first | (simp; done) | (dsimp only; omega))) | ((with_reducible apply Blk.ext); case he => with_reducible assumption)))); obtain ⟨A''1, A''2, A''3, A''4⟩ := A''.c2; have A''5 := A''.lt
    have B'' : Blk w4 (w.heap.size + 1) #[.int .i64 c, .int .i64 d] 23 := (by (repeat (first | (with_reducible assumption) | ((with_reducible apply Blk.new_at); focus (first | (simp; done) | (simp; omega))) | with_reducible apply Blk.alloc | with_reducible apply Blk.drew | with_reducible apply Blk.drewN | with_reducible apply Blk.set | ((with_reducible apply Blk.far); case hp => (first | (simp; done) | (dsimp only; omega))) | ((with_reducible apply Blk.ext); case he => with_reducible assumption)))); obtain ⟨B''1, B''2, B''3, B''4⟩ := B''.c2; have B''5 := B''.lt
    go_wp2_with fail; refine (S.out _).mono ?_; rintro e w5 ⟨rfl, e5⟩
    go_wp2_with fail; refine (awake17_any _).mono ?_; rintro e w7 ⟨rfl, e7⟩
    go_wp2_with fail
    go_ret
    have hs4 : w.heap.size ≤ w4.heap.size := by have := A''.lt; omega
    have hs3 : w.heap.size ≤ w3.heap.size := by have := A'.lt; omega
    exact Ret.bool (by first | rfl | (simp; done)) (by (repeat (first | (with_reducible assumption) | with_reducible exact Ext.refl _ | with_reducible apply Ext.alloc | with_reducible apply Ext.drew | with_reducible apply Ext.drewN | ((with_reducible apply Ext.set); case hp => (first | (simp; done) | (dsimp only; omega) | omega)) | ((with_reducible apply Ext.trans); case k => with_reducible assumption))))

set_option maxRecDepth 20000 in
set_option maxHeartbeats 8000000 in
theorem adds_yes (a b c d p q r zl zh : Int) (w : World) (h1 : (chk a b != 0) = false) (h2 : (chk c d != 0) = false) (ga : -100000 ≤ a) (gab : a ≤ b) (gb : b ≤ 100000) (gc : -100000 ≤ c) (gcd : c ≤ d) (gd : d ≤ 100000) (p0 : 0 ≤ p) (p1 : p ≤ 65535) (q0 : 0 ≤ q) (q1 : q ≤ 65535)
    (N : Hid (∀ w, Calls Try.prog 35 #[.agg #[.int .i64 a, .int .i64 b]] w (Ret (.tuple #[.agg #[.int .i64 (-b), .int .i64 (-a)], .int .i64 0]) w)))
    (Z : Hid (∀ w, Calls Try.prog 24 #[.agg #[.int .i64 a, .int .i64 b], .agg #[.int .i64 (-b), .int .i64 (-a)]] w (Ret (.tuple #[.agg #[.int .i64 zl, .int .i64 zh], .int .i64 r]) w)))
    (S : Hid (∀ w, Calls Try.prog 24 #[.agg #[.int .i64 a, .int .i64 b], .agg #[.int .i64 c, .int .i64 d]] w (Ret (.tuple #[.agg #[.int .i64 (a + c), .int .i64 (b + d)], .int .i64 0]) w)))
    (V : Hid (∀ v w, a + c ≤ v → v ≤ b + d → Calls Try.prog 33 #[.agg #[.int .i64 (a + c), .int .i64 (b + d)], .int .i64 v] w (Ret (.tuple #[.bool true, .int .i64 0]) w)))
    (hr : (r == 0) = false ∨ ((r == 0) = true ∧ zl ≤ 0 ∧ -100000 ≤ zl ∧ zh = -zl)) :
    Calls Try.prog 7 #[.agg #[.int .i64 a, .int .i64 b], .agg #[.int .i64 c, .int .i64 d], .agg #[.int .u16 p, .int .u16 q]] w (Ret (.bool true) w) := by
  have f1 : IntKind.i64.wrap (b - a) = b - a := IntWalk.i64_in _ (by omega)
  have f2 : IntKind.i64.wrap (b - a + 1) = b - a + 1 := IntWalk.i64_in _ (by omega)
  have f3 : IntKind.i64.wrap (d - c) = d - c := IntWalk.i64_in _ (by omega)
  have f4 : IntKind.i64.wrap (d - c + 1) = d - c + 1 := IntWalk.i64_in _ (by omega)
  obtain ⟨u, hu⟩ : ∃ u, p % (b - a + 1) = u := ⟨_, rfl⟩
  obtain ⟨t, ht⟩ : ∃ t, q % (d - c + 1) = t := ⟨_, rfl⟩
  have u0 : 0 ≤ u := by rw [← hu]; exact Int.emod_nonneg _ (by omega)
  have u1 : u < b - a + 1 := by rw [← hu]; exact Int.emod_lt_of_pos _ (by omega)
  have t0 : 0 ≤ t := by rw [← ht]; exact Int.emod_nonneg _ (by omega)
  have t1' : t < d - c + 1 := by rw [← ht]; exact Int.emod_lt_of_pos _ (by omega)
  have W1 : Hid (wrap64 (a + p % (b - a + 1)) = a + u) := by rw [Hid, hu]; exact IntWalk.wrap64_in _ (by omega)
  have W2 : Hid (wrap64 (c + q % (d - c + 1)) = c + t) := by rw [Hid, ht]; exact IntWalk.wrap64_in _ (by omega)
  have W3 : Hid (wrap64 (a + u + (c + t)) = a + u + (c + t)) := IntWalk.wrap64_in _ (by omega)
  clear hu ht
  rcases hr with hr | ⟨hr, hz1, hz2, rfl⟩
  all_goals
    go_enter Try.func7, Try.ntmps7
    go_wp2_with fail; refine (rcheck_any _ _ _).mono ?_; rintro e w1 ⟨rfl, e1⟩
    have B : Blk w1 (w.heap.size + 1) #[.int .i64 c, .int .i64 d] 23 := (by (repeat (first | (with_reducible assumption) | ((with_reducible apply Blk.new_at); focus (first | (simp; done) | (simp; omega))) | with_reducible apply Blk.alloc | with_reducible apply Blk.drew | with_reducible apply Blk.drewN | with_reducible apply Blk.set | ((with_reducible apply Blk.far); case hp => (first | (simp; done) | (dsimp only; omega))) | ((with_reducible apply Blk.ext); case he => with_reducible assumption)))); obtain ⟨B1, B2, B3, B4⟩ := B.c2; have B5 := B.lt
    go_wp2_with fail; refine (rcheck_any _ _ _).mono ?_; rintro e w2 ⟨rfl, e2⟩
    have A : Blk w2 (w.heap.size) #[.int .i64 a, .int .i64 b] 23 := (by (repeat (first | (with_reducible assumption) | ((with_reducible apply Blk.new_at); focus (first | (simp; done) | (simp; omega))) | with_reducible apply Blk.alloc | with_reducible apply Blk.drew | with_reducible apply Blk.drewN | with_reducible apply Blk.set | ((with_reducible apply Blk.far); case hp => (first | (simp; done) | (dsimp only; omega))) | ((with_reducible apply Blk.ext); case he => with_reducible assumption)))); obtain ⟨A1, A2, A3, A4⟩ := A.c2; have A5 := A.lt
    go_wp2_with fail; refine (N.out _).mono ?_; rintro e w3 ⟨rfl, e3⟩
    have A' : Blk w3 (w.heap.size) #[.int .i64 a, .int .i64 b] 23 := (by (repeat (first | (with_reducible assumption) | ((with_reducible apply Blk.new_at); focus (first | (simp; done) | (simp; omega))) | with_reducible apply Blk.alloc | with_reducible apply Blk.drew | with_reducible apply Blk.drewN | with_reducible apply Blk.set | ((with_reducible apply Blk.far); case hp => (first | (simp; done) | (dsimp only; omega))) | ((with_reducible apply Blk.ext); case he => with_reducible assumption)))); obtain ⟨A'1, A'2, A'3, A'4⟩ := A'.c2; have A'5 := A'.lt
    go_wp2_with fail; refine (Z.out _).mono ?_; rintro e w4 ⟨rfl, e4⟩
    have A'' : Blk w4 (w.heap.size) #[.int .i64 a, .int .i64 b] 23 := (by (repeat (first | (with_reducible assumption) | ((with_reducible apply Blk.new_at); focus (first | (simp; done) | (simp; omega))) | with_reducible apply Blk.alloc | with_reducible apply Blk.drew | with_reducible apply Blk.drewN | with_reducible apply Blk.set | ((with_reducible apply Blk.far); case hp => (first | (simp; done) | (dsimp only; omega))) | ((with_reducible apply Blk.ext); case he => with_reducible assumption)))); obtain ⟨A''1, A''2, A''3, A''4⟩ := A''.c2; have A''5 := A''.lt
    have B'' : Blk w4 (w.heap.size + 1) #[.int .i64 c, .int .i64 d] 23 := (by (repeat (first | (with_reducible assumption) | ((with_reducible apply Blk.new_at); focus (first | (simp; done) | (simp; omega))) | with_reducible apply Blk.alloc | with_reducible apply Blk.drew | with_reducible apply Blk.drewN | with_reducible apply Blk.set | ((with_reducible apply Blk.far); case hp => (first | (simp; done) | (dsimp only; omega))) | ((with_reducible apply Blk.ext); case he => with_reducible assumption)))); obtain ⟨B''1, B''2, B''3, B''4⟩ := B''.c2; have B''5 := B''.lt
    go_wp2_with fail; refine (S.out _).mono ?_; rintro e w5 ⟨rfl, e5⟩
    have A3 : Blk w5 (w.heap.size) #[.int .i64 a, .int .i64 b] 23 := (by (repeat (first | (with_reducible assumption) | ((with_reducible apply Blk.new_at); focus (first | (simp; done) | (simp; omega))) | with_reducible apply Blk.alloc | with_reducible apply Blk.drew | with_reducible apply Blk.drewN | with_reducible apply Blk.set | ((with_reducible apply Blk.far); case hp => (first | (simp; done) | (dsimp only; omega))) | ((with_reducible apply Blk.ext); case he => with_reducible assumption)))); obtain ⟨A31, A32, A33, A34⟩ := A3.c2; have A35 := A3.lt
    have B3 : Blk w5 (w.heap.size + 1) #[.int .i64 c, .int .i64 d] 23 := (by (repeat (first | (with_reducible assumption) | ((with_reducible apply Blk.new_at); focus (first | (simp; done) | (simp; omega))) | with_reducible apply Blk.alloc | with_reducible apply Blk.drew | with_reducible apply Blk.drewN | with_reducible apply Blk.set | ((with_reducible apply Blk.far); case hp => (first | (simp; done) | (dsimp only; omega))) | ((with_reducible apply Blk.ext); case he => with_reducible assumption)))); obtain ⟨B31, B32, B33, B34⟩ := B3.c2; have B35 := B3.lt
    have hT : Blk w5 (w.heap.size + 1 + 1) #[.int .u16 p, .int .u16 q] 57 := by (repeat (first | (with_reducible assumption) | ((with_reducible apply Blk.new_at); focus (first | (simp; done) | (simp; omega))) | with_reducible apply Blk.alloc | with_reducible apply Blk.drew | with_reducible apply Blk.drewN | with_reducible apply Blk.set | ((with_reducible apply Blk.far); case hp => (first | (simp; done) | (dsimp only; omega))) | ((with_reducible apply Blk.ext); case he => with_reducible assumption)))
    obtain ⟨t1, t2, t3, t4⟩ := hT.c2
    have tl := hT.lt
    go_wp2_with fail
    go_quiet (fail)
    go_wp2_with fail
    refine (V.out _ _ ?_ ?_).mono ?_
    · rw [W1.out, W2.out, W3.out]; omega
    · rw [W1.out, W2.out, W3.out]; omega
    rintro e w6 ⟨rfl, e6⟩
    have A4 : Blk w6 (w.heap.size) #[.int .i64 a, .int .i64 b] 23 := (by (repeat (first | (with_reducible assumption) | ((with_reducible apply Blk.new_at); focus (first | (simp; done) | (simp; omega))) | with_reducible apply Blk.alloc | with_reducible apply Blk.drew | with_reducible apply Blk.drewN | with_reducible apply Blk.set | ((with_reducible apply Blk.far); case hp => (first | (simp; done) | (dsimp only; omega))) | ((with_reducible apply Blk.ext); case he => with_reducible assumption)))); obtain ⟨A41, A42, A43, A44⟩ := A4.c2; have A45 := A4.lt
    have B4 : Blk w6 (w.heap.size + 1) #[.int .i64 c, .int .i64 d] 23 := (by (repeat (first | (with_reducible assumption) | ((with_reducible apply Blk.new_at); focus (first | (simp; done) | (simp; omega))) | with_reducible apply Blk.alloc | with_reducible apply Blk.drew | with_reducible apply Blk.drewN | with_reducible apply Blk.set | ((with_reducible apply Blk.far); case hp => (first | (simp; done) | (dsimp only; omega))) | ((with_reducible apply Blk.ext); case he => with_reducible assumption)))); obtain ⟨B41, B42, B43, B44⟩ := B4.c2; have B45 := B4.lt
    have S4 : Blk w6 (w5.heap.size) #[.int .i64 (a + c), .int .i64 (b + d)] 23 := (by (repeat (first | (with_reducible assumption) | ((with_reducible apply Blk.new_at); focus (first | (simp; done) | (simp; omega))) | with_reducible apply Blk.alloc | with_reducible apply Blk.drew | with_reducible apply Blk.drewN | with_reducible apply Blk.set | ((with_reducible apply Blk.far); case hp => (first | (simp; done) | (dsimp only; omega))) | ((with_reducible apply Blk.ext); case he => with_reducible assumption)))); obtain ⟨S41, S42, S43, S44⟩ := S4.c2; have S45 := S4.lt
    go_wp2_with fail; refine (awake17_any _).mono ?_; rintro e w7 ⟨rfl, e7⟩
    go_wp2_with fail
    go_ret
    have hs4 : w.heap.size ≤ w4.heap.size := by have := A''.lt; omega
    have hs3 : w.heap.size ≤ w3.heap.size := by have := A'.lt; omega
    have hs5 : w.heap.size ≤ w5.heap.size := by have := A3.lt; omega
    exact Ret.bool (by first | rfl | (simp; done)) (by (repeat (first | (with_reducible assumption) | with_reducible exact Ext.refl _ | with_reducible apply Ext.alloc | with_reducible apply Ext.drew | with_reducible apply Ext.drewN | ((with_reducible apply Ext.set); case hp => (first | (simp; done) | (dsimp only; omega) | omega)) | ((with_reducible apply Ext.trans); case k => with_reducible assumption))))

theorem law_adds (a b c d p q : Int) (w : World) (wp : (Lit.int .u16 p).wf = true) (wq : (Lit.int .u16 q).wf = true) : Calls Try.prog 7 #[.agg #[.int .i64 a, .int .i64 b], .agg #[.int .i64 c, .int .i64 d], .agg #[.int .u16 p, .int .u16 q]] w (Ret (.bool true) w) := by
  by_cases hb : bothE a b c d = 0
  case neg => exact adds_bad a b c d p q w hb
  obtain ⟨h1, h2⟩ := bothE_zero hb
  have g1 := chk_zero h1
  have g2 := chk_zero h2
  have hp : 0 ≤ p ∧ p ≤ 65535 := by simp only [Lit.wf, Bool.and_eq_true, decide_eq_true_eq] at wp; exact wp
  have hq : 0 ≤ q ∧ q ≤ 65535 := by simp only [Lit.wf, Bool.and_eq_true, decide_eq_true_eq] at wq; exact wq
  have N := fun w => neg_any a b w
  have Z := fun w => add_any a b (-b) (-a) w
  have S := fun w => add_any a b c d w
  have n1 : negL a b = ⟨-b, -a⟩ := by simp [negL, h1]
  simp only [n1, h1] at N
  have hz : bothE a b (-b) (-a) = 0 := by rw [bothE_2 h1]; exact chk_of (by omega) (by omega) (by omega)
  have hr : (addE a b (-b) (-a) == 0) = false ∨ ((addE a b (-b) (-a) == 0) = true ∧ (addL a b (-b) (-a)).lo ≤ 0 ∧ -100000 ≤ (addL a b (-b) (-a)).lo ∧ (addL a b (-b) (-a)).hi = -(addL a b (-b) (-a)).lo) := by
    by_cases hc : chk (a + -b) (b + -a) = 0
    · have e1 : addE a b (-b) (-a) = 0 := by simp only [addE, hz, if_true]; exact hc
      have e2 : addL a b (-b) (-a) = ⟨a + -b, b + -a⟩ := by simp only [addL, hz, if_true, madeL, hc]
      have := chk_zero hc
      rw [e1, e2]
      exact .inr ⟨rfl, by simp only []; omega, by simp only []; omega, by simp only []; omega⟩
    · have e1 : addE a b (-b) (-a) = chk (a + -b) (b + -a) := by simp only [addE, hz, if_true]
      rw [e1]
      exact .inl (by simpa using hc)
  by_cases hs : chk (a + c) (b + d) = 0
  · have s1 : addL a b c d = ⟨a + c, b + d⟩ := by simp only [addL, hb, if_true, madeL, hs]
    have s2 : addE a b c d = 0 := by simp only [addE, hb, if_true]; exact hs
    simp only [s1, s2] at S
    have V : ∀ v w, a + c ≤ v → v ≤ b + d → Calls Try.prog 33 #[.agg #[.int .i64 (a + c), .int .i64 (b + d)], .int .i64 v] w (Ret (.tuple #[.bool true, .int .i64 0]) w) := by
      intro v w h3 h4
      have h := contains_any (a + c) (b + d) v w
      have hv : containsB (a + c) (b + d) v = true := by simp [containsB, hs, h3, h4]
      rwa [hv, hs] at h
    exact adds_yes a b c d p q _ _ _ w (by simp [h1]) (by simp [h2]) g1.1 g1.2.1 g1.2.2 g2.1 g2.2.1 g2.2.2 hp.1 hp.2 hq.1 hq.2 N Z S V hr
  · have s1 : addL a b c d = ⟨0, 0⟩ := by simp only [addL, hb, if_true, madeL, hs, if_false]
    have s2 : addE a b c d = 2 := by
      simp only [addE, hb, if_true]
      have := chk_cases (a + c) (b + d)
      rcases this with h | h | h
      · exact absurd h hs
      · exact h
      · exfalso
        unfold chk at h
        split at h
        · split at h
          · simp at h
          · omega
        · simp at h
    simp only [s1, s2] at S
    exact adds_no a b c d p q _ _ _ w (by simp [h1]) (by simp [h2]) N Z S hr
end Go.Proofs.Ytdcedfciaaooiaa
