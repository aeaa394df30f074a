/- The laws DimensionNames, DimensionSums and DimensionHolds return true at every input: the walks. -/
import Derived.Test.YtdcedfciaaooiaaA17
set_option linter.unusedVariables false
namespace Go.Proofs.Ytdcedfciaaooiaa
open Go.RowKit

set_option maxRecDepth 20000 in
set_option maxHeartbeats 4000000 in
theorem law_sums (a b c d : Int) (w : World) : Calls Try.prog 4 #[.agg #[.int .i64 a, .int .i64 b], .agg #[.int .i64 c, .int .i64 d]] w (Ret (.bool true) w) := by
  go_enter Try.func4, Try.ntmps4
  go_wp2_with fail; refine (meet_any _ _ _ _ _).mono ?_; rintro e w1 ⟨rfl, h1⟩
  have A : Blk w1 (w.heap.size) #[.int .i64 a, .int .i64 b] 23 := (by (repeat (first | (with_reducible assumption) | ((with_reducible apply Blk.new_at); focus (first | (simp; done) | (simp; omega))) | with_reducible apply Blk.alloc | with_reducible apply Blk.drew | with_reducible apply Blk.drewN | with_reducible apply Blk.set | ((with_reducible apply Blk.far); case hp => (first | (simp; done) | (dsimp only; omega))) | ((with_reducible apply Blk.ext); case he => with_reducible assumption)))); obtain ⟨A1, A2, A3, A4⟩ := A.c2; have A5 := A.lt
  have B : Blk w1 (w.heap.size + 1) #[.int .i64 c, .int .i64 d] 23 := (by (repeat (first | (with_reducible assumption) | ((with_reducible apply Blk.new_at); focus (first | (simp; done) | (simp; omega))) | with_reducible apply Blk.alloc | with_reducible apply Blk.drew | with_reducible apply Blk.drewN | with_reducible apply Blk.set | ((with_reducible apply Blk.far); case hp => (first | (simp; done) | (dsimp only; omega))) | ((with_reducible apply Blk.ext); case he => with_reducible assumption)))); obtain ⟨B1, B2, B3, B4⟩ := B.c2; have B5 := B.lt
  go_wp2_with fail; refine (rmeet_any _ _ _ _ _).mono ?_; rintro e w2 ⟨rfl, h2⟩
  have A' : Blk w2 (w.heap.size) #[.int .i64 a, .int .i64 b] 23 := (by (repeat (first | (with_reducible assumption) | ((with_reducible apply Blk.new_at); focus (first | (simp; done) | (simp; omega))) | with_reducible apply Blk.alloc | with_reducible apply Blk.drew | with_reducible apply Blk.drewN | with_reducible apply Blk.set | ((with_reducible apply Blk.far); case hp => (first | (simp; done) | (dsimp only; omega))) | ((with_reducible apply Blk.ext); case he => with_reducible assumption)))); obtain ⟨A'1, A'2, A'3, A'4⟩ := A'.c2; have A'5 := A'.lt
  have B' : Blk w2 (w.heap.size + 1) #[.int .i64 c, .int .i64 d] 23 := (by (repeat (first | (with_reducible assumption) | ((with_reducible apply Blk.new_at); focus (first | (simp; done) | (simp; omega))) | with_reducible apply Blk.alloc | with_reducible apply Blk.drew | with_reducible apply Blk.drewN | with_reducible apply Blk.set | ((with_reducible apply Blk.far); case hp => (first | (simp; done) | (dsimp only; omega))) | ((with_reducible apply Blk.ext); case he => with_reducible assumption)))); obtain ⟨B'1, B'2, B'3, B'4⟩ := B'.c2; have B'5 := B'.lt
  go_wp2_with fail; refine (add_any _ _ _ _ _).mono ?_; rintro e w3 ⟨rfl, h3⟩
  have A'' : Blk w3 (w.heap.size) #[.int .i64 a, .int .i64 b] 23 := (by (repeat (first | (with_reducible assumption) | ((with_reducible apply Blk.new_at); focus (first | (simp; done) | (simp; omega))) | with_reducible apply Blk.alloc | with_reducible apply Blk.drew | with_reducible apply Blk.drewN | with_reducible apply Blk.set | ((with_reducible apply Blk.far); case hp => (first | (simp; done) | (dsimp only; omega))) | ((with_reducible apply Blk.ext); case he => with_reducible assumption)))); obtain ⟨A''1, A''2, A''3, A''4⟩ := A''.c2; have A''5 := A''.lt
  have B'' : Blk w3 (w.heap.size + 1) #[.int .i64 c, .int .i64 d] 23 := (by (repeat (first | (with_reducible assumption) | ((with_reducible apply Blk.new_at); focus (first | (simp; done) | (simp; omega))) | with_reducible apply Blk.alloc | with_reducible apply Blk.drew | with_reducible apply Blk.drewN | with_reducible apply Blk.set | ((with_reducible apply Blk.far); case hp => (first | (simp; done) | (dsimp only; omega))) | ((with_reducible apply Blk.ext); case he => with_reducible assumption)))); obtain ⟨B''1, B''2, B''3, B''4⟩ := B''.c2; have B''5 := B''.lt
  go_wp2_with fail; refine (radd_any _ _ _ _ _).mono ?_; rintro e w4 ⟨rfl, h4⟩
  go_wp2_with fail; refine (awake17_any _).mono ?_; rintro e w5 ⟨rfl, h5⟩
  have hs1 := Ext.size h1
  simp only [World.size_alloc] at hs1
  have k1 : Blk w5 w1.heap.size #[.int .i64 (meetL a b c d).lo, .int .i64 (meetL a b c d).hi] 23 := by (repeat (first | (with_reducible assumption) | ((with_reducible apply Blk.new_at); focus (first | (simp; done) | (simp; omega))) | with_reducible apply Blk.alloc | with_reducible apply Blk.drew | with_reducible apply Blk.drewN | with_reducible apply Blk.set | ((with_reducible apply Blk.far); case hp => (first | (simp; done) | (dsimp only; omega))) | ((with_reducible apply Blk.ext); case he => with_reducible assumption)))
  have k2 : Blk w5 w2.heap.size #[.int .i64 (meetL a b c d).lo, .int .i64 (meetL a b c d).hi] 23 := by (repeat (first | (with_reducible assumption) | ((with_reducible apply Blk.new_at); focus (first | (simp; done) | (simp; omega))) | with_reducible apply Blk.alloc | with_reducible apply Blk.drew | with_reducible apply Blk.drewN | with_reducible apply Blk.set | ((with_reducible apply Blk.far); case hp => (first | (simp; done) | (dsimp only; omega))) | ((with_reducible apply Blk.ext); case he => with_reducible assumption)))
  have k3 : Blk w5 w3.heap.size #[.int .i64 (addL a b c d).lo, .int .i64 (addL a b c d).hi] 23 := by (repeat (first | (with_reducible assumption) | ((with_reducible apply Blk.new_at); focus (first | (simp; done) | (simp; omega))) | with_reducible apply Blk.alloc | with_reducible apply Blk.drew | with_reducible apply Blk.drewN | with_reducible apply Blk.set | ((with_reducible apply Blk.far); case hp => (first | (simp; done) | (dsimp only; omega))) | ((with_reducible apply Blk.ext); case he => with_reducible assumption)))
  have k4 : Blk w5 w4.heap.size #[.int .i64 (addL a b c d).lo, .int .i64 (addL a b c d).hi] 23 := by (repeat (first | (with_reducible assumption) | ((with_reducible apply Blk.new_at); focus (first | (simp; done) | (simp; omega))) | with_reducible apply Blk.alloc | with_reducible apply Blk.drew | with_reducible apply Blk.drewN | with_reducible apply Blk.set | ((with_reducible apply Blk.far); case hp => (first | (simp; done) | (dsimp only; omega))) | ((with_reducible apply Blk.ext); case he => with_reducible assumption)))
  obtain ⟨k11, k12, k13, k14⟩ := k1.c2
  obtain ⟨k21, k22, k23, k24⟩ := k2.c2
  obtain ⟨k31, k32, k33, k34⟩ := k3.c2
  obtain ⟨k41, k42, k43, k44⟩ := k4.c2
  go_wp2_with fail
  go_ret
  exact Ret.bool (by first | rfl | (simp; done)) (by (repeat (first | (with_reducible assumption) | with_reducible exact Ext.refl _ | with_reducible apply Ext.alloc | with_reducible apply Ext.drew | with_reducible apply Ext.drewN | ((with_reducible apply Ext.set); case hp => (first | (simp; done) | (dsimp only; omega) | omega)) | ((with_reducible apply Ext.trans); case k => with_reducible assumption))))

set_option maxRecDepth 20000 in
set_option maxHeartbeats 4000000 in
theorem law_holds (a b c d v : Int) (w : World) : Calls Try.prog 8 #[.agg #[.int .i64 a, .int .i64 b], .agg #[.int .i64 c, .int .i64 d], .int .i64 v] w (Ret (.bool true) w) := by
  go_enter Try.func8, Try.ntmps8
  go_wp2_with fail; refine (contains_any _ _ _ _).mono ?_; rintro e w1 ⟨rfl, h1⟩
  have A : Blk w1 (w.heap.size) #[.int .i64 a, .int .i64 b] 23 := (by (repeat (first | (with_reducible assumption) | ((with_reducible apply Blk.new_at); focus (first | (simp; done) | (simp; omega))) | with_reducible apply Blk.alloc | with_reducible apply Blk.drew | with_reducible apply Blk.drewN | with_reducible apply Blk.set | ((with_reducible apply Blk.far); case hp => (first | (simp; done) | (dsimp only; omega))) | ((with_reducible apply Blk.ext); case he => with_reducible assumption)))); obtain ⟨A1, A2, A3, A4⟩ := A.c2; have A5 := A.lt
  have B : Blk w1 (w.heap.size + 1) #[.int .i64 c, .int .i64 d] 23 := (by (repeat (first | (with_reducible assumption) | ((with_reducible apply Blk.new_at); focus (first | (simp; done) | (simp; omega))) | with_reducible apply Blk.alloc | with_reducible apply Blk.drew | with_reducible apply Blk.drewN | with_reducible apply Blk.set | ((with_reducible apply Blk.far); case hp => (first | (simp; done) | (dsimp only; omega))) | ((with_reducible apply Blk.ext); case he => with_reducible assumption)))); obtain ⟨B1, B2, B3, B4⟩ := B.c2; have B5 := B.lt
  go_wp2_with fail; refine (rcontains_any _ _ _ _).mono ?_; rintro e w2 ⟨rfl, h2⟩
  have A' : Blk w2 (w.heap.size) #[.int .i64 a, .int .i64 b] 23 := (by (repeat (first | (with_reducible assumption) | ((with_reducible apply Blk.new_at); focus (first | (simp; done) | (simp; omega))) | with_reducible apply Blk.alloc | with_reducible apply Blk.drew | with_reducible apply Blk.drewN | with_reducible apply Blk.set | ((with_reducible apply Blk.far); case hp => (first | (simp; done) | (dsimp only; omega))) | ((with_reducible apply Blk.ext); case he => with_reducible assumption)))); obtain ⟨A'1, A'2, A'3, A'4⟩ := A'.c2; have A'5 := A'.lt
  have B' : Blk w2 (w.heap.size + 1) #[.int .i64 c, .int .i64 d] 23 := (by (repeat (first | (with_reducible assumption) | ((with_reducible apply Blk.new_at); focus (first | (simp; done) | (simp; omega))) | with_reducible apply Blk.alloc | with_reducible apply Blk.drew | with_reducible apply Blk.drewN | with_reducible apply Blk.set | ((with_reducible apply Blk.far); case hp => (first | (simp; done) | (dsimp only; omega))) | ((with_reducible apply Blk.ext); case he => with_reducible assumption)))); obtain ⟨B'1, B'2, B'3, B'4⟩ := B'.c2; have B'5 := B'.lt
  go_wp2_with fail; refine (inside_any _ _ _ _ _).mono ?_; rintro e w3 ⟨rfl, h3⟩
  have A'' : Blk w3 (w.heap.size) #[.int .i64 a, .int .i64 b] 23 := (by (repeat (first | (with_reducible assumption) | ((with_reducible apply Blk.new_at); focus (first | (simp; done) | (simp; omega))) | with_reducible apply Blk.alloc | with_reducible apply Blk.drew | with_reducible apply Blk.drewN | with_reducible apply Blk.set | ((with_reducible apply Blk.far); case hp => (first | (simp; done) | (dsimp only; omega))) | ((with_reducible apply Blk.ext); case he => with_reducible assumption)))); obtain ⟨A''1, A''2, A''3, A''4⟩ := A''.c2; have A''5 := A''.lt
  have B'' : Blk w3 (w.heap.size + 1) #[.int .i64 c, .int .i64 d] 23 := (by (repeat (first | (with_reducible assumption) | ((with_reducible apply Blk.new_at); focus (first | (simp; done) | (simp; omega))) | with_reducible apply Blk.alloc | with_reducible apply Blk.drew | with_reducible apply Blk.drewN | with_reducible apply Blk.set | ((with_reducible apply Blk.far); case hp => (first | (simp; done) | (dsimp only; omega))) | ((with_reducible apply Blk.ext); case he => with_reducible assumption)))); obtain ⟨B''1, B''2, B''3, B''4⟩ := B''.c2; have B''5 := B''.lt
  go_wp2_with fail; refine (rinside_any _ _ _ _ _).mono ?_; rintro e w4 ⟨rfl, h4⟩
  have A3 : Blk w4 (w.heap.size) #[.int .i64 a, .int .i64 b] 23 := (by (repeat (first | (with_reducible assumption) | ((with_reducible apply Blk.new_at); focus (first | (simp; done) | (simp; omega))) | with_reducible apply Blk.alloc | with_reducible apply Blk.drew | with_reducible apply Blk.drewN | with_reducible apply Blk.set | ((with_reducible apply Blk.far); case hp => (first | (simp; done) | (dsimp only; omega))) | ((with_reducible apply Blk.ext); case he => with_reducible assumption)))); obtain ⟨A31, A32, A33, A34⟩ := A3.c2; have A35 := A3.lt
  go_wp2_with fail; refine (neg_any _ _ _).mono ?_; rintro e w5 ⟨rfl, h5⟩
  have A4 : Blk w5 (w.heap.size) #[.int .i64 a, .int .i64 b] 23 := (by (repeat (first | (with_reducible assumption) | ((with_reducible apply Blk.new_at); focus (first | (simp; done) | (simp; omega))) | with_reducible apply Blk.alloc | with_reducible apply Blk.drew | with_reducible apply Blk.drewN | with_reducible apply Blk.set | ((with_reducible apply Blk.far); case hp => (first | (simp; done) | (dsimp only; omega))) | ((with_reducible apply Blk.ext); case he => with_reducible assumption)))); obtain ⟨A41, A42, A43, A44⟩ := A4.c2; have A45 := A4.lt
  go_wp2_with fail; refine (rneg_any _ _ _).mono ?_; rintro e w6 ⟨rfl, h6⟩
  go_wp2_with fail; refine (awake17_any _).mono ?_; rintro e w7 ⟨rfl, h7⟩
  have hs1 := Ext.size h1
  simp only [World.size_alloc] at hs1
  have k1 : Blk w7 w5.heap.size #[.int .i64 (negL a b).lo, .int .i64 (negL a b).hi] 23 := by (repeat (first | (with_reducible assumption) | ((with_reducible apply Blk.new_at); focus (first | (simp; done) | (simp; omega))) | with_reducible apply Blk.alloc | with_reducible apply Blk.drew | with_reducible apply Blk.drewN | with_reducible apply Blk.set | ((with_reducible apply Blk.far); case hp => (first | (simp; done) | (dsimp only; omega))) | ((with_reducible apply Blk.ext); case he => with_reducible assumption)))
  have k2 : Blk w7 w6.heap.size #[.int .i64 (negL a b).lo, .int .i64 (negL a b).hi] 23 := by (repeat (first | (with_reducible assumption) | ((with_reducible apply Blk.new_at); focus (first | (simp; done) | (simp; omega))) | with_reducible apply Blk.alloc | with_reducible apply Blk.drew | with_reducible apply Blk.drewN | with_reducible apply Blk.set | ((with_reducible apply Blk.far); case hp => (first | (simp; done) | (dsimp only; omega))) | ((with_reducible apply Blk.ext); case he => with_reducible assumption)))
  obtain ⟨k11, k12, k13, k14⟩ := k1.c2
  obtain ⟨k21, k22, k23, k24⟩ := k2.c2
  go_wp2_with fail
  go_ret
  exact Ret.bool (by first | rfl | (simp; done)) (by (repeat (first | (with_reducible assumption) | with_reducible exact Ext.refl _ | with_reducible apply Ext.alloc | with_reducible apply Ext.drew | with_reducible apply Ext.drewN | ((with_reducible apply Ext.set); case hp => (first | (simp; done) | (dsimp only; omega) | omega)) | ((with_reducible apply Ext.trans); case k => with_reducible assumption))))

set_option maxRecDepth 20000 in
set_option maxHeartbeats 4000000 in
theorem law_names (s : ByteArray) (a b n0 n1 n2 : Int) (w : World) (hs : s.size ≤ 140737488351232) : Calls Try.prog 3 #[.string s, .agg #[.int .i64 a, .int .i64 b], .agg #[.int .i64 n0, .int .i64 n1, .int .i64 n2]] w (Ret (.bool true) w) := by
  by_cases hl : 100 < s.size
  · go_enter Try.func3, Try.ntmps3
    go_wp2_with fail; refine (awake17_any _).mono ?_; rintro e w1 ⟨rfl, h1⟩
    go_wp2_with fail
    go_ret
    exact Ret.bool (by first | rfl | (simp; done)) (by (repeat (first | (with_reducible assumption) | with_reducible exact Ext.refl _ | with_reducible apply Ext.alloc | with_reducible apply Ext.drew | with_reducible apply Ext.drewN | ((with_reducible apply Ext.set); case hp => (first | (simp; done) | (dsimp only; omega) | omega)) | ((with_reducible apply Ext.trans); case k => with_reducible assumption))))
  · have hsz : s.size ≤ 9223372036854775807 := by omega
    go_enter Try.func3, Try.ntmps3
    go_wp2_with fail; refine (of_any _ _ _ _).mono ?_; rintro e w1 ⟨rfl, h1⟩
    have hN : Blk w1 (w.heap.size + 1) #[.int .i64 n0, .int .i64 n1, .int .i64 n2] 24 := by (repeat (first | (with_reducible assumption) | ((with_reducible apply Blk.new_at); focus (first | (simp; done) | (simp; omega))) | with_reducible apply Blk.alloc | with_reducible apply Blk.drew | with_reducible apply Blk.drewN | with_reducible apply Blk.set | ((with_reducible apply Blk.far); case hp => (first | (simp; done) | (dsimp only; omega))) | ((with_reducible apply Blk.ext); case he => with_reducible assumption)))
    have hN1 := hN.cell 0
    have hN2 := hN.cell 1
    have hN3 := hN.cell 2
    simp at hN1 hN2 hN3
    have hNl := hN.lt
    go_wp2_with fail; refine (rof_any _ _ _ _).mono ?_; rintro e w2 ⟨rfl, h2⟩
    have hs1 := Ext.size h1
    simp only [World.size_alloc] at hs1
    have A : Blk w2 (w.heap.size) #[.int .i64 a, .int .i64 b] 23 := (by (repeat (first | (with_reducible assumption) | ((with_reducible apply Blk.new_at); focus (first | (simp; done) | (simp; omega))) | with_reducible apply Blk.alloc | with_reducible apply Blk.drew | with_reducible apply Blk.drewN | with_reducible apply Blk.set | ((with_reducible apply Blk.far); case hp => (first | (simp; done) | (dsimp only; omega))) | ((with_reducible apply Blk.ext); case he => with_reducible assumption)))); obtain ⟨A1, A2, A3, A4⟩ := A.c2; have A5 := A.lt
    have K1 : Blk w2 (w1.heap.size) #[.int .i64 (ofL n0 n1 n2).lo, .int .i64 (ofL n0 n1 n2).hi] 23 := (by (repeat (first | (with_reducible assumption) | ((with_reducible apply Blk.new_at); focus (first | (simp; done) | (simp; omega))) | with_reducible apply Blk.alloc | with_reducible apply Blk.drew | with_reducible apply Blk.drewN | with_reducible apply Blk.set | ((with_reducible apply Blk.far); case hp => (first | (simp; done) | (dsimp only; omega))) | ((with_reducible apply Blk.ext); case he => with_reducible assumption)))); obtain ⟨K11, K12, K13, K14⟩ := K1.c2; have K15 := K1.lt
    go_wp2_with fail
    go_region_held3 (fun W => (W.cell? ⟨w.heap.size, 0, none⟩ = some (.int .i64 a) ∧ W.cell? ⟨w.heap.size, 1, none⟩ = some (.int .i64 b)) ∧ (W.cell? ⟨w1.heap.size, 0, none⟩ = some (.int .i64 (ofL n0 n1 n2).lo) ∧ W.cell? ⟨w1.heap.size, 1, none⟩ = some (.int .i64 (ofL n0 n1 n2).hi)) ∧
        (W.cell? ⟨w2.heap.size, 0, none⟩ = some (.int .i64 (ofL n0 n1 n2).lo) ∧ W.cell? ⟨w2.heap.size, 1, none⟩ = some (.int .i64 (ofL n0 n1 n2).hi)))
      (exact ⟨Blk.r2 (t := 23) (by (repeat (first | (with_reducible assumption) | ((with_reducible apply Blk.new_at); focus (first | (simp; done) | (simp; omega))) | with_reducible apply Blk.alloc | with_reducible apply Blk.drew | with_reducible apply Blk.drewN | with_reducible apply Blk.set | ((with_reducible apply Blk.far); case hp => (first | (simp; done) | (dsimp only; omega))) | ((with_reducible apply Blk.ext); case he => with_reducible assumption)))), Blk.r2 (t := 23) (by (repeat (first | (with_reducible assumption) | ((with_reducible apply Blk.new_at); focus (first | (simp; done) | (simp; omega))) | with_reducible apply Blk.alloc | with_reducible apply Blk.drew | with_reducible apply Blk.drewN | with_reducible apply Blk.set | ((with_reducible apply Blk.far); case hp => (first | (simp; done) | (dsimp only; omega))) | ((with_reducible apply Blk.ext); case he => with_reducible assumption)))), Blk.r2 (t := 23) (by (repeat (first | (with_reducible assumption) | ((with_reducible apply Blk.new_at); focus (first | (simp; done) | (simp; omega))) | with_reducible apply Blk.alloc | with_reducible apply Blk.drew | with_reducible apply Blk.drewN | with_reducible apply Blk.set | ((with_reducible apply Blk.far); case hp => (first | (simp; done) | (dsimp only; omega))) | ((with_reducible apply Blk.ext); case he => with_reducible assumption))))⟩)
      (first
        | (go_at_call 15; refine (awake17_any _).mono ?_; rintro e w3 ⟨rfl, h3⟩)
        | (go_at_call 18; refine (name_any _ _ hsz).mono ?_; rintro e w4 ⟨rfl, h4⟩)
        | (go_at_call 19; refine (rname_any _ _ hsz).mono ?_; rintro e w5 ⟨rfl, h5⟩)
        | (go_at_call 20; refine (check_any _ _ _).mono ?_; rintro e w6 ⟨rfl, h6⟩)
        | (go_at_call 21; refine (rcheck_any _ _ _).mono ?_; rintro e w7 ⟨rfl, h7⟩))
    all_goals
      go_wp2_with fail
      go_ret
      exact Ret.bool (by first | rfl | (simp; done)) (by (repeat (first | (with_reducible assumption) | with_reducible exact Ext.refl _ | with_reducible apply Ext.alloc | with_reducible apply Ext.drew | with_reducible apply Ext.drewN | ((with_reducible apply Ext.set); case hp => (first | (simp; done) | (dsimp only; omega) | omega)) | ((with_reducible apply Ext.trans); case k => with_reducible assumption))))
end Go.Proofs.Ytdcedfciaaooiaa
