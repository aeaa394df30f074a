/- The deviations of the reference's layer 15. -/
import Derived.Test.YtdcedfciaaooiaaI15
set_option linter.unusedVariables false
namespace Go.Proofs.Ytdcedfciaaooiaa
open Go.RowKit

theorem retL15 {a b x y : Int} {w w' : World} (hx : x = a) (hy : y = b) (h : Ext w w') : Ret (.agg #[.int .i64 a, .int .i64 b]) w (.returned (.agg ((#[.int .i64 0, .int .i64 0].setIfInBounds 0 (.int .i64 x)).setIfInBounds 1 (.int .i64 y)))) w' := by
  subst hx hy
  exact ⟨rfl, h⟩
set_option maxRecDepth 20000 in
set_option maxHeartbeats 4000000 in
theorem rshaft_any (n : Int) (k : Nat) (g : Int) (hk : k < 10) (h5 : 5 ≤ g) (h12 : g ≤ 12) (w : World) :
    Calls Try.prog 130 #[.int .i64 n, .int .i64 (k : Int), .int .i64 g] w (Ret (.agg #[.int .i64 (devI n k g).lo, .int .i64 (devI n k g).hi]) w) := by
  have hb := base_range n
  have ht := tol_range n h5 h12
  have hw := fun w => rwide_any n g h5 h12 w
  obtain ⟨t, ht0⟩ : ∃ v, tolI n g = v := ⟨_, rfl⟩
  rw [ht0] at ht hw
  have HW := Lib.hid hw
  clear hw
  have hg : k = 0 ∨ k = 1 ∨ k = 2 ∨ k = 3 ∨ k = 4 ∨ k = 5 ∨ k = 6 ∨ k = 7 ∨ k = 8 ∨ k = 9 := by omega
  rcases hg with rfl | rfl | rfl | rfl | rfl | rfl | rfl | rfl | rfl | rfl
  · have hs1 := sh_range n (k := 0) (by omega)
    obtain ⟨s, hs0⟩ : ∃ v, shI n 0 = v := ⟨_, rfl⟩
    rw [hs0] at hs1
    have hd : (devI n 0 g).lo = -s - t ∧ (devI n 0 g).hi = -s := by
      simp [devI, ht0, hs0]
    have f5 : IntKind.i64.wrap ((IntKind.i64.wrap (baseI n * 50)).tdiv 10) = s := by
      have := sh_wrap n (k := 0) (by omega)
      rw [hs0] at this
      exact this
    have hz : True := by trivial
    have HD := Lib.hid hd
    have HZ := Lib.hid hz
    have v0 : IntKind.i64.wrap 0 = 0 := rfl
    have v1 : IntKind.i64.wrap 1 = 1 := rfl
    have v2 : IntKind.i64.wrap 2 = 2 := rfl
    have v3 : IntKind.i64.wrap 3 = 3 := rfl
    have v4 : IntKind.i64.wrap 4 = 4 := rfl
    have v5 : IntKind.i64.wrap 5 = 5 := rfl
    have v6 : IntKind.i64.wrap 6 = 6 := rfl
    have v7 : IntKind.i64.wrap 7 = 7 := rfl
    have v8 : IntKind.i64.wrap 8 = 8 := rfl
    have v9 : IntKind.i64.wrap 9 = 9 := rfl
    clear hd hz ht0 hs0
    go_enter Try.func130, Try.ntmps130
    go_wp2_with fail; refine (HW.out _).mono ?_; rintro e w1 ⟨rfl, h1⟩
    have O : Blk w1 (w.heap.size) #[.int .i64 0, .int .i64 0] 23 := (by (repeat (first | (with_reducible assumption) | ((with_reducible apply Blk.new_at); focus (first | (simp; done) | (simp; omega))) | with_reducible apply Blk.alloc | with_reducible apply Blk.drew | with_reducible apply Blk.drewN | with_reducible apply Blk.set | ((with_reducible apply Blk.far); case hp => (first | (simp; done) | (dsimp only; omega))) | ((with_reducible apply Blk.ext); case he => with_reducible assumption)))); obtain ⟨O1, O2, O3, O4⟩ := O.c2; have O5 := O.lt
    go_wp2_with fail
    go_region_with (first
      | (go_at_call 135; refine (rbase_any n _).mono ?_; rintro e w2 ⟨rfl, h2⟩; refine (have hO2 : Blk w2 w.heap.size #[.int .i64 0, .int .i64 0] 23 := ?_; ?_); (focus ((repeat (first | (with_reducible assumption) | ((with_reducible apply Blk.new_at); focus (first | (simp; done) | (simp; omega))) | with_reducible apply Blk.alloc | with_reducible apply Blk.drew | with_reducible apply Blk.drewN | with_reducible apply Blk.set | ((with_reducible apply Blk.far); case hp => (first | (simp; done) | (dsimp only; omega))) | ((with_reducible apply Blk.ext); case he => with_reducible assumption))); done)); obtain ⟨o1, o2, o3, o4⟩ := hO2.c2; have o5 := hO2.lt; (try (refine (have hN : Blk w2 w1.heap.size #[.int .i64 50, .int .i64 31, .int .i64 16, .int .i64 6, .int .i64 0, .int .i64 0, .int .i64 2, .int .i64 9, .int .i64 15, .int .i64 22] 3 := ?_; ?_); (focus ((repeat (first | (with_reducible assumption) | ((with_reducible apply Blk.new_at); focus (first | (simp; done) | (simp; omega))) | with_reducible apply Blk.alloc | with_reducible apply Blk.drew | with_reducible apply Blk.drewN | with_reducible apply Blk.set | ((with_reducible apply Blk.far); case hp => (first | (simp; done) | (dsimp only; omega))) | ((with_reducible apply Blk.ext); case he => with_reducible assumption))); done)); have n0 := hN.cell 0; have n1 := hN.cell 1; have n2 := hN.cell 2; have n3 := hN.cell 3; have n4 := hN.cell 4; have n5 := hN.cell 5; have n6 := hN.cell 6; have n7 := hN.cell 7; have n8 := hN.cell 8; have n9 := hN.cell 9; simp at n0 n1 n2 n3 n4 n5 n6 n7 n8 n9))))
    all_goals
      go_wp2_with fail
      refine end_c rfl rfl _ _ _ _ rfl (by (repeat (first | (with_reducible assumption) | ((with_reducible apply Blk.new_at); focus (first | (simp; done) | (simp; omega))) | with_reducible apply Blk.alloc | with_reducible apply Blk.drew | with_reducible apply Blk.drewN | with_reducible apply Blk.set | ((with_reducible apply Blk.far); case hp => (first | (simp; done) | (dsimp only; omega))) | ((with_reducible apply Blk.ext); case he => with_reducible assumption)))) Try.underlying23 rfl (by exact szL15) ?_
      exact retL15 (by have := HD.out; have := HZ.out; omega) (by have := HD.out; have := HZ.out; omega) (by (repeat (first | (with_reducible assumption) | with_reducible exact Ext.refl _ | with_reducible apply Ext.alloc | with_reducible apply Ext.drew | with_reducible apply Ext.drewN | ((with_reducible apply Ext.set); case hp => (first | (simp; done) | (dsimp only; omega) | omega)) | ((with_reducible apply Ext.trans); case k => with_reducible assumption))))
  · have hs1 := sh_range n (k := 1) (by omega)
    obtain ⟨s, hs0⟩ : ∃ v, shI n 1 = v := ⟨_, rfl⟩
    rw [hs0] at hs1
    have hd : (devI n 1 g).lo = -s - t ∧ (devI n 1 g).hi = -s := by
      simp [devI, ht0, hs0]
    have f5 : IntKind.i64.wrap ((IntKind.i64.wrap (baseI n * 31)).tdiv 10) = s := by
      have := sh_wrap n (k := 1) (by omega)
      rw [hs0] at this
      exact this
    have hz : True := by trivial
    have HD := Lib.hid hd
    have HZ := Lib.hid hz
    have v0 : IntKind.i64.wrap 0 = 0 := rfl
    have v1 : IntKind.i64.wrap 1 = 1 := rfl
    have v2 : IntKind.i64.wrap 2 = 2 := rfl
    have v3 : IntKind.i64.wrap 3 = 3 := rfl
    have v4 : IntKind.i64.wrap 4 = 4 := rfl
    have v5 : IntKind.i64.wrap 5 = 5 := rfl
    have v6 : IntKind.i64.wrap 6 = 6 := rfl
    have v7 : IntKind.i64.wrap 7 = 7 := rfl
    have v8 : IntKind.i64.wrap 8 = 8 := rfl
    have v9 : IntKind.i64.wrap 9 = 9 := rfl
    clear hd hz ht0 hs0
    go_enter Try.func130, Try.ntmps130
    go_wp2_with fail; refine (HW.out _).mono ?_; rintro e w1 ⟨rfl, h1⟩
    have O : Blk w1 (w.heap.size) #[.int .i64 0, .int .i64 0] 23 := (by (repeat (first | (with_reducible assumption) | ((with_reducible apply Blk.new_at); focus (first | (simp; done) | (simp; omega))) | with_reducible apply Blk.alloc | with_reducible apply Blk.drew | with_reducible apply Blk.drewN | with_reducible apply Blk.set | ((with_reducible apply Blk.far); case hp => (first | (simp; done) | (dsimp only; omega))) | ((with_reducible apply Blk.ext); case he => with_reducible assumption)))); obtain ⟨O1, O2, O3, O4⟩ := O.c2; have O5 := O.lt
    go_wp2_with fail
    go_region_with (first
      | (go_at_call 135; refine (rbase_any n _).mono ?_; rintro e w2 ⟨rfl, h2⟩; refine (have hO2 : Blk w2 w.heap.size #[.int .i64 0, .int .i64 0] 23 := ?_; ?_); (focus ((repeat (first | (with_reducible assumption) | ((with_reducible apply Blk.new_at); focus (first | (simp; done) | (simp; omega))) | with_reducible apply Blk.alloc | with_reducible apply Blk.drew | with_reducible apply Blk.drewN | with_reducible apply Blk.set | ((with_reducible apply Blk.far); case hp => (first | (simp; done) | (dsimp only; omega))) | ((with_reducible apply Blk.ext); case he => with_reducible assumption))); done)); obtain ⟨o1, o2, o3, o4⟩ := hO2.c2; have o5 := hO2.lt; (try (refine (have hN : Blk w2 w1.heap.size #[.int .i64 50, .int .i64 31, .int .i64 16, .int .i64 6, .int .i64 0, .int .i64 0, .int .i64 2, .int .i64 9, .int .i64 15, .int .i64 22] 3 := ?_; ?_); (focus ((repeat (first | (with_reducible assumption) | ((with_reducible apply Blk.new_at); focus (first | (simp; done) | (simp; omega))) | with_reducible apply Blk.alloc | with_reducible apply Blk.drew | with_reducible apply Blk.drewN | with_reducible apply Blk.set | ((with_reducible apply Blk.far); case hp => (first | (simp; done) | (dsimp only; omega))) | ((with_reducible apply Blk.ext); case he => with_reducible assumption))); done)); have n0 := hN.cell 0; have n1 := hN.cell 1; have n2 := hN.cell 2; have n3 := hN.cell 3; have n4 := hN.cell 4; have n5 := hN.cell 5; have n6 := hN.cell 6; have n7 := hN.cell 7; have n8 := hN.cell 8; have n9 := hN.cell 9; simp at n0 n1 n2 n3 n4 n5 n6 n7 n8 n9))))
    all_goals
      go_wp2_with fail
      refine end_c rfl rfl _ _ _ _ rfl (by (repeat (first | (with_reducible assumption) | ((with_reducible apply Blk.new_at); focus (first | (simp; done) | (simp; omega))) | with_reducible apply Blk.alloc | with_reducible apply Blk.drew | with_reducible apply Blk.drewN | with_reducible apply Blk.set | ((with_reducible apply Blk.far); case hp => (first | (simp; done) | (dsimp only; omega))) | ((with_reducible apply Blk.ext); case he => with_reducible assumption)))) Try.underlying23 rfl (by exact szL15) ?_
      exact retL15 (by have := HD.out; have := HZ.out; omega) (by have := HD.out; have := HZ.out; omega) (by (repeat (first | (with_reducible assumption) | with_reducible exact Ext.refl _ | with_reducible apply Ext.alloc | with_reducible apply Ext.drew | with_reducible apply Ext.drewN | ((with_reducible apply Ext.set); case hp => (first | (simp; done) | (dsimp only; omega) | omega)) | ((with_reducible apply Ext.trans); case k => with_reducible assumption))))
  · have hs1 := sh_range n (k := 2) (by omega)
    obtain ⟨s, hs0⟩ : ∃ v, shI n 2 = v := ⟨_, rfl⟩
    rw [hs0] at hs1
    have hd : (devI n 2 g).lo = -s - t ∧ (devI n 2 g).hi = -s := by
      simp [devI, ht0, hs0]
    have f5 : IntKind.i64.wrap ((IntKind.i64.wrap (baseI n * 16)).tdiv 10) = s := by
      have := sh_wrap n (k := 2) (by omega)
      rw [hs0] at this
      exact this
    have hz : True := by trivial
    have HD := Lib.hid hd
    have HZ := Lib.hid hz
    have v0 : IntKind.i64.wrap 0 = 0 := rfl
    have v1 : IntKind.i64.wrap 1 = 1 := rfl
    have v2 : IntKind.i64.wrap 2 = 2 := rfl
    have v3 : IntKind.i64.wrap 3 = 3 := rfl
    have v4 : IntKind.i64.wrap 4 = 4 := rfl
    have v5 : IntKind.i64.wrap 5 = 5 := rfl
    have v6 : IntKind.i64.wrap 6 = 6 := rfl
    have v7 : IntKind.i64.wrap 7 = 7 := rfl
    have v8 : IntKind.i64.wrap 8 = 8 := rfl
    have v9 : IntKind.i64.wrap 9 = 9 := rfl
    clear hd hz ht0 hs0
    go_enter Try.func130, Try.ntmps130
    go_wp2_with fail; refine (HW.out _).mono ?_; rintro e w1 ⟨rfl, h1⟩
    have O : Blk w1 (w.heap.size) #[.int .i64 0, .int .i64 0] 23 := (by (repeat (first | (with_reducible assumption) | ((with_reducible apply Blk.new_at); focus (first | (simp; done) | (simp; omega))) | with_reducible apply Blk.alloc | with_reducible apply Blk.drew | with_reducible apply Blk.drewN | with_reducible apply Blk.set | ((with_reducible apply Blk.far); case hp => (first | (simp; done) | (dsimp only; omega))) | ((with_reducible apply Blk.ext); case he => with_reducible assumption)))); obtain ⟨O1, O2, O3, O4⟩ := O.c2; have O5 := O.lt
    go_wp2_with fail
    go_region_with (first
      | (go_at_call 135; refine (rbase_any n _).mono ?_; rintro e w2 ⟨rfl, h2⟩; refine (have hO2 : Blk w2 w.heap.size #[.int .i64 0, .int .i64 0] 23 := ?_; ?_); (focus ((repeat (first | (with_reducible assumption) | ((with_reducible apply Blk.new_at); focus (first | (simp; done) | (simp; omega))) | with_reducible apply Blk.alloc | with_reducible apply Blk.drew | with_reducible apply Blk.drewN | with_reducible apply Blk.set | ((with_reducible apply Blk.far); case hp => (first | (simp; done) | (dsimp only; omega))) | ((with_reducible apply Blk.ext); case he => with_reducible assumption))); done)); obtain ⟨o1, o2, o3, o4⟩ := hO2.c2; have o5 := hO2.lt; (try (refine (have hN : Blk w2 w1.heap.size #[.int .i64 50, .int .i64 31, .int .i64 16, .int .i64 6, .int .i64 0, .int .i64 0, .int .i64 2, .int .i64 9, .int .i64 15, .int .i64 22] 3 := ?_; ?_); (focus ((repeat (first | (with_reducible assumption) | ((with_reducible apply Blk.new_at); focus (first | (simp; done) | (simp; omega))) | with_reducible apply Blk.alloc | with_reducible apply Blk.drew | with_reducible apply Blk.drewN | with_reducible apply Blk.set | ((with_reducible apply Blk.far); case hp => (first | (simp; done) | (dsimp only; omega))) | ((with_reducible apply Blk.ext); case he => with_reducible assumption))); done)); have n0 := hN.cell 0; have n1 := hN.cell 1; have n2 := hN.cell 2; have n3 := hN.cell 3; have n4 := hN.cell 4; have n5 := hN.cell 5; have n6 := hN.cell 6; have n7 := hN.cell 7; have n8 := hN.cell 8; have n9 := hN.cell 9; simp at n0 n1 n2 n3 n4 n5 n6 n7 n8 n9))))
    all_goals
      go_wp2_with fail
      refine end_c rfl rfl _ _ _ _ rfl (by (repeat (first | (with_reducible assumption) | ((with_reducible apply Blk.new_at); focus (first | (simp; done) | (simp; omega))) | with_reducible apply Blk.alloc | with_reducible apply Blk.drew | with_reducible apply Blk.drewN | with_reducible apply Blk.set | ((with_reducible apply Blk.far); case hp => (first | (simp; done) | (dsimp only; omega))) | ((with_reducible apply Blk.ext); case he => with_reducible assumption)))) Try.underlying23 rfl (by exact szL15) ?_
      exact retL15 (by have := HD.out; have := HZ.out; omega) (by have := HD.out; have := HZ.out; omega) (by (repeat (first | (with_reducible assumption) | with_reducible exact Ext.refl _ | with_reducible apply Ext.alloc | with_reducible apply Ext.drew | with_reducible apply Ext.drewN | ((with_reducible apply Ext.set); case hp => (first | (simp; done) | (dsimp only; omega) | omega)) | ((with_reducible apply Ext.trans); case k => with_reducible assumption))))
  · have hs1 := sh_range n (k := 3) (by omega)
    obtain ⟨s, hs0⟩ : ∃ v, shI n 3 = v := ⟨_, rfl⟩
    rw [hs0] at hs1
    have hd : (devI n 3 g).lo = -s - t ∧ (devI n 3 g).hi = -s := by
      simp [devI, ht0, hs0]
    have f5 : IntKind.i64.wrap ((IntKind.i64.wrap (baseI n * 6)).tdiv 10) = s := by
      have := sh_wrap n (k := 3) (by omega)
      rw [hs0] at this
      exact this
    have hz : True := by trivial
    have HD := Lib.hid hd
    have HZ := Lib.hid hz
    have v0 : IntKind.i64.wrap 0 = 0 := rfl
    have v1 : IntKind.i64.wrap 1 = 1 := rfl
    have v2 : IntKind.i64.wrap 2 = 2 := rfl
    have v3 : IntKind.i64.wrap 3 = 3 := rfl
    have v4 : IntKind.i64.wrap 4 = 4 := rfl
    have v5 : IntKind.i64.wrap 5 = 5 := rfl
    have v6 : IntKind.i64.wrap 6 = 6 := rfl
    have v7 : IntKind.i64.wrap 7 = 7 := rfl
    have v8 : IntKind.i64.wrap 8 = 8 := rfl
    have v9 : IntKind.i64.wrap 9 = 9 := rfl
    clear hd hz ht0 hs0
    go_enter Try.func130, Try.ntmps130
    go_wp2_with fail; refine (HW.out _).mono ?_; rintro e w1 ⟨rfl, h1⟩
    have O : Blk w1 (w.heap.size) #[.int .i64 0, .int .i64 0] 23 := (by (repeat (first | (with_reducible assumption) | ((with_reducible apply Blk.new_at); focus (first | (simp; done) | (simp; omega))) | with_reducible apply Blk.alloc | with_reducible apply Blk.drew | with_reducible apply Blk.drewN | with_reducible apply Blk.set | ((with_reducible apply Blk.far); case hp => (first | (simp; done) | (dsimp only; omega))) | ((with_reducible apply Blk.ext); case he => with_reducible assumption)))); obtain ⟨O1, O2, O3, O4⟩ := O.c2; have O5 := O.lt
    go_wp2_with fail
    go_region_with (first
      | (go_at_call 135; refine (rbase_any n _).mono ?_; rintro e w2 ⟨rfl, h2⟩; refine (have hO2 : Blk w2 w.heap.size #[.int .i64 0, .int .i64 0] 23 := ?_; ?_); (focus ((repeat (first | (with_reducible assumption) | ((with_reducible apply Blk.new_at); focus (first | (simp; done) | (simp; omega))) | with_reducible apply Blk.alloc | with_reducible apply Blk.drew | with_reducible apply Blk.drewN | with_reducible apply Blk.set | ((with_reducible apply Blk.far); case hp => (first | (simp; done) | (dsimp only; omega))) | ((with_reducible apply Blk.ext); case he => with_reducible assumption))); done)); obtain ⟨o1, o2, o3, o4⟩ := hO2.c2; have o5 := hO2.lt; (try (refine (have hN : Blk w2 w1.heap.size #[.int .i64 50, .int .i64 31, .int .i64 16, .int .i64 6, .int .i64 0, .int .i64 0, .int .i64 2, .int .i64 9, .int .i64 15, .int .i64 22] 3 := ?_; ?_); (focus ((repeat (first | (with_reducible assumption) | ((with_reducible apply Blk.new_at); focus (first | (simp; done) | (simp; omega))) | with_reducible apply Blk.alloc | with_reducible apply Blk.drew | with_reducible apply Blk.drewN | with_reducible apply Blk.set | ((with_reducible apply Blk.far); case hp => (first | (simp; done) | (dsimp only; omega))) | ((with_reducible apply Blk.ext); case he => with_reducible assumption))); done)); have n0 := hN.cell 0; have n1 := hN.cell 1; have n2 := hN.cell 2; have n3 := hN.cell 3; have n4 := hN.cell 4; have n5 := hN.cell 5; have n6 := hN.cell 6; have n7 := hN.cell 7; have n8 := hN.cell 8; have n9 := hN.cell 9; simp at n0 n1 n2 n3 n4 n5 n6 n7 n8 n9))))
    all_goals
      go_wp2_with fail
      refine end_c rfl rfl _ _ _ _ rfl (by (repeat (first | (with_reducible assumption) | ((with_reducible apply Blk.new_at); focus (first | (simp; done) | (simp; omega))) | with_reducible apply Blk.alloc | with_reducible apply Blk.drew | with_reducible apply Blk.drewN | with_reducible apply Blk.set | ((with_reducible apply Blk.far); case hp => (first | (simp; done) | (dsimp only; omega))) | ((with_reducible apply Blk.ext); case he => with_reducible assumption)))) Try.underlying23 rfl (by exact szL15) ?_
      exact retL15 (by have := HD.out; have := HZ.out; omega) (by have := HD.out; have := HZ.out; omega) (by (repeat (first | (with_reducible assumption) | with_reducible exact Ext.refl _ | with_reducible apply Ext.alloc | with_reducible apply Ext.drew | with_reducible apply Ext.drewN | ((with_reducible apply Ext.set); case hp => (first | (simp; done) | (dsimp only; omega) | omega)) | ((with_reducible apply Ext.trans); case k => with_reducible assumption))))
  · have hs1 := sh_range n (k := 4) (by omega)
    obtain ⟨s, hs0⟩ : ∃ v, shI n 4 = v := ⟨_, rfl⟩
    rw [hs0] at hs1
    have hd : (devI n 4 g).lo = -s - t ∧ (devI n 4 g).hi = -s := by
      simp [devI, ht0, hs0]
    have hz : s = 0 := by rw [← hs0]; simp [shI, shifts]
    have HD := Lib.hid hd
    have HZ := Lib.hid hz
    have v0 : IntKind.i64.wrap 0 = 0 := rfl
    have v1 : IntKind.i64.wrap 1 = 1 := rfl
    have v2 : IntKind.i64.wrap 2 = 2 := rfl
    have v3 : IntKind.i64.wrap 3 = 3 := rfl
    have v4 : IntKind.i64.wrap 4 = 4 := rfl
    have v5 : IntKind.i64.wrap 5 = 5 := rfl
    have v6 : IntKind.i64.wrap 6 = 6 := rfl
    have v7 : IntKind.i64.wrap 7 = 7 := rfl
    have v8 : IntKind.i64.wrap 8 = 8 := rfl
    have v9 : IntKind.i64.wrap 9 = 9 := rfl
    clear hd hz ht0 hs0
    go_enter Try.func130, Try.ntmps130
    go_wp2_with fail; refine (HW.out _).mono ?_; rintro e w1 ⟨rfl, h1⟩
    have O : Blk w1 (w.heap.size) #[.int .i64 0, .int .i64 0] 23 := (by (repeat (first | (with_reducible assumption) | ((with_reducible apply Blk.new_at); focus (first | (simp; done) | (simp; omega))) | with_reducible apply Blk.alloc | with_reducible apply Blk.drew | with_reducible apply Blk.drewN | with_reducible apply Blk.set | ((with_reducible apply Blk.far); case hp => (first | (simp; done) | (dsimp only; omega))) | ((with_reducible apply Blk.ext); case he => with_reducible assumption)))); obtain ⟨O1, O2, O3, O4⟩ := O.c2; have O5 := O.lt
    go_wp2_with fail
    go_region_with (first
      | (go_at_call 135; refine (rbase_any n _).mono ?_; rintro e w2 ⟨rfl, h2⟩; refine (have hO2 : Blk w2 w.heap.size #[.int .i64 0, .int .i64 0] 23 := ?_; ?_); (focus ((repeat (first | (with_reducible assumption) | ((with_reducible apply Blk.new_at); focus (first | (simp; done) | (simp; omega))) | with_reducible apply Blk.alloc | with_reducible apply Blk.drew | with_reducible apply Blk.drewN | with_reducible apply Blk.set | ((with_reducible apply Blk.far); case hp => (first | (simp; done) | (dsimp only; omega))) | ((with_reducible apply Blk.ext); case he => with_reducible assumption))); done)); obtain ⟨o1, o2, o3, o4⟩ := hO2.c2; have o5 := hO2.lt; (try (refine (have hN : Blk w2 w1.heap.size #[.int .i64 50, .int .i64 31, .int .i64 16, .int .i64 6, .int .i64 0, .int .i64 0, .int .i64 2, .int .i64 9, .int .i64 15, .int .i64 22] 3 := ?_; ?_); (focus ((repeat (first | (with_reducible assumption) | ((with_reducible apply Blk.new_at); focus (first | (simp; done) | (simp; omega))) | with_reducible apply Blk.alloc | with_reducible apply Blk.drew | with_reducible apply Blk.drewN | with_reducible apply Blk.set | ((with_reducible apply Blk.far); case hp => (first | (simp; done) | (dsimp only; omega))) | ((with_reducible apply Blk.ext); case he => with_reducible assumption))); done)); have n0 := hN.cell 0; have n1 := hN.cell 1; have n2 := hN.cell 2; have n3 := hN.cell 3; have n4 := hN.cell 4; have n5 := hN.cell 5; have n6 := hN.cell 6; have n7 := hN.cell 7; have n8 := hN.cell 8; have n9 := hN.cell 9; simp at n0 n1 n2 n3 n4 n5 n6 n7 n8 n9))))
    all_goals
      go_wp2_with fail
      refine end_c rfl rfl _ _ _ _ rfl (by (repeat (first | (with_reducible assumption) | ((with_reducible apply Blk.new_at); focus (first | (simp; done) | (simp; omega))) | with_reducible apply Blk.alloc | with_reducible apply Blk.drew | with_reducible apply Blk.drewN | with_reducible apply Blk.set | ((with_reducible apply Blk.far); case hp => (first | (simp; done) | (dsimp only; omega))) | ((with_reducible apply Blk.ext); case he => with_reducible assumption)))) Try.underlying23 rfl (by exact szL15) ?_
      exact retL15 (by have := HD.out; have := HZ.out; omega) (by have := HD.out; have := HZ.out; omega) (by (repeat (first | (with_reducible assumption) | with_reducible exact Ext.refl _ | with_reducible apply Ext.alloc | with_reducible apply Ext.drew | with_reducible apply Ext.drewN | ((with_reducible apply Ext.set); case hp => (first | (simp; done) | (dsimp only; omega) | omega)) | ((with_reducible apply Ext.trans); case k => with_reducible assumption))))
  · have hs1 := sh_range n (k := 5) (by omega)
    obtain ⟨s, hs0⟩ : ∃ v, shI n 5 = v := ⟨_, rfl⟩
    rw [hs0] at hs1
    have hd : (devI n 5 g).lo = -(t / 2) ∧ (devI n 5 g).hi = t / 2 := by
      simp [devI, ht0, hs0]
    have hz : s = 0 := by rw [← hs0]; simp [shI, shifts]
    have HD := Lib.hid hd
    have HZ := Lib.hid hz
    have v0 : IntKind.i64.wrap 0 = 0 := rfl
    have v1 : IntKind.i64.wrap 1 = 1 := rfl
    have v2 : IntKind.i64.wrap 2 = 2 := rfl
    have v3 : IntKind.i64.wrap 3 = 3 := rfl
    have v4 : IntKind.i64.wrap 4 = 4 := rfl
    have v5 : IntKind.i64.wrap 5 = 5 := rfl
    have v6 : IntKind.i64.wrap 6 = 6 := rfl
    have v7 : IntKind.i64.wrap 7 = 7 := rfl
    have v8 : IntKind.i64.wrap 8 = 8 := rfl
    have v9 : IntKind.i64.wrap 9 = 9 := rfl
    clear hd hz ht0 hs0
    go_enter Try.func130, Try.ntmps130
    go_wp2_with fail; refine (HW.out _).mono ?_; rintro e w1 ⟨rfl, h1⟩
    have O : Blk w1 (w.heap.size) #[.int .i64 0, .int .i64 0] 23 := (by (repeat (first | (with_reducible assumption) | ((with_reducible apply Blk.new_at); focus (first | (simp; done) | (simp; omega))) | with_reducible apply Blk.alloc | with_reducible apply Blk.drew | with_reducible apply Blk.drewN | with_reducible apply Blk.set | ((with_reducible apply Blk.far); case hp => (first | (simp; done) | (dsimp only; omega))) | ((with_reducible apply Blk.ext); case he => with_reducible assumption)))); obtain ⟨O1, O2, O3, O4⟩ := O.c2; have O5 := O.lt
    go_wp2_with fail
    go_region_with (first
      | (go_at_call 135; refine (rbase_any n _).mono ?_; rintro e w2 ⟨rfl, h2⟩; refine (have hO2 : Blk w2 w.heap.size #[.int .i64 0, .int .i64 0] 23 := ?_; ?_); (focus ((repeat (first | (with_reducible assumption) | ((with_reducible apply Blk.new_at); focus (first | (simp; done) | (simp; omega))) | with_reducible apply Blk.alloc | with_reducible apply Blk.drew | with_reducible apply Blk.drewN | with_reducible apply Blk.set | ((with_reducible apply Blk.far); case hp => (first | (simp; done) | (dsimp only; omega))) | ((with_reducible apply Blk.ext); case he => with_reducible assumption))); done)); obtain ⟨o1, o2, o3, o4⟩ := hO2.c2; have o5 := hO2.lt; (try (refine (have hN : Blk w2 w1.heap.size #[.int .i64 50, .int .i64 31, .int .i64 16, .int .i64 6, .int .i64 0, .int .i64 0, .int .i64 2, .int .i64 9, .int .i64 15, .int .i64 22] 3 := ?_; ?_); (focus ((repeat (first | (with_reducible assumption) | ((with_reducible apply Blk.new_at); focus (first | (simp; done) | (simp; omega))) | with_reducible apply Blk.alloc | with_reducible apply Blk.drew | with_reducible apply Blk.drewN | with_reducible apply Blk.set | ((with_reducible apply Blk.far); case hp => (first | (simp; done) | (dsimp only; omega))) | ((with_reducible apply Blk.ext); case he => with_reducible assumption))); done)); have n0 := hN.cell 0; have n1 := hN.cell 1; have n2 := hN.cell 2; have n3 := hN.cell 3; have n4 := hN.cell 4; have n5 := hN.cell 5; have n6 := hN.cell 6; have n7 := hN.cell 7; have n8 := hN.cell 8; have n9 := hN.cell 9; simp at n0 n1 n2 n3 n4 n5 n6 n7 n8 n9))))
    all_goals
      go_wp2_with fail
      refine end_c rfl rfl _ _ _ _ rfl (by (repeat (first | (with_reducible assumption) | ((with_reducible apply Blk.new_at); focus (first | (simp; done) | (simp; omega))) | with_reducible apply Blk.alloc | with_reducible apply Blk.drew | with_reducible apply Blk.drewN | with_reducible apply Blk.set | ((with_reducible apply Blk.far); case hp => (first | (simp; done) | (dsimp only; omega))) | ((with_reducible apply Blk.ext); case he => with_reducible assumption)))) Try.underlying23 rfl (by exact szL15) ?_
      exact retL15 (by have := HD.out; have := HZ.out; omega) (by have := HD.out; have := HZ.out; omega) (by (repeat (first | (with_reducible assumption) | with_reducible exact Ext.refl _ | with_reducible apply Ext.alloc | with_reducible apply Ext.drew | with_reducible apply Ext.drewN | ((with_reducible apply Ext.set); case hp => (first | (simp; done) | (dsimp only; omega) | omega)) | ((with_reducible apply Ext.trans); case k => with_reducible assumption))))
  · have hs1 := sh_range n (k := 6) (by omega)
    obtain ⟨s, hs0⟩ : ∃ v, shI n 6 = v := ⟨_, rfl⟩
    rw [hs0] at hs1
    have hd : (devI n 6 g).lo = s ∧ (devI n 6 g).hi = s + t := by
      simp [devI, ht0, hs0]
    have f5 : IntKind.i64.wrap ((IntKind.i64.wrap (baseI n * 2)).tdiv 10) = s := by
      have := sh_wrap n (k := 6) (by omega)
      rw [hs0] at this
      exact this
    have hz : True := by trivial
    have HD := Lib.hid hd
    have HZ := Lib.hid hz
    have v0 : IntKind.i64.wrap 0 = 0 := rfl
    have v1 : IntKind.i64.wrap 1 = 1 := rfl
    have v2 : IntKind.i64.wrap 2 = 2 := rfl
    have v3 : IntKind.i64.wrap 3 = 3 := rfl
    have v4 : IntKind.i64.wrap 4 = 4 := rfl
    have v5 : IntKind.i64.wrap 5 = 5 := rfl
    have v6 : IntKind.i64.wrap 6 = 6 := rfl
    have v7 : IntKind.i64.wrap 7 = 7 := rfl
    have v8 : IntKind.i64.wrap 8 = 8 := rfl
    have v9 : IntKind.i64.wrap 9 = 9 := rfl
    clear hd hz ht0 hs0
    go_enter Try.func130, Try.ntmps130
    go_wp2_with fail; refine (HW.out _).mono ?_; rintro e w1 ⟨rfl, h1⟩
    have O : Blk w1 (w.heap.size) #[.int .i64 0, .int .i64 0] 23 := (by (repeat (first | (with_reducible assumption) | ((with_reducible apply Blk.new_at); focus (first | (simp; done) | (simp; omega))) | with_reducible apply Blk.alloc | with_reducible apply Blk.drew | with_reducible apply Blk.drewN | with_reducible apply Blk.set | ((with_reducible apply Blk.far); case hp => (first | (simp; done) | (dsimp only; omega))) | ((with_reducible apply Blk.ext); case he => with_reducible assumption)))); obtain ⟨O1, O2, O3, O4⟩ := O.c2; have O5 := O.lt
    go_wp2_with fail
    go_region_with (first
      | (go_at_call 135; refine (rbase_any n _).mono ?_; rintro e w2 ⟨rfl, h2⟩; refine (have hO2 : Blk w2 w.heap.size #[.int .i64 0, .int .i64 0] 23 := ?_; ?_); (focus ((repeat (first | (with_reducible assumption) | ((with_reducible apply Blk.new_at); focus (first | (simp; done) | (simp; omega))) | with_reducible apply Blk.alloc | with_reducible apply Blk.drew | with_reducible apply Blk.drewN | with_reducible apply Blk.set | ((with_reducible apply Blk.far); case hp => (first | (simp; done) | (dsimp only; omega))) | ((with_reducible apply Blk.ext); case he => with_reducible assumption))); done)); obtain ⟨o1, o2, o3, o4⟩ := hO2.c2; have o5 := hO2.lt; (try (refine (have hN : Blk w2 w1.heap.size #[.int .i64 50, .int .i64 31, .int .i64 16, .int .i64 6, .int .i64 0, .int .i64 0, .int .i64 2, .int .i64 9, .int .i64 15, .int .i64 22] 3 := ?_; ?_); (focus ((repeat (first | (with_reducible assumption) | ((with_reducible apply Blk.new_at); focus (first | (simp; done) | (simp; omega))) | with_reducible apply Blk.alloc | with_reducible apply Blk.drew | with_reducible apply Blk.drewN | with_reducible apply Blk.set | ((with_reducible apply Blk.far); case hp => (first | (simp; done) | (dsimp only; omega))) | ((with_reducible apply Blk.ext); case he => with_reducible assumption))); done)); have n0 := hN.cell 0; have n1 := hN.cell 1; have n2 := hN.cell 2; have n3 := hN.cell 3; have n4 := hN.cell 4; have n5 := hN.cell 5; have n6 := hN.cell 6; have n7 := hN.cell 7; have n8 := hN.cell 8; have n9 := hN.cell 9; simp at n0 n1 n2 n3 n4 n5 n6 n7 n8 n9))))
    all_goals
      go_wp2_with fail
      refine end_c rfl rfl _ _ _ _ rfl (by (repeat (first | (with_reducible assumption) | ((with_reducible apply Blk.new_at); focus (first | (simp; done) | (simp; omega))) | with_reducible apply Blk.alloc | with_reducible apply Blk.drew | with_reducible apply Blk.drewN | with_reducible apply Blk.set | ((with_reducible apply Blk.far); case hp => (first | (simp; done) | (dsimp only; omega))) | ((with_reducible apply Blk.ext); case he => with_reducible assumption)))) Try.underlying23 rfl (by exact szL15) ?_
      exact retL15 (by have := HD.out; have := HZ.out; omega) (by have := HD.out; have := HZ.out; omega) (by (repeat (first | (with_reducible assumption) | with_reducible exact Ext.refl _ | with_reducible apply Ext.alloc | with_reducible apply Ext.drew | with_reducible apply Ext.drewN | ((with_reducible apply Ext.set); case hp => (first | (simp; done) | (dsimp only; omega) | omega)) | ((with_reducible apply Ext.trans); case k => with_reducible assumption))))
  · have hs1 := sh_range n (k := 7) (by omega)
    obtain ⟨s, hs0⟩ : ∃ v, shI n 7 = v := ⟨_, rfl⟩
    rw [hs0] at hs1
    have hd : (devI n 7 g).lo = s ∧ (devI n 7 g).hi = s + t := by
      simp [devI, ht0, hs0]
    have f5 : IntKind.i64.wrap ((IntKind.i64.wrap (baseI n * 9)).tdiv 10) = s := by
      have := sh_wrap n (k := 7) (by omega)
      rw [hs0] at this
      exact this
    have hz : True := by trivial
    have HD := Lib.hid hd
    have HZ := Lib.hid hz
    have v0 : IntKind.i64.wrap 0 = 0 := rfl
    have v1 : IntKind.i64.wrap 1 = 1 := rfl
    have v2 : IntKind.i64.wrap 2 = 2 := rfl
    have v3 : IntKind.i64.wrap 3 = 3 := rfl
    have v4 : IntKind.i64.wrap 4 = 4 := rfl
    have v5 : IntKind.i64.wrap 5 = 5 := rfl
    have v6 : IntKind.i64.wrap 6 = 6 := rfl
    have v7 : IntKind.i64.wrap 7 = 7 := rfl
    have v8 : IntKind.i64.wrap 8 = 8 := rfl
    have v9 : IntKind.i64.wrap 9 = 9 := rfl
    clear hd hz ht0 hs0
    go_enter Try.func130, Try.ntmps130
    go_wp2_with fail; refine (HW.out _).mono ?_; rintro e w1 ⟨rfl, h1⟩
    have O : Blk w1 (w.heap.size) #[.int .i64 0, .int .i64 0] 23 := (by (repeat (first | (with_reducible assumption) | ((with_reducible apply Blk.new_at); focus (first | (simp; done) | (simp; omega))) | with_reducible apply Blk.alloc | with_reducible apply Blk.drew | with_reducible apply Blk.drewN | with_reducible apply Blk.set | ((with_reducible apply Blk.far); case hp => (first | (simp; done) | (dsimp only; omega))) | ((with_reducible apply Blk.ext); case he => with_reducible assumption)))); obtain ⟨O1, O2, O3, O4⟩ := O.c2; have O5 := O.lt
    go_wp2_with fail
    go_region_with (first
      | (go_at_call 135; refine (rbase_any n _).mono ?_; rintro e w2 ⟨rfl, h2⟩; refine (have hO2 : Blk w2 w.heap.size #[.int .i64 0, .int .i64 0] 23 := ?_; ?_); (focus ((repeat (first | (with_reducible assumption) | ((with_reducible apply Blk.new_at); focus (first | (simp; done) | (simp; omega))) | with_reducible apply Blk.alloc | with_reducible apply Blk.drew | with_reducible apply Blk.drewN | with_reducible apply Blk.set | ((with_reducible apply Blk.far); case hp => (first | (simp; done) | (dsimp only; omega))) | ((with_reducible apply Blk.ext); case he => with_reducible assumption))); done)); obtain ⟨o1, o2, o3, o4⟩ := hO2.c2; have o5 := hO2.lt; (try (refine (have hN : Blk w2 w1.heap.size #[.int .i64 50, .int .i64 31, .int .i64 16, .int .i64 6, .int .i64 0, .int .i64 0, .int .i64 2, .int .i64 9, .int .i64 15, .int .i64 22] 3 := ?_; ?_); (focus ((repeat (first | (with_reducible assumption) | ((with_reducible apply Blk.new_at); focus (first | (simp; done) | (simp; omega))) | with_reducible apply Blk.alloc | with_reducible apply Blk.drew | with_reducible apply Blk.drewN | with_reducible apply Blk.set | ((with_reducible apply Blk.far); case hp => (first | (simp; done) | (dsimp only; omega))) | ((with_reducible apply Blk.ext); case he => with_reducible assumption))); done)); have n0 := hN.cell 0; have n1 := hN.cell 1; have n2 := hN.cell 2; have n3 := hN.cell 3; have n4 := hN.cell 4; have n5 := hN.cell 5; have n6 := hN.cell 6; have n7 := hN.cell 7; have n8 := hN.cell 8; have n9 := hN.cell 9; simp at n0 n1 n2 n3 n4 n5 n6 n7 n8 n9))))
    all_goals
      go_wp2_with fail
      refine end_c rfl rfl _ _ _ _ rfl (by (repeat (first | (with_reducible assumption) | ((with_reducible apply Blk.new_at); focus (first | (simp; done) | (simp; omega))) | with_reducible apply Blk.alloc | with_reducible apply Blk.drew | with_reducible apply Blk.drewN | with_reducible apply Blk.set | ((with_reducible apply Blk.far); case hp => (first | (simp; done) | (dsimp only; omega))) | ((with_reducible apply Blk.ext); case he => with_reducible assumption)))) Try.underlying23 rfl (by exact szL15) ?_
      exact retL15 (by have := HD.out; have := HZ.out; omega) (by have := HD.out; have := HZ.out; omega) (by (repeat (first | (with_reducible assumption) | with_reducible exact Ext.refl _ | with_reducible apply Ext.alloc | with_reducible apply Ext.drew | with_reducible apply Ext.drewN | ((with_reducible apply Ext.set); case hp => (first | (simp; done) | (dsimp only; omega) | omega)) | ((with_reducible apply Ext.trans); case k => with_reducible assumption))))
  · have hs1 := sh_range n (k := 8) (by omega)
    obtain ⟨s, hs0⟩ : ∃ v, shI n 8 = v := ⟨_, rfl⟩
    rw [hs0] at hs1
    have hd : (devI n 8 g).lo = s ∧ (devI n 8 g).hi = s + t := by
      simp [devI, ht0, hs0]
    have f5 : IntKind.i64.wrap ((IntKind.i64.wrap (baseI n * 15)).tdiv 10) = s := by
      have := sh_wrap n (k := 8) (by omega)
      rw [hs0] at this
      exact this
    have hz : True := by trivial
    have HD := Lib.hid hd
    have HZ := Lib.hid hz
    have v0 : IntKind.i64.wrap 0 = 0 := rfl
    have v1 : IntKind.i64.wrap 1 = 1 := rfl
    have v2 : IntKind.i64.wrap 2 = 2 := rfl
    have v3 : IntKind.i64.wrap 3 = 3 := rfl
    have v4 : IntKind.i64.wrap 4 = 4 := rfl
    have v5 : IntKind.i64.wrap 5 = 5 := rfl
    have v6 : IntKind.i64.wrap 6 = 6 := rfl
    have v7 : IntKind.i64.wrap 7 = 7 := rfl
    have v8 : IntKind.i64.wrap 8 = 8 := rfl
    have v9 : IntKind.i64.wrap 9 = 9 := rfl
    clear hd hz ht0 hs0
    go_enter Try.func130, Try.ntmps130
    go_wp2_with fail; refine (HW.out _).mono ?_; rintro e w1 ⟨rfl, h1⟩
    have O : Blk w1 (w.heap.size) #[.int .i64 0, .int .i64 0] 23 := (by (repeat (first | (with_reducible assumption) | ((with_reducible apply Blk.new_at); focus (first | (simp; done) | (simp; omega))) | with_reducible apply Blk.alloc | with_reducible apply Blk.drew | with_reducible apply Blk.drewN | with_reducible apply Blk.set | ((with_reducible apply Blk.far); case hp => (first | (simp; done) | (dsimp only; omega))) | ((with_reducible apply Blk.ext); case he => with_reducible assumption)))); obtain ⟨O1, O2, O3, O4⟩ := O.c2; have O5 := O.lt
    go_wp2_with fail
    go_region_with (first
      | (go_at_call 135; refine (rbase_any n _).mono ?_; rintro e w2 ⟨rfl, h2⟩; refine (have hO2 : Blk w2 w.heap.size #[.int .i64 0, .int .i64 0] 23 := ?_; ?_); (focus ((repeat (first | (with_reducible assumption) | ((with_reducible apply Blk.new_at); focus (first | (simp; done) | (simp; omega))) | with_reducible apply Blk.alloc | with_reducible apply Blk.drew | with_reducible apply Blk.drewN | with_reducible apply Blk.set | ((with_reducible apply Blk.far); case hp => (first | (simp; done) | (dsimp only; omega))) | ((with_reducible apply Blk.ext); case he => with_reducible assumption))); done)); obtain ⟨o1, o2, o3, o4⟩ := hO2.c2; have o5 := hO2.lt; (try (refine (have hN : Blk w2 w1.heap.size #[.int .i64 50, .int .i64 31, .int .i64 16, .int .i64 6, .int .i64 0, .int .i64 0, .int .i64 2, .int .i64 9, .int .i64 15, .int .i64 22] 3 := ?_; ?_); (focus ((repeat (first | (with_reducible assumption) | ((with_reducible apply Blk.new_at); focus (first | (simp; done) | (simp; omega))) | with_reducible apply Blk.alloc | with_reducible apply Blk.drew | with_reducible apply Blk.drewN | with_reducible apply Blk.set | ((with_reducible apply Blk.far); case hp => (first | (simp; done) | (dsimp only; omega))) | ((with_reducible apply Blk.ext); case he => with_reducible assumption))); done)); have n0 := hN.cell 0; have n1 := hN.cell 1; have n2 := hN.cell 2; have n3 := hN.cell 3; have n4 := hN.cell 4; have n5 := hN.cell 5; have n6 := hN.cell 6; have n7 := hN.cell 7; have n8 := hN.cell 8; have n9 := hN.cell 9; simp at n0 n1 n2 n3 n4 n5 n6 n7 n8 n9))))
    all_goals
      go_wp2_with fail
      refine end_c rfl rfl _ _ _ _ rfl (by (repeat (first | (with_reducible assumption) | ((with_reducible apply Blk.new_at); focus (first | (simp; done) | (simp; omega))) | with_reducible apply Blk.alloc | with_reducible apply Blk.drew | with_reducible apply Blk.drewN | with_reducible apply Blk.set | ((with_reducible apply Blk.far); case hp => (first | (simp; done) | (dsimp only; omega))) | ((with_reducible apply Blk.ext); case he => with_reducible assumption)))) Try.underlying23 rfl (by exact szL15) ?_
      exact retL15 (by have := HD.out; have := HZ.out; omega) (by have := HD.out; have := HZ.out; omega) (by (repeat (first | (with_reducible assumption) | with_reducible exact Ext.refl _ | with_reducible apply Ext.alloc | with_reducible apply Ext.drew | with_reducible apply Ext.drewN | ((with_reducible apply Ext.set); case hp => (first | (simp; done) | (dsimp only; omega) | omega)) | ((with_reducible apply Ext.trans); case k => with_reducible assumption))))
  · have hs1 := sh_range n (k := 9) (by omega)
    obtain ⟨s, hs0⟩ : ∃ v, shI n 9 = v := ⟨_, rfl⟩
    rw [hs0] at hs1
    have hd : (devI n 9 g).lo = s ∧ (devI n 9 g).hi = s + t := by
      simp [devI, ht0, hs0]
    have f5 : IntKind.i64.wrap ((IntKind.i64.wrap (baseI n * 22)).tdiv 10) = s := by
      have := sh_wrap n (k := 9) (by omega)
      rw [hs0] at this
      exact this
    have hz : True := by trivial
    have HD := Lib.hid hd
    have HZ := Lib.hid hz
    have v0 : IntKind.i64.wrap 0 = 0 := rfl
    have v1 : IntKind.i64.wrap 1 = 1 := rfl
    have v2 : IntKind.i64.wrap 2 = 2 := rfl
    have v3 : IntKind.i64.wrap 3 = 3 := rfl
    have v4 : IntKind.i64.wrap 4 = 4 := rfl
    have v5 : IntKind.i64.wrap 5 = 5 := rfl
    have v6 : IntKind.i64.wrap 6 = 6 := rfl
    have v7 : IntKind.i64.wrap 7 = 7 := rfl
    have v8 : IntKind.i64.wrap 8 = 8 := rfl
    have v9 : IntKind.i64.wrap 9 = 9 := rfl
    clear hd hz ht0 hs0
    go_enter Try.func130, Try.ntmps130
    go_wp2_with fail; refine (HW.out _).mono ?_; rintro e w1 ⟨rfl, h1⟩
    have O : Blk w1 (w.heap.size) #[.int .i64 0, .int .i64 0] 23 := (by (repeat (first | (with_reducible assumption) | ((with_reducible apply Blk.new_at); focus (first | (simp; done) | (simp; omega))) | with_reducible apply Blk.alloc | with_reducible apply Blk.drew | with_reducible apply Blk.drewN | with_reducible apply Blk.set | ((with_reducible apply Blk.far); case hp => (first | (simp; done) | (dsimp only; omega))) | ((with_reducible apply Blk.ext); case he => with_reducible assumption)))); obtain ⟨O1, O2, O3, O4⟩ := O.c2; have O5 := O.lt
    go_wp2_with fail
    go_region_with (first
      | (go_at_call 135; refine (rbase_any n _).mono ?_; rintro e w2 ⟨rfl, h2⟩; refine (have hO2 : Blk w2 w.heap.size #[.int .i64 0, .int .i64 0] 23 := ?_; ?_); (focus ((repeat (first | (with_reducible assumption) | ((with_reducible apply Blk.new_at); focus (first | (simp; done) | (simp; omega))) | with_reducible apply Blk.alloc | with_reducible apply Blk.drew | with_reducible apply Blk.drewN | with_reducible apply Blk.set | ((with_reducible apply Blk.far); case hp => (first | (simp; done) | (dsimp only; omega))) | ((with_reducible apply Blk.ext); case he => with_reducible assumption))); done)); obtain ⟨o1, o2, o3, o4⟩ := hO2.c2; have o5 := hO2.lt; (try (refine (have hN : Blk w2 w1.heap.size #[.int .i64 50, .int .i64 31, .int .i64 16, .int .i64 6, .int .i64 0, .int .i64 0, .int .i64 2, .int .i64 9, .int .i64 15, .int .i64 22] 3 := ?_; ?_); (focus ((repeat (first | (with_reducible assumption) | ((with_reducible apply Blk.new_at); focus (first | (simp; done) | (simp; omega))) | with_reducible apply Blk.alloc | with_reducible apply Blk.drew | with_reducible apply Blk.drewN | with_reducible apply Blk.set | ((with_reducible apply Blk.far); case hp => (first | (simp; done) | (dsimp only; omega))) | ((with_reducible apply Blk.ext); case he => with_reducible assumption))); done)); have n0 := hN.cell 0; have n1 := hN.cell 1; have n2 := hN.cell 2; have n3 := hN.cell 3; have n4 := hN.cell 4; have n5 := hN.cell 5; have n6 := hN.cell 6; have n7 := hN.cell 7; have n8 := hN.cell 8; have n9 := hN.cell 9; simp at n0 n1 n2 n3 n4 n5 n6 n7 n8 n9))))
    all_goals
      go_wp2_with fail
      refine end_c rfl rfl _ _ _ _ rfl (by (repeat (first | (with_reducible assumption) | ((with_reducible apply Blk.new_at); focus (first | (simp; done) | (simp; omega))) | with_reducible apply Blk.alloc | with_reducible apply Blk.drew | with_reducible apply Blk.drewN | with_reducible apply Blk.set | ((with_reducible apply Blk.far); case hp => (first | (simp; done) | (dsimp only; omega))) | ((with_reducible apply Blk.ext); case he => with_reducible assumption)))) Try.underlying23 rfl (by exact szL15) ?_
      exact retL15 (by have := HD.out; have := HZ.out; omega) (by have := HD.out; have := HZ.out; omega) (by (repeat (first | (with_reducible assumption) | with_reducible exact Ext.refl _ | with_reducible apply Ext.alloc | with_reducible apply Ext.drew | with_reducible apply Ext.drewN | ((with_reducible apply Ext.set); case hp => (first | (simp; done) | (dsimp only; omega) | omega)) | ((with_reducible apply Ext.trans); case k => with_reducible assumption))))
end Go.Proofs.Ytdcedfciaaooiaa
