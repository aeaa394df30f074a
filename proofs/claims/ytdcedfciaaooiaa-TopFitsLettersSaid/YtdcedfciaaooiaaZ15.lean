/- The size steps, tolerances and deviations of package grades. -/
import Derived.Test.YtdcedfciaaooiaaY15
set_option linter.unusedVariables false
namespace Go.Proofs.Ytdcedfciaaooiaa
open Go.RowKit

theorem index_any (n : Int) (hn : n ≤ 100000) (w : World) : Calls Try.prog 107 #[.int .i64 n] w (Ret (.int .i64 (stepI n : Int)) w) := by
  go_enter Try.func107, Try.ntmps107
  go_wp2_with fail; refine (steps_any _).mono ?_; rintro e w1 ⟨rfl, h1⟩
  have hA : Blk w1 w.heap.size #[.int .i64 n] 3 := by (repeat (first | (with_reducible assumption) | ((with_reducible apply Blk.new_at); focus (first | (simp; done) | (simp; omega))) | with_reducible apply Blk.alloc | with_reducible apply Blk.drew | with_reducible apply Blk.drewN | with_reducible apply Blk.set | ((with_reducible apply Blk.far); case hp => (first | (simp; done) | (dsimp only; omega))) | ((with_reducible apply Blk.ext); case he => with_reducible assumption)))
  obtain ⟨a1, a2⟩ := hA.c1
  have al := hA.lt
  unfold stepsV
  go_wp2_with fail
  refine (indexf_any n hn w1.heap.size w.heap.size _ _ (Blk.new w1 stepsV 168) (by (repeat (first | (with_reducible assumption) | ((with_reducible apply Blk.new_at); focus (first | (simp; done) | (simp; omega))) | with_reducible apply Blk.alloc | with_reducible apply Blk.drew | with_reducible apply Blk.drewN | with_reducible apply Blk.set | ((with_reducible apply Blk.far); case hp => (first | (simp; done) | (dsimp only; omega))) | ((with_reducible apply Blk.ext); case he => with_reducible assumption))))).mono ?_
  rintro e w2 ⟨rfl, h2⟩
  go_wp2_with fail
  go_ret
  exact Ret.int rfl (by (repeat (first | (with_reducible assumption) | with_reducible exact Ext.refl _ | with_reducible apply Ext.alloc | with_reducible apply Ext.drew | with_reducible apply Ext.drewN | ((with_reducible apply Ext.set); case hp => (first | (simp; done) | (dsimp only; omega) | omega)) | ((with_reducible apply Ext.trans); case k => with_reducible assumption))))

theorem stepsV_base (n : Int) : stepsV[stepI n * 2 + 1]? = some (.int .i64 (baseI n)) := by
  have h := (stepsV_most (stepI_lt n)).2
  rwa [Nat.zero_add] at h
theorem facsV_fac {g : Int} (h5 : 5 ≤ g) (h12 : g ≤ 12) : facsV[(g - 5).toNat]? = some (.int .i64 (facI g)) := by
  have hg : g = 5 ∨ g = 6 ∨ g = 7 ∨ g = 8 ∨ g = 9 ∨ g = 10 ∨ g = 11 ∨ g = 12 := by omega
  rcases hg with rfl | rfl | rfl | rfl | rfl | rfl | rfl | rfl <;> rfl

theorem steps_at : ∀ (k : Nat) (h : k < 8) (w : World), (Instr.index 168 (.agg stepsV) (.int .i64 (k : Int))).run Try.prog w = .ok (.agg #[.int .i64 (mosts.getD k 0), .int .i64 (bases.getD k 0)]) w
  | 0, _, w => by kernel_rfl
  | 1, _, w => by kernel_rfl
  | 2, _, w => by kernel_rfl
  | 3, _, w => by kernel_rfl
  | 4, _, w => by kernel_rfl
  | 5, _, w => by kernel_rfl
  | 6, _, w => by kernel_rfl
  | 7, _, w => by kernel_rfl
  | k + 8, h, w => absurd h (by omega)
theorem steps_ix (n : Int) : ∃ m, ∀ w, (Instr.index 168 (.agg stepsV) (.int .i64 (stepI n : Int))).run Try.prog w = .ok (.agg #[.int .i64 m, .int .i64 (baseI n)]) w :=
  ⟨_, fun w => steps_at _ (stepI_lt n) w⟩
theorem step_field (m b : Int) (w : World) : (Instr.field 167 (.agg #[.int .i64 m, .int .i64 b]) 1).run Try.prog w = .ok (.int .i64 b) w := by kernel_rfl
set_option maxRecDepth 20000 in
theorem facs_ix {g : Int} (h5 : 5 ≤ g) (h12 : g ≤ 12) (w : World) : (Instr.index 170 (.agg facsV) (.int .i64 (IntKind.i64.wrap (g - 5)))).run Try.prog w = .ok (.int .i64 (facI g)) w := by
  have hg : g = 5 ∨ g = 6 ∨ g = 7 ∨ g = 8 ∨ g = 9 ∨ g = 10 ∨ g = 11 ∨ g = 12 := by omega
  rcases hg with h | h | h | h | h | h | h | h <;> (subst h; rfl)

theorem wrap_small {x : Int} (h : -9223372036854775808 ≤ x ∧ x ≤ 9223372036854775807) : IntKind.i64.wrap x = x := by rw [IntKind.wrap_i64]; omega
theorem tol_wrap {n g : Int} (hm : 42 ≤ baseI n * facI g ∧ baseI n * facI g ≤ 3520) : IntKind.i64.wrap ((IntKind.i64.wrap (IntKind.i64.wrap (baseI n * facI g) + 5)).tdiv 10) = tolI n g := by
  unfold tolI
  generalize baseI n * facI g = p at hm
  rw [wrap_small (x := p) (by omega), wrap_small (x := p + 5) (by omega), Int.tdiv_eq_ediv_of_nonneg (by omega), wrap_small (by omega)]
set_option maxRecDepth 20000 in
set_option maxHeartbeats 4000000 in
theorem tolerance_any (n g : Int) (hn : n ≤ 100000) (h5 : 5 ≤ g) (h12 : g ≤ 12) (w : World) : Calls Try.prog 83 #[.int .i64 n, .int .i64 g] w (Ret (.int .i64 (tolI n g)) w) := by
  obtain ⟨mm, f1⟩ := steps_ix n
  have f3 := fun w => step_field mm (baseI n) w
  have f2 := fun w => facs_ix h5 h12 w
  have hb := base_range n
  have hf := fac_range h5 h12
  have hm : 42 ≤ baseI n * facI g ∧ baseI n * facI g ≤ 3520 := by
    have h2 := fac_cases h5 h12
    rcases h2 with h | h | h | h | h | h | h | h <;> rw [h] <;> omega
  go_enter Try.func83, Try.ntmps83
  go_wp2_with fail
  go_region_held3 (fun _ => True) (exact trivial) (first
    | (go_at_call 106; refine (steps_any _).mono ?_; rintro e w1 ⟨rfl, h1⟩)
    | (go_at_call 107; refine (index_any n hn _).mono ?_; rintro e w2 ⟨rfl, h2⟩)
    | (go_at_call 108; refine (factors_any _).mono ?_; rintro e w3 ⟨rfl, h3⟩))
  all_goals
    go_wp2_with fail
    go_ret
    exact Ret.int (tol_wrap hm) (by (repeat (first | (with_reducible assumption) | with_reducible exact Ext.refl _ | with_reducible apply Ext.alloc | with_reducible apply Ext.drew | with_reducible apply Ext.drewN | ((with_reducible apply Ext.set); case hp => (first | (simp; done) | (dsimp only; omega) | omega)) | ((with_reducible apply Ext.trans); case k => with_reducible assumption))))
end Go.Proofs.Ytdcedfciaaooiaa
