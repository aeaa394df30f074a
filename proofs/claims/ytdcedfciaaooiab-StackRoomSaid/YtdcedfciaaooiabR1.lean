/- The small functions of the reference of layer 17 do what P17 says. -/
import Derived.Test.YtdcedfciaaooiabX2
set_option linter.unusedVariables false
namespace Go.Proofs.Ytdcedfciaaooiab
open Go.RowKit

theorem rin_any (n : Int) (w : World) : Calls Try.prog 75 #[.int .i64 n] w fun e w' => e = .returned (.bool (inR n)) ∧ w = w' := by
  by_cases h1 : -100000 ≤ n
  · by_cases h2 : n ≤ 100000
    all_goals
      go_enter Try.func75, Try.ntmps75
      go_wp2
      go_ret
      simp [inR] <;> omega
  · go_enter Try.func75, Try.ntmps75
    go_wp2
    go_ret
    simp [inR] <;> omega

theorem rcheck_any (a b : Int) (w : World) : Calls Try.prog 69 #[.agg #[.int .i64 a, .int .i64 b]] w (Ret (.int .i64 (chk a b)) w) := by
  have fin : ∀ r, chk a b = r → Ret (.int .i64 (chk a b)) w (.returned (.int .i64 r)) (w.alloc (.cells #[.int .i64 a, .int .i64 b] 25)) :=
    fun r hr => Ret.int hr.symm ((Ext.refl _).alloc _)
  have hx : inR a = false ∨ (inR a = true ∧ inR b = false) ∨ (inR a = true ∧ inR b = true ∧ a ≤ b) ∨ (inR a = true ∧ inR b = true ∧ ¬ a ≤ b) := by
    cases inR a <;> cases inR b <;> simp <;> omega
  rcases hx with ha | ⟨ha, hb⟩ | ⟨ha, hb, hl⟩ | ⟨ha, hb, hl⟩
  · have := fin 2 (by simp [chk, ha])
    go_enter Try.func69, Try.ntmps69
    go_wp2_with (first | (go_at_call 75; refine (rin_any _ _).mono ?_; rintro e w' ⟨rfl, rfl⟩))
    go_ret
    exact this
  · have := fin 2 (by simp [chk, hb])
    go_enter Try.func69, Try.ntmps69
    go_wp2_with (first | (go_at_call 75; refine (rin_any _ _).mono ?_; rintro e w' ⟨rfl, rfl⟩))
    go_ret
    exact this
  · have := fin 0 (by simp [chk, ha, hb, hl])
    go_enter Try.func69, Try.ntmps69
    go_wp2_with (first | (go_at_call 75; refine (rin_any _ _).mono ?_; rintro e w' ⟨rfl, rfl⟩))
    go_ret
    exact this
  · have := fin 9 (by simp [chk, ha, hb, hl])
    go_enter Try.func69, Try.ntmps69
    go_wp2_with (first | (go_at_call 75; refine (rin_any _ _).mono ?_; rintro e w' ⟨rfl, rfl⟩))
    go_ret
    exact this

def hasB (a b v : Int) : Bool := decide (a ≤ v) && decide (v ≤ b)
theorem rhas_any (a b v : Int) (w : World) : Calls Try.prog 71 #[.agg #[.int .i64 a, .int .i64 b], .int .i64 v] w (Ret (.bool (hasB a b v)) w) := by
  by_cases hg : a ≤ v
  all_goals
    go_enter Try.func71, Try.ntmps71
    go_wp2_with fail
    go_ret
    refine Ret.bool ?_ ?_
    · rw [Bool.eq_iff_iff]; simp [hasB] <;> omega
    · (repeat (first | (with_reducible assumption) | with_reducible exact Ext.refl _ | with_reducible apply Ext.alloc | with_reducible apply Ext.drew | with_reducible apply Ext.drewN | ((with_reducible apply Ext.set); case hp => (first | (simp; done) | (dsimp only; omega) | omega)) | ((with_reducible apply Ext.trans); case k => with_reducible assumption)))

end Go.Proofs.Ytdcedfciaaooiab
