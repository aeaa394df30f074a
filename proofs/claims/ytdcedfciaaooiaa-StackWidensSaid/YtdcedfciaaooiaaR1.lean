/- The small functions of the reference of layer 17 do what P17 says. -/
import Derived.Test.YtdcedfciaaooiaaX2
set_option linter.unusedVariables false
namespace Go.Proofs.Ytdcedfciaaooiaa
open Go.RowKit

theorem rin_any (n : Int) (w : World) : Calls Try.prog 65 #[.int .i64 n] w fun e w' => e = .returned (.bool (inR n)) ∧ w = w' := by
  by_cases h1 : -100000 ≤ n
  · by_cases h2 : n ≤ 100000
    all_goals
      go_enter Try.func65, Try.ntmps65
      go_wp2
      go_ret
      simp [inR] <;> omega
  · go_enter Try.func65, Try.ntmps65
    go_wp2
    go_ret
    simp [inR] <;> omega

theorem rcheck_any (a b : Int) (w : World) : Calls Try.prog 21 #[.agg #[.int .i64 a, .int .i64 b]] w (Ret (.int .i64 (chk a b)) w) := by
  have fin : ∀ r, chk a b = r → Ret (.int .i64 (chk a b)) w (.returned (.int .i64 r)) (w.alloc (.cells #[.int .i64 a, .int .i64 b] 23)) :=
    fun r hr => Ret.int hr.symm ((Ext.refl _).alloc _)
  have hx : inR a = false ∨ (inR a = true ∧ inR b = false) ∨ (inR a = true ∧ inR b = true ∧ a ≤ b) ∨ (inR a = true ∧ inR b = true ∧ ¬ a ≤ b) := by
    cases inR a <;> cases inR b <;> simp <;> omega
  rcases hx with ha | ⟨ha, hb⟩ | ⟨ha, hb, hl⟩ | ⟨ha, hb, hl⟩
  · have := fin 2 (by simp [chk, ha])
    go_enter Try.func21, Try.ntmps21
    go_wp2_with (first | (go_at_call 65; refine (rin_any _ _).mono ?_; rintro e w' ⟨rfl, rfl⟩))
    go_ret
    exact this
  · have := fin 2 (by simp [chk, hb])
    go_enter Try.func21, Try.ntmps21
    go_wp2_with (first | (go_at_call 65; refine (rin_any _ _).mono ?_; rintro e w' ⟨rfl, rfl⟩))
    go_ret
    exact this
  · have := fin 0 (by simp [chk, ha, hb, hl])
    go_enter Try.func21, Try.ntmps21
    go_wp2_with (first | (go_at_call 65; refine (rin_any _ _).mono ?_; rintro e w' ⟨rfl, rfl⟩))
    go_ret
    exact this
  · have := fin 9 (by simp [chk, ha, hb, hl])
    go_enter Try.func21, Try.ntmps21
    go_wp2_with (first | (go_at_call 65; refine (rin_any _ _).mono ?_; rintro e w' ⟨rfl, rfl⟩))
    go_ret
    exact this

theorem rboth_any (a b c d : Int) (w : World) : Calls Try.prog 72 #[.agg #[.int .i64 a, .int .i64 b], .agg #[.int .i64 c, .int .i64 d]] w (Ret (.int .i64 (bothE a b c d)) w) := by
  have hc := Lib.hid (bothE_cases a b c d)
  cases h : chk a b != 0
  · have hz := Lib.hid (show chk a b = 0 by simpa using h)
    go_enter Try.func72, Try.ntmps72
    go_wp2_with fail; refine (rcheck_any _ _ _).mono ?_; rintro e w2 ⟨rfl, hb⟩
    have B : Blk w2 (w.heap.size + 1) #[.int .i64 c, .int .i64 d] 23 := (by (repeat (first | (with_reducible assumption) | ((with_reducible apply Blk.new_at); focus (first | (simp; done) | (simp; omega))) | with_reducible apply Blk.alloc | with_reducible apply Blk.drew | with_reducible apply Blk.drewN | with_reducible apply Blk.set | ((with_reducible apply Blk.far); case hp => (first | (simp; done) | (dsimp only; omega))) | ((with_reducible apply Blk.ext); case he => with_reducible assumption)))); obtain ⟨B1, B2, B3, B4⟩ := B.c2; have B5 := B.lt
    go_wp2_with fail; refine (rcheck_any _ _ _).mono ?_; rintro e w3 ⟨rfl, hb2⟩
    go_wp2_with fail
    go_ret
    exact Ret.int (by rw [hc.out, if_pos hz.out]) (by (repeat (first | (with_reducible assumption) | with_reducible exact Ext.refl _ | with_reducible apply Ext.alloc | with_reducible apply Ext.drew | with_reducible apply Ext.drewN | ((with_reducible apply Ext.set); case hp => (first | (simp; done) | (dsimp only; omega) | omega)) | ((with_reducible apply Ext.trans); case k => with_reducible assumption))))
  · have hz := Lib.hid (show ¬ chk a b = 0 by simpa using h)
    go_enter Try.func72, Try.ntmps72
    go_wp2_with fail; refine (rcheck_any _ _ _).mono ?_; rintro e w2 ⟨rfl, hb⟩
    go_wp2_with fail
    go_ret
    exact Ret.int (by rw [hc.out, if_neg hz.out]) (by (repeat (first | (with_reducible assumption) | with_reducible exact Ext.refl _ | with_reducible apply Ext.alloc | with_reducible apply Ext.drew | with_reducible apply Ext.drewN | ((with_reducible apply Ext.set); case hp => (first | (simp; done) | (dsimp only; omega) | omega)) | ((with_reducible apply Ext.trans); case k => with_reducible assumption))))

theorem rchecked_any (a b : Int) (w : World) : Calls Try.prog 66 #[.agg #[.int .i64 a, .int .i64 b]] w (Ret (.tuple #[.agg #[.int .i64 (madeL a b).lo, .int .i64 (madeL a b).hi], .int .i64 (chk a b)]) w) := by
  cases h : chk a b != 0
  · have hz := Lib.hid (show chk a b = 0 by simpa using h)
    go_enter Try.func66, Try.ntmps66
    go_wp2_with fail; refine (rcheck_any _ _ _).mono ?_; rintro e w2 ⟨rfl, hb⟩
    have A : Blk w2 (w.heap.size) #[.int .i64 a, .int .i64 b] 23 := (by (repeat (first | (with_reducible assumption) | ((with_reducible apply Blk.new_at); focus (first | (simp; done) | (simp; omega))) | with_reducible apply Blk.alloc | with_reducible apply Blk.drew | with_reducible apply Blk.drewN | with_reducible apply Blk.set | ((with_reducible apply Blk.far); case hp => (first | (simp; done) | (dsimp only; omega))) | ((with_reducible apply Blk.ext); case he => with_reducible assumption)))); obtain ⟨A1, A2, A3, A4⟩ := A.c2; have A5 := A.lt
    have B : Blk w2 (w.heap.size + 1) #[.int .i64 0, .int .i64 0] 23 := (by (repeat (first | (with_reducible assumption) | ((with_reducible apply Blk.new_at); focus (first | (simp; done) | (simp; omega))) | with_reducible apply Blk.alloc | with_reducible apply Blk.drew | with_reducible apply Blk.drewN | with_reducible apply Blk.set | ((with_reducible apply Blk.far); case hp => (first | (simp; done) | (dsimp only; omega))) | ((with_reducible apply Blk.ext); case he => with_reducible assumption)))); obtain ⟨B1, B2, B3, B4⟩ := B.c2; have B5 := B.lt
    go_wp2_with fail
    refine end_ct rfl rfl _ _ _ _ _ rfl rfl (by (repeat (first | (with_reducible assumption) | ((with_reducible apply Blk.new_at); focus (first | (simp; done) | (simp; omega))) | with_reducible apply Blk.alloc | with_reducible apply Blk.drew | with_reducible apply Blk.drewN | with_reducible apply Blk.set | ((with_reducible apply Blk.far); case hp => (first | (simp; done) | (dsimp only; omega))) | ((with_reducible apply Blk.ext); case he => with_reducible assumption)))) Try.underlying23 rfl (by exact szL) ?_
    refine mkLE _ _ _ _ ?_ ?_ ?_ ?_
    · simp [madeL, hz.out]
    · simp [madeL, hz.out]
    · exact hz.out
    · (repeat (first | (with_reducible assumption) | with_reducible exact Ext.refl _ | with_reducible apply Ext.alloc | with_reducible apply Ext.drew | with_reducible apply Ext.drewN | ((with_reducible apply Ext.set); case hp => (first | (simp; done) | (dsimp only; omega) | omega)) | ((with_reducible apply Ext.trans); case k => with_reducible assumption)))
  · have hz := Lib.hid (show ¬ chk a b = 0 by simpa using h)
    go_enter Try.func66, Try.ntmps66
    go_wp2_with fail; refine (rcheck_any _ _ _).mono ?_; rintro e w2 ⟨rfl, hb⟩
    have B : Blk w2 (w.heap.size + 1) #[.int .i64 0, .int .i64 0] 23 := (by (repeat (first | (with_reducible assumption) | ((with_reducible apply Blk.new_at); focus (first | (simp; done) | (simp; omega))) | with_reducible apply Blk.alloc | with_reducible apply Blk.drew | with_reducible apply Blk.drewN | with_reducible apply Blk.set | ((with_reducible apply Blk.far); case hp => (first | (simp; done) | (dsimp only; omega))) | ((with_reducible apply Blk.ext); case he => with_reducible assumption)))); obtain ⟨B1, B2, B3, B4⟩ := B.c2; have B5 := B.lt
    go_wp2_with fail
    refine end_ct rfl rfl _ _ _ _ _ rfl rfl (by (repeat (first | (with_reducible assumption) | ((with_reducible apply Blk.new_at); focus (first | (simp; done) | (simp; omega))) | with_reducible apply Blk.alloc | with_reducible apply Blk.drew | with_reducible apply Blk.drewN | with_reducible apply Blk.set | ((with_reducible apply Blk.far); case hp => (first | (simp; done) | (dsimp only; omega))) | ((with_reducible apply Blk.ext); case he => with_reducible assumption)))) Try.underlying23 rfl (by exact szL) ?_
    refine mkLE _ _ _ _ ?_ ?_ ?_ ?_
    · simp [madeL, hz.out]
    · simp [madeL, hz.out]
    · rfl
    · (repeat (first | (with_reducible assumption) | with_reducible exact Ext.refl _ | with_reducible apply Ext.alloc | with_reducible apply Ext.drew | with_reducible apply Ext.drewN | ((with_reducible apply Ext.set); case hp => (first | (simp; done) | (dsimp only; omega) | omega)) | ((with_reducible apply Ext.trans); case k => with_reducible assumption)))

theorem rof_any (n a b : Int) (w : World) : Calls Try.prog 17 #[.int .i64 n, .int .i64 a, .int .i64 b] w (Ret (.tuple #[.agg #[.int .i64 (ofL n a b).lo, .int .i64 (ofL n a b).hi], .int .i64 (ofE n a b)]) w) := by
  cases h : inR n && inR a && inR b
  · have hx : inR n = false ∨ (inR n = true ∧ inR a = false) ∨ (inR n = true ∧ inR a = true ∧ inR b = false) := by
      revert h; cases inR n <;> cases inR a <;> cases inR b <;> simp
    have HH := Lib.hid h
    clear h
    rcases hx with hx | ⟨hx, hy⟩ | ⟨hx, hy, hz⟩
    all_goals
      go_enter Try.func17, Try.ntmps17
      go_wp2_with (first | (go_at_call 65; refine (rin_any _ _).mono ?_; rintro e w' ⟨rfl, rfl⟩))
      refine end_ct rfl rfl _ _ _ _ _ rfl rfl (by (repeat (first | (with_reducible assumption) | ((with_reducible apply Blk.new_at); focus (first | (simp; done) | (simp; omega))) | with_reducible apply Blk.alloc | with_reducible apply Blk.drew | with_reducible apply Blk.drewN | with_reducible apply Blk.set | ((with_reducible apply Blk.far); case hp => (first | (simp; done) | (dsimp only; omega))) | ((with_reducible apply Blk.ext); case he => with_reducible assumption)))) Try.underlying23 rfl (by exact szL) ?_
      refine mkLE _ _ _ _ ?_ ?_ ?_ ?_
      · simp [ofL, HH.out]
      · simp [ofL, HH.out]
      · simp [ofE, HH.out]
      · (repeat (first | (with_reducible assumption) | with_reducible exact Ext.refl _ | with_reducible apply Ext.alloc | with_reducible apply Ext.drew | with_reducible apply Ext.drewN | ((with_reducible apply Ext.set); case hp => (first | (simp; done) | (dsimp only; omega) | omega)) | ((with_reducible apply Ext.trans); case k => with_reducible assumption)))
  · have HH := Lib.hid h
    simp only [Bool.and_eq_true] at h
    obtain ⟨⟨h1, h2⟩, h3⟩ := h
    have g1 := inR_t h1
    have g2 := inR_t h2
    have g3 := inR_t h3
    go_enter Try.func17, Try.ntmps17
    go_wp2_with (first | (go_at_call 65; refine (rin_any _ _).mono ?_; rintro e w' ⟨rfl, rfl⟩))
    refine (rchecked_any _ _ _).mono ?_
    rintro e w' ⟨rfl, hb⟩
    have B : Blk w' (w.heap.size) #[.int .i64 0, .int .i64 0] 23 := (by (repeat (first | (with_reducible assumption) | ((with_reducible apply Blk.new_at); focus (first | (simp; done) | (simp; omega))) | with_reducible apply Blk.alloc | with_reducible apply Blk.drew | with_reducible apply Blk.drewN | with_reducible apply Blk.set | ((with_reducible apply Blk.far); case hp => (first | (simp; done) | (dsimp only; omega))) | ((with_reducible apply Blk.ext); case he => with_reducible assumption)))); obtain ⟨B1, B2, B3, B4⟩ := B.c2; have B5 := B.lt
    go_wp2
    refine end_ct rfl rfl _ _ _ _ _ rfl rfl (by (repeat (first | (with_reducible assumption) | ((with_reducible apply Blk.new_at); focus (first | (simp; done) | (simp; omega))) | with_reducible apply Blk.alloc | with_reducible apply Blk.drew | with_reducible apply Blk.drewN | with_reducible apply Blk.set | ((with_reducible apply Blk.far); case hp => (first | (simp; done) | (dsimp only; omega))) | ((with_reducible apply Blk.ext); case he => with_reducible assumption)))) Try.underlying23 rfl (by exact szL) ?_
    refine mkLE _ _ _ _ ?_ ?_ ?_ ?_
    · simp [ofL, HH.out]
    · simp [ofL, HH.out]
    · simp [ofE, HH.out]
    · (repeat (first | (with_reducible assumption) | with_reducible exact Ext.refl _ | with_reducible apply Ext.alloc | with_reducible apply Ext.drew | with_reducible apply Ext.drewN | ((with_reducible apply Ext.set); case hp => (first | (simp; done) | (dsimp only; omega) | omega)) | ((with_reducible apply Ext.trans); case k => with_reducible assumption)))

def hasB (a b v : Int) : Bool := decide (a ≤ v) && decide (v ≤ b)
theorem rhas_any (a b v : Int) (w : World) : Calls Try.prog 76 #[.agg #[.int .i64 a, .int .i64 b], .int .i64 v] w (Ret (.bool (hasB a b v)) w) := by
  by_cases hg : a ≤ v
  all_goals
    go_enter Try.func76, Try.ntmps76
    go_wp2_with fail
    go_ret
    refine Ret.bool ?_ ?_
    · rw [Bool.eq_iff_iff]; simp [hasB] <;> omega
    · (repeat (first | (with_reducible assumption) | with_reducible exact Ext.refl _ | with_reducible apply Ext.alloc | with_reducible apply Ext.drew | with_reducible apply Ext.drewN | ((with_reducible apply Ext.set); case hp => (first | (simp; done) | (dsimp only; omega) | omega)) | ((with_reducible apply Ext.trans); case k => with_reducible assumption)))

theorem rcontains_any (a b v : Int) (w : World) : Calls Try.prog 36 #[.agg #[.int .i64 a, .int .i64 b], .int .i64 v] w (Ret (.tuple #[.bool (containsB a b v), .int .i64 (chk a b)]) w) := by
  cases h : chk a b != 0
  · have hz := Lib.hid (show chk a b = 0 by simpa using h)
    go_enter Try.func36, Try.ntmps36
    go_wp2_with fail; refine (rcheck_any _ _ _).mono ?_; rintro e w2 ⟨rfl, hb⟩
    have A : Blk w2 (w.heap.size) #[.int .i64 a, .int .i64 b] 23 := (by (repeat (first | (with_reducible assumption) | ((with_reducible apply Blk.new_at); focus (first | (simp; done) | (simp; omega))) | with_reducible apply Blk.alloc | with_reducible apply Blk.drew | with_reducible apply Blk.drewN | with_reducible apply Blk.set | ((with_reducible apply Blk.far); case hp => (first | (simp; done) | (dsimp only; omega))) | ((with_reducible apply Blk.ext); case he => with_reducible assumption)))); obtain ⟨A1, A2, A3, A4⟩ := A.c2; have A5 := A.lt
    go_wp2_with fail; refine (rhas_any _ _ _ _).mono ?_; rintro e w3 ⟨rfl, hb2⟩
    go_wp2_with fail
    go_ret2
    refine mkBE _ _ _ ?_ hz.out ?_
    · simp [containsB, hz.out, hasB]
    · (repeat (first | (with_reducible assumption) | with_reducible exact Ext.refl _ | with_reducible apply Ext.alloc | with_reducible apply Ext.drew | with_reducible apply Ext.drewN | ((with_reducible apply Ext.set); case hp => (first | (simp; done) | (dsimp only; omega) | omega)) | ((with_reducible apply Ext.trans); case k => with_reducible assumption)))
  · have hz := Lib.hid (show ¬ chk a b = 0 by simpa using h)
    go_enter Try.func36, Try.ntmps36
    go_wp2_with fail; refine (rcheck_any _ _ _).mono ?_; rintro e w2 ⟨rfl, hb⟩
    go_wp2_with fail
    go_ret2
    refine mkBE _ _ _ ?_ rfl ?_
    · simp [containsB, hz.out]
    · (repeat (first | (with_reducible assumption) | with_reducible exact Ext.refl _ | with_reducible apply Ext.alloc | with_reducible apply Ext.drew | with_reducible apply Ext.drewN | ((with_reducible apply Ext.set); case hp => (first | (simp; done) | (dsimp only; omega) | omega)) | ((with_reducible apply Ext.trans); case k => with_reducible assumption)))

theorem rinside_any (a b c d : Int) (w : World) : Calls Try.prog 37 #[.agg #[.int .i64 a, .int .i64 b], .agg #[.int .i64 c, .int .i64 d]] w (Ret (.tuple #[.bool (insideB a b c d), .int .i64 (bothE a b c d)]) w) := by
  cases h : bothE a b c d != 0
  · have hz := Lib.hid (show bothE a b c d = 0 by simpa using h)
    have hy := Lib.hid (insideB_yes h)
    have hb1 := chk_zero (bothE_zero hz.out).1
    have hb2 := chk_zero (bothE_zero hz.out).2
    cases hg : hasB c d a
    · go_enter Try.func37, Try.ntmps37
      go_wp2_with fail; refine (rboth_any _ _ _ _ _).mono ?_; rintro e w2 ⟨rfl, hb⟩
      have A : Blk w2 (w.heap.size) #[.int .i64 a, .int .i64 b] 23 := (by (repeat (first | (with_reducible assumption) | ((with_reducible apply Blk.new_at); focus (first | (simp; done) | (simp; omega))) | with_reducible apply Blk.alloc | with_reducible apply Blk.drew | with_reducible apply Blk.drewN | with_reducible apply Blk.set | ((with_reducible apply Blk.far); case hp => (first | (simp; done) | (dsimp only; omega))) | ((with_reducible apply Blk.ext); case he => with_reducible assumption)))); obtain ⟨A1, A2, A3, A4⟩ := A.c2; have A5 := A.lt
      have B : Blk w2 (w.heap.size + 1) #[.int .i64 c, .int .i64 d] 23 := (by (repeat (first | (with_reducible assumption) | ((with_reducible apply Blk.new_at); focus (first | (simp; done) | (simp; omega))) | with_reducible apply Blk.alloc | with_reducible apply Blk.drew | with_reducible apply Blk.drewN | with_reducible apply Blk.set | ((with_reducible apply Blk.far); case hp => (first | (simp; done) | (dsimp only; omega))) | ((with_reducible apply Blk.ext); case he => with_reducible assumption)))); obtain ⟨B1, B2, B3, B4⟩ := B.c2; have B5 := B.lt
      go_wp2_with fail; refine (rhas_any _ _ _ _).mono ?_; rintro e w3 ⟨rfl, hb2⟩
      go_wp2_with fail
      go_ret2
      refine mkBE _ _ _ ?_ hz.out ?_
      · rw [hy.out, Bool.eq_iff_iff]; simp [hasB] at hg ⊢ <;> omega
      · (repeat (first | (with_reducible assumption) | with_reducible exact Ext.refl _ | with_reducible apply Ext.alloc | with_reducible apply Ext.drew | with_reducible apply Ext.drewN | ((with_reducible apply Ext.set); case hp => (first | (simp; done) | (dsimp only; omega) | omega)) | ((with_reducible apply Ext.trans); case k => with_reducible assumption)))
    · go_enter Try.func37, Try.ntmps37
      go_wp2_with fail; refine (rboth_any _ _ _ _ _).mono ?_; rintro e w2 ⟨rfl, hb⟩
      have A : Blk w2 (w.heap.size) #[.int .i64 a, .int .i64 b] 23 := (by (repeat (first | (with_reducible assumption) | ((with_reducible apply Blk.new_at); focus (first | (simp; done) | (simp; omega))) | with_reducible apply Blk.alloc | with_reducible apply Blk.drew | with_reducible apply Blk.drewN | with_reducible apply Blk.set | ((with_reducible apply Blk.far); case hp => (first | (simp; done) | (dsimp only; omega))) | ((with_reducible apply Blk.ext); case he => with_reducible assumption)))); obtain ⟨A1, A2, A3, A4⟩ := A.c2; have A5 := A.lt
      have B : Blk w2 (w.heap.size + 1) #[.int .i64 c, .int .i64 d] 23 := (by (repeat (first | (with_reducible assumption) | ((with_reducible apply Blk.new_at); focus (first | (simp; done) | (simp; omega))) | with_reducible apply Blk.alloc | with_reducible apply Blk.drew | with_reducible apply Blk.drewN | with_reducible apply Blk.set | ((with_reducible apply Blk.far); case hp => (first | (simp; done) | (dsimp only; omega))) | ((with_reducible apply Blk.ext); case he => with_reducible assumption)))); obtain ⟨B1, B2, B3, B4⟩ := B.c2; have B5 := B.lt
      go_wp2_with fail; refine (rhas_any _ _ _ _).mono ?_; rintro e w3 ⟨rfl, hb2⟩
      have A' : Blk w3 (w.heap.size) #[.int .i64 a, .int .i64 b] 23 := (by (repeat (first | (with_reducible assumption) | ((with_reducible apply Blk.new_at); focus (first | (simp; done) | (simp; omega))) | with_reducible apply Blk.alloc | with_reducible apply Blk.drew | with_reducible apply Blk.drewN | with_reducible apply Blk.set | ((with_reducible apply Blk.far); case hp => (first | (simp; done) | (dsimp only; omega))) | ((with_reducible apply Blk.ext); case he => with_reducible assumption)))); obtain ⟨A'1, A'2, A'3, A'4⟩ := A'.c2; have A'5 := A'.lt
      have B' : Blk w3 (w.heap.size + 1) #[.int .i64 c, .int .i64 d] 23 := (by (repeat (first | (with_reducible assumption) | ((with_reducible apply Blk.new_at); focus (first | (simp; done) | (simp; omega))) | with_reducible apply Blk.alloc | with_reducible apply Blk.drew | with_reducible apply Blk.drewN | with_reducible apply Blk.set | ((with_reducible apply Blk.far); case hp => (first | (simp; done) | (dsimp only; omega))) | ((with_reducible apply Blk.ext); case he => with_reducible assumption)))); obtain ⟨B'1, B'2, B'3, B'4⟩ := B'.c2; have B'5 := B'.lt
      go_wp2_with fail; refine (rhas_any _ _ _ _).mono ?_; rintro e w4 ⟨rfl, hb3⟩
      go_wp2_with fail
      go_ret2
      refine mkBE _ _ _ ?_ hz.out ?_
      · rw [hy.out, Bool.eq_iff_iff]; simp [hasB] at hg ⊢ <;> omega
      · (repeat (first | (with_reducible assumption) | with_reducible exact Ext.refl _ | with_reducible apply Ext.alloc | with_reducible apply Ext.drew | with_reducible apply Ext.drewN | ((with_reducible apply Ext.set); case hp => (first | (simp; done) | (dsimp only; omega) | omega)) | ((with_reducible apply Ext.trans); case k => with_reducible assumption)))
  · have hy := Lib.hid (insideB_no h)
    go_enter Try.func37, Try.ntmps37
    go_wp2_with fail; refine (rboth_any _ _ _ _ _).mono ?_; rintro e w2 ⟨rfl, hb⟩
    go_wp2_with fail
    go_ret2
    refine mkBE _ _ _ ?_ rfl ?_
    · rw [hy.out]
    · (repeat (first | (with_reducible assumption) | with_reducible exact Ext.refl _ | with_reducible apply Ext.alloc | with_reducible apply Ext.drew | with_reducible apply Ext.drewN | ((with_reducible apply Ext.set); case hp => (first | (simp; done) | (dsimp only; omega) | omega)) | ((with_reducible apply Ext.trans); case k => with_reducible assumption)))

set_option maxHeartbeats 4000000 in
theorem rmeet_any (a b c d : Int) (w : World) : Calls Try.prog 23 #[.agg #[.int .i64 a, .int .i64 b], .agg #[.int .i64 c, .int .i64 d]] w (Ret (.tuple #[.agg #[.int .i64 (meetL a b c d).lo, .int .i64 (meetL a b c d).hi], .int .i64 (meetE a b c d)]) w) := by
  cases h : bothE a b c d != 0
  · have hz := Lib.hid (show bothE a b c d = 0 by simpa using h)
    have hx : (a < c ∧ d < b ∧ (c ≤ d ∨ d < c)) ∨ (a < c ∧ ¬ d < b ∧ (c ≤ b ∨ b < c)) ∨ (¬ a < c ∧ d < b ∧ (a ≤ d ∨ d < a)) ∨ (¬ a < c ∧ ¬ d < b ∧ (a ≤ b ∨ b < a)) := by omega
    rcases hx with ⟨h1, h2, h3 | h3⟩ | ⟨h1, h2, h3 | h3⟩ | ⟨h1, h2, h3 | h3⟩ | ⟨h1, h2, h3 | h3⟩
    all_goals
      go_enter Try.func23, Try.ntmps23
      go_wp2_with fail; refine (rboth_any _ _ _ _ _).mono ?_; rintro e w' ⟨rfl, hb⟩
      have A : Blk w' (w.heap.size) #[.int .i64 a, .int .i64 b] 23 := (by (repeat (first | (with_reducible assumption) | ((with_reducible apply Blk.new_at); focus (first | (simp; done) | (simp; omega))) | with_reducible apply Blk.alloc | with_reducible apply Blk.drew | with_reducible apply Blk.drewN | with_reducible apply Blk.set | ((with_reducible apply Blk.far); case hp => (first | (simp; done) | (dsimp only; omega))) | ((with_reducible apply Blk.ext); case he => with_reducible assumption)))); obtain ⟨A1, A2, A3, A4⟩ := A.c2; have A5 := A.lt
      have C : Blk w' (w.heap.size + 1) #[.int .i64 c, .int .i64 d] 23 := (by (repeat (first | (with_reducible assumption) | ((with_reducible apply Blk.new_at); focus (first | (simp; done) | (simp; omega))) | with_reducible apply Blk.alloc | with_reducible apply Blk.drew | with_reducible apply Blk.drewN | with_reducible apply Blk.set | ((with_reducible apply Blk.far); case hp => (first | (simp; done) | (dsimp only; omega))) | ((with_reducible apply Blk.ext); case he => with_reducible assumption)))); obtain ⟨C1, C2, C3, C4⟩ := C.c2; have C5 := C.lt
      have B : Blk w' (w.heap.size + 1 + 1) #[.int .i64 0, .int .i64 0] 23 := (by (repeat (first | (with_reducible assumption) | ((with_reducible apply Blk.new_at); focus (first | (simp; done) | (simp; omega))) | with_reducible apply Blk.alloc | with_reducible apply Blk.drew | with_reducible apply Blk.drewN | with_reducible apply Blk.set | ((with_reducible apply Blk.far); case hp => (first | (simp; done) | (dsimp only; omega))) | ((with_reducible apply Blk.ext); case he => with_reducible assumption)))); obtain ⟨B1, B2, B3, B4⟩ := B.c2; have B5 := B.lt
      go_wp2_with fail
      refine end_ct rfl rfl _ _ _ _ _ rfl rfl (by (repeat (first | (with_reducible assumption) | ((with_reducible apply Blk.new_at); focus (first | (simp; done) | (simp; omega))) | with_reducible apply Blk.alloc | with_reducible apply Blk.drew | with_reducible apply Blk.drewN | with_reducible apply Blk.set | ((with_reducible apply Blk.far); case hp => (first | (simp; done) | (dsimp only; omega))) | ((with_reducible apply Blk.ext); case he => with_reducible assumption)))) Try.underlying23 rfl (by exact szL) ?_
      refine mkLE _ _ _ _ ?_ ?_ ?_ ?_
      · have hz := hz.out; unfold meetL; split <;> first | rfl | (simp only []; omega)
      · have hz := hz.out; unfold meetL; split <;> first | rfl | (simp only []; omega)
      · have hz := hz.out; unfold meetE; rw [if_pos hz]; split <;> first | rfl | omega
      · (repeat (first | (with_reducible assumption) | with_reducible exact Ext.refl _ | with_reducible apply Ext.alloc | with_reducible apply Ext.drew | with_reducible apply Ext.drewN | ((with_reducible apply Ext.set); case hp => (first | (simp; done) | (dsimp only; omega) | omega)) | ((with_reducible apply Ext.trans); case k => with_reducible assumption)))
  · have hz := Lib.hid (show ¬ bothE a b c d = 0 by simpa using h)
    go_enter Try.func23, Try.ntmps23
    go_wp2_with fail; refine (rboth_any _ _ _ _ _).mono ?_; rintro e w' ⟨rfl, hb⟩
    have B : Blk w' (w.heap.size + 1 + 1) #[.int .i64 0, .int .i64 0] 23 := (by (repeat (first | (with_reducible assumption) | ((with_reducible apply Blk.new_at); focus (first | (simp; done) | (simp; omega))) | with_reducible apply Blk.alloc | with_reducible apply Blk.drew | with_reducible apply Blk.drewN | with_reducible apply Blk.set | ((with_reducible apply Blk.far); case hp => (first | (simp; done) | (dsimp only; omega))) | ((with_reducible apply Blk.ext); case he => with_reducible assumption)))); obtain ⟨B1, B2, B3, B4⟩ := B.c2; have B5 := B.lt
    go_wp2_with fail
    refine end_ct rfl rfl _ _ _ _ _ rfl rfl (by (repeat (first | (with_reducible assumption) | ((with_reducible apply Blk.new_at); focus (first | (simp; done) | (simp; omega))) | with_reducible apply Blk.alloc | with_reducible apply Blk.drew | with_reducible apply Blk.drewN | with_reducible apply Blk.set | ((with_reducible apply Blk.far); case hp => (first | (simp; done) | (dsimp only; omega))) | ((with_reducible apply Blk.ext); case he => with_reducible assumption)))) Try.underlying23 rfl (by exact szL) ?_
    refine mkLE _ _ _ _ ?_ ?_ ?_ ?_
    · simp [meetL, hz.out]
    · simp [meetL, hz.out]
    · simp [meetE, hz.out]
    · (repeat (first | (with_reducible assumption) | with_reducible exact Ext.refl _ | with_reducible apply Ext.alloc | with_reducible apply Ext.drew | with_reducible apply Ext.drewN | ((with_reducible apply Ext.set); case hp => (first | (simp; done) | (dsimp only; omega) | omega)) | ((with_reducible apply Ext.trans); case k => with_reducible assumption)))

theorem radd_any (a b c d : Int) (w : World) : Calls Try.prog 25 #[.agg #[.int .i64 a, .int .i64 b], .agg #[.int .i64 c, .int .i64 d]] w (Ret (.tuple #[.agg #[.int .i64 (addL a b c d).lo, .int .i64 (addL a b c d).hi], .int .i64 (addE a b c d)]) w) := by
  cases h : bothE a b c d != 0
  · have hz0 : bothE a b c d = 0 := by simpa using h
    have hb1 := chk_zero (bothE_zero hz0).1
    have hb2 := chk_zero (bothE_zero hz0).2
    have hz := Lib.hid hz0
    clear hz0
    go_enter Try.func25, Try.ntmps25
    go_wp2_with fail; refine (rboth_any _ _ _ _ _).mono ?_; rintro e w' ⟨rfl, hb⟩
    have A : Blk w' (w.heap.size) #[.int .i64 a, .int .i64 b] 23 := (by (repeat (first | (with_reducible assumption) | ((with_reducible apply Blk.new_at); focus (first | (simp; done) | (simp; omega))) | with_reducible apply Blk.alloc | with_reducible apply Blk.drew | with_reducible apply Blk.drewN | with_reducible apply Blk.set | ((with_reducible apply Blk.far); case hp => (first | (simp; done) | (dsimp only; omega))) | ((with_reducible apply Blk.ext); case he => with_reducible assumption)))); obtain ⟨A1, A2, A3, A4⟩ := A.c2; have A5 := A.lt
    have C : Blk w' (w.heap.size + 1) #[.int .i64 c, .int .i64 d] 23 := (by (repeat (first | (with_reducible assumption) | ((with_reducible apply Blk.new_at); focus (first | (simp; done) | (simp; omega))) | with_reducible apply Blk.alloc | with_reducible apply Blk.drew | with_reducible apply Blk.drewN | with_reducible apply Blk.set | ((with_reducible apply Blk.far); case hp => (first | (simp; done) | (dsimp only; omega))) | ((with_reducible apply Blk.ext); case he => with_reducible assumption)))); obtain ⟨C1, C2, C3, C4⟩ := C.c2; have C5 := C.lt
    go_wp2_with fail; refine (rchecked_any _ _ _).mono ?_; rintro e w2 ⟨rfl, hb3⟩
    have B : Blk w2 (w.heap.size + 1 + 1) #[.int .i64 0, .int .i64 0] 23 := (by (repeat (first | (with_reducible assumption) | ((with_reducible apply Blk.new_at); focus (first | (simp; done) | (simp; omega))) | with_reducible apply Blk.alloc | with_reducible apply Blk.drew | with_reducible apply Blk.drewN | with_reducible apply Blk.set | ((with_reducible apply Blk.far); case hp => (first | (simp; done) | (dsimp only; omega))) | ((with_reducible apply Blk.ext); case he => with_reducible assumption)))); obtain ⟨B1, B2, B3, B4⟩ := B.c2; have B5 := B.lt
    go_wp2_with fail
    refine end_ct rfl rfl _ _ _ _ _ rfl rfl (by (repeat (first | (with_reducible assumption) | ((with_reducible apply Blk.new_at); focus (first | (simp; done) | (simp; omega))) | with_reducible apply Blk.alloc | with_reducible apply Blk.drew | with_reducible apply Blk.drewN | with_reducible apply Blk.set | ((with_reducible apply Blk.far); case hp => (first | (simp; done) | (dsimp only; omega))) | ((with_reducible apply Blk.ext); case he => with_reducible assumption)))) Try.underlying23 rfl (by exact szL) ?_
    refine mkLE _ _ _ _ ?_ ?_ ?_ ?_
    · simp [addL, hz.out]
    · simp [addL, hz.out]
    · simp [addE, hz.out]
    · (repeat (first | (with_reducible assumption) | with_reducible exact Ext.refl _ | with_reducible apply Ext.alloc | with_reducible apply Ext.drew | with_reducible apply Ext.drewN | ((with_reducible apply Ext.set); case hp => (first | (simp; done) | (dsimp only; omega) | omega)) | ((with_reducible apply Ext.trans); case k => with_reducible assumption)))
  · have hz := Lib.hid (show ¬ bothE a b c d = 0 by simpa using h)
    go_enter Try.func25, Try.ntmps25
    go_wp2_with fail; refine (rboth_any _ _ _ _ _).mono ?_; rintro e w' ⟨rfl, hb⟩
    have B : Blk w' (w.heap.size + 1 + 1) #[.int .i64 0, .int .i64 0] 23 := (by (repeat (first | (with_reducible assumption) | ((with_reducible apply Blk.new_at); focus (first | (simp; done) | (simp; omega))) | with_reducible apply Blk.alloc | with_reducible apply Blk.drew | with_reducible apply Blk.drewN | with_reducible apply Blk.set | ((with_reducible apply Blk.far); case hp => (first | (simp; done) | (dsimp only; omega))) | ((with_reducible apply Blk.ext); case he => with_reducible assumption)))); obtain ⟨B1, B2, B3, B4⟩ := B.c2; have B5 := B.lt
    go_wp2_with fail
    refine end_ct rfl rfl _ _ _ _ _ rfl rfl (by (repeat (first | (with_reducible assumption) | ((with_reducible apply Blk.new_at); focus (first | (simp; done) | (simp; omega))) | with_reducible apply Blk.alloc | with_reducible apply Blk.drew | with_reducible apply Blk.drewN | with_reducible apply Blk.set | ((with_reducible apply Blk.far); case hp => (first | (simp; done) | (dsimp only; omega))) | ((with_reducible apply Blk.ext); case he => with_reducible assumption)))) Try.underlying23 rfl (by exact szL) ?_
    refine mkLE _ _ _ _ ?_ ?_ ?_ ?_
    · simp [addL, hz.out]
    · simp [addL, hz.out]
    · simp [addE, hz.out]
    · (repeat (first | (with_reducible assumption) | with_reducible exact Ext.refl _ | with_reducible apply Ext.alloc | with_reducible apply Ext.drew | with_reducible apply Ext.drewN | ((with_reducible apply Ext.set); case hp => (first | (simp; done) | (dsimp only; omega) | omega)) | ((with_reducible apply Ext.trans); case k => with_reducible assumption)))

theorem rneg_any (a b : Int) (w : World) : Calls Try.prog 38 #[.agg #[.int .i64 a, .int .i64 b]] w (Ret (.tuple #[.agg #[.int .i64 (negL a b).lo, .int .i64 (negL a b).hi], .int .i64 (chk a b)]) w) := by
  cases h : chk a b != 0
  · have hz0 : chk a b = 0 := by simpa using h
    have hb1 := chk_zero hz0
    have hz := Lib.hid hz0
    clear hz0
    go_enter Try.func38, Try.ntmps38
    go_wp2_with fail; refine (rcheck_any _ _ _).mono ?_; rintro e w2 ⟨rfl, hb⟩
    have A : Blk w2 (w.heap.size) #[.int .i64 a, .int .i64 b] 23 := (by (repeat (first | (with_reducible assumption) | ((with_reducible apply Blk.new_at); focus (first | (simp; done) | (simp; omega))) | with_reducible apply Blk.alloc | with_reducible apply Blk.drew | with_reducible apply Blk.drewN | with_reducible apply Blk.set | ((with_reducible apply Blk.far); case hp => (first | (simp; done) | (dsimp only; omega))) | ((with_reducible apply Blk.ext); case he => with_reducible assumption)))); obtain ⟨A1, A2, A3, A4⟩ := A.c2; have A5 := A.lt
    have B : Blk w2 (w.heap.size + 1) #[.int .i64 0, .int .i64 0] 23 := (by (repeat (first | (with_reducible assumption) | ((with_reducible apply Blk.new_at); focus (first | (simp; done) | (simp; omega))) | with_reducible apply Blk.alloc | with_reducible apply Blk.drew | with_reducible apply Blk.drewN | with_reducible apply Blk.set | ((with_reducible apply Blk.far); case hp => (first | (simp; done) | (dsimp only; omega))) | ((with_reducible apply Blk.ext); case he => with_reducible assumption)))); obtain ⟨B1, B2, B3, B4⟩ := B.c2; have B5 := B.lt
    go_wp2_with fail
    refine end_ct rfl rfl _ _ _ _ _ rfl rfl (by (repeat (first | (with_reducible assumption) | ((with_reducible apply Blk.new_at); focus (first | (simp; done) | (simp; omega))) | with_reducible apply Blk.alloc | with_reducible apply Blk.drew | with_reducible apply Blk.drewN | with_reducible apply Blk.set | ((with_reducible apply Blk.far); case hp => (first | (simp; done) | (dsimp only; omega))) | ((with_reducible apply Blk.ext); case he => with_reducible assumption)))) Try.underlying23 rfl (by exact szL) ?_
    refine mkLE _ _ _ _ ?_ ?_ ?_ ?_
    · simp [negL, hz.out]
    · simp [negL, hz.out]
    · exact hz.out
    · (repeat (first | (with_reducible assumption) | with_reducible exact Ext.refl _ | with_reducible apply Ext.alloc | with_reducible apply Ext.drew | with_reducible apply Ext.drewN | ((with_reducible apply Ext.set); case hp => (first | (simp; done) | (dsimp only; omega) | omega)) | ((with_reducible apply Ext.trans); case k => with_reducible assumption)))
  · have hz := Lib.hid (show ¬ chk a b = 0 by simpa using h)
    go_enter Try.func38, Try.ntmps38
    go_wp2_with fail; refine (rcheck_any _ _ _).mono ?_; rintro e w2 ⟨rfl, hb⟩
    have B : Blk w2 (w.heap.size + 1) #[.int .i64 0, .int .i64 0] 23 := (by (repeat (first | (with_reducible assumption) | ((with_reducible apply Blk.new_at); focus (first | (simp; done) | (simp; omega))) | with_reducible apply Blk.alloc | with_reducible apply Blk.drew | with_reducible apply Blk.drewN | with_reducible apply Blk.set | ((with_reducible apply Blk.far); case hp => (first | (simp; done) | (dsimp only; omega))) | ((with_reducible apply Blk.ext); case he => with_reducible assumption)))); obtain ⟨B1, B2, B3, B4⟩ := B.c2; have B5 := B.lt
    go_wp2_with fail
    refine end_ct rfl rfl _ _ _ _ _ rfl rfl (by (repeat (first | (with_reducible assumption) | ((with_reducible apply Blk.new_at); focus (first | (simp; done) | (simp; omega))) | with_reducible apply Blk.alloc | with_reducible apply Blk.drew | with_reducible apply Blk.drewN | with_reducible apply Blk.set | ((with_reducible apply Blk.far); case hp => (first | (simp; done) | (dsimp only; omega))) | ((with_reducible apply Blk.ext); case he => with_reducible assumption)))) Try.underlying23 rfl (by exact szL) ?_
    refine mkLE _ _ _ _ ?_ ?_ ?_ ?_
    · simp [negL, hz.out]
    · simp [negL, hz.out]
    · rfl
    · (repeat (first | (with_reducible assumption) | with_reducible exact Ext.refl _ | with_reducible apply Ext.alloc | with_reducible apply Ext.drew | with_reducible apply Ext.drewN | ((with_reducible apply Ext.set); case hp => (first | (simp; done) | (dsimp only; omega) | omega)) | ((with_reducible apply Ext.trans); case k => with_reducible assumption)))
end Go.Proofs.Ytdcedfciaaooiaa
