/- Add, Neg and Contains of package dimension do what P17 says. -/
import Derived.Test.YtdcedfciaaooiaaX1
set_option linter.unusedVariables false
namespace Go.Proofs.Ytdcedfciaaooiaa
open Go.RowKit

set_option maxHeartbeats 4000000 in
theorem add_any (a b c d : Int) (w : World) : Calls Try.prog 24 #[.agg #[.int .i64 a, .int .i64 b], .agg #[.int .i64 c, .int .i64 d]] w (Ret (.tuple #[.agg #[.int .i64 (addL a b c d).lo, .int .i64 (addL a b c d).hi], .int .i64 (addE a b c d)]) w) := by
  cases h : bothE a b c d != 0
  · have hz0 : bothE a b c d = 0 := by simpa using h
    have hb1 := chk_zero (bothE_zero hz0).1
    have hb2 := chk_zero (bothE_zero hz0).2
    have hz := Lib.hid hz0
    clear hz0
    go_enter Try.func24, Try.ntmps24
    go_wp2_with fail
    go_region_held3 (fun W => (W.cell? ⟨w.heap.size, 0, none⟩ = some (.int .i64 a) ∧ W.cell? ⟨w.heap.size, 1, none⟩ = some (.int .i64 b)) ∧ W.cell? ⟨w.heap.size + 1, 0, none⟩ = some (.int .i64 c) ∧ W.cell? ⟨w.heap.size + 1, 1, none⟩ = some (.int .i64 d)) (exact ⟨Blk.r2 (t := 23) (by (repeat (first | (with_reducible assumption) | ((with_reducible apply Blk.new_at); focus (first | (simp; done) | (simp; omega))) | with_reducible apply Blk.alloc | with_reducible apply Blk.drew | with_reducible apply Blk.drewN | with_reducible apply Blk.set | ((with_reducible apply Blk.far); case hp => (first | (simp; done) | (dsimp only; omega))) | ((with_reducible apply Blk.ext); case he => with_reducible assumption)))), Blk.r2 (t := 23) (by (repeat (first | (with_reducible assumption) | ((with_reducible apply Blk.new_at); focus (first | (simp; done) | (simp; omega))) | with_reducible apply Blk.alloc | with_reducible apply Blk.drew | with_reducible apply Blk.drewN | with_reducible apply Blk.set | ((with_reducible apply Blk.far); case hp => (first | (simp; done) | (dsimp only; omega))) | ((with_reducible apply Blk.ext); case he => with_reducible assumption))))⟩) (first | (go_at_call 71; refine (limits_any _ _ _).mono ?_; rintro e w' ⟨rfl, rfl⟩) | (go_at_call 70; refine (first_any _ _ 2 _ _ [chk a b, chk c d] (bothE a b c d) rfl (Blk.drew (Blk.new_at _ _ _ _ ?_)) ?_ rfl ?_).mono ?_; (focus (simp; done)); (focus decide); (focus (refine thunks2 (limits_thunk a b _ _ ?_) (limits_thunk c d _ _ ?_) <;> ((repeat (first | (with_reducible assumption) | ((with_reducible apply Blk.new_at); focus (first | (simp; done) | (simp; omega))) | with_reducible apply Blk.alloc | with_reducible apply Blk.drew | with_reducible apply Blk.drewN | with_reducible apply Blk.set | ((with_reducible apply Blk.far); case hp => (first | (simp; done) | (dsimp only; omega))) | ((with_reducible apply Blk.ext); case he => with_reducible assumption)))))); rintro e w' ⟨rfl, hb⟩))
    go_wp2_with fail; refine (made_any _ _ _).mono ?_; rintro e w2 ⟨rfl, hb3⟩
    have B : Blk w2 (w.heap.size + 1 + 1) #[.int .i64 0, .int .i64 0] 23 := (by (repeat (first | (with_reducible assumption) | ((with_reducible apply Blk.new_at); focus (first | (simp; done) | (simp; omega))) | with_reducible apply Blk.alloc | with_reducible apply Blk.drew | with_reducible apply Blk.drewN | with_reducible apply Blk.set | ((with_reducible apply Blk.far); case hp => (first | (simp; done) | (dsimp only; omega))) | ((with_reducible apply Blk.ext); case he => with_reducible assumption)))); obtain ⟨B1, B2, B3, B4⟩ := B.c2; have B5 := B.lt
    go_wp2_with fail
    refine end_ct rfl rfl _ _ _ _ _ rfl rfl (by (repeat (first | (with_reducible assumption) | ((with_reducible apply Blk.new_at); focus (first | (simp; done) | (simp; omega))) | with_reducible apply Blk.alloc | with_reducible apply Blk.drew | with_reducible apply Blk.drewN | with_reducible apply Blk.set | ((with_reducible apply Blk.far); case hp => (first | (simp; done) | (dsimp only; omega))) | ((with_reducible apply Blk.ext); case he => with_reducible assumption)))) Try.underlying23 rfl (by exact szL) ?_
    refine mkLE _ _ _ _ ?_ ?_ ?_ ?_
    · simp [addL, hz.out]
    · simp [addL, hz.out]
    · simp [addE, hz.out]
    · (repeat (first | (with_reducible assumption) | with_reducible exact Ext.refl _ | with_reducible apply Ext.alloc | with_reducible apply Ext.drew | with_reducible apply Ext.drewN | ((with_reducible apply Ext.set); case hp => (first | (simp; done) | (dsimp only; omega) | omega)) | ((with_reducible apply Ext.trans); case k => with_reducible assumption)))
  · have hz := Lib.hid (show ¬ bothE a b c d = 0 by simpa using h)
    go_enter Try.func24, Try.ntmps24
    go_wp2_with fail
    go_region_held3 (fun W => (W.cell? ⟨w.heap.size, 0, none⟩ = some (.int .i64 a) ∧ W.cell? ⟨w.heap.size, 1, none⟩ = some (.int .i64 b)) ∧ W.cell? ⟨w.heap.size + 1, 0, none⟩ = some (.int .i64 c) ∧ W.cell? ⟨w.heap.size + 1, 1, none⟩ = some (.int .i64 d)) (exact ⟨Blk.r2 (t := 23) (by (repeat (first | (with_reducible assumption) | ((with_reducible apply Blk.new_at); focus (first | (simp; done) | (simp; omega))) | with_reducible apply Blk.alloc | with_reducible apply Blk.drew | with_reducible apply Blk.drewN | with_reducible apply Blk.set | ((with_reducible apply Blk.far); case hp => (first | (simp; done) | (dsimp only; omega))) | ((with_reducible apply Blk.ext); case he => with_reducible assumption)))), Blk.r2 (t := 23) (by (repeat (first | (with_reducible assumption) | ((with_reducible apply Blk.new_at); focus (first | (simp; done) | (simp; omega))) | with_reducible apply Blk.alloc | with_reducible apply Blk.drew | with_reducible apply Blk.drewN | with_reducible apply Blk.set | ((with_reducible apply Blk.far); case hp => (first | (simp; done) | (dsimp only; omega))) | ((with_reducible apply Blk.ext); case he => with_reducible assumption))))⟩) (first | (go_at_call 71; refine (limits_any _ _ _).mono ?_; rintro e w' ⟨rfl, rfl⟩) | (go_at_call 70; refine (first_any _ _ 2 _ _ [chk a b, chk c d] (bothE a b c d) rfl (Blk.drew (Blk.new_at _ _ _ _ ?_)) ?_ rfl ?_).mono ?_; (focus (simp; done)); (focus decide); (focus (refine thunks2 (limits_thunk a b _ _ ?_) (limits_thunk c d _ _ ?_) <;> ((repeat (first | (with_reducible assumption) | ((with_reducible apply Blk.new_at); focus (first | (simp; done) | (simp; omega))) | with_reducible apply Blk.alloc | with_reducible apply Blk.drew | with_reducible apply Blk.drewN | with_reducible apply Blk.set | ((with_reducible apply Blk.far); case hp => (first | (simp; done) | (dsimp only; omega))) | ((with_reducible apply Blk.ext); case he => with_reducible assumption)))))); rintro e w' ⟨rfl, hb⟩))
    have B : Blk w' (w.heap.size + 1 + 1) #[.int .i64 0, .int .i64 0] 23 := (by (repeat (first | (with_reducible assumption) | ((with_reducible apply Blk.new_at); focus (first | (simp; done) | (simp; omega))) | with_reducible apply Blk.alloc | with_reducible apply Blk.drew | with_reducible apply Blk.drewN | with_reducible apply Blk.set | ((with_reducible apply Blk.far); case hp => (first | (simp; done) | (dsimp only; omega))) | ((with_reducible apply Blk.ext); case he => with_reducible assumption)))); obtain ⟨B1, B2, B3, B4⟩ := B.c2; have B5 := B.lt
    go_wp2_with fail
    refine end_ct rfl rfl _ _ _ _ _ rfl rfl (by (repeat (first | (with_reducible assumption) | ((with_reducible apply Blk.new_at); focus (first | (simp; done) | (simp; omega))) | with_reducible apply Blk.alloc | with_reducible apply Blk.drew | with_reducible apply Blk.drewN | with_reducible apply Blk.set | ((with_reducible apply Blk.far); case hp => (first | (simp; done) | (dsimp only; omega))) | ((with_reducible apply Blk.ext); case he => with_reducible assumption)))) Try.underlying23 rfl (by exact szL) ?_
    refine mkLE _ _ _ _ ?_ ?_ ?_ ?_
    · simp [addL, hz.out]
    · simp [addL, hz.out]
    · simp [addE, hz.out]
    · (repeat (first | (with_reducible assumption) | with_reducible exact Ext.refl _ | with_reducible apply Ext.alloc | with_reducible apply Ext.drew | with_reducible apply Ext.drewN | ((with_reducible apply Ext.set); case hp => (first | (simp; done) | (dsimp only; omega) | omega)) | ((with_reducible apply Ext.trans); case k => with_reducible assumption)))

theorem neg_any (a b : Int) (w : World) : Calls Try.prog 35 #[.agg #[.int .i64 a, .int .i64 b]] w (Ret (.tuple #[.agg #[.int .i64 (negL a b).lo, .int .i64 (negL a b).hi], .int .i64 (chk a b)]) w) := by
  cases h : chk a b != 0
  · have hz0 : chk a b = 0 := by simpa using h
    have hb1 := chk_zero hz0
    have hz := Lib.hid hz0
    clear hz0
    go_enter Try.func35, Try.ntmps35
    go_wp2_with fail; refine (check_any _ _ _).mono ?_; rintro e w2 ⟨rfl, hb⟩
    have A : Blk w2 (w.heap.size) #[.int .i64 a, .int .i64 b] 23 := (by (repeat (first | (with_reducible assumption) | ((with_reducible apply Blk.new_at); focus (first | (simp; done) | (simp; omega))) | with_reducible apply Blk.alloc | with_reducible apply Blk.drew | with_reducible apply Blk.drewN | with_reducible apply Blk.set | ((with_reducible apply Blk.far); case hp => (first | (simp; done) | (dsimp only; omega))) | ((with_reducible apply Blk.ext); case he => with_reducible assumption)))); obtain ⟨A1, A2, A3, A4⟩ := A.c2; have A5 := A.lt
    have B : Blk w2 (w.heap.size + 1) #[.int .i64 0, .int .i64 0] 23 := (by (repeat (first | (with_reducible assumption) | ((with_reducible apply Blk.new_at); focus (first | (simp; done) | (simp; omega))) | with_reducible apply Blk.alloc | with_reducible apply Blk.drew | with_reducible apply Blk.drewN | with_reducible apply Blk.set | ((with_reducible apply Blk.far); case hp => (first | (simp; done) | (dsimp only; omega))) | ((with_reducible apply Blk.ext); case he => with_reducible assumption)))); obtain ⟨B1, B2, B3, B4⟩ := B.c2; have B5 := B.lt
    go_wp2_with fail
    refine end_ct rfl rfl _ _ _ _ _ rfl rfl (by (repeat (first | (with_reducible assumption) | ((with_reducible apply Blk.new_at); focus (first | (simp; done) | (simp; omega))) | with_reducible apply Blk.alloc | with_reducible apply Blk.drew | with_reducible apply Blk.drewN | with_reducible apply Blk.set | ((with_reducible apply Blk.far); case hp => (first | (simp; done) | (dsimp only; omega))) | ((with_reducible apply Blk.ext); case he => with_reducible assumption)))) Try.underlying23 rfl (by exact szL) ?_
    refine mkLE _ _ _ _ ?_ ?_ ?_ ?_
    · simp [negL, hz.out]
    · simp [negL, hz.out]
    · exact hz.out
    · (repeat (first | (with_reducible assumption) | with_reducible exact Ext.refl _ | with_reducible apply Ext.alloc | with_reducible apply Ext.drew | with_reducible apply Ext.drewN | ((with_reducible apply Ext.set); case hp => (first | (simp; done) | (dsimp only; omega) | omega)) | ((with_reducible apply Ext.trans); case k => with_reducible assumption)))
  · have hz := Lib.hid (show ¬ chk a b = 0 by simpa using h)
    go_enter Try.func35, Try.ntmps35
    go_wp2_with fail; refine (check_any _ _ _).mono ?_; rintro e w2 ⟨rfl, hb⟩
    have B : Blk w2 (w.heap.size + 1) #[.int .i64 0, .int .i64 0] 23 := (by (repeat (first | (with_reducible assumption) | ((with_reducible apply Blk.new_at); focus (first | (simp; done) | (simp; omega))) | with_reducible apply Blk.alloc | with_reducible apply Blk.drew | with_reducible apply Blk.drewN | with_reducible apply Blk.set | ((with_reducible apply Blk.far); case hp => (first | (simp; done) | (dsimp only; omega))) | ((with_reducible apply Blk.ext); case he => with_reducible assumption)))); obtain ⟨B1, B2, B3, B4⟩ := B.c2; have B5 := B.lt
    go_wp2_with fail
    refine end_ct rfl rfl _ _ _ _ _ rfl rfl (by (repeat (first | (with_reducible assumption) | ((with_reducible apply Blk.new_at); focus (first | (simp; done) | (simp; omega))) | with_reducible apply Blk.alloc | with_reducible apply Blk.drew | with_reducible apply Blk.drewN | with_reducible apply Blk.set | ((with_reducible apply Blk.far); case hp => (first | (simp; done) | (dsimp only; omega))) | ((with_reducible apply Blk.ext); case he => with_reducible assumption)))) Try.underlying23 rfl (by exact szL) ?_
    refine mkLE _ _ _ _ ?_ ?_ ?_ ?_
    · simp [negL, hz.out]
    · simp [negL, hz.out]
    · rfl
    · (repeat (first | (with_reducible assumption) | with_reducible exact Ext.refl _ | with_reducible apply Ext.alloc | with_reducible apply Ext.drew | with_reducible apply Ext.drewN | ((with_reducible apply Ext.set); case hp => (first | (simp; done) | (dsimp only; omega) | omega)) | ((with_reducible apply Ext.trans); case k => with_reducible assumption)))

theorem mkBE {x : Bool} {e : Int} {w : World} : ∀ y r w', x = y → e = r → Ext w w' → Ret (.tuple #[.bool x, .int .i64 e]) w (.returned (.tuple #[.bool y, .int .i64 r])) w' := by
  rintro _ _ w' rfl rfl h; exact ⟨rfl, h⟩
theorem contains_any (a b v : Int) (w : World) : Calls Try.prog 33 #[.agg #[.int .i64 a, .int .i64 b], .int .i64 v] w (Ret (.tuple #[.bool (containsB a b v), .int .i64 (chk a b)]) w) := by
  cases h : chk a b != 0
  · have hz := Lib.hid (show chk a b = 0 by simpa using h)
    by_cases hg : a ≤ v
    all_goals
      go_enter Try.func33, Try.ntmps33
      go_wp2_with fail; refine (check_any _ _ _).mono ?_; rintro e w2 ⟨rfl, hb⟩
      have A : Blk w2 (w.heap.size) #[.int .i64 a, .int .i64 b] 23 := (by (repeat (first | (with_reducible assumption) | ((with_reducible apply Blk.new_at); focus (first | (simp; done) | (simp; omega))) | with_reducible apply Blk.alloc | with_reducible apply Blk.drew | with_reducible apply Blk.drewN | with_reducible apply Blk.set | ((with_reducible apply Blk.far); case hp => (first | (simp; done) | (dsimp only; omega))) | ((with_reducible apply Blk.ext); case he => with_reducible assumption)))); obtain ⟨A1, A2, A3, A4⟩ := A.c2; have A5 := A.lt
      go_wp2_with fail
      go_ret2
      refine mkBE _ _ _ ?_ hz.out ?_
      · rw [Bool.eq_iff_iff]; simp [containsB, hz.out] <;> omega
      · (repeat (first | (with_reducible assumption) | with_reducible exact Ext.refl _ | with_reducible apply Ext.alloc | with_reducible apply Ext.drew | with_reducible apply Ext.drewN | ((with_reducible apply Ext.set); case hp => (first | (simp; done) | (dsimp only; omega) | omega)) | ((with_reducible apply Ext.trans); case k => with_reducible assumption)))
  · have hz := Lib.hid (show ¬ chk a b = 0 by simpa using h)
    go_enter Try.func33, Try.ntmps33
    go_wp2_with fail; refine (check_any _ _ _).mono ?_; rintro e w2 ⟨rfl, hb⟩
    go_wp2_with fail
    go_ret2
    refine mkBE _ _ _ ?_ rfl ?_
    · simp [containsB, hz.out]
    · (repeat (first | (with_reducible assumption) | with_reducible exact Ext.refl _ | with_reducible apply Ext.alloc | with_reducible apply Ext.drew | with_reducible apply Ext.drewN | ((with_reducible apply Ext.set); case hp => (first | (simp; done) | (dsimp only; omega) | omega)) | ((with_reducible apply Ext.trans); case k => with_reducible assumption)))
end Go.Proofs.Ytdcedfciaaooiaa
