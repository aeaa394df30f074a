/- The law DimensionJoins returns true at every input: the walk. -/
import Derived.Test.YtdcedfciaaooiaaF17
set_option linter.unusedVariables false
namespace Go.Proofs.Ytdcedfciaaooiaa
open Go.RowKit

set_option maxRecDepth 20000 in
set_option maxHeartbeats 8000000 in
theorem law_joins (a b : Dim) (ha : a.fits) (hb : b.fits) (w : World) : Calls Try.prog 5 #[.agg #[.string a.frm, .string a.to, .int .i64 a.axis, .int .i64 a.lo, .int .i64 a.hi], .agg #[.string b.frm, .string b.to, .int .i64 b.axis, .int .i64 b.lo, .int .i64 b.hi]] w (Ret (.bool true) w) := by
  obtain ⟨r, hr⟩ : ∃ r, revD a = r := ⟨_, rfl⟩
  obtain ⟨j, hj⟩ : ∃ j, joinD a b = j := ⟨_, rfl⟩
  have R1 := fun w => reverse_any a w ha
  have R2 := fun w => rreverse_any a w ha
  have J1 := fun w => join_any a b w ha hb
  have J2 := fun w => rjoin_any a b w ha hb
  simp only [hr, hj] at R1 R2 J1 J2
  have HR1 := Lib.hid R1
  have HR2 := Lib.hid R2
  have HJ1 := Lib.hid J1
  have HJ2 := Lib.hid J2
  clear R1 R2 J1 J2 hr hj
  go_enter Try.func5, Try.ntmps5
  go_wp2_with fail
  refine (few17_any _ _ _ [a, b] _ (Dims.two (t := 40) (by (repeat (first | (with_reducible assumption) | ((with_reducible apply Blk.new_at); focus (first | (simp; done) | (simp; omega))) | with_reducible apply Blk.alloc | with_reducible apply Blk.drew | with_reducible apply Blk.drewN | with_reducible apply Blk.set | ((with_reducible apply Blk.far); case hp => (first | (simp; done) | (dsimp only; omega))) | ((with_reducible apply Blk.ext); case he => with_reducible assumption)))) ha hb)).mono ?_
  rintro e w1 ⟨x, rfl, h1⟩
  cases x
  · go_wp2_with fail
    refine (awake17_any _).mono ?_
    rintro e w2 ⟨rfl, e2⟩
    go_wp2_with fail
    go_ret
    exact Ret.bool rfl (by (repeat (first | (with_reducible assumption) | with_reducible exact Ext.refl _ | with_reducible apply Ext.alloc | with_reducible apply Ext.drew | with_reducible apply Ext.drewN | ((with_reducible apply Ext.set); case hp => (first | (simp; done) | (dsimp only; omega) | omega)) | ((with_reducible apply Ext.trans); case k => with_reducible assumption))))
  · have A1 : Blk w1 (w.heap.size) #[.string a.frm, .string a.to, .int .i64 a.axis, .int .i64 a.lo, .int .i64 a.hi] 40 := (by (repeat (first | (with_reducible assumption) | ((with_reducible apply Blk.new_at); focus (first | (simp; done) | (simp; omega))) | with_reducible apply Blk.alloc | with_reducible apply Blk.drew | with_reducible apply Blk.drewN | with_reducible apply Blk.set | ((with_reducible apply Blk.far); case hp => (first | (simp; done) | (dsimp only; omega))) | ((with_reducible apply Blk.ext); case he => with_reducible assumption)))); obtain ⟨⟨A11, A12, A13, A14, A15⟩, A16, A17, A18, A19, A110⟩ := A1.c5; have A1lt := A1.lt
    go_wp2_with fail; refine (HR1.out _).mono ?_; rintro e w2 ⟨rfl, h2⟩
    have A2 : Blk w2 (w.heap.size) #[.string a.frm, .string a.to, .int .i64 a.axis, .int .i64 a.lo, .int .i64 a.hi] 40 := (by (repeat (first | (with_reducible assumption) | ((with_reducible apply Blk.new_at); focus (first | (simp; done) | (simp; omega))) | with_reducible apply Blk.alloc | with_reducible apply Blk.drew | with_reducible apply Blk.drewN | with_reducible apply Blk.set | ((with_reducible apply Blk.far); case hp => (first | (simp; done) | (dsimp only; omega))) | ((with_reducible apply Blk.ext); case he => with_reducible assumption)))); obtain ⟨⟨A21, A22, A23, A24, A25⟩, A26, A27, A28, A29, A210⟩ := A2.c5; have A2lt := A2.lt
    go_wp2_with fail; refine (HR2.out _).mono ?_; rintro e w3 ⟨rfl, h3⟩
    have A3 : Blk w3 (w.heap.size) #[.string a.frm, .string a.to, .int .i64 a.axis, .int .i64 a.lo, .int .i64 a.hi] 40 := (by (repeat (first | (with_reducible assumption) | ((with_reducible apply Blk.new_at); focus (first | (simp; done) | (simp; omega))) | with_reducible apply Blk.alloc | with_reducible apply Blk.drew | with_reducible apply Blk.drewN | with_reducible apply Blk.set | ((with_reducible apply Blk.far); case hp => (first | (simp; done) | (dsimp only; omega))) | ((with_reducible apply Blk.ext); case he => with_reducible assumption)))); obtain ⟨⟨A31, A32, A33, A34, A35⟩, A36, A37, A38, A39, A310⟩ := A3.c5; have A3lt := A3.lt
    have B3 : Blk w3 (w.heap.size + 1) #[.string b.frm, .string b.to, .int .i64 b.axis, .int .i64 b.lo, .int .i64 b.hi] 40 := (by (repeat (first | (with_reducible assumption) | ((with_reducible apply Blk.new_at); focus (first | (simp; done) | (simp; omega))) | with_reducible apply Blk.alloc | with_reducible apply Blk.drew | with_reducible apply Blk.drewN | with_reducible apply Blk.set | ((with_reducible apply Blk.far); case hp => (first | (simp; done) | (dsimp only; omega))) | ((with_reducible apply Blk.ext); case he => with_reducible assumption)))); obtain ⟨⟨B31, B32, B33, B34, B35⟩, B36, B37, B38, B39, B310⟩ := B3.c5; have B3lt := B3.lt
    go_wp2_with fail; refine (HJ1.out _).mono ?_; rintro e w4 ⟨rfl, h4⟩
    have A4 : Blk w4 (w.heap.size) #[.string a.frm, .string a.to, .int .i64 a.axis, .int .i64 a.lo, .int .i64 a.hi] 40 := (by (repeat (first | (with_reducible assumption) | ((with_reducible apply Blk.new_at); focus (first | (simp; done) | (simp; omega))) | with_reducible apply Blk.alloc | with_reducible apply Blk.drew | with_reducible apply Blk.drewN | with_reducible apply Blk.set | ((with_reducible apply Blk.far); case hp => (first | (simp; done) | (dsimp only; omega))) | ((with_reducible apply Blk.ext); case he => with_reducible assumption)))); obtain ⟨⟨A41, A42, A43, A44, A45⟩, A46, A47, A48, A49, A410⟩ := A4.c5; have A4lt := A4.lt
    have B4 : Blk w4 (w.heap.size + 1) #[.string b.frm, .string b.to, .int .i64 b.axis, .int .i64 b.lo, .int .i64 b.hi] 40 := (by (repeat (first | (with_reducible assumption) | ((with_reducible apply Blk.new_at); focus (first | (simp; done) | (simp; omega))) | with_reducible apply Blk.alloc | with_reducible apply Blk.drew | with_reducible apply Blk.drewN | with_reducible apply Blk.set | ((with_reducible apply Blk.far); case hp => (first | (simp; done) | (dsimp only; omega))) | ((with_reducible apply Blk.ext); case he => with_reducible assumption)))); obtain ⟨⟨B41, B42, B43, B44, B45⟩, B46, B47, B48, B49, B410⟩ := B4.c5; have B4lt := B4.lt
    go_wp2_with fail; refine (HJ2.out _).mono ?_; rintro e w5 ⟨rfl, h5⟩
    have hs1 : w.heap.size ≤ w1.heap.size := by have := A1.lt; omega
    go_wp2_with fail
    go_region_held3 (fun W => (W.cell? ⟨w.heap.size, 0, none⟩ = some (.string a.frm) ∧ W.cell? ⟨w.heap.size, 1, none⟩ = some (.string a.to) ∧ W.cell? ⟨w.heap.size, 2, none⟩ = some (.int .i64 a.axis) ∧ W.cell? ⟨w.heap.size, 3, none⟩ = some (.int .i64 a.lo) ∧ W.cell? ⟨w.heap.size, 4, none⟩ = some (.int .i64 a.hi)) ∧
        (W.cell? ⟨w2.heap.size, 0, none⟩ = some (.string r.frm) ∧ W.cell? ⟨w2.heap.size, 1, none⟩ = some (.string r.to) ∧ W.cell? ⟨w2.heap.size, 2, none⟩ = some (.int .i64 r.axis) ∧ W.cell? ⟨w2.heap.size, 3, none⟩ = some (.int .i64 r.lo) ∧ W.cell? ⟨w2.heap.size, 4, none⟩ = some (.int .i64 r.hi)) ∧
        (W.cell? ⟨w3.heap.size, 0, none⟩ = some (.string r.frm) ∧ W.cell? ⟨w3.heap.size, 1, none⟩ = some (.string r.to) ∧ W.cell? ⟨w3.heap.size, 2, none⟩ = some (.int .i64 r.axis) ∧ W.cell? ⟨w3.heap.size, 3, none⟩ = some (.int .i64 r.lo) ∧ W.cell? ⟨w3.heap.size, 4, none⟩ = some (.int .i64 r.hi)) ∧
        (W.cell? ⟨w4.heap.size, 0, none⟩ = some (.string j.frm) ∧ W.cell? ⟨w4.heap.size, 1, none⟩ = some (.string j.to) ∧ W.cell? ⟨w4.heap.size, 2, none⟩ = some (.int .i64 j.axis) ∧ W.cell? ⟨w4.heap.size, 3, none⟩ = some (.int .i64 j.lo) ∧ W.cell? ⟨w4.heap.size, 4, none⟩ = some (.int .i64 j.hi)) ∧
        (W.cell? ⟨w5.heap.size, 0, none⟩ = some (.string j.frm) ∧ W.cell? ⟨w5.heap.size, 1, none⟩ = some (.string j.to) ∧ W.cell? ⟨w5.heap.size, 2, none⟩ = some (.int .i64 j.axis) ∧ W.cell? ⟨w5.heap.size, 3, none⟩ = some (.int .i64 j.lo) ∧ W.cell? ⟨w5.heap.size, 4, none⟩ = some (.int .i64 j.hi)))
      (exact ⟨Blk.r5 (t := 40) (by (repeat (first | (with_reducible assumption) | ((with_reducible apply Blk.new_at); focus (first | (simp; done) | (simp; omega))) | with_reducible apply Blk.alloc | with_reducible apply Blk.drew | with_reducible apply Blk.drewN | with_reducible apply Blk.set | ((with_reducible apply Blk.far); case hp => (first | (simp; done) | (dsimp only; omega))) | ((with_reducible apply Blk.ext); case he => with_reducible assumption)))), Blk.r5 (t := 40) (by (repeat (first | (with_reducible assumption) | ((with_reducible apply Blk.new_at); focus (first | (simp; done) | (simp; omega))) | with_reducible apply Blk.alloc | with_reducible apply Blk.drew | with_reducible apply Blk.drewN | with_reducible apply Blk.set | ((with_reducible apply Blk.far); case hp => (first | (simp; done) | (dsimp only; omega))) | ((with_reducible apply Blk.ext); case he => with_reducible assumption)))), Blk.r5 (t := 40) (by (repeat (first | (with_reducible assumption) | ((with_reducible apply Blk.new_at); focus (first | (simp; done) | (simp; omega))) | with_reducible apply Blk.alloc | with_reducible apply Blk.drew | with_reducible apply Blk.drewN | with_reducible apply Blk.set | ((with_reducible apply Blk.far); case hp => (first | (simp; done) | (dsimp only; omega))) | ((with_reducible apply Blk.ext); case he => with_reducible assumption)))), Blk.r5 (t := 40) (by (repeat (first | (with_reducible assumption) | ((with_reducible apply Blk.new_at); focus (first | (simp; done) | (simp; omega))) | with_reducible apply Blk.alloc | with_reducible apply Blk.drew | with_reducible apply Blk.drewN | with_reducible apply Blk.set | ((with_reducible apply Blk.far); case hp => (first | (simp; done) | (dsimp only; omega))) | ((with_reducible apply Blk.ext); case he => with_reducible assumption)))), Blk.r5 (t := 40) (by (repeat (first | (with_reducible assumption) | ((with_reducible apply Blk.new_at); focus (first | (simp; done) | (simp; omega))) | with_reducible apply Blk.alloc | with_reducible apply Blk.drew | with_reducible apply Blk.drewN | with_reducible apply Blk.set | ((with_reducible apply Blk.far); case hp => (first | (simp; done) | (dsimp only; omega))) | ((with_reducible apply Blk.ext); case he => with_reducible assumption))))⟩)
      (first
        | (go_at_call 15; refine (awake17_any _).mono ?_; rintro e w6 ⟨rfl, h6⟩)
        | (go_at_call 31; refine (valid_any _ _ ha).mono ?_; rintro e w7 ⟨rfl, h7⟩)
        | (go_at_call 32; refine (rvalid_any _ _ ha).mono ?_; rintro e w8 ⟨rfl, h8⟩))
    all_goals
      go_wp2_with fail
      go_ret
      exact Ret.bool (by first | rfl | (simp; done)) (by (repeat (first | (with_reducible assumption) | with_reducible exact Ext.refl _ | with_reducible apply Ext.alloc | with_reducible apply Ext.drew | with_reducible apply Ext.drewN | ((with_reducible apply Ext.set); case hp => (first | (simp; done) | (dsimp only; omega) | omega)) | ((with_reducible apply Ext.trans); case k => with_reducible assumption))))
end Go.Proofs.Ytdcedfciaaooiaa
