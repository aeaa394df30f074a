/- The law TopFitsLetters returns true at every input: the walk. -/
import Derived.Test.YtdcedfciaaooiaaK15
set_option linter.unusedVariables false
namespace Go.Proofs.Ytdcedfciaaooiaa
open Go.RowKit

def rfitE (n hg k sg : Int) : Int :=
  if sizeE n ≠ 0 then sizeE n else if classE 4 hg ≠ 0 then classE 4 hg else if classE k sg ≠ 0 then classE k sg else if limI n true 4 hg ≠ 0 then limI n true 4 hg else limI n false k sg
theorem rfitE_zero {n hg k sg : Int} (h : rfitE n hg k sg = 0) : sizeE n = 0 ∧ classE 4 hg = 0 ∧ classE k sg = 0 ∧ limI n true 4 hg = 0 ∧ limI n false k sg = 0 := by
  unfold rfitE at h
  split at h
  · contradiction
  · split at h
    · contradiction
    · split at h
      · contradiction
      · split at h
        · contradiction
        · refine ⟨?_, ?_, ?_, ?_, h⟩ <;> (apply Decidable.not_not.1; assumption)

set_option maxRecDepth 20000 in
set_option maxHeartbeats 4000000 in
theorem rfit_any (n hg k sg : Int) (w : World) : Calls Try.prog 77 #[.agg #[.int .i64 n, .bool true, .int .i64 4, .int .i64 hg, .bool false, .int .i64 k, .int .i64 sg]] w (Ret (.int .i64 (rfitE n hg k sg)) w) := by
  have HR : Hid (rfitE n hg k sg = if sizeE n ≠ 0 then sizeE n else if classE 4 hg ≠ 0 then classE 4 hg else if classE k sg ≠ 0 then classE k sg else if limI n true 4 hg ≠ 0 then limI n true 4 hg else limI n false k sg) := Lib.hid rfl
  have HL1 := Lib.hid (rlim_any n true 4 hg)
  have HL2 := Lib.hid (rlim_any n false k sg)
  have HS := Lib.hid (rsize_any n)
  have HC1 := Lib.hid (rcheck15_any true 4 hg)
  have HC2 := Lib.hid (rcheck15_any false k sg)
  generalize limI n true 4 hg = l1 at *
  generalize limI n false k sg = l2 at *
  generalize sizeE n = e0 at *
  generalize classE 4 hg = e1 at *
  generalize classE k sg = e2 at *
  generalize rfitE n hg k sg = R at *
  cases q0 : e0 != 0
  case true =>
    have HQ : Hid (R = e0) := Lib.hid (by rw [HR.out, if_pos (by simpa using q0)])
    go_enter Try.func77, Try.ntmps77
    go_wp2_with fail
    refine (HS.out _).mono ?_
    rintro e w1 ⟨rfl, rfl⟩
    go_wp2_with fail
    go_ret
    exact Ret.int HQ.out.symm (by (repeat (first | (with_reducible assumption) | with_reducible exact Ext.refl _ | with_reducible apply Ext.alloc | with_reducible apply Ext.drew | with_reducible apply Ext.drewN | ((with_reducible apply Ext.set); case hp => (first | (simp; done) | (dsimp only; omega) | omega)) | ((with_reducible apply Ext.trans); case k => with_reducible assumption))))
  case false =>
  obtain rfl : e0 = 0 := by simpa using q0
  clear q0
  cases q1 : e1 != 0
  case true =>
    have HQ : Hid (R = e1) := Lib.hid (by rw [HR.out, if_neg (by simp), if_pos (by simpa using q1)])
    go_enter Try.func77, Try.ntmps77
    go_wp2_with fail
    refine (HS.out _).mono ?_
    rintro e w1 ⟨rfl, rfl⟩
    go_wp2_with fail; refine (HC1.out _).mono ?_; rintro e w2 ⟨rfl, h2⟩
    go_wp2_with fail
    go_ret
    exact Ret.int HQ.out.symm (by (repeat (first | (with_reducible assumption) | with_reducible exact Ext.refl _ | with_reducible apply Ext.alloc | with_reducible apply Ext.drew | with_reducible apply Ext.drewN | ((with_reducible apply Ext.set); case hp => (first | (simp; done) | (dsimp only; omega) | omega)) | ((with_reducible apply Ext.trans); case k => with_reducible assumption))))
  case false =>
  obtain rfl : e1 = 0 := by simpa using q1
  clear q1
  cases q2 : e2 != 0
  case true =>
    have HQ : Hid (R = e2) := Lib.hid (by rw [HR.out, if_neg (by simp), if_neg (by simp), if_pos (by simpa using q2)])
    go_enter Try.func77, Try.ntmps77
    go_wp2_with fail
    refine (HS.out _).mono ?_
    rintro e w1 ⟨rfl, rfl⟩
    go_wp2_with fail; refine (HC1.out _).mono ?_; rintro e w2 ⟨rfl, h2⟩
    have hF2 : Blk w2 w.heap.size #[.int .i64 n, .bool true, .int .i64 4, .int .i64 hg, .bool false, .int .i64 k, .int .i64 sg] 125 := by (repeat (first | (with_reducible assumption) | ((with_reducible apply Blk.new_at); focus (first | (simp; done) | (simp; omega))) | with_reducible apply Blk.alloc | with_reducible apply Blk.drew | with_reducible apply Blk.drewN | with_reducible apply Blk.set | ((with_reducible apply Blk.far); case hp => (first | (simp; done) | (dsimp only; omega))) | ((with_reducible apply Blk.ext); case he => with_reducible assumption)))
    have a0 := hF2.cell 0
    have a1 := hF2.cell 1
    have a2 := hF2.cell 2
    have a3 := hF2.cell 3
    have a4 := hF2.cell 4
    have a5 := hF2.cell 5
    have a6 := hF2.cell 6
    simp at a0 a1 a2 a3 a4 a5 a6
    go_wp2_with fail; refine (HC2.out _).mono ?_; rintro e w3 ⟨rfl, h3⟩
    go_wp2_with fail
    go_ret
    exact Ret.int HQ.out.symm (by (repeat (first | (with_reducible assumption) | with_reducible exact Ext.refl _ | with_reducible apply Ext.alloc | with_reducible apply Ext.drew | with_reducible apply Ext.drewN | ((with_reducible apply Ext.set); case hp => (first | (simp; done) | (dsimp only; omega) | omega)) | ((with_reducible apply Ext.trans); case k => with_reducible assumption))))
  case false =>
  obtain rfl : e2 = 0 := by simpa using q2
  clear q2
  cases q3 : l1 != 0
  case true =>
    have HQ : Hid (R = l1) := Lib.hid (by rw [HR.out, if_neg (by simp), if_neg (by simp), if_neg (by simp), if_pos (by simpa using q3)])
    go_enter Try.func77, Try.ntmps77
    go_wp2_with fail
    refine (HS.out _).mono ?_
    rintro e w1 ⟨rfl, rfl⟩
    go_wp2_with fail; refine (HC1.out _).mono ?_; rintro e w2 ⟨rfl, h2⟩
    have hF2 : Blk w2 w.heap.size #[.int .i64 n, .bool true, .int .i64 4, .int .i64 hg, .bool false, .int .i64 k, .int .i64 sg] 125 := by (repeat (first | (with_reducible assumption) | ((with_reducible apply Blk.new_at); focus (first | (simp; done) | (simp; omega))) | with_reducible apply Blk.alloc | with_reducible apply Blk.drew | with_reducible apply Blk.drewN | with_reducible apply Blk.set | ((with_reducible apply Blk.far); case hp => (first | (simp; done) | (dsimp only; omega))) | ((with_reducible apply Blk.ext); case he => with_reducible assumption)))
    have a0 := hF2.cell 0
    have a1 := hF2.cell 1
    have a2 := hF2.cell 2
    have a3 := hF2.cell 3
    have a4 := hF2.cell 4
    have a5 := hF2.cell 5
    have a6 := hF2.cell 6
    simp at a0 a1 a2 a3 a4 a5 a6
    go_wp2_with fail; refine (HC2.out _).mono ?_; rintro e w3 ⟨rfl, h3⟩
    have hF3 : Blk w3 w.heap.size #[.int .i64 n, .bool true, .int .i64 4, .int .i64 hg, .bool false, .int .i64 k, .int .i64 sg] 125 := by (repeat (first | (with_reducible assumption) | ((with_reducible apply Blk.new_at); focus (first | (simp; done) | (simp; omega))) | with_reducible apply Blk.alloc | with_reducible apply Blk.drew | with_reducible apply Blk.drewN | with_reducible apply Blk.set | ((with_reducible apply Blk.far); case hp => (first | (simp; done) | (dsimp only; omega))) | ((with_reducible apply Blk.ext); case he => with_reducible assumption)))
    have b0 := hF3.cell 0
    have b1 := hF3.cell 1
    have b2 := hF3.cell 2
    have b3 := hF3.cell 3
    have b4 := hF3.cell 4
    have b5 := hF3.cell 5
    have b6 := hF3.cell 6
    simp at b0 b1 b2 b3 b4 b5 b6
    go_wp2_with fail
    refine (HL1.out _).mono ?_
    rintro e w4 ⟨x1, y1, rfl, h4⟩
    go_wp2_with fail
    go_ret
    exact Ret.int HQ.out.symm (by (repeat (first | (with_reducible assumption) | with_reducible exact Ext.refl _ | with_reducible apply Ext.alloc | with_reducible apply Ext.drew | with_reducible apply Ext.drewN | ((with_reducible apply Ext.set); case hp => (first | (simp; done) | (dsimp only; omega) | omega)) | ((with_reducible apply Ext.trans); case k => with_reducible assumption))))
  case false =>
  obtain rfl : l1 = 0 := by simpa using q3
  clear q3
  have HQ : Hid (R = l2) := Lib.hid (by rw [HR.out, if_neg (by simp), if_neg (by simp), if_neg (by simp), if_neg (by simp)])
  go_enter Try.func77, Try.ntmps77
  go_wp2_with fail
  refine (HS.out _).mono ?_
  rintro e w1 ⟨rfl, rfl⟩
  go_wp2_with fail; refine (HC1.out _).mono ?_; rintro e w2 ⟨rfl, h2⟩
  have hF2 : Blk w2 w.heap.size #[.int .i64 n, .bool true, .int .i64 4, .int .i64 hg, .bool false, .int .i64 k, .int .i64 sg] 125 := by (repeat (first | (with_reducible assumption) | ((with_reducible apply Blk.new_at); focus (first | (simp; done) | (simp; omega))) | with_reducible apply Blk.alloc | with_reducible apply Blk.drew | with_reducible apply Blk.drewN | with_reducible apply Blk.set | ((with_reducible apply Blk.far); case hp => (first | (simp; done) | (dsimp only; omega))) | ((with_reducible apply Blk.ext); case he => with_reducible assumption)))
  have a0 := hF2.cell 0
  have a1 := hF2.cell 1
  have a2 := hF2.cell 2
  have a3 := hF2.cell 3
  have a4 := hF2.cell 4
  have a5 := hF2.cell 5
  have a6 := hF2.cell 6
  simp at a0 a1 a2 a3 a4 a5 a6
  go_wp2_with fail; refine (HC2.out _).mono ?_; rintro e w3 ⟨rfl, h3⟩
  have hF3 : Blk w3 w.heap.size #[.int .i64 n, .bool true, .int .i64 4, .int .i64 hg, .bool false, .int .i64 k, .int .i64 sg] 125 := by (repeat (first | (with_reducible assumption) | ((with_reducible apply Blk.new_at); focus (first | (simp; done) | (simp; omega))) | with_reducible apply Blk.alloc | with_reducible apply Blk.drew | with_reducible apply Blk.drewN | with_reducible apply Blk.set | ((with_reducible apply Blk.far); case hp => (first | (simp; done) | (dsimp only; omega))) | ((with_reducible apply Blk.ext); case he => with_reducible assumption)))
  have b0 := hF3.cell 0
  have b1 := hF3.cell 1
  have b2 := hF3.cell 2
  have b3 := hF3.cell 3
  have b4 := hF3.cell 4
  have b5 := hF3.cell 5
  have b6 := hF3.cell 6
  simp at b0 b1 b2 b3 b4 b5 b6
  go_wp2_with fail
  refine (HL1.out _).mono ?_
  rintro e w4 ⟨x1, y1, rfl, h4⟩
  have hF4 : Blk w4 w.heap.size #[.int .i64 n, .bool true, .int .i64 4, .int .i64 hg, .bool false, .int .i64 k, .int .i64 sg] 125 := by (repeat (first | (with_reducible assumption) | ((with_reducible apply Blk.new_at); focus (first | (simp; done) | (simp; omega))) | with_reducible apply Blk.alloc | with_reducible apply Blk.drew | with_reducible apply Blk.drewN | with_reducible apply Blk.set | ((with_reducible apply Blk.far); case hp => (first | (simp; done) | (dsimp only; omega))) | ((with_reducible apply Blk.ext); case he => with_reducible assumption)))
  have c0 := hF4.cell 0
  have c1 := hF4.cell 1
  have c2 := hF4.cell 2
  have c3 := hF4.cell 3
  have c4 := hF4.cell 4
  have c5 := hF4.cell 5
  have c6 := hF4.cell 6
  simp at c0 c1 c2 c3 c4 c5 c6
  have hFl := hF4.lt
  go_wp2_with fail
  refine (HL2.out _).mono ?_
  rintro e w5 ⟨x2, y2, rfl, h5⟩
  go_wp2_with fail
  go_ret
  exact Ret.int HQ.out.symm (by (repeat (first | (with_reducible assumption) | with_reducible exact Ext.refl _ | with_reducible apply Ext.alloc | with_reducible apply Ext.drew | with_reducible apply Ext.drewN | ((with_reducible apply Ext.set); case hp => (first | (simp; done) | (dsimp only; omega) | omega)) | ((with_reducible apply Ext.trans); case k => with_reducible assumption))))

theorem szR16 : (Try.prog.info? 125).map (·.size) = some 7 := by kernel_rfl
theorem szF16 : (Try.prog.info? 71).map (·.size) = some 7 := by kernel_rfl
set_option maxRecDepth 20000 in
theorem ref_any (n k hg sg : Int) (w : World) : Calls Try.prog 78 #[.agg #[.int .i64 n, .int .i64 k, .int .i64 hg, .int .i64 sg]] w (Ret (.agg #[.int .i64 n, .bool true, .int .i64 4, .int .i64 hg, .bool false, .int .i64 k, .int .i64 sg]) w) := by
  go_enter Try.func78, Try.ntmps78
  go_wp2_with fail
  refine end_c rfl rfl _ _ _ _ rfl (by (apply Blk.is; (case h => (repeat (first | (with_reducible assumption) | ((with_reducible apply Blk.new_at); focus (first | (simp; done) | (simp; omega))) | with_reducible apply Blk.alloc | with_reducible apply Blk.drew | with_reducible apply Blk.drewN | with_reducible apply Blk.set | ((with_reducible apply Blk.far); case hp => (first | (simp; done) | (dsimp only; omega))) | ((with_reducible apply Blk.ext); case he => with_reducible assumption)))); all_goals rfl)) Try.underlying125 rfl (by exact szR16) ?_
  exact Ret.mk' rfl (by (repeat (first | (with_reducible assumption) | with_reducible exact Ext.refl _ | with_reducible apply Ext.alloc | with_reducible apply Ext.drew | with_reducible apply Ext.drewN | ((with_reducible apply Ext.set); case hp => (first | (simp; done) | (dsimp only; omega) | omega)) | ((with_reducible apply Ext.trans); case k => with_reducible assumption))))
set_option maxRecDepth 20000 in
theorem fit_any (n k hg sg : Int) (w : World) : Calls Try.prog 42 #[.agg #[.int .i64 n, .int .i64 k, .int .i64 hg, .int .i64 sg]] w (Ret (.agg #[.int .i64 n, .bool true, .int .i64 4, .int .i64 hg, .bool false, .int .i64 k, .int .i64 sg]) w) := by
  go_enter Try.func42, Try.ntmps42
  go_wp2_with fail
  refine end_c rfl rfl _ _ _ _ rfl (by (apply Blk.is; (case h => (repeat (first | (with_reducible assumption) | ((with_reducible apply Blk.new_at); focus (first | (simp; done) | (simp; omega))) | with_reducible apply Blk.alloc | with_reducible apply Blk.drew | with_reducible apply Blk.drewN | with_reducible apply Blk.set | ((with_reducible apply Blk.far); case hp => (first | (simp; done) | (dsimp only; omega))) | ((with_reducible apply Blk.ext); case he => with_reducible assumption)))); all_goals rfl)) Try.underlying71 rfl (by exact szF16) ?_
  exact Ret.mk' rfl (by (repeat (first | (with_reducible assumption) | with_reducible exact Ext.refl _ | with_reducible apply Ext.alloc | with_reducible apply Ext.drew | with_reducible apply Ext.drewN | ((with_reducible apply Ext.set); case hp => (first | (simp; done) | (dsimp only; omega) | omega)) | ((with_reducible apply Ext.trans); case k => with_reducible assumption))))
set_option maxRecDepth 20000 in
theorem runRight_any (n k hg sg : Int) (w : World) : Calls Try.prog 39 #[.agg #[.int .i64 n, .int .i64 k, .int .i64 hg, .int .i64 sg]] w (Ret (.bool (rfitE n hg k sg == 0)) w) := by
  have HR := Lib.hid (rfit_any n hg k sg)
  go_enter Try.func39, Try.ntmps39
  go_wp2_with fail; refine (ref_any n k hg sg _).mono ?_; rintro e w1 ⟨rfl, h1⟩
  go_wp2_with fail; refine (HR.out _).mono ?_; rintro e w2 ⟨rfl, h2⟩
  go_wp2_with fail
  go_ret
  exact Ret.bool (by first | rfl | simp) (by (repeat (first | (with_reducible assumption) | with_reducible exact Ext.refl _ | with_reducible apply Ext.alloc | with_reducible apply Ext.drew | with_reducible apply Ext.drewN | ((with_reducible apply Ext.set); case hp => (first | (simp; done) | (dsimp only; omega) | omega)) | ((with_reducible apply Ext.trans); case k => with_reducible assumption))))
end Go.Proofs.Ytdcedfciaaooiaa
