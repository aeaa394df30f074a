/- The examples of chapter 17: awake returns true. -/
import Derived.Test.YtdcedfciaaooiaaR2
set_option linter.unusedVariables false
namespace Go.Proofs.Ytdcedfciaaooiaa
open Go.RowKit

theorem limits62_any (a b : Int) (w : World) : Calls Try.prog 62 #[.int .i64 a, .int .i64 b] w fun e w' => e = .returned (.agg #[.int .i64 a, .int .i64 b]) ∧ w.alloc (.cells #[.int .i64 a, .int .i64 b] 23) = w' := by
  go_enter Try.func62, Try.ntmps62
  go_wp2
  refine end_c rfl rfl _ _ _ _ rfl (by (repeat (first | (with_reducible assumption) | ((with_reducible apply Blk.new_at); focus (first | (simp; done) | (simp; omega))) | with_reducible apply Blk.alloc | with_reducible apply Blk.drew | with_reducible apply Blk.drewN | with_reducible apply Blk.set | ((with_reducible apply Blk.far); case hp => (first | (simp; done) | (dsimp only; omega))) | ((with_reducible apply Blk.ext); case he => with_reducible assumption)))) Try.underlying23 rfl (by exact szL) ?_
  exact ⟨rfl, rfl⟩

theorem aw_of (w : World) : Calls Try.prog 16 #[.int .i64 10000, .int .i64 (-50), .int .i64 20] w (Ret (.tuple #[.agg #[.int .i64 9950, .int .i64 10020], .int .i64 0]) w) := by
  have h := of_any 10000 (-50) 20 w
  rw [show (ofL 10000 (-50) 20) = ⟨9950, 10020⟩ from by simp [ofL, inR, madeL, chk], show ofE 10000 (-50) 20 = 0 from by simp [ofE, inR, chk]] at h
  exact h
theorem aw_m1 : meetL 9950 10020 10010 10100 = ⟨10010, 10020⟩ := by
  have h : bothE 9950 10020 10010 10100 = 0 ∧ max (9950 : Int) 10010 ≤ min 10020 10100 := ⟨by simp [bothE, firstE, chk, inR], by decide⟩
  unfold meetL
  rw [if_pos h]
  rfl
theorem aw_m2 : meetL 9950 10020 10030 10100 = ⟨0, 0⟩ := by
  have h : ¬ (bothE 9950 10020 10030 10100 = 0 ∧ max (9950 : Int) 10030 ≤ min 10020 10100) := fun h => absurd h.2 (by decide)
  unfold meetL
  rw [if_neg h]
theorem aw_meet1 (w : World) : Calls Try.prog 22 #[.agg #[.int .i64 9950, .int .i64 10020], .agg #[.int .i64 10010, .int .i64 10100]] w (Ret (.tuple #[.agg #[.int .i64 10010, .int .i64 10020], .int .i64 0]) w) := by
  have h := meet_any 9950 10020 10010 10100 w
  rw [show (meetL 9950 10020 10010 10100) = ⟨10010, 10020⟩ from aw_m1, show meetE 9950 10020 10010 10100 = 0 from by simp [meetE, inR, bothE, firstE, chk]; decide] at h
  exact h
theorem aw_meet2 (w : World) : Calls Try.prog 22 #[.agg #[.int .i64 9950, .int .i64 10020], .agg #[.int .i64 10030, .int .i64 10100]] w (Ret (.tuple #[.agg #[.int .i64 0, .int .i64 0], .int .i64 16]) w) := by
  have h := meet_any 9950 10020 10030 10100 w
  rw [show (meetL 9950 10020 10030 10100) = ⟨0, 0⟩ from aw_m2, show meetE 9950 10020 10030 10100 = 16 from by simp [meetE, inR, bothE, firstE, chk]; decide] at h
  exact h
theorem nameE_A : nameE ⟨#[65]⟩ = 0 := by decide
theorem nameE_B : nameE ⟨#[66]⟩ = 0 := by decide
theorem nameE_C : nameE ⟨#[67]⟩ = 0 := by decide
theorem sAB : sameS ⟨#[65]⟩ ⟨#[66]⟩ = false := by rw [sameS_eq]; rfl
theorem sBC : sameS ⟨#[66]⟩ ⟨#[67]⟩ = false := by rw [sameS_eq]; rfl
theorem sAC : sameS ⟨#[65]⟩ ⟨#[67]⟩ = false := by rw [sameS_eq]; rfl
theorem sBB : sameS ⟨#[66]⟩ ⟨#[66]⟩ = true := by rw [sameS_eq]; rfl
theorem aw_v1 : validE ⟨⟨#[65]⟩, ⟨#[66]⟩, 0, 100, 110⟩ = 0 := by simp [validE, firstE, nameE_A, nameE_B, midE, sAB, chk, inR]
theorem aw_v2 : validE ⟨⟨#[66]⟩, ⟨#[67]⟩, 0, -20, 5⟩ = 0 := by simp [validE, firstE, nameE_B, nameE_C, midE, sBC, chk, inR]
theorem aw_v3 : validE ⟨⟨#[65]⟩, ⟨#[67]⟩, 0, 80, 115⟩ = 0 := by simp [validE, firstE, nameE_A, nameE_C, midE, sAC, chk, inR]
theorem aw_je : joinE ⟨⟨#[65]⟩, ⟨#[66]⟩, 0, 100, 110⟩ ⟨⟨#[66]⟩, ⟨#[67]⟩, 0, -20, 5⟩ = 0 := by simp [joinE, aw_v1, aw_v2, sBB, sAC, addE, bothE, firstE, chk, inR]
theorem aw_join (w : World) : Calls Try.prog 29 #[.agg #[.string ⟨#[65]⟩, .string ⟨#[66]⟩, .int .i64 0, .int .i64 100, .int .i64 110], .agg #[.string ⟨#[66]⟩, .string ⟨#[67]⟩, .int .i64 0, .int .i64 (-20), .int .i64 5]] w (Ret (.tuple #[.agg #[.string ⟨#[65]⟩, .string ⟨#[67]⟩, .int .i64 0, .int .i64 80, .int .i64 115], .int .i64 0]) w) := by
  have h := join_any ⟨⟨#[65]⟩, ⟨#[66]⟩, 0, 100, 110⟩ ⟨⟨#[66]⟩, ⟨#[67]⟩, 0, -20, 5⟩ w ⟨by decide, by decide⟩ ⟨by decide, by decide⟩
  rw [joinD_yes aw_je, aw_je, show addL 100 110 (-20) 5 = ⟨80, 115⟩ from by simp [addL, bothE, firstE, chk, inR, madeL]] at h
  exact h
theorem aw_rev (w : World) : Calls Try.prog 27 #[.agg #[.string ⟨#[65]⟩, .string ⟨#[67]⟩, .int .i64 0, .int .i64 80, .int .i64 115]] w (Ret (.tuple #[.agg #[.string ⟨#[67]⟩, .string ⟨#[65]⟩, .int .i64 0, .int .i64 (-115), .int .i64 (-80)], .int .i64 0]) w) := by
  have h := reverse_any ⟨⟨#[65]⟩, ⟨#[67]⟩, 0, 80, 115⟩ w ⟨by decide, by decide⟩
  rw [show revD ⟨⟨#[65]⟩, ⟨#[67]⟩, 0, 80, 115⟩ = ⟨⟨#[67]⟩, ⟨#[65]⟩, 0, -115, -80⟩ from by simp [revD, aw_v3, turnD], aw_v3] at h
  exact h
theorem aw_n1 (w : World) : Calls Try.prog 18 #[.string ⟨#[65, 49]⟩] w (Ret (.int .i64 0) w) := by
  have h := name_any ⟨#[65, 49]⟩ w (by decide)
  rwa [show nameE ⟨#[65, 49]⟩ = 0 from by decide] at h
theorem aw_n2 (w : World) : Calls Try.prog 18 #[.string ⟨#[49, 65]⟩] w (Ret (.int .i64 3) w) := by
  have h := name_any ⟨#[49, 65]⟩ w (by decide)
  rwa [show nameE ⟨#[49, 65]⟩ = 3 from by decide] at h
theorem aw_n3 (w : World) : Calls Try.prog 18 #[.string ⟨#[65, 95, 49]⟩] w (Ret (.int .i64 3) w) := by
  have h := name_any ⟨#[65, 95, 49]⟩ w (by decide)
  rwa [show nameE ⟨#[65, 95, 49]⟩ = 3 from by decide] at h

set_option maxRecDepth 20000 in
set_option maxHeartbeats 4000000 in
theorem awake17_any (w : World) : Calls Try.prog 15 #[] w (Ret (.bool true) w) := by
  go_enter Try.func15, Try.ntmps15
  go_wp2_with fail; refine (aw_of _).mono ?_; rintro e w1 ⟨rfl, h1⟩
  have hs1 := h1.size
  go_upto_region 2 with fail
  go_cut [3, 4] (fun s3 s4 wc => ∃ g, s3 = .pointer (some ⟨g, 0, none⟩) ∧ s4 = .int .i64 0 ∧ Blk wc g #[.int .i64 10010, .int .i64 10020] 23 ∧ Blk wc w1.heap.size #[.int .i64 9950, .int .i64 10020] 23 ∧ Ext w wc)
  case first =>
    go_region_held3 (fun W => W.cell? ⟨w1.heap.size, 0, none⟩ = some (.int .i64 9950) ∧ W.cell? ⟨w1.heap.size, 1, none⟩ = some (.int .i64 10020)) (exact Blk.r2 (t := 23) (by (repeat (first | (with_reducible assumption) | ((with_reducible apply Blk.new_at); focus (first | (simp; done) | (simp; omega))) | with_reducible apply Blk.alloc | with_reducible apply Blk.drew | with_reducible apply Blk.drewN | with_reducible apply Blk.set | ((with_reducible apply Blk.far); case hp => (first | (simp; done) | (dsimp only; omega))) | ((with_reducible apply Blk.ext); case he => with_reducible assumption))))) (first | (go_at_call 62; refine (limits62_any _ _ _).mono ?_; rintro e w' ⟨rfl, rfl⟩) | (go_at_call 22; refine (aw_meet1 _).mono ?_; rintro e w2 ⟨rfl, h2⟩; (try (refine (have hN1 : Blk w2 (w1.heap.size + 1) #[.int .i64 0, .int .i64 0] 23 := ?_; ?_); (focus ((repeat (first | (with_reducible assumption) | ((with_reducible apply Blk.new_at); focus (first | (simp; done) | (simp; omega))) | with_reducible apply Blk.alloc | with_reducible apply Blk.drew | with_reducible apply Blk.drewN | with_reducible apply Blk.set | ((with_reducible apply Blk.far); case hp => (first | (simp; done) | (dsimp only; omega))) | ((with_reducible apply Blk.ext); case he => with_reducible assumption))); done)); obtain ⟨n11, n12, n13, n14⟩ := hN1.c2)); (try (refine (have hN2 : Blk w2 (w1.heap.size + 1 + 1) #[.int .i64 0, .int .i64 0] 23 := ?_; ?_); (focus ((repeat (first | (with_reducible assumption) | ((with_reducible apply Blk.new_at); focus (first | (simp; done) | (simp; omega))) | with_reducible apply Blk.alloc | with_reducible apply Blk.drew | with_reducible apply Blk.drewN | with_reducible apply Blk.set | ((with_reducible apply Blk.far); case hp => (first | (simp; done) | (dsimp only; omega))) | ((with_reducible apply Blk.ext); case he => with_reducible assumption))); done)); obtain ⟨n21, n22, n23, n24⟩ := hN2.c2))))
    all_goals
      go_wp2_with fail
      go_meet
      exact ⟨_, rfl, rfl, by (apply Blk.is; (case h => (repeat (first | (with_reducible assumption) | ((with_reducible apply Blk.new_at); focus (first | (simp; done) | (simp; omega))) | with_reducible apply Blk.alloc | with_reducible apply Blk.drew | with_reducible apply Blk.drewN | with_reducible apply Blk.set | ((with_reducible apply Blk.far); case hp => (first | (simp; done) | (dsimp only; omega))) | ((with_reducible apply Blk.ext); case he => with_reducible assumption)))); all_goals rfl), by (repeat (first | (with_reducible assumption) | ((with_reducible apply Blk.new_at); focus (first | (simp; done) | (simp; omega))) | with_reducible apply Blk.alloc | with_reducible apply Blk.drew | with_reducible apply Blk.drewN | with_reducible apply Blk.set | ((with_reducible apply Blk.far); case hp => (first | (simp; done) | (dsimp only; omega))) | ((with_reducible apply Blk.ext); case he => with_reducible assumption))), by (repeat (first | (with_reducible assumption) | with_reducible exact Ext.refl _ | with_reducible apply Ext.alloc | with_reducible apply Ext.drew | with_reducible apply Ext.drewN | ((with_reducible apply Ext.set); case hp => (first | (simp; done) | (dsimp only; omega) | omega)) | ((with_reducible apply Ext.trans); case k => with_reducible assumption)))⟩
  case rest =>
    obtain ⟨g, rfl, rfl, hB, hA, hE⟩ := hcut
    have hs2 := hE.size
    have hAlt := hA.lt
    have hBlt := hB.lt
    rename_i wc
    go_upto_region 3 with fail
    go_cut [5, 6] (fun s5 s6 wd => ∃ g2, s5 = .pointer (some ⟨g2, 0, none⟩) ∧ s6 = .int .i64 16 ∧ Blk wd g #[.int .i64 10010, .int .i64 10020] 23 ∧ Blk wd w1.heap.size #[.int .i64 9950, .int .i64 10020] 23 ∧ Ext w wd)
    case first =>
      go_region_held3 (fun W => W.cell? ⟨w1.heap.size, 0, none⟩ = some (.int .i64 9950) ∧ W.cell? ⟨w1.heap.size, 1, none⟩ = some (.int .i64 10020))
        (exact Blk.r2 (t := 23) (by (repeat (first | (with_reducible assumption) | ((with_reducible apply Blk.new_at); focus (first | (simp; done) | (simp; omega))) | with_reducible apply Blk.alloc | with_reducible apply Blk.drew | with_reducible apply Blk.drewN | with_reducible apply Blk.set | ((with_reducible apply Blk.far); case hp => (first | (simp; done) | (dsimp only; omega))) | ((with_reducible apply Blk.ext); case he => with_reducible assumption)))))
        (first
          | (go_at_call 62; refine (limits62_any _ _ _).mono ?_; rintro e w' ⟨rfl, rfl⟩)
          | (go_at_call 22; refine (aw_meet2 _).mono ?_; rintro e w3 ⟨rfl, h3⟩; (try (refine (have hN1 : Blk w3 wc.heap.size #[.int .i64 0, .int .i64 0] 23 := ?_; ?_); (focus ((repeat (first | (with_reducible assumption) | ((with_reducible apply Blk.new_at); focus (first | (simp; done) | (simp; omega))) | with_reducible apply Blk.alloc | with_reducible apply Blk.drew | with_reducible apply Blk.drewN | with_reducible apply Blk.set | ((with_reducible apply Blk.far); case hp => (first | (simp; done) | (dsimp only; omega))) | ((with_reducible apply Blk.ext); case he => with_reducible assumption))); done)); obtain ⟨n11, n12, n13, n14⟩ := hN1.c2)); (try (refine (have hN2 : Blk w3 (wc.heap.size + 1) #[.int .i64 0, .int .i64 0] 23 := ?_; ?_); (focus ((repeat (first | (with_reducible assumption) | ((with_reducible apply Blk.new_at); focus (first | (simp; done) | (simp; omega))) | with_reducible apply Blk.alloc | with_reducible apply Blk.drew | with_reducible apply Blk.drewN | with_reducible apply Blk.set | ((with_reducible apply Blk.far); case hp => (first | (simp; done) | (dsimp only; omega))) | ((with_reducible apply Blk.ext); case he => with_reducible assumption))); done)); obtain ⟨n21, n22, n23, n24⟩ := hN2.c2))))
      all_goals
        go_wp2_with fail
        go_meet
        exact ⟨_, rfl, rfl, by (repeat (first | (with_reducible assumption) | ((with_reducible apply Blk.new_at); focus (first | (simp; done) | (simp; omega))) | with_reducible apply Blk.alloc | with_reducible apply Blk.drew | with_reducible apply Blk.drewN | with_reducible apply Blk.set | ((with_reducible apply Blk.far); case hp => (first | (simp; done) | (dsimp only; omega))) | ((with_reducible apply Blk.ext); case he => with_reducible assumption))), by (repeat (first | (with_reducible assumption) | ((with_reducible apply Blk.new_at); focus (first | (simp; done) | (simp; omega))) | with_reducible apply Blk.alloc | with_reducible apply Blk.drew | with_reducible apply Blk.drewN | with_reducible apply Blk.set | ((with_reducible apply Blk.far); case hp => (first | (simp; done) | (dsimp only; omega))) | ((with_reducible apply Blk.ext); case he => with_reducible assumption))), by (repeat (first | (with_reducible assumption) | with_reducible exact Ext.refl _ | with_reducible apply Ext.alloc | with_reducible apply Ext.drew | with_reducible apply Ext.drewN | ((with_reducible apply Ext.set); case hp => (first | (simp; done) | (dsimp only; omega) | omega)) | ((with_reducible apply Ext.trans); case k => with_reducible assumption)))⟩
    case rest =>
      obtain ⟨g2, rfl, rfl, hB, hA, hE⟩ := hcut
      rename_i wd
      have hs3 := hE.size
      have hAlt := hA.lt
      have hBlt := hB.lt
      go_wp2_with (go_at_call 62; refine (limits62_any _ _ _).mono ?_; rintro e w' ⟨rfl, rfl⟩)
      refine (aw_join _).mono ?_
      rintro e w4 ⟨rfl, h4⟩
      go_wp2_with fail; refine (aw_rev _).mono ?_; rintro e w5 ⟨rfl, h5⟩
      go_wp2_with fail; refine (aw_n1 _).mono ?_; rintro e w6 ⟨rfl, h6⟩
      go_wp2_with fail; refine (aw_n2 _).mono ?_; rintro e w7 ⟨rfl, h7⟩
      go_wp2_with fail; refine (aw_n3 _).mono ?_; rintro e w8 ⟨rfl, h8⟩
      have kA : Blk w8 w1.heap.size #[.int .i64 9950, .int .i64 10020] 23 := by (repeat (first | (with_reducible assumption) | ((with_reducible apply Blk.new_at); focus (first | (simp; done) | (simp; omega))) | with_reducible apply Blk.alloc | with_reducible apply Blk.drew | with_reducible apply Blk.drewN | with_reducible apply Blk.set | ((with_reducible apply Blk.far); case hp => (first | (simp; done) | (dsimp only; omega))) | ((with_reducible apply Blk.ext); case he => with_reducible assumption)))
      have kB : Blk w8 g #[.int .i64 10010, .int .i64 10020] 23 := by (repeat (first | (with_reducible assumption) | ((with_reducible apply Blk.new_at); focus (first | (simp; done) | (simp; omega))) | with_reducible apply Blk.alloc | with_reducible apply Blk.drew | with_reducible apply Blk.drewN | with_reducible apply Blk.set | ((with_reducible apply Blk.far); case hp => (first | (simp; done) | (dsimp only; omega))) | ((with_reducible apply Blk.ext); case he => with_reducible assumption)))
      have kC : Blk w8 w4.heap.size #[.string ⟨#[65]⟩, .string ⟨#[67]⟩, .int .i64 0, .int .i64 80, .int .i64 115] 40 := by (repeat (first | (with_reducible assumption) | ((with_reducible apply Blk.new_at); focus (first | (simp; done) | (simp; omega))) | with_reducible apply Blk.alloc | with_reducible apply Blk.drew | with_reducible apply Blk.drewN | with_reducible apply Blk.set | ((with_reducible apply Blk.far); case hp => (first | (simp; done) | (dsimp only; omega))) | ((with_reducible apply Blk.ext); case he => with_reducible assumption)))
      have kD : Blk w8 w5.heap.size #[.string ⟨#[67]⟩, .string ⟨#[65]⟩, .int .i64 0, .int .i64 (-115), .int .i64 (-80)] 40 := by (repeat (first | (with_reducible assumption) | ((with_reducible apply Blk.new_at); focus (first | (simp; done) | (simp; omega))) | with_reducible apply Blk.alloc | with_reducible apply Blk.drew | with_reducible apply Blk.drewN | with_reducible apply Blk.set | ((with_reducible apply Blk.far); case hp => (first | (simp; done) | (dsimp only; omega))) | ((with_reducible apply Blk.ext); case he => with_reducible assumption)))
      go_wp2_with fail
      go_region_held3 (fun W => (W.cell? ⟨w1.heap.size, 0, none⟩ = some (.int .i64 9950) ∧ W.cell? ⟨w1.heap.size, 1, none⟩ = some (.int .i64 10020)) ∧ (W.cell? ⟨g, 0, none⟩ = some (.int .i64 10010) ∧ W.cell? ⟨g, 1, none⟩ = some (.int .i64 10020)) ∧
          (W.cell? ⟨w4.heap.size, 0, none⟩ = some (.string ⟨#[65]⟩) ∧ W.cell? ⟨w4.heap.size, 1, none⟩ = some (.string ⟨#[67]⟩) ∧ W.cell? ⟨w4.heap.size, 2, none⟩ = some (.int .i64 0) ∧ W.cell? ⟨w4.heap.size, 3, none⟩ = some (.int .i64 80) ∧ W.cell? ⟨w4.heap.size, 4, none⟩ = some (.int .i64 115)) ∧
          (W.cell? ⟨w5.heap.size, 0, none⟩ = some (.string ⟨#[67]⟩) ∧ W.cell? ⟨w5.heap.size, 1, none⟩ = some (.string ⟨#[65]⟩) ∧ W.cell? ⟨w5.heap.size, 2, none⟩ = some (.int .i64 0) ∧ W.cell? ⟨w5.heap.size, 3, none⟩ = some (.int .i64 (-115)) ∧ W.cell? ⟨w5.heap.size, 4, none⟩ = some (.int .i64 (-80))))
        (exact ⟨Blk.r2 (t := 23) (by (repeat (first | (with_reducible assumption) | ((with_reducible apply Blk.new_at); focus (first | (simp; done) | (simp; omega))) | with_reducible apply Blk.alloc | with_reducible apply Blk.drew | with_reducible apply Blk.drewN | with_reducible apply Blk.set | ((with_reducible apply Blk.far); case hp => (first | (simp; done) | (dsimp only; omega))) | ((with_reducible apply Blk.ext); case he => with_reducible assumption)))), Blk.r2 (t := 23) (by (repeat (first | (with_reducible assumption) | ((with_reducible apply Blk.new_at); focus (first | (simp; done) | (simp; omega))) | with_reducible apply Blk.alloc | with_reducible apply Blk.drew | with_reducible apply Blk.drewN | with_reducible apply Blk.set | ((with_reducible apply Blk.far); case hp => (first | (simp; done) | (dsimp only; omega))) | ((with_reducible apply Blk.ext); case he => with_reducible assumption)))), Blk.r5 (t := 40) (by (repeat (first | (with_reducible assumption) | ((with_reducible apply Blk.new_at); focus (first | (simp; done) | (simp; omega))) | with_reducible apply Blk.alloc | with_reducible apply Blk.drew | with_reducible apply Blk.drewN | with_reducible apply Blk.set | ((with_reducible apply Blk.far); case hp => (first | (simp; done) | (dsimp only; omega))) | ((with_reducible apply Blk.ext); case he => with_reducible assumption)))), Blk.r5 (t := 40) (by (repeat (first | (with_reducible assumption) | ((with_reducible apply Blk.new_at); focus (first | (simp; done) | (simp; omega))) | with_reducible apply Blk.alloc | with_reducible apply Blk.drew | with_reducible apply Blk.drewN | with_reducible apply Blk.set | ((with_reducible apply Blk.far); case hp => (first | (simp; done) | (dsimp only; omega))) | ((with_reducible apply Blk.ext); case he => with_reducible assumption))))⟩)
        (first
          | (go_at_call 62; refine (limits62_any _ _ _).mono ?_; rintro e w' ⟨rfl, rfl⟩))
      all_goals
        go_wp2_with fail
        go_ret
        exact Ret.bool rfl (by (repeat (first | (with_reducible assumption) | with_reducible exact Ext.refl _ | with_reducible apply Ext.alloc | with_reducible apply Ext.drew | with_reducible apply Ext.drewN | ((with_reducible apply Ext.set); case hp => (first | (simp; done) | (dsimp only; omega) | omega)) | ((with_reducible apply Ext.trans); case k => with_reducible assumption))))
end Go.Proofs.Ytdcedfciaaooiaa
