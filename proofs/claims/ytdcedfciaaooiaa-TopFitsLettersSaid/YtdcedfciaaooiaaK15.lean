/- Whether a fit is right: the reference's layer 16; and the fits of the law. -/
import Derived.Test.YtdcedfciaaooiaaJ15
import Derived.Test.YtdcedfciaaooiaaH15
set_option linter.unusedVariables false
namespace Go.Proofs.Ytdcedfciaaooiaa
open Go.RowKit

set_option maxRecDepth 20000 in
theorem raway_any (n : Int) (b : Bool) (k : Nat) (g : Int) (hk : k < 10) (h5 : 5 ≤ g) (h12 : g ≤ 12) (w : World) :
    Calls Try.prog 126 #[.int .i64 n, .agg #[.bool b, .int .i64 (k : Int), .int .i64 g]] w (Ret (.agg #[.int .i64 (awayI n b k g).lo, .int .i64 (awayI n b k g).hi]) w) := by
  have hd := dev_range n hk h5 h12
  have HS := Lib.hid (rshaft_any n k g hk h5 h12)
  have ha : (awayI n b k g).lo = (if b then -(devI n k g).hi else (devI n k g).lo) ∧ (awayI n b k g).hi = (if b then -(devI n k g).lo else (devI n k g).hi) := by
    cases b <;> exact ⟨rfl, rfl⟩
  rw [ha.1, ha.2]
  clear ha
  generalize (devI n k g).lo = lo at *
  generalize (devI n k g).hi = hi at *
  cases b
  · simp only [Bool.false_eq_true, if_false, if_true]
    go_enter Try.func126, Try.ntmps126
    go_wp2_with fail; refine (HS.out _).mono ?_; rintro e w1 ⟨rfl, h1⟩
    have hB : Blk w1 w.heap.size #[.bool false, .int .i64 (k : Int), .int .i64 g] 123 := by (repeat (first | (with_reducible assumption) | ((with_reducible apply Blk.new_at); focus (first | (simp; done) | (simp; omega))) | with_reducible apply Blk.alloc | with_reducible apply Blk.drew | with_reducible apply Blk.drewN | with_reducible apply Blk.set | ((with_reducible apply Blk.far); case hp => (first | (simp; done) | (dsimp only; omega))) | ((with_reducible apply Blk.ext); case he => with_reducible assumption)))
    have b0 := hB.cell 0
    simp at b0
    have O : Blk w1 (w.heap.size + 1) #[.int .i64 0, .int .i64 0] 23 := (by (repeat (first | (with_reducible assumption) | ((with_reducible apply Blk.new_at); focus (first | (simp; done) | (simp; omega))) | with_reducible apply Blk.alloc | with_reducible apply Blk.drew | with_reducible apply Blk.drewN | with_reducible apply Blk.set | ((with_reducible apply Blk.far); case hp => (first | (simp; done) | (dsimp only; omega))) | ((with_reducible apply Blk.ext); case he => with_reducible assumption)))); obtain ⟨O1, O2, O3, O4⟩ := O.c2; have O5 := O.lt
    have hBl := hB.lt
    have hs := Ext.size h1
    simp only [World.size_alloc] at hs
    go_wp2_with fail
    refine end_c rfl rfl _ _ _ _ rfl (by (apply Blk.is; (case h => (repeat (first | (with_reducible assumption) | ((with_reducible apply Blk.new_at); focus (first | (simp; done) | (simp; omega))) | with_reducible apply Blk.alloc | with_reducible apply Blk.drew | with_reducible apply Blk.drewN | with_reducible apply Blk.set | ((with_reducible apply Blk.far); case hp => (first | (simp; done) | (dsimp only; omega))) | ((with_reducible apply Blk.ext); case he => with_reducible assumption)))); all_goals rfl)) Try.underlying23 rfl (by exact szL15) ?_
    exact Ret.mk' (by simp) (by (repeat (first | (with_reducible assumption) | with_reducible exact Ext.refl _ | with_reducible apply Ext.alloc | with_reducible apply Ext.drew | with_reducible apply Ext.drewN | ((with_reducible apply Ext.set); case hp => (first | (simp; done) | (dsimp only; omega) | omega)) | ((with_reducible apply Ext.trans); case k => with_reducible assumption))))
  · simp only [Bool.false_eq_true, if_false, if_true]
    go_enter Try.func126, Try.ntmps126
    go_wp2_with fail; refine (HS.out _).mono ?_; rintro e w1 ⟨rfl, h1⟩
    have hB : Blk w1 w.heap.size #[.bool true, .int .i64 (k : Int), .int .i64 g] 123 := by (repeat (first | (with_reducible assumption) | ((with_reducible apply Blk.new_at); focus (first | (simp; done) | (simp; omega))) | with_reducible apply Blk.alloc | with_reducible apply Blk.drew | with_reducible apply Blk.drewN | with_reducible apply Blk.set | ((with_reducible apply Blk.far); case hp => (first | (simp; done) | (dsimp only; omega))) | ((with_reducible apply Blk.ext); case he => with_reducible assumption)))
    have b0 := hB.cell 0
    simp at b0
    have O : Blk w1 (w.heap.size + 1) #[.int .i64 0, .int .i64 0] 23 := (by (repeat (first | (with_reducible assumption) | ((with_reducible apply Blk.new_at); focus (first | (simp; done) | (simp; omega))) | with_reducible apply Blk.alloc | with_reducible apply Blk.drew | with_reducible apply Blk.drewN | with_reducible apply Blk.set | ((with_reducible apply Blk.far); case hp => (first | (simp; done) | (dsimp only; omega))) | ((with_reducible apply Blk.ext); case he => with_reducible assumption)))); obtain ⟨O1, O2, O3, O4⟩ := O.c2; have O5 := O.lt
    have hBl := hB.lt
    have hs := Ext.size h1
    simp only [World.size_alloc] at hs
    go_wp2_with fail
    refine end_c rfl rfl _ _ _ _ rfl (by (apply Blk.is; (case h => (repeat (first | (with_reducible assumption) | ((with_reducible apply Blk.new_at); focus (first | (simp; done) | (simp; omega))) | with_reducible apply Blk.alloc | with_reducible apply Blk.drew | with_reducible apply Blk.drewN | with_reducible apply Blk.set | ((with_reducible apply Blk.far); case hp => (first | (simp; done) | (dsimp only; omega))) | ((with_reducible apply Blk.ext); case he => with_reducible assumption)))); all_goals rfl)) Try.underlying23 rfl (by exact szL15) ?_
    exact Ret.mk' (by simp) (by (repeat (first | (with_reducible assumption) | with_reducible exact Ext.refl _ | with_reducible apply Ext.alloc | with_reducible apply Ext.drew | with_reducible apply Ext.drewN | ((with_reducible apply Ext.set); case hp => (first | (simp; done) | (dsimp only; omega) | omega)) | ((with_reducible apply Ext.trans); case k => with_reducible assumption))))

set_option maxRecDepth 20000 in
theorem rdev_any (n : Int) (b : Bool) (k g : Int) (w : World) :
    Calls Try.prog 118 #[.int .i64 n, .agg #[.bool b, .int .i64 k, .int .i64 g]] w
      (Ret (.tuple #[.agg #[.int .i64 (if sizeE n = 0 ∧ classE k g = 0 then (awayI n b k.toNat g).lo else 0), .int .i64 (if sizeE n = 0 ∧ classE k g = 0 then (awayI n b k.toNat g).hi else 0)], .int .i64 (if sizeE n = 0 then classE k g else sizeE n)]) w) := by
  by_cases hn : sizeE n = 0
  · by_cases hc : classE k g = 0
    · have h2 := classE_zero hc
      obtain ⟨q, rfl⟩ := Int.eq_ofNat_of_zero_le h2.1
      have HA := Lib.hid (raway_any n b q g (by omega) h2.2.2.1 h2.2.2.2)
      rw [if_pos ⟨hn, hc⟩, if_pos ⟨hn, hc⟩, if_pos hn, hc]
      rw [show ((q : Int)).toNat = q from by simp]
      go_enter Try.func118, Try.ntmps118
      go_wp2_with fail
      refine (rsize_any n _).mono ?_
      rintro e w1 ⟨rfl, rfl⟩
      rw [hn]
      go_wp2_with fail; refine (rcheck15_any b _ g _).mono ?_; rintro e w2 ⟨rfl, h2'⟩
      rw [hc]
      have hB : Blk w2 w.heap.size #[.bool b, .int .i64 (q : Int), .int .i64 g] 123 := by (repeat (first | (with_reducible assumption) | ((with_reducible apply Blk.new_at); focus (first | (simp; done) | (simp; omega))) | with_reducible apply Blk.alloc | with_reducible apply Blk.drew | with_reducible apply Blk.drewN | with_reducible apply Blk.set | ((with_reducible apply Blk.far); case hp => (first | (simp; done) | (dsimp only; omega))) | ((with_reducible apply Blk.ext); case he => with_reducible assumption)))
      have b0 := hB.cell 0
      have b1 := hB.cell 1
      have b2 := hB.cell 2
      simp at b0 b1 b2
      go_wp2_with fail; refine (HA.out _).mono ?_; rintro e w3 ⟨rfl, h3⟩
      have O : Blk w3 (w.heap.size + 1) #[.int .i64 0, .int .i64 0] 23 := (by (repeat (first | (with_reducible assumption) | ((with_reducible apply Blk.new_at); focus (first | (simp; done) | (simp; omega))) | with_reducible apply Blk.alloc | with_reducible apply Blk.drew | with_reducible apply Blk.drewN | with_reducible apply Blk.set | ((with_reducible apply Blk.far); case hp => (first | (simp; done) | (dsimp only; omega))) | ((with_reducible apply Blk.ext); case he => with_reducible assumption)))); obtain ⟨O1, O2, O3, O4⟩ := O.c2; have O5 := O.lt
      go_wp2_with fail
      refine end_ct rfl rfl _ _ _ _ _ rfl rfl (by (repeat (first | (with_reducible assumption) | ((with_reducible apply Blk.new_at); focus (first | (simp; done) | (simp; omega))) | with_reducible apply Blk.alloc | with_reducible apply Blk.drew | with_reducible apply Blk.drewN | with_reducible apply Blk.set | ((with_reducible apply Blk.far); case hp => (first | (simp; done) | (dsimp only; omega))) | ((with_reducible apply Blk.ext); case he => with_reducible assumption)))) Try.underlying23 rfl (by exact szL) ?_
      exact Ret.mk' (by simp) (by (repeat (first | (with_reducible assumption) | with_reducible exact Ext.refl _ | with_reducible apply Ext.alloc | with_reducible apply Ext.drew | with_reducible apply Ext.drewN | ((with_reducible apply Ext.set); case hp => (first | (simp; done) | (dsimp only; omega) | omega)) | ((with_reducible apply Ext.trans); case k => with_reducible assumption))))
    · rw [if_neg (fun h => hc h.2), if_neg (fun h => hc h.2), if_pos hn]
      have hc2 : (classE k g != 0) = true := by simpa using hc
      go_enter Try.func118, Try.ntmps118
      go_wp2_with fail
      refine (rsize_any n _).mono ?_
      rintro e w1 ⟨rfl, rfl⟩
      rw [hn]
      go_wp2_with fail; refine (rcheck15_any b _ g _).mono ?_; rintro e w2 ⟨rfl, h2'⟩
      have O : Blk w2 (w.heap.size + 1) #[.int .i64 0, .int .i64 0] 23 := (by (repeat (first | (with_reducible assumption) | ((with_reducible apply Blk.new_at); focus (first | (simp; done) | (simp; omega))) | with_reducible apply Blk.alloc | with_reducible apply Blk.drew | with_reducible apply Blk.drewN | with_reducible apply Blk.set | ((with_reducible apply Blk.far); case hp => (first | (simp; done) | (dsimp only; omega))) | ((with_reducible apply Blk.ext); case he => with_reducible assumption)))); obtain ⟨O1, O2, O3, O4⟩ := O.c2; have O5 := O.lt
      go_wp2_with fail
      refine end_ct rfl rfl _ _ _ _ _ rfl rfl (by (repeat (first | (with_reducible assumption) | ((with_reducible apply Blk.new_at); focus (first | (simp; done) | (simp; omega))) | with_reducible apply Blk.alloc | with_reducible apply Blk.drew | with_reducible apply Blk.drewN | with_reducible apply Blk.set | ((with_reducible apply Blk.far); case hp => (first | (simp; done) | (dsimp only; omega))) | ((with_reducible apply Blk.ext); case he => with_reducible assumption)))) Try.underlying23 rfl (by exact szL) ?_
      exact Ret.mk' (by simp) (by (repeat (first | (with_reducible assumption) | with_reducible exact Ext.refl _ | with_reducible apply Ext.alloc | with_reducible apply Ext.drew | with_reducible apply Ext.drewN | ((with_reducible apply Ext.set); case hp => (first | (simp; done) | (dsimp only; omega) | omega)) | ((with_reducible apply Ext.trans); case k => with_reducible assumption))))
  · rw [if_neg (fun h => hn h.1), if_neg (fun h => hn h.1), if_neg hn]
    have hn2 : (sizeE n != 0) = true := by simpa using hn
    go_enter Try.func118, Try.ntmps118
    go_wp2_with fail
    refine (rsize_any n _).mono ?_
    rintro e w1 ⟨rfl, rfl⟩
    go_wp2_with fail
    refine end_ct rfl rfl _ _ _ _ _ rfl rfl (by (repeat (first | (with_reducible assumption) | ((with_reducible apply Blk.new_at); focus (first | (simp; done) | (simp; omega))) | with_reducible apply Blk.alloc | with_reducible apply Blk.drew | with_reducible apply Blk.drewN | with_reducible apply Blk.set | ((with_reducible apply Blk.far); case hp => (first | (simp; done) | (dsimp only; omega))) | ((with_reducible apply Blk.ext); case he => with_reducible assumption)))) Try.underlying23 rfl (by exact szL) ?_
    exact Ret.mk' (by simp) (by (repeat (first | (with_reducible assumption) | with_reducible exact Ext.refl _ | with_reducible apply Ext.alloc | with_reducible apply Ext.drew | with_reducible apply Ext.drewN | ((with_reducible apply Ext.set); case hp => (first | (simp; done) | (dsimp only; omega) | omega)) | ((with_reducible apply Ext.trans); case k => with_reducible assumption))))

set_option maxRecDepth 20000 in
set_option maxHeartbeats 4000000 in
theorem rlim_any (n : Int) (b : Bool) (k g : Int) (w : World) :
    Calls Try.prog 103 #[.int .i64 n, .agg #[.bool b, .int .i64 k, .int .i64 g]] w fun e w' => ∃ x y, e = .returned (.tuple #[.agg #[.int .i64 x, .int .i64 y], .int .i64 (limI n b k g)]) ∧ Ext w w' := by
  have HD := Lib.hid (rdev_any n b k g)
  by_cases hn : sizeE n = 0
  · by_cases hc : classE k g = 0
    · have h2 := classE_zero hc
      have h1 := sizeE_zero hn
      rw [if_pos ⟨hn, hc⟩, if_pos ⟨hn, hc⟩, if_pos hn, hc] at HD
      have hr := away_range n b (k := k.toNat) (by omega) h2.2.2.1 h2.2.2.2
      have hl : limI n b k g = inE n (awayI n b k.toNat g) := by unfold limI; rw [if_pos hn, if_pos hc]
      have hi : inE n (awayI n b k.toNat g) = if n + (awayI n b k.toNat g).lo < 1 ∨ 100000 < n + (awayI n b k.toNat g).hi then 2 else 0 := rfl
      rw [hi] at hl
      clear hi hc hn h2
      generalize (awayI n b k.toNat g).lo = lo at *
      generalize (awayI n b k.toNat g).hi = hi at *
      have hx : n + lo < 1 ∨ (1 ≤ n + lo ∧ 100000 < n + hi) ∨ (1 ≤ n + lo ∧ n + hi ≤ 100000) := by omega
      rcases hx with hx | hx | hx
      all_goals
        first
          | rw [if_pos (by omega)] at hl
          | rw [if_neg (by omega)] at hl
        have HL := Lib.hid hl
        clear hl
        go_enter Try.func103, Try.ntmps103
        go_wp2_with fail; refine (HD.out _).mono ?_; rintro e w2 ⟨rfl, h2'⟩
        have O : Blk w2 (w.heap.size + 1) #[.int .i64 0, .int .i64 0] 23 := (by (repeat (first | (with_reducible assumption) | ((with_reducible apply Blk.new_at); focus (first | (simp; done) | (simp; omega))) | with_reducible apply Blk.alloc | with_reducible apply Blk.drew | with_reducible apply Blk.drewN | with_reducible apply Blk.set | ((with_reducible apply Blk.far); case hp => (first | (simp; done) | (dsimp only; omega))) | ((with_reducible apply Blk.ext); case he => with_reducible assumption)))); obtain ⟨O1, O2, O3, O4⟩ := O.c2; have O5 := O.lt
        have hs := Ext.size h2'
        simp only [World.size_alloc] at hs
        go_wp2_with fail
        refine end_ct rfl rfl _ _ _ _ _ rfl rfl (by (repeat (first | (with_reducible assumption) | ((with_reducible apply Blk.new_at); focus (first | (simp; done) | (simp; omega))) | with_reducible apply Blk.alloc | with_reducible apply Blk.drew | with_reducible apply Blk.drewN | with_reducible apply Blk.set | ((with_reducible apply Blk.far); case hp => (first | (simp; done) | (dsimp only; omega))) | ((with_reducible apply Blk.ext); case he => with_reducible assumption)))) Try.underlying23 rfl (by exact szL) ?_
        rw [HL.out]
        exact ⟨_, _, rfl, by (repeat (first | (with_reducible assumption) | with_reducible exact Ext.refl _ | with_reducible apply Ext.alloc | with_reducible apply Ext.drew | with_reducible apply Ext.drewN | ((with_reducible apply Ext.set); case hp => (first | (simp; done) | (dsimp only; omega) | omega)) | ((with_reducible apply Ext.trans); case k => with_reducible assumption)))⟩
    · rw [if_neg (fun h => hc h.2), if_neg (fun h => hc h.2), if_pos hn] at HD
      have hl : limI n b k g = classE k g := by unfold limI; rw [if_pos hn, if_neg hc]
      rw [hl]
      have hc2 : (classE k g != 0) = true := by simpa using hc
      go_enter Try.func103, Try.ntmps103
      go_wp2_with fail; refine (HD.out _).mono ?_; rintro e w2 ⟨rfl, h2'⟩
      have O : Blk w2 (w.heap.size + 1) #[.int .i64 0, .int .i64 0] 23 := (by (repeat (first | (with_reducible assumption) | ((with_reducible apply Blk.new_at); focus (first | (simp; done) | (simp; omega))) | with_reducible apply Blk.alloc | with_reducible apply Blk.drew | with_reducible apply Blk.drewN | with_reducible apply Blk.set | ((with_reducible apply Blk.far); case hp => (first | (simp; done) | (dsimp only; omega))) | ((with_reducible apply Blk.ext); case he => with_reducible assumption)))); obtain ⟨O1, O2, O3, O4⟩ := O.c2; have O5 := O.lt
      go_wp2_with fail
      refine end_ct rfl rfl _ _ _ _ _ rfl rfl (by (repeat (first | (with_reducible assumption) | ((with_reducible apply Blk.new_at); focus (first | (simp; done) | (simp; omega))) | with_reducible apply Blk.alloc | with_reducible apply Blk.drew | with_reducible apply Blk.drewN | with_reducible apply Blk.set | ((with_reducible apply Blk.far); case hp => (first | (simp; done) | (dsimp only; omega))) | ((with_reducible apply Blk.ext); case he => with_reducible assumption)))) Try.underlying23 rfl (by exact szL) ?_
      exact ⟨_, _, rfl, by (repeat (first | (with_reducible assumption) | with_reducible exact Ext.refl _ | with_reducible apply Ext.alloc | with_reducible apply Ext.drew | with_reducible apply Ext.drewN | ((with_reducible apply Ext.set); case hp => (first | (simp; done) | (dsimp only; omega) | omega)) | ((with_reducible apply Ext.trans); case k => with_reducible assumption)))⟩
  · rw [if_neg (fun h => hn h.1), if_neg (fun h => hn h.1), if_neg hn] at HD
    have hl : limI n b k g = sizeE n := by unfold limI; rw [if_neg hn]
    rw [hl]
    have hc2 : (sizeE n != 0) = true := by simpa using hn
    go_enter Try.func103, Try.ntmps103
    go_wp2_with fail; refine (HD.out _).mono ?_; rintro e w2 ⟨rfl, h2'⟩
    have O : Blk w2 (w.heap.size + 1) #[.int .i64 0, .int .i64 0] 23 := (by (repeat (first | (with_reducible assumption) | ((with_reducible apply Blk.new_at); focus (first | (simp; done) | (simp; omega))) | with_reducible apply Blk.alloc | with_reducible apply Blk.drew | with_reducible apply Blk.drewN | with_reducible apply Blk.set | ((with_reducible apply Blk.far); case hp => (first | (simp; done) | (dsimp only; omega))) | ((with_reducible apply Blk.ext); case he => with_reducible assumption)))); obtain ⟨O1, O2, O3, O4⟩ := O.c2; have O5 := O.lt
    go_wp2_with fail
    refine end_ct rfl rfl _ _ _ _ _ rfl rfl (by (repeat (first | (with_reducible assumption) | ((with_reducible apply Blk.new_at); focus (first | (simp; done) | (simp; omega))) | with_reducible apply Blk.alloc | with_reducible apply Blk.drew | with_reducible apply Blk.drewN | with_reducible apply Blk.set | ((with_reducible apply Blk.far); case hp => (first | (simp; done) | (dsimp only; omega))) | ((with_reducible apply Blk.ext); case he => with_reducible assumption)))) Try.underlying23 rfl (by exact szL) ?_
    exact ⟨_, _, rfl, by (repeat (first | (with_reducible assumption) | with_reducible exact Ext.refl _ | with_reducible apply Ext.alloc | with_reducible apply Ext.drew | with_reducible apply Ext.drewN | ((with_reducible apply Ext.set); case hp => (first | (simp; done) | (dsimp only; omega) | omega)) | ((with_reducible apply Ext.trans); case k => with_reducible assumption)))⟩
end Go.Proofs.Ytdcedfciaaooiaa
