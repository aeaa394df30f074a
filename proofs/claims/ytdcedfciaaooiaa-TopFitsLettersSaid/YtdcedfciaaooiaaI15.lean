/- The reference's layers 15 and 16: whether a fit is right. -/
import Derived.Test.YtdcedfciaaooiaaG15
set_option linter.unusedVariables false
namespace Go.Proofs.Ytdcedfciaaooiaa
open Go.RowKit

/-- How many of the first k step ends a size is above. -/
def aboveI (n : Int) (k : Nat) : Nat := ((mosts.take k).filter (fun x => decide (x < n))).length
theorem above_zero (n : Int) : aboveI n 0 = 0 := by simp [aboveI]
theorem above_succ (n : Int) {k : Nat} (hk : k < 7) : aboveI n (k + 1) = aboveI n k + (if mosts.getD k 0 < n then 1 else 0) := by
  unfold aboveI
  have hl : k < mosts.length := by simp [mosts]; omega
  rw [List.take_add_one, List.getElem?_eq_getElem hl, List.getD_eq_getElem?_getD, List.getElem?_eq_getElem hl]
  simp only [Option.toList_some, List.filter_append, List.length_append, Option.getD_some]
  congr 1
  simp only [List.filter_cons, List.filter_nil, decide_eq_true_eq]
  split <;> rfl
theorem above_seven (n : Int) : aboveI n 7 = stepI n := by
  have h0 := above_zero n
  have h1 : aboveI n 1 = aboveI n 0 + (if 3000 < n then 1 else 0) := above_succ n (k := 0) (by omega)
  have h2 : aboveI n 2 = aboveI n 1 + (if 6000 < n then 1 else 0) := above_succ n (k := 1) (by omega)
  have h3 : aboveI n 3 = aboveI n 2 + (if 10000 < n then 1 else 0) := above_succ n (k := 2) (by omega)
  have h4 : aboveI n 4 = aboveI n 3 + (if 18000 < n then 1 else 0) := above_succ n (k := 3) (by omega)
  have h5 : aboveI n 5 = aboveI n 4 + (if 30000 < n then 1 else 0) := above_succ n (k := 4) (by omega)
  have h6 : aboveI n 6 = aboveI n 5 + (if 50000 < n then 1 else 0) := above_succ n (k := 5) (by omega)
  have h7 : aboveI n 7 = aboveI n 6 + (if 80000 < n then 1 else 0) := above_succ n (k := 6) (by omega)
  have hc : (n ≤ 3000) ∨ (3000 < n ∧ n ≤ 6000) ∨ (6000 < n ∧ n ≤ 10000) ∨ (10000 < n ∧ n ≤ 18000) ∨ (18000 < n ∧ n ≤ 30000) ∨ (30000 < n ∧ n ≤ 50000) ∨ (50000 < n ∧ n ≤ 80000) ∨ (80000 < n) := by omega
  rcases hc with h | h | h | h | h | h | h | h
  · rw [if_neg (by omega)] at h1
    rw [if_neg (by omega)] at h2
    rw [if_neg (by omega)] at h3
    rw [if_neg (by omega)] at h4
    rw [if_neg (by omega)] at h5
    rw [if_neg (by omega)] at h6
    rw [if_neg (by omega)] at h7
    unfold stepI
    rw [if_pos (by omega)]
    omega
  · rw [if_pos (by omega)] at h1
    rw [if_neg (by omega)] at h2
    rw [if_neg (by omega)] at h3
    rw [if_neg (by omega)] at h4
    rw [if_neg (by omega)] at h5
    rw [if_neg (by omega)] at h6
    rw [if_neg (by omega)] at h7
    unfold stepI
    rw [if_neg (by omega), if_pos (by omega)]
    omega
  · rw [if_pos (by omega)] at h1
    rw [if_pos (by omega)] at h2
    rw [if_neg (by omega)] at h3
    rw [if_neg (by omega)] at h4
    rw [if_neg (by omega)] at h5
    rw [if_neg (by omega)] at h6
    rw [if_neg (by omega)] at h7
    unfold stepI
    rw [if_neg (by omega), if_neg (by omega), if_pos (by omega)]
    omega
  · rw [if_pos (by omega)] at h1
    rw [if_pos (by omega)] at h2
    rw [if_pos (by omega)] at h3
    rw [if_neg (by omega)] at h4
    rw [if_neg (by omega)] at h5
    rw [if_neg (by omega)] at h6
    rw [if_neg (by omega)] at h7
    unfold stepI
    rw [if_neg (by omega), if_neg (by omega), if_neg (by omega), if_pos (by omega)]
    omega
  · rw [if_pos (by omega)] at h1
    rw [if_pos (by omega)] at h2
    rw [if_pos (by omega)] at h3
    rw [if_pos (by omega)] at h4
    rw [if_neg (by omega)] at h5
    rw [if_neg (by omega)] at h6
    rw [if_neg (by omega)] at h7
    unfold stepI
    rw [if_neg (by omega), if_neg (by omega), if_neg (by omega), if_neg (by omega), if_pos (by omega)]
    omega
  · rw [if_pos (by omega)] at h1
    rw [if_pos (by omega)] at h2
    rw [if_pos (by omega)] at h3
    rw [if_pos (by omega)] at h4
    rw [if_pos (by omega)] at h5
    rw [if_neg (by omega)] at h6
    rw [if_neg (by omega)] at h7
    unfold stepI
    rw [if_neg (by omega), if_neg (by omega), if_neg (by omega), if_neg (by omega), if_neg (by omega), if_pos (by omega)]
    omega
  · rw [if_pos (by omega)] at h1
    rw [if_pos (by omega)] at h2
    rw [if_pos (by omega)] at h3
    rw [if_pos (by omega)] at h4
    rw [if_pos (by omega)] at h5
    rw [if_pos (by omega)] at h6
    rw [if_neg (by omega)] at h7
    unfold stepI
    rw [if_neg (by omega), if_neg (by omega), if_neg (by omega), if_neg (by omega), if_neg (by omega), if_neg (by omega), if_pos (by omega)]
    omega
  · rw [if_pos (by omega)] at h1
    rw [if_pos (by omega)] at h2
    rw [if_pos (by omega)] at h3
    rw [if_pos (by omega)] at h4
    rw [if_pos (by omega)] at h5
    rw [if_pos (by omega)] at h6
    rw [if_pos (by omega)] at h7
    unfold stepI
    rw [if_neg (by omega), if_neg (by omega), if_neg (by omega), if_neg (by omega), if_neg (by omega), if_neg (by omega), if_neg (by omega)]
    omega
theorem above_le (n : Int) (k : Nat) : aboveI n k ≤ k := by
  unfold aboveI
  exact Nat.le_trans (List.length_filter_le _ _) (by simp; omega)
def endsV : Array Value := #[.int .i64 3000, .int .i64 6000, .int .i64 10000, .int .i64 18000, .int .i64 30000, .int .i64 50000, .int .i64 80000]
theorem endsV_at {k : Nat} (hk : k < 7) : endsV[k]? = some (.int .i64 (mosts.getD k 0)) := by
  have h : k = 0 ∨ k = 1 ∨ k = 2 ∨ k = 3 ∨ k = 4 ∨ k = 5 ∨ k = 6 := by omega
  rcases h with rfl | rfl | rfl | rfl | rfl | rfl | rfl <;> rfl
def basesV : Array Value := #[.int .i64 6, .int .i64 8, .int .i64 9, .int .i64 11, .int .i64 13, .int .i64 16, .int .i64 19, .int .i64 22]
theorem basesV_at (n : Int) : basesV[stepI n]? = some (.int .i64 (baseI n)) := by
  unfold baseI
  have h := stepI_lt n
  generalize stepI n = k at h
  have h : k = 0 ∨ k = 1 ∨ k = 2 ∨ k = 3 ∨ k = 4 ∨ k = 5 ∨ k = 6 ∨ k = 7 := by omega
  rcases h with rfl | rfl | rfl | rfl | rfl | rfl | rfl | rfl <;> rfl

set_option maxRecDepth 20000 in
theorem rat_any (n : Int) (w : World) : Calls Try.prog 136 #[.int .i64 n] w (Ret (.int .i64 (stepI n : Int)) w) := by
  go_enter Try.func136, Try.ntmps136
  go_wp2_with fail
  go_loopw [4, 5] (fun c i wr => ∃ k : Nat, k ≤ 7 ∧ i = .int .i64 k ∧ c = .int .i64 (aboveI n k : Int) ∧ Blk wr w.heap.size endsV 3 ∧ Ext w wr) (fun _ i _ => 7 - (intOf i).toNat)
  case atStart => exact ⟨0, by omega, rfl, by rw [above_zero]; rfl, by (apply Blk.is; (case h => (repeat (first | (with_reducible assumption) | ((with_reducible apply Blk.new_at); focus (first | (simp; done) | (simp; omega))) | with_reducible apply Blk.alloc | with_reducible apply Blk.drew | with_reducible apply Blk.drewN | with_reducible apply Blk.set | ((with_reducible apply Blk.far); case hp => (first | (simp; done) | (dsimp only; omega))) | ((with_reducible apply Blk.ext); case he => with_reducible assumption)))); all_goals rfl), by (repeat (first | (with_reducible assumption) | with_reducible exact Ext.refl _ | with_reducible apply Ext.alloc | with_reducible apply Ext.drew | with_reducible apply Ext.drewN | ((with_reducible apply Ext.set); case hp => (first | (simp; done) | (dsimp only; omega) | omega)) | ((with_reducible apply Ext.trans); case k => with_reducible assumption)))⟩
  case round =>
    obtain ⟨k, hk, rfl, rfl, hB, he⟩ := hrel
    have hc := above_le n k
    by_cases hlt : k < 7
    · have c1 := (hB.cell k).trans (endsV_at hlt)
      obtain ⟨M, hM⟩ : ∃ v, mosts.getD k 0 = v := ⟨_, rfl⟩
      rw [hM] at c1
      have hsc := above_succ n hlt
      rw [hM] at hsc
      clear hM
      by_cases hh : M < n
      · rw [if_pos hh] at hsc
        have HS := Lib.hid hsc
        clear hsc
        go_wp2_with fail
        go_roundw
        case rel => exact ⟨k + 1, by omega, by go_num, by rw [HS.out]; go_num, hB, he⟩
        case measure => simp [intOf]; omega
      · rw [if_neg hh] at hsc
        have HS := Lib.hid hsc
        clear hsc
        go_wp2_with fail
        go_roundw
        case rel => exact ⟨k + 1, by omega, by go_num, by rw [HS.out]; go_num, hB, he⟩
        case measure => simp [intOf]; omega
    · obtain rfl : k = 7 := by omega
      rw [above_seven]
      go_wp2_with fail
      go_ret
      exact Ret.int rfl he

set_option maxRecDepth 20000 in
theorem rbase_any (n : Int) (w : World) : Calls Try.prog 135 #[.int .i64 n] w (Ret (.int .i64 (baseI n)) w) := by
  have hl := stepI_lt n
  have HB := Lib.hid (basesV_at n)
  go_enter Try.func135, Try.ntmps135
  go_wp2_with fail; refine (rat_any _ _).mono ?_; rintro e w2 ⟨rfl, h2⟩
  have hB : Blk w2 w.heap.size basesV 3 := (Blk.new w basesV 3).ext h2
  have c1 := (hB.cell (stepI n)).trans HB.out
  go_wp2_with fail
  go_ret
  exact Ret.int rfl (by (repeat (first | (with_reducible assumption) | with_reducible exact Ext.refl _ | with_reducible apply Ext.alloc | with_reducible apply Ext.drew | with_reducible apply Ext.drewN | ((with_reducible apply Ext.set); case hp => (first | (simp; done) | (dsimp only; omega) | omega)) | ((with_reducible apply Ext.trans); case k => with_reducible assumption))))

theorem tolw {p : Int} (h : 0 ≤ p ∧ p ≤ 100000) : IntKind.i64.wrap ((IntKind.i64.wrap (IntKind.i64.wrap p + 5)).tdiv 10) = (p + 5) / 10 := by
  rw [wrap_small (x := p) (by omega), wrap_small (x := p + 5) (by omega), Int.tdiv_eq_ediv_of_nonneg (by omega), wrap_small (by omega)]
set_option maxRecDepth 20000 in
set_option maxHeartbeats 4000000 in
theorem rwide_any (n g : Int) (h5 : 5 ≤ g) (h12 : g ≤ 12) (w : World) : Calls Try.prog 134 #[.int .i64 n, .int .i64 g] w (Ret (.int .i64 (tolI n g)) w) := by
  have hb := base_range n
  have ht : tolI n g = (baseI n * facI g + 5) / 10 := rfl
  have hg : g = 5 ∨ g = 6 ∨ g = 7 ∨ g = 8 ∨ g = 9 ∨ g = 10 ∨ g = 11 ∨ g = 12 := by omega
  rcases hg with rfl | rfl | rfl | rfl | rfl | rfl | rfl | rfl
  all_goals
    simp only [facI, facs, Int.reduceSub, Int.reduceToNat, List.getD_cons_zero, List.getD_cons_succ] at ht
    rw [ht]
    clear ht
    have v0 : IntKind.i64.wrap 0 = 0 := rfl
    have v1 : IntKind.i64.wrap 1 = 1 := rfl
    have v2 : IntKind.i64.wrap 2 = 2 := rfl
    have v3 : IntKind.i64.wrap 3 = 3 := rfl
    have v4 : IntKind.i64.wrap 4 = 4 := rfl
    have v5 : IntKind.i64.wrap 5 = 5 := rfl
    have v6 : IntKind.i64.wrap 6 = 6 := rfl
    have v7 : IntKind.i64.wrap 7 = 7 := rfl
    go_enter Try.func134, Try.ntmps134
    go_wp2_with fail
    go_region_with (first
      | (go_at_call 135; refine (rbase_any n _).mono ?_; rintro e w1 ⟨rfl, h1⟩; (try (refine (have hN : Blk w1 w.heap.size #[.int .i64 7, .int .i64 10, .int .i64 16, .int .i64 25, .int .i64 40, .int .i64 64, .int .i64 100, .int .i64 160] 3 := ?_; ?_); (focus ((repeat (first | (with_reducible assumption) | ((with_reducible apply Blk.new_at); focus (first | (simp; done) | (simp; omega))) | with_reducible apply Blk.alloc | with_reducible apply Blk.drew | with_reducible apply Blk.drewN | with_reducible apply Blk.set | ((with_reducible apply Blk.far); case hp => (first | (simp; done) | (dsimp only; omega))) | ((with_reducible apply Blk.ext); case he => with_reducible assumption))); done)); have n0 := hN.cell 0; have n1 := hN.cell 1; have n2 := hN.cell 2; have n3 := hN.cell 3; have n4 := hN.cell 4; have n5 := hN.cell 5; have n6 := hN.cell 6; have n7 := hN.cell 7; simp at n0 n1 n2 n3 n4 n5 n6 n7))))
    all_goals
      go_wp2_with fail
      go_ret
      exact Ret.int (tolw (by omega)) (by (repeat (first | (with_reducible assumption) | with_reducible exact Ext.refl _ | with_reducible apply Ext.alloc | with_reducible apply Ext.drew | with_reducible apply Ext.drewN | ((with_reducible apply Ext.set); case hp => (first | (simp; done) | (dsimp only; omega) | omega)) | ((with_reducible apply Ext.trans); case k => with_reducible assumption))))
end Go.Proofs.Ytdcedfciaaooiaa
