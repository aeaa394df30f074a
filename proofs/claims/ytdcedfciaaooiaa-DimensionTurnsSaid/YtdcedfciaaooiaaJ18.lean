/- Path of the code and of the reference: the walks. -/
import Derived.Test.YtdcedfciaaooiaaJ17
import Derived.Test.YtdcedfciaaooiaaR2
set_option linter.unusedVariables false
namespace Go.Proofs.Ytdcedfciaaooiaa
open Go.RowKit

def pathE (xs : List Dim) : Int := if allE xs ≠ 0 then allE xs else if xs.length = 0 then 13 else if 256 < xs.length then 5 else (stL xs).2.2
def pathD (xs : List Dim) : Dim := if pathE xs ≠ 0 then zeroD else (stL xs).2.1
theorem pathD_no {xs : List Dim} (h : pathE xs ≠ 0) : pathD xs = zeroD := by rw [pathD, if_pos h]
theorem pathE_1 {xs : List Dim} (h : allE xs ≠ 0) : pathE xs = allE xs := by rw [pathE, if_pos h]
theorem pathE_2 {xs : List Dim} (h : allE xs = 0) (h0 : xs.length = 0) : pathE xs = 13 := by rw [pathE, if_neg (by simp [h]), if_pos h0]
theorem pathE_3 {xs : List Dim} (h : allE xs = 0) (h0 : 256 < xs.length) : pathE xs = 5 := by rw [pathE, if_neg (by simp [h]), if_neg (by omega), if_pos h0]
theorem pathE_4 {xs : List Dim} (h : allE xs = 0) (h0 : xs.length ≠ 0) (h1 : ¬ 256 < xs.length) : pathE xs = (stL xs).2.2 := by rw [pathE, if_neg (by simp [h]), if_neg h0, if_neg h1]
theorem pathD_4 {xs : List Dim} (h : allE xs = 0) (h0 : xs.length ≠ 0) (h1 : ¬ 256 < xs.length) : pathD xs = (stL xs).2.1 := by
  unfold pathD
  split
  · rename_i hh
    rw [pathE_4 h h0 h1] at hh
    exact (stL_zero xs hh).symm
  · rfl

set_option maxRecDepth 20000 in
set_option maxHeartbeats 2000000 in
theorem path_any (A : Option Addr) (n c : Nat) (xs : List Dim) (w : World) (hx : Dims w A n xs) :
    Calls Try.prog 46 #[.slice A n c] w (Ret (.tuple #[.agg #[.string (pathD xs).frm, .string (pathD xs).to, .int .i64 (pathD xs).axis, .int .i64 (pathD xs).lo, .int .i64 (pathD xs).hi], .int .i64 (pathE xs)]) w) := by
  have HX := Lib.hid hx
  have hmx := hx.max
  clear hx
  go_enter Try.func46, Try.ntmps46
  go_wp2_with fail
  go_loopw [9] (fun i wr => ∃ k : Nat, k ≤ n ∧ i = .int .i64 k ∧ Blk wr w.heap.size #[.string ⟨#[]⟩, .string ⟨#[]⟩, .int .i64 0, .int .i64 0, .int .i64 0] 40 ∧ Ext w wr ∧ Hid (∀ j, j < k → validE (xs.getD j zeroD) = 0)) (fun i _ => n - (intOf i).toNat)
  case atStart => exact ⟨0, Nat.zero_le _, rfl, by (repeat (first | (with_reducible assumption) | ((with_reducible apply Blk.new_at); focus (first | (simp; done) | (simp; omega))) | with_reducible apply Blk.alloc | with_reducible apply Blk.drew | with_reducible apply Blk.drewN | with_reducible apply Blk.set | ((with_reducible apply Blk.far); case hp => (first | (simp; done) | (dsimp only; omega))) | ((with_reducible apply Blk.ext); case he => with_reducible assumption))), by (repeat (first | (with_reducible assumption) | with_reducible exact Ext.refl _ | with_reducible apply Ext.alloc | with_reducible apply Ext.drew | with_reducible apply Ext.drewN | ((with_reducible apply Ext.set); case hp => (first | (simp; done) | (dsimp only; omega) | omega)) | ((with_reducible apply Ext.trans); case k => with_reducible assumption))), fun j hj => by omega⟩
  case round =>
    obtain ⟨k, hk, rfl, hR, he, hz⟩ := hrel
    have hs := he.size
    have hRlt := hR.lt
    by_cases hlt : k < n
    · obtain ⟨b, o, hA, hc⟩ := HX.out.at_ (by omega)
      obtain ⟨d, hd⟩ : ∃ d, xs.getD k zeroD = d := ⟨_, rfl⟩
      obtain ⟨c1, c2, c3, c4, c5⟩ := Dims.cells hc he k hlt d hd
      have hfit := HX.out.fit k hlt
      rw [hd] at hfit
      have HD := Lib.hid hd
      have HA := Lib.hid hA
      clear hc hd
      subst hA
      cases hv : validE d != 0
      · go_wp2_with fail
        refine (valid_any _ _ hfit).mono ?_
        rintro e w2 ⟨rfl, he2⟩
        go_wp2_with fail
        go_roundw
        case rel => exact ⟨k + 1, by omega, by go_num, by (repeat (first | (with_reducible assumption) | ((with_reducible apply Blk.new_at); focus (first | (simp; done) | (simp; omega))) | with_reducible apply Blk.alloc | with_reducible apply Blk.drew | with_reducible apply Blk.drewN | with_reducible apply Blk.set | ((with_reducible apply Blk.far); case hp => (first | (simp; done) | (dsimp only; omega))) | ((with_reducible apply Blk.ext); case he => with_reducible assumption))), by (repeat (first | (with_reducible assumption) | with_reducible exact Ext.refl _ | with_reducible apply Ext.alloc | with_reducible apply Ext.drew | with_reducible apply Ext.drewN | ((with_reducible apply Ext.set); case hp => (first | (simp; done) | (dsimp only; omega) | omega)) | ((with_reducible apply Ext.trans); case k => with_reducible assumption))), fun j hj => by
          by_cases h : j < k
          · exact hz.out j h
          · obtain rfl : j = k := by omega
            rw [HD.out]; simpa using hv⟩
        case measure => simp [intOf]; omega
      · have hr := Lib.hid (allE_hit HX.out.len k hlt hz.out (by rw [HD.out]; simpa using hv))
        have hr0 : Hid (allE xs ≠ 0) := Lib.hid (by rw [hr.out, HD.out]; simpa using hv)
        go_wp2_with fail
        refine (valid_any _ _ hfit).mono ?_
        rintro e w2 ⟨rfl, he2⟩
        have R2 : Blk w2 (w.heap.size) #[.string ⟨#[]⟩, .string ⟨#[]⟩, .int .i64 0, .int .i64 0, .int .i64 0] 40 := (by (repeat (first | (with_reducible assumption) | ((with_reducible apply Blk.new_at); focus (first | (simp; done) | (simp; omega))) | with_reducible apply Blk.alloc | with_reducible apply Blk.drew | with_reducible apply Blk.drewN | with_reducible apply Blk.set | ((with_reducible apply Blk.far); case hp => (first | (simp; done) | (dsimp only; omega))) | ((with_reducible apply Blk.ext); case he => with_reducible assumption)))); obtain ⟨⟨R21, R22, R23, R24, R25⟩, R26, R27, R28, R29, R210⟩ := R2.c5; have R2lt := R2.lt
        go_wp2_with fail
        refine end_ct rfl rfl _ _ _ _ _ rfl rfl (by (repeat (first | (with_reducible assumption) | ((with_reducible apply Blk.new_at); focus (first | (simp; done) | (simp; omega))) | with_reducible apply Blk.alloc | with_reducible apply Blk.drew | with_reducible apply Blk.drewN | with_reducible apply Blk.set | ((with_reducible apply Blk.far); case hp => (first | (simp; done) | (dsimp only; omega))) | ((with_reducible apply Blk.ext); case he => with_reducible assumption)))) Try.underlying40 rfl (by exact szD) ?_
        refine mkDE _ _ _ _ _ _ _ ?_ ?_ ?_
        · rw [pathD_no (by rw [pathE_1 hr0.out]; exact hr0.out)]; rfl
        · rw [pathE_1 hr0.out, hr.out, HD.out]
        · (repeat (first | (with_reducible assumption) | with_reducible exact Ext.refl _ | with_reducible apply Ext.alloc | with_reducible apply Ext.drew | with_reducible apply Ext.drewN | ((with_reducible apply Ext.set); case hp => (first | (simp; done) | (dsimp only; omega) | omega)) | ((with_reducible apply Ext.trans); case k => with_reducible assumption)))
    · have hr := Lib.hid (allE_none HX.out.len (fun j hj => hz.out j (by omega)))
      obtain ⟨⟨R1, R2, R3, R4, R5⟩, R6, R7, R8, R9, R10⟩ := hR.c5
      by_cases h0 : n = 0
      · subst h0
        go_wp2_with fail
        refine end_ct rfl rfl _ _ _ _ _ rfl rfl (by (repeat (first | (with_reducible assumption) | ((with_reducible apply Blk.new_at); focus (first | (simp; done) | (simp; omega))) | with_reducible apply Blk.alloc | with_reducible apply Blk.drew | with_reducible apply Blk.drewN | with_reducible apply Blk.set | ((with_reducible apply Blk.far); case hp => (first | (simp; done) | (dsimp only; omega))) | ((with_reducible apply Blk.ext); case he => with_reducible assumption)))) Try.underlying40 rfl (by exact szD) ?_
        have e0 := pathE_2 hr.out HX.out.len
        refine mkDE _ _ _ _ _ _ _ ?_ e0 ?_
        · rw [pathD_no (by rw [e0]; decide)]; rfl
        · (repeat (first | (with_reducible assumption) | with_reducible exact Ext.refl _ | with_reducible apply Ext.alloc | with_reducible apply Ext.drew | with_reducible apply Ext.drewN | ((with_reducible apply Ext.set); case hp => (first | (simp; done) | (dsimp only; omega) | omega)) | ((with_reducible apply Ext.trans); case k => with_reducible assumption)))
      · by_cases h1 : 256 < n
        · go_wp2_with fail
          refine end_ct rfl rfl _ _ _ _ _ rfl rfl (by (repeat (first | (with_reducible assumption) | ((with_reducible apply Blk.new_at); focus (first | (simp; done) | (simp; omega))) | with_reducible apply Blk.alloc | with_reducible apply Blk.drew | with_reducible apply Blk.drewN | with_reducible apply Blk.set | ((with_reducible apply Blk.far); case hp => (first | (simp; done) | (dsimp only; omega))) | ((with_reducible apply Blk.ext); case he => with_reducible assumption)))) Try.underlying40 rfl (by exact szD) ?_
          have e0 := pathE_3 hr.out (by rw [HX.out.len]; exact h1)
          refine mkDE _ _ _ _ _ _ _ ?_ e0 ?_
          · rw [pathD_no (by rw [e0]; decide)]; rfl
          · (repeat (first | (with_reducible assumption) | with_reducible exact Ext.refl _ | with_reducible apply Ext.alloc | with_reducible apply Ext.drew | with_reducible apply Ext.drewN | ((with_reducible apply Ext.set); case hp => (first | (simp; done) | (dsimp only; omega) | omega)) | ((with_reducible apply Ext.trans); case k => with_reducible assumption)))
        · have e0 := Lib.hid (pathE_4 hr.out (by rw [HX.out.len]; exact h0) (by rw [HX.out.len]; exact h1))
          have e1 := Lib.hid (pathD_4 hr.out (by rw [HX.out.len]; exact h0) (by rw [HX.out.len]; exact h1))
          go_wp2_with fail
          refine (values_any A n c _).mono ?_
          rintro e w2 ⟨rfl, rfl⟩
          go_wp2_with fail
          refine (joined_any wr.heap.size n c A xs _ (Blk.r1 (t := 42) (by (repeat (first | (with_reducible assumption) | ((with_reducible apply Blk.new_at); focus (first | (simp; done) | (simp; omega))) | with_reducible apply Blk.alloc | with_reducible apply Blk.drew | with_reducible apply Blk.drewN | with_reducible apply Blk.set | ((with_reducible apply Blk.far); case hp => (first | (simp; done) | (dsimp only; omega))) | ((with_reducible apply Blk.ext); case he => with_reducible assumption))))) (HX.out.ext (he.alloc _))).mono ?_
          rintro e w3 ⟨rfl, h3⟩
          have hR3 : Blk w3 w.heap.size #[.string ⟨#[]⟩, .string ⟨#[]⟩, .int .i64 0, .int .i64 0, .int .i64 0] 40 := by (repeat (first | (with_reducible assumption) | ((with_reducible apply Blk.new_at); focus (first | (simp; done) | (simp; omega))) | with_reducible apply Blk.alloc | with_reducible apply Blk.drew | with_reducible apply Blk.drewN | with_reducible apply Blk.set | ((with_reducible apply Blk.far); case hp => (first | (simp; done) | (dsimp only; omega))) | ((with_reducible apply Blk.ext); case he => with_reducible assumption)))
          obtain ⟨⟨Q1, Q2, Q3, Q4, Q5⟩, Q6, Q7, Q8, Q9, Q10⟩ := hR3.c5
          have hlt3 := hR3.lt
          go_wp2_with fail
          refine end_ct rfl rfl _ _ #[.string (stL xs).2.1.frm, .string (stL xs).2.1.to, .int .i64 (stL xs).2.1.axis, .int .i64 (stL xs).2.1.lo, .int .i64 (stL xs).2.1.hi] _ _ rfl rfl (by (apply Blk.is; (case h => (repeat (first | (with_reducible assumption) | ((with_reducible apply Blk.new_at); focus (first | (simp; done) | (simp; omega))) | with_reducible apply Blk.alloc | with_reducible apply Blk.drew | with_reducible apply Blk.drewN | with_reducible apply Blk.set | ((with_reducible apply Blk.far); case hp => (first | (simp; done) | (dsimp only; omega))) | ((with_reducible apply Blk.ext); case he => with_reducible assumption)))); all_goals rfl)) Try.underlying40 rfl (by exact szD) ?_
          exact mkDE _ _ _ _ _ _ _ e1.out e0.out (by (repeat (first | (with_reducible assumption) | with_reducible exact Ext.refl _ | with_reducible apply Ext.alloc | with_reducible apply Ext.drew | with_reducible apply Ext.drewN | ((with_reducible apply Ext.set); case hp => (first | (simp; done) | (dsimp only; omega) | omega)) | ((with_reducible apply Ext.trans); case k => with_reducible assumption))))

theorem stL_none : stL [] = (false, zeroD, 0) := rfl
theorem stL_1 (x : Dim) : stL [x] = (true, x, 0) := rfl
theorem take_succ' {xs : List Dim} {k : Nat} (hk : k < xs.length) : xs.take (k + 1) = xs.take k ++ [xs.getD k zeroD] := by
  rw [List.take_add_one, List.getD_eq_getElem?_getD, List.getElem?_eq_getElem hk]
  rfl
theorem take_1 {xs : List Dim} (h : 0 < xs.length) : xs.take 1 = [xs.getD 0 zeroD] := by rw [take_succ' h]; rfl
theorem stL_take {xs : List Dim} {k : Nat} (h : (stL (xs.take k)).2.2 ≠ 0) : stL xs = stL (xs.take k) := by
  have := stL_app (xs.take k) (xs.drop k) h
  rwa [List.take_append_drop] at this

set_option maxRecDepth 20000 in
set_option maxHeartbeats 4000000 in
theorem rpath_any (A : Option Addr) (n c : Nat) (xs : List Dim) (w : World) (hx : Dims w A n xs) :
    Calls Try.prog 47 #[.slice A n c] w (Ret (.tuple #[.agg #[.string (pathD xs).frm, .string (pathD xs).to, .int .i64 (pathD xs).axis, .int .i64 (pathD xs).lo, .int .i64 (pathD xs).hi], .int .i64 (pathE xs)]) w) := by
  have HX := Lib.hid hx
  have hmx := hx.max
  clear hx
  go_enter Try.func47, Try.ntmps47
  go_wp2_with fail
  go_loopw [4] (fun i wr => ∃ k : Nat, k ≤ n ∧ i = .int .i64 k ∧ Blk wr w.heap.size #[.string ⟨#[]⟩, .string ⟨#[]⟩, .int .i64 0, .int .i64 0, .int .i64 0] 40 ∧ Ext w wr ∧ Hid (∀ j, j < k → validE (xs.getD j zeroD) = 0)) (fun i _ => n - (intOf i).toNat)
  case atStart => exact ⟨0, Nat.zero_le _, rfl, by (repeat (first | (with_reducible assumption) | ((with_reducible apply Blk.new_at); focus (first | (simp; done) | (simp; omega))) | with_reducible apply Blk.alloc | with_reducible apply Blk.drew | with_reducible apply Blk.drewN | with_reducible apply Blk.set | ((with_reducible apply Blk.far); case hp => (first | (simp; done) | (dsimp only; omega))) | ((with_reducible apply Blk.ext); case he => with_reducible assumption))), by (repeat (first | (with_reducible assumption) | with_reducible exact Ext.refl _ | with_reducible apply Ext.alloc | with_reducible apply Ext.drew | with_reducible apply Ext.drewN | ((with_reducible apply Ext.set); case hp => (first | (simp; done) | (dsimp only; omega) | omega)) | ((with_reducible apply Ext.trans); case k => with_reducible assumption))), fun j hj => by omega⟩
  case round =>
    obtain ⟨k, hk, rfl, hR, he, hz⟩ := hrel
    have hs := he.size
    have hRlt := hR.lt
    by_cases hlt : k < n
    · obtain ⟨b, o, hA, hc⟩ := HX.out.at_ (by omega)
      obtain ⟨d, hd⟩ : ∃ d, xs.getD k zeroD = d := ⟨_, rfl⟩
      obtain ⟨c1, c2, c3, c4, c5⟩ := Dims.cells hc he k hlt d hd
      have hfit := HX.out.fit k hlt
      rw [hd] at hfit
      have HD := Lib.hid hd
      have HA := Lib.hid hA
      clear hc hd
      subst hA
      cases hv : validE d != 0
      · go_wp2_with fail
        refine (rvalid_any _ _ hfit).mono ?_
        rintro e w2 ⟨rfl, he2⟩
        go_wp2_with fail
        go_roundw
        case rel => exact ⟨k + 1, by omega, by go_num, by (repeat (first | (with_reducible assumption) | ((with_reducible apply Blk.new_at); focus (first | (simp; done) | (simp; omega))) | with_reducible apply Blk.alloc | with_reducible apply Blk.drew | with_reducible apply Blk.drewN | with_reducible apply Blk.set | ((with_reducible apply Blk.far); case hp => (first | (simp; done) | (dsimp only; omega))) | ((with_reducible apply Blk.ext); case he => with_reducible assumption))), by (repeat (first | (with_reducible assumption) | with_reducible exact Ext.refl _ | with_reducible apply Ext.alloc | with_reducible apply Ext.drew | with_reducible apply Ext.drewN | ((with_reducible apply Ext.set); case hp => (first | (simp; done) | (dsimp only; omega) | omega)) | ((with_reducible apply Ext.trans); case k => with_reducible assumption))), fun j hj => by
          by_cases h : j < k
          · exact hz.out j h
          · obtain rfl : j = k := by omega
            rw [HD.out]; simpa using hv⟩
        case measure => simp [intOf]; omega
      · have hr := Lib.hid (allE_hit HX.out.len k hlt hz.out (by rw [HD.out]; simpa using hv))
        have hr0 : Hid (allE xs ≠ 0) := Lib.hid (by rw [hr.out, HD.out]; simpa using hv)
        go_wp2_with fail
        refine (rvalid_any _ _ hfit).mono ?_
        rintro e w2 ⟨rfl, he2⟩
        have R2 : Blk w2 (w.heap.size) #[.string ⟨#[]⟩, .string ⟨#[]⟩, .int .i64 0, .int .i64 0, .int .i64 0] 40 := (by (repeat (first | (with_reducible assumption) | ((with_reducible apply Blk.new_at); focus (first | (simp; done) | (simp; omega))) | with_reducible apply Blk.alloc | with_reducible apply Blk.drew | with_reducible apply Blk.drewN | with_reducible apply Blk.set | ((with_reducible apply Blk.far); case hp => (first | (simp; done) | (dsimp only; omega))) | ((with_reducible apply Blk.ext); case he => with_reducible assumption)))); obtain ⟨⟨R21, R22, R23, R24, R25⟩, R26, R27, R28, R29, R210⟩ := R2.c5; have R2lt := R2.lt
        go_wp2_with fail
        refine end_ct rfl rfl _ _ _ _ _ rfl rfl (by (repeat (first | (with_reducible assumption) | ((with_reducible apply Blk.new_at); focus (first | (simp; done) | (simp; omega))) | with_reducible apply Blk.alloc | with_reducible apply Blk.drew | with_reducible apply Blk.drewN | with_reducible apply Blk.set | ((with_reducible apply Blk.far); case hp => (first | (simp; done) | (dsimp only; omega))) | ((with_reducible apply Blk.ext); case he => with_reducible assumption)))) Try.underlying40 rfl (by exact szD) ?_
        refine mkDE _ _ _ _ _ _ _ ?_ ?_ ?_
        · rw [pathD_no (by rw [pathE_1 hr0.out]; exact hr0.out)]; rfl
        · rw [pathE_1 hr0.out, hr.out, HD.out]
        · (repeat (first | (with_reducible assumption) | with_reducible exact Ext.refl _ | with_reducible apply Ext.alloc | with_reducible apply Ext.drew | with_reducible apply Ext.drewN | ((with_reducible apply Ext.set); case hp => (first | (simp; done) | (dsimp only; omega) | omega)) | ((with_reducible apply Ext.trans); case k => with_reducible assumption)))
    · have hr := Lib.hid (allE_none HX.out.len (fun j hj => hz.out j (by omega)))
      obtain ⟨⟨R1, R2, R3, R4, R5⟩, R6, R7, R8, R9, R10⟩ := hR.c5
      by_cases h0 : n = 0
      · subst h0
        go_wp2_with fail
        refine end_ct rfl rfl _ _ _ _ _ rfl rfl (by (repeat (first | (with_reducible assumption) | ((with_reducible apply Blk.new_at); focus (first | (simp; done) | (simp; omega))) | with_reducible apply Blk.alloc | with_reducible apply Blk.drew | with_reducible apply Blk.drewN | with_reducible apply Blk.set | ((with_reducible apply Blk.far); case hp => (first | (simp; done) | (dsimp only; omega))) | ((with_reducible apply Blk.ext); case he => with_reducible assumption)))) Try.underlying40 rfl (by exact szD) ?_
        have e0 := pathE_2 hr.out HX.out.len
        refine mkDE _ _ _ _ _ _ _ ?_ e0 ?_
        · rw [pathD_no (by rw [e0]; decide)]; rfl
        · (repeat (first | (with_reducible assumption) | with_reducible exact Ext.refl _ | with_reducible apply Ext.alloc | with_reducible apply Ext.drew | with_reducible apply Ext.drewN | ((with_reducible apply Ext.set); case hp => (first | (simp; done) | (dsimp only; omega) | omega)) | ((with_reducible apply Ext.trans); case k => with_reducible assumption)))
      · by_cases h1 : 256 < n
        · go_wp2_with fail
          refine end_ct rfl rfl _ _ _ _ _ rfl rfl (by (repeat (first | (with_reducible assumption) | ((with_reducible apply Blk.new_at); focus (first | (simp; done) | (simp; omega))) | with_reducible apply Blk.alloc | with_reducible apply Blk.drew | with_reducible apply Blk.drewN | with_reducible apply Blk.set | ((with_reducible apply Blk.far); case hp => (first | (simp; done) | (dsimp only; omega))) | ((with_reducible apply Blk.ext); case he => with_reducible assumption)))) Try.underlying40 rfl (by exact szD) ?_
          have e0 := pathE_3 hr.out (by rw [HX.out.len]; exact h1)
          refine mkDE _ _ _ _ _ _ _ ?_ e0 ?_
          · rw [pathD_no (by rw [e0]; decide)]; rfl
          · (repeat (first | (with_reducible assumption) | with_reducible exact Ext.refl _ | with_reducible apply Ext.alloc | with_reducible apply Ext.drew | with_reducible apply Ext.drewN | ((with_reducible apply Ext.set); case hp => (first | (simp; done) | (dsimp only; omega) | omega)) | ((with_reducible apply Ext.trans); case k => with_reducible assumption)))
        · have e0 := Lib.hid (pathE_4 hr.out (by rw [HX.out.len]; exact h0) (by rw [HX.out.len]; exact h1))
          have e1 := Lib.hid (pathD_4 hr.out (by rw [HX.out.len]; exact h0) (by rw [HX.out.len]; exact h1))
          obtain ⟨b, o, hA, hc⟩ := HX.out.at_ (by omega)
          obtain ⟨d, hd⟩ : ∃ d, xs.getD 0 zeroD = d := ⟨_, rfl⟩
          obtain ⟨c1, c2, c3, c4, c5⟩ := Dims.cells hc he 0 (by omega) d hd
          simp only [Nat.zero_mul, Nat.add_zero] at c1 c2 c3 c4 c5
          have hfit := HX.out.fit 0 (by omega)
          rw [hd] at hfit
          have HD := Lib.hid hd
          have HC := Lib.hid hc
          clear hc hd
          subst hA
          have hS1 : Hid (stL (xs.take 1) = (true, d, 0)) := Lib.hid (by rw [take_1 (by rw [HX.out.len]; omega), HD.out, stL_1])
          have hn0 : (((n : Nat) : Int) == 0) = false := by simp; omega
          obtain ⟨G, hG⟩ : ∃ G, wr.heap.size = G := ⟨_, rfl⟩
          go_wp2_with fail
          go_loopw [7] (fun i w2 => ∃ j : Nat, 1 ≤ j ∧ j ≤ n ∧ i = .int .i64 j ∧ Blk w2 w.heap.size #[.string ⟨#[]⟩, .string ⟨#[]⟩, .int .i64 0, .int .i64 0, .int .i64 0] 40 ∧ (∃ q : Dim, q.fits ∧ Blk w2 G #[.string q.frm, .string q.to, .int .i64 q.axis, .int .i64 q.lo, .int .i64 q.hi] 40 ∧ Hid (stL (xs.take j) = (true, q, 0))) ∧ Ext w w2) (fun i _ => n - (intOf i).toNat)
          case atStart => exact ⟨1, by omega, by omega, rfl, by (repeat (first | (with_reducible assumption) | ((with_reducible apply Blk.new_at); focus (first | (simp; done) | (simp; omega))) | with_reducible apply Blk.alloc | with_reducible apply Blk.drew | with_reducible apply Blk.drewN | with_reducible apply Blk.set | ((with_reducible apply Blk.far); case hp => (first | (simp; done) | (dsimp only; omega))) | ((with_reducible apply Blk.ext); case he => with_reducible assumption))), ⟨d, hfit, Blk.new_at _ _ _ _ hG, hS1⟩, by (repeat (first | (with_reducible assumption) | with_reducible exact Ext.refl _ | with_reducible apply Ext.alloc | with_reducible apply Ext.drew | with_reducible apply Ext.drewN | ((with_reducible apply Ext.set); case hp => (first | (simp; done) | (dsimp only; omega) | omega)) | ((with_reducible apply Ext.trans); case k => with_reducible assumption)))⟩
          case round =>
            obtain ⟨j, hj1, hj, rfl, hR2, ⟨q, hq, hQ, hst⟩, he2⟩ := hrel
            have hs2 := he2.size
            have hR2lt := hR2.lt
            have hQlt := hQ.lt
            have hGw : w.heap.size ≤ G := by omega
            by_cases hlt2 : j < n
            · obtain ⟨x, hx⟩ : ∃ x, xs.getD j zeroD = x := ⟨_, rfl⟩
              obtain ⟨x1, x2, x3, x4, x5⟩ := Dims.cells HC.out he2 j hlt2 x hx
              have hxf := HX.out.fit j hlt2
              rw [hx] at hxf
              have hS2 : Hid (stL (xs.take (j + 1)) = (true, joinD q x, joinE q x)) := Lib.hid (by rw [take_succ' (by rw [HX.out.len]; omega), stL_next (by rw [hst.out]) (by rw [hst.out]), hst.out, hx])
              obtain ⟨⟨q1, q2, q3, q4, q5⟩, q6, q7, q8, q9, q10⟩ := hQ.c5
              obtain ⟨y, hy⟩ : ∃ y, joinD q x = y := ⟨_, rfl⟩
              have hJ := fun w => rjoin_any q x w hq hxf
              have hyf : y.fits := by rw [← hy]; exact joinD_fits hq hxf
              rw [hy] at hS2 hJ
              have HJ := Lib.hid hJ
              have HX2 := Lib.hid hx
              clear hy hx hJ
              go_upto_region 15 with fail
              go_cut [8, 9] from 36 to 55 (fun s8 s9 wc => ∃ g, s8 = .pointer (some ⟨g, 0, none⟩) ∧ s9 = .int .i64 (joinE q x) ∧ Blk wc g #[.string y.frm, .string y.to, .int .i64 y.axis, .int .i64 y.lo, .int .i64 y.hi] 40 ∧ Blk wc G #[.string q.frm, .string q.to, .int .i64 q.axis, .int .i64 q.lo, .int .i64 q.hi] 40 ∧ Blk wc w.heap.size #[.string ⟨#[]⟩, .string ⟨#[]⟩, .int .i64 0, .int .i64 0, .int .i64 0] 40 ∧ Ext w wc)
              case first =>
                go_region_held3 (fun W => (W.cell? ⟨G, 0, none⟩ = some (.string q.frm) ∧ W.cell? ⟨G, 1, none⟩ = some (.string q.to) ∧ W.cell? ⟨G, 2, none⟩ = some (.int .i64 q.axis) ∧ W.cell? ⟨G, 3, none⟩ = some (.int .i64 q.lo) ∧ W.cell? ⟨G, 4, none⟩ = some (.int .i64 q.hi)) ∧
                    (W.cell? ⟨b, o + j * 5, none⟩ = some (.string x.frm) ∧ W.cell? ⟨b, o + j * 5 + 1, none⟩ = some (.string x.to) ∧ W.cell? ⟨b, o + j * 5 + 2, none⟩ = some (.int .i64 x.axis) ∧ W.cell? ⟨b, o + j * 5 + 3, none⟩ = some (.int .i64 x.lo) ∧ W.cell? ⟨b, o + j * 5 + 4, none⟩ = some (.int .i64 x.hi)))
                  (exact ⟨Blk.r5 (t := 40) (by (repeat (first | (with_reducible assumption) | ((with_reducible apply Blk.new_at); focus (first | (simp; done) | (simp; omega))) | with_reducible apply Blk.alloc | with_reducible apply Blk.drew | with_reducible apply Blk.drewN | with_reducible apply Blk.set | ((with_reducible apply Blk.far); case hp => (first | (simp; done) | (dsimp only; omega))) | ((with_reducible apply Blk.ext); case he => with_reducible assumption)))), Dims.cells HC.out (by (repeat (first | (with_reducible assumption) | with_reducible exact Ext.refl _ | with_reducible apply Ext.alloc | with_reducible apply Ext.drew | with_reducible apply Ext.drewN | ((with_reducible apply Ext.set); case hp => (first | (simp; done) | (dsimp only; omega) | omega)) | ((with_reducible apply Ext.trans); case k => with_reducible assumption)))) j hlt2 x HX2.out⟩)
                  (first
                    | (go_at_call 30; refine (HJ.out _).mono ?_; rintro e w3 ⟨rfl, h3⟩; (try (refine (have hN1 : Blk w3 wr.heap.size #[.string ⟨#[]⟩, .string ⟨#[]⟩, .int .i64 0, .int .i64 0, .int .i64 0] 40 := ?_; ?_); (focus ((repeat (first | (with_reducible assumption) | ((with_reducible apply Blk.new_at); focus (first | (simp; done) | (simp; omega))) | with_reducible apply Blk.alloc | with_reducible apply Blk.drew | with_reducible apply Blk.drewN | with_reducible apply Blk.set | ((with_reducible apply Blk.far); case hp => (first | (simp; done) | (dsimp only; omega))) | ((with_reducible apply Blk.ext); case he => with_reducible assumption))); done)); obtain ⟨⟨n1, n2, n3, n4, n5⟩, n6, n7, n8, n9, n10⟩ := hN1.c5; have n11 := hN1.lt))))
                all_goals
                  go_wp2_with fail
                  go_meet
                  exact ⟨_, rfl, rfl, by first | ((repeat (first | (with_reducible assumption) | ((with_reducible apply Blk.new_at); focus (first | (simp; done) | (simp; omega))) | with_reducible apply Blk.alloc | with_reducible apply Blk.drew | with_reducible apply Blk.drewN | with_reducible apply Blk.set | ((with_reducible apply Blk.far); case hp => (first | (simp; done) | (dsimp only; omega))) | ((with_reducible apply Blk.ext); case he => with_reducible assumption))); done) | ((apply Blk.is; (case h => (repeat (first | (with_reducible assumption) | ((with_reducible apply Blk.new_at); focus (first | (simp; done) | (simp; omega))) | with_reducible apply Blk.alloc | with_reducible apply Blk.drew | with_reducible apply Blk.drewN | with_reducible apply Blk.set | ((with_reducible apply Blk.far); case hp => (first | (simp; done) | (dsimp only; omega))) | ((with_reducible apply Blk.ext); case he => with_reducible assumption)))); all_goals rfl); done), by (repeat (first | (with_reducible assumption) | ((with_reducible apply Blk.new_at); focus (first | (simp; done) | (simp; omega))) | with_reducible apply Blk.alloc | with_reducible apply Blk.drew | with_reducible apply Blk.drewN | with_reducible apply Blk.set | ((with_reducible apply Blk.far); case hp => (first | (simp; done) | (dsimp only; omega))) | ((with_reducible apply Blk.ext); case he => with_reducible assumption))), by (repeat (first | (with_reducible assumption) | ((with_reducible apply Blk.new_at); focus (first | (simp; done) | (simp; omega))) | with_reducible apply Blk.alloc | with_reducible apply Blk.drew | with_reducible apply Blk.drewN | with_reducible apply Blk.set | ((with_reducible apply Blk.far); case hp => (first | (simp; done) | (dsimp only; omega))) | ((with_reducible apply Blk.ext); case he => with_reducible assumption))), by (repeat (first | (with_reducible assumption) | with_reducible exact Ext.refl _ | with_reducible apply Ext.alloc | with_reducible apply Ext.drew | with_reducible apply Ext.drewN | ((with_reducible apply Ext.set); case hp => (first | (simp; done) | (dsimp only; omega) | omega)) | ((with_reducible apply Ext.trans); case k => with_reducible assumption)))⟩
              case rest =>
                obtain ⟨g, rfl, rfl, hB, hQ3, hR3, he3⟩ := hcut
                have hlt3 := hR3.lt
                have hlt4 := hB.lt
                have hlt5 := hQ3.lt
                obtain ⟨⟨b1, b2, b3, b4, b5⟩, b6, b7, b8, b9, b10⟩ := hB.c5
                obtain ⟨⟨t1, t2, t3, t4, t5⟩, t6, t7, t8, t9, t10⟩ := hQ3.c5
                obtain ⟨⟨r1, r2, r3, r4, r5⟩, r6, r7, r8, r9, r10⟩ := hR3.c5
                have hs3 := he3.size
                cases hv : joinE q x != 0
                · go_wp2_with fail
                  go_roundw
                  case rel => exact ⟨j + 1, by omega, by omega, by go_num, by (repeat (first | (with_reducible assumption) | ((with_reducible apply Blk.new_at); focus (first | (simp; done) | (simp; omega))) | with_reducible apply Blk.alloc | with_reducible apply Blk.drew | with_reducible apply Blk.drewN | with_reducible apply Blk.set | ((with_reducible apply Blk.far); case hp => (first | (simp; done) | (dsimp only; omega))) | ((with_reducible apply Blk.ext); case he => with_reducible assumption))), ⟨y, hyf, by (apply Blk.is; (case h => (repeat (first | (with_reducible assumption) | ((with_reducible apply Blk.new_at); focus (first | (simp; done) | (simp; omega))) | with_reducible apply Blk.alloc | with_reducible apply Blk.drew | with_reducible apply Blk.drewN | with_reducible apply Blk.set | ((with_reducible apply Blk.far); case hp => (first | (simp; done) | (dsimp only; omega))) | ((with_reducible apply Blk.ext); case he => with_reducible assumption)))); all_goals rfl), by rw [show joinE q x = 0 from by simpa using hv] at hS2; exact hS2⟩, by (repeat (first | (with_reducible assumption) | with_reducible exact Ext.refl _ | with_reducible apply Ext.alloc | with_reducible apply Ext.drew | with_reducible apply Ext.drewN | ((with_reducible apply Ext.set); case hp => (first | (simp; done) | (dsimp only; omega) | omega)) | ((with_reducible apply Ext.trans); case k => with_reducible assumption)))⟩
                  case measure => simp [intOf]; omega
                · have hE : Hid (stL xs = (true, y, joinE q x)) := Lib.hid (by rw [stL_take (by rw [hS2.out]; simpa using hv), hS2.out])
                  go_wp2_with fail
                  refine end_ct rfl rfl _ _ _ _ _ rfl rfl (by (repeat (first | (with_reducible assumption) | ((with_reducible apply Blk.new_at); focus (first | (simp; done) | (simp; omega))) | with_reducible apply Blk.alloc | with_reducible apply Blk.drew | with_reducible apply Blk.drewN | with_reducible apply Blk.set | ((with_reducible apply Blk.far); case hp => (first | (simp; done) | (dsimp only; omega))) | ((with_reducible apply Blk.ext); case he => with_reducible assumption)))) Try.underlying40 rfl (by exact szD) ?_
                  refine mkDE _ _ _ _ _ _ _ ?_ (by rw [e0.out, hE.out]) ?_
                  · rw [pathD_no (by rw [e0.out, hE.out]; simpa using hv)]; rfl
                  · (repeat (first | (with_reducible assumption) | with_reducible exact Ext.refl _ | with_reducible apply Ext.alloc | with_reducible apply Ext.drew | with_reducible apply Ext.drewN | ((with_reducible apply Ext.set); case hp => (first | (simp; done) | (dsimp only; omega) | omega)) | ((with_reducible apply Ext.trans); case k => with_reducible assumption)))
            · obtain rfl : j = n := by omega
              obtain ⟨⟨Z1, Z2, Z3, Z4, Z5⟩, Z6, Z7, Z8, Z9, Z10⟩ := hR2.c5
              obtain ⟨⟨q1, q2, q3, q4, q5⟩, q6, q7, q8, q9, q10⟩ := hQ.c5
              have hfull : Hid (stL xs = (true, q, 0)) := Lib.hid (by have := hst.out; rwa [← HX.out.len, List.take_length] at this)
              go_wp2_with fail
              refine end_ct rfl rfl _ _ #[.string q.frm, .string q.to, .int .i64 q.axis, .int .i64 q.lo, .int .i64 q.hi] _ _ rfl rfl (by (apply Blk.is; (case h => (repeat (first | (with_reducible assumption) | ((with_reducible apply Blk.new_at); focus (first | (simp; done) | (simp; omega))) | with_reducible apply Blk.alloc | with_reducible apply Blk.drew | with_reducible apply Blk.drewN | with_reducible apply Blk.set | ((with_reducible apply Blk.far); case hp => (first | (simp; done) | (dsimp only; omega))) | ((with_reducible apply Blk.ext); case he => with_reducible assumption)))); all_goals rfl)) Try.underlying40 rfl (by exact szD) ?_
              exact mkDE _ _ _ _ _ _ _ (by rw [e1.out, hfull.out]) (by rw [e0.out, hfull.out]) (by (repeat (first | (with_reducible assumption) | with_reducible exact Ext.refl _ | with_reducible apply Ext.alloc | with_reducible apply Ext.drew | with_reducible apply Ext.drewN | ((with_reducible apply Ext.set); case hp => (first | (simp; done) | (dsimp only; omega) | omega)) | ((with_reducible apply Ext.trans); case k => with_reducible assumption))))
end Go.Proofs.Ytdcedfciaaooiaa
