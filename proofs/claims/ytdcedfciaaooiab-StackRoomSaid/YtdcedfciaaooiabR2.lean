/- Names and dimensions of the reference of layer 17. -/
import Derived.Test.YtdcedfciaaooiabR1
import Derived.Test.YtdcedfciaaooiabX5
set_option linter.unusedVariables false
namespace Go.Proofs.Ytdcedfciaaooiab
open Go.RowKit

theorem rletter_any (c : Int) (w : World) : Calls Try.prog 110 #[.int .u8 c] w fun e w' => e = .returned (.bool (letterB c)) ∧ w = w' := by
  have hx : (65 ≤ c ∧ c ≤ 90) ∨ (97 ≤ c ∧ c ≤ 122) ∨ c < 65 ∨ (90 < c ∧ c < 97) ∨ 122 < c := by omega
  rcases hx with h | h | h | h | h
  all_goals
    go_enter Try.func110, Try.ntmps110
    go_wp2
    go_ret
    exact ⟨retb (by rw [Bool.eq_iff_iff]; simp [letterB] <;> omega), rfl⟩

set_option maxRecDepth 100000 in
set_option maxHeartbeats 2000000 in
theorem rname_any (s : ByteArray) (w : World) (hs : s.size ≤ 9223372036854775807) : Calls Try.prog 104 #[.string s] w (Ret (.int .i64 (nameE s)) w) := by
  by_cases h1 : 24 < s.size
  · have hr := Lib.hid (nameE_long h1)
    go_enter Try.func104, Try.ntmps104
    go_wp2_with fail
    go_ret
    exact Ret.int hr.out.symm (by (repeat (first | (with_reducible assumption) | with_reducible exact Ext.refl _ | with_reducible apply Ext.alloc | with_reducible apply Ext.drew | with_reducible apply Ext.drewN | ((with_reducible apply Ext.set); case hp => (first | (simp; done) | (dsimp only; omega) | omega)) | ((with_reducible apply Ext.trans); case k => with_reducible assumption))))
  by_cases h2 : s.size = 0
  · have hr := Lib.hid (nameE_empty h2)
    have hz : (((s.size : Nat) : Int) == 0) = true := by rw [beq_iff_eq]; omega
    clear h2
    go_enter Try.func104, Try.ntmps104
    go_wp2_with fail
    go_ret
    exact Ret.int hr.out.symm (by (repeat (first | (with_reducible assumption) | with_reducible exact Ext.refl _ | with_reducible apply Ext.alloc | with_reducible apply Ext.drew | with_reducible apply Ext.drewN | ((with_reducible apply Ext.set); case hp => (first | (simp; done) | (dsimp only; omega) | omega)) | ((with_reducible apply Ext.trans); case k => with_reducible assumption))))
  have h0 : 0 < s.size := by omega
  have hnz : (((s.size : Nat) : Int) == 0) = false := by rw [beq_eq_false_iff_ne]; omega
  have hbt : bt s 0 = ((s[0]'h0).toNat : Int) := by simp [bt, h0]
  clear h2
  cases hl : letterB (bt s 0)
  · have hr := Lib.hid (nameE_first h1 hl)
    rw [hbt] at hl
    clear hbt
    go_enter Try.func104, Try.ntmps104
    go_wp2_with (go_at_call 110; refine (rletter_any _ _).mono ?_; rintro e w' ⟨rfl, rfl⟩)
    go_ret
    exact Ret.int hr.out.symm (by (repeat (first | (with_reducible assumption) | with_reducible exact Ext.refl _ | with_reducible apply Ext.alloc | with_reducible apply Ext.drew | with_reducible apply Ext.drewN | ((with_reducible apply Ext.set); case hp => (first | (simp; done) | (dsimp only; omega) | omega)) | ((with_reducible apply Ext.trans); case k => with_reducible assumption))))
  · have hl' := Lib.hid hl
    rw [hbt] at hl
    clear hbt
    go_enter Try.func104, Try.ntmps104
    go_wp2_with (go_at_call 110; refine (rletter_any _ _).mono ?_; rintro e w' ⟨rfl, rfl⟩)
    go_loop [3] (fun i => ∃ k : Nat, k ≤ s.size ∧ i = .int .i64 k ∧ Hid (∀ j, j < k → okB (bt s j) = true)) (fun i => s.size - (intOf i).toNat)
    case atStart => exact ⟨0, Nat.zero_le _, rfl, fun j hj => by omega⟩
    case round =>
      obtain ⟨k, hk, rfl, ha⟩ := hrel
      by_cases hlt : k < s.size
      · have hbk := Lib.hid (show bt s k = ((s[k]'hlt).toNat : Int) by simp [bt, hlt])
        clear hl
        have step : okB (bt s k) = true → Hid (∀ j, j < k + 1 → okB (bt s j) = true) := fun hok j hj => by
          by_cases h : j < k
          · exact ha.out j h
          · obtain rfl : j = k := by omega
            exact hok
        have step := Lib.hid step
        cases h3 : letterB ((s[k]'hlt).toNat : Int)
        · have hx : ((s[k]'hlt).toNat : Int) < 48 ∨ (¬ ((s[k]'hlt).toNat : Int) < 48 ∧ 57 < ((s[k]'hlt).toNat : Int)) ∨ (¬ ((s[k]'hlt).toNat : Int) < 48 ∧ ¬ 57 < ((s[k]'hlt).toNat : Int)) := by omega
          rcases hx with h4 | ⟨h4, h5⟩ | ⟨h4, h5⟩
          · have hr := Lib.hid (nameE_bad h1 k hlt (by rw [hbk.out]; simp [okB, h3, digitB]; omega))
            go_wp2_with (go_at_call 110; refine (rletter_any _ _).mono ?_; rintro e w' ⟨rfl, rfl⟩)
            go_ret
            exact Ret.int hr.out.symm (by (repeat (first | (with_reducible assumption) | with_reducible exact Ext.refl _ | with_reducible apply Ext.alloc | with_reducible apply Ext.drew | with_reducible apply Ext.drewN | ((with_reducible apply Ext.set); case hp => (first | (simp; done) | (dsimp only; omega) | omega)) | ((with_reducible apply Ext.trans); case k => with_reducible assumption))))
          · have hr := Lib.hid (nameE_bad h1 k hlt (by rw [hbk.out]; simp [okB, h3, digitB]; omega))
            go_wp2_with (go_at_call 110; refine (rletter_any _ _).mono ?_; rintro e w' ⟨rfl, rfl⟩)
            go_ret
            exact Ret.int hr.out.symm (by (repeat (first | (with_reducible assumption) | with_reducible exact Ext.refl _ | with_reducible apply Ext.alloc | with_reducible apply Ext.drew | with_reducible apply Ext.drewN | ((with_reducible apply Ext.set); case hp => (first | (simp; done) | (dsimp only; omega) | omega)) | ((with_reducible apply Ext.trans); case k => with_reducible assumption))))
          · have hok := Lib.hid (show okB (bt s k) = true by rw [hbk.out]; simp [okB, digitB]; omega)
            go_wp2_with (go_at_call 110; refine (rletter_any _ _).mono ?_; rintro e w' ⟨rfl, rfl⟩)
            go_round
            case rel => exact ⟨k + 1, by omega, by go_num, step.out hok.out⟩
            case measure => simp [intOf]; omega
        · have hok := Lib.hid (show okB (bt s k) = true by rw [hbk.out]; simp [okB, h3])
          go_wp2_with (go_at_call 110; refine (rletter_any _ _).mono ?_; rintro e w' ⟨rfl, rfl⟩)
          go_round
          case rel => exact ⟨k + 1, by omega, by go_num, step.out hok.out⟩
          case measure => simp [intOf]; omega
      · have hr := Lib.hid (nameE_good h1 h0 hl'.out (fun j hj => ha.out j (by omega)))
        go_wp2_with fail
        go_ret
        exact Ret.int hr.out.symm (by (repeat (first | (with_reducible assumption) | with_reducible exact Ext.refl _ | with_reducible apply Ext.alloc | with_reducible apply Ext.drew | with_reducible apply Ext.drewN | ((with_reducible apply Ext.set); case hp => (first | (simp; done) | (dsimp only; omega) | omega)) | ((with_reducible apply Ext.trans); case k => with_reducible assumption))))

theorem validE_1 {d : Dim} (h : nameE d.frm ≠ 0) : validE d = nameE d.frm := by simp [validE, firstE, h]
theorem validE_2 {d : Dim} (h : nameE d.frm = 0) (h2 : nameE d.to ≠ 0) : validE d = nameE d.to := by simp [validE, firstE, h, h2]
theorem validE_3 {d : Dim} (h : nameE d.frm = 0) (h2 : nameE d.to = 0) (h3 : midE d ≠ 0) : validE d = midE d := by simp [validE, firstE, h, h2, h3]
theorem validE_4 {d : Dim} (h : nameE d.frm = 0) (h2 : nameE d.to = 0) (h3 : midE d = 0) : validE d = chk d.lo d.hi := by
  simp only [validE, firstE, h, h2, h3, if_true]
  split
  · rename_i h; rw [h]
  · rfl

set_option maxHeartbeats 2000000 in
theorem rvalid_any (d : Dim) (w : World) (hd : d.fits) : Calls Try.prog 102 #[.agg #[.string d.frm, .string d.to, .int .i64 d.axis, .int .i64 d.lo, .int .i64 d.hi]] w (Ret (.int .i64 (validE d)) w) := by
  cases h1 : nameE d.frm != 0
  case true =>
    have hz := Lib.hid (validE_1 (by simpa using h1))
    go_enter Try.func102, Try.ntmps102
    go_wp2_with fail; refine (rname_any _ _ hd.1).mono ?_; rintro e w2 ⟨rfl, hb⟩
    go_wp2_with fail
    go_ret
    exact Ret.int hz.out.symm (by (repeat (first | (with_reducible assumption) | with_reducible exact Ext.refl _ | with_reducible apply Ext.alloc | with_reducible apply Ext.drew | with_reducible apply Ext.drewN | ((with_reducible apply Ext.set); case hp => (first | (simp; done) | (dsimp only; omega) | omega)) | ((with_reducible apply Ext.trans); case k => with_reducible assumption))))
  have z1 := Lib.hid (show nameE d.frm = 0 by simpa using h1)
  cases h2 : nameE d.to != 0
  case true =>
    have hz := Lib.hid (validE_2 z1.out (by simpa using h2))
    go_enter Try.func102, Try.ntmps102
    go_wp2_with fail; refine (rname_any _ _ hd.1).mono ?_; rintro e w2 ⟨rfl, hb⟩
    have A : Blk w2 (w.heap.size) #[.string d.frm, .string d.to, .int .i64 d.axis, .int .i64 d.lo, .int .i64 d.hi] 62 := (by (repeat (first | (with_reducible assumption) | ((with_reducible apply Blk.new_at); focus (first | (simp; done) | (simp; omega))) | with_reducible apply Blk.alloc | with_reducible apply Blk.drew | with_reducible apply Blk.drewN | with_reducible apply Blk.set | ((with_reducible apply Blk.far); case hp => (first | (simp; done) | (dsimp only; omega))) | ((with_reducible apply Blk.ext); case he => with_reducible assumption)))); obtain ⟨⟨A1, A2, A3, A4, A5⟩, A6, A7, A8, A9, A10⟩ := A.c5; have Alt := A.lt
    go_wp2_with fail; refine (rname_any _ _ hd.2).mono ?_; rintro e w3 ⟨rfl, hb2⟩
    go_wp2_with fail
    go_ret
    exact Ret.int hz.out.symm (by (repeat (first | (with_reducible assumption) | with_reducible exact Ext.refl _ | with_reducible apply Ext.alloc | with_reducible apply Ext.drew | with_reducible apply Ext.drewN | ((with_reducible apply Ext.set); case hp => (first | (simp; done) | (dsimp only; omega) | omega)) | ((with_reducible apply Ext.trans); case k => with_reducible assumption))))
  have z2 := Lib.hid (show nameE d.to = 0 by simpa using h2)
  cases hs : (d.frm.toList == d.to.toList)
  case true =>
    have hm : midE d = 7 := by simp [midE, sameS, hs]
    have hz := Lib.hid ((validE_3 z1.out z2.out (by rw [hm]; decide)).trans hm)
    clear hm
    go_enter Try.func102, Try.ntmps102
    go_wp2_with fail; refine (rname_any _ _ hd.1).mono ?_; rintro e w2 ⟨rfl, hb⟩
    have A : Blk w2 (w.heap.size) #[.string d.frm, .string d.to, .int .i64 d.axis, .int .i64 d.lo, .int .i64 d.hi] 62 := (by (repeat (first | (with_reducible assumption) | ((with_reducible apply Blk.new_at); focus (first | (simp; done) | (simp; omega))) | with_reducible apply Blk.alloc | with_reducible apply Blk.drew | with_reducible apply Blk.drewN | with_reducible apply Blk.set | ((with_reducible apply Blk.far); case hp => (first | (simp; done) | (dsimp only; omega))) | ((with_reducible apply Blk.ext); case he => with_reducible assumption)))); obtain ⟨⟨A1, A2, A3, A4, A5⟩, A6, A7, A8, A9, A10⟩ := A.c5; have Alt := A.lt
    go_wp2_with fail; refine (rname_any _ _ hd.2).mono ?_; rintro e w3 ⟨rfl, hb2⟩
    have B : Blk w3 (w.heap.size) #[.string d.frm, .string d.to, .int .i64 d.axis, .int .i64 d.lo, .int .i64 d.hi] 62 := (by (repeat (first | (with_reducible assumption) | ((with_reducible apply Blk.new_at); focus (first | (simp; done) | (simp; omega))) | with_reducible apply Blk.alloc | with_reducible apply Blk.drew | with_reducible apply Blk.drewN | with_reducible apply Blk.set | ((with_reducible apply Blk.far); case hp => (first | (simp; done) | (dsimp only; omega))) | ((with_reducible apply Blk.ext); case he => with_reducible assumption)))); obtain ⟨⟨B1, B2, B3, B4, B5⟩, B6, B7, B8, B9, B10⟩ := B.c5; have Blt := B.lt
    go_wp2_with fail
    go_ret
    exact Ret.int hz.out.symm (by (repeat (first | (with_reducible assumption) | with_reducible exact Ext.refl _ | with_reducible apply Ext.alloc | with_reducible apply Ext.drew | with_reducible apply Ext.drewN | ((with_reducible apply Ext.set); case hp => (first | (simp; done) | (dsimp only; omega) | omega)) | ((with_reducible apply Ext.trans); case k => with_reducible assumption))))
  by_cases h3 : d.axis < 0
  case pos =>
    have hm : midE d = 1 := by simp [midE, sameS, hs, h3]
    have hz := Lib.hid ((validE_3 z1.out z2.out (by rw [hm]; decide)).trans hm)
    clear hm
    go_enter Try.func102, Try.ntmps102
    go_wp2_with fail; refine (rname_any _ _ hd.1).mono ?_; rintro e w2 ⟨rfl, hb⟩
    have A : Blk w2 (w.heap.size) #[.string d.frm, .string d.to, .int .i64 d.axis, .int .i64 d.lo, .int .i64 d.hi] 62 := (by (repeat (first | (with_reducible assumption) | ((with_reducible apply Blk.new_at); focus (first | (simp; done) | (simp; omega))) | with_reducible apply Blk.alloc | with_reducible apply Blk.drew | with_reducible apply Blk.drewN | with_reducible apply Blk.set | ((with_reducible apply Blk.far); case hp => (first | (simp; done) | (dsimp only; omega))) | ((with_reducible apply Blk.ext); case he => with_reducible assumption)))); obtain ⟨⟨A1, A2, A3, A4, A5⟩, A6, A7, A8, A9, A10⟩ := A.c5; have Alt := A.lt
    go_wp2_with fail; refine (rname_any _ _ hd.2).mono ?_; rintro e w3 ⟨rfl, hb2⟩
    have B : Blk w3 (w.heap.size) #[.string d.frm, .string d.to, .int .i64 d.axis, .int .i64 d.lo, .int .i64 d.hi] 62 := (by (repeat (first | (with_reducible assumption) | ((with_reducible apply Blk.new_at); focus (first | (simp; done) | (simp; omega))) | with_reducible apply Blk.alloc | with_reducible apply Blk.drew | with_reducible apply Blk.drewN | with_reducible apply Blk.set | ((with_reducible apply Blk.far); case hp => (first | (simp; done) | (dsimp only; omega))) | ((with_reducible apply Blk.ext); case he => with_reducible assumption)))); obtain ⟨⟨B1, B2, B3, B4, B5⟩, B6, B7, B8, B9, B10⟩ := B.c5; have Blt := B.lt
    go_wp2_with fail
    go_ret
    exact Ret.int hz.out.symm (by (repeat (first | (with_reducible assumption) | with_reducible exact Ext.refl _ | with_reducible apply Ext.alloc | with_reducible apply Ext.drew | with_reducible apply Ext.drewN | ((with_reducible apply Ext.set); case hp => (first | (simp; done) | (dsimp only; omega) | omega)) | ((with_reducible apply Ext.trans); case k => with_reducible assumption))))
  by_cases h4 : 3 ≤ d.axis
  case pos =>
    have hm : midE d = 1 := by simp [midE, sameS, hs, h4]
    have hz := Lib.hid ((validE_3 z1.out z2.out (by rw [hm]; decide)).trans hm)
    clear hm
    go_enter Try.func102, Try.ntmps102
    go_wp2_with fail; refine (rname_any _ _ hd.1).mono ?_; rintro e w2 ⟨rfl, hb⟩
    have A : Blk w2 (w.heap.size) #[.string d.frm, .string d.to, .int .i64 d.axis, .int .i64 d.lo, .int .i64 d.hi] 62 := (by (repeat (first | (with_reducible assumption) | ((with_reducible apply Blk.new_at); focus (first | (simp; done) | (simp; omega))) | with_reducible apply Blk.alloc | with_reducible apply Blk.drew | with_reducible apply Blk.drewN | with_reducible apply Blk.set | ((with_reducible apply Blk.far); case hp => (first | (simp; done) | (dsimp only; omega))) | ((with_reducible apply Blk.ext); case he => with_reducible assumption)))); obtain ⟨⟨A1, A2, A3, A4, A5⟩, A6, A7, A8, A9, A10⟩ := A.c5; have Alt := A.lt
    go_wp2_with fail; refine (rname_any _ _ hd.2).mono ?_; rintro e w3 ⟨rfl, hb2⟩
    have B : Blk w3 (w.heap.size) #[.string d.frm, .string d.to, .int .i64 d.axis, .int .i64 d.lo, .int .i64 d.hi] 62 := (by (repeat (first | (with_reducible assumption) | ((with_reducible apply Blk.new_at); focus (first | (simp; done) | (simp; omega))) | with_reducible apply Blk.alloc | with_reducible apply Blk.drew | with_reducible apply Blk.drewN | with_reducible apply Blk.set | ((with_reducible apply Blk.far); case hp => (first | (simp; done) | (dsimp only; omega))) | ((with_reducible apply Blk.ext); case he => with_reducible assumption)))); obtain ⟨⟨B1, B2, B3, B4, B5⟩, B6, B7, B8, B9, B10⟩ := B.c5; have Blt := B.lt
    go_wp2_with fail
    go_ret
    exact Ret.int hz.out.symm (by (repeat (first | (with_reducible assumption) | with_reducible exact Ext.refl _ | with_reducible apply Ext.alloc | with_reducible apply Ext.drew | with_reducible apply Ext.drewN | ((with_reducible apply Ext.set); case hp => (first | (simp; done) | (dsimp only; omega) | omega)) | ((with_reducible apply Ext.trans); case k => with_reducible assumption))))
  case neg =>
    have hm : midE d = 0 := by simp [midE, sameS, hs, h3, h4]
    have hz := Lib.hid (validE_4 z1.out z2.out hm)
    clear hm
    go_enter Try.func102, Try.ntmps102
    go_wp2_with fail; refine (rname_any _ _ hd.1).mono ?_; rintro e w2 ⟨rfl, hb⟩
    have A : Blk w2 (w.heap.size) #[.string d.frm, .string d.to, .int .i64 d.axis, .int .i64 d.lo, .int .i64 d.hi] 62 := (by (repeat (first | (with_reducible assumption) | ((with_reducible apply Blk.new_at); focus (first | (simp; done) | (simp; omega))) | with_reducible apply Blk.alloc | with_reducible apply Blk.drew | with_reducible apply Blk.drewN | with_reducible apply Blk.set | ((with_reducible apply Blk.far); case hp => (first | (simp; done) | (dsimp only; omega))) | ((with_reducible apply Blk.ext); case he => with_reducible assumption)))); obtain ⟨⟨A1, A2, A3, A4, A5⟩, A6, A7, A8, A9, A10⟩ := A.c5; have Alt := A.lt
    go_wp2_with fail; refine (rname_any _ _ hd.2).mono ?_; rintro e w3 ⟨rfl, hb2⟩
    have B : Blk w3 (w.heap.size) #[.string d.frm, .string d.to, .int .i64 d.axis, .int .i64 d.lo, .int .i64 d.hi] 62 := (by (repeat (first | (with_reducible assumption) | ((with_reducible apply Blk.new_at); focus (first | (simp; done) | (simp; omega))) | with_reducible apply Blk.alloc | with_reducible apply Blk.drew | with_reducible apply Blk.drewN | with_reducible apply Blk.set | ((with_reducible apply Blk.far); case hp => (first | (simp; done) | (dsimp only; omega))) | ((with_reducible apply Blk.ext); case he => with_reducible assumption)))); obtain ⟨⟨B1, B2, B3, B4, B5⟩, B6, B7, B8, B9, B10⟩ := B.c5; have Blt := B.lt
    go_wp2_with fail
    refine (rcheck_any _ _ _).mono ?_
    rintro e w4 ⟨rfl, hb3⟩
    go_wp2_with fail
    go_ret
    exact Ret.int hz.out.symm (by (repeat (first | (with_reducible assumption) | with_reducible exact Ext.refl _ | with_reducible apply Ext.alloc | with_reducible apply Ext.drew | with_reducible apply Ext.drewN | ((with_reducible apply Ext.set); case hp => (first | (simp; done) | (dsimp only; omega) | omega)) | ((with_reducible apply Ext.trans); case k => with_reducible assumption))))

theorem mkD {d : Dim} {w : World} : ∀ a b c x y w', d = ⟨a, b, c, x, y⟩ → Ext w w' → Ret (.agg #[.string d.frm, .string d.to, .int .i64 d.axis, .int .i64 d.lo, .int .i64 d.hi]) w (.returned (.agg #[.string a, .string b, .int .i64 c, .int .i64 x, .int .i64 y])) w' := by
  rintro _ _ _ _ _ w' rfl h; exact ⟨rfl, h⟩
end Go.Proofs.Ytdcedfciaaooiab
