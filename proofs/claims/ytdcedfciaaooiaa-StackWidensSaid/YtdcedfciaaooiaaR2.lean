/- Names and dimensions of the reference of layer 17. -/
import Derived.Test.YtdcedfciaaooiaaR1
import Derived.Test.YtdcedfciaaooiaaX5
set_option linter.unusedVariables false
namespace Go.Proofs.Ytdcedfciaaooiaa
open Go.RowKit

theorem rletter_any (c : Int) (w : World) : Calls Try.prog 69 #[.int .u8 c] w fun e w' => e = .returned (.bool (letterB c)) ∧ w = w' := by
  have hx : (65 ≤ c ∧ c ≤ 90) ∨ (97 ≤ c ∧ c ≤ 122) ∨ c < 65 ∨ (90 < c ∧ c < 97) ∨ 122 < c := by omega
  rcases hx with h | h | h | h | h
  all_goals
    go_enter Try.func69, Try.ntmps69
    go_wp2
    go_ret
    exact ⟨retb (by rw [Bool.eq_iff_iff]; simp [letterB] <;> omega), rfl⟩

set_option maxRecDepth 100000 in
set_option maxHeartbeats 2000000 in
theorem rname_any (s : ByteArray) (w : World) (hs : s.size ≤ 9223372036854775807) : Calls Try.prog 19 #[.string s] w (Ret (.int .i64 (nameE s)) w) := by
  by_cases h1 : 24 < s.size
  · have hr := Lib.hid (nameE_long h1)
    go_enter Try.func19, Try.ntmps19
    go_wp2_with fail
    go_ret
    exact Ret.int hr.out.symm (by (repeat (first | (with_reducible assumption) | with_reducible exact Ext.refl _ | with_reducible apply Ext.alloc | with_reducible apply Ext.drew | with_reducible apply Ext.drewN | ((with_reducible apply Ext.set); case hp => (first | (simp; done) | (dsimp only; omega) | omega)) | ((with_reducible apply Ext.trans); case k => with_reducible assumption))))
  by_cases h2 : s.size = 0
  · have hr := Lib.hid (nameE_empty h2)
    have hz : (((s.size : Nat) : Int) == 0) = true := by rw [beq_iff_eq]; omega
    clear h2
    go_enter Try.func19, Try.ntmps19
    go_wp2_with fail
    go_ret
    exact Ret.int hr.out.symm (by (repeat (first | (with_reducible assumption) | with_reducible exact Ext.refl _ | with_reducible apply Ext.alloc | with_reducible apply Ext.drew | with_reducible apply Ext.drewN | ((with_reducible apply Ext.set); case hp => (first | (simp; done) | (dsimp only; omega) | omega)) | ((with_reducible apply Ext.trans); case k => with_reducible assumption))))
  have h0 : 0 < s.size := by omega
  have hnz : (((s.size : Nat) : Int) == 0) = false := by rw [beq_eq_false_iff_ne]; omega
  have hbt : bt s 0 = ((s[0]'h0).toNat : Int) := by simp [bt, h0]
  clear h2
  cases hl : letterB (bt s 0)
  · have hr := Lib.hid (nameE_first h1 hl)
    rw [hbt] at hl
    clear hbt
    go_enter Try.func19, Try.ntmps19
    go_wp2_with (go_at_call 69; refine (rletter_any _ _).mono ?_; rintro e w' ⟨rfl, rfl⟩)
    go_ret
    exact Ret.int hr.out.symm (by (repeat (first | (with_reducible assumption) | with_reducible exact Ext.refl _ | with_reducible apply Ext.alloc | with_reducible apply Ext.drew | with_reducible apply Ext.drewN | ((with_reducible apply Ext.set); case hp => (first | (simp; done) | (dsimp only; omega) | omega)) | ((with_reducible apply Ext.trans); case k => with_reducible assumption))))
  · have hl' := Lib.hid hl
    rw [hbt] at hl
    clear hbt
    go_enter Try.func19, Try.ntmps19
    go_wp2_with (go_at_call 69; refine (rletter_any _ _).mono ?_; rintro e w' ⟨rfl, rfl⟩)
    go_loop [3] (fun i => ∃ k : Nat, k ≤ s.size ∧ i = .int .i64 k ∧ Hid (∀ j, j < k → okB (bt s j) = true)) (fun i => s.size - (intOf i).toNat)
    case atStart => exact ⟨0, Nat.zero_le _, rfl, fun j hj => by omega⟩
    case round =>
      obtain ⟨k, hk, rfl, ha⟩ := hrel
      by_cases hlt : k < s.size
      · have hbk := Lib.hid (show bt s k = ((s[k]'hlt).toNat : Int) by simp [bt, hlt])
        clear hl
        have step : okB (bt s k) = true → Hid (∀ j, j < k + 1 → okB (bt s j) = true) := fun hok j hj => by
          by_cases h : j < k
          · exact ha.out j h
          · obtain rfl : j = k := by omega
            exact hok
        have step := Lib.hid step
        cases h3 : letterB ((s[k]'hlt).toNat : Int)
        · have hx : ((s[k]'hlt).toNat : Int) < 48 ∨ (¬ ((s[k]'hlt).toNat : Int) < 48 ∧ 57 < ((s[k]'hlt).toNat : Int)) ∨ (¬ ((s[k]'hlt).toNat : Int) < 48 ∧ ¬ 57 < ((s[k]'hlt).toNat : Int)) := by omega
          rcases hx with h4 | ⟨h4, h5⟩ | ⟨h4, h5⟩
          · have hr := Lib.hid (nameE_bad h1 k hlt (by rw [hbk.out]; simp [okB, h3, digitB]; omega))
            go_wp2_with (go_at_call 69; refine (rletter_any _ _).mono ?_; rintro e w' ⟨rfl, rfl⟩)
            go_ret
            exact Ret.int hr.out.symm (by (repeat (first | (with_reducible assumption) | with_reducible exact Ext.refl _ | with_reducible apply Ext.alloc | with_reducible apply Ext.drew | with_reducible apply Ext.drewN | ((with_reducible apply Ext.set); case hp => (first | (simp; done) | (dsimp only; omega) | omega)) | ((with_reducible apply Ext.trans); case k => with_reducible assumption))))
          · have hr := Lib.hid (nameE_bad h1 k hlt (by rw [hbk.out]; simp [okB, h3, digitB]; omega))
            go_wp2_with (go_at_call 69; refine (rletter_any _ _).mono ?_; rintro e w' ⟨rfl, rfl⟩)
            go_ret
            exact Ret.int hr.out.symm (by (repeat (first | (with_reducible assumption) | with_reducible exact Ext.refl _ | with_reducible apply Ext.alloc | with_reducible apply Ext.drew | with_reducible apply Ext.drewN | ((with_reducible apply Ext.set); case hp => (first | (simp; done) | (dsimp only; omega) | omega)) | ((with_reducible apply Ext.trans); case k => with_reducible assumption))))
          · have hok := Lib.hid (show okB (bt s k) = true by rw [hbk.out]; simp [okB, digitB]; omega)
            go_wp2_with (go_at_call 69; refine (rletter_any _ _).mono ?_; rintro e w' ⟨rfl, rfl⟩)
            go_round
            case rel => exact ⟨k + 1, by omega, by go_num, step.out hok.out⟩
            case measure => simp [intOf]; omega
        · have hok := Lib.hid (show okB (bt s k) = true by rw [hbk.out]; simp [okB, h3])
          go_wp2_with (go_at_call 69; refine (rletter_any _ _).mono ?_; rintro e w' ⟨rfl, rfl⟩)
          go_round
          case rel => exact ⟨k + 1, by omega, by go_num, step.out hok.out⟩
          case measure => simp [intOf]; omega
      · have hr := Lib.hid (nameE_good h1 h0 hl'.out (fun j hj => ha.out j (by omega)))
        go_wp2_with fail
        go_ret
        exact Ret.int hr.out.symm (by (repeat (first | (with_reducible assumption) | with_reducible exact Ext.refl _ | with_reducible apply Ext.alloc | with_reducible apply Ext.drew | with_reducible apply Ext.drewN | ((with_reducible apply Ext.set); case hp => (first | (simp; done) | (dsimp only; omega) | omega)) | ((with_reducible apply Ext.trans); case k => with_reducible assumption))))

theorem validE_1 {d : Dim} (h : nameE d.frm ≠ 0) : validE d = nameE d.frm := by simp [validE, firstE, h]
theorem validE_2 {d : Dim} (h : nameE d.frm = 0) (h2 : nameE d.to ≠ 0) : validE d = nameE d.to := by simp [validE, firstE, h, h2]
theorem validE_3 {d : Dim} (h : nameE d.frm = 0) (h2 : nameE d.to = 0) (h3 : midE d ≠ 0) : validE d = midE d := by simp [validE, firstE, h, h2, h3]
theorem validE_4 {d : Dim} (h : nameE d.frm = 0) (h2 : nameE d.to = 0) (h3 : midE d = 0) : validE d = chk d.lo d.hi := by
  simp only [validE, firstE, h, h2, h3, if_true]
  split
  · rename_i h; rw [h]
  · rfl

set_option maxHeartbeats 2000000 in
theorem rvalid_any (d : Dim) (w : World) (hd : d.fits) : Calls Try.prog 32 #[.agg #[.string d.frm, .string d.to, .int .i64 d.axis, .int .i64 d.lo, .int .i64 d.hi]] w (Ret (.int .i64 (validE d)) w) := by
  cases h1 : nameE d.frm != 0
  case true =>
    have hz := Lib.hid (validE_1 (by simpa using h1))
    go_enter Try.func32, Try.ntmps32
    go_wp2_with fail; refine (rname_any _ _ hd.1).mono ?_; rintro e w2 ⟨rfl, hb⟩
    go_wp2_with fail
    go_ret
    exact Ret.int hz.out.symm (by (repeat (first | (with_reducible assumption) | with_reducible exact Ext.refl _ | with_reducible apply Ext.alloc | with_reducible apply Ext.drew | with_reducible apply Ext.drewN | ((with_reducible apply Ext.set); case hp => (first | (simp; done) | (dsimp only; omega) | omega)) | ((with_reducible apply Ext.trans); case k => with_reducible assumption))))
  have z1 := Lib.hid (show nameE d.frm = 0 by simpa using h1)
  cases h2 : nameE d.to != 0
  case true =>
    have hz := Lib.hid (validE_2 z1.out (by simpa using h2))
    go_enter Try.func32, Try.ntmps32
    go_wp2_with fail; refine (rname_any _ _ hd.1).mono ?_; rintro e w2 ⟨rfl, hb⟩
    have A : Blk w2 (w.heap.size) #[.string d.frm, .string d.to, .int .i64 d.axis, .int .i64 d.lo, .int .i64 d.hi] 40 := (by (repeat (first | (with_reducible assumption) | ((with_reducible apply Blk.new_at); focus (first | (simp; done) | (simp; omega))) | with_reducible apply Blk.alloc | with_reducible apply Blk.drew | with_reducible apply Blk.drewN | with_reducible apply Blk.set | ((with_reducible apply Blk.far); case hp => (first | (simp; done) | (dsimp only; omega))) | ((with_reducible apply Blk.ext); case he => with_reducible assumption)))); obtain ⟨⟨A1, A2, A3, A4, A5⟩, A6, A7, A8, A9, A10⟩ := A.c5; have Alt := A.lt
    go_wp2_with fail; refine (rname_any _ _ hd.2).mono ?_; rintro e w3 ⟨rfl, hb2⟩
    go_wp2_with fail
    go_ret
    exact Ret.int hz.out.symm (by (repeat (first | (with_reducible assumption) | with_reducible exact Ext.refl _ | with_reducible apply Ext.alloc | with_reducible apply Ext.drew | with_reducible apply Ext.drewN | ((with_reducible apply Ext.set); case hp => (first | (simp; done) | (dsimp only; omega) | omega)) | ((with_reducible apply Ext.trans); case k => with_reducible assumption))))
  have z2 := Lib.hid (show nameE d.to = 0 by simpa using h2)
  cases hs : (d.frm.toList == d.to.toList)
  case true =>
    have hm : midE d = 7 := by simp [midE, sameS, hs]
    have hz := Lib.hid ((validE_3 z1.out z2.out (by rw [hm]; decide)).trans hm)
    clear hm
    go_enter Try.func32, Try.ntmps32
    go_wp2_with fail; refine (rname_any _ _ hd.1).mono ?_; rintro e w2 ⟨rfl, hb⟩
    have A : Blk w2 (w.heap.size) #[.string d.frm, .string d.to, .int .i64 d.axis, .int .i64 d.lo, .int .i64 d.hi] 40 := (by (repeat (first | (with_reducible assumption) | ((with_reducible apply Blk.new_at); focus (first | (simp; done) | (simp; omega))) | with_reducible apply Blk.alloc | with_reducible apply Blk.drew | with_reducible apply Blk.drewN | with_reducible apply Blk.set | ((with_reducible apply Blk.far); case hp => (first | (simp; done) | (dsimp only; omega))) | ((with_reducible apply Blk.ext); case he => with_reducible assumption)))); obtain ⟨⟨A1, A2, A3, A4, A5⟩, A6, A7, A8, A9, A10⟩ := A.c5; have Alt := A.lt
    go_wp2_with fail; refine (rname_any _ _ hd.2).mono ?_; rintro e w3 ⟨rfl, hb2⟩
    have B : Blk w3 (w.heap.size) #[.string d.frm, .string d.to, .int .i64 d.axis, .int .i64 d.lo, .int .i64 d.hi] 40 := (by (repeat (first | (with_reducible assumption) | ((with_reducible apply Blk.new_at); focus (first | (simp; done) | (simp; omega))) | with_reducible apply Blk.alloc | with_reducible apply Blk.drew | with_reducible apply Blk.drewN | with_reducible apply Blk.set | ((with_reducible apply Blk.far); case hp => (first | (simp; done) | (dsimp only; omega))) | ((with_reducible apply Blk.ext); case he => with_reducible assumption)))); obtain ⟨⟨B1, B2, B3, B4, B5⟩, B6, B7, B8, B9, B10⟩ := B.c5; have Blt := B.lt
    go_wp2_with fail
    go_ret
    exact Ret.int hz.out.symm (by (repeat (first | (with_reducible assumption) | with_reducible exact Ext.refl _ | with_reducible apply Ext.alloc | with_reducible apply Ext.drew | with_reducible apply Ext.drewN | ((with_reducible apply Ext.set); case hp => (first | (simp; done) | (dsimp only; omega) | omega)) | ((with_reducible apply Ext.trans); case k => with_reducible assumption))))
  by_cases h3 : d.axis < 0
  case pos =>
    have hm : midE d = 1 := by simp [midE, sameS, hs, h3]
    have hz := Lib.hid ((validE_3 z1.out z2.out (by rw [hm]; decide)).trans hm)
    clear hm
    go_enter Try.func32, Try.ntmps32
    go_wp2_with fail; refine (rname_any _ _ hd.1).mono ?_; rintro e w2 ⟨rfl, hb⟩
    have A : Blk w2 (w.heap.size) #[.string d.frm, .string d.to, .int .i64 d.axis, .int .i64 d.lo, .int .i64 d.hi] 40 := (by (repeat (first | (with_reducible assumption) | ((with_reducible apply Blk.new_at); focus (first | (simp; done) | (simp; omega))) | with_reducible apply Blk.alloc | with_reducible apply Blk.drew | with_reducible apply Blk.drewN | with_reducible apply Blk.set | ((with_reducible apply Blk.far); case hp => (first | (simp; done) | (dsimp only; omega))) | ((with_reducible apply Blk.ext); case he => with_reducible assumption)))); obtain ⟨⟨A1, A2, A3, A4, A5⟩, A6, A7, A8, A9, A10⟩ := A.c5; have Alt := A.lt
    go_wp2_with fail; refine (rname_any _ _ hd.2).mono ?_; rintro e w3 ⟨rfl, hb2⟩
    have B : Blk w3 (w.heap.size) #[.string d.frm, .string d.to, .int .i64 d.axis, .int .i64 d.lo, .int .i64 d.hi] 40 := (by (repeat (first | (with_reducible assumption) | ((with_reducible apply Blk.new_at); focus (first | (simp; done) | (simp; omega))) | with_reducible apply Blk.alloc | with_reducible apply Blk.drew | with_reducible apply Blk.drewN | with_reducible apply Blk.set | ((with_reducible apply Blk.far); case hp => (first | (simp; done) | (dsimp only; omega))) | ((with_reducible apply Blk.ext); case he => with_reducible assumption)))); obtain ⟨⟨B1, B2, B3, B4, B5⟩, B6, B7, B8, B9, B10⟩ := B.c5; have Blt := B.lt
    go_wp2_with fail
    go_ret
    exact Ret.int hz.out.symm (by (repeat (first | (with_reducible assumption) | with_reducible exact Ext.refl _ | with_reducible apply Ext.alloc | with_reducible apply Ext.drew | with_reducible apply Ext.drewN | ((with_reducible apply Ext.set); case hp => (first | (simp; done) | (dsimp only; omega) | omega)) | ((with_reducible apply Ext.trans); case k => with_reducible assumption))))
  by_cases h4 : 3 ≤ d.axis
  case pos =>
    have hm : midE d = 1 := by simp [midE, sameS, hs, h4]
    have hz := Lib.hid ((validE_3 z1.out z2.out (by rw [hm]; decide)).trans hm)
    clear hm
    go_enter Try.func32, Try.ntmps32
    go_wp2_with fail; refine (rname_any _ _ hd.1).mono ?_; rintro e w2 ⟨rfl, hb⟩
    have A : Blk w2 (w.heap.size) #[.string d.frm, .string d.to, .int .i64 d.axis, .int .i64 d.lo, .int .i64 d.hi] 40 := (by (repeat (first | (with_reducible assumption) | ((with_reducible apply Blk.new_at); focus (first | (simp; done) | (simp; omega))) | with_reducible apply Blk.alloc | with_reducible apply Blk.drew | with_reducible apply Blk.drewN | with_reducible apply Blk.set | ((with_reducible apply Blk.far); case hp => (first | (simp; done) | (dsimp only; omega))) | ((with_reducible apply Blk.ext); case he => with_reducible assumption)))); obtain ⟨⟨A1, A2, A3, A4, A5⟩, A6, A7, A8, A9, A10⟩ := A.c5; have Alt := A.lt
    go_wp2_with fail; refine (rname_any _ _ hd.2).mono ?_; rintro e w3 ⟨rfl, hb2⟩
    have B : Blk w3 (w.heap.size) #[.string d.frm, .string d.to, .int .i64 d.axis, .int .i64 d.lo, .int .i64 d.hi] 40 := (by (repeat (first | (with_reducible assumption) | ((with_reducible apply Blk.new_at); focus (first | (simp; done) | (simp; omega))) | with_reducible apply Blk.alloc | with_reducible apply Blk.drew | with_reducible apply Blk.drewN | with_reducible apply Blk.set | ((with_reducible apply Blk.far); case hp => (first | (simp; done) | (dsimp only; omega))) | ((with_reducible apply Blk.ext); case he => with_reducible assumption)))); obtain ⟨⟨B1, B2, B3, B4, B5⟩, B6, B7, B8, B9, B10⟩ := B.c5; have Blt := B.lt
    go_wp2_with fail
    go_ret
    exact Ret.int hz.out.symm (by (repeat (first | (with_reducible assumption) | with_reducible exact Ext.refl _ | with_reducible apply Ext.alloc | with_reducible apply Ext.drew | with_reducible apply Ext.drewN | ((with_reducible apply Ext.set); case hp => (first | (simp; done) | (dsimp only; omega) | omega)) | ((with_reducible apply Ext.trans); case k => with_reducible assumption))))
  case neg =>
    have hm : midE d = 0 := by simp [midE, sameS, hs, h3, h4]
    have hz := Lib.hid (validE_4 z1.out z2.out hm)
    clear hm
    go_enter Try.func32, Try.ntmps32
    go_wp2_with fail; refine (rname_any _ _ hd.1).mono ?_; rintro e w2 ⟨rfl, hb⟩
    have A : Blk w2 (w.heap.size) #[.string d.frm, .string d.to, .int .i64 d.axis, .int .i64 d.lo, .int .i64 d.hi] 40 := (by (repeat (first | (with_reducible assumption) | ((with_reducible apply Blk.new_at); focus (first | (simp; done) | (simp; omega))) | with_reducible apply Blk.alloc | with_reducible apply Blk.drew | with_reducible apply Blk.drewN | with_reducible apply Blk.set | ((with_reducible apply Blk.far); case hp => (first | (simp; done) | (dsimp only; omega))) | ((with_reducible apply Blk.ext); case he => with_reducible assumption)))); obtain ⟨⟨A1, A2, A3, A4, A5⟩, A6, A7, A8, A9, A10⟩ := A.c5; have Alt := A.lt
    go_wp2_with fail; refine (rname_any _ _ hd.2).mono ?_; rintro e w3 ⟨rfl, hb2⟩
    have B : Blk w3 (w.heap.size) #[.string d.frm, .string d.to, .int .i64 d.axis, .int .i64 d.lo, .int .i64 d.hi] 40 := (by (repeat (first | (with_reducible assumption) | ((with_reducible apply Blk.new_at); focus (first | (simp; done) | (simp; omega))) | with_reducible apply Blk.alloc | with_reducible apply Blk.drew | with_reducible apply Blk.drewN | with_reducible apply Blk.set | ((with_reducible apply Blk.far); case hp => (first | (simp; done) | (dsimp only; omega))) | ((with_reducible apply Blk.ext); case he => with_reducible assumption)))); obtain ⟨⟨B1, B2, B3, B4, B5⟩, B6, B7, B8, B9, B10⟩ := B.c5; have Blt := B.lt
    go_wp2_with fail
    refine (rcheck_any _ _ _).mono ?_
    rintro e w4 ⟨rfl, hb3⟩
    go_wp2_with fail
    go_ret
    exact Ret.int hz.out.symm (by (repeat (first | (with_reducible assumption) | with_reducible exact Ext.refl _ | with_reducible apply Ext.alloc | with_reducible apply Ext.drew | with_reducible apply Ext.drewN | ((with_reducible apply Ext.set); case hp => (first | (simp; done) | (dsimp only; omega) | omega)) | ((with_reducible apply Ext.trans); case k => with_reducible assumption))))

theorem mkD {d : Dim} {w : World} : ∀ a b c x y w', d = ⟨a, b, c, x, y⟩ → Ext w w' → Ret (.agg #[.string d.frm, .string d.to, .int .i64 d.axis, .int .i64 d.lo, .int .i64 d.hi]) w (.returned (.agg #[.string a, .string b, .int .i64 c, .int .i64 x, .int .i64 y])) w' := by
  rintro _ _ _ _ _ w' rfl h; exact ⟨rfl, h⟩
theorem rturned_any (d : Dim) (w : World) (h1 : -100000 ≤ d.lo) (h2 : d.lo ≤ d.hi) (h3 : d.hi ≤ 100000) : Calls Try.prog 73 #[.agg #[.string d.frm, .string d.to, .int .i64 d.axis, .int .i64 d.lo, .int .i64 d.hi]] w (Ret (.agg #[.string d.to, .string d.frm, .int .i64 d.axis, .int .i64 (-d.hi), .int .i64 (-d.lo)]) w) := by
  go_enter Try.func73, Try.ntmps73
  go_wp2
  refine end_c rfl rfl _ _ _ _ rfl (by (repeat (first | (with_reducible assumption) | ((with_reducible apply Blk.new_at); focus (first | (simp; done) | (simp; omega))) | with_reducible apply Blk.alloc | with_reducible apply Blk.drew | with_reducible apply Blk.drewN | with_reducible apply Blk.set | ((with_reducible apply Blk.far); case hp => (first | (simp; done) | (dsimp only; omega))) | ((with_reducible apply Blk.ext); case he => with_reducible assumption)))) Try.underlying40 rfl (by exact szD) ?_
  exact ⟨rfl, by (repeat (first | (with_reducible assumption) | with_reducible exact Ext.refl _ | with_reducible apply Ext.alloc | with_reducible apply Ext.drew | with_reducible apply Ext.drewN | ((with_reducible apply Ext.set); case hp => (first | (simp; done) | (dsimp only; omega) | omega)) | ((with_reducible apply Ext.trans); case k => with_reducible assumption)))⟩

theorem rreverse_any (d : Dim) (w : World) (hd : d.fits) : Calls Try.prog 28 #[.agg #[.string d.frm, .string d.to, .int .i64 d.axis, .int .i64 d.lo, .int .i64 d.hi]] w (Ret (.tuple #[.agg #[.string (revD d).frm, .string (revD d).to, .int .i64 (revD d).axis, .int .i64 (revD d).lo, .int .i64 (revD d).hi], .int .i64 (validE d)]) w) := by
  cases h : validE d != 0
  · have hz := Lib.hid (show validE d = 0 by simpa using h)
    have hb := chk_zero (validE_zero hz.out).2.2.2
    go_enter Try.func28, Try.ntmps28
    go_wp2_with fail; refine (rvalid_any _ _ hd).mono ?_; rintro e w2 ⟨rfl, hb1⟩
    have A : Blk w2 (w.heap.size) #[.string d.frm, .string d.to, .int .i64 d.axis, .int .i64 d.lo, .int .i64 d.hi] 40 := (by (repeat (first | (with_reducible assumption) | ((with_reducible apply Blk.new_at); focus (first | (simp; done) | (simp; omega))) | with_reducible apply Blk.alloc | with_reducible apply Blk.drew | with_reducible apply Blk.drewN | with_reducible apply Blk.set | ((with_reducible apply Blk.far); case hp => (first | (simp; done) | (dsimp only; omega))) | ((with_reducible apply Blk.ext); case he => with_reducible assumption)))); obtain ⟨⟨A1, A2, A3, A4, A5⟩, A6, A7, A8, A9, A10⟩ := A.c5; have Alt := A.lt
    go_wp2_with fail; refine (rturned_any _ _ hb.1 hb.2.1 hb.2.2).mono ?_; rintro e w3 ⟨rfl, hb2⟩
    have B : Blk w3 (w.heap.size + 1) #[.string ⟨#[]⟩, .string ⟨#[]⟩, .int .i64 0, .int .i64 0, .int .i64 0] 40 := (by (repeat (first | (with_reducible assumption) | ((with_reducible apply Blk.new_at); focus (first | (simp; done) | (simp; omega))) | with_reducible apply Blk.alloc | with_reducible apply Blk.drew | with_reducible apply Blk.drewN | with_reducible apply Blk.set | ((with_reducible apply Blk.far); case hp => (first | (simp; done) | (dsimp only; omega))) | ((with_reducible apply Blk.ext); case he => with_reducible assumption)))); obtain ⟨⟨B1, B2, B3, B4, B5⟩, B6, B7, B8, B9, B10⟩ := B.c5; have Blt := B.lt
    go_wp2_with fail
    refine end_ct rfl rfl _ _ _ _ _ rfl rfl (by (repeat (first | (with_reducible assumption) | ((with_reducible apply Blk.new_at); focus (first | (simp; done) | (simp; omega))) | with_reducible apply Blk.alloc | with_reducible apply Blk.drew | with_reducible apply Blk.drewN | with_reducible apply Blk.set | ((with_reducible apply Blk.far); case hp => (first | (simp; done) | (dsimp only; omega))) | ((with_reducible apply Blk.ext); case he => with_reducible assumption)))) Try.underlying40 rfl (by exact szD) ?_
    refine mkDE _ _ _ _ _ _ _ ?_ hz.out ?_
    · simp [revD, hz.out, turnD]
    · (repeat (first | (with_reducible assumption) | with_reducible exact Ext.refl _ | with_reducible apply Ext.alloc | with_reducible apply Ext.drew | with_reducible apply Ext.drewN | ((with_reducible apply Ext.set); case hp => (first | (simp; done) | (dsimp only; omega) | omega)) | ((with_reducible apply Ext.trans); case k => with_reducible assumption)))
  · have hz := Lib.hid (show ¬ validE d = 0 by simpa using h)
    go_enter Try.func28, Try.ntmps28
    go_wp2_with fail; refine (rvalid_any _ _ hd).mono ?_; rintro e w2 ⟨rfl, hb⟩
    have B : Blk w2 (w.heap.size + 1) #[.string ⟨#[]⟩, .string ⟨#[]⟩, .int .i64 0, .int .i64 0, .int .i64 0] 40 := (by (repeat (first | (with_reducible assumption) | ((with_reducible apply Blk.new_at); focus (first | (simp; done) | (simp; omega))) | with_reducible apply Blk.alloc | with_reducible apply Blk.drew | with_reducible apply Blk.drewN | with_reducible apply Blk.set | ((with_reducible apply Blk.far); case hp => (first | (simp; done) | (dsimp only; omega))) | ((with_reducible apply Blk.ext); case he => with_reducible assumption)))); obtain ⟨⟨B1, B2, B3, B4, B5⟩, B6, B7, B8, B9, B10⟩ := B.c5; have Blt := B.lt
    go_wp2_with fail
    refine end_ct rfl rfl _ _ _ _ _ rfl rfl (by (repeat (first | (with_reducible assumption) | ((with_reducible apply Blk.new_at); focus (first | (simp; done) | (simp; omega))) | with_reducible apply Blk.alloc | with_reducible apply Blk.drew | with_reducible apply Blk.drewN | with_reducible apply Blk.set | ((with_reducible apply Blk.far); case hp => (first | (simp; done) | (dsimp only; omega))) | ((with_reducible apply Blk.ext); case he => with_reducible assumption)))) Try.underlying40 rfl (by exact szD) ?_
    refine mkDE _ _ _ _ _ _ _ ?_ rfl ?_
    · simp [revD, hz.out, zeroD]
    · (repeat (first | (with_reducible assumption) | with_reducible exact Ext.refl _ | with_reducible apply Ext.alloc | with_reducible apply Ext.drew | with_reducible apply Ext.drewN | ((with_reducible apply Ext.set); case hp => (first | (simp; done) | (dsimp only; omega) | omega)) | ((with_reducible apply Ext.trans); case k => with_reducible assumption)))

set_option maxRecDepth 20000 in
set_option maxHeartbeats 8000000 in
theorem rjoin_any (a b : Dim) (w : World) (ha : a.fits) (hb : b.fits) : Calls Try.prog 30 #[.agg #[.string a.frm, .string a.to, .int .i64 a.axis, .int .i64 a.lo, .int .i64 a.hi], .agg #[.string b.frm, .string b.to, .int .i64 b.axis, .int .i64 b.lo, .int .i64 b.hi]] w (Ret (.tuple #[.agg #[.string (joinD a b).frm, .string (joinD a b).to, .int .i64 (joinD a b).axis, .int .i64 (joinD a b).lo, .int .i64 (joinD a b).hi], .int .i64 (joinE a b)]) w) := by
  cases h : validE a != 0
  case true =>
    have hz := Lib.hid (show ¬ validE a = 0 by simpa using h)
    go_enter Try.func30, Try.ntmps30
    go_wp2_with fail; refine (rvalid_any _ _ ha).mono ?_; rintro e w2 ⟨rfl, he⟩
    have C : Blk w2 (w.heap.size + 1 + 1) #[.string ⟨#[]⟩, .string ⟨#[]⟩, .int .i64 0, .int .i64 0, .int .i64 0] 40 := (by (repeat (first | (with_reducible assumption) | ((with_reducible apply Blk.new_at); focus (first | (simp; done) | (simp; omega))) | with_reducible apply Blk.alloc | with_reducible apply Blk.drew | with_reducible apply Blk.drewN | with_reducible apply Blk.set | ((with_reducible apply Blk.far); case hp => (first | (simp; done) | (dsimp only; omega))) | ((with_reducible apply Blk.ext); case he => with_reducible assumption)))); obtain ⟨⟨C1, C2, C3, C4, C5⟩, C6, C7, C8, C9, C10⟩ := C.c5; have Clt := C.lt
    go_wp2_with fail
    refine end_ct rfl rfl _ _ _ _ _ rfl rfl (by (repeat (first | (with_reducible assumption) | ((with_reducible apply Blk.new_at); focus (first | (simp; done) | (simp; omega))) | with_reducible apply Blk.alloc | with_reducible apply Blk.drew | with_reducible apply Blk.drewN | with_reducible apply Blk.set | ((with_reducible apply Blk.far); case hp => (first | (simp; done) | (dsimp only; omega))) | ((with_reducible apply Blk.ext); case he => with_reducible assumption)))) Try.underlying40 rfl (by exact szD) ?_
    refine mkDE _ _ _ _ _ _ _ ?_ (joinE_1 hz.out) ?_
    · rw [joinD_no (by rw [joinE_1 hz.out]; exact hz.out)]; rfl
    · (repeat (first | (with_reducible assumption) | with_reducible exact Ext.refl _ | with_reducible apply Ext.alloc | with_reducible apply Ext.drew | with_reducible apply Ext.drewN | ((with_reducible apply Ext.set); case hp => (first | (simp; done) | (dsimp only; omega) | omega)) | ((with_reducible apply Ext.trans); case k => with_reducible assumption)))
  have z1 := Lib.hid (show validE a = 0 by simpa using h)
  cases h2 : validE b != 0
  case true =>
    have z2 := Lib.hid (show ¬ validE b = 0 by simpa using h2)
    go_enter Try.func30, Try.ntmps30
    go_wp2_with fail; refine (rvalid_any _ _ ha).mono ?_; rintro e w2 ⟨rfl, he⟩
    have B : Blk w2 (w.heap.size + 1) #[.string b.frm, .string b.to, .int .i64 b.axis, .int .i64 b.lo, .int .i64 b.hi] 40 := (by (repeat (first | (with_reducible assumption) | ((with_reducible apply Blk.new_at); focus (first | (simp; done) | (simp; omega))) | with_reducible apply Blk.alloc | with_reducible apply Blk.drew | with_reducible apply Blk.drewN | with_reducible apply Blk.set | ((with_reducible apply Blk.far); case hp => (first | (simp; done) | (dsimp only; omega))) | ((with_reducible apply Blk.ext); case he => with_reducible assumption)))); obtain ⟨⟨B1, B2, B3, B4, B5⟩, B6, B7, B8, B9, B10⟩ := B.c5; have Blt := B.lt
    go_wp2_with fail; refine (rvalid_any _ _ hb).mono ?_; rintro e w3 ⟨rfl, he2⟩
    have C : Blk w3 (w.heap.size + 1 + 1) #[.string ⟨#[]⟩, .string ⟨#[]⟩, .int .i64 0, .int .i64 0, .int .i64 0] 40 := (by (repeat (first | (with_reducible assumption) | ((with_reducible apply Blk.new_at); focus (first | (simp; done) | (simp; omega))) | with_reducible apply Blk.alloc | with_reducible apply Blk.drew | with_reducible apply Blk.drewN | with_reducible apply Blk.set | ((with_reducible apply Blk.far); case hp => (first | (simp; done) | (dsimp only; omega))) | ((with_reducible apply Blk.ext); case he => with_reducible assumption)))); obtain ⟨⟨C1, C2, C3, C4, C5⟩, C6, C7, C8, C9, C10⟩ := C.c5; have Clt := C.lt
    go_wp2_with fail
    refine end_ct rfl rfl _ _ _ _ _ rfl rfl (by (repeat (first | (with_reducible assumption) | ((with_reducible apply Blk.new_at); focus (first | (simp; done) | (simp; omega))) | with_reducible apply Blk.alloc | with_reducible apply Blk.drew | with_reducible apply Blk.drewN | with_reducible apply Blk.set | ((with_reducible apply Blk.far); case hp => (first | (simp; done) | (dsimp only; omega))) | ((with_reducible apply Blk.ext); case he => with_reducible assumption)))) Try.underlying40 rfl (by exact szD) ?_
    refine mkDE _ _ _ _ _ _ _ ?_ (joinE_2 z1.out z2.out) ?_
    · rw [joinD_no (by rw [joinE_2 z1.out z2.out]; exact z2.out)]; rfl
    · (repeat (first | (with_reducible assumption) | with_reducible exact Ext.refl _ | with_reducible apply Ext.alloc | with_reducible apply Ext.drew | with_reducible apply Ext.drewN | ((with_reducible apply Ext.set); case hp => (first | (simp; done) | (dsimp only; omega) | omega)) | ((with_reducible apply Ext.trans); case k => with_reducible assumption)))
  have z2 := Lib.hid (show validE b = 0 by simpa using h2)
  by_cases hx : a.axis = b.axis
  case neg =>
    go_enter Try.func30, Try.ntmps30
    go_wp2_with fail; refine (rvalid_any _ _ ha).mono ?_; rintro e w2 ⟨rfl, he⟩
    have B : Blk w2 (w.heap.size + 1) #[.string b.frm, .string b.to, .int .i64 b.axis, .int .i64 b.lo, .int .i64 b.hi] 40 := (by (repeat (first | (with_reducible assumption) | ((with_reducible apply Blk.new_at); focus (first | (simp; done) | (simp; omega))) | with_reducible apply Blk.alloc | with_reducible apply Blk.drew | with_reducible apply Blk.drewN | with_reducible apply Blk.set | ((with_reducible apply Blk.far); case hp => (first | (simp; done) | (dsimp only; omega))) | ((with_reducible apply Blk.ext); case he => with_reducible assumption)))); obtain ⟨⟨B1, B2, B3, B4, B5⟩, B6, B7, B8, B9, B10⟩ := B.c5; have Blt := B.lt
    go_wp2_with fail; refine (rvalid_any _ _ hb).mono ?_; rintro e w3 ⟨rfl, he2⟩
    have A' : Blk w3 (w.heap.size) #[.string a.frm, .string a.to, .int .i64 a.axis, .int .i64 a.lo, .int .i64 a.hi] 40 := (by (repeat (first | (with_reducible assumption) | ((with_reducible apply Blk.new_at); focus (first | (simp; done) | (simp; omega))) | with_reducible apply Blk.alloc | with_reducible apply Blk.drew | with_reducible apply Blk.drewN | with_reducible apply Blk.set | ((with_reducible apply Blk.far); case hp => (first | (simp; done) | (dsimp only; omega))) | ((with_reducible apply Blk.ext); case he => with_reducible assumption)))); obtain ⟨⟨A'1, A'2, A'3, A'4, A'5⟩, A'6, A'7, A'8, A'9, A'10⟩ := A'.c5; have A'lt := A'.lt
    have B' : Blk w3 (w.heap.size + 1) #[.string b.frm, .string b.to, .int .i64 b.axis, .int .i64 b.lo, .int .i64 b.hi] 40 := (by (repeat (first | (with_reducible assumption) | ((with_reducible apply Blk.new_at); focus (first | (simp; done) | (simp; omega))) | with_reducible apply Blk.alloc | with_reducible apply Blk.drew | with_reducible apply Blk.drewN | with_reducible apply Blk.set | ((with_reducible apply Blk.far); case hp => (first | (simp; done) | (dsimp only; omega))) | ((with_reducible apply Blk.ext); case he => with_reducible assumption)))); obtain ⟨⟨B'1, B'2, B'3, B'4, B'5⟩, B'6, B'7, B'8, B'9, B'10⟩ := B'.c5; have B'lt := B'.lt
    have C' : Blk w3 (w.heap.size + 1 + 1) #[.string ⟨#[]⟩, .string ⟨#[]⟩, .int .i64 0, .int .i64 0, .int .i64 0] 40 := (by (repeat (first | (with_reducible assumption) | ((with_reducible apply Blk.new_at); focus (first | (simp; done) | (simp; omega))) | with_reducible apply Blk.alloc | with_reducible apply Blk.drew | with_reducible apply Blk.drewN | with_reducible apply Blk.set | ((with_reducible apply Blk.far); case hp => (first | (simp; done) | (dsimp only; omega))) | ((with_reducible apply Blk.ext); case he => with_reducible assumption)))); obtain ⟨⟨C'1, C'2, C'3, C'4, C'5⟩, C'6, C'7, C'8, C'9, C'10⟩ := C'.c5; have C'lt := C'.lt
    go_wp2_with fail
    refine end_ct rfl rfl _ _ _ _ _ rfl rfl (by (repeat (first | (with_reducible assumption) | ((with_reducible apply Blk.new_at); focus (first | (simp; done) | (simp; omega))) | with_reducible apply Blk.alloc | with_reducible apply Blk.drew | with_reducible apply Blk.drewN | with_reducible apply Blk.set | ((with_reducible apply Blk.far); case hp => (first | (simp; done) | (dsimp only; omega))) | ((with_reducible apply Blk.ext); case he => with_reducible assumption)))) Try.underlying40 rfl (by exact szD) ?_
    refine mkDE _ _ _ _ _ _ _ ?_ (joinE_3 z1.out z2.out (.inl hx)) ?_
    · rw [joinD_no (by rw [joinE_3 z1.out z2.out (.inl hx)]; decide)]; rfl
    · (repeat (first | (with_reducible assumption) | with_reducible exact Ext.refl _ | with_reducible apply Ext.alloc | with_reducible apply Ext.drew | with_reducible apply Ext.drewN | ((with_reducible apply Ext.set); case hp => (first | (simp; done) | (dsimp only; omega) | omega)) | ((with_reducible apply Ext.trans); case k => with_reducible assumption)))
  have hx1 : a.axis ≤ b.axis := by omega
  have hx2 : b.axis ≤ a.axis := by omega
  have HX := Lib.hid hx
  clear hx
  cases ht : (a.to.toList == b.frm.toList)
  case false =>
    go_enter Try.func30, Try.ntmps30
    go_wp2_with fail; refine (rvalid_any _ _ ha).mono ?_; rintro e w2 ⟨rfl, he⟩
    have B : Blk w2 (w.heap.size + 1) #[.string b.frm, .string b.to, .int .i64 b.axis, .int .i64 b.lo, .int .i64 b.hi] 40 := (by (repeat (first | (with_reducible assumption) | ((with_reducible apply Blk.new_at); focus (first | (simp; done) | (simp; omega))) | with_reducible apply Blk.alloc | with_reducible apply Blk.drew | with_reducible apply Blk.drewN | with_reducible apply Blk.set | ((with_reducible apply Blk.far); case hp => (first | (simp; done) | (dsimp only; omega))) | ((with_reducible apply Blk.ext); case he => with_reducible assumption)))); obtain ⟨⟨B1, B2, B3, B4, B5⟩, B6, B7, B8, B9, B10⟩ := B.c5; have Blt := B.lt
    go_wp2_with fail; refine (rvalid_any _ _ hb).mono ?_; rintro e w3 ⟨rfl, he2⟩
    have A' : Blk w3 (w.heap.size) #[.string a.frm, .string a.to, .int .i64 a.axis, .int .i64 a.lo, .int .i64 a.hi] 40 := (by (repeat (first | (with_reducible assumption) | ((with_reducible apply Blk.new_at); focus (first | (simp; done) | (simp; omega))) | with_reducible apply Blk.alloc | with_reducible apply Blk.drew | with_reducible apply Blk.drewN | with_reducible apply Blk.set | ((with_reducible apply Blk.far); case hp => (first | (simp; done) | (dsimp only; omega))) | ((with_reducible apply Blk.ext); case he => with_reducible assumption)))); obtain ⟨⟨A'1, A'2, A'3, A'4, A'5⟩, A'6, A'7, A'8, A'9, A'10⟩ := A'.c5; have A'lt := A'.lt
    have B' : Blk w3 (w.heap.size + 1) #[.string b.frm, .string b.to, .int .i64 b.axis, .int .i64 b.lo, .int .i64 b.hi] 40 := (by (repeat (first | (with_reducible assumption) | ((with_reducible apply Blk.new_at); focus (first | (simp; done) | (simp; omega))) | with_reducible apply Blk.alloc | with_reducible apply Blk.drew | with_reducible apply Blk.drewN | with_reducible apply Blk.set | ((with_reducible apply Blk.far); case hp => (first | (simp; done) | (dsimp only; omega))) | ((with_reducible apply Blk.ext); case he => with_reducible assumption)))); obtain ⟨⟨B'1, B'2, B'3, B'4, B'5⟩, B'6, B'7, B'8, B'9, B'10⟩ := B'.c5; have B'lt := B'.lt
    have C' : Blk w3 (w.heap.size + 1 + 1) #[.string ⟨#[]⟩, .string ⟨#[]⟩, .int .i64 0, .int .i64 0, .int .i64 0] 40 := (by (repeat (first | (with_reducible assumption) | ((with_reducible apply Blk.new_at); focus (first | (simp; done) | (simp; omega))) | with_reducible apply Blk.alloc | with_reducible apply Blk.drew | with_reducible apply Blk.drewN | with_reducible apply Blk.set | ((with_reducible apply Blk.far); case hp => (first | (simp; done) | (dsimp only; omega))) | ((with_reducible apply Blk.ext); case he => with_reducible assumption)))); obtain ⟨⟨C'1, C'2, C'3, C'4, C'5⟩, C'6, C'7, C'8, C'9, C'10⟩ := C'.c5; have C'lt := C'.lt
    go_wp2_with fail
    refine end_ct rfl rfl _ _ _ _ _ rfl rfl (by (repeat (first | (with_reducible assumption) | ((with_reducible apply Blk.new_at); focus (first | (simp; done) | (simp; omega))) | with_reducible apply Blk.alloc | with_reducible apply Blk.drew | with_reducible apply Blk.drewN | with_reducible apply Blk.set | ((with_reducible apply Blk.far); case hp => (first | (simp; done) | (dsimp only; omega))) | ((with_reducible apply Blk.ext); case he => with_reducible assumption)))) Try.underlying40 rfl (by exact szD) ?_
    refine mkDE _ _ _ _ _ _ _ ?_ (joinE_3 z1.out z2.out (.inr ht)) ?_
    · rw [joinD_no (by rw [joinE_3 z1.out z2.out (.inr ht)]; decide)]; rfl
    · (repeat (first | (with_reducible assumption) | with_reducible exact Ext.refl _ | with_reducible apply Ext.alloc | with_reducible apply Ext.drew | with_reducible apply Ext.drewN | ((with_reducible apply Ext.set); case hp => (first | (simp; done) | (dsimp only; omega) | omega)) | ((with_reducible apply Ext.trans); case k => with_reducible assumption)))
  cases hf : (a.frm.toList == b.to.toList)
  case true =>
    go_enter Try.func30, Try.ntmps30
    go_wp2_with fail; refine (rvalid_any _ _ ha).mono ?_; rintro e w2 ⟨rfl, he⟩
    have B : Blk w2 (w.heap.size + 1) #[.string b.frm, .string b.to, .int .i64 b.axis, .int .i64 b.lo, .int .i64 b.hi] 40 := (by (repeat (first | (with_reducible assumption) | ((with_reducible apply Blk.new_at); focus (first | (simp; done) | (simp; omega))) | with_reducible apply Blk.alloc | with_reducible apply Blk.drew | with_reducible apply Blk.drewN | with_reducible apply Blk.set | ((with_reducible apply Blk.far); case hp => (first | (simp; done) | (dsimp only; omega))) | ((with_reducible apply Blk.ext); case he => with_reducible assumption)))); obtain ⟨⟨B1, B2, B3, B4, B5⟩, B6, B7, B8, B9, B10⟩ := B.c5; have Blt := B.lt
    go_wp2_with fail; refine (rvalid_any _ _ hb).mono ?_; rintro e w3 ⟨rfl, he2⟩
    have A' : Blk w3 (w.heap.size) #[.string a.frm, .string a.to, .int .i64 a.axis, .int .i64 a.lo, .int .i64 a.hi] 40 := (by (repeat (first | (with_reducible assumption) | ((with_reducible apply Blk.new_at); focus (first | (simp; done) | (simp; omega))) | with_reducible apply Blk.alloc | with_reducible apply Blk.drew | with_reducible apply Blk.drewN | with_reducible apply Blk.set | ((with_reducible apply Blk.far); case hp => (first | (simp; done) | (dsimp only; omega))) | ((with_reducible apply Blk.ext); case he => with_reducible assumption)))); obtain ⟨⟨A'1, A'2, A'3, A'4, A'5⟩, A'6, A'7, A'8, A'9, A'10⟩ := A'.c5; have A'lt := A'.lt
    have B' : Blk w3 (w.heap.size + 1) #[.string b.frm, .string b.to, .int .i64 b.axis, .int .i64 b.lo, .int .i64 b.hi] 40 := (by (repeat (first | (with_reducible assumption) | ((with_reducible apply Blk.new_at); focus (first | (simp; done) | (simp; omega))) | with_reducible apply Blk.alloc | with_reducible apply Blk.drew | with_reducible apply Blk.drewN | with_reducible apply Blk.set | ((with_reducible apply Blk.far); case hp => (first | (simp; done) | (dsimp only; omega))) | ((with_reducible apply Blk.ext); case he => with_reducible assumption)))); obtain ⟨⟨B'1, B'2, B'3, B'4, B'5⟩, B'6, B'7, B'8, B'9, B'10⟩ := B'.c5; have B'lt := B'.lt
    have C' : Blk w3 (w.heap.size + 1 + 1) #[.string ⟨#[]⟩, .string ⟨#[]⟩, .int .i64 0, .int .i64 0, .int .i64 0] 40 := (by (repeat (first | (with_reducible assumption) | ((with_reducible apply Blk.new_at); focus (first | (simp; done) | (simp; omega))) | with_reducible apply Blk.alloc | with_reducible apply Blk.drew | with_reducible apply Blk.drewN | with_reducible apply Blk.set | ((with_reducible apply Blk.far); case hp => (first | (simp; done) | (dsimp only; omega))) | ((with_reducible apply Blk.ext); case he => with_reducible assumption)))); obtain ⟨⟨C'1, C'2, C'3, C'4, C'5⟩, C'6, C'7, C'8, C'9, C'10⟩ := C'.c5; have C'lt := C'.lt
    go_wp2_with fail
    refine end_ct rfl rfl _ _ _ _ _ rfl rfl (by (repeat (first | (with_reducible assumption) | ((with_reducible apply Blk.new_at); focus (first | (simp; done) | (simp; omega))) | with_reducible apply Blk.alloc | with_reducible apply Blk.drew | with_reducible apply Blk.drewN | with_reducible apply Blk.set | ((with_reducible apply Blk.far); case hp => (first | (simp; done) | (dsimp only; omega))) | ((with_reducible apply Blk.ext); case he => with_reducible assumption)))) Try.underlying40 rfl (by exact szD) ?_
    refine mkDE _ _ _ _ _ _ _ ?_ (joinE_4 z1.out z2.out HX.out ht hf) ?_
    · rw [joinD_no (by rw [joinE_4 z1.out z2.out HX.out ht hf]; decide)]; rfl
    · (repeat (first | (with_reducible assumption) | with_reducible exact Ext.refl _ | with_reducible apply Ext.alloc | with_reducible apply Ext.drew | with_reducible apply Ext.drewN | ((with_reducible apply Ext.set); case hp => (first | (simp; done) | (dsimp only; omega) | omega)) | ((with_reducible apply Ext.trans); case k => with_reducible assumption)))
  have hj := Lib.hid (joinE_5 z1.out z2.out HX.out ht hf)
  cases hadd : addE a.lo a.hi b.lo b.hi != 0
  case true =>
    go_enter Try.func30, Try.ntmps30
    go_wp2_with fail; refine (rvalid_any _ _ ha).mono ?_; rintro e w2 ⟨rfl, he⟩
    have B : Blk w2 (w.heap.size + 1) #[.string b.frm, .string b.to, .int .i64 b.axis, .int .i64 b.lo, .int .i64 b.hi] 40 := (by (repeat (first | (with_reducible assumption) | ((with_reducible apply Blk.new_at); focus (first | (simp; done) | (simp; omega))) | with_reducible apply Blk.alloc | with_reducible apply Blk.drew | with_reducible apply Blk.drewN | with_reducible apply Blk.set | ((with_reducible apply Blk.far); case hp => (first | (simp; done) | (dsimp only; omega))) | ((with_reducible apply Blk.ext); case he => with_reducible assumption)))); obtain ⟨⟨B1, B2, B3, B4, B5⟩, B6, B7, B8, B9, B10⟩ := B.c5; have Blt := B.lt
    go_wp2_with fail; refine (rvalid_any _ _ hb).mono ?_; rintro e w3 ⟨rfl, he2⟩
    have A' : Blk w3 (w.heap.size) #[.string a.frm, .string a.to, .int .i64 a.axis, .int .i64 a.lo, .int .i64 a.hi] 40 := (by (repeat (first | (with_reducible assumption) | ((with_reducible apply Blk.new_at); focus (first | (simp; done) | (simp; omega))) | with_reducible apply Blk.alloc | with_reducible apply Blk.drew | with_reducible apply Blk.drewN | with_reducible apply Blk.set | ((with_reducible apply Blk.far); case hp => (first | (simp; done) | (dsimp only; omega))) | ((with_reducible apply Blk.ext); case he => with_reducible assumption)))); obtain ⟨⟨A'1, A'2, A'3, A'4, A'5⟩, A'6, A'7, A'8, A'9, A'10⟩ := A'.c5; have A'lt := A'.lt
    have B' : Blk w3 (w.heap.size + 1) #[.string b.frm, .string b.to, .int .i64 b.axis, .int .i64 b.lo, .int .i64 b.hi] 40 := (by (repeat (first | (with_reducible assumption) | ((with_reducible apply Blk.new_at); focus (first | (simp; done) | (simp; omega))) | with_reducible apply Blk.alloc | with_reducible apply Blk.drew | with_reducible apply Blk.drewN | with_reducible apply Blk.set | ((with_reducible apply Blk.far); case hp => (first | (simp; done) | (dsimp only; omega))) | ((with_reducible apply Blk.ext); case he => with_reducible assumption)))); obtain ⟨⟨B'1, B'2, B'3, B'4, B'5⟩, B'6, B'7, B'8, B'9, B'10⟩ := B'.c5; have B'lt := B'.lt
    have C' : Blk w3 (w.heap.size + 1 + 1) #[.string ⟨#[]⟩, .string ⟨#[]⟩, .int .i64 0, .int .i64 0, .int .i64 0] 40 := (by (repeat (first | (with_reducible assumption) | ((with_reducible apply Blk.new_at); focus (first | (simp; done) | (simp; omega))) | with_reducible apply Blk.alloc | with_reducible apply Blk.drew | with_reducible apply Blk.drewN | with_reducible apply Blk.set | ((with_reducible apply Blk.far); case hp => (first | (simp; done) | (dsimp only; omega))) | ((with_reducible apply Blk.ext); case he => with_reducible assumption)))); obtain ⟨⟨C'1, C'2, C'3, C'4, C'5⟩, C'6, C'7, C'8, C'9, C'10⟩ := C'.c5; have C'lt := C'.lt
    go_wp2_with fail
    refine (radd_any _ _ _ _ _).mono ?_; rintro e w4 ⟨rfl, he3⟩
    have C'' : Blk w4 (w.heap.size + 1 + 1) #[.string ⟨#[]⟩, .string ⟨#[]⟩, .int .i64 0, .int .i64 0, .int .i64 0] 40 := (by (repeat (first | (with_reducible assumption) | ((with_reducible apply Blk.new_at); focus (first | (simp; done) | (simp; omega))) | with_reducible apply Blk.alloc | with_reducible apply Blk.drew | with_reducible apply Blk.drewN | with_reducible apply Blk.set | ((with_reducible apply Blk.far); case hp => (first | (simp; done) | (dsimp only; omega))) | ((with_reducible apply Blk.ext); case he => with_reducible assumption)))); obtain ⟨⟨C''1, C''2, C''3, C''4, C''5⟩, C''6, C''7, C''8, C''9, C''10⟩ := C''.c5; have C''lt := C''.lt
    go_wp2_with fail
    refine end_ct rfl rfl _ _ _ _ _ rfl rfl (by (repeat (first | (with_reducible assumption) | ((with_reducible apply Blk.new_at); focus (first | (simp; done) | (simp; omega))) | with_reducible apply Blk.alloc | with_reducible apply Blk.drew | with_reducible apply Blk.drewN | with_reducible apply Blk.set | ((with_reducible apply Blk.far); case hp => (first | (simp; done) | (dsimp only; omega))) | ((with_reducible apply Blk.ext); case he => with_reducible assumption)))) Try.underlying40 rfl (by exact szD) ?_
    refine mkDE _ _ _ _ _ _ _ ?_ hj.out ?_
    · rw [joinD_no (by rw [hj.out]; simpa using hadd)]; rfl
    · (repeat (first | (with_reducible assumption) | with_reducible exact Ext.refl _ | with_reducible apply Ext.alloc | with_reducible apply Ext.drew | with_reducible apply Ext.drewN | ((with_reducible apply Ext.set); case hp => (first | (simp; done) | (dsimp only; omega) | omega)) | ((with_reducible apply Ext.trans); case k => with_reducible assumption)))
  case false =>
    have hj0 : Hid (joinE a b = 0) := hj.out.trans (by simpa using hadd)
    go_enter Try.func30, Try.ntmps30
    go_wp2_with fail; refine (rvalid_any _ _ ha).mono ?_; rintro e w2 ⟨rfl, he⟩
    have B : Blk w2 (w.heap.size + 1) #[.string b.frm, .string b.to, .int .i64 b.axis, .int .i64 b.lo, .int .i64 b.hi] 40 := (by (repeat (first | (with_reducible assumption) | ((with_reducible apply Blk.new_at); focus (first | (simp; done) | (simp; omega))) | with_reducible apply Blk.alloc | with_reducible apply Blk.drew | with_reducible apply Blk.drewN | with_reducible apply Blk.set | ((with_reducible apply Blk.far); case hp => (first | (simp; done) | (dsimp only; omega))) | ((with_reducible apply Blk.ext); case he => with_reducible assumption)))); obtain ⟨⟨B1, B2, B3, B4, B5⟩, B6, B7, B8, B9, B10⟩ := B.c5; have Blt := B.lt
    go_wp2_with fail; refine (rvalid_any _ _ hb).mono ?_; rintro e w3 ⟨rfl, he2⟩
    have A' : Blk w3 (w.heap.size) #[.string a.frm, .string a.to, .int .i64 a.axis, .int .i64 a.lo, .int .i64 a.hi] 40 := (by (repeat (first | (with_reducible assumption) | ((with_reducible apply Blk.new_at); focus (first | (simp; done) | (simp; omega))) | with_reducible apply Blk.alloc | with_reducible apply Blk.drew | with_reducible apply Blk.drewN | with_reducible apply Blk.set | ((with_reducible apply Blk.far); case hp => (first | (simp; done) | (dsimp only; omega))) | ((with_reducible apply Blk.ext); case he => with_reducible assumption)))); obtain ⟨⟨A'1, A'2, A'3, A'4, A'5⟩, A'6, A'7, A'8, A'9, A'10⟩ := A'.c5; have A'lt := A'.lt
    have B' : Blk w3 (w.heap.size + 1) #[.string b.frm, .string b.to, .int .i64 b.axis, .int .i64 b.lo, .int .i64 b.hi] 40 := (by (repeat (first | (with_reducible assumption) | ((with_reducible apply Blk.new_at); focus (first | (simp; done) | (simp; omega))) | with_reducible apply Blk.alloc | with_reducible apply Blk.drew | with_reducible apply Blk.drewN | with_reducible apply Blk.set | ((with_reducible apply Blk.far); case hp => (first | (simp; done) | (dsimp only; omega))) | ((with_reducible apply Blk.ext); case he => with_reducible assumption)))); obtain ⟨⟨B'1, B'2, B'3, B'4, B'5⟩, B'6, B'7, B'8, B'9, B'10⟩ := B'.c5; have B'lt := B'.lt
    have C' : Blk w3 (w.heap.size + 1 + 1) #[.string ⟨#[]⟩, .string ⟨#[]⟩, .int .i64 0, .int .i64 0, .int .i64 0] 40 := (by (repeat (first | (with_reducible assumption) | ((with_reducible apply Blk.new_at); focus (first | (simp; done) | (simp; omega))) | with_reducible apply Blk.alloc | with_reducible apply Blk.drew | with_reducible apply Blk.drewN | with_reducible apply Blk.set | ((with_reducible apply Blk.far); case hp => (first | (simp; done) | (dsimp only; omega))) | ((with_reducible apply Blk.ext); case he => with_reducible assumption)))); obtain ⟨⟨C'1, C'2, C'3, C'4, C'5⟩, C'6, C'7, C'8, C'9, C'10⟩ := C'.c5; have C'lt := C'.lt
    go_wp2_with fail
    refine (radd_any _ _ _ _ _).mono ?_; rintro e w4 ⟨rfl, he3⟩
    have A'' : Blk w4 (w.heap.size) #[.string a.frm, .string a.to, .int .i64 a.axis, .int .i64 a.lo, .int .i64 a.hi] 40 := (by (repeat (first | (with_reducible assumption) | ((with_reducible apply Blk.new_at); focus (first | (simp; done) | (simp; omega))) | with_reducible apply Blk.alloc | with_reducible apply Blk.drew | with_reducible apply Blk.drewN | with_reducible apply Blk.set | ((with_reducible apply Blk.far); case hp => (first | (simp; done) | (dsimp only; omega))) | ((with_reducible apply Blk.ext); case he => with_reducible assumption)))); obtain ⟨⟨A''1, A''2, A''3, A''4, A''5⟩, A''6, A''7, A''8, A''9, A''10⟩ := A''.c5; have A''lt := A''.lt
    have B'' : Blk w4 (w.heap.size + 1) #[.string b.frm, .string b.to, .int .i64 b.axis, .int .i64 b.lo, .int .i64 b.hi] 40 := (by (repeat (first | (with_reducible assumption) | ((with_reducible apply Blk.new_at); focus (first | (simp; done) | (simp; omega))) | with_reducible apply Blk.alloc | with_reducible apply Blk.drew | with_reducible apply Blk.drewN | with_reducible apply Blk.set | ((with_reducible apply Blk.far); case hp => (first | (simp; done) | (dsimp only; omega))) | ((with_reducible apply Blk.ext); case he => with_reducible assumption)))); obtain ⟨⟨B''1, B''2, B''3, B''4, B''5⟩, B''6, B''7, B''8, B''9, B''10⟩ := B''.c5; have B''lt := B''.lt
    have C'' : Blk w4 (w.heap.size + 1 + 1) #[.string ⟨#[]⟩, .string ⟨#[]⟩, .int .i64 0, .int .i64 0, .int .i64 0] 40 := (by (repeat (first | (with_reducible assumption) | ((with_reducible apply Blk.new_at); focus (first | (simp; done) | (simp; omega))) | with_reducible apply Blk.alloc | with_reducible apply Blk.drew | with_reducible apply Blk.drewN | with_reducible apply Blk.set | ((with_reducible apply Blk.far); case hp => (first | (simp; done) | (dsimp only; omega))) | ((with_reducible apply Blk.ext); case he => with_reducible assumption)))); obtain ⟨⟨C''1, C''2, C''3, C''4, C''5⟩, C''6, C''7, C''8, C''9, C''10⟩ := C''.c5; have C''lt := C''.lt
    go_wp2_with fail
    refine end_ct rfl rfl _ _ _ _ _ rfl rfl (by (repeat (first | (with_reducible assumption) | ((with_reducible apply Blk.new_at); focus (first | (simp; done) | (simp; omega))) | with_reducible apply Blk.alloc | with_reducible apply Blk.drew | with_reducible apply Blk.drewN | with_reducible apply Blk.set | ((with_reducible apply Blk.far); case hp => (first | (simp; done) | (dsimp only; omega))) | ((with_reducible apply Blk.ext); case he => with_reducible assumption)))) Try.underlying40 rfl (by exact szD) ?_
    refine mkDE _ _ _ _ _ _ _ ?_ hj0.out ?_
    · rw [joinD_yes hj0.out, HX.out]
    · (repeat (first | (with_reducible assumption) | with_reducible exact Ext.refl _ | with_reducible apply Ext.alloc | with_reducible apply Ext.drew | with_reducible apply Ext.drewN | ((with_reducible apply Ext.set); case hp => (first | (simp; done) | (dsimp only; omega) | omega)) | ((with_reducible apply Ext.trans); case k => with_reducible assumption)))
end Go.Proofs.Ytdcedfciaaooiaa
