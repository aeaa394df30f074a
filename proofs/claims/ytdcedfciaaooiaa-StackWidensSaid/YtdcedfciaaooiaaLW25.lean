/- The law StackWidens returns true at every input: the walk. -/
import Derived.Test.YtdcedfciaaooiaaA26
import Derived.Test.YtdcedfciaaooiaaO25
import Derived.Test.YtdcedfciaaooiaaG26
import Derived.Test.YtdcedfciaaooiaaK25
import Derived.Test.YtdcedfciaaooiaaP26
import Derived.Test.YtdcedfciaaooiaaPA26
import Derived.Test.YtdcedfciaaooiaaCL25
set_option linter.unusedVariables false
namespace Go.Proofs.Ytdcedfciaaooiaa
open Go.RowKit

theorem cell0 {W : World} {g : Nat} {ps : Array Value} {a : Value} {t : TypeId} (h : Blk W g ps t) (e : ps[0]? = some a) : W.cell? ⟨g, 0, none⟩ = some a := (h.cell 0).trans e
set_option maxRecDepth 20000 in
set_option maxHeartbeats 4000000 in
theorem law_stackWidens (A B : Option Addr) (n m c c2 : Nat) (xs : List Dim) (cs : List Lk) (lo hi : Int) (which more : Int) (w : World) (hx : Dims w A n xs) (hk : Lnks w B m cs) (hm4 : m < 8796093022208) (hwh : 0 ≤ which ∧ which ≤ 255) (hmo : 0 ≤ more ∧ more ≤ 255) : Calls Try.prog 14 #[.agg #[.slice A n c, .slice B m c2, .int .i64 lo, .int .i64 hi], .int .u8 which, .int .u8 more] w (Ret (.bool true) w) := by
  have HX := Lib.hid hx
  have HK := Lib.hid hk
  have hxl := hx.len
  have hkl := hk.len
  clear hx hk
  go_enter Try.func14, Try.ntmps14
  go_wp2_with fail
  refine (right25_any A B n m c c2 xs cs lo hi _ (HX.out.ext (by (repeat (first | (with_reducible assumption) | with_reducible exact Ext.refl _ | with_reducible apply Ext.alloc | with_reducible apply Ext.drew | with_reducible apply Ext.drewN | ((with_reducible apply Ext.set); case hp => (first | (simp; done) | (dsimp only; omega) | omega)) | ((with_reducible apply Ext.trans); case k => with_reducible assumption))))) (HK.out.ext (by (repeat (first | (with_reducible assumption) | with_reducible exact Ext.refl _ | with_reducible apply Ext.alloc | with_reducible apply Ext.drew | with_reducible apply Ext.drewN | ((with_reducible apply Ext.set); case hp => (first | (simp; done) | (dsimp only; omega) | omega)) | ((with_reducible apply Ext.trans); case k => with_reducible assumption))))) hm4).mono ?_
  rintro e w1 ⟨rt, rfl, hrt0, hw1⟩
  cases rt
  case false =>
    go_wp2_with fail; refine (awake25_any _).mono ?_; rintro e w2 ⟨rfl, hw2⟩
    go_wp2_with fail
    all_goals (go_ret; exact Ret.bool (by first | rfl | (simp; done) | (simp; omega)) (by (repeat (first | (with_reducible assumption) | with_reducible exact Ext.refl _ | with_reducible apply Ext.alloc | with_reducible apply Ext.drew | with_reducible apply Ext.drewN | ((with_reducible apply Ext.set); case hp => (first | (simp; done) | (dsimp only; omega) | omega)) | ((with_reducible apply Ext.trans); case k => with_reducible assumption)))))
  case true =>
    obtain ⟨h6, h⟩ := hrt0 rfl
    have hrt := rt_of HX.out.len HK.out.len (taskE_zero h).1
    have HRT := Lib.hid hrt
    have hwant := chk_lims0 (taskE_zero h).2
    have hn0 : 0 < n := by have := hrt.mem 0 hrt.m0; omega
    have hr1 := hrt.range 1
    have hr2 := hrt.range (-1)
    have hle := ends_le hrt
    have HH := Lib.hid h
    have HSL := Lib.hid (fun w (h1 : Dims w A n xs) (h2 : Lnks w B m cs) => slimits_ok A B n m c c2 xs cs lo hi w h1 h2 HH.out)
    obtain ⟨L, hL⟩ : ∃ L, endS 1 xs cs = L := ⟨_, rfl⟩
    obtain ⟨H, hH⟩ : ∃ H, endS (-1) xs cs = H := ⟨_, rfl⟩
    have HLS := Lib.hid hL
    have HHS := Lib.hid hH
    rw [hL] at hle hr1
    rw [hH] at hle hr2
    rw [hL, hH] at HSL
    obtain ⟨q, hq0⟩ := Int.eq_ofNat_of_zero_le (Int.emod_nonneg which (show (n : Int) ≠ 0 by omega))
    have hqlt := Int.emod_lt_of_pos which (show (0 : Int) < (n : Int) by omega)
    rw [hq0] at hqlt
    have hq : q < n := by omega
    have hqt : Int.tmod which (n : Int) = (q : Int) := by rw [Int.tmod_eq_emod_of_nonneg (by omega)]; exact hq0
    have hnz : ¬ ((n : Int) = 0) := by omega
    have hqn : (q : Int) < (n : Int) := hqlt
    have hqg : (0 : Int) ≤ (q : Int) := by omega
    have hWq3 : IntKind.i64.wrap (q : Int) = (q : Int) := i64_in' (by omega)
    have hWq4 : IntKind.i64.wrap (Int.tmod which (n : Int)) = (q : Int) := by rw [hqt]; exact hWq3
    have hnb : ((n : Int) == 0) = false := by simp; omega
    obtain ⟨d, hd⟩ : ∃ d, xs.getD q zeroD = d := ⟨_, rfl⟩
    have hlim := hrt.lims q hq
    rw [hd] at hlim
    have HD := Lib.hid hd
    obtain ⟨hl1, hl2, hl3⟩ := hlim
    have hWq : IntKind.i64.wrap which = which := i64_in' (by omega)
    have hWm : IntKind.i64.wrap more = more := i64_in' (by omega)
    obtain ⟨N, hN⟩ : ∃ N, d.hi + more = N := ⟨_, rfl⟩
    obtain ⟨M, hM⟩ : ∃ M, hi + more = M := ⟨_, rfl⟩
    have hWN : IntKind.i64.wrap (d.hi + more) = N := by rw [hN]; exact i64_in' (by omega)
    have hWM : IntKind.i64.wrap (hi + more) = M := by rw [hM]; exact i64_in' (by omega)
    obtain ⟨ys, hys⟩ : ∃ ys, withL xs q ⟨d.lo, N⟩ = ys := ⟨_, rfl⟩
    have HWD : Hid (endS 1 ys cs ≤ L ∧ H ≤ endS (-1) ys cs) := Lib.hid (by
      rw [← hL, ← hH, ← hys, ← hd]
      exact endS_wide _ _ (withL_wide xs q (by rw [HX.out.len]; exact hq) N (by rw [hd]; omega)) cs)
    have HYF : Hid (∀ k, k < n → (ys.getD k zeroD).fits) := Lib.hid (fun k hk => by
      rw [← hys]
      by_cases e : q = k
      · subst e
        rw [withL_at (by rw [HX.out.len]; exact hk)]
        exact HX.out.fit _ hk
      · rw [withL_ne e]; exact HX.out.fit _ hk)
    have HYS := Lib.hid hys
    clear hrt h hrt0 hL hH hd hq0 hqlt hys hN
    have P : Blk w1 (w.heap.size) #[.slice A n c, .slice B m c2, .int .i64 lo, .int .i64 hi] 85 := by (repeat (first | (with_reducible assumption) | ((with_reducible apply Blk.new_at); focus (first | (simp; done) | (simp; omega))) | with_reducible apply Blk.alloc | with_reducible apply Blk.drew | with_reducible apply Blk.drewN | with_reducible apply Blk.set | ((with_reducible apply Blk.far); case hp => (first | (simp; done) | (dsimp only; omega))) | ((with_reducible apply Blk.ext); case he => with_reducible assumption)))
    have P0 := P.cell 0
    have P1 := P.cell 1
    have P2 := P.cell 2
    have P3 := P.cell 3
    simp at P0 P1 P2 P3
    have Pl := P.lt
    go_wp2_with fail; refine (HSL.out _ (HX.out.ext (by (repeat (first | (with_reducible assumption) | with_reducible exact Ext.refl _ | with_reducible apply Ext.alloc | with_reducible apply Ext.drew | with_reducible apply Ext.drewN | ((with_reducible apply Ext.set); case hp => (first | (simp; done) | (dsimp only; omega) | omega)) | ((with_reducible apply Ext.trans); case k => with_reducible assumption))))) (HK.out.ext (by (repeat (first | (with_reducible assumption) | with_reducible exact Ext.refl _ | with_reducible apply Ext.alloc | with_reducible apply Ext.drew | with_reducible apply Ext.drewN | ((with_reducible apply Ext.set); case hp => (first | (simp; done) | (dsimp only; omega) | omega)) | ((with_reducible apply Ext.trans); case k => with_reducible assumption)))))).mono ?_; rintro e w2 ⟨rfl, hw2⟩
    have Q : Blk w2 (w.heap.size) #[.slice A n c, .slice B m c2, .int .i64 lo, .int .i64 hi] 85 := by (repeat (first | (with_reducible assumption) | ((with_reducible apply Blk.new_at); focus (first | (simp; done) | (simp; omega))) | with_reducible apply Blk.alloc | with_reducible apply Blk.drew | with_reducible apply Blk.drewN | with_reducible apply Blk.set | ((with_reducible apply Blk.far); case hp => (first | (simp; done) | (dsimp only; omega))) | ((with_reducible apply Blk.ext); case he => with_reducible assumption)))
    have Q0 := Q.cell 0
    have Q1 := Q.cell 1
    have Q2 := Q.cell 2
    have Q3 := Q.cell 3
    simp at Q0 Q1 Q2 Q3
    have Ql := Q.lt
    go_wp2_with fail
    refine (clone_any A n c xs _ (HX.out.ext (by (repeat (first | (with_reducible assumption) | with_reducible exact Ext.refl _ | with_reducible apply Ext.alloc | with_reducible apply Ext.drew | with_reducible apply Ext.drewN | ((with_reducible apply Ext.set); case hp => (first | (simp; done) | (dsimp only; omega) | omega)) | ((with_reducible apply Ext.trans); case k => with_reducible assumption))))) hn0 (by omega)).mono ?_
    rintro e w3 ⟨g, cap, cur, rfl, DR3, hw3⟩
    simp only [World.size_alloc] at DR3
    have R : Blk w3 (w.heap.size) #[.slice A n c, .slice B m c2, .int .i64 lo, .int .i64 hi] 85 := by (repeat (first | (with_reducible assumption) | ((with_reducible apply Blk.new_at); focus (first | (simp; done) | (simp; omega))) | with_reducible apply Blk.alloc | with_reducible apply Blk.drew | with_reducible apply Blk.drewN | with_reducible apply Blk.set | ((with_reducible apply Blk.far); case hp => (first | (simp; done) | (dsimp only; omega))) | ((with_reducible apply Blk.ext); case he => with_reducible assumption)))
    have R0 := R.cell 0
    have R1 := R.cell 1
    have R2 := R.cell 2
    have R3 := R.cell 3
    simp at R0 R1 R2 R3
    have Rl := R.lt
    have hs2 := Ext.size hw2
    try simp only [World.size_alloc] at hs2
    have hs3 := Ext.size hw3
    simp only [World.size_alloc] at hs3
    have hwl : w.heap.size < w2.heap.size := by omega
    have hRg := DR3.ge
    have hRl := DR3.lt
    have S : Blk w3 (w2.heap.size + 1) #[.slice A n c, .slice B m c2, .int .i64 lo, .int .i64 hi] 85 := by (repeat (first | (with_reducible assumption) | ((with_reducible apply Blk.new_at); focus (first | (simp; done) | (simp; omega))) | with_reducible apply Blk.alloc | with_reducible apply Blk.drew | with_reducible apply Blk.drewN | with_reducible apply Blk.set | ((with_reducible apply Blk.far); case hp => (first | (simp; done) | (dsimp only; omega))) | ((with_reducible apply Blk.ext); case he => with_reducible assumption)))
    have S0 := S.cell 0
    have S1 := S.cell 1
    have S2 := S.cell 2
    have S3 := S.cell 3
    simp at S0 S1 S2 S3
    have Sl := S.lt
    have U : Blk w3 (w2.heap.size) #[.int .i64 L, .int .i64 H] 23 := (by (repeat (first | (with_reducible assumption) | ((with_reducible apply Blk.new_at); focus (first | (simp; done) | (simp; omega))) | with_reducible apply Blk.alloc | with_reducible apply Blk.drew | with_reducible apply Blk.drewN | with_reducible apply Blk.set | ((with_reducible apply Blk.far); case hp => (first | (simp; done) | (dsimp only; omega))) | ((with_reducible apply Blk.ext); case he => with_reducible assumption)))); obtain ⟨U1, U2, U3, U4⟩ := U.c2; have U5 := U.lt
    have SF := S.frozen 0
    go_upto_region 6 with fail
    obtain ⟨W4, hW4⟩ : ∃ W4, w3.setCell ⟨w2.heap.size + 1, 0, none⟩ (.slice (some ⟨g, 0, none⟩) n cap) = W4 := ⟨_, rfl⟩
    rw [hW4]
    have bX4 : Blk W4 (w2.heap.size + 1) #[.slice (some ⟨g, 0, none⟩) n cap, .slice B m c2, .int .i64 lo, .int .i64 hi] 85 := by rw [← hW4]; (apply Blk.is; (case h => (repeat (first | (with_reducible assumption) | ((with_reducible apply Blk.new_at); focus (first | (simp; done) | (simp; omega))) | with_reducible apply Blk.alloc | with_reducible apply Blk.drew | with_reducible apply Blk.drewN | with_reducible apply Blk.set | ((with_reducible apply Blk.far); case hp => (first | (simp; done) | (dsimp only; omega))) | ((with_reducible apply Blk.ext); case he => with_reducible assumption)))); all_goals rfl)
    have bT4 : Blk W4 w.heap.size #[.slice A n c, .slice B m c2, .int .i64 lo, .int .i64 hi] 85 := by rw [← hW4]; (repeat (first | (with_reducible assumption) | ((with_reducible apply Blk.new_at); focus (first | (simp; done) | (simp; omega))) | with_reducible apply Blk.alloc | with_reducible apply Blk.drew | with_reducible apply Blk.drewN | with_reducible apply Blk.set | ((with_reducible apply Blk.far); case hp => (first | (simp; done) | (dsimp only; omega))) | ((with_reducible apply Blk.ext); case he => with_reducible assumption)))
    have bL4 : Blk W4 w2.heap.size #[.int .i64 L, .int .i64 H] 23 := by rw [← hW4]; (repeat (first | (with_reducible assumption) | ((with_reducible apply Blk.new_at); focus (first | (simp; done) | (simp; omega))) | with_reducible apply Blk.alloc | with_reducible apply Blk.drew | with_reducible apply Blk.drewN | with_reducible apply Blk.set | ((with_reducible apply Blk.far); case hp => (first | (simp; done) | (dsimp only; omega))) | ((with_reducible apply Blk.ext); case he => with_reducible assumption)))
    have hE4 : Ext w W4 := by rw [← hW4]; (repeat (first | (with_reducible assumption) | with_reducible exact Ext.refl _ | with_reducible apply Ext.alloc | with_reducible apply Ext.drew | with_reducible apply Ext.drewN | ((with_reducible apply Ext.set); case hp => (first | (simp; done) | (dsimp only; omega) | omega)) | ((with_reducible apply Ext.trans); case k => with_reducible assumption)))
    have DR4 : DRow W4 (w2.heap.size + 1 + 1) g n cur xs := by rw [← hW4]; refine DRow.far DR3 ?_ _; show g ≠ w2.heap.size + 1; omega
    clear hW4 DR3 P P0 P1 P2 P3 Pl Q Q0 Q1 Q2 Q3 Ql R R0 R1 R2 R3 Rl S S0 S1 S2 S3 Sl SF U U1 U2 U3 U4 U5
    obtain ⟨⟨r1, r2⟩, r3, r4⟩ := DR4.cells hq d HD.out
    have e1 := bX4.lt
    have e2 := bT4.lt
    have e3 := bL4.lt
    have hgl := DR4.lt
    have HR4 := Lib.hid DR4
    clear DR4
    have x1 := bX4.cell 0
    have x2 := bT4.cell 0
    simp at x1 x2
    go_wp2_with fail
    go_quiet (fail)
    obtain ⟨W5, hW5⟩ : ∃ W, W4.drewN nq = W := ⟨_, rfl⟩
    have bX5 : Blk W5 (w2.heap.size + 1) #[.slice (some ⟨g, 0, none⟩) n cap, .slice B m c2, .int .i64 lo, .int .i64 hi] 85 := by rw [← hW5]; (repeat (first | (with_reducible assumption) | ((with_reducible apply Blk.new_at); focus (first | (simp; done) | (simp; omega))) | with_reducible apply Blk.alloc | with_reducible apply Blk.drew | with_reducible apply Blk.drewN | with_reducible apply Blk.set | ((with_reducible apply Blk.far); case hp => (first | (simp; done) | (dsimp only; omega))) | ((with_reducible apply Blk.ext); case he => with_reducible assumption)))
    have bT5 : Blk W5 w.heap.size #[.slice A n c, .slice B m c2, .int .i64 lo, .int .i64 hi] 85 := by rw [← hW5]; (repeat (first | (with_reducible assumption) | ((with_reducible apply Blk.new_at); focus (first | (simp; done) | (simp; omega))) | with_reducible apply Blk.alloc | with_reducible apply Blk.drew | with_reducible apply Blk.drewN | with_reducible apply Blk.set | ((with_reducible apply Blk.far); case hp => (first | (simp; done) | (dsimp only; omega))) | ((with_reducible apply Blk.ext); case he => with_reducible assumption)))
    have bL5 : Blk W5 w2.heap.size #[.int .i64 L, .int .i64 H] 23 := by rw [← hW5]; (repeat (first | (with_reducible assumption) | ((with_reducible apply Blk.new_at); focus (first | (simp; done) | (simp; omega))) | with_reducible apply Blk.alloc | with_reducible apply Blk.drew | with_reducible apply Blk.drewN | with_reducible apply Blk.set | ((with_reducible apply Blk.far); case hp => (first | (simp; done) | (dsimp only; omega))) | ((with_reducible apply Blk.ext); case he => with_reducible assumption)))
    have hE5 : Ext w W5 := by rw [← hW5]; (repeat (first | (with_reducible assumption) | with_reducible exact Ext.refl _ | with_reducible apply Ext.alloc | with_reducible apply Ext.drew | with_reducible apply Ext.drewN | ((with_reducible apply Ext.set); case hp => (first | (simp; done) | (dsimp only; omega) | omega)) | ((with_reducible apply Ext.trans); case k => with_reducible assumption)))
    have HR5 : Hid (DRow W5 (w2.heap.size + 1 + 1) g n cur xs) := Lib.hid (by rw [← hW5]; exact HR4.out)
    rw [hW5]
    clear hW5 bX4 bT4 bL4 hE4 e1 e2 e3 r1 r2 r3 r4 HR4 x1 x2 hgl
    obtain ⟨⟨r1, r2⟩, r3, r4⟩ := HR5.out.cells hq d HD.out
    have e1 := bX5.lt
    have e2 := bT5.lt
    have e3 := bL5.lt
    have hgl := HR5.out.lt
    have P : Blk W5 (w.heap.size) #[.slice A n c, .slice B m c2, .int .i64 lo, .int .i64 hi] 85 := by (repeat (first | (with_reducible assumption) | ((with_reducible apply Blk.new_at); focus (first | (simp; done) | (simp; omega))) | with_reducible apply Blk.alloc | with_reducible apply Blk.drew | with_reducible apply Blk.drewN | with_reducible apply Blk.set | ((with_reducible apply Blk.far); case hp => (first | (simp; done) | (dsimp only; omega))) | ((with_reducible apply Blk.ext); case he => with_reducible assumption)))
    have P0 := P.cell 0
    have P1 := P.cell 1
    have P2 := P.cell 2
    have P3 := P.cell 3
    simp at P0 P1 P2 P3
    have Pl := P.lt
    go_upto_region 10 with fail
    obtain ⟨W6, hW6⟩ : ∃ W6, ((W5.setCell { block := g, off := q * 5 + 3 + 1 } (.int .i64 N)).alloc (.cells #[.slice A n c, .slice B m c2, .int .i64 lo, .int .i64 M] 85)) = W6 := ⟨_, rfl⟩
    have bX6 : Blk W6 (w2.heap.size + 1) #[.slice (some ⟨g, 0, none⟩) n cap, .slice B m c2, .int .i64 lo, .int .i64 hi] 85 := by rw [← hW6]; (repeat (first | (with_reducible assumption) | ((with_reducible apply Blk.new_at); focus (first | (simp; done) | (simp; omega))) | with_reducible apply Blk.alloc | with_reducible apply Blk.drew | with_reducible apply Blk.drewN | with_reducible apply Blk.set | ((with_reducible apply Blk.far); case hp => (first | (simp; done) | (dsimp only; omega))) | ((with_reducible apply Blk.ext); case he => with_reducible assumption)))
    have bT6 : Blk W6 w.heap.size #[.slice A n c, .slice B m c2, .int .i64 lo, .int .i64 hi] 85 := by rw [← hW6]; (repeat (first | (with_reducible assumption) | ((with_reducible apply Blk.new_at); focus (first | (simp; done) | (simp; omega))) | with_reducible apply Blk.alloc | with_reducible apply Blk.drew | with_reducible apply Blk.drewN | with_reducible apply Blk.set | ((with_reducible apply Blk.far); case hp => (first | (simp; done) | (dsimp only; omega))) | ((with_reducible apply Blk.ext); case he => with_reducible assumption)))
    have bO6 : Blk W6 W5.heap.size #[.slice A n c, .slice B m c2, .int .i64 lo, .int .i64 M] 85 := by rw [← hW6]; (repeat (first | (with_reducible assumption) | ((with_reducible apply Blk.new_at); focus (first | (simp; done) | (simp; omega))) | with_reducible apply Blk.alloc | with_reducible apply Blk.drew | with_reducible apply Blk.drewN | with_reducible apply Blk.set | ((with_reducible apply Blk.far); case hp => (first | (simp; done) | (dsimp only; omega))) | ((with_reducible apply Blk.ext); case he => with_reducible assumption)))
    have bL6 : Blk W6 w2.heap.size #[.int .i64 L, .int .i64 H] 23 := by rw [← hW6]; (repeat (first | (with_reducible assumption) | ((with_reducible apply Blk.new_at); focus (first | (simp; done) | (simp; omega))) | with_reducible apply Blk.alloc | with_reducible apply Blk.drew | with_reducible apply Blk.drewN | with_reducible apply Blk.set | ((with_reducible apply Blk.far); case hp => (first | (simp; done) | (dsimp only; omega))) | ((with_reducible apply Blk.ext); case he => with_reducible assumption)))
    have hE6 : Ext w W6 := by rw [← hW6]; (repeat (first | (with_reducible assumption) | with_reducible exact Ext.refl _ | with_reducible apply Ext.alloc | with_reducible apply Ext.drew | with_reducible apply Ext.drewN | ((with_reducible apply Ext.set); case hp => (first | (simp; done) | (dsimp only; omega) | omega)) | ((with_reducible apply Ext.trans); case k => with_reducible assumption)))
    have hD6 : Hid (Dims W6 (some ⟨g, 0, none⟩) n ys) := Lib.hid (by
      have h1 := HR5.out.putH hq N
      have e : withL xs q ⟨(xs.getD q zeroD).lo, N⟩ = ys := by rw [HD.out]; exact HYS.out
      rw [e] at h1
      rw [← hW6]
      exact (h1.alloc _).dims (by omega) HYF.out)
    rw [hW6]
    clear hW6 bX5 bT5 bL5 hE5 e1 e2 e3 r1 r2 r3 r4 P P0 P1 P2 P3 Pl HR5
    have P : Blk W6 (w2.heap.size + 1) #[.slice (some ⟨g, 0, none⟩) n cap, .slice B m c2, .int .i64 lo, .int .i64 hi] 85 := by (repeat (first | (with_reducible assumption) | ((with_reducible apply Blk.new_at); focus (first | (simp; done) | (simp; omega))) | with_reducible apply Blk.alloc | with_reducible apply Blk.drew | with_reducible apply Blk.drewN | with_reducible apply Blk.set | ((with_reducible apply Blk.far); case hp => (first | (simp; done) | (dsimp only; omega))) | ((with_reducible apply Blk.ext); case he => with_reducible assumption)))
    have P0 := P.cell 0
    have P1 := P.cell 1
    have P2 := P.cell 2
    have P3 := P.cell 3
    simp at P0 P1 P2 P3
    have Pl := P.lt
    have Q : Blk W6 (W5.heap.size) #[.slice A n c, .slice B m c2, .int .i64 lo, .int .i64 M] 85 := by (repeat (first | (with_reducible assumption) | ((with_reducible apply Blk.new_at); focus (first | (simp; done) | (simp; omega))) | with_reducible apply Blk.alloc | with_reducible apply Blk.drew | with_reducible apply Blk.drewN | with_reducible apply Blk.set | ((with_reducible apply Blk.far); case hp => (first | (simp; done) | (dsimp only; omega))) | ((with_reducible apply Blk.ext); case he => with_reducible assumption)))
    have Q0 := Q.cell 0
    have Q1 := Q.cell 1
    have Q2 := Q.cell 2
    have Q3 := Q.cell 3
    simp at Q0 Q1 Q2 Q3
    have Ql := Q.lt
    have R : Blk W6 (w.heap.size) #[.slice A n c, .slice B m c2, .int .i64 lo, .int .i64 hi] 85 := by (repeat (first | (with_reducible assumption) | ((with_reducible apply Blk.new_at); focus (first | (simp; done) | (simp; omega))) | with_reducible apply Blk.alloc | with_reducible apply Blk.drew | with_reducible apply Blk.drewN | with_reducible apply Blk.set | ((with_reducible apply Blk.far); case hp => (first | (simp; done) | (dsimp only; omega))) | ((with_reducible apply Blk.ext); case he => with_reducible assumption)))
    have R0 := R.cell 0
    have R1 := R.cell 1
    have R2 := R.cell 2
    have R3 := R.cell 3
    simp at R0 R1 R2 R3
    have Rl := R.lt
    go_wp2_with fail
    refine (right25_any (some ⟨g, 0, none⟩) B n m cap c2 ys cs lo hi _ (hD6.out.ext (by (repeat (first | (with_reducible assumption) | with_reducible exact Ext.refl _ | with_reducible apply Ext.alloc | with_reducible apply Ext.drew | with_reducible apply Ext.drewN | ((with_reducible apply Ext.set); case hp => (first | (simp; done) | (dsimp only; omega) | omega)) | ((with_reducible apply Ext.trans); case k => with_reducible assumption))))) (HK.out.ext (by (repeat (first | (with_reducible assumption) | with_reducible exact Ext.refl _ | with_reducible apply Ext.alloc | with_reducible apply Ext.drew | with_reducible apply Ext.drewN | ((with_reducible apply Ext.set); case hp => (first | (simp; done) | (dsimp only; omega) | omega)) | ((with_reducible apply Ext.trans); case k => with_reducible assumption))))) hm4).mono ?_
    rintro e w7 ⟨b1, rfl, hb1, hw7⟩
    cases b1
    case false =>
      go_wp2_with (first | (go_at_call 51; refine (awake25_any _).mono ?_; rintro e wz ⟨rfl, hwz⟩))
      all_goals (go_ret; exact Ret.bool (by first | rfl | (simp; done) | (simp; omega)) (by (repeat (first | (with_reducible assumption) | with_reducible exact Ext.refl _ | with_reducible apply Ext.alloc | with_reducible apply Ext.drew | with_reducible apply Ext.drewN | ((with_reducible apply Ext.set); case hp => (first | (simp; done) | (dsimp only; omega) | omega)) | ((with_reducible apply Ext.trans); case k => with_reducible assumption)))))
    case true =>
      have S : Blk w7 (W5.heap.size) #[.slice A n c, .slice B m c2, .int .i64 lo, .int .i64 M] 85 := by (repeat (first | (with_reducible assumption) | ((with_reducible apply Blk.new_at); focus (first | (simp; done) | (simp; omega))) | with_reducible apply Blk.alloc | with_reducible apply Blk.drew | with_reducible apply Blk.drewN | with_reducible apply Blk.set | ((with_reducible apply Blk.far); case hp => (first | (simp; done) | (dsimp only; omega))) | ((with_reducible apply Blk.ext); case he => with_reducible assumption)))
      have S0 := S.cell 0
      have S1 := S.cell 1
      have S2 := S.cell 2
      have S3 := S.cell 3
      simp at S0 S1 S2 S3
      have Sl := S.lt
      go_wp2_with fail
      refine (right25_any A B n m c c2 xs cs lo M _ (HX.out.ext (by (repeat (first | (with_reducible assumption) | with_reducible exact Ext.refl _ | with_reducible apply Ext.alloc | with_reducible apply Ext.drew | with_reducible apply Ext.drewN | ((with_reducible apply Ext.set); case hp => (first | (simp; done) | (dsimp only; omega) | omega)) | ((with_reducible apply Ext.trans); case k => with_reducible assumption))))) (HK.out.ext (by (repeat (first | (with_reducible assumption) | with_reducible exact Ext.refl _ | with_reducible apply Ext.alloc | with_reducible apply Ext.drew | with_reducible apply Ext.drewN | ((with_reducible apply Ext.set); case hp => (first | (simp; done) | (dsimp only; omega) | omega)) | ((with_reducible apply Ext.trans); case k => with_reducible assumption))))) hm4).mono ?_
      rintro e w8 ⟨b2, rfl, hb2, hw8⟩
      cases b2
      case false =>
        go_wp2_with (first | (go_at_call 51; refine (awake25_any _).mono ?_; rintro e wz ⟨rfl, hwz⟩))
        all_goals (go_ret; exact Ret.bool (by first | rfl | (simp; done) | (simp; omega)) (by (repeat (first | (with_reducible assumption) | with_reducible exact Ext.refl _ | with_reducible apply Ext.alloc | with_reducible apply Ext.drew | with_reducible apply Ext.drewN | ((with_reducible apply Ext.set); case hp => (first | (simp; done) | (dsimp only; omega) | omega)) | ((with_reducible apply Ext.trans); case k => with_reducible assumption)))))
      case true =>
        have HTY := Lib.hid (hb1 (by trivial)).2
        have HTM := Lib.hid (hb2 (by trivial)).2
        clear hb1 hb2
        have HSP := Lib.hid (fun w (h1 : Dims w A n xs) (h2 : Lnks w B m cs) => (by have := sspare_ok A B n m c c2 xs cs lo hi w h1 h2 HH.out; rwa [HLS.out, HHS.out] at this : Calls Try.prog 60 #[.agg #[.slice A n c, .slice B m c2, .int .i64 lo, .int .i64 hi]] w (Ret (.tuple #[.int .i64 (L - lo), .int .i64 (hi - H), .int .i64 0]) w)))
        have HSM := Lib.hid (fun w (h1 : Dims w A n xs) (h2 : Lnks w B m cs) => (by have := sspare_ok A B n m c c2 xs cs lo M w h1 h2 HTM.out; rwa [HLS.out, HHS.out] at this : Calls Try.prog 60 #[.agg #[.slice A n c, .slice B m c2, .int .i64 lo, .int .i64 M]] w (Ret (.tuple #[.int .i64 (L - lo), .int .i64 (M - H), .int .i64 0]) w)))
        have HSY := Lib.hid (fun w (h1 : Dims w (some ⟨g, 0, none⟩) n ys) (h2 : Lnks w B m cs) => slimits_ok (some ⟨g, 0, none⟩) B n m cap c2 ys cs lo hi w h1 h2 HTY.out)
        have hwd := HWD.out
        obtain ⟨L2, hL2⟩ : ∃ v, endS 1 ys cs = v := ⟨_, rfl⟩
        obtain ⟨H2, hH2⟩ : ∃ v, endS (-1) ys cs = v := ⟨_, rfl⟩
        rw [hL2, hH2] at hwd HSY
        clear hL2 hH2
        obtain ⟨hwd1, hwd2⟩ := hwd
        have V : Blk w8 (w2.heap.size + 1) #[.slice (some ⟨g, 0, none⟩) n cap, .slice B m c2, .int .i64 lo, .int .i64 hi] 85 := by (repeat (first | (with_reducible assumption) | ((with_reducible apply Blk.new_at); focus (first | (simp; done) | (simp; omega))) | with_reducible apply Blk.alloc | with_reducible apply Blk.drew | with_reducible apply Blk.drewN | with_reducible apply Blk.set | ((with_reducible apply Blk.far); case hp => (first | (simp; done) | (dsimp only; omega))) | ((with_reducible apply Blk.ext); case he => with_reducible assumption)))
        have V0 := V.cell 0
        have V1 := V.cell 1
        have V2 := V.cell 2
        have V3 := V.cell 3
        simp at V0 V1 V2 V3
        have Vl := V.lt
        go_wp2_with fail; refine (HSY.out _ (hD6.out.ext (by (repeat (first | (with_reducible assumption) | with_reducible exact Ext.refl _ | with_reducible apply Ext.alloc | with_reducible apply Ext.drew | with_reducible apply Ext.drewN | ((with_reducible apply Ext.set); case hp => (first | (simp; done) | (dsimp only; omega) | omega)) | ((with_reducible apply Ext.trans); case k => with_reducible assumption))))) (HK.out.ext (by (repeat (first | (with_reducible assumption) | with_reducible exact Ext.refl _ | with_reducible apply Ext.alloc | with_reducible apply Ext.drew | with_reducible apply Ext.drewN | ((with_reducible apply Ext.set); case hp => (first | (simp; done) | (dsimp only; omega) | omega)) | ((with_reducible apply Ext.trans); case k => with_reducible assumption)))))).mono ?_; rintro e w9 ⟨rfl, hw9⟩
        have X : Blk w9 (w.heap.size) #[.slice A n c, .slice B m c2, .int .i64 lo, .int .i64 hi] 85 := by (repeat (first | (with_reducible assumption) | ((with_reducible apply Blk.new_at); focus (first | (simp; done) | (simp; omega))) | with_reducible apply Blk.alloc | with_reducible apply Blk.drew | with_reducible apply Blk.drewN | with_reducible apply Blk.set | ((with_reducible apply Blk.far); case hp => (first | (simp; done) | (dsimp only; omega))) | ((with_reducible apply Blk.ext); case he => with_reducible assumption)))
        have X0 := X.cell 0
        have X1 := X.cell 1
        have X2 := X.cell 2
        have X3 := X.cell 3
        simp at X0 X1 X2 X3
        have Xl := X.lt
        go_wp2_with fail; refine (HSP.out _ (HX.out.ext (by (repeat (first | (with_reducible assumption) | with_reducible exact Ext.refl _ | with_reducible apply Ext.alloc | with_reducible apply Ext.drew | with_reducible apply Ext.drewN | ((with_reducible apply Ext.set); case hp => (first | (simp; done) | (dsimp only; omega) | omega)) | ((with_reducible apply Ext.trans); case k => with_reducible assumption))))) (HK.out.ext (by (repeat (first | (with_reducible assumption) | with_reducible exact Ext.refl _ | with_reducible apply Ext.alloc | with_reducible apply Ext.drew | with_reducible apply Ext.drewN | ((with_reducible apply Ext.set); case hp => (first | (simp; done) | (dsimp only; omega) | omega)) | ((with_reducible apply Ext.trans); case k => with_reducible assumption)))))).mono ?_; rintro e w10 ⟨rfl, hw10⟩
        have Y : Blk w10 (W5.heap.size) #[.slice A n c, .slice B m c2, .int .i64 lo, .int .i64 M] 85 := by (repeat (first | (with_reducible assumption) | ((with_reducible apply Blk.new_at); focus (first | (simp; done) | (simp; omega))) | with_reducible apply Blk.alloc | with_reducible apply Blk.drew | with_reducible apply Blk.drewN | with_reducible apply Blk.set | ((with_reducible apply Blk.far); case hp => (first | (simp; done) | (dsimp only; omega))) | ((with_reducible apply Blk.ext); case he => with_reducible assumption)))
        have Y0 := Y.cell 0
        have Y1 := Y.cell 1
        have Y2 := Y.cell 2
        have Y3 := Y.cell 3
        simp at Y0 Y1 Y2 Y3
        have Yl := Y.lt
        go_wp2_with fail; refine (HSM.out _ (HX.out.ext (by (repeat (first | (with_reducible assumption) | with_reducible exact Ext.refl _ | with_reducible apply Ext.alloc | with_reducible apply Ext.drew | with_reducible apply Ext.drewN | ((with_reducible apply Ext.set); case hp => (first | (simp; done) | (dsimp only; omega) | omega)) | ((with_reducible apply Ext.trans); case k => with_reducible assumption))))) (HK.out.ext (by (repeat (first | (with_reducible assumption) | with_reducible exact Ext.refl _ | with_reducible apply Ext.alloc | with_reducible apply Ext.drew | with_reducible apply Ext.drewN | ((with_reducible apply Ext.set); case hp => (first | (simp; done) | (dsimp only; omega) | omega)) | ((with_reducible apply Ext.trans); case k => with_reducible assumption)))))).mono ?_; rintro e w11 ⟨rfl, hw11⟩
        have Z : Blk w11 (w.heap.size) #[.slice A n c, .slice B m c2, .int .i64 lo, .int .i64 hi] 85 := by (repeat (first | (with_reducible assumption) | ((with_reducible apply Blk.new_at); focus (first | (simp; done) | (simp; omega))) | with_reducible apply Blk.alloc | with_reducible apply Blk.drew | with_reducible apply Blk.drewN | with_reducible apply Blk.set | ((with_reducible apply Blk.far); case hp => (first | (simp; done) | (dsimp only; omega))) | ((with_reducible apply Blk.ext); case he => with_reducible assumption)))
        have Z0 := Z.cell 0
        have Z1 := Z.cell 1
        have Z2 := Z.cell 2
        have Z3 := Z.cell 3
        simp at Z0 Z1 Z2 Z3
        have Zl := Z.lt
        have F : Blk w11 (w9.heap.size) #[.int .i64 L2, .int .i64 H2] 23 := (by (repeat (first | (with_reducible assumption) | ((with_reducible apply Blk.new_at); focus (first | (simp; done) | (simp; omega))) | with_reducible apply Blk.alloc | with_reducible apply Blk.drew | with_reducible apply Blk.drewN | with_reducible apply Blk.set | ((with_reducible apply Blk.far); case hp => (first | (simp; done) | (dsimp only; omega))) | ((with_reducible apply Blk.ext); case he => with_reducible assumption)))); obtain ⟨F1, F2, F3, F4⟩ := F.c2; have F5 := F.lt
        have U : Blk w11 (w2.heap.size) #[.int .i64 L, .int .i64 H] 23 := (by (repeat (first | (with_reducible assumption) | ((with_reducible apply Blk.new_at); focus (first | (simp; done) | (simp; omega))) | with_reducible apply Blk.alloc | with_reducible apply Blk.drew | with_reducible apply Blk.drewN | with_reducible apply Blk.set | ((with_reducible apply Blk.far); case hp => (first | (simp; done) | (dsimp only; omega))) | ((with_reducible apply Blk.ext); case he => with_reducible assumption)))); obtain ⟨U1, U2, U3, U4⟩ := U.c2; have U5 := U.lt
        have f1 : decide (L < L2) = false := by simp; omega
        have f2 : decide (H2 < H) = false := by simp; omega
        have f3 : (L - lo != L - lo) = false := by simp
        have f4 : IntKind.i64.wrap (hi - H + more) = hi - H + more := i64_in' (by omega)
        have f5 : (M - H != hi - H + more) = false := by simp; omega
        clear P P0 P1 P2 P3 Pl Q Q0 Q1 Q2 Q3 Ql R R0 R1 R2 R3 Rl S S0 S1 S2 S3 Sl V V0 V1 V2 V3 Vl X X0 X1 X2 X3 Xl Y Y0 Y1 Y2 Y3 Yl
        go_wp2_with fail
        have hcase : (L < lo ∨ hi < L) ∨ ((lo ≤ L ∧ L ≤ hi) ∧ (H < lo ∨ hi < H)) ∨ ((lo ≤ L ∧ L ≤ hi) ∧ (lo ≤ H ∧ H ≤ hi)) := by omega
        rcases hcase with hc | hc | hc
        · refine (skeeps_low A B n m c c2 xs cs lo hi _ (HX.out.ext (by (repeat (first | (with_reducible assumption) | with_reducible exact Ext.refl _ | with_reducible apply Ext.alloc | with_reducible apply Ext.drew | with_reducible apply Ext.drewN | ((with_reducible apply Ext.set); case hp => (first | (simp; done) | (dsimp only; omega) | omega)) | ((with_reducible apply Ext.trans); case k => with_reducible assumption))))) (HK.out.ext (by (repeat (first | (with_reducible assumption) | with_reducible exact Ext.refl _ | with_reducible apply Ext.alloc | with_reducible apply Ext.drew | with_reducible apply Ext.drewN | ((with_reducible apply Ext.set); case hp => (first | (simp; done) | (dsimp only; omega) | omega)) | ((with_reducible apply Ext.trans); case k => with_reducible assumption))))) HH.out (by rw [HLS.out]; exact hc)).mono ?_
          rintro e w12 ⟨g12, cap12, cur12, rfl, -, hw12⟩
          have f6 : (decide (0 ≤ L - lo) = false) ∨ (decide (0 ≤ L - lo) = true ∧ decide (0 ≤ hi - H) = false) := by
            by_cases e : 0 ≤ L - lo
            · exact .inr ⟨by simpa using e, by simp; omega⟩
            · exact .inl (by simpa using e)
          rcases f6 with f6 | ⟨f6, f7⟩
          all_goals
            go_wp2_with (first | (go_at_call 51; refine (awake25_any _).mono ?_; rintro e wz ⟨rfl, hwz⟩))
            all_goals (go_ret; exact Ret.bool (by first | rfl | (simp; done) | (simp; omega)) (by (repeat (first | (with_reducible assumption) | with_reducible exact Ext.refl _ | with_reducible apply Ext.alloc | with_reducible apply Ext.drew | with_reducible apply Ext.drewN | ((with_reducible apply Ext.set); case hp => (first | (simp; done) | (dsimp only; omega) | omega)) | ((with_reducible apply Ext.trans); case k => with_reducible assumption)))))
        · refine (skeeps_high A B n m c c2 xs cs lo hi _ (HX.out.ext (by (repeat (first | (with_reducible assumption) | with_reducible exact Ext.refl _ | with_reducible apply Ext.alloc | with_reducible apply Ext.drew | with_reducible apply Ext.drewN | ((with_reducible apply Ext.set); case hp => (first | (simp; done) | (dsimp only; omega) | omega)) | ((with_reducible apply Ext.trans); case k => with_reducible assumption))))) (HK.out.ext (by (repeat (first | (with_reducible assumption) | with_reducible exact Ext.refl _ | with_reducible apply Ext.alloc | with_reducible apply Ext.drew | with_reducible apply Ext.drewN | ((with_reducible apply Ext.set); case hp => (first | (simp; done) | (dsimp only; omega) | omega)) | ((with_reducible apply Ext.trans); case k => with_reducible assumption))))) HH.out (by rw [HLS.out]; exact hc.1) (by rw [HHS.out]; exact hc.2)).mono ?_
          rintro e w12 ⟨g12, cap12, cur12, rfl, -, hw12⟩
          have f6 : decide (0 ≤ L - lo) = true := by simp; omega
          have f7 : decide (0 ≤ hi - H) = false := by simp; omega
          go_wp2_with (first | (go_at_call 51; refine (awake25_any _).mono ?_; rintro e wz ⟨rfl, hwz⟩))
          all_goals (go_ret; exact Ret.bool (by first | rfl | (simp; done) | (simp; omega)) (by (repeat (first | (with_reducible assumption) | with_reducible exact Ext.refl _ | with_reducible apply Ext.alloc | with_reducible apply Ext.drew | with_reducible apply Ext.drewN | ((with_reducible apply Ext.set); case hp => (first | (simp; done) | (dsimp only; omega) | omega)) | ((with_reducible apply Ext.trans); case k => with_reducible assumption)))))
        · refine (skeeps_yes A B n m c c2 xs cs lo hi _ (HX.out.ext (by (repeat (first | (with_reducible assumption) | with_reducible exact Ext.refl _ | with_reducible apply Ext.alloc | with_reducible apply Ext.drew | with_reducible apply Ext.drewN | ((with_reducible apply Ext.set); case hp => (first | (simp; done) | (dsimp only; omega) | omega)) | ((with_reducible apply Ext.trans); case k => with_reducible assumption))))) (HK.out.ext (by (repeat (first | (with_reducible assumption) | with_reducible exact Ext.refl _ | with_reducible apply Ext.alloc | with_reducible apply Ext.drew | with_reducible apply Ext.drewN | ((with_reducible apply Ext.set); case hp => (first | (simp; done) | (dsimp only; omega) | omega)) | ((with_reducible apply Ext.trans); case k => with_reducible assumption))))) HH.out (by rw [HLS.out]; exact hc.1) (by rw [HHS.out]; exact hc.2)).mono ?_
          rintro e w12 ⟨rfl, hw12⟩
          have f6 : decide (0 ≤ L - lo) = true := by simp; omega
          have f7 : decide (0 ≤ hi - H) = true := by simp; omega
          go_wp2_with (first | (go_at_call 51; refine (awake25_any _).mono ?_; rintro e wz ⟨rfl, hwz⟩))
          all_goals (go_ret; exact Ret.bool (by first | rfl | (simp; done) | (simp; omega)) (by (repeat (first | (with_reducible assumption) | with_reducible exact Ext.refl _ | with_reducible apply Ext.alloc | with_reducible apply Ext.drew | with_reducible apply Ext.drewN | ((with_reducible apply Ext.set); case hp => (first | (simp; done) | (dsimp only; omega) | omega)) | ((with_reducible apply Ext.trans); case k => with_reducible assumption)))))
end Go.Proofs.Ytdcedfciaaooiaa
