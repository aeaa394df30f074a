/- The law StackLimits returns true at every input: the walk. -/
import Derived.Test.YtdcedfciaaooiabA26
import Derived.Test.YtdcedfciaaooiabO25
import Derived.Test.YtdcedfciaaooiabY25
set_option linter.unusedVariables false
namespace Go.Proofs.Ytdcedfciaaooiab
open Go.RowKit

set_option maxRecDepth 20000 in
set_option maxHeartbeats 4000000 in
theorem law_stackLimits (A B : Option Addr) (n m c c2 : Nat) (xs : List Dim) (cs : List Lk) (lo hi : Int) (gr : Bool) (w : World) (hx : Dims w A n xs) (hk : Lnks w B m cs) (hm4 : m < 8796093022208) : Calls Try.prog 3 #[.agg #[.slice A n c, .slice B m c2, .int .i64 lo, .int .i64 hi], .bool gr] w (Ret (.bool true) w) := by
  have HX := Lib.hid hx
  have HK := Lib.hid hk
  have hxl := hx.len
  have hkl := hk.len
  clear hx hk
  by_cases h : taskE xs cs lo hi = 0
  · have hrt := rt_of hxl hkl (taskE_zero h).1
    have hn256 := hrt.n256
    have HPE := Lib.hid (fun gr => part_ext hrt gr)
    have HSC := Lib.hid (fun w (h1 : Dims w A n xs) (h2 : Lnks w B m cs) => (by have := scheck_any A B n m c c2 xs cs lo hi w h1 h2; rwa [h] at this : Calls Try.prog 22 #[.agg #[.slice A n c, .slice B m c2, .int .i64 lo, .int .i64 hi]] w (Ret (.int .i64 0) w)))
    have HRC := Lib.hid (fun w B' c' (h1 : Dims w A n xs) (h2 : Lnks w B' m cs) (h3 : m ≤ c') => (by have := rcheck25_any A B' n m c c' xs cs lo hi w h1 h2 h3; rwa [h] at this : Calls Try.prog 23 #[.agg #[.slice A n c, .slice B' m c', .int .i64 lo, .int .i64 hi]] w (Ret (.int .i64 0) w)))
    clear hrt
    cases gr
    case false =>
      go_enter Try.func3, Try.ntmps3
      go_wp2_with fail
      refine (own25_any A B n m c c2 cs lo hi _ (HK.out.ext (by (repeat (first | (with_reducible assumption) | with_reducible exact Ext.refl _ | with_reducible apply Ext.alloc | with_reducible apply Ext.drew | with_reducible apply Ext.drewN | ((with_reducible apply Ext.set); case hp => (first | (simp; done) | (dsimp only; omega) | omega)) | ((with_reducible apply Ext.trans); case k => with_reducible assumption))))) hm4).mono ?_
      rintro e w1 ⟨B1, c1, rfl, K1, M1, hw1⟩
      go_wp2_with fail
      refine (few25_any A B1 n m c c1 xs lo hi _ (HX.out.ext (by (repeat (first | (with_reducible assumption) | with_reducible exact Ext.refl _ | with_reducible apply Ext.alloc | with_reducible apply Ext.drew | with_reducible apply Ext.drewN | ((with_reducible apply Ext.set); case hp => (first | (simp; done) | (dsimp only; omega) | omega)) | ((with_reducible apply Ext.trans); case k => with_reducible assumption))))) (by omega)).mono ?_
      rintro e w2 ⟨few, rfl, hw2⟩
      cases few
      case false =>
        go_wp2_with fail; refine (awake25_any _).mono ?_; rintro e w3 ⟨rfl, hw3⟩
        go_wp2_with fail
        go_ret
        exact Ret.bool (by first | rfl | simp) (by (repeat (first | (with_reducible assumption) | with_reducible exact Ext.refl _ | with_reducible apply Ext.alloc | with_reducible apply Ext.drew | with_reducible apply Ext.drewN | ((with_reducible apply Ext.set); case hp => (first | (simp; done) | (dsimp only; omega) | omega)) | ((with_reducible apply Ext.trans); case k => with_reducible assumption))))
      case true =>
        have P : Blk w2 w.heap.size #[.slice A n c, .slice B m c2, .int .i64 lo, .int .i64 hi] 27 := by (repeat (first | (with_reducible assumption) | ((with_reducible apply Blk.new_at); focus (first | (simp; done) | (simp; omega))) | with_reducible apply Blk.alloc | with_reducible apply Blk.drew | with_reducible apply Blk.drewN | with_reducible apply Blk.set | ((with_reducible apply Blk.far); case hp => (first | (simp; done) | (dsimp only; omega))) | ((with_reducible apply Blk.ext); case he => with_reducible assumption)))
        have P0 := P.cell 0
        have P1 := P.cell 1
        have P2 := P.cell 2
        have P3 := P.cell 3
        simp at P0 P1 P2 P3
        have Pl := P.lt
        go_wp2_with fail; refine (slimits_ok A B n m c c2 xs cs lo hi _ (HX.out.ext (by (repeat (first | (with_reducible assumption) | with_reducible exact Ext.refl _ | with_reducible apply Ext.alloc | with_reducible apply Ext.drew | with_reducible apply Ext.drewN | ((with_reducible apply Ext.set); case hp => (first | (simp; done) | (dsimp only; omega) | omega)) | ((with_reducible apply Ext.trans); case k => with_reducible assumption))))) (HK.out.ext (by (repeat (first | (with_reducible assumption) | with_reducible exact Ext.refl _ | with_reducible apply Ext.alloc | with_reducible apply Ext.drew | with_reducible apply Ext.drewN | ((with_reducible apply Ext.set); case hp => (first | (simp; done) | (dsimp only; omega) | omega)) | ((with_reducible apply Ext.trans); case k => with_reducible assumption))))) h).mono ?_; rintro e w3 ⟨rfl, hw3⟩
        have Q : Blk w3 w.heap.size #[.slice A n c, .slice B m c2, .int .i64 lo, .int .i64 hi] 27 := by (repeat (first | (with_reducible assumption) | ((with_reducible apply Blk.new_at); focus (first | (simp; done) | (simp; omega))) | with_reducible apply Blk.alloc | with_reducible apply Blk.drew | with_reducible apply Blk.drewN | with_reducible apply Blk.set | ((with_reducible apply Blk.far); case hp => (first | (simp; done) | (dsimp only; omega))) | ((with_reducible apply Blk.ext); case he => with_reducible assumption)))
        have Q0 := Q.cell 0
        have Q1 := Q.cell 1
        have Q2 := Q.cell 2
        have Q3 := Q.cell 3
        simp at Q0 Q1 Q2 Q3
        have Ql := Q.lt
        go_wp2_with fail
        refine (own25_any A B n m c c2 cs lo hi _ (HK.out.ext (by (repeat (first | (with_reducible assumption) | with_reducible exact Ext.refl _ | with_reducible apply Ext.alloc | with_reducible apply Ext.drew | with_reducible apply Ext.drewN | ((with_reducible apply Ext.set); case hp => (first | (simp; done) | (dsimp only; omega) | omega)) | ((with_reducible apply Ext.trans); case k => with_reducible assumption))))) hm4).mono ?_
        rintro e w4 ⟨B4, c4, rfl, K4, M4, hw4⟩
        go_wp2_with fail
        refine (rlimits_ok A B4 n m c c4 xs cs lo hi _ (HX.out.ext (by (repeat (first | (with_reducible assumption) | with_reducible exact Ext.refl _ | with_reducible apply Ext.alloc | with_reducible apply Ext.drew | with_reducible apply Ext.drewN | ((with_reducible apply Ext.set); case hp => (first | (simp; done) | (dsimp only; omega) | omega)) | ((with_reducible apply Ext.trans); case k => with_reducible assumption))))) K4 M4 h).mono ?_
        rintro e w5 ⟨rfl, hw5⟩
        have R : Blk w5 w.heap.size #[.slice A n c, .slice B m c2, .int .i64 lo, .int .i64 hi] 27 := by (repeat (first | (with_reducible assumption) | ((with_reducible apply Blk.new_at); focus (first | (simp; done) | (simp; omega))) | with_reducible apply Blk.alloc | with_reducible apply Blk.drew | with_reducible apply Blk.drewN | with_reducible apply Blk.set | ((with_reducible apply Blk.far); case hp => (first | (simp; done) | (dsimp only; omega))) | ((with_reducible apply Blk.ext); case he => with_reducible assumption)))
        have R0 := R.cell 0
        have R1 := R.cell 1
        have R2 := R.cell 2
        have R3 := R.cell 3
        simp at R0 R1 R2 R3
        have Rl := R.lt
        go_wp2_with fail
        refine (sattain_false A B n m c c2 xs cs lo hi _ (HX.out.ext (by (repeat (first | (with_reducible assumption) | with_reducible exact Ext.refl _ | with_reducible apply Ext.alloc | with_reducible apply Ext.drew | with_reducible apply Ext.drewN | ((with_reducible apply Ext.set); case hp => (first | (simp; done) | (dsimp only; omega) | omega)) | ((with_reducible apply Ext.trans); case k => with_reducible assumption))))) (HK.out.ext (by (repeat (first | (with_reducible assumption) | with_reducible exact Ext.refl _ | with_reducible apply Ext.alloc | with_reducible apply Ext.drew | with_reducible apply Ext.drewN | ((with_reducible apply Ext.set); case hp => (first | (simp; done) | (dsimp only; omega) | omega)) | ((with_reducible apply Ext.trans); case k => with_reducible assumption))))) h).mono ?_
        rintro e w6 ⟨g6, cap6, cur6, rfl, I6, hw6⟩
        have T : Blk w6 w.heap.size #[.slice A n c, .slice B m c2, .int .i64 lo, .int .i64 hi] 27 := by (repeat (first | (with_reducible assumption) | ((with_reducible apply Blk.new_at); focus (first | (simp; done) | (simp; omega))) | with_reducible apply Blk.alloc | with_reducible apply Blk.drew | with_reducible apply Blk.drewN | with_reducible apply Blk.set | ((with_reducible apply Blk.far); case hp => (first | (simp; done) | (dsimp only; omega))) | ((with_reducible apply Blk.ext); case he => with_reducible assumption)))
        have T0 := T.cell 0
        have T1 := T.cell 1
        have T2 := T.cell 2
        have T3 := T.cell 3
        simp at T0 T1 T2 T3
        have Tl := T.lt
        go_wp2_with fail
        refine (own25_any A B n m c c2 cs lo hi _ (HK.out.ext (by (repeat (first | (with_reducible assumption) | with_reducible exact Ext.refl _ | with_reducible apply Ext.alloc | with_reducible apply Ext.drew | with_reducible apply Ext.drewN | ((with_reducible apply Ext.set); case hp => (first | (simp; done) | (dsimp only; omega) | omega)) | ((with_reducible apply Ext.trans); case k => with_reducible assumption))))) hm4).mono ?_
        rintro e w7 ⟨B7, c7, rfl, K7, M7, hw7⟩
        go_wp2_with fail
        refine (rattain_ok A B7 n m c c7 xs cs lo hi _ (HX.out.ext (by (repeat (first | (with_reducible assumption) | with_reducible exact Ext.refl _ | with_reducible apply Ext.alloc | with_reducible apply Ext.drew | with_reducible apply Ext.drewN | ((with_reducible apply Ext.set); case hp => (first | (simp; done) | (dsimp only; omega) | omega)) | ((with_reducible apply Ext.trans); case k => with_reducible assumption))))) K7 M7 h false).mono ?_
        rintro e w8 ⟨g8, cap8, cur8, rfl, I8, hw8⟩
        have hz3 := Ext.size hw3
        have hz5 := Ext.size hw5
        have hz4 := Ext.size hw4
        (try simp only [World.size_alloc] at hz4 hz5)
        have U : Blk w8 (w3.heap.size) #[.int .i64 (endS 1 xs cs), .int .i64 (endS (-1) xs cs)] 25 := (by (repeat (first | (with_reducible assumption) | ((with_reducible apply Blk.new_at); focus (first | (simp; done) | (simp; omega))) | with_reducible apply Blk.alloc | with_reducible apply Blk.drew | with_reducible apply Blk.drewN | with_reducible apply Blk.set | ((with_reducible apply Blk.far); case hp => (first | (simp; done) | (dsimp only; omega))) | ((with_reducible apply Blk.ext); case he => with_reducible assumption)))); obtain ⟨U1, U2, U3, U4⟩ := U.c2; have U5 := U.lt
        have V : Blk w8 (w5.heap.size) #[.int .i64 (endS 1 xs cs), .int .i64 (endS (-1) xs cs)] 25 := (by (repeat (first | (with_reducible assumption) | ((with_reducible apply Blk.new_at); focus (first | (simp; done) | (simp; omega))) | with_reducible apply Blk.alloc | with_reducible apply Blk.drew | with_reducible apply Blk.drewN | with_reducible apply Blk.set | ((with_reducible apply Blk.far); case hp => (first | (simp; done) | (dsimp only; omega))) | ((with_reducible apply Blk.ext); case he => with_reducible assumption)))); obtain ⟨V1, V2, V3, V4⟩ := V.c2; have V5 := V.lt
        have Z : Blk w8 w.heap.size #[.slice A n c, .slice B m c2, .int .i64 lo, .int .i64 hi] 27 := by (repeat (first | (with_reducible assumption) | ((with_reducible apply Blk.new_at); focus (first | (simp; done) | (simp; omega))) | with_reducible apply Blk.alloc | with_reducible apply Blk.drew | with_reducible apply Blk.drewN | with_reducible apply Blk.set | ((with_reducible apply Blk.far); case hp => (first | (simp; done) | (dsimp only; omega))) | ((with_reducible apply Blk.ext); case he => with_reducible assumption)))
        have Z0 := Z.cell 0
        have Z1 := Z.cell 1
        have Z2 := Z.cell 2
        have Z3 := Z.cell 3
        simp at Z0 Z1 Z2 Z3
        have Zl := Z.lt
        have J6 := I6.ints (by omega)
        have J8 := I8.ints (by omega)
        rw [show atE false xs cs = extL false xs cs from HPE.out false] at J6
        have e68 : Ext w6 w8 := by (repeat (first | (with_reducible assumption) | with_reducible exact Ext.refl _ | with_reducible apply Ext.alloc | with_reducible apply Ext.drew | with_reducible apply Ext.drewN | ((with_reducible apply Ext.set); case hp => (first | (simp; done) | (dsimp only; omega) | omega)) | ((with_reducible apply Ext.trans); case k => with_reducible assumption)))
        have J6' := J6.ext e68
        clear e68 I6 I8 J6
        go_wp2_with fail
        go_region_held3 (fun W => ((W.cell? ⟨w.heap.size, 0, none⟩ = some (.slice A n c) ∧ W.cell? ⟨w.heap.size, 1, none⟩ = some (.slice B m c2)) ∧ (W.cell? ⟨w.heap.size, 2, none⟩ = some (.int .i64 lo) ∧ W.cell? ⟨w.heap.size, 3, none⟩ = some (.int .i64 hi))) ∧ (W.cell? ⟨w3.heap.size, 0, none⟩ = some (.int .i64 (endS 1 xs cs)) ∧ W.cell? ⟨w3.heap.size, 1, none⟩ = some (.int .i64 (endS (-1) xs cs))) ∧ (W.cell? ⟨w5.heap.size, 0, none⟩ = some (.int .i64 (endS 1 xs cs)) ∧ W.cell? ⟨w5.heap.size, 1, none⟩ = some (.int .i64 (endS (-1) xs cs))))
          (exact ⟨⟨⟨(show Blk _ w.heap.size #[.slice A n c, .slice B m c2, .int .i64 lo, .int .i64 hi] 27 from by (repeat (first | (with_reducible assumption) | ((with_reducible apply Blk.new_at); focus (first | (simp; done) | (simp; omega))) | with_reducible apply Blk.alloc | with_reducible apply Blk.drew | with_reducible apply Blk.drewN | with_reducible apply Blk.set | ((with_reducible apply Blk.far); case hp => (first | (simp; done) | (dsimp only; omega))) | ((with_reducible apply Blk.ext); case he => with_reducible assumption)))).cell 0, (show Blk _ w.heap.size #[.slice A n c, .slice B m c2, .int .i64 lo, .int .i64 hi] 27 from by (repeat (first | (with_reducible assumption) | ((with_reducible apply Blk.new_at); focus (first | (simp; done) | (simp; omega))) | with_reducible apply Blk.alloc | with_reducible apply Blk.drew | with_reducible apply Blk.drewN | with_reducible apply Blk.set | ((with_reducible apply Blk.far); case hp => (first | (simp; done) | (dsimp only; omega))) | ((with_reducible apply Blk.ext); case he => with_reducible assumption)))).cell 1⟩, (show Blk _ w.heap.size #[.slice A n c, .slice B m c2, .int .i64 lo, .int .i64 hi] 27 from by (repeat (first | (with_reducible assumption) | ((with_reducible apply Blk.new_at); focus (first | (simp; done) | (simp; omega))) | with_reducible apply Blk.alloc | with_reducible apply Blk.drew | with_reducible apply Blk.drewN | with_reducible apply Blk.set | ((with_reducible apply Blk.far); case hp => (first | (simp; done) | (dsimp only; omega))) | ((with_reducible apply Blk.ext); case he => with_reducible assumption)))).cell 2, (show Blk _ w.heap.size #[.slice A n c, .slice B m c2, .int .i64 lo, .int .i64 hi] 27 from by (repeat (first | (with_reducible assumption) | ((with_reducible apply Blk.new_at); focus (first | (simp; done) | (simp; omega))) | with_reducible apply Blk.alloc | with_reducible apply Blk.drew | with_reducible apply Blk.drewN | with_reducible apply Blk.set | ((with_reducible apply Blk.far); case hp => (first | (simp; done) | (dsimp only; omega))) | ((with_reducible apply Blk.ext); case he => with_reducible assumption)))).cell 3⟩, Blk.r2 (t := 25) (by (repeat (first | (with_reducible assumption) | ((with_reducible apply Blk.new_at); focus (first | (simp; done) | (simp; omega))) | with_reducible apply Blk.alloc | with_reducible apply Blk.drew | with_reducible apply Blk.drewN | with_reducible apply Blk.set | ((with_reducible apply Blk.far); case hp => (first | (simp; done) | (dsimp only; omega))) | ((with_reducible apply Blk.ext); case he => with_reducible assumption)))), Blk.r2 (t := 25) (by (repeat (first | (with_reducible assumption) | ((with_reducible apply Blk.new_at); focus (first | (simp; done) | (simp; omega))) | with_reducible apply Blk.alloc | with_reducible apply Blk.drew | with_reducible apply Blk.drewN | with_reducible apply Blk.set | ((with_reducible apply Blk.far); case hp => (first | (simp; done) | (dsimp only; omega))) | ((with_reducible apply Blk.ext); case he => with_reducible assumption))))⟩)
          (first
            | (go_at_call 22; refine (HSC.out _ (HX.out.ext (by (repeat (first | (with_reducible assumption) | with_reducible exact Ext.refl _ | with_reducible apply Ext.alloc | with_reducible apply Ext.drew | with_reducible apply Ext.drewN | ((with_reducible apply Ext.set); case hp => (first | (simp; done) | (dsimp only; omega) | omega)) | ((with_reducible apply Ext.trans); case k => with_reducible assumption))))) (HK.out.ext (by (repeat (first | (with_reducible assumption) | with_reducible exact Ext.refl _ | with_reducible apply Ext.alloc | with_reducible apply Ext.drew | with_reducible apply Ext.drewN | ((with_reducible apply Ext.set); case hp => (first | (simp; done) | (dsimp only; omega) | omega)) | ((with_reducible apply Ext.trans); case k => with_reducible assumption)))))).mono ?_; rintro e w21 ⟨rfl, hw21⟩)
            | (go_at_call 16; refine (own25_any A B n m c c2 cs lo hi _ (HK.out.ext (by (repeat (first | (with_reducible assumption) | with_reducible exact Ext.refl _ | with_reducible apply Ext.alloc | with_reducible apply Ext.drew | with_reducible apply Ext.drewN | ((with_reducible apply Ext.set); case hp => (first | (simp; done) | (dsimp only; omega) | omega)) | ((with_reducible apply Ext.trans); case k => with_reducible assumption))))) hm4).mono ?_; rintro e w22 ⟨B22, c22, rfl, K22, M22, hw22⟩)
            | (go_at_call 23; refine (HRC.out _ B22 c22 (HX.out.ext (by (repeat (first | (with_reducible assumption) | with_reducible exact Ext.refl _ | with_reducible apply Ext.alloc | with_reducible apply Ext.drew | with_reducible apply Ext.drewN | ((with_reducible apply Ext.set); case hp => (first | (simp; done) | (dsimp only; omega) | omega)) | ((with_reducible apply Ext.trans); case k => with_reducible assumption))))) K22 M22).mono ?_; rintro e w23 ⟨rfl, hw23⟩)
            | (go_at_call 24; refine (eqI_true _ _ n _ _ (extL false xs cs) _ (J6'.ext (by (repeat (first | (with_reducible assumption) | with_reducible exact Ext.refl _ | with_reducible apply Ext.alloc | with_reducible apply Ext.drew | with_reducible apply Ext.drewN | ((with_reducible apply Ext.set); case hp => (first | (simp; done) | (dsimp only; omega) | omega)) | ((with_reducible apply Ext.trans); case k => with_reducible assumption))))) (J8.ext (by (repeat (first | (with_reducible assumption) | with_reducible exact Ext.refl _ | with_reducible apply Ext.alloc | with_reducible apply Ext.drew | with_reducible apply Ext.drewN | ((with_reducible apply Ext.set); case hp => (first | (simp; done) | (dsimp only; omega) | omega)) | ((with_reducible apply Ext.trans); case k => with_reducible assumption)))))).mono ?_; rintro e w24 ⟨rfl, hw24⟩)
            | (go_at_call 17; refine (awake25_any _).mono ?_; rintro e w25 ⟨rfl, hw25⟩))
        all_goals
          go_wp2_with fail
          go_ret
          exact Ret.bool (by first | rfl | simp) (by (repeat (first | (with_reducible assumption) | with_reducible exact Ext.refl _ | with_reducible apply Ext.alloc | with_reducible apply Ext.drew | with_reducible apply Ext.drewN | ((with_reducible apply Ext.set); case hp => (first | (simp; done) | (dsimp only; omega) | omega)) | ((with_reducible apply Ext.trans); case k => with_reducible assumption))))
    case true =>
      go_enter Try.func3, Try.ntmps3
      go_wp2_with fail
      refine (own25_any A B n m c c2 cs lo hi _ (HK.out.ext (by (repeat (first | (with_reducible assumption) | with_reducible exact Ext.refl _ | with_reducible apply Ext.alloc | with_reducible apply Ext.drew | with_reducible apply Ext.drewN | ((with_reducible apply Ext.set); case hp => (first | (simp; done) | (dsimp only; omega) | omega)) | ((with_reducible apply Ext.trans); case k => with_reducible assumption))))) hm4).mono ?_
      rintro e w1 ⟨B1, c1, rfl, K1, M1, hw1⟩
      go_wp2_with fail
      refine (few25_any A B1 n m c c1 xs lo hi _ (HX.out.ext (by (repeat (first | (with_reducible assumption) | with_reducible exact Ext.refl _ | with_reducible apply Ext.alloc | with_reducible apply Ext.drew | with_reducible apply Ext.drewN | ((with_reducible apply Ext.set); case hp => (first | (simp; done) | (dsimp only; omega) | omega)) | ((with_reducible apply Ext.trans); case k => with_reducible assumption))))) (by omega)).mono ?_
      rintro e w2 ⟨few, rfl, hw2⟩
      cases few
      case false =>
        go_wp2_with fail; refine (awake25_any _).mono ?_; rintro e w3 ⟨rfl, hw3⟩
        go_wp2_with fail
        go_ret
        exact Ret.bool (by first | rfl | simp) (by (repeat (first | (with_reducible assumption) | with_reducible exact Ext.refl _ | with_reducible apply Ext.alloc | with_reducible apply Ext.drew | with_reducible apply Ext.drewN | ((with_reducible apply Ext.set); case hp => (first | (simp; done) | (dsimp only; omega) | omega)) | ((with_reducible apply Ext.trans); case k => with_reducible assumption))))
      case true =>
        have P : Blk w2 w.heap.size #[.slice A n c, .slice B m c2, .int .i64 lo, .int .i64 hi] 27 := by (repeat (first | (with_reducible assumption) | ((with_reducible apply Blk.new_at); focus (first | (simp; done) | (simp; omega))) | with_reducible apply Blk.alloc | with_reducible apply Blk.drew | with_reducible apply Blk.drewN | with_reducible apply Blk.set | ((with_reducible apply Blk.far); case hp => (first | (simp; done) | (dsimp only; omega))) | ((with_reducible apply Blk.ext); case he => with_reducible assumption)))
        have P0 := P.cell 0
        have P1 := P.cell 1
        have P2 := P.cell 2
        have P3 := P.cell 3
        simp at P0 P1 P2 P3
        have Pl := P.lt
        go_wp2_with fail; refine (slimits_ok A B n m c c2 xs cs lo hi _ (HX.out.ext (by (repeat (first | (with_reducible assumption) | with_reducible exact Ext.refl _ | with_reducible apply Ext.alloc | with_reducible apply Ext.drew | with_reducible apply Ext.drewN | ((with_reducible apply Ext.set); case hp => (first | (simp; done) | (dsimp only; omega) | omega)) | ((with_reducible apply Ext.trans); case k => with_reducible assumption))))) (HK.out.ext (by (repeat (first | (with_reducible assumption) | with_reducible exact Ext.refl _ | with_reducible apply Ext.alloc | with_reducible apply Ext.drew | with_reducible apply Ext.drewN | ((with_reducible apply Ext.set); case hp => (first | (simp; done) | (dsimp only; omega) | omega)) | ((with_reducible apply Ext.trans); case k => with_reducible assumption))))) h).mono ?_; rintro e w3 ⟨rfl, hw3⟩
        have Q : Blk w3 w.heap.size #[.slice A n c, .slice B m c2, .int .i64 lo, .int .i64 hi] 27 := by (repeat (first | (with_reducible assumption) | ((with_reducible apply Blk.new_at); focus (first | (simp; done) | (simp; omega))) | with_reducible apply Blk.alloc | with_reducible apply Blk.drew | with_reducible apply Blk.drewN | with_reducible apply Blk.set | ((with_reducible apply Blk.far); case hp => (first | (simp; done) | (dsimp only; omega))) | ((with_reducible apply Blk.ext); case he => with_reducible assumption)))
        have Q0 := Q.cell 0
        have Q1 := Q.cell 1
        have Q2 := Q.cell 2
        have Q3 := Q.cell 3
        simp at Q0 Q1 Q2 Q3
        have Ql := Q.lt
        go_wp2_with fail
        refine (own25_any A B n m c c2 cs lo hi _ (HK.out.ext (by (repeat (first | (with_reducible assumption) | with_reducible exact Ext.refl _ | with_reducible apply Ext.alloc | with_reducible apply Ext.drew | with_reducible apply Ext.drewN | ((with_reducible apply Ext.set); case hp => (first | (simp; done) | (dsimp only; omega) | omega)) | ((with_reducible apply Ext.trans); case k => with_reducible assumption))))) hm4).mono ?_
        rintro e w4 ⟨B4, c4, rfl, K4, M4, hw4⟩
        go_wp2_with fail
        refine (rlimits_ok A B4 n m c c4 xs cs lo hi _ (HX.out.ext (by (repeat (first | (with_reducible assumption) | with_reducible exact Ext.refl _ | with_reducible apply Ext.alloc | with_reducible apply Ext.drew | with_reducible apply Ext.drewN | ((with_reducible apply Ext.set); case hp => (first | (simp; done) | (dsimp only; omega) | omega)) | ((with_reducible apply Ext.trans); case k => with_reducible assumption))))) K4 M4 h).mono ?_
        rintro e w5 ⟨rfl, hw5⟩
        have R : Blk w5 w.heap.size #[.slice A n c, .slice B m c2, .int .i64 lo, .int .i64 hi] 27 := by (repeat (first | (with_reducible assumption) | ((with_reducible apply Blk.new_at); focus (first | (simp; done) | (simp; omega))) | with_reducible apply Blk.alloc | with_reducible apply Blk.drew | with_reducible apply Blk.drewN | with_reducible apply Blk.set | ((with_reducible apply Blk.far); case hp => (first | (simp; done) | (dsimp only; omega))) | ((with_reducible apply Blk.ext); case he => with_reducible assumption)))
        have R0 := R.cell 0
        have R1 := R.cell 1
        have R2 := R.cell 2
        have R3 := R.cell 3
        simp at R0 R1 R2 R3
        have Rl := R.lt
        go_wp2_with fail
        refine (sattain_true A B n m c c2 xs cs lo hi _ (HX.out.ext (by (repeat (first | (with_reducible assumption) | with_reducible exact Ext.refl _ | with_reducible apply Ext.alloc | with_reducible apply Ext.drew | with_reducible apply Ext.drewN | ((with_reducible apply Ext.set); case hp => (first | (simp; done) | (dsimp only; omega) | omega)) | ((with_reducible apply Ext.trans); case k => with_reducible assumption))))) (HK.out.ext (by (repeat (first | (with_reducible assumption) | with_reducible exact Ext.refl _ | with_reducible apply Ext.alloc | with_reducible apply Ext.drew | with_reducible apply Ext.drewN | ((with_reducible apply Ext.set); case hp => (first | (simp; done) | (dsimp only; omega) | omega)) | ((with_reducible apply Ext.trans); case k => with_reducible assumption))))) h).mono ?_
        rintro e w6 ⟨g6, cap6, cur6, rfl, I6, hw6⟩
        have T : Blk w6 w.heap.size #[.slice A n c, .slice B m c2, .int .i64 lo, .int .i64 hi] 27 := by (repeat (first | (with_reducible assumption) | ((with_reducible apply Blk.new_at); focus (first | (simp; done) | (simp; omega))) | with_reducible apply Blk.alloc | with_reducible apply Blk.drew | with_reducible apply Blk.drewN | with_reducible apply Blk.set | ((with_reducible apply Blk.far); case hp => (first | (simp; done) | (dsimp only; omega))) | ((with_reducible apply Blk.ext); case he => with_reducible assumption)))
        have T0 := T.cell 0
        have T1 := T.cell 1
        have T2 := T.cell 2
        have T3 := T.cell 3
        simp at T0 T1 T2 T3
        have Tl := T.lt
        go_wp2_with fail
        refine (own25_any A B n m c c2 cs lo hi _ (HK.out.ext (by (repeat (first | (with_reducible assumption) | with_reducible exact Ext.refl _ | with_reducible apply Ext.alloc | with_reducible apply Ext.drew | with_reducible apply Ext.drewN | ((with_reducible apply Ext.set); case hp => (first | (simp; done) | (dsimp only; omega) | omega)) | ((with_reducible apply Ext.trans); case k => with_reducible assumption))))) hm4).mono ?_
        rintro e w7 ⟨B7, c7, rfl, K7, M7, hw7⟩
        go_wp2_with fail
        refine (rattain_ok A B7 n m c c7 xs cs lo hi _ (HX.out.ext (by (repeat (first | (with_reducible assumption) | with_reducible exact Ext.refl _ | with_reducible apply Ext.alloc | with_reducible apply Ext.drew | with_reducible apply Ext.drewN | ((with_reducible apply Ext.set); case hp => (first | (simp; done) | (dsimp only; omega) | omega)) | ((with_reducible apply Ext.trans); case k => with_reducible assumption))))) K7 M7 h true).mono ?_
        rintro e w8 ⟨g8, cap8, cur8, rfl, I8, hw8⟩
        have hz3 := Ext.size hw3
        have hz5 := Ext.size hw5
        have hz4 := Ext.size hw4
        (try simp only [World.size_alloc] at hz4 hz5)
        have U : Blk w8 (w3.heap.size) #[.int .i64 (endS 1 xs cs), .int .i64 (endS (-1) xs cs)] 25 := (by (repeat (first | (with_reducible assumption) | ((with_reducible apply Blk.new_at); focus (first | (simp; done) | (simp; omega))) | with_reducible apply Blk.alloc | with_reducible apply Blk.drew | with_reducible apply Blk.drewN | with_reducible apply Blk.set | ((with_reducible apply Blk.far); case hp => (first | (simp; done) | (dsimp only; omega))) | ((with_reducible apply Blk.ext); case he => with_reducible assumption)))); obtain ⟨U1, U2, U3, U4⟩ := U.c2; have U5 := U.lt
        have V : Blk w8 (w5.heap.size) #[.int .i64 (endS 1 xs cs), .int .i64 (endS (-1) xs cs)] 25 := (by (repeat (first | (with_reducible assumption) | ((with_reducible apply Blk.new_at); focus (first | (simp; done) | (simp; omega))) | with_reducible apply Blk.alloc | with_reducible apply Blk.drew | with_reducible apply Blk.drewN | with_reducible apply Blk.set | ((with_reducible apply Blk.far); case hp => (first | (simp; done) | (dsimp only; omega))) | ((with_reducible apply Blk.ext); case he => with_reducible assumption)))); obtain ⟨V1, V2, V3, V4⟩ := V.c2; have V5 := V.lt
        have Z : Blk w8 w.heap.size #[.slice A n c, .slice B m c2, .int .i64 lo, .int .i64 hi] 27 := by (repeat (first | (with_reducible assumption) | ((with_reducible apply Blk.new_at); focus (first | (simp; done) | (simp; omega))) | with_reducible apply Blk.alloc | with_reducible apply Blk.drew | with_reducible apply Blk.drewN | with_reducible apply Blk.set | ((with_reducible apply Blk.far); case hp => (first | (simp; done) | (dsimp only; omega))) | ((with_reducible apply Blk.ext); case he => with_reducible assumption)))
        have Z0 := Z.cell 0
        have Z1 := Z.cell 1
        have Z2 := Z.cell 2
        have Z3 := Z.cell 3
        simp at Z0 Z1 Z2 Z3
        have Zl := Z.lt
        have J6 := I6.ints (by omega)
        have J8 := I8.ints (by omega)
        rw [show atE true xs cs = extL true xs cs from HPE.out true] at J6
        have e68 : Ext w6 w8 := by (repeat (first | (with_reducible assumption) | with_reducible exact Ext.refl _ | with_reducible apply Ext.alloc | with_reducible apply Ext.drew | with_reducible apply Ext.drewN | ((with_reducible apply Ext.set); case hp => (first | (simp; done) | (dsimp only; omega) | omega)) | ((with_reducible apply Ext.trans); case k => with_reducible assumption)))
        have J6' := J6.ext e68
        clear e68 I6 I8 J6
        go_wp2_with fail
        go_region_held3 (fun W => ((W.cell? ⟨w.heap.size, 0, none⟩ = some (.slice A n c) ∧ W.cell? ⟨w.heap.size, 1, none⟩ = some (.slice B m c2)) ∧ (W.cell? ⟨w.heap.size, 2, none⟩ = some (.int .i64 lo) ∧ W.cell? ⟨w.heap.size, 3, none⟩ = some (.int .i64 hi))) ∧ (W.cell? ⟨w3.heap.size, 0, none⟩ = some (.int .i64 (endS 1 xs cs)) ∧ W.cell? ⟨w3.heap.size, 1, none⟩ = some (.int .i64 (endS (-1) xs cs))) ∧ (W.cell? ⟨w5.heap.size, 0, none⟩ = some (.int .i64 (endS 1 xs cs)) ∧ W.cell? ⟨w5.heap.size, 1, none⟩ = some (.int .i64 (endS (-1) xs cs))))
          (exact ⟨⟨⟨(show Blk _ w.heap.size #[.slice A n c, .slice B m c2, .int .i64 lo, .int .i64 hi] 27 from by (repeat (first | (with_reducible assumption) | ((with_reducible apply Blk.new_at); focus (first | (simp; done) | (simp; omega))) | with_reducible apply Blk.alloc | with_reducible apply Blk.drew | with_reducible apply Blk.drewN | with_reducible apply Blk.set | ((with_reducible apply Blk.far); case hp => (first | (simp; done) | (dsimp only; omega))) | ((with_reducible apply Blk.ext); case he => with_reducible assumption)))).cell 0, (show Blk _ w.heap.size #[.slice A n c, .slice B m c2, .int .i64 lo, .int .i64 hi] 27 from by (repeat (first | (with_reducible assumption) | ((with_reducible apply Blk.new_at); focus (first | (simp; done) | (simp; omega))) | with_reducible apply Blk.alloc | with_reducible apply Blk.drew | with_reducible apply Blk.drewN | with_reducible apply Blk.set | ((with_reducible apply Blk.far); case hp => (first | (simp; done) | (dsimp only; omega))) | ((with_reducible apply Blk.ext); case he => with_reducible assumption)))).cell 1⟩, (show Blk _ w.heap.size #[.slice A n c, .slice B m c2, .int .i64 lo, .int .i64 hi] 27 from by (repeat (first | (with_reducible assumption) | ((with_reducible apply Blk.new_at); focus (first | (simp; done) | (simp; omega))) | with_reducible apply Blk.alloc | with_reducible apply Blk.drew | with_reducible apply Blk.drewN | with_reducible apply Blk.set | ((with_reducible apply Blk.far); case hp => (first | (simp; done) | (dsimp only; omega))) | ((with_reducible apply Blk.ext); case he => with_reducible assumption)))).cell 2, (show Blk _ w.heap.size #[.slice A n c, .slice B m c2, .int .i64 lo, .int .i64 hi] 27 from by (repeat (first | (with_reducible assumption) | ((with_reducible apply Blk.new_at); focus (first | (simp; done) | (simp; omega))) | with_reducible apply Blk.alloc | with_reducible apply Blk.drew | with_reducible apply Blk.drewN | with_reducible apply Blk.set | ((with_reducible apply Blk.far); case hp => (first | (simp; done) | (dsimp only; omega))) | ((with_reducible apply Blk.ext); case he => with_reducible assumption)))).cell 3⟩, Blk.r2 (t := 25) (by (repeat (first | (with_reducible assumption) | ((with_reducible apply Blk.new_at); focus (first | (simp; done) | (simp; omega))) | with_reducible apply Blk.alloc | with_reducible apply Blk.drew | with_reducible apply Blk.drewN | with_reducible apply Blk.set | ((with_reducible apply Blk.far); case hp => (first | (simp; done) | (dsimp only; omega))) | ((with_reducible apply Blk.ext); case he => with_reducible assumption)))), Blk.r2 (t := 25) (by (repeat (first | (with_reducible assumption) | ((with_reducible apply Blk.new_at); focus (first | (simp; done) | (simp; omega))) | with_reducible apply Blk.alloc | with_reducible apply Blk.drew | with_reducible apply Blk.drewN | with_reducible apply Blk.set | ((with_reducible apply Blk.far); case hp => (first | (simp; done) | (dsimp only; omega))) | ((with_reducible apply Blk.ext); case he => with_reducible assumption))))⟩)
          (first
            | (go_at_call 22; refine (HSC.out _ (HX.out.ext (by (repeat (first | (with_reducible assumption) | with_reducible exact Ext.refl _ | with_reducible apply Ext.alloc | with_reducible apply Ext.drew | with_reducible apply Ext.drewN | ((with_reducible apply Ext.set); case hp => (first | (simp; done) | (dsimp only; omega) | omega)) | ((with_reducible apply Ext.trans); case k => with_reducible assumption))))) (HK.out.ext (by (repeat (first | (with_reducible assumption) | with_reducible exact Ext.refl _ | with_reducible apply Ext.alloc | with_reducible apply Ext.drew | with_reducible apply Ext.drewN | ((with_reducible apply Ext.set); case hp => (first | (simp; done) | (dsimp only; omega) | omega)) | ((with_reducible apply Ext.trans); case k => with_reducible assumption)))))).mono ?_; rintro e w21 ⟨rfl, hw21⟩)
            | (go_at_call 16; refine (own25_any A B n m c c2 cs lo hi _ (HK.out.ext (by (repeat (first | (with_reducible assumption) | with_reducible exact Ext.refl _ | with_reducible apply Ext.alloc | with_reducible apply Ext.drew | with_reducible apply Ext.drewN | ((with_reducible apply Ext.set); case hp => (first | (simp; done) | (dsimp only; omega) | omega)) | ((with_reducible apply Ext.trans); case k => with_reducible assumption))))) hm4).mono ?_; rintro e w22 ⟨B22, c22, rfl, K22, M22, hw22⟩)
            | (go_at_call 23; refine (HRC.out _ B22 c22 (HX.out.ext (by (repeat (first | (with_reducible assumption) | with_reducible exact Ext.refl _ | with_reducible apply Ext.alloc | with_reducible apply Ext.drew | with_reducible apply Ext.drewN | ((with_reducible apply Ext.set); case hp => (first | (simp; done) | (dsimp only; omega) | omega)) | ((with_reducible apply Ext.trans); case k => with_reducible assumption))))) K22 M22).mono ?_; rintro e w23 ⟨rfl, hw23⟩)
            | (go_at_call 24; refine (eqI_true _ _ n _ _ (extL true xs cs) _ (J6'.ext (by (repeat (first | (with_reducible assumption) | with_reducible exact Ext.refl _ | with_reducible apply Ext.alloc | with_reducible apply Ext.drew | with_reducible apply Ext.drewN | ((with_reducible apply Ext.set); case hp => (first | (simp; done) | (dsimp only; omega) | omega)) | ((with_reducible apply Ext.trans); case k => with_reducible assumption))))) (J8.ext (by (repeat (first | (with_reducible assumption) | with_reducible exact Ext.refl _ | with_reducible apply Ext.alloc | with_reducible apply Ext.drew | with_reducible apply Ext.drewN | ((with_reducible apply Ext.set); case hp => (first | (simp; done) | (dsimp only; omega) | omega)) | ((with_reducible apply Ext.trans); case k => with_reducible assumption)))))).mono ?_; rintro e w24 ⟨rfl, hw24⟩)
            | (go_at_call 17; refine (awake25_any _).mono ?_; rintro e w25 ⟨rfl, hw25⟩))
        all_goals
          go_wp2_with fail
          go_ret
          exact Ret.bool (by first | rfl | simp) (by (repeat (first | (with_reducible assumption) | with_reducible exact Ext.refl _ | with_reducible apply Ext.alloc | with_reducible apply Ext.drew | with_reducible apply Ext.drewN | ((with_reducible apply Ext.set); case hp => (first | (simp; done) | (dsimp only; omega) | omega)) | ((with_reducible apply Ext.trans); case k => with_reducible assumption))))
  · obtain ⟨E, hE0⟩ : ∃ E, taskE xs cs lo hi = E := ⟨_, rfl⟩
    have hE : (E != 0) = true := by rw [← hE0]; simpa using h
    have HSC := Lib.hid (fun w (h1 : Dims w A n xs) (h2 : Lnks w B m cs) => (by have := scheck_any A B n m c c2 xs cs lo hi w h1 h2; rwa [hE0] at this : Calls Try.prog 22 #[.agg #[.slice A n c, .slice B m c2, .int .i64 lo, .int .i64 hi]] w (Ret (.int .i64 E) w)))
    have HRC := Lib.hid (fun w B' c' (h1 : Dims w A n xs) (h2 : Lnks w B' m cs) (h3 : m ≤ c') => (by have := rcheck25_any A B' n m c c' xs cs lo hi w h1 h2 h3; rwa [hE0] at this : Calls Try.prog 23 #[.agg #[.slice A n c, .slice B' m c', .int .i64 lo, .int .i64 hi]] w (Ret (.int .i64 E) w)))
    clear h
    have h := hE0
    clear hE0
    go_enter Try.func3, Try.ntmps3
    go_wp2_with fail
    refine (own25_any A B n m c c2 cs lo hi _ (HK.out.ext (by (repeat (first | (with_reducible assumption) | with_reducible exact Ext.refl _ | with_reducible apply Ext.alloc | with_reducible apply Ext.drew | with_reducible apply Ext.drewN | ((with_reducible apply Ext.set); case hp => (first | (simp; done) | (dsimp only; omega) | omega)) | ((with_reducible apply Ext.trans); case k => with_reducible assumption))))) hm4).mono ?_
    rintro e w1 ⟨B1, c1, rfl, K1, M1, hw1⟩
    go_wp2_with fail
    refine (few25_any A B1 n m c c1 xs lo hi _ (HX.out.ext (by (repeat (first | (with_reducible assumption) | with_reducible exact Ext.refl _ | with_reducible apply Ext.alloc | with_reducible apply Ext.drew | with_reducible apply Ext.drewN | ((with_reducible apply Ext.set); case hp => (first | (simp; done) | (dsimp only; omega) | omega)) | ((with_reducible apply Ext.trans); case k => with_reducible assumption))))) (by omega)).mono ?_
    rintro e w2 ⟨few, rfl, hw2⟩
    cases few
    case false =>
      go_wp2_with fail; refine (awake25_any _).mono ?_; rintro e w3 ⟨rfl, hw3⟩
      go_wp2_with fail
      go_ret
      exact Ret.bool (by first | rfl | simp) (by (repeat (first | (with_reducible assumption) | with_reducible exact Ext.refl _ | with_reducible apply Ext.alloc | with_reducible apply Ext.drew | with_reducible apply Ext.drewN | ((with_reducible apply Ext.set); case hp => (first | (simp; done) | (dsimp only; omega) | omega)) | ((with_reducible apply Ext.trans); case k => with_reducible assumption))))
    case true =>
      have P : Blk w2 w.heap.size #[.slice A n c, .slice B m c2, .int .i64 lo, .int .i64 hi] 27 := by (repeat (first | (with_reducible assumption) | ((with_reducible apply Blk.new_at); focus (first | (simp; done) | (simp; omega))) | with_reducible apply Blk.alloc | with_reducible apply Blk.drew | with_reducible apply Blk.drewN | with_reducible apply Blk.set | ((with_reducible apply Blk.far); case hp => (first | (simp; done) | (dsimp only; omega))) | ((with_reducible apply Blk.ext); case he => with_reducible assumption)))
      have P0 := P.cell 0
      have P1 := P.cell 1
      have P2 := P.cell 2
      have P3 := P.cell 3
      simp at P0 P1 P2 P3
      have Pl := P.lt
      go_wp2_with fail; refine (slimits_bad A B n m c c2 xs cs lo hi _ (HX.out.ext (by (repeat (first | (with_reducible assumption) | with_reducible exact Ext.refl _ | with_reducible apply Ext.alloc | with_reducible apply Ext.drew | with_reducible apply Ext.drewN | ((with_reducible apply Ext.set); case hp => (first | (simp; done) | (dsimp only; omega) | omega)) | ((with_reducible apply Ext.trans); case k => with_reducible assumption))))) (HK.out.ext (by (repeat (first | (with_reducible assumption) | with_reducible exact Ext.refl _ | with_reducible apply Ext.alloc | with_reducible apply Ext.drew | with_reducible apply Ext.drewN | ((with_reducible apply Ext.set); case hp => (first | (simp; done) | (dsimp only; omega) | omega)) | ((with_reducible apply Ext.trans); case k => with_reducible assumption))))) E h hE).mono ?_; rintro e w3 ⟨rfl, hw3⟩
      have Q : Blk w3 w.heap.size #[.slice A n c, .slice B m c2, .int .i64 lo, .int .i64 hi] 27 := by (repeat (first | (with_reducible assumption) | ((with_reducible apply Blk.new_at); focus (first | (simp; done) | (simp; omega))) | with_reducible apply Blk.alloc | with_reducible apply Blk.drew | with_reducible apply Blk.drewN | with_reducible apply Blk.set | ((with_reducible apply Blk.far); case hp => (first | (simp; done) | (dsimp only; omega))) | ((with_reducible apply Blk.ext); case he => with_reducible assumption)))
      have Q0 := Q.cell 0
      have Q1 := Q.cell 1
      have Q2 := Q.cell 2
      have Q3 := Q.cell 3
      simp at Q0 Q1 Q2 Q3
      have Ql := Q.lt
      go_wp2_with fail
      refine (own25_any A B n m c c2 cs lo hi _ (HK.out.ext (by (repeat (first | (with_reducible assumption) | with_reducible exact Ext.refl _ | with_reducible apply Ext.alloc | with_reducible apply Ext.drew | with_reducible apply Ext.drewN | ((with_reducible apply Ext.set); case hp => (first | (simp; done) | (dsimp only; omega) | omega)) | ((with_reducible apply Ext.trans); case k => with_reducible assumption))))) hm4).mono ?_
      rintro e w4 ⟨B4, c4, rfl, K4, M4, hw4⟩
      go_wp2_with fail
      refine (rlimits_bad A B4 n m c c4 xs cs lo hi _ (HX.out.ext (by (repeat (first | (with_reducible assumption) | with_reducible exact Ext.refl _ | with_reducible apply Ext.alloc | with_reducible apply Ext.drew | with_reducible apply Ext.drewN | ((with_reducible apply Ext.set); case hp => (first | (simp; done) | (dsimp only; omega) | omega)) | ((with_reducible apply Ext.trans); case k => with_reducible assumption))))) K4 M4 E h hE).mono ?_
      rintro e w5 ⟨rfl, hw5⟩
      have R : Blk w5 w.heap.size #[.slice A n c, .slice B m c2, .int .i64 lo, .int .i64 hi] 27 := by (repeat (first | (with_reducible assumption) | ((with_reducible apply Blk.new_at); focus (first | (simp; done) | (simp; omega))) | with_reducible apply Blk.alloc | with_reducible apply Blk.drew | with_reducible apply Blk.drewN | with_reducible apply Blk.set | ((with_reducible apply Blk.far); case hp => (first | (simp; done) | (dsimp only; omega))) | ((with_reducible apply Blk.ext); case he => with_reducible assumption)))
      have R0 := R.cell 0
      have R1 := R.cell 1
      have R2 := R.cell 2
      have R3 := R.cell 3
      simp at R0 R1 R2 R3
      have Rl := R.lt
      go_wp2_with fail; refine (sattain_bad gr A B n m c c2 xs cs lo hi _ (HX.out.ext (by (repeat (first | (with_reducible assumption) | with_reducible exact Ext.refl _ | with_reducible apply Ext.alloc | with_reducible apply Ext.drew | with_reducible apply Ext.drewN | ((with_reducible apply Ext.set); case hp => (first | (simp; done) | (dsimp only; omega) | omega)) | ((with_reducible apply Ext.trans); case k => with_reducible assumption))))) (HK.out.ext (by (repeat (first | (with_reducible assumption) | with_reducible exact Ext.refl _ | with_reducible apply Ext.alloc | with_reducible apply Ext.drew | with_reducible apply Ext.drewN | ((with_reducible apply Ext.set); case hp => (first | (simp; done) | (dsimp only; omega) | omega)) | ((with_reducible apply Ext.trans); case k => with_reducible assumption))))) E h hE).mono ?_; rintro e w6 ⟨rfl, hw6⟩
      have T : Blk w6 w.heap.size #[.slice A n c, .slice B m c2, .int .i64 lo, .int .i64 hi] 27 := by (repeat (first | (with_reducible assumption) | ((with_reducible apply Blk.new_at); focus (first | (simp; done) | (simp; omega))) | with_reducible apply Blk.alloc | with_reducible apply Blk.drew | with_reducible apply Blk.drewN | with_reducible apply Blk.set | ((with_reducible apply Blk.far); case hp => (first | (simp; done) | (dsimp only; omega))) | ((with_reducible apply Blk.ext); case he => with_reducible assumption)))
      have T0 := T.cell 0
      have T1 := T.cell 1
      have T2 := T.cell 2
      have T3 := T.cell 3
      simp at T0 T1 T2 T3
      have Tl := T.lt
      go_wp2_with fail
      refine (own25_any A B n m c c2 cs lo hi _ (HK.out.ext (by (repeat (first | (with_reducible assumption) | with_reducible exact Ext.refl _ | with_reducible apply Ext.alloc | with_reducible apply Ext.drew | with_reducible apply Ext.drewN | ((with_reducible apply Ext.set); case hp => (first | (simp; done) | (dsimp only; omega) | omega)) | ((with_reducible apply Ext.trans); case k => with_reducible assumption))))) hm4).mono ?_
      rintro e w7 ⟨B7, c7, rfl, K7, M7, hw7⟩
      go_wp2_with fail
      refine (rattain_bad gr A B7 n m c c7 xs cs lo hi _ (HX.out.ext (by (repeat (first | (with_reducible assumption) | with_reducible exact Ext.refl _ | with_reducible apply Ext.alloc | with_reducible apply Ext.drew | with_reducible apply Ext.drewN | ((with_reducible apply Ext.set); case hp => (first | (simp; done) | (dsimp only; omega) | omega)) | ((with_reducible apply Ext.trans); case k => with_reducible assumption))))) K7 M7 E h hE).mono ?_
      rintro e w8 ⟨rfl, hw8⟩
      have hz3 := Ext.size hw3
      have hz5 := Ext.size hw5
      have hz4 := Ext.size hw4
      (try simp only [World.size_alloc] at hz4 hz5)
      have U : Blk w8 (w3.heap.size) #[.int .i64 0, .int .i64 0] 25 := (by (repeat (first | (with_reducible assumption) | ((with_reducible apply Blk.new_at); focus (first | (simp; done) | (simp; omega))) | with_reducible apply Blk.alloc | with_reducible apply Blk.drew | with_reducible apply Blk.drewN | with_reducible apply Blk.set | ((with_reducible apply Blk.far); case hp => (first | (simp; done) | (dsimp only; omega))) | ((with_reducible apply Blk.ext); case he => with_reducible assumption)))); obtain ⟨U1, U2, U3, U4⟩ := U.c2; have U5 := U.lt
      have V : Blk w8 (w5.heap.size) #[.int .i64 0, .int .i64 0] 25 := (by (repeat (first | (with_reducible assumption) | ((with_reducible apply Blk.new_at); focus (first | (simp; done) | (simp; omega))) | with_reducible apply Blk.alloc | with_reducible apply Blk.drew | with_reducible apply Blk.drewN | with_reducible apply Blk.set | ((with_reducible apply Blk.far); case hp => (first | (simp; done) | (dsimp only; omega))) | ((with_reducible apply Blk.ext); case he => with_reducible assumption)))); obtain ⟨V1, V2, V3, V4⟩ := V.c2; have V5 := V.lt
      have Z : Blk w8 w.heap.size #[.slice A n c, .slice B m c2, .int .i64 lo, .int .i64 hi] 27 := by (repeat (first | (with_reducible assumption) | ((with_reducible apply Blk.new_at); focus (first | (simp; done) | (simp; omega))) | with_reducible apply Blk.alloc | with_reducible apply Blk.drew | with_reducible apply Blk.drewN | with_reducible apply Blk.set | ((with_reducible apply Blk.far); case hp => (first | (simp; done) | (dsimp only; omega))) | ((with_reducible apply Blk.ext); case he => with_reducible assumption)))
      have Z0 := Z.cell 0
      have Z1 := Z.cell 1
      have Z2 := Z.cell 2
      have Z3 := Z.cell 3
      simp at Z0 Z1 Z2 Z3
      have Zl := Z.lt
      go_wp2_with fail
      go_region_held3 (fun W => ((W.cell? ⟨w.heap.size, 0, none⟩ = some (.slice A n c) ∧ W.cell? ⟨w.heap.size, 1, none⟩ = some (.slice B m c2)) ∧ (W.cell? ⟨w.heap.size, 2, none⟩ = some (.int .i64 lo) ∧ W.cell? ⟨w.heap.size, 3, none⟩ = some (.int .i64 hi))) ∧ (W.cell? ⟨w3.heap.size, 0, none⟩ = some (.int .i64 (0)) ∧ W.cell? ⟨w3.heap.size, 1, none⟩ = some (.int .i64 (0))) ∧ (W.cell? ⟨w5.heap.size, 0, none⟩ = some (.int .i64 (0)) ∧ W.cell? ⟨w5.heap.size, 1, none⟩ = some (.int .i64 (0))))
        (exact ⟨⟨⟨(show Blk _ w.heap.size #[.slice A n c, .slice B m c2, .int .i64 lo, .int .i64 hi] 27 from by (repeat (first | (with_reducible assumption) | ((with_reducible apply Blk.new_at); focus (first | (simp; done) | (simp; omega))) | with_reducible apply Blk.alloc | with_reducible apply Blk.drew | with_reducible apply Blk.drewN | with_reducible apply Blk.set | ((with_reducible apply Blk.far); case hp => (first | (simp; done) | (dsimp only; omega))) | ((with_reducible apply Blk.ext); case he => with_reducible assumption)))).cell 0, (show Blk _ w.heap.size #[.slice A n c, .slice B m c2, .int .i64 lo, .int .i64 hi] 27 from by (repeat (first | (with_reducible assumption) | ((with_reducible apply Blk.new_at); focus (first | (simp; done) | (simp; omega))) | with_reducible apply Blk.alloc | with_reducible apply Blk.drew | with_reducible apply Blk.drewN | with_reducible apply Blk.set | ((with_reducible apply Blk.far); case hp => (first | (simp; done) | (dsimp only; omega))) | ((with_reducible apply Blk.ext); case he => with_reducible assumption)))).cell 1⟩, (show Blk _ w.heap.size #[.slice A n c, .slice B m c2, .int .i64 lo, .int .i64 hi] 27 from by (repeat (first | (with_reducible assumption) | ((with_reducible apply Blk.new_at); focus (first | (simp; done) | (simp; omega))) | with_reducible apply Blk.alloc | with_reducible apply Blk.drew | with_reducible apply Blk.drewN | with_reducible apply Blk.set | ((with_reducible apply Blk.far); case hp => (first | (simp; done) | (dsimp only; omega))) | ((with_reducible apply Blk.ext); case he => with_reducible assumption)))).cell 2, (show Blk _ w.heap.size #[.slice A n c, .slice B m c2, .int .i64 lo, .int .i64 hi] 27 from by (repeat (first | (with_reducible assumption) | ((with_reducible apply Blk.new_at); focus (first | (simp; done) | (simp; omega))) | with_reducible apply Blk.alloc | with_reducible apply Blk.drew | with_reducible apply Blk.drewN | with_reducible apply Blk.set | ((with_reducible apply Blk.far); case hp => (first | (simp; done) | (dsimp only; omega))) | ((with_reducible apply Blk.ext); case he => with_reducible assumption)))).cell 3⟩, Blk.r2 (t := 25) (by (repeat (first | (with_reducible assumption) | ((with_reducible apply Blk.new_at); focus (first | (simp; done) | (simp; omega))) | with_reducible apply Blk.alloc | with_reducible apply Blk.drew | with_reducible apply Blk.drewN | with_reducible apply Blk.set | ((with_reducible apply Blk.far); case hp => (first | (simp; done) | (dsimp only; omega))) | ((with_reducible apply Blk.ext); case he => with_reducible assumption)))), Blk.r2 (t := 25) (by (repeat (first | (with_reducible assumption) | ((with_reducible apply Blk.new_at); focus (first | (simp; done) | (simp; omega))) | with_reducible apply Blk.alloc | with_reducible apply Blk.drew | with_reducible apply Blk.drewN | with_reducible apply Blk.set | ((with_reducible apply Blk.far); case hp => (first | (simp; done) | (dsimp only; omega))) | ((with_reducible apply Blk.ext); case he => with_reducible assumption))))⟩)
        (first
          | (go_at_call 22; refine (HSC.out _ (HX.out.ext (by (repeat (first | (with_reducible assumption) | with_reducible exact Ext.refl _ | with_reducible apply Ext.alloc | with_reducible apply Ext.drew | with_reducible apply Ext.drewN | ((with_reducible apply Ext.set); case hp => (first | (simp; done) | (dsimp only; omega) | omega)) | ((with_reducible apply Ext.trans); case k => with_reducible assumption))))) (HK.out.ext (by (repeat (first | (with_reducible assumption) | with_reducible exact Ext.refl _ | with_reducible apply Ext.alloc | with_reducible apply Ext.drew | with_reducible apply Ext.drewN | ((with_reducible apply Ext.set); case hp => (first | (simp; done) | (dsimp only; omega) | omega)) | ((with_reducible apply Ext.trans); case k => with_reducible assumption)))))).mono ?_; rintro e w21 ⟨rfl, hw21⟩)
          | (go_at_call 16; refine (own25_any A B n m c c2 cs lo hi _ (HK.out.ext (by (repeat (first | (with_reducible assumption) | with_reducible exact Ext.refl _ | with_reducible apply Ext.alloc | with_reducible apply Ext.drew | with_reducible apply Ext.drewN | ((with_reducible apply Ext.set); case hp => (first | (simp; done) | (dsimp only; omega) | omega)) | ((with_reducible apply Ext.trans); case k => with_reducible assumption))))) hm4).mono ?_; rintro e w22 ⟨B22, c22, rfl, K22, M22, hw22⟩)
          | (go_at_call 23; refine (HRC.out _ B22 c22 (HX.out.ext (by (repeat (first | (with_reducible assumption) | with_reducible exact Ext.refl _ | with_reducible apply Ext.alloc | with_reducible apply Ext.drew | with_reducible apply Ext.drewN | ((with_reducible apply Ext.set); case hp => (first | (simp; done) | (dsimp only; omega) | omega)) | ((with_reducible apply Ext.trans); case k => with_reducible assumption))))) K22 M22).mono ?_; rintro e w23 ⟨rfl, hw23⟩)
          | (go_at_call 24; refine (eqI_true none none 0 _ _ [] _ ⟨rfl, by omega, .inl rfl⟩ ⟨rfl, by omega, .inl rfl⟩).mono ?_; rintro e w24 ⟨rfl, hw24⟩)
          | (go_at_call 17; refine (awake25_any _).mono ?_; rintro e w25 ⟨rfl, hw25⟩))
      all_goals
        go_wp2_with fail
        go_ret
        exact Ret.bool (by first | rfl | simp) (by (repeat (first | (with_reducible assumption) | with_reducible exact Ext.refl _ | with_reducible apply Ext.alloc | with_reducible apply Ext.drew | with_reducible apply Ext.drewN | ((with_reducible apply Ext.set); case hp => (first | (simp; done) | (dsimp only; omega) | omega)) | ((with_reducible apply Ext.trans); case k => with_reducible assumption))))
end Go.Proofs.Ytdcedfciaaooiab
