/- stack.Keeps: the walk. -/
import Derived.Test.YtdcedfciaaooiaaD25
set_option linter.unusedVariables false
namespace Go.Proofs.Ytdcedfciaaooiaa
open Go.RowKit

set_option maxRecDepth 20000 in
set_option maxHeartbeats 4000000 in
theorem skeeps_low (A B : Option Addr) (n m c c2 : Nat) (xs : List Dim) (cs : List Lk) (lo hi : Int) (w : World) (hx : Dims w A n xs) (hk : Lnks w B m cs) (h : taskE xs cs lo hi = 0) (h1 : endS 1 xs cs < lo ∨ hi < endS 1 xs cs) : Calls Try.prog 61 #[.agg #[.slice A n c, .slice B m c2, .int .i64 lo, .int .i64 hi]] w (fun e w' => ∃ g cap cur, e = .returned (.tuple #[.bool false, .slice (some ⟨g, 0, none⟩) n cap, .int .i64 0]) ∧ IRow w' w.heap.size g n cur (atE false xs cs) ∧ Ext w w') := by
  have hrt := rt_of hx.len hk.len (taskE_zero h).1
  have hwant := chk_lims0 (taskE_zero h).2
  have HRT := Lib.hid hrt
  have HX := Lib.hid hx
  have HK := Lib.hid hk
  have HOF := Lib.hid (fun w (h1 : Dims w A n xs) (h2 : Lnks w B m cs) => of_ok A B n m c c2 xs cs lo hi w h1 h2 h)
  have HB := Lib.hid (fun w (h1 : Dims w A n xs) (h2 : Lnks w B m cs) => bounds_any A B n m c c2 xs cs lo hi w h1 h2 hrt.fine hrt.m256 hrt.m0)
  have hr1 := hrt.range 1
  have hr2 := hrt.range (-1)
  have HP0 := Lib.hid (fun w (h1 : Dims w A n xs) (h2 : Lnks w B m cs) => part_any (signT false) 0 (by simp [signT]) A B n m c c2 xs cs lo hi w h1 h2 hrt.fine hrt.m256 hrt.m0 (by have := hrt.n256; omega))
  have HP1 := Lib.hid (fun w (h1 : Dims w A n xs) (h2 : Lnks w B m cs) => part_any (signT true) 1 (by simp [signT]) A B n m c c2 xs cs lo hi w h1 h2 hrt.fine hrt.m256 hrt.m0 (by have := hrt.n256; omega))
  clear hx hk h hrt
  generalize endS 1 xs cs = b1 at *
  generalize endS (-1) xs cs = b2 at *
  go_enter Try.func61, Try.ntmps61
  go_wp2_with fail; refine (HOF.out _ (HX.out.ext (by (repeat (first | (with_reducible assumption) | with_reducible exact Ext.refl _ | with_reducible apply Ext.alloc | with_reducible apply Ext.drew | with_reducible apply Ext.drewN | ((with_reducible apply Ext.set); case hp => (first | (simp; done) | (dsimp only; omega) | omega)) | ((with_reducible apply Ext.trans); case k => with_reducible assumption))))) (HK.out.ext (by (repeat (first | (with_reducible assumption) | with_reducible exact Ext.refl _ | with_reducible apply Ext.alloc | with_reducible apply Ext.drew | with_reducible apply Ext.drewN | ((with_reducible apply Ext.set); case hp => (first | (simp; done) | (dsimp only; omega) | omega)) | ((with_reducible apply Ext.trans); case k => with_reducible assumption)))))).mono ?_; rintro e w2 ⟨rfl, h2⟩
  have hs2 := Ext.size h2
  simp only [World.size_alloc] at hs2
  go_wp2_with fail; refine (HB.out _ (HX.out.ext (by (repeat (first | (with_reducible assumption) | with_reducible exact Ext.refl _ | with_reducible apply Ext.alloc | with_reducible apply Ext.drew | with_reducible apply Ext.drewN | ((with_reducible apply Ext.set); case hp => (first | (simp; done) | (dsimp only; omega) | omega)) | ((with_reducible apply Ext.trans); case k => with_reducible assumption))))) (HK.out.ext (by (repeat (first | (with_reducible assumption) | with_reducible exact Ext.refl _ | with_reducible apply Ext.alloc | with_reducible apply Ext.drew | with_reducible apply Ext.drewN | ((with_reducible apply Ext.set); case hp => (first | (simp; done) | (dsimp only; omega) | omega)) | ((with_reducible apply Ext.trans); case k => with_reducible assumption)))))).mono ?_; rintro e w3 ⟨rfl, h3⟩
  have hT3 : Blk w3 w2.heap.size #[.slice A n c, .slice B m c2, .int .i64 lo, .int .i64 hi, .func (.func 113) #[] #[], .func (.func 114) #[] #[]] 150 := by (repeat (first | (with_reducible assumption) | ((with_reducible apply Blk.new_at); focus (first | (simp; done) | (simp; omega))) | with_reducible apply Blk.alloc | with_reducible apply Blk.drew | with_reducible apply Blk.drewN | with_reducible apply Blk.set | ((with_reducible apply Blk.far); case hp => (first | (simp; done) | (dsimp only; omega))) | ((with_reducible apply Blk.ext); case he => with_reducible assumption)))
  have hT3l := hT3.lt
  have hs3 := Ext.size h3
  simp only [World.size_alloc] at hs3
  have hw3 : Ext w w3 := by (repeat (first | (with_reducible assumption) | with_reducible exact Ext.refl _ | with_reducible apply Ext.alloc | with_reducible apply Ext.drew | with_reducible apply Ext.drewN | ((with_reducible apply Ext.set); case hp => (first | (simp; done) | (dsimp only; omega) | omega)) | ((with_reducible apply Ext.trans); case k => with_reducible assumption)))
  go_wp2_with fail
  go_loopw [26] (fun i wr => ∃ q : Nat, q ≤ 0 ∧ i = .int .i64 q ∧ Blk wr w2.heap.size #[.slice A n c, .slice B m c2, .int .i64 lo, .int .i64 hi, .func (.func 113) #[] #[], .func (.func 114) #[] #[]] 150 ∧ Blk wr (w3.heap.size + 1) #[.int .i64 b1, .int .i64 b2] 3 ∧ Ext w wr) (fun i _ => 2 - (intOf i).toNat)
  case atStart => exact ⟨0, by omega, rfl, by (repeat (first | (with_reducible assumption) | ((with_reducible apply Blk.new_at); focus (first | (simp; done) | (simp; omega))) | with_reducible apply Blk.alloc | with_reducible apply Blk.drew | with_reducible apply Blk.drewN | with_reducible apply Blk.set | ((with_reducible apply Blk.far); case hp => (first | (simp; done) | (dsimp only; omega))) | ((with_reducible apply Blk.ext); case he => with_reducible assumption))), by (repeat (first | (with_reducible assumption) | ((with_reducible apply Blk.new_at); focus (first | (simp; done) | (simp; omega))) | with_reducible apply Blk.alloc | with_reducible apply Blk.drew | with_reducible apply Blk.drewN | with_reducible apply Blk.set | ((with_reducible apply Blk.far); case hp => (first | (simp; done) | (dsimp only; omega))) | ((with_reducible apply Blk.ext); case he => with_reducible assumption))), by (repeat (first | (with_reducible assumption) | with_reducible exact Ext.refl _ | with_reducible apply Ext.alloc | with_reducible apply Ext.drew | with_reducible apply Ext.drewN | ((with_reducible apply Ext.set); case hp => (first | (simp; done) | (dsimp only; omega) | omega)) | ((with_reducible apply Ext.trans); case k => with_reducible assumption)))⟩
  case round =>
    obtain ⟨q, hq, rfl, hT, hA, hE⟩ := hrel
    have hTl := hT.lt
    have hAl := hA.lt
    have T0 := hT.cell 0
    have T1 := hT.cell 1
    have T2 := hT.cell 2
    have T3 := hT.cell 3
    have T4 := hT.cell 4
    have T5 := hT.cell 5
    simp at T0 T1 T2 T3 T4 T5
    have A0 := hA.cell 0
    have A1 := hA.cell 1
    simp at A0 A1
    obtain rfl : q = 0 := by omega
    rcases h1 with h1 | h1
    · go_wp2_with fail
      refine (HP0.out _ (HX.out.ext (by (repeat (first | (with_reducible assumption) | with_reducible exact Ext.refl _ | with_reducible apply Ext.alloc | with_reducible apply Ext.drew | with_reducible apply Ext.drewN | ((with_reducible apply Ext.set); case hp => (first | (simp; done) | (dsimp only; omega) | omega)) | ((with_reducible apply Ext.trans); case k => with_reducible assumption))))) (HK.out.ext (by (repeat (first | (with_reducible assumption) | with_reducible exact Ext.refl _ | with_reducible apply Ext.alloc | with_reducible apply Ext.drew | with_reducible apply Ext.drewN | ((with_reducible apply Ext.set); case hp => (first | (simp; done) | (dsimp only; omega) | omega)) | ((with_reducible apply Ext.trans); case k => with_reducible assumption)))))).mono ?_
      rintro e w4 ⟨g, cap, cur, rfl, hI, h4⟩
      go_wp2_with fail
      refine end_t3 (u0 := 2) (u1 := 3) (u2 := 4) rfl rfl ?_
      exact ⟨g, cap, cur, rfl, ⟨by have := hI.1; have := hE.size; omega, hI.2⟩, by (repeat (first | (with_reducible assumption) | with_reducible exact Ext.refl _ | with_reducible apply Ext.alloc | with_reducible apply Ext.drew | with_reducible apply Ext.drewN | ((with_reducible apply Ext.set); case hp => (first | (simp; done) | (dsimp only; omega) | omega)) | ((with_reducible apply Ext.trans); case k => with_reducible assumption)))⟩
    · have h1' : ¬ b1 < lo := by omega
      go_wp2_with fail
      refine (HP0.out _ (HX.out.ext (by (repeat (first | (with_reducible assumption) | with_reducible exact Ext.refl _ | with_reducible apply Ext.alloc | with_reducible apply Ext.drew | with_reducible apply Ext.drewN | ((with_reducible apply Ext.set); case hp => (first | (simp; done) | (dsimp only; omega) | omega)) | ((with_reducible apply Ext.trans); case k => with_reducible assumption))))) (HK.out.ext (by (repeat (first | (with_reducible assumption) | with_reducible exact Ext.refl _ | with_reducible apply Ext.alloc | with_reducible apply Ext.drew | with_reducible apply Ext.drewN | ((with_reducible apply Ext.set); case hp => (first | (simp; done) | (dsimp only; omega) | omega)) | ((with_reducible apply Ext.trans); case k => with_reducible assumption)))))).mono ?_
      rintro e w4 ⟨g, cap, cur, rfl, hI, h4⟩
      go_wp2_with fail
      refine end_t3 (u0 := 2) (u1 := 3) (u2 := 4) rfl rfl ?_
      exact ⟨g, cap, cur, rfl, ⟨by have := hI.1; have := hE.size; omega, hI.2⟩, by (repeat (first | (with_reducible assumption) | with_reducible exact Ext.refl _ | with_reducible apply Ext.alloc | with_reducible apply Ext.drew | with_reducible apply Ext.drewN | ((with_reducible apply Ext.set); case hp => (first | (simp; done) | (dsimp only; omega) | omega)) | ((with_reducible apply Ext.trans); case k => with_reducible assumption)))⟩
set_option maxRecDepth 20000 in
set_option maxHeartbeats 4000000 in
theorem skeeps_high (A B : Option Addr) (n m c c2 : Nat) (xs : List Dim) (cs : List Lk) (lo hi : Int) (w : World) (hx : Dims w A n xs) (hk : Lnks w B m cs) (h : taskE xs cs lo hi = 0) (h0 : lo ≤ endS 1 xs cs ∧ endS 1 xs cs ≤ hi) (h1 : endS (-1) xs cs < lo ∨ hi < endS (-1) xs cs) : Calls Try.prog 61 #[.agg #[.slice A n c, .slice B m c2, .int .i64 lo, .int .i64 hi]] w (fun e w' => ∃ g cap cur, e = .returned (.tuple #[.bool false, .slice (some ⟨g, 0, none⟩) n cap, .int .i64 0]) ∧ IRow w' w.heap.size g n cur (atE true xs cs) ∧ Ext w w') := by
  have hrt := rt_of hx.len hk.len (taskE_zero h).1
  have hwant := chk_lims0 (taskE_zero h).2
  have HRT := Lib.hid hrt
  have HX := Lib.hid hx
  have HK := Lib.hid hk
  have HOF := Lib.hid (fun w (h1 : Dims w A n xs) (h2 : Lnks w B m cs) => of_ok A B n m c c2 xs cs lo hi w h1 h2 h)
  have HB := Lib.hid (fun w (h1 : Dims w A n xs) (h2 : Lnks w B m cs) => bounds_any A B n m c c2 xs cs lo hi w h1 h2 hrt.fine hrt.m256 hrt.m0)
  have hr1 := hrt.range 1
  have hr2 := hrt.range (-1)
  have HP0 := Lib.hid (fun w (h1 : Dims w A n xs) (h2 : Lnks w B m cs) => part_any (signT false) 0 (by simp [signT]) A B n m c c2 xs cs lo hi w h1 h2 hrt.fine hrt.m256 hrt.m0 (by have := hrt.n256; omega))
  have HP1 := Lib.hid (fun w (h1 : Dims w A n xs) (h2 : Lnks w B m cs) => part_any (signT true) 1 (by simp [signT]) A B n m c c2 xs cs lo hi w h1 h2 hrt.fine hrt.m256 hrt.m0 (by have := hrt.n256; omega))
  clear hx hk h hrt
  generalize endS 1 xs cs = b1 at *
  generalize endS (-1) xs cs = b2 at *
  go_enter Try.func61, Try.ntmps61
  go_wp2_with fail; refine (HOF.out _ (HX.out.ext (by (repeat (first | (with_reducible assumption) | with_reducible exact Ext.refl _ | with_reducible apply Ext.alloc | with_reducible apply Ext.drew | with_reducible apply Ext.drewN | ((with_reducible apply Ext.set); case hp => (first | (simp; done) | (dsimp only; omega) | omega)) | ((with_reducible apply Ext.trans); case k => with_reducible assumption))))) (HK.out.ext (by (repeat (first | (with_reducible assumption) | with_reducible exact Ext.refl _ | with_reducible apply Ext.alloc | with_reducible apply Ext.drew | with_reducible apply Ext.drewN | ((with_reducible apply Ext.set); case hp => (first | (simp; done) | (dsimp only; omega) | omega)) | ((with_reducible apply Ext.trans); case k => with_reducible assumption)))))).mono ?_; rintro e w2 ⟨rfl, h2⟩
  have hs2 := Ext.size h2
  simp only [World.size_alloc] at hs2
  go_wp2_with fail; refine (HB.out _ (HX.out.ext (by (repeat (first | (with_reducible assumption) | with_reducible exact Ext.refl _ | with_reducible apply Ext.alloc | with_reducible apply Ext.drew | with_reducible apply Ext.drewN | ((with_reducible apply Ext.set); case hp => (first | (simp; done) | (dsimp only; omega) | omega)) | ((with_reducible apply Ext.trans); case k => with_reducible assumption))))) (HK.out.ext (by (repeat (first | (with_reducible assumption) | with_reducible exact Ext.refl _ | with_reducible apply Ext.alloc | with_reducible apply Ext.drew | with_reducible apply Ext.drewN | ((with_reducible apply Ext.set); case hp => (first | (simp; done) | (dsimp only; omega) | omega)) | ((with_reducible apply Ext.trans); case k => with_reducible assumption)))))).mono ?_; rintro e w3 ⟨rfl, h3⟩
  have hT3 : Blk w3 w2.heap.size #[.slice A n c, .slice B m c2, .int .i64 lo, .int .i64 hi, .func (.func 113) #[] #[], .func (.func 114) #[] #[]] 150 := by (repeat (first | (with_reducible assumption) | ((with_reducible apply Blk.new_at); focus (first | (simp; done) | (simp; omega))) | with_reducible apply Blk.alloc | with_reducible apply Blk.drew | with_reducible apply Blk.drewN | with_reducible apply Blk.set | ((with_reducible apply Blk.far); case hp => (first | (simp; done) | (dsimp only; omega))) | ((with_reducible apply Blk.ext); case he => with_reducible assumption)))
  have hT3l := hT3.lt
  have hs3 := Ext.size h3
  simp only [World.size_alloc] at hs3
  have hw3 : Ext w w3 := by (repeat (first | (with_reducible assumption) | with_reducible exact Ext.refl _ | with_reducible apply Ext.alloc | with_reducible apply Ext.drew | with_reducible apply Ext.drewN | ((with_reducible apply Ext.set); case hp => (first | (simp; done) | (dsimp only; omega) | omega)) | ((with_reducible apply Ext.trans); case k => with_reducible assumption)))
  go_wp2_with fail
  go_loopw [26] (fun i wr => ∃ q : Nat, q ≤ 1 ∧ i = .int .i64 q ∧ Blk wr w2.heap.size #[.slice A n c, .slice B m c2, .int .i64 lo, .int .i64 hi, .func (.func 113) #[] #[], .func (.func 114) #[] #[]] 150 ∧ Blk wr (w3.heap.size + 1) #[.int .i64 b1, .int .i64 b2] 3 ∧ Ext w wr) (fun i _ => 2 - (intOf i).toNat)
  case atStart => exact ⟨0, by omega, rfl, by (repeat (first | (with_reducible assumption) | ((with_reducible apply Blk.new_at); focus (first | (simp; done) | (simp; omega))) | with_reducible apply Blk.alloc | with_reducible apply Blk.drew | with_reducible apply Blk.drewN | with_reducible apply Blk.set | ((with_reducible apply Blk.far); case hp => (first | (simp; done) | (dsimp only; omega))) | ((with_reducible apply Blk.ext); case he => with_reducible assumption))), by (repeat (first | (with_reducible assumption) | ((with_reducible apply Blk.new_at); focus (first | (simp; done) | (simp; omega))) | with_reducible apply Blk.alloc | with_reducible apply Blk.drew | with_reducible apply Blk.drewN | with_reducible apply Blk.set | ((with_reducible apply Blk.far); case hp => (first | (simp; done) | (dsimp only; omega))) | ((with_reducible apply Blk.ext); case he => with_reducible assumption))), by (repeat (first | (with_reducible assumption) | with_reducible exact Ext.refl _ | with_reducible apply Ext.alloc | with_reducible apply Ext.drew | with_reducible apply Ext.drewN | ((with_reducible apply Ext.set); case hp => (first | (simp; done) | (dsimp only; omega) | omega)) | ((with_reducible apply Ext.trans); case k => with_reducible assumption)))⟩
  case round =>
    obtain ⟨q, hq, rfl, hT, hA, hE⟩ := hrel
    have hTl := hT.lt
    have hAl := hA.lt
    have T0 := hT.cell 0
    have T1 := hT.cell 1
    have T2 := hT.cell 2
    have T3 := hT.cell 3
    have T4 := hT.cell 4
    have T5 := hT.cell 5
    simp at T0 T1 T2 T3 T4 T5
    have A0 := hA.cell 0
    have A1 := hA.cell 1
    simp at A0 A1
    have hq2 : q = 0 ∨ q = 1 := by omega
    rcases hq2 with rfl | rfl
    · go_wp2_with fail
      go_roundw
      case rel => exact ⟨1, by omega, by simp, by (repeat (first | (with_reducible assumption) | ((with_reducible apply Blk.new_at); focus (first | (simp; done) | (simp; omega))) | with_reducible apply Blk.alloc | with_reducible apply Blk.drew | with_reducible apply Blk.drewN | with_reducible apply Blk.set | ((with_reducible apply Blk.far); case hp => (first | (simp; done) | (dsimp only; omega))) | ((with_reducible apply Blk.ext); case he => with_reducible assumption))), by (repeat (first | (with_reducible assumption) | ((with_reducible apply Blk.new_at); focus (first | (simp; done) | (simp; omega))) | with_reducible apply Blk.alloc | with_reducible apply Blk.drew | with_reducible apply Blk.drewN | with_reducible apply Blk.set | ((with_reducible apply Blk.far); case hp => (first | (simp; done) | (dsimp only; omega))) | ((with_reducible apply Blk.ext); case he => with_reducible assumption))), by (repeat (first | (with_reducible assumption) | with_reducible exact Ext.refl _ | with_reducible apply Ext.alloc | with_reducible apply Ext.drew | with_reducible apply Ext.drewN | ((with_reducible apply Ext.set); case hp => (first | (simp; done) | (dsimp only; omega) | omega)) | ((with_reducible apply Ext.trans); case k => with_reducible assumption)))⟩
      case measure => simp [intOf]
    · rcases h1 with h1 | h1
      · go_wp2_with fail
        refine (HP1.out _ (HX.out.ext (by (repeat (first | (with_reducible assumption) | with_reducible exact Ext.refl _ | with_reducible apply Ext.alloc | with_reducible apply Ext.drew | with_reducible apply Ext.drewN | ((with_reducible apply Ext.set); case hp => (first | (simp; done) | (dsimp only; omega) | omega)) | ((with_reducible apply Ext.trans); case k => with_reducible assumption))))) (HK.out.ext (by (repeat (first | (with_reducible assumption) | with_reducible exact Ext.refl _ | with_reducible apply Ext.alloc | with_reducible apply Ext.drew | with_reducible apply Ext.drewN | ((with_reducible apply Ext.set); case hp => (first | (simp; done) | (dsimp only; omega) | omega)) | ((with_reducible apply Ext.trans); case k => with_reducible assumption)))))).mono ?_
        rintro e w4 ⟨g, cap, cur, rfl, hI, h4⟩
        go_wp2_with fail
        refine end_t3 (u0 := 2) (u1 := 3) (u2 := 4) rfl rfl ?_
        exact ⟨g, cap, cur, rfl, ⟨by have := hI.1; have := hE.size; omega, hI.2⟩, by (repeat (first | (with_reducible assumption) | with_reducible exact Ext.refl _ | with_reducible apply Ext.alloc | with_reducible apply Ext.drew | with_reducible apply Ext.drewN | ((with_reducible apply Ext.set); case hp => (first | (simp; done) | (dsimp only; omega) | omega)) | ((with_reducible apply Ext.trans); case k => with_reducible assumption)))⟩
      · have h1' : ¬ b2 < lo := by omega
        go_wp2_with fail
        refine (HP1.out _ (HX.out.ext (by (repeat (first | (with_reducible assumption) | with_reducible exact Ext.refl _ | with_reducible apply Ext.alloc | with_reducible apply Ext.drew | with_reducible apply Ext.drewN | ((with_reducible apply Ext.set); case hp => (first | (simp; done) | (dsimp only; omega) | omega)) | ((with_reducible apply Ext.trans); case k => with_reducible assumption))))) (HK.out.ext (by (repeat (first | (with_reducible assumption) | with_reducible exact Ext.refl _ | with_reducible apply Ext.alloc | with_reducible apply Ext.drew | with_reducible apply Ext.drewN | ((with_reducible apply Ext.set); case hp => (first | (simp; done) | (dsimp only; omega) | omega)) | ((with_reducible apply Ext.trans); case k => with_reducible assumption)))))).mono ?_
        rintro e w4 ⟨g, cap, cur, rfl, hI, h4⟩
        go_wp2_with fail
        refine end_t3 (u0 := 2) (u1 := 3) (u2 := 4) rfl rfl ?_
        exact ⟨g, cap, cur, rfl, ⟨by have := hI.1; have := hE.size; omega, hI.2⟩, by (repeat (first | (with_reducible assumption) | with_reducible exact Ext.refl _ | with_reducible apply Ext.alloc | with_reducible apply Ext.drew | with_reducible apply Ext.drewN | ((with_reducible apply Ext.set); case hp => (first | (simp; done) | (dsimp only; omega) | omega)) | ((with_reducible apply Ext.trans); case k => with_reducible assumption)))⟩
set_option maxRecDepth 20000 in
set_option maxHeartbeats 4000000 in
theorem skeeps_yes (A B : Option Addr) (n m c c2 : Nat) (xs : List Dim) (cs : List Lk) (lo hi : Int) (w : World) (hx : Dims w A n xs) (hk : Lnks w B m cs) (h : taskE xs cs lo hi = 0) (h0 : lo ≤ endS 1 xs cs ∧ endS 1 xs cs ≤ hi) (h1 : lo ≤ endS (-1) xs cs ∧ endS (-1) xs cs ≤ hi) : Calls Try.prog 61 #[.agg #[.slice A n c, .slice B m c2, .int .i64 lo, .int .i64 hi]] w (Ret (.tuple #[.bool true, .slice none 0 0, .int .i64 0]) w) := by
  have hrt := rt_of hx.len hk.len (taskE_zero h).1
  have hwant := chk_lims0 (taskE_zero h).2
  have HRT := Lib.hid hrt
  have HX := Lib.hid hx
  have HK := Lib.hid hk
  have HOF := Lib.hid (fun w (h1 : Dims w A n xs) (h2 : Lnks w B m cs) => of_ok A B n m c c2 xs cs lo hi w h1 h2 h)
  have HB := Lib.hid (fun w (h1 : Dims w A n xs) (h2 : Lnks w B m cs) => bounds_any A B n m c c2 xs cs lo hi w h1 h2 hrt.fine hrt.m256 hrt.m0)
  have hr1 := hrt.range 1
  have hr2 := hrt.range (-1)
  have HP0 := Lib.hid (fun w (h1 : Dims w A n xs) (h2 : Lnks w B m cs) => part_any (signT false) 0 (by simp [signT]) A B n m c c2 xs cs lo hi w h1 h2 hrt.fine hrt.m256 hrt.m0 (by have := hrt.n256; omega))
  have HP1 := Lib.hid (fun w (h1 : Dims w A n xs) (h2 : Lnks w B m cs) => part_any (signT true) 1 (by simp [signT]) A B n m c c2 xs cs lo hi w h1 h2 hrt.fine hrt.m256 hrt.m0 (by have := hrt.n256; omega))
  clear hx hk h hrt
  generalize endS 1 xs cs = b1 at *
  generalize endS (-1) xs cs = b2 at *
  go_enter Try.func61, Try.ntmps61
  go_wp2_with fail; refine (HOF.out _ (HX.out.ext (by (repeat (first | (with_reducible assumption) | with_reducible exact Ext.refl _ | with_reducible apply Ext.alloc | with_reducible apply Ext.drew | with_reducible apply Ext.drewN | ((with_reducible apply Ext.set); case hp => (first | (simp; done) | (dsimp only; omega) | omega)) | ((with_reducible apply Ext.trans); case k => with_reducible assumption))))) (HK.out.ext (by (repeat (first | (with_reducible assumption) | with_reducible exact Ext.refl _ | with_reducible apply Ext.alloc | with_reducible apply Ext.drew | with_reducible apply Ext.drewN | ((with_reducible apply Ext.set); case hp => (first | (simp; done) | (dsimp only; omega) | omega)) | ((with_reducible apply Ext.trans); case k => with_reducible assumption)))))).mono ?_; rintro e w2 ⟨rfl, h2⟩
  have hs2 := Ext.size h2
  simp only [World.size_alloc] at hs2
  go_wp2_with fail; refine (HB.out _ (HX.out.ext (by (repeat (first | (with_reducible assumption) | with_reducible exact Ext.refl _ | with_reducible apply Ext.alloc | with_reducible apply Ext.drew | with_reducible apply Ext.drewN | ((with_reducible apply Ext.set); case hp => (first | (simp; done) | (dsimp only; omega) | omega)) | ((with_reducible apply Ext.trans); case k => with_reducible assumption))))) (HK.out.ext (by (repeat (first | (with_reducible assumption) | with_reducible exact Ext.refl _ | with_reducible apply Ext.alloc | with_reducible apply Ext.drew | with_reducible apply Ext.drewN | ((with_reducible apply Ext.set); case hp => (first | (simp; done) | (dsimp only; omega) | omega)) | ((with_reducible apply Ext.trans); case k => with_reducible assumption)))))).mono ?_; rintro e w3 ⟨rfl, h3⟩
  have hT3 : Blk w3 w2.heap.size #[.slice A n c, .slice B m c2, .int .i64 lo, .int .i64 hi, .func (.func 113) #[] #[], .func (.func 114) #[] #[]] 150 := by (repeat (first | (with_reducible assumption) | ((with_reducible apply Blk.new_at); focus (first | (simp; done) | (simp; omega))) | with_reducible apply Blk.alloc | with_reducible apply Blk.drew | with_reducible apply Blk.drewN | with_reducible apply Blk.set | ((with_reducible apply Blk.far); case hp => (first | (simp; done) | (dsimp only; omega))) | ((with_reducible apply Blk.ext); case he => with_reducible assumption)))
  have hT3l := hT3.lt
  have hs3 := Ext.size h3
  simp only [World.size_alloc] at hs3
  have hw3 : Ext w w3 := by (repeat (first | (with_reducible assumption) | with_reducible exact Ext.refl _ | with_reducible apply Ext.alloc | with_reducible apply Ext.drew | with_reducible apply Ext.drewN | ((with_reducible apply Ext.set); case hp => (first | (simp; done) | (dsimp only; omega) | omega)) | ((with_reducible apply Ext.trans); case k => with_reducible assumption)))
  go_wp2_with fail
  go_loopw [26] (fun i wr => ∃ q : Nat, q ≤ 2 ∧ i = .int .i64 q ∧ Blk wr w2.heap.size #[.slice A n c, .slice B m c2, .int .i64 lo, .int .i64 hi, .func (.func 113) #[] #[], .func (.func 114) #[] #[]] 150 ∧ Blk wr (w3.heap.size + 1) #[.int .i64 b1, .int .i64 b2] 3 ∧ Ext w wr) (fun i _ => 2 - (intOf i).toNat)
  case atStart => exact ⟨0, by omega, rfl, by (repeat (first | (with_reducible assumption) | ((with_reducible apply Blk.new_at); focus (first | (simp; done) | (simp; omega))) | with_reducible apply Blk.alloc | with_reducible apply Blk.drew | with_reducible apply Blk.drewN | with_reducible apply Blk.set | ((with_reducible apply Blk.far); case hp => (first | (simp; done) | (dsimp only; omega))) | ((with_reducible apply Blk.ext); case he => with_reducible assumption))), by (repeat (first | (with_reducible assumption) | ((with_reducible apply Blk.new_at); focus (first | (simp; done) | (simp; omega))) | with_reducible apply Blk.alloc | with_reducible apply Blk.drew | with_reducible apply Blk.drewN | with_reducible apply Blk.set | ((with_reducible apply Blk.far); case hp => (first | (simp; done) | (dsimp only; omega))) | ((with_reducible apply Blk.ext); case he => with_reducible assumption))), by (repeat (first | (with_reducible assumption) | with_reducible exact Ext.refl _ | with_reducible apply Ext.alloc | with_reducible apply Ext.drew | with_reducible apply Ext.drewN | ((with_reducible apply Ext.set); case hp => (first | (simp; done) | (dsimp only; omega) | omega)) | ((with_reducible apply Ext.trans); case k => with_reducible assumption)))⟩
  case round =>
    obtain ⟨q, hq, rfl, hT, hA, hE⟩ := hrel
    have hTl := hT.lt
    have hAl := hA.lt
    have T0 := hT.cell 0
    have T1 := hT.cell 1
    have T2 := hT.cell 2
    have T3 := hT.cell 3
    have T4 := hT.cell 4
    have T5 := hT.cell 5
    simp at T0 T1 T2 T3 T4 T5
    have A0 := hA.cell 0
    have A1 := hA.cell 1
    simp at A0 A1
    have hq2 : q = 0 ∨ q = 1 ∨ q = 2 := by omega
    rcases hq2 with rfl | rfl | rfl
    · go_wp2_with fail
      go_roundw
      case rel => exact ⟨1, by omega, by simp, by (repeat (first | (with_reducible assumption) | ((with_reducible apply Blk.new_at); focus (first | (simp; done) | (simp; omega))) | with_reducible apply Blk.alloc | with_reducible apply Blk.drew | with_reducible apply Blk.drewN | with_reducible apply Blk.set | ((with_reducible apply Blk.far); case hp => (first | (simp; done) | (dsimp only; omega))) | ((with_reducible apply Blk.ext); case he => with_reducible assumption))), by (repeat (first | (with_reducible assumption) | ((with_reducible apply Blk.new_at); focus (first | (simp; done) | (simp; omega))) | with_reducible apply Blk.alloc | with_reducible apply Blk.drew | with_reducible apply Blk.drewN | with_reducible apply Blk.set | ((with_reducible apply Blk.far); case hp => (first | (simp; done) | (dsimp only; omega))) | ((with_reducible apply Blk.ext); case he => with_reducible assumption))), by (repeat (first | (with_reducible assumption) | with_reducible exact Ext.refl _ | with_reducible apply Ext.alloc | with_reducible apply Ext.drew | with_reducible apply Ext.drewN | ((with_reducible apply Ext.set); case hp => (first | (simp; done) | (dsimp only; omega) | omega)) | ((with_reducible apply Ext.trans); case k => with_reducible assumption)))⟩
      case measure => simp [intOf]
    · go_wp2_with fail
      go_roundw
      case rel => exact ⟨2, by omega, by simp, by (repeat (first | (with_reducible assumption) | ((with_reducible apply Blk.new_at); focus (first | (simp; done) | (simp; omega))) | with_reducible apply Blk.alloc | with_reducible apply Blk.drew | with_reducible apply Blk.drewN | with_reducible apply Blk.set | ((with_reducible apply Blk.far); case hp => (first | (simp; done) | (dsimp only; omega))) | ((with_reducible apply Blk.ext); case he => with_reducible assumption))), by (repeat (first | (with_reducible assumption) | ((with_reducible apply Blk.new_at); focus (first | (simp; done) | (simp; omega))) | with_reducible apply Blk.alloc | with_reducible apply Blk.drew | with_reducible apply Blk.drewN | with_reducible apply Blk.set | ((with_reducible apply Blk.far); case hp => (first | (simp; done) | (dsimp only; omega))) | ((with_reducible apply Blk.ext); case he => with_reducible assumption))), by (repeat (first | (with_reducible assumption) | with_reducible exact Ext.refl _ | with_reducible apply Ext.alloc | with_reducible apply Ext.drew | with_reducible apply Ext.drewN | ((with_reducible apply Ext.set); case hp => (first | (simp; done) | (dsimp only; omega) | omega)) | ((with_reducible apply Ext.trans); case k => with_reducible assumption)))⟩
      case measure => simp [intOf]
    · go_wp2_with fail
      refine end_t3 (u0 := 2) (u1 := 3) (u2 := 4) rfl rfl ?_
      exact Ret.mk' rfl (by (repeat (first | (with_reducible assumption) | with_reducible exact Ext.refl _ | with_reducible apply Ext.alloc | with_reducible apply Ext.drew | with_reducible apply Ext.drewN | ((with_reducible apply Ext.set); case hp => (first | (simp; done) | (dsimp only; omega) | omega)) | ((with_reducible apply Ext.trans); case k => with_reducible assumption))))
set_option maxRecDepth 20000 in
set_option maxHeartbeats 4000000 in
theorem skeeps_bad (A B : Option Addr) (n m c c2 : Nat) (xs : List Dim) (cs : List Lk) (lo hi : Int) (w : World) (hx : Dims w A n xs) (hk : Lnks w B m cs) (E : Int) (h : taskE xs cs lo hi = E) (hE : (E != 0) = true) : Calls Try.prog 61 #[.agg #[.slice A n c, .slice B m c2, .int .i64 lo, .int .i64 hi]] w (Ret (.tuple #[.bool false, .slice none 0 0, .int .i64 E]) w) := by
  have HX := Lib.hid hx
  have HK := Lib.hid hk
  have HOF := Lib.hid (fun w (h1 : Dims w A n xs) (h2 : Lnks w B m cs) => of_bad A B n m c c2 xs cs lo hi w h1 h2 E h hE)
  clear hx hk h
  go_enter Try.func61, Try.ntmps61
  go_wp2_with fail; refine (HOF.out _ (HX.out.ext (by (repeat (first | (with_reducible assumption) | with_reducible exact Ext.refl _ | with_reducible apply Ext.alloc | with_reducible apply Ext.drew | with_reducible apply Ext.drewN | ((with_reducible apply Ext.set); case hp => (first | (simp; done) | (dsimp only; omega) | omega)) | ((with_reducible apply Ext.trans); case k => with_reducible assumption))))) (HK.out.ext (by (repeat (first | (with_reducible assumption) | with_reducible exact Ext.refl _ | with_reducible apply Ext.alloc | with_reducible apply Ext.drew | with_reducible apply Ext.drewN | ((with_reducible apply Ext.set); case hp => (first | (simp; done) | (dsimp only; omega) | omega)) | ((with_reducible apply Ext.trans); case k => with_reducible assumption)))))).mono ?_; rintro e w2 ⟨rfl, h2⟩
  go_wp2_with fail
  refine end_t3 (u0 := 2) (u1 := 3) (u2 := 4) rfl rfl ?_
  exact Ret.mk' rfl (by (repeat (first | (with_reducible assumption) | with_reducible exact Ext.refl _ | with_reducible apply Ext.alloc | with_reducible apply Ext.drew | with_reducible apply Ext.drewN | ((with_reducible apply Ext.set); case hp => (first | (simp; done) | (dsimp only; omega) | omega)) | ((with_reducible apply Ext.trans); case k => with_reducible assumption))))
end Go.Proofs.Ytdcedfciaaooiaa
