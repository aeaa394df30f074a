/- Whether a task is right and small: the walk. -/
import Derived.Test.YtdcedfciaaooiaaF25
import Derived.Test.YtdcedfciaaooiaaO25
import Derived.Test.YtdcedfciaaooiaaY25
set_option linter.unusedVariables false
namespace Go.Proofs.Ytdcedfciaaooiaa
open Go.RowKit

/-- It returns true only for right and small tasks. -/
def RetR (n : Nat) (xs : List Dim) (cs : List Lk) (lo hi : Int) (w : World) (e : Ending) (w' : World) : Prop := ∃ b : Bool, e = .returned (.bool b) ∧ (b = true → n ≤ 6 ∧ taskE xs cs lo hi = 0) ∧ Ext w w'
set_option maxRecDepth 20000 in
set_option maxHeartbeats 4000000 in
theorem right25_any (A B : Option Addr) (n m c c2 : Nat) (xs : List Dim) (cs : List Lk) (lo hi : Int) (w : World) (hx : Dims w A n xs) (hk : Lnks w B m cs) (hm4 : m < 8796093022208) : Calls Try.prog 57 #[.agg #[.slice A n c, .slice B m c2, .int .i64 lo, .int .i64 hi]] w (RetR n xs cs lo hi w) := by
  have HX := Lib.hid hx
  have HK := Lib.hid hk
  have hxm := hx.max
  clear hx hk
  by_cases h6 : n ≤ 6
  · obtain ⟨E, hE0⟩ : ∃ E, taskE xs cs lo hi = E := ⟨_, rfl⟩
    have HRC := Lib.hid (fun w B' c' (h1 : Dims w A n xs) (h2 : Lnks w B' m cs) (h3 : m ≤ c') => (by have := rcheck25_any A B' n m c c' xs cs lo hi w h1 h2 h3; rwa [hE0] at this : Calls Try.prog 95 #[.agg #[.slice A n c, .slice B' m c', .int .i64 lo, .int .i64 hi]] w (Ret (.int .i64 E) w)))
    have HE := Lib.hid hE0
    clear hE0
    go_enter Try.func57, Try.ntmps57
    go_wp2_with fail
    refine (own25_any A B n m c c2 cs lo hi _ (HK.out.ext (by (repeat (first | (with_reducible assumption) | with_reducible exact Ext.refl _ | with_reducible apply Ext.alloc | with_reducible apply Ext.drew | with_reducible apply Ext.drewN | ((with_reducible apply Ext.set); case hp => (first | (simp; done) | (dsimp only; omega) | omega)) | ((with_reducible apply Ext.trans); case k => with_reducible assumption))))) hm4).mono ?_
    rintro e w1 ⟨B1, c1, rfl, K1, M1, hw1⟩
    go_wp2_with fail
    refine (few25_any A B1 n m c c1 xs lo hi _ (HX.out.ext (by (repeat (first | (with_reducible assumption) | with_reducible exact Ext.refl _ | with_reducible apply Ext.alloc | with_reducible apply Ext.drew | with_reducible apply Ext.drewN | ((with_reducible apply Ext.set); case hp => (first | (simp; done) | (dsimp only; omega) | omega)) | ((with_reducible apply Ext.trans); case k => with_reducible assumption))))) (by omega)).mono ?_
    rintro e w2 ⟨few, rfl, hw2⟩
    have hT : Blk w2 w.heap.size #[.slice A n c, .slice B m c2, .int .i64 lo, .int .i64 hi] 85 := by (repeat (first | (with_reducible assumption) | ((with_reducible apply Blk.new_at); focus (first | (simp; done) | (simp; omega))) | with_reducible apply Blk.alloc | with_reducible apply Blk.drew | with_reducible apply Blk.drewN | with_reducible apply Blk.set | ((with_reducible apply Blk.far); case hp => (first | (simp; done) | (dsimp only; omega))) | ((with_reducible apply Blk.ext); case he => with_reducible assumption)))
    have t0 := hT.cell 0
    have t1 := hT.cell 1
    have t2 := hT.cell 2
    have t3 := hT.cell 3
    simp at t0 t1 t2 t3
    cases few
    · go_wp2_with fail
      go_ret
      exact ⟨false, by first | rfl | simp, by simp, by (repeat (first | (with_reducible assumption) | with_reducible exact Ext.refl _ | with_reducible apply Ext.alloc | with_reducible apply Ext.drew | with_reducible apply Ext.drewN | ((with_reducible apply Ext.set); case hp => (first | (simp; done) | (dsimp only; omega) | omega)) | ((with_reducible apply Ext.trans); case k => with_reducible assumption)))⟩
    · go_wp2_with fail
      refine (own25_any A B n m c c2 cs lo hi _ (HK.out.ext (by (repeat (first | (with_reducible assumption) | with_reducible exact Ext.refl _ | with_reducible apply Ext.alloc | with_reducible apply Ext.drew | with_reducible apply Ext.drewN | ((with_reducible apply Ext.set); case hp => (first | (simp; done) | (dsimp only; omega) | omega)) | ((with_reducible apply Ext.trans); case k => with_reducible assumption))))) hm4).mono ?_
      rintro e w3 ⟨B3, c3, rfl, K3, M3, hw3⟩
      go_wp2_with fail
      refine (HRC.out _ B3 c3 (HX.out.ext (by (repeat (first | (with_reducible assumption) | with_reducible exact Ext.refl _ | with_reducible apply Ext.alloc | with_reducible apply Ext.drew | with_reducible apply Ext.drewN | ((with_reducible apply Ext.set); case hp => (first | (simp; done) | (dsimp only; omega) | omega)) | ((with_reducible apply Ext.trans); case k => with_reducible assumption))))) K3 M3).mono ?_
      rintro e w4 ⟨rfl, hw4⟩
      go_wp2_with fail
      go_ret
      refine ⟨E == 0, by first | rfl | simp, fun hb => ⟨h6, HE.out.trans (by simpa using hb)⟩, by (repeat (first | (with_reducible assumption) | with_reducible exact Ext.refl _ | with_reducible apply Ext.alloc | with_reducible apply Ext.drew | with_reducible apply Ext.drewN | ((with_reducible apply Ext.set); case hp => (first | (simp; done) | (dsimp only; omega) | omega)) | ((with_reducible apply Ext.trans); case k => with_reducible assumption)))⟩
  · go_enter Try.func57, Try.ntmps57
    go_wp2_with fail
    go_ret
    exact ⟨false, by first | rfl | simp, by simp, by (repeat (first | (with_reducible assumption) | with_reducible exact Ext.refl _ | with_reducible apply Ext.alloc | with_reducible apply Ext.drew | with_reducible apply Ext.drewN | ((with_reducible apply Ext.set); case hp => (first | (simp; done) | (dsimp only; omega) | omega)) | ((with_reducible apply Ext.trans); case k => with_reducible assumption)))⟩
end Go.Proofs.Ytdcedfciaaooiaa
