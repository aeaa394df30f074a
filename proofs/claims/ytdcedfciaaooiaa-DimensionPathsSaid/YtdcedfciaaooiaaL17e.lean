/- The law DimensionPaths returns true at every input: the walk. -/
import Derived.Test.YtdcedfciaaooiaaF17
import Derived.Test.YtdcedfciaaooiaaJ18
set_option linter.unusedVariables false
namespace Go.Proofs.Ytdcedfciaaooiaa
open Go.RowKit

set_option maxRecDepth 20000 in
set_option maxHeartbeats 8000000 in
theorem law_paths (A : Option Addr) (n c : Nat) (xs : List Dim) (w : World) (hx : Dims w A n xs) : Calls Try.prog 10 #[.slice A n c] w (Ret (.bool true) w) := by
  obtain ⟨j, hj⟩ : ∃ j, pathD xs = j := ⟨_, rfl⟩
  obtain ⟨E, hE⟩ : ∃ E, pathE xs = E := ⟨_, rfl⟩
  have J1 := fun w h => path_any A n c xs w h
  have J2 := fun w h => rpath_any A n c xs w h
  simp only [hj, hE] at J1 J2
  have HJ1 := Lib.hid J1
  have HJ2 := Lib.hid J2
  have HX := Lib.hid hx
  clear J1 J2 hj hE hx
  go_enter Try.func10, Try.ntmps10
  go_wp2_with fail
  refine (few17_any _ _ _ xs _ HX.out).mono ?_
  rintro e w1 ⟨x, rfl, h1⟩
  cases x
  · go_wp2_with fail
    refine (awake17_any _).mono ?_
    rintro e w2 ⟨rfl, e2⟩
    go_wp2_with fail
    go_ret
    exact Ret.bool rfl (by (repeat (first | (with_reducible assumption) | with_reducible exact Ext.refl _ | with_reducible apply Ext.alloc | with_reducible apply Ext.drew | with_reducible apply Ext.drewN | ((with_reducible apply Ext.set); case hp => (first | (simp; done) | (dsimp only; omega) | omega)) | ((with_reducible apply Ext.trans); case k => with_reducible assumption))))
  · go_wp2_with fail
    refine (HJ1.out _ (HX.out.ext (by (repeat (first | (with_reducible assumption) | with_reducible exact Ext.refl _ | with_reducible apply Ext.alloc | with_reducible apply Ext.drew | with_reducible apply Ext.drewN | ((with_reducible apply Ext.set); case hp => (first | (simp; done) | (dsimp only; omega) | omega)) | ((with_reducible apply Ext.trans); case k => with_reducible assumption)))))).mono ?_
    rintro e w2 ⟨rfl, h2⟩
    go_wp2_with fail
    refine (HJ2.out _ (HX.out.ext (by (repeat (first | (with_reducible assumption) | with_reducible exact Ext.refl _ | with_reducible apply Ext.alloc | with_reducible apply Ext.drew | with_reducible apply Ext.drewN | ((with_reducible apply Ext.set); case hp => (first | (simp; done) | (dsimp only; omega) | omega)) | ((with_reducible apply Ext.trans); case k => with_reducible assumption)))))).mono ?_
    rintro e w3 ⟨rfl, h3⟩
    go_wp2_with fail
    refine (awake17_any _).mono ?_
    rintro e w6 ⟨rfl, h6⟩
    have A2 : Blk w6 (w2.heap.size) #[.string j.frm, .string j.to, .int .i64 j.axis, .int .i64 j.lo, .int .i64 j.hi] 40 := (by (repeat (first | (with_reducible assumption) | ((with_reducible apply Blk.new_at); focus (first | (simp; done) | (simp; omega))) | with_reducible apply Blk.alloc | with_reducible apply Blk.drew | with_reducible apply Blk.drewN | with_reducible apply Blk.set | ((with_reducible apply Blk.far); case hp => (first | (simp; done) | (dsimp only; omega))) | ((with_reducible apply Blk.ext); case he => with_reducible assumption)))); obtain ⟨⟨A21, A22, A23, A24, A25⟩, A26, A27, A28, A29, A210⟩ := A2.c5; have A2lt := A2.lt
    have A3 : Blk w6 (w3.heap.size) #[.string j.frm, .string j.to, .int .i64 j.axis, .int .i64 j.lo, .int .i64 j.hi] 40 := (by (repeat (first | (with_reducible assumption) | ((with_reducible apply Blk.new_at); focus (first | (simp; done) | (simp; omega))) | with_reducible apply Blk.alloc | with_reducible apply Blk.drew | with_reducible apply Blk.drewN | with_reducible apply Blk.set | ((with_reducible apply Blk.far); case hp => (first | (simp; done) | (dsimp only; omega))) | ((with_reducible apply Blk.ext); case he => with_reducible assumption)))); obtain ⟨⟨A31, A32, A33, A34, A35⟩, A36, A37, A38, A39, A310⟩ := A3.c5; have A3lt := A3.lt
    go_wp2_with fail
    go_ret
    exact Ret.bool (by first | rfl | (simp; done)) (by (repeat (first | (with_reducible assumption) | with_reducible exact Ext.refl _ | with_reducible apply Ext.alloc | with_reducible apply Ext.drew | with_reducible apply Ext.drewN | ((with_reducible apply Ext.set); case hp => (first | (simp; done) | (dsimp only; omega) | omega)) | ((with_reducible apply Ext.trans); case k => with_reducible assumption))))
end Go.Proofs.Ytdcedfciaaooiaa
