/- stack: low, high, Check, of: the walks. -/
import Derived.Test.YtdcedfciaaooiaaI24
set_option linter.unusedVariables false
namespace Go.Proofs.Ytdcedfciaaooiaa
open Go.RowKit

def lowV (lo hi s : Int) : Int := if s < 0 then hi else lo
def taskE (xs : List Dim) (cs : List Lk) (lo hi : Int) : Int := if checkE xs cs ≠ 0 then checkE xs cs else chk lo hi
theorem taskE_bad {xs : List Dim} {cs : List Lk} {lo hi : Int} (h : checkE xs cs ≠ 0) : taskE xs cs lo hi = checkE xs cs := by rw [taskE, if_pos h]
theorem taskE_ok {xs : List Dim} {cs : List Lk} {lo hi : Int} (h : checkE xs cs = 0) : taskE xs cs lo hi = chk lo hi := by rw [taskE, if_neg (by simp [h])]

theorem low_any (lo hi s : Int) (w : World) : Calls Try.prog 113 #[.agg #[.int .i64 lo, .int .i64 hi], .int .i64 s] w (Ret (.int .i64 (lowV lo hi s)) w) := by
  by_cases h : s < 0
  · have e := Lib.hid (show lowV lo hi s = hi by rw [lowV, if_pos h])
    go_enter Try.func113, Try.ntmps113
    go_wp2_with fail
    go_ret
    exact Ret.int e.out.symm (by (repeat (first | (with_reducible assumption) | with_reducible exact Ext.refl _ | with_reducible apply Ext.alloc | with_reducible apply Ext.drew | with_reducible apply Ext.drewN | ((with_reducible apply Ext.set); case hp => (first | (simp; done) | (dsimp only; omega) | omega)) | ((with_reducible apply Ext.trans); case k => with_reducible assumption))))
  · have e := Lib.hid (show lowV lo hi s = lo by rw [lowV, if_neg h])
    go_enter Try.func113, Try.ntmps113
    go_wp2_with fail
    go_ret
    exact Ret.int e.out.symm (by (repeat (first | (with_reducible assumption) | with_reducible exact Ext.refl _ | with_reducible apply Ext.alloc | with_reducible apply Ext.drew | with_reducible apply Ext.drewN | ((with_reducible apply Ext.set); case hp => (first | (simp; done) | (dsimp only; omega) | omega)) | ((with_reducible apply Ext.trans); case k => with_reducible assumption))))
theorem high_any (lo hi s : Int) (hs : -1 ≤ s ∧ s ≤ 1) (w : World) : Calls Try.prog 114 #[.agg #[.int .i64 lo, .int .i64 hi], .int .i64 s] w (Ret (.int .i64 (lowV lo hi (-s))) w) := by
  have e : wrap64 (-s) = -s := by simp (disch := omega) only [IntWalk.wrap64_in]
  have e2 : IntKind.i64.wrap (-s) = -s := by simp (disch := omega) only [IntWalk.i64_in]
  go_enter Try.func114, Try.ntmps114
  go_wp2_with fail
  refine (low_any lo hi (-s) _).mono ?_
  rintro e w2 ⟨rfl, h2⟩
  go_wp2_with fail
  go_ret
  exact Ret.int rfl (by (repeat (first | (with_reducible assumption) | with_reducible exact Ext.refl _ | with_reducible apply Ext.alloc | with_reducible apply Ext.drew | with_reducible apply Ext.drewN | ((with_reducible apply Ext.set); case hp => (first | (simp; done) | (dsimp only; omega) | omega)) | ((with_reducible apply Ext.trans); case k => with_reducible assumption))))

set_option maxRecDepth 20000 in
theorem scheck_any (A B : Option Addr) (n m c c2 : Nat) (xs : List Dim) (cs : List Lk) (lo hi : Int) (w : World) (hx : Dims w A n xs) (hk : Lnks w B m cs) :
    Calls Try.prog 112 #[.agg #[.slice A n c, .slice B m c2, .int .i64 lo, .int .i64 hi]] w (Ret (.int .i64 (taskE xs cs lo hi)) w) := by
  have HX := Lib.hid hx
  have HK := Lib.hid hk
  clear hx hk
  cases h : checkE xs cs != 0
  · have e := Lib.hid (taskE_ok (lo := lo) (hi := hi) (show checkE xs cs = 0 by simpa using h))
    go_enter Try.func112, Try.ntmps112
    go_wp2_with fail; refine (lcheck_any A B n m c c2 xs cs _ (HX.out.ext (by (repeat (first | (with_reducible assumption) | with_reducible exact Ext.refl _ | with_reducible apply Ext.alloc | with_reducible apply Ext.drew | with_reducible apply Ext.drewN | ((with_reducible apply Ext.set); case hp => (first | (simp; done) | (dsimp only; omega) | omega)) | ((with_reducible apply Ext.trans); case k => with_reducible assumption))))) (HK.out.ext (by (repeat (first | (with_reducible assumption) | with_reducible exact Ext.refl _ | with_reducible apply Ext.alloc | with_reducible apply Ext.drew | with_reducible apply Ext.drewN | ((with_reducible apply Ext.set); case hp => (first | (simp; done) | (dsimp only; omega) | omega)) | ((with_reducible apply Ext.trans); case k => with_reducible assumption)))))).mono ?_; rintro e w2 ⟨rfl, h2⟩
    have hT : Blk w2 w.heap.size #[.slice A n c, .slice B m c2, .int .i64 lo, .int .i64 hi] 85 := by (repeat (first | (with_reducible assumption) | ((with_reducible apply Blk.new_at); focus (first | (simp; done) | (simp; omega))) | with_reducible apply Blk.alloc | with_reducible apply Blk.drew | with_reducible apply Blk.drewN | with_reducible apply Blk.set | ((with_reducible apply Blk.far); case hp => (first | (simp; done) | (dsimp only; omega))) | ((with_reducible apply Blk.ext); case he => with_reducible assumption)))
    have t2 := hT.cell 2
    have t3 := hT.cell 3
    simp at t2 t3
    go_wp2_with fail
    refine (check_any lo hi _).mono ?_
    rintro e w3 ⟨rfl, h3⟩
    go_wp2_with fail
    go_ret
    exact Ret.int e.out.symm (by (repeat (first | (with_reducible assumption) | with_reducible exact Ext.refl _ | with_reducible apply Ext.alloc | with_reducible apply Ext.drew | with_reducible apply Ext.drewN | ((with_reducible apply Ext.set); case hp => (first | (simp; done) | (dsimp only; omega) | omega)) | ((with_reducible apply Ext.trans); case k => with_reducible assumption))))
  · have e := Lib.hid (taskE_bad (lo := lo) (hi := hi) (show checkE xs cs ≠ 0 by simpa using h))
    go_enter Try.func112, Try.ntmps112
    go_wp2_with fail; refine (lcheck_any A B n m c c2 xs cs _ (HX.out.ext (by (repeat (first | (with_reducible assumption) | with_reducible exact Ext.refl _ | with_reducible apply Ext.alloc | with_reducible apply Ext.drew | with_reducible apply Ext.drewN | ((with_reducible apply Ext.set); case hp => (first | (simp; done) | (dsimp only; omega) | omega)) | ((with_reducible apply Ext.trans); case k => with_reducible assumption))))) (HK.out.ext (by (repeat (first | (with_reducible assumption) | with_reducible exact Ext.refl _ | with_reducible apply Ext.alloc | with_reducible apply Ext.drew | with_reducible apply Ext.drewN | ((with_reducible apply Ext.set); case hp => (first | (simp; done) | (dsimp only; omega) | omega)) | ((with_reducible apply Ext.trans); case k => with_reducible assumption)))))).mono ?_; rintro e w2 ⟨rfl, h2⟩
    go_wp2_with fail
    go_ret
    exact Ret.int e.out.symm (by (repeat (first | (with_reducible assumption) | with_reducible exact Ext.refl _ | with_reducible apply Ext.alloc | with_reducible apply Ext.drew | with_reducible apply Ext.drewN | ((with_reducible apply Ext.set); case hp => (first | (simp; done) | (dsimp only; omega) | omega)) | ((with_reducible apply Ext.trans); case k => with_reducible assumption))))
end Go.Proofs.Ytdcedfciaaooiaa
