/- stack.of and the links of a task: the walks. -/
import Derived.Test.YtdcedfciaaooiaaS25
import Derived.Test.YtdcedfciaaooiaaJ0
import Derived.Laws.EntriesVeiled
set_option linter.unusedVariables false
namespace Go.Proofs.Ytdcedfciaaooiaa
open Go.RowKit Go.Shelf
attribute [local go_sem] Oper.semAt_some

theorem szW : (Try.prog.info? 150).map (·.size) = some 6 := by kernel_rfl
set_option maxRecDepth 20000 in
theorem of_ok (A B : Option Addr) (n m c c2 : Nat) (xs : List Dim) (cs : List Lk) (lo hi : Int) (w : World) (hx : Dims w A n xs) (hk : Lnks w B m cs) (h : taskE xs cs lo hi = 0) :
    Calls Try.prog 91 #[.agg #[.slice A n c, .slice B m c2, .int .i64 lo, .int .i64 hi]] w (Ret (.tuple #[.agg #[.slice A n c, .slice B m c2, .int .i64 lo, .int .i64 hi, .func (.func 113) #[] #[], .func (.func 114) #[] #[]], .int .i64 0]) w) := by
  have HX := Lib.hid hx
  have HK := Lib.hid hk
  have HC : Hid (∀ w, Dims w A n xs → Lnks w B m cs → Calls Try.prog 112 #[.agg #[.slice A n c, .slice B m c2, .int .i64 lo, .int .i64 hi]] w (Ret (.int .i64 0) w)) := Lib.hid (fun w h1 h2 => by have := scheck_any A B n m c c2 xs cs lo hi w h1 h2; rwa [h] at this)
  clear hx hk h
  go_enter Try.func91, Try.ntmps91
  go_wp2_with fail; refine (HC.out _ (HX.out.ext (by (repeat (first | (with_reducible assumption) | with_reducible exact Ext.refl _ | with_reducible apply Ext.alloc | with_reducible apply Ext.drew | with_reducible apply Ext.drewN | ((with_reducible apply Ext.set); case hp => (first | (simp; done) | (dsimp only; omega) | omega)) | ((with_reducible apply Ext.trans); case k => with_reducible assumption))))) (HK.out.ext (by (repeat (first | (with_reducible assumption) | with_reducible exact Ext.refl _ | with_reducible apply Ext.alloc | with_reducible apply Ext.drew | with_reducible apply Ext.drewN | ((with_reducible apply Ext.set); case hp => (first | (simp; done) | (dsimp only; omega) | omega)) | ((with_reducible apply Ext.trans); case k => with_reducible assumption)))))).mono ?_; rintro e w2 ⟨rfl, h2⟩
  have hT : Blk w2 w.heap.size #[.slice A n c, .slice B m c2, .int .i64 lo, .int .i64 hi] 85 := by (repeat (first | (with_reducible assumption) | ((with_reducible apply Blk.new_at); focus (first | (simp; done) | (simp; omega))) | with_reducible apply Blk.alloc | with_reducible apply Blk.drew | with_reducible apply Blk.drewN | with_reducible apply Blk.set | ((with_reducible apply Blk.far); case hp => (first | (simp; done) | (dsimp only; omega))) | ((with_reducible apply Blk.ext); case he => with_reducible assumption)))
  have t0 := hT.cell 0
  have t1 := hT.cell 1
  have t2 := hT.cell 2
  have t3 := hT.cell 3
  simp at t0 t1 t2 t3
  have hW : Blk w2 (w.heap.size + 1) #[.slice none 0 0, .slice none 0 0, .int .i64 0, .int .i64 0, Value.nilFunc, Value.nilFunc] 150 := by (repeat (first | (with_reducible assumption) | ((with_reducible apply Blk.new_at); focus (first | (simp; done) | (simp; omega))) | with_reducible apply Blk.alloc | with_reducible apply Blk.drew | with_reducible apply Blk.drewN | with_reducible apply Blk.set | ((with_reducible apply Blk.far); case hp => (first | (simp; done) | (dsimp only; omega))) | ((with_reducible apply Blk.ext); case he => with_reducible assumption)))
  have s0 := hW.cell 0
  have s1 := hW.cell 1
  have s2 := hW.cell 2
  have s3 := hW.cell 3
  have s4 := hW.cell 4
  have s5 := hW.cell 5
  simp at s0 s1 s2 s3 s4 s5
  have r0 := hW.frozen 0
  have r1 := hW.frozen 1
  have r2 := hW.frozen 2
  have r3 := hW.frozen 3
  have r4 := hW.frozen 4
  have r5 := hW.frozen 5
  have hl := hW.lt
  go_wp2_with fail
  refine end_ct rfl rfl _ _ #[.slice A n c, .slice B m c2, .int .i64 lo, .int .i64 hi, .func (.func 113) #[] #[], .func (.func 114) #[] #[]] _ _ rfl rfl (by (apply Blk.is; (case h => (repeat (first | (with_reducible assumption) | ((with_reducible apply Blk.new_at); focus (first | (simp; done) | (simp; omega))) | with_reducible apply Blk.alloc | with_reducible apply Blk.drew | with_reducible apply Blk.drewN | with_reducible apply Blk.set | ((with_reducible apply Blk.far); case hp => (first | (simp; done) | (dsimp only; omega))) | ((with_reducible apply Blk.ext); case he => with_reducible assumption)))); all_goals rfl)) Try.underlying150 rfl (by exact szW) ?_
  exact ⟨rfl, by (repeat (first | (with_reducible assumption) | with_reducible exact Ext.refl _ | with_reducible apply Ext.alloc | with_reducible apply Ext.drew | with_reducible apply Ext.drewN | ((with_reducible apply Ext.set); case hp => (first | (simp; done) | (dsimp only; omega) | omega)) | ((with_reducible apply Ext.trans); case k => with_reducible assumption)))⟩
set_option maxRecDepth 20000 in
theorem of_bad (A B : Option Addr) (n m c c2 : Nat) (xs : List Dim) (cs : List Lk) (lo hi : Int) (w : World) (hx : Dims w A n xs) (hk : Lnks w B m cs) (E : Int) (h : taskE xs cs lo hi = E) (hE : (E != 0) = true) :
    Calls Try.prog 91 #[.agg #[.slice A n c, .slice B m c2, .int .i64 lo, .int .i64 hi]] w (Ret (.tuple #[.agg #[.slice none 0 0, .slice none 0 0, .int .i64 0, .int .i64 0, Value.nilFunc, Value.nilFunc], .int .i64 E]) w) := by
  have HX := Lib.hid hx
  have HK := Lib.hid hk
  have HC : Hid (∀ w, Dims w A n xs → Lnks w B m cs → Calls Try.prog 112 #[.agg #[.slice A n c, .slice B m c2, .int .i64 lo, .int .i64 hi]] w (Ret (.int .i64 E) w)) := Lib.hid (fun w h1 h2 => by have := scheck_any A B n m c c2 xs cs lo hi w h1 h2; rwa [h] at this)
  clear hx hk h
  go_enter Try.func91, Try.ntmps91
  go_wp2_with fail; refine (HC.out _ (HX.out.ext (by (repeat (first | (with_reducible assumption) | with_reducible exact Ext.refl _ | with_reducible apply Ext.alloc | with_reducible apply Ext.drew | with_reducible apply Ext.drewN | ((with_reducible apply Ext.set); case hp => (first | (simp; done) | (dsimp only; omega) | omega)) | ((with_reducible apply Ext.trans); case k => with_reducible assumption))))) (HK.out.ext (by (repeat (first | (with_reducible assumption) | with_reducible exact Ext.refl _ | with_reducible apply Ext.alloc | with_reducible apply Ext.drew | with_reducible apply Ext.drewN | ((with_reducible apply Ext.set); case hp => (first | (simp; done) | (dsimp only; omega) | omega)) | ((with_reducible apply Ext.trans); case k => with_reducible assumption)))))).mono ?_; rintro e w2 ⟨rfl, h2⟩
  have hW : Blk w2 (w.heap.size + 1) #[.slice none 0 0, .slice none 0 0, .int .i64 0, .int .i64 0, Value.nilFunc, Value.nilFunc] 150 := by (repeat (first | (with_reducible assumption) | ((with_reducible apply Blk.new_at); focus (first | (simp; done) | (simp; omega))) | with_reducible apply Blk.alloc | with_reducible apply Blk.drew | with_reducible apply Blk.drewN | with_reducible apply Blk.set | ((with_reducible apply Blk.far); case hp => (first | (simp; done) | (dsimp only; omega))) | ((with_reducible apply Blk.ext); case he => with_reducible assumption)))
  have s0 := hW.cell 0
  have s1 := hW.cell 1
  have s2 := hW.cell 2
  have s3 := hW.cell 3
  have s4 := hW.cell 4
  have s5 := hW.cell 5
  simp at s0 s1 s2 s3 s4 s5
  have r0 := hW.frozen 0
  have r1 := hW.frozen 1
  have r2 := hW.frozen 2
  have r3 := hW.frozen 3
  have r4 := hW.frozen 4
  have r5 := hW.frozen 5
  have hl := hW.lt
  go_wp2_with fail
  refine end_ct rfl rfl _ _ #[.slice none 0 0, .slice none 0 0, .int .i64 0, .int .i64 0, Value.nilFunc, Value.nilFunc] _ _ rfl rfl (by (apply Blk.is; (case h => (repeat (first | (with_reducible assumption) | ((with_reducible apply Blk.new_at); focus (first | (simp; done) | (simp; omega))) | with_reducible apply Blk.alloc | with_reducible apply Blk.drew | with_reducible apply Blk.drewN | with_reducible apply Blk.set | ((with_reducible apply Blk.far); case hp => (first | (simp; done) | (dsimp only; omega))) | ((with_reducible apply Blk.ext); case he => with_reducible assumption)))); all_goals rfl)) Try.underlying150 rfl (by exact szW) ?_
  exact ⟨rfl, by (repeat (first | (with_reducible assumption) | with_reducible exact Ext.refl _ | with_reducible apply Ext.alloc | with_reducible apply Ext.drew | with_reducible apply Ext.drewN | ((with_reducible apply Ext.set); case hp => (first | (simp; done) | (dsimp only; omega) | omega)) | ((with_reducible apply Ext.trans); case k => with_reducible assumption)))⟩

def sgn (x : Lk) : Int := if x.back then -1 else 1
theorem links_any (A B : Option Addr) (n m c c2 : Nat) (lo hi : Int) (f1 f2 : Value) (w : World) : Calls Try.prog 94 #[.agg #[.slice A n c, .slice B m c2, .int .i64 lo, .int .i64 hi, f1, f2]] w
    (fun e w' => e = .returned (.func (.func 115) #[] #[.pointer (some ⟨w.heap.size, 0, none⟩)]) ∧ w.alloc (.cells #[.slice A n c, .slice B m c2, .int .i64 lo, .int .i64 hi, f1, f2] 150) = w') := by
  go_enter Try.func94, Try.ntmps94
  go_wp2_with fail
  go_ret
  exact ⟨rfl, rfl⟩
end Go.Proofs.Ytdcedfciaaooiaa
