/- stack.Limits, Spare, Attain: the walks. -/
import Derived.Test.YtdcedfciaaooiaaQ25
set_option linter.unusedVariables false
namespace Go.Proofs.Ytdcedfciaaooiaa
open Go.RowKit

theorem end_t3 {P : Program} {fn : Func} {R : Ending → World → Prop} {a : Act} {w : World} {u0 u1 u2 : Tmp} (hr : fn.results = #[.tmp u0, .tmp u1, .tmp u2]) (hd : a.defers = []) (h : R (.returned (.tuple #[a.tmps.getD u0 undef, a.tmps.getD u1 undef, a.tmps.getD u2 undef])) w) : bodyPost P fn R .ret a w :=
  ⟨hd, _, outs_many (rs := [.tmp u0, .tmp u1, .tmp u2]) hr (by simp) (.tmp (.tmp (.tmp .nil))), h⟩
theorem chk_lims0 {a b : Int} (h : chk a b = 0) : -100000 ≤ a ∧ a ≤ b ∧ b ≤ 100000 := chk_lims h
set_option maxRecDepth 20000 in
set_option maxHeartbeats 4000000 in
theorem slimits_ok (A B : Option Addr) (n m c c2 : Nat) (xs : List Dim) (cs : List Lk) (lo hi : Int) (w : World) (hx : Dims w A n xs) (hk : Lnks w B m cs) (h : taskE xs cs lo hi = 0) : Calls Try.prog 58 #[.agg #[.slice A n c, .slice B m c2, .int .i64 lo, .int .i64 hi]] w (Ret (.tuple #[.agg #[.int .i64 (endS 1 xs cs), .int .i64 (endS (-1) xs cs)], .int .i64 0]) w) := by
  have hrt := rt_of hx.len hk.len (taskE_zero h).1
  have hwant := chk_lims0 (taskE_zero h).2
  have HRT := Lib.hid hrt
  have HX := Lib.hid hx
  have HK := Lib.hid hk
  have HOF := Lib.hid (fun w (h1 : Dims w A n xs) (h2 : Lnks w B m cs) => of_ok A B n m c c2 xs cs lo hi w h1 h2 h)
  have HB := Lib.hid (fun w (h1 : Dims w A n xs) (h2 : Lnks w B m cs) => bounds_any A B n m c c2 xs cs lo hi w h1 h2 hrt.fine hrt.m256 hrt.m0)
  have hr1 := hrt.range 1
  have hr2 := hrt.range (-1)
  clear hx hk h hrt
  generalize endS 1 xs cs = b1 at *
  generalize endS (-1) xs cs = b2 at *
  go_enter Try.func58, Try.ntmps58
  go_wp2_with fail; refine (HOF.out _ (HX.out.ext (by (repeat (first | (with_reducible assumption) | with_reducible exact Ext.refl _ | with_reducible apply Ext.alloc | with_reducible apply Ext.drew | with_reducible apply Ext.drewN | ((with_reducible apply Ext.set); case hp => (first | (simp; done) | (dsimp only; omega) | omega)) | ((with_reducible apply Ext.trans); case k => with_reducible assumption))))) (HK.out.ext (by (repeat (first | (with_reducible assumption) | with_reducible exact Ext.refl _ | with_reducible apply Ext.alloc | with_reducible apply Ext.drew | with_reducible apply Ext.drewN | ((with_reducible apply Ext.set); case hp => (first | (simp; done) | (dsimp only; omega) | omega)) | ((with_reducible apply Ext.trans); case k => with_reducible assumption)))))).mono ?_; rintro e w2 ⟨rfl, h2⟩
  have O2 : Blk w2 (w.heap.size + 1) #[.int .i64 0, .int .i64 0] 23 := (by (repeat (first | (with_reducible assumption) | ((with_reducible apply Blk.new_at); focus (first | (simp; done) | (simp; omega))) | with_reducible apply Blk.alloc | with_reducible apply Blk.drew | with_reducible apply Blk.drewN | with_reducible apply Blk.set | ((with_reducible apply Blk.far); case hp => (first | (simp; done) | (dsimp only; omega))) | ((with_reducible apply Blk.ext); case he => with_reducible assumption)))); obtain ⟨O21, O22, O23, O24⟩ := O2.c2; have O25 := O2.lt
  have hs2 := Ext.size h2
  simp only [World.size_alloc] at hs2
  go_wp2_with fail; refine (HB.out _ (HX.out.ext (by (repeat (first | (with_reducible assumption) | with_reducible exact Ext.refl _ | with_reducible apply Ext.alloc | with_reducible apply Ext.drew | with_reducible apply Ext.drewN | ((with_reducible apply Ext.set); case hp => (first | (simp; done) | (dsimp only; omega) | omega)) | ((with_reducible apply Ext.trans); case k => with_reducible assumption))))) (HK.out.ext (by (repeat (first | (with_reducible assumption) | with_reducible exact Ext.refl _ | with_reducible apply Ext.alloc | with_reducible apply Ext.drew | with_reducible apply Ext.drewN | ((with_reducible apply Ext.set); case hp => (first | (simp; done) | (dsimp only; omega) | omega)) | ((with_reducible apply Ext.trans); case k => with_reducible assumption)))))).mono ?_; rintro e w3 ⟨rfl, h3⟩
  have O3 : Blk w3 (w.heap.size + 1) #[.int .i64 0, .int .i64 0] 23 := (by (repeat (first | (with_reducible assumption) | ((with_reducible apply Blk.new_at); focus (first | (simp; done) | (simp; omega))) | with_reducible apply Blk.alloc | with_reducible apply Blk.drew | with_reducible apply Blk.drewN | with_reducible apply Blk.set | ((with_reducible apply Blk.far); case hp => (first | (simp; done) | (dsimp only; omega))) | ((with_reducible apply Blk.ext); case he => with_reducible assumption)))); obtain ⟨O31, O32, O33, O34⟩ := O3.c2; have O35 := O3.lt
  go_wp2_with fail
  refine end_ct rfl rfl _ _ _ _ _ rfl rfl (by (repeat (first | (with_reducible assumption) | ((with_reducible apply Blk.new_at); focus (first | (simp; done) | (simp; omega))) | with_reducible apply Blk.alloc | with_reducible apply Blk.drew | with_reducible apply Blk.drewN | with_reducible apply Blk.set | ((with_reducible apply Blk.far); case hp => (first | (simp; done) | (dsimp only; omega))) | ((with_reducible apply Blk.ext); case he => with_reducible assumption)))) Try.underlying23 rfl (by exact szL) ?_
  exact Ret.mk' (by simp) (by (repeat (first | (with_reducible assumption) | with_reducible exact Ext.refl _ | with_reducible apply Ext.alloc | with_reducible apply Ext.drew | with_reducible apply Ext.drewN | ((with_reducible apply Ext.set); case hp => (first | (simp; done) | (dsimp only; omega) | omega)) | ((with_reducible apply Ext.trans); case k => with_reducible assumption))))
set_option maxRecDepth 20000 in
set_option maxHeartbeats 4000000 in
theorem slimits_bad (A B : Option Addr) (n m c c2 : Nat) (xs : List Dim) (cs : List Lk) (lo hi : Int) (w : World) (hx : Dims w A n xs) (hk : Lnks w B m cs) (E : Int) (h : taskE xs cs lo hi = E) (hE : (E != 0) = true) : Calls Try.prog 58 #[.agg #[.slice A n c, .slice B m c2, .int .i64 lo, .int .i64 hi]] w (Ret (.tuple #[.agg #[.int .i64 0, .int .i64 0], .int .i64 E]) w) := by
  have HX := Lib.hid hx
  have HK := Lib.hid hk
  have HOF := Lib.hid (fun w (h1 : Dims w A n xs) (h2 : Lnks w B m cs) => of_bad A B n m c c2 xs cs lo hi w h1 h2 E h hE)
  clear hx hk h
  go_enter Try.func58, Try.ntmps58
  go_wp2_with fail; refine (HOF.out _ (HX.out.ext (by (repeat (first | (with_reducible assumption) | with_reducible exact Ext.refl _ | with_reducible apply Ext.alloc | with_reducible apply Ext.drew | with_reducible apply Ext.drewN | ((with_reducible apply Ext.set); case hp => (first | (simp; done) | (dsimp only; omega) | omega)) | ((with_reducible apply Ext.trans); case k => with_reducible assumption))))) (HK.out.ext (by (repeat (first | (with_reducible assumption) | with_reducible exact Ext.refl _ | with_reducible apply Ext.alloc | with_reducible apply Ext.drew | with_reducible apply Ext.drewN | ((with_reducible apply Ext.set); case hp => (first | (simp; done) | (dsimp only; omega) | omega)) | ((with_reducible apply Ext.trans); case k => with_reducible assumption)))))).mono ?_; rintro e w2 ⟨rfl, h2⟩
  have O2 : Blk w2 (w.heap.size + 1) #[.int .i64 0, .int .i64 0] 23 := (by (repeat (first | (with_reducible assumption) | ((with_reducible apply Blk.new_at); focus (first | (simp; done) | (simp; omega))) | with_reducible apply Blk.alloc | with_reducible apply Blk.drew | with_reducible apply Blk.drewN | with_reducible apply Blk.set | ((with_reducible apply Blk.far); case hp => (first | (simp; done) | (dsimp only; omega))) | ((with_reducible apply Blk.ext); case he => with_reducible assumption)))); obtain ⟨O21, O22, O23, O24⟩ := O2.c2; have O25 := O2.lt
  have hs2 := Ext.size h2
  simp only [World.size_alloc] at hs2
  go_wp2_with fail
  refine end_ct rfl rfl _ _ _ _ _ rfl rfl (by (repeat (first | (with_reducible assumption) | ((with_reducible apply Blk.new_at); focus (first | (simp; done) | (simp; omega))) | with_reducible apply Blk.alloc | with_reducible apply Blk.drew | with_reducible apply Blk.drewN | with_reducible apply Blk.set | ((with_reducible apply Blk.far); case hp => (first | (simp; done) | (dsimp only; omega))) | ((with_reducible apply Blk.ext); case he => with_reducible assumption)))) Try.underlying23 rfl (by exact szL) ?_
  exact Ret.mk' (by simp) (by (repeat (first | (with_reducible assumption) | with_reducible exact Ext.refl _ | with_reducible apply Ext.alloc | with_reducible apply Ext.drew | with_reducible apply Ext.drewN | ((with_reducible apply Ext.set); case hp => (first | (simp; done) | (dsimp only; omega) | omega)) | ((with_reducible apply Ext.trans); case k => with_reducible assumption))))
set_option maxRecDepth 20000 in
set_option maxHeartbeats 4000000 in
theorem sspare_ok (A B : Option Addr) (n m c c2 : Nat) (xs : List Dim) (cs : List Lk) (lo hi : Int) (w : World) (hx : Dims w A n xs) (hk : Lnks w B m cs) (h : taskE xs cs lo hi = 0) : Calls Try.prog 60 #[.agg #[.slice A n c, .slice B m c2, .int .i64 lo, .int .i64 hi]] w (Ret (.tuple #[.int .i64 (endS 1 xs cs - lo), .int .i64 (hi - endS (-1) xs cs), .int .i64 0]) w) := by
  have hrt := rt_of hx.len hk.len (taskE_zero h).1
  have hwant := chk_lims0 (taskE_zero h).2
  have HRT := Lib.hid hrt
  have HX := Lib.hid hx
  have HK := Lib.hid hk
  have HOF := Lib.hid (fun w (h1 : Dims w A n xs) (h2 : Lnks w B m cs) => of_ok A B n m c c2 xs cs lo hi w h1 h2 h)
  have HB := Lib.hid (fun w (h1 : Dims w A n xs) (h2 : Lnks w B m cs) => bounds_any A B n m c c2 xs cs lo hi w h1 h2 hrt.fine hrt.m256 hrt.m0)
  have hr1 := hrt.range 1
  have hr2 := hrt.range (-1)
  clear hx hk h hrt
  generalize endS 1 xs cs = b1 at *
  generalize endS (-1) xs cs = b2 at *
  go_enter Try.func60, Try.ntmps60
  go_wp2_with fail; refine (HOF.out _ (HX.out.ext (by (repeat (first | (with_reducible assumption) | with_reducible exact Ext.refl _ | with_reducible apply Ext.alloc | with_reducible apply Ext.drew | with_reducible apply Ext.drewN | ((with_reducible apply Ext.set); case hp => (first | (simp; done) | (dsimp only; omega) | omega)) | ((with_reducible apply Ext.trans); case k => with_reducible assumption))))) (HK.out.ext (by (repeat (first | (with_reducible assumption) | with_reducible exact Ext.refl _ | with_reducible apply Ext.alloc | with_reducible apply Ext.drew | with_reducible apply Ext.drewN | ((with_reducible apply Ext.set); case hp => (first | (simp; done) | (dsimp only; omega) | omega)) | ((with_reducible apply Ext.trans); case k => with_reducible assumption)))))).mono ?_; rintro e w2 ⟨rfl, h2⟩
  have hs2 := Ext.size h2
  simp only [World.size_alloc] at hs2
  go_wp2_with fail; refine (HB.out _ (HX.out.ext (by (repeat (first | (with_reducible assumption) | with_reducible exact Ext.refl _ | with_reducible apply Ext.alloc | with_reducible apply Ext.drew | with_reducible apply Ext.drewN | ((with_reducible apply Ext.set); case hp => (first | (simp; done) | (dsimp only; omega) | omega)) | ((with_reducible apply Ext.trans); case k => with_reducible assumption))))) (HK.out.ext (by (repeat (first | (with_reducible assumption) | with_reducible exact Ext.refl _ | with_reducible apply Ext.alloc | with_reducible apply Ext.drew | with_reducible apply Ext.drewN | ((with_reducible apply Ext.set); case hp => (first | (simp; done) | (dsimp only; omega) | omega)) | ((with_reducible apply Ext.trans); case k => with_reducible assumption)))))).mono ?_; rintro e w3 ⟨rfl, h3⟩
  have P : Blk w3 (w2.heap.size) #[.slice A n c, .slice B m c2, .int .i64 lo, .int .i64 hi, .func (.func 113) #[] #[], .func (.func 114) #[] #[]] 150 := by (repeat (first | (with_reducible assumption) | ((with_reducible apply Blk.new_at); focus (first | (simp; done) | (simp; omega))) | with_reducible apply Blk.alloc | with_reducible apply Blk.drew | with_reducible apply Blk.drewN | with_reducible apply Blk.set | ((with_reducible apply Blk.far); case hp => (first | (simp; done) | (dsimp only; omega))) | ((with_reducible apply Blk.ext); case he => with_reducible assumption)))
  have P0 := P.cell 0
  have P1 := P.cell 1
  have P2 := P.cell 2
  have P3 := P.cell 3
  have P4 := P.cell 4
  have P5 := P.cell 5
  simp at P0 P1 P2 P3 P4 P5
  have Pl := P.lt
  have hs3 := Ext.size h3
  simp only [World.size_alloc] at hs3
  go_wp2_with fail
  go_quiet (fail)
  go_wp2_with fail
  refine end_t3 (u0 := 2) (u1 := 3) (u2 := 4) rfl rfl ?_
  exact Ret.mk' rfl (by (repeat (first | (with_reducible assumption) | with_reducible exact Ext.refl _ | with_reducible apply Ext.alloc | with_reducible apply Ext.drew | with_reducible apply Ext.drewN | ((with_reducible apply Ext.set); case hp => (first | (simp; done) | (dsimp only; omega) | omega)) | ((with_reducible apply Ext.trans); case k => with_reducible assumption))))
set_option maxRecDepth 20000 in
set_option maxHeartbeats 4000000 in
theorem sspare_bad (A B : Option Addr) (n m c c2 : Nat) (xs : List Dim) (cs : List Lk) (lo hi : Int) (w : World) (hx : Dims w A n xs) (hk : Lnks w B m cs) (E : Int) (h : taskE xs cs lo hi = E) (hE : (E != 0) = true) : Calls Try.prog 60 #[.agg #[.slice A n c, .slice B m c2, .int .i64 lo, .int .i64 hi]] w (Ret (.tuple #[.int .i64 0, .int .i64 0, .int .i64 E]) w) := by
  have HX := Lib.hid hx
  have HK := Lib.hid hk
  have HOF := Lib.hid (fun w (h1 : Dims w A n xs) (h2 : Lnks w B m cs) => of_bad A B n m c c2 xs cs lo hi w h1 h2 E h hE)
  clear hx hk h
  go_enter Try.func60, Try.ntmps60
  go_wp2_with fail; refine (HOF.out _ (HX.out.ext (by (repeat (first | (with_reducible assumption) | with_reducible exact Ext.refl _ | with_reducible apply Ext.alloc | with_reducible apply Ext.drew | with_reducible apply Ext.drewN | ((with_reducible apply Ext.set); case hp => (first | (simp; done) | (dsimp only; omega) | omega)) | ((with_reducible apply Ext.trans); case k => with_reducible assumption))))) (HK.out.ext (by (repeat (first | (with_reducible assumption) | with_reducible exact Ext.refl _ | with_reducible apply Ext.alloc | with_reducible apply Ext.drew | with_reducible apply Ext.drewN | ((with_reducible apply Ext.set); case hp => (first | (simp; done) | (dsimp only; omega) | omega)) | ((with_reducible apply Ext.trans); case k => with_reducible assumption)))))).mono ?_; rintro e w2 ⟨rfl, h2⟩
  go_wp2_with fail
  refine end_t3 (u0 := 2) (u1 := 3) (u2 := 4) rfl rfl ?_
  exact Ret.mk' rfl (by (repeat (first | (with_reducible assumption) | with_reducible exact Ext.refl _ | with_reducible apply Ext.alloc | with_reducible apply Ext.drew | with_reducible apply Ext.drewN | ((with_reducible apply Ext.set); case hp => (first | (simp; done) | (dsimp only; omega) | omega)) | ((with_reducible apply Ext.trans); case k => with_reducible assumption))))
def atE (gr : Bool) (xs : List Dim) (cs : List Lk) : List Int := partL (signT gr) xs cs
theorem end01 (gr : Bool) : (signT gr = 1 ∧ (if gr then (1 : Int) else 0) = 0) ∨ (signT gr = -1 ∧ (if gr then (1 : Int) else 0) = 1) := by cases gr <;> simp [signT]
end Go.Proofs.Ytdcedfciaaooiaa
