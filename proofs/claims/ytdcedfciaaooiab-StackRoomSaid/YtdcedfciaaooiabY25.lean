/- The reference's tasks: Check, Bounds, Limits, Attain, Spare, Keeps: the walks. -/
import Derived.Test.YtdcedfciaaooiabD25
import Derived.Test.YtdcedfciaaooiabI25
set_option linter.unusedVariables false
namespace Go.Proofs.Ytdcedfciaaooiab
open Go.RowKit

set_option maxRecDepth 20000 in
set_option maxHeartbeats 4000000 in
theorem rcheck25_any (A B : Option Addr) (n m c c2 : Nat) (xs : List Dim) (cs : List Lk) (lo hi : Int) (w : World) (hx : Dims w A n xs) (hk : Lnks w B m cs) (hcap : m ≤ c2) : Calls Try.prog 23 #[.agg #[.slice A n c, .slice B m c2, .int .i64 lo, .int .i64 hi]] w (Ret (.int .i64 (taskE xs cs lo hi)) w) := by
  have HX := Lib.hid hx
  have HK := Lib.hid hk
  clear hx hk
  cases h : checkE xs cs != 0
  · have e := Lib.hid (taskE_ok (lo := lo) (hi := hi) (show checkE xs cs = 0 by simpa using h))
    go_enter Try.func23, Try.ntmps23
    go_wp2_with fail; refine (rlcheck_any A B n m c c2 xs cs _ (HX.out.ext (by (repeat (first | (with_reducible assumption) | with_reducible exact Ext.refl _ | with_reducible apply Ext.alloc | with_reducible apply Ext.drew | with_reducible apply Ext.drewN | ((with_reducible apply Ext.set); case hp => (first | (simp; done) | (dsimp only; omega) | omega)) | ((with_reducible apply Ext.trans); case k => with_reducible assumption))))) (HK.out.ext (by (repeat (first | (with_reducible assumption) | with_reducible exact Ext.refl _ | with_reducible apply Ext.alloc | with_reducible apply Ext.drew | with_reducible apply Ext.drewN | ((with_reducible apply Ext.set); case hp => (first | (simp; done) | (dsimp only; omega) | omega)) | ((with_reducible apply Ext.trans); case k => with_reducible assumption))))) hcap).mono ?_; rintro e w2 ⟨rfl, h2⟩
    have hT : Blk w2 w.heap.size #[.slice A n c, .slice B m c2, .int .i64 lo, .int .i64 hi] 31 := by (repeat (first | (with_reducible assumption) | ((with_reducible apply Blk.new_at); focus (first | (simp; done) | (simp; omega))) | with_reducible apply Blk.alloc | with_reducible apply Blk.drew | with_reducible apply Blk.drewN | with_reducible apply Blk.set | ((with_reducible apply Blk.far); case hp => (first | (simp; done) | (dsimp only; omega))) | ((with_reducible apply Blk.ext); case he => with_reducible assumption)))
    have t2 := hT.cell 2
    have t3 := hT.cell 3
    simp at t2 t3
    go_wp2_with fail
    refine (rcheck_any lo hi _).mono ?_
    rintro e w3 ⟨rfl, h3⟩
    go_wp2_with fail
    go_ret
    exact Ret.int e.out.symm (by (repeat (first | (with_reducible assumption) | with_reducible exact Ext.refl _ | with_reducible apply Ext.alloc | with_reducible apply Ext.drew | with_reducible apply Ext.drewN | ((with_reducible apply Ext.set); case hp => (first | (simp; done) | (dsimp only; omega) | omega)) | ((with_reducible apply Ext.trans); case k => with_reducible assumption))))
  · have e := Lib.hid (taskE_bad (lo := lo) (hi := hi) (show checkE xs cs ≠ 0 by simpa using h))
    go_enter Try.func23, Try.ntmps23
    go_wp2_with fail; refine (rlcheck_any A B n m c c2 xs cs _ (HX.out.ext (by (repeat (first | (with_reducible assumption) | with_reducible exact Ext.refl _ | with_reducible apply Ext.alloc | with_reducible apply Ext.drew | with_reducible apply Ext.drewN | ((with_reducible apply Ext.set); case hp => (first | (simp; done) | (dsimp only; omega) | omega)) | ((with_reducible apply Ext.trans); case k => with_reducible assumption))))) (HK.out.ext (by (repeat (first | (with_reducible assumption) | with_reducible exact Ext.refl _ | with_reducible apply Ext.alloc | with_reducible apply Ext.drew | with_reducible apply Ext.drewN | ((with_reducible apply Ext.set); case hp => (first | (simp; done) | (dsimp only; omega) | omega)) | ((with_reducible apply Ext.trans); case k => with_reducible assumption))))) hcap).mono ?_; rintro e w2 ⟨rfl, h2⟩
    go_wp2_with fail
    go_ret
    exact Ret.int e.out.symm (by (repeat (first | (with_reducible assumption) | with_reducible exact Ext.refl _ | with_reducible apply Ext.alloc | with_reducible apply Ext.drew | with_reducible apply Ext.drewN | ((with_reducible apply Ext.set); case hp => (first | (simp; done) | (dsimp only; omega) | omega)) | ((with_reducible apply Ext.trans); case k => with_reducible assumption))))
theorem extL_range {n m : Nat} {xs : List Dim} {cs : List Lk} (h : RT n m xs cs) (gr : Bool) (i : Nat) : -1000000000 ≤ (extL gr xs cs).getD i 0 ∧ (extL gr xs cs).getD i 0 ≤ 1000000000 := by
  by_cases hi : i < n
  · have he : (extL gr xs cs).getD i 0 = extV gr xs cs i := by
      unfold extL
      rw [List.getD_eq_getElem?_getD, List.getElem?_map, List.getElem?_range (by rw [h.xl]; exact hi)]
      rfl
    rw [he]
    have hl := h.lims i hi
    unfold extV
    split <;> omega
  · rw [List.getD_eq_getElem?_getD, List.getElem?_eq_none (by rw [extL_len, h.xl]; omega)]
    simp
set_option maxRecDepth 20000 in
set_option maxHeartbeats 4000000 in
theorem rbounds_any (A B : Option Addr) (n m c c2 : Nat) (xs : List Dim) (cs : List Lk) (lo hi : Int) (w : World) (hx : Dims w A n xs) (hk : Lnks w B m cs) (hrt : RT n m xs cs) : Calls Try.prog 65 #[.agg #[.slice A n c, .slice B m c2, .int .i64 lo, .int .i64 hi]] w (Ret (.agg #[.int .i64 (endS 1 xs cs), .int .i64 (endS (-1) xs cs)]) w) := by
  have HX := Lib.hid hx
  have HK := Lib.hid hk
  have hn := hrt.n256
  have hm := hrt.m256
  have HE := Lib.hid (fun (gr : Bool) w (h1 : Dims w A n xs) (h2 : Lnks w B m cs) => rext_any gr A B n m c c2 xs cs lo hi w h1 h2 hrt)
  have hdr : ∀ j, j < m → 0 ≤ (cs.getD j zeroK).dim ∧ (cs.getD j zeroK).dim < (n : Int) := fun j hj => by have := hrt.fine j hj; have h1 := this.1; have h2 := this.2.1; rw [hrt.xl] at h2; exact ⟨h1, h2⟩
  have HT := Lib.hid (fun (gr : Bool) w V cv (h1 : Lnks w B m cs) (h2 : Ints w V n (extL gr xs cs)) => (by have := rtotal_any B V m c2 n cv cs (extL gr xs cs) w h1 h2 (by omega) hdr (extL_range hrt gr); rwa [total_end hrt gr] at this : Calls Try.prog 76 #[.slice B m c2, .slice V n cv] w (Ret (.int .i64 (endS (signT gr) xs cs)) w)))
  clear hx hk hdr hrt
  go_enter Try.func65, Try.ntmps65
  go_wp2_with fail
  go_region_held3 (fun W => (W.cell? ⟨w.heap.size, 0, none⟩ = some (.slice A n c) ∧ W.cell? ⟨w.heap.size, 1, none⟩ = some (.slice B m c2)) ∧ (W.cell? ⟨w.heap.size, 2, none⟩ = some (.int .i64 lo) ∧ W.cell? ⟨w.heap.size, 3, none⟩ = some (.int .i64 hi)))
    (exact ⟨⟨(show Blk _ w.heap.size #[.slice A n c, .slice B m c2, .int .i64 lo, .int .i64 hi] 31 from by (repeat (first | (with_reducible assumption) | ((with_reducible apply Blk.new_at); focus (first | (simp; done) | (simp; omega))) | with_reducible apply Blk.alloc | with_reducible apply Blk.drew | with_reducible apply Blk.drewN | with_reducible apply Blk.set | ((with_reducible apply Blk.far); case hp => (first | (simp; done) | (dsimp only; omega))) | ((with_reducible apply Blk.ext); case he => with_reducible assumption)))).cell 0, (show Blk _ w.heap.size #[.slice A n c, .slice B m c2, .int .i64 lo, .int .i64 hi] 31 from by (repeat (first | (with_reducible assumption) | ((with_reducible apply Blk.new_at); focus (first | (simp; done) | (simp; omega))) | with_reducible apply Blk.alloc | with_reducible apply Blk.drew | with_reducible apply Blk.drewN | with_reducible apply Blk.set | ((with_reducible apply Blk.far); case hp => (first | (simp; done) | (dsimp only; omega))) | ((with_reducible apply Blk.ext); case he => with_reducible assumption)))).cell 1⟩, (show Blk _ w.heap.size #[.slice A n c, .slice B m c2, .int .i64 lo, .int .i64 hi] 31 from by (repeat (first | (with_reducible assumption) | ((with_reducible apply Blk.new_at); focus (first | (simp; done) | (simp; omega))) | with_reducible apply Blk.alloc | with_reducible apply Blk.drew | with_reducible apply Blk.drewN | with_reducible apply Blk.set | ((with_reducible apply Blk.far); case hp => (first | (simp; done) | (dsimp only; omega))) | ((with_reducible apply Blk.ext); case he => with_reducible assumption)))).cell 2, (show Blk _ w.heap.size #[.slice A n c, .slice B m c2, .int .i64 lo, .int .i64 hi] 31 from by (repeat (first | (with_reducible assumption) | ((with_reducible apply Blk.new_at); focus (first | (simp; done) | (simp; omega))) | with_reducible apply Blk.alloc | with_reducible apply Blk.drew | with_reducible apply Blk.drewN | with_reducible apply Blk.set | ((with_reducible apply Blk.far); case hp => (first | (simp; done) | (dsimp only; omega))) | ((with_reducible apply Blk.ext); case he => with_reducible assumption)))).cell 3⟩) (first
      | (go_at_call 67; refine (HE.out _ _ (HX.out.ext (by (repeat (first | (with_reducible assumption) | with_reducible exact Ext.refl _ | with_reducible apply Ext.alloc | with_reducible apply Ext.drew | with_reducible apply Ext.drewN | ((with_reducible apply Ext.set); case hp => (first | (simp; done) | (dsimp only; omega) | omega)) | ((with_reducible apply Ext.trans); case k => with_reducible assumption))))) (HK.out.ext (by (repeat (first | (with_reducible assumption) | with_reducible exact Ext.refl _ | with_reducible apply Ext.alloc | with_reducible apply Ext.drew | with_reducible apply Ext.drewN | ((with_reducible apply Ext.set); case hp => (first | (simp; done) | (dsimp only; omega) | omega)) | ((with_reducible apply Ext.trans); case k => with_reducible assumption)))))).mono ?_; rintro e w3 ⟨g0, cap0, cur0, rfl, hI, h3⟩)
      | (go_at_call 76; refine (HT.out _ _ _ _ (HK.out.ext (by (repeat (first | (with_reducible assumption) | with_reducible exact Ext.refl _ | with_reducible apply Ext.alloc | with_reducible apply Ext.drew | with_reducible apply Ext.drewN | ((with_reducible apply Ext.set); case hp => (first | (simp; done) | (dsimp only; omega) | omega)) | ((with_reducible apply Ext.trans); case k => with_reducible assumption))))) (hI.ints (by omega))).mono ?_; rintro e w4 ⟨rfl, h4⟩; refine (have hO6 : Blk w4 (w.heap.size + 1) #[.int .i64 0, .int .i64 0] 25 := ?_; ?_); (focus ((repeat (first | (with_reducible assumption) | ((with_reducible apply Blk.new_at); focus (first | (simp; done) | (simp; omega))) | with_reducible apply Blk.alloc | with_reducible apply Blk.drew | with_reducible apply Blk.drewN | with_reducible apply Blk.set | ((with_reducible apply Blk.far); case hp => (first | (simp; done) | (dsimp only; omega))) | ((with_reducible apply Blk.ext); case he => with_reducible assumption))); done)); obtain ⟨o1, o2, o3, o4⟩ := hO6.c2; have o5 := hO6.lt))
  all_goals
    go_wp2_with fail
    refine end_c rfl rfl _ _ _ _ rfl (by (apply Blk.is; (case h => (repeat (first | (with_reducible assumption) | ((with_reducible apply Blk.new_at); focus (first | (simp; done) | (simp; omega))) | with_reducible apply Blk.alloc | with_reducible apply Blk.drew | with_reducible apply Blk.drewN | with_reducible apply Blk.set | ((with_reducible apply Blk.far); case hp => (first | (simp; done) | (dsimp only; omega))) | ((with_reducible apply Blk.ext); case he => with_reducible assumption)))); all_goals rfl)) Try.underlying25 rfl (by exact szL) ?_
    exact Ret.mk' rfl (by (repeat (first | (with_reducible assumption) | with_reducible exact Ext.refl _ | with_reducible apply Ext.alloc | with_reducible apply Ext.drew | with_reducible apply Ext.drewN | ((with_reducible apply Ext.set); case hp => (first | (simp; done) | (dsimp only; omega) | omega)) | ((with_reducible apply Ext.trans); case k => with_reducible assumption))))
set_option maxRecDepth 20000 in
set_option maxHeartbeats 4000000 in
theorem rlimits_ok (A B : Option Addr) (n m c c2 : Nat) (xs : List Dim) (cs : List Lk) (lo hi : Int) (w : World) (hx : Dims w A n xs) (hk : Lnks w B m cs) (hcap : m ≤ c2) (h : taskE xs cs lo hi = 0) : Calls Try.prog 19 #[.agg #[.slice A n c, .slice B m c2, .int .i64 lo, .int .i64 hi]] w (Ret (.tuple #[.agg #[.int .i64 (endS 1 xs cs), .int .i64 (endS (-1) xs cs)], .int .i64 0]) w) := by
  have hrt := rt_of hx.len hk.len (taskE_zero h).1
  have hwant := chk_lims0 (taskE_zero h).2
  have HX := Lib.hid hx
  have HK := Lib.hid hk
  have HC := Lib.hid (fun w (h1 : Dims w A n xs) (h2 : Lnks w B m cs) => (by have := rcheck25_any A B n m c c2 xs cs lo hi w h1 h2 hcap; rwa [h] at this : Calls Try.prog 23 #[.agg #[.slice A n c, .slice B m c2, .int .i64 lo, .int .i64 hi]] w (Ret (.int .i64 0) w)))
  have HB := Lib.hid (fun w (h1 : Dims w A n xs) (h2 : Lnks w B m cs) => rbounds_any A B n m c c2 xs cs lo hi w h1 h2 hrt)
  have HE := Lib.hid (fun (gr : Bool) w (h1 : Dims w A n xs) (h2 : Lnks w B m cs) => rext_any gr A B n m c c2 xs cs lo hi w h1 h2 hrt)
  have hr1 := hrt.range 1
  have hr2 := hrt.range (-1)
  clear hx hk h hrt
  generalize endS 1 xs cs = b1 at *
  generalize endS (-1) xs cs = b2 at *
  go_enter Try.func19, Try.ntmps19
  go_wp2_with fail; refine (HC.out _ (HX.out.ext (by (repeat (first | (with_reducible assumption) | with_reducible exact Ext.refl _ | with_reducible apply Ext.alloc | with_reducible apply Ext.drew | with_reducible apply Ext.drewN | ((with_reducible apply Ext.set); case hp => (first | (simp; done) | (dsimp only; omega) | omega)) | ((with_reducible apply Ext.trans); case k => with_reducible assumption))))) (HK.out.ext (by (repeat (first | (with_reducible assumption) | with_reducible exact Ext.refl _ | with_reducible apply Ext.alloc | with_reducible apply Ext.drew | with_reducible apply Ext.drewN | ((with_reducible apply Ext.set); case hp => (first | (simp; done) | (dsimp only; omega) | omega)) | ((with_reducible apply Ext.trans); case k => with_reducible assumption)))))).mono ?_; rintro e w2 ⟨rfl, h2⟩
  have P : Blk w2 w.heap.size #[.slice A n c, .slice B m c2, .int .i64 lo, .int .i64 hi] 31 := by (repeat (first | (with_reducible assumption) | ((with_reducible apply Blk.new_at); focus (first | (simp; done) | (simp; omega))) | with_reducible apply Blk.alloc | with_reducible apply Blk.drew | with_reducible apply Blk.drewN | with_reducible apply Blk.set | ((with_reducible apply Blk.far); case hp => (first | (simp; done) | (dsimp only; omega))) | ((with_reducible apply Blk.ext); case he => with_reducible assumption)))
  have P0 := P.cell 0
  have P1 := P.cell 1
  have P2 := P.cell 2
  have P3 := P.cell 3
  simp at P0 P1 P2 P3
  have Pl := P.lt
  go_wp2_with fail; refine (HB.out _ (HX.out.ext (by (repeat (first | (with_reducible assumption) | with_reducible exact Ext.refl _ | with_reducible apply Ext.alloc | with_reducible apply Ext.drew | with_reducible apply Ext.drewN | ((with_reducible apply Ext.set); case hp => (first | (simp; done) | (dsimp only; omega) | omega)) | ((with_reducible apply Ext.trans); case k => with_reducible assumption))))) (HK.out.ext (by (repeat (first | (with_reducible assumption) | with_reducible exact Ext.refl _ | with_reducible apply Ext.alloc | with_reducible apply Ext.drew | with_reducible apply Ext.drewN | ((with_reducible apply Ext.set); case hp => (first | (simp; done) | (dsimp only; omega) | omega)) | ((with_reducible apply Ext.trans); case k => with_reducible assumption)))))).mono ?_; rintro e w3 ⟨rfl, h3⟩
  have Ow3 : Blk w3 (w.heap.size + 1) #[.int .i64 0, .int .i64 0] 25 := (by (repeat (first | (with_reducible assumption) | ((with_reducible apply Blk.new_at); focus (first | (simp; done) | (simp; omega))) | with_reducible apply Blk.alloc | with_reducible apply Blk.drew | with_reducible apply Blk.drewN | with_reducible apply Blk.set | ((with_reducible apply Blk.far); case hp => (first | (simp; done) | (dsimp only; omega))) | ((with_reducible apply Blk.ext); case he => with_reducible assumption)))); obtain ⟨Ow31, Ow32, Ow33, Ow34⟩ := Ow3.c2; have Ow35 := Ow3.lt
  go_wp2_with fail
  refine end_ct rfl rfl _ _ _ _ _ rfl rfl (by (repeat (first | (with_reducible assumption) | ((with_reducible apply Blk.new_at); focus (first | (simp; done) | (simp; omega))) | with_reducible apply Blk.alloc | with_reducible apply Blk.drew | with_reducible apply Blk.drewN | with_reducible apply Blk.set | ((with_reducible apply Blk.far); case hp => (first | (simp; done) | (dsimp only; omega))) | ((with_reducible apply Blk.ext); case he => with_reducible assumption)))) Try.underlying25 rfl (by exact szL) ?_
  exact Ret.mk' (by simp) (by (repeat (first | (with_reducible assumption) | with_reducible exact Ext.refl _ | with_reducible apply Ext.alloc | with_reducible apply Ext.drew | with_reducible apply Ext.drewN | ((with_reducible apply Ext.set); case hp => (first | (simp; done) | (dsimp only; omega) | omega)) | ((with_reducible apply Ext.trans); case k => with_reducible assumption))))
set_option maxRecDepth 20000 in
set_option maxHeartbeats 4000000 in
theorem rlimits_bad (A B : Option Addr) (n m c c2 : Nat) (xs : List Dim) (cs : List Lk) (lo hi : Int) (w : World) (hx : Dims w A n xs) (hk : Lnks w B m cs) (hcap : m ≤ c2) (E : Int) (h : taskE xs cs lo hi = E) (hE : (E != 0) = true) : Calls Try.prog 19 #[.agg #[.slice A n c, .slice B m c2, .int .i64 lo, .int .i64 hi]] w (Ret (.tuple #[.agg #[.int .i64 0, .int .i64 0], .int .i64 E]) w) := by
  have HX := Lib.hid hx
  have HK := Lib.hid hk
  have HC := Lib.hid (fun w (h1 : Dims w A n xs) (h2 : Lnks w B m cs) => (by have := rcheck25_any A B n m c c2 xs cs lo hi w h1 h2 hcap; rwa [h] at this : Calls Try.prog 23 #[.agg #[.slice A n c, .slice B m c2, .int .i64 lo, .int .i64 hi]] w (Ret (.int .i64 E) w)))
  clear hx hk h
  go_enter Try.func19, Try.ntmps19
  go_wp2_with fail; refine (HC.out _ (HX.out.ext (by (repeat (first | (with_reducible assumption) | with_reducible exact Ext.refl _ | with_reducible apply Ext.alloc | with_reducible apply Ext.drew | with_reducible apply Ext.drewN | ((with_reducible apply Ext.set); case hp => (first | (simp; done) | (dsimp only; omega) | omega)) | ((with_reducible apply Ext.trans); case k => with_reducible assumption))))) (HK.out.ext (by (repeat (first | (with_reducible assumption) | with_reducible exact Ext.refl _ | with_reducible apply Ext.alloc | with_reducible apply Ext.drew | with_reducible apply Ext.drewN | ((with_reducible apply Ext.set); case hp => (first | (simp; done) | (dsimp only; omega) | omega)) | ((with_reducible apply Ext.trans); case k => with_reducible assumption)))))).mono ?_; rintro e w2 ⟨rfl, h2⟩
  have Ow2 : Blk w2 (w.heap.size + 1) #[.int .i64 0, .int .i64 0] 25 := (by (repeat (first | (with_reducible assumption) | ((with_reducible apply Blk.new_at); focus (first | (simp; done) | (simp; omega))) | with_reducible apply Blk.alloc | with_reducible apply Blk.drew | with_reducible apply Blk.drewN | with_reducible apply Blk.set | ((with_reducible apply Blk.far); case hp => (first | (simp; done) | (dsimp only; omega))) | ((with_reducible apply Blk.ext); case he => with_reducible assumption)))); obtain ⟨Ow21, Ow22, Ow23, Ow24⟩ := Ow2.c2; have Ow25 := Ow2.lt
  go_wp2_with fail
  refine end_ct rfl rfl _ _ _ _ _ rfl rfl (by (repeat (first | (with_reducible assumption) | ((with_reducible apply Blk.new_at); focus (first | (simp; done) | (simp; omega))) | with_reducible apply Blk.alloc | with_reducible apply Blk.drew | with_reducible apply Blk.drewN | with_reducible apply Blk.set | ((with_reducible apply Blk.far); case hp => (first | (simp; done) | (dsimp only; omega))) | ((with_reducible apply Blk.ext); case he => with_reducible assumption)))) Try.underlying25 rfl (by exact szL) ?_
  exact Ret.mk' (by simp) (by (repeat (first | (with_reducible assumption) | with_reducible exact Ext.refl _ | with_reducible apply Ext.alloc | with_reducible apply Ext.drew | with_reducible apply Ext.drewN | ((with_reducible apply Ext.set); case hp => (first | (simp; done) | (dsimp only; omega) | omega)) | ((with_reducible apply Ext.trans); case k => with_reducible assumption))))
set_option maxRecDepth 20000 in
set_option maxHeartbeats 4000000 in
theorem rspare_ok (A B : Option Addr) (n m c c2 : Nat) (xs : List Dim) (cs : List Lk) (lo hi : Int) (w : World) (hx : Dims w A n xs) (hk : Lnks w B m cs) (hcap : m ≤ c2) (h : taskE xs cs lo hi = 0) : Calls Try.prog 30 #[.agg #[.slice A n c, .slice B m c2, .int .i64 lo, .int .i64 hi]] w (Ret (.tuple #[.int .i64 (endS 1 xs cs - lo), .int .i64 (hi - endS (-1) xs cs), .int .i64 0]) w) := by
  have hrt := rt_of hx.len hk.len (taskE_zero h).1
  have hwant := chk_lims0 (taskE_zero h).2
  have HX := Lib.hid hx
  have HK := Lib.hid hk
  have HC := Lib.hid (fun w (h1 : Dims w A n xs) (h2 : Lnks w B m cs) => (by have := rcheck25_any A B n m c c2 xs cs lo hi w h1 h2 hcap; rwa [h] at this : Calls Try.prog 23 #[.agg #[.slice A n c, .slice B m c2, .int .i64 lo, .int .i64 hi]] w (Ret (.int .i64 0) w)))
  have HB := Lib.hid (fun w (h1 : Dims w A n xs) (h2 : Lnks w B m cs) => rbounds_any A B n m c c2 xs cs lo hi w h1 h2 hrt)
  have HE := Lib.hid (fun (gr : Bool) w (h1 : Dims w A n xs) (h2 : Lnks w B m cs) => rext_any gr A B n m c c2 xs cs lo hi w h1 h2 hrt)
  have hr1 := hrt.range 1
  have hr2 := hrt.range (-1)
  clear hx hk h hrt
  generalize endS 1 xs cs = b1 at *
  generalize endS (-1) xs cs = b2 at *
  go_enter Try.func30, Try.ntmps30
  go_wp2_with fail; refine (HC.out _ (HX.out.ext (by (repeat (first | (with_reducible assumption) | with_reducible exact Ext.refl _ | with_reducible apply Ext.alloc | with_reducible apply Ext.drew | with_reducible apply Ext.drewN | ((with_reducible apply Ext.set); case hp => (first | (simp; done) | (dsimp only; omega) | omega)) | ((with_reducible apply Ext.trans); case k => with_reducible assumption))))) (HK.out.ext (by (repeat (first | (with_reducible assumption) | with_reducible exact Ext.refl _ | with_reducible apply Ext.alloc | with_reducible apply Ext.drew | with_reducible apply Ext.drewN | ((with_reducible apply Ext.set); case hp => (first | (simp; done) | (dsimp only; omega) | omega)) | ((with_reducible apply Ext.trans); case k => with_reducible assumption)))))).mono ?_; rintro e w2 ⟨rfl, h2⟩
  have P : Blk w2 w.heap.size #[.slice A n c, .slice B m c2, .int .i64 lo, .int .i64 hi] 31 := by (repeat (first | (with_reducible assumption) | ((with_reducible apply Blk.new_at); focus (first | (simp; done) | (simp; omega))) | with_reducible apply Blk.alloc | with_reducible apply Blk.drew | with_reducible apply Blk.drewN | with_reducible apply Blk.set | ((with_reducible apply Blk.far); case hp => (first | (simp; done) | (dsimp only; omega))) | ((with_reducible apply Blk.ext); case he => with_reducible assumption)))
  have P0 := P.cell 0
  have P1 := P.cell 1
  have P2 := P.cell 2
  have P3 := P.cell 3
  simp at P0 P1 P2 P3
  have Pl := P.lt
  go_wp2_with fail; refine (HB.out _ (HX.out.ext (by (repeat (first | (with_reducible assumption) | with_reducible exact Ext.refl _ | with_reducible apply Ext.alloc | with_reducible apply Ext.drew | with_reducible apply Ext.drewN | ((with_reducible apply Ext.set); case hp => (first | (simp; done) | (dsimp only; omega) | omega)) | ((with_reducible apply Ext.trans); case k => with_reducible assumption))))) (HK.out.ext (by (repeat (first | (with_reducible assumption) | with_reducible exact Ext.refl _ | with_reducible apply Ext.alloc | with_reducible apply Ext.drew | with_reducible apply Ext.drewN | ((with_reducible apply Ext.set); case hp => (first | (simp; done) | (dsimp only; omega) | omega)) | ((with_reducible apply Ext.trans); case k => with_reducible assumption)))))).mono ?_; rintro e w3 ⟨rfl, h3⟩
  have Q : Blk w3 w.heap.size #[.slice A n c, .slice B m c2, .int .i64 lo, .int .i64 hi] 31 := by (repeat (first | (with_reducible assumption) | ((with_reducible apply Blk.new_at); focus (first | (simp; done) | (simp; omega))) | with_reducible apply Blk.alloc | with_reducible apply Blk.drew | with_reducible apply Blk.drewN | with_reducible apply Blk.set | ((with_reducible apply Blk.far); case hp => (first | (simp; done) | (dsimp only; omega))) | ((with_reducible apply Blk.ext); case he => with_reducible assumption)))
  have Q0 := Q.cell 0
  have Q1 := Q.cell 1
  have Q2 := Q.cell 2
  have Q3 := Q.cell 3
  simp at Q0 Q1 Q2 Q3
  have Ql := Q.lt
  go_wp2_with fail
  go_quiet (fail)
  go_wp2_with fail
  refine end_t3 (u0 := 2) (u1 := 3) (u2 := 4) rfl rfl ?_
  exact Ret.mk' rfl (by (repeat (first | (with_reducible assumption) | with_reducible exact Ext.refl _ | with_reducible apply Ext.alloc | with_reducible apply Ext.drew | with_reducible apply Ext.drewN | ((with_reducible apply Ext.set); case hp => (first | (simp; done) | (dsimp only; omega) | omega)) | ((with_reducible apply Ext.trans); case k => with_reducible assumption))))
set_option maxRecDepth 20000 in
set_option maxHeartbeats 4000000 in
theorem rspare_bad (A B : Option Addr) (n m c c2 : Nat) (xs : List Dim) (cs : List Lk) (lo hi : Int) (w : World) (hx : Dims w A n xs) (hk : Lnks w B m cs) (hcap : m ≤ c2) (E : Int) (h : taskE xs cs lo hi = E) (hE : (E != 0) = true) : Calls Try.prog 30 #[.agg #[.slice A n c, .slice B m c2, .int .i64 lo, .int .i64 hi]] w (Ret (.tuple #[.int .i64 0, .int .i64 0, .int .i64 E]) w) := by
  have HX := Lib.hid hx
  have HK := Lib.hid hk
  have HC := Lib.hid (fun w (h1 : Dims w A n xs) (h2 : Lnks w B m cs) => (by have := rcheck25_any A B n m c c2 xs cs lo hi w h1 h2 hcap; rwa [h] at this : Calls Try.prog 23 #[.agg #[.slice A n c, .slice B m c2, .int .i64 lo, .int .i64 hi]] w (Ret (.int .i64 E) w)))
  clear hx hk h
  go_enter Try.func30, Try.ntmps30
  go_wp2_with fail; refine (HC.out _ (HX.out.ext (by (repeat (first | (with_reducible assumption) | with_reducible exact Ext.refl _ | with_reducible apply Ext.alloc | with_reducible apply Ext.drew | with_reducible apply Ext.drewN | ((with_reducible apply Ext.set); case hp => (first | (simp; done) | (dsimp only; omega) | omega)) | ((with_reducible apply Ext.trans); case k => with_reducible assumption))))) (HK.out.ext (by (repeat (first | (with_reducible assumption) | with_reducible exact Ext.refl _ | with_reducible apply Ext.alloc | with_reducible apply Ext.drew | with_reducible apply Ext.drewN | ((with_reducible apply Ext.set); case hp => (first | (simp; done) | (dsimp only; omega) | omega)) | ((with_reducible apply Ext.trans); case k => with_reducible assumption)))))).mono ?_; rintro e w2 ⟨rfl, h2⟩
  go_wp2_with fail
  refine end_t3 (u0 := 2) (u1 := 3) (u2 := 4) rfl rfl ?_
  exact Ret.mk' rfl (by (repeat (first | (with_reducible assumption) | with_reducible exact Ext.refl _ | with_reducible apply Ext.alloc | with_reducible apply Ext.drew | with_reducible apply Ext.drewN | ((with_reducible apply Ext.set); case hp => (first | (simp; done) | (dsimp only; omega) | omega)) | ((with_reducible apply Ext.trans); case k => with_reducible assumption))))
set_option maxRecDepth 20000 in
set_option maxHeartbeats 4000000 in
theorem rattain_ok (A B : Option Addr) (n m c c2 : Nat) (xs : List Dim) (cs : List Lk) (lo hi : Int) (w : World) (hx : Dims w A n xs) (hk : Lnks w B m cs) (hcap : m ≤ c2) (h : taskE xs cs lo hi = 0) (gr : Bool) : Calls Try.prog 21 #[.agg #[.slice A n c, .slice B m c2, .int .i64 lo, .int .i64 hi], .bool gr] w (fun e w' => ∃ g cap cur, e = .returned (.tuple #[.slice (some ⟨g, 0, none⟩) n cap, .int .i64 0]) ∧ IRow w' w.heap.size g n cur (extL gr xs cs) ∧ Ext w w') := by
  have hrt := rt_of hx.len hk.len (taskE_zero h).1
  have hwant := chk_lims0 (taskE_zero h).2
  have HX := Lib.hid hx
  have HK := Lib.hid hk
  have HC := Lib.hid (fun w (h1 : Dims w A n xs) (h2 : Lnks w B m cs) => (by have := rcheck25_any A B n m c c2 xs cs lo hi w h1 h2 hcap; rwa [h] at this : Calls Try.prog 23 #[.agg #[.slice A n c, .slice B m c2, .int .i64 lo, .int .i64 hi]] w (Ret (.int .i64 0) w)))
  have HB := Lib.hid (fun w (h1 : Dims w A n xs) (h2 : Lnks w B m cs) => rbounds_any A B n m c c2 xs cs lo hi w h1 h2 hrt)
  have HE := Lib.hid (fun (gr : Bool) w (h1 : Dims w A n xs) (h2 : Lnks w B m cs) => rext_any gr A B n m c c2 xs cs lo hi w h1 h2 hrt)
  have hr1 := hrt.range 1
  have hr2 := hrt.range (-1)
  clear hx hk h hrt
  go_enter Try.func21, Try.ntmps21
  go_wp2_with fail; refine (HC.out _ (HX.out.ext (by (repeat (first | (with_reducible assumption) | with_reducible exact Ext.refl _ | with_reducible apply Ext.alloc | with_reducible apply Ext.drew | with_reducible apply Ext.drewN | ((with_reducible apply Ext.set); case hp => (first | (simp; done) | (dsimp only; omega) | omega)) | ((with_reducible apply Ext.trans); case k => with_reducible assumption))))) (HK.out.ext (by (repeat (first | (with_reducible assumption) | with_reducible exact Ext.refl _ | with_reducible apply Ext.alloc | with_reducible apply Ext.drew | with_reducible apply Ext.drewN | ((with_reducible apply Ext.set); case hp => (first | (simp; done) | (dsimp only; omega) | omega)) | ((with_reducible apply Ext.trans); case k => with_reducible assumption)))))).mono ?_; rintro e w2 ⟨rfl, h2⟩
  have P : Blk w2 w.heap.size #[.slice A n c, .slice B m c2, .int .i64 lo, .int .i64 hi] 31 := by (repeat (first | (with_reducible assumption) | ((with_reducible apply Blk.new_at); focus (first | (simp; done) | (simp; omega))) | with_reducible apply Blk.alloc | with_reducible apply Blk.drew | with_reducible apply Blk.drewN | with_reducible apply Blk.set | ((with_reducible apply Blk.far); case hp => (first | (simp; done) | (dsimp only; omega))) | ((with_reducible apply Blk.ext); case he => with_reducible assumption)))
  have P0 := P.cell 0
  have P1 := P.cell 1
  have P2 := P.cell 2
  have P3 := P.cell 3
  simp at P0 P1 P2 P3
  have Pl := P.lt
  have hs2 := Ext.size h2
  simp only [World.size_alloc] at hs2
  go_wp2_with fail
  refine (HE.out gr _ (HX.out.ext (by (repeat (first | (with_reducible assumption) | with_reducible exact Ext.refl _ | with_reducible apply Ext.alloc | with_reducible apply Ext.drew | with_reducible apply Ext.drewN | ((with_reducible apply Ext.set); case hp => (first | (simp; done) | (dsimp only; omega) | omega)) | ((with_reducible apply Ext.trans); case k => with_reducible assumption))))) (HK.out.ext (by (repeat (first | (with_reducible assumption) | with_reducible exact Ext.refl _ | with_reducible apply Ext.alloc | with_reducible apply Ext.drew | with_reducible apply Ext.drewN | ((with_reducible apply Ext.set); case hp => (first | (simp; done) | (dsimp only; omega) | omega)) | ((with_reducible apply Ext.trans); case k => with_reducible assumption)))))).mono ?_
  rintro e w3 ⟨g, cap, cur, rfl, hI, h3⟩
  go_wp2_with fail
  go_ret2
  exact ⟨g, cap, cur, rfl, ⟨by have := hI.1; omega, hI.2⟩, by (repeat (first | (with_reducible assumption) | with_reducible exact Ext.refl _ | with_reducible apply Ext.alloc | with_reducible apply Ext.drew | with_reducible apply Ext.drewN | ((with_reducible apply Ext.set); case hp => (first | (simp; done) | (dsimp only; omega) | omega)) | ((with_reducible apply Ext.trans); case k => with_reducible assumption)))⟩
set_option maxRecDepth 20000 in
set_option maxHeartbeats 4000000 in
theorem rattain_bad (gr : Bool) (A B : Option Addr) (n m c c2 : Nat) (xs : List Dim) (cs : List Lk) (lo hi : Int) (w : World) (hx : Dims w A n xs) (hk : Lnks w B m cs) (hcap : m ≤ c2) (E : Int) (h : taskE xs cs lo hi = E) (hE : (E != 0) = true) : Calls Try.prog 21 #[.agg #[.slice A n c, .slice B m c2, .int .i64 lo, .int .i64 hi], .bool gr] w (Ret (.tuple #[.slice none 0 0, .int .i64 E]) w) := by
  have HX := Lib.hid hx
  have HK := Lib.hid hk
  have HC := Lib.hid (fun w (h1 : Dims w A n xs) (h2 : Lnks w B m cs) => (by have := rcheck25_any A B n m c c2 xs cs lo hi w h1 h2 hcap; rwa [h] at this : Calls Try.prog 23 #[.agg #[.slice A n c, .slice B m c2, .int .i64 lo, .int .i64 hi]] w (Ret (.int .i64 E) w)))
  clear hx hk h
  go_enter Try.func21, Try.ntmps21
  go_wp2_with fail; refine (HC.out _ (HX.out.ext (by (repeat (first | (with_reducible assumption) | with_reducible exact Ext.refl _ | with_reducible apply Ext.alloc | with_reducible apply Ext.drew | with_reducible apply Ext.drewN | ((with_reducible apply Ext.set); case hp => (first | (simp; done) | (dsimp only; omega) | omega)) | ((with_reducible apply Ext.trans); case k => with_reducible assumption))))) (HK.out.ext (by (repeat (first | (with_reducible assumption) | with_reducible exact Ext.refl _ | with_reducible apply Ext.alloc | with_reducible apply Ext.drew | with_reducible apply Ext.drewN | ((with_reducible apply Ext.set); case hp => (first | (simp; done) | (dsimp only; omega) | omega)) | ((with_reducible apply Ext.trans); case k => with_reducible assumption)))))).mono ?_; rintro e w2 ⟨rfl, h2⟩
  go_wp2_with fail
  go_ret2
  exact Ret.mk' rfl (by (repeat (first | (with_reducible assumption) | with_reducible exact Ext.refl _ | with_reducible apply Ext.alloc | with_reducible apply Ext.drew | with_reducible apply Ext.drewN | ((with_reducible apply Ext.set); case hp => (first | (simp; done) | (dsimp only; omega) | omega)) | ((with_reducible apply Ext.trans); case k => with_reducible assumption))))
end Go.Proofs.Ytdcedfciaaooiab
