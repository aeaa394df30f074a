/- The reference's tasks: Check, Bounds, Limits, Attain, Spare, Keeps: the walks. -/
import Derived.Test.YtdcedfciaaooiaaD25
import Derived.Test.YtdcedfciaaooiaaI25
set_option linter.unusedVariables false
namespace Go.Proofs.Ytdcedfciaaooiaa
open Go.RowKit

set_option maxRecDepth 20000 in
set_option maxHeartbeats 4000000 in
theorem rcheck25_any (A B : Option Addr) (n m c c2 : Nat) (xs : List Dim) (cs : List Lk) (lo hi : Int) (w : World) (hx : Dims w A n xs) (hk : Lnks w B m cs) (hcap : m ≤ c2) : Calls Try.prog 95 #[.agg #[.slice A n c, .slice B m c2, .int .i64 lo, .int .i64 hi]] w (Ret (.int .i64 (taskE xs cs lo hi)) w) := by
  have HX := Lib.hid hx
  have HK := Lib.hid hk
  clear hx hk
  cases h : checkE xs cs != 0
  · have e := Lib.hid (taskE_ok (lo := lo) (hi := hi) (show checkE xs cs = 0 by simpa using h))
    go_enter Try.func95, Try.ntmps95
    go_wp2_with fail; refine (rlcheck_any A B n m c c2 xs cs _ (HX.out.ext (by (repeat (first | (with_reducible assumption) | with_reducible exact Ext.refl _ | with_reducible apply Ext.alloc | with_reducible apply Ext.drew | with_reducible apply Ext.drewN | ((with_reducible apply Ext.set); case hp => (first | (simp; done) | (dsimp only; omega) | omega)) | ((with_reducible apply Ext.trans); case k => with_reducible assumption))))) (HK.out.ext (by (repeat (first | (with_reducible assumption) | with_reducible exact Ext.refl _ | with_reducible apply Ext.alloc | with_reducible apply Ext.drew | with_reducible apply Ext.drewN | ((with_reducible apply Ext.set); case hp => (first | (simp; done) | (dsimp only; omega) | omega)) | ((with_reducible apply Ext.trans); case k => with_reducible assumption))))) hcap).mono ?_; rintro e w2 ⟨rfl, h2⟩
    have hT : Blk w2 w.heap.size #[.slice A n c, .slice B m c2, .int .i64 lo, .int .i64 hi] 89 := by (repeat (first | (with_reducible assumption) | ((with_reducible apply Blk.new_at); focus (first | (simp; done) | (simp; omega))) | with_reducible apply Blk.alloc | with_reducible apply Blk.drew | with_reducible apply Blk.drewN | with_reducible apply Blk.set | ((with_reducible apply Blk.far); case hp => (first | (simp; done) | (dsimp only; omega))) | ((with_reducible apply Blk.ext); case he => with_reducible assumption)))
    have t2 := hT.cell 2
    have t3 := hT.cell 3
    simp at t2 t3
    go_wp2_with fail
    refine (rcheck_any lo hi _).mono ?_
    rintro e w3 ⟨rfl, h3⟩
    go_wp2_with fail
    go_ret
    exact Ret.int e.out.symm (by (repeat (first | (with_reducible assumption) | with_reducible exact Ext.refl _ | with_reducible apply Ext.alloc | with_reducible apply Ext.drew | with_reducible apply Ext.drewN | ((with_reducible apply Ext.set); case hp => (first | (simp; done) | (dsimp only; omega) | omega)) | ((with_reducible apply Ext.trans); case k => with_reducible assumption))))
  · have e := Lib.hid (taskE_bad (lo := lo) (hi := hi) (show checkE xs cs ≠ 0 by simpa using h))
    go_enter Try.func95, Try.ntmps95
    go_wp2_with fail; refine (rlcheck_any A B n m c c2 xs cs _ (HX.out.ext (by (repeat (first | (with_reducible assumption) | with_reducible exact Ext.refl _ | with_reducible apply Ext.alloc | with_reducible apply Ext.drew | with_reducible apply Ext.drewN | ((with_reducible apply Ext.set); case hp => (first | (simp; done) | (dsimp only; omega) | omega)) | ((with_reducible apply Ext.trans); case k => with_reducible assumption))))) (HK.out.ext (by (repeat (first | (with_reducible assumption) | with_reducible exact Ext.refl _ | with_reducible apply Ext.alloc | with_reducible apply Ext.drew | with_reducible apply Ext.drewN | ((with_reducible apply Ext.set); case hp => (first | (simp; done) | (dsimp only; omega) | omega)) | ((with_reducible apply Ext.trans); case k => with_reducible assumption))))) hcap).mono ?_; rintro e w2 ⟨rfl, h2⟩
    go_wp2_with fail
    go_ret
    exact Ret.int e.out.symm (by (repeat (first | (with_reducible assumption) | with_reducible exact Ext.refl _ | with_reducible apply Ext.alloc | with_reducible apply Ext.drew | with_reducible apply Ext.drewN | ((with_reducible apply Ext.set); case hp => (first | (simp; done) | (dsimp only; omega) | omega)) | ((with_reducible apply Ext.trans); case k => with_reducible assumption))))
theorem extL_range {n m : Nat} {xs : List Dim} {cs : List Lk} (h : RT n m xs cs) (gr : Bool) (i : Nat) : -1000000000 ≤ (extL gr xs cs).getD i 0 ∧ (extL gr xs cs).getD i 0 ≤ 1000000000 := by
  by_cases hi : i < n
  · have he : (extL gr xs cs).getD i 0 = extV gr xs cs i := by
      unfold extL
      rw [List.getD_eq_getElem?_getD, List.getElem?_map, List.getElem?_range (by rw [h.xl]; exact hi)]
      rfl
    rw [he]
    have hl := h.lims i hi
    unfold extV
    split <;> omega
  · rw [List.getD_eq_getElem?_getD, List.getElem?_eq_none (by rw [extL_len, h.xl]; omega)]
    simp
set_option maxRecDepth 20000 in
set_option maxHeartbeats 4000000 in
theorem rbounds_any (A B : Option Addr) (n m c c2 : Nat) (xs : List Dim) (cs : List Lk) (lo hi : Int) (w : World) (hx : Dims w A n xs) (hk : Lnks w B m cs) (hrt : RT n m xs cs) : Calls Try.prog 96 #[.agg #[.slice A n c, .slice B m c2, .int .i64 lo, .int .i64 hi]] w (Ret (.agg #[.int .i64 (endS 1 xs cs), .int .i64 (endS (-1) xs cs)]) w) := by
  have HX := Lib.hid hx
  have HK := Lib.hid hk
  have hn := hrt.n256
  have hm := hrt.m256
  have HE := Lib.hid (fun (gr : Bool) w (h1 : Dims w A n xs) (h2 : Lnks w B m cs) => rext_any gr A B n m c c2 xs cs lo hi w h1 h2 hrt)
  have hdr : ∀ j, j < m → 0 ≤ (cs.getD j zeroK).dim ∧ (cs.getD j zeroK).dim < (n : Int) := fun j hj => by have := hrt.fine j hj; have h1 := this.1; have h2 := this.2.1; rw [hrt.xl] at h2; exact ⟨h1, h2⟩
  have HT := Lib.hid (fun (gr : Bool) w V cv (h1 : Lnks w B m cs) (h2 : Ints w V n (extL gr xs cs)) => (by have := rtotal_any B V m c2 n cv cs (extL gr xs cs) w h1 h2 (by omega) hdr (extL_range hrt gr); rwa [total_end hrt gr] at this : Calls Try.prog 117 #[.slice B m c2, .slice V n cv] w (Ret (.int .i64 (endS (signT gr) xs cs)) w)))
  clear hx hk hdr hrt
  go_enter Try.func96, Try.ntmps96
  go_wp2_with fail
  go_region_held3 (fun W => (W.cell? ⟨w.heap.size, 0, none⟩ = some (.slice A n c) ∧ W.cell? ⟨w.heap.size, 1, none⟩ = some (.slice B m c2)) ∧ (W.cell? ⟨w.heap.size, 2, none⟩ = some (.int .i64 lo) ∧ W.cell? ⟨w.heap.size, 3, none⟩ = some (.int .i64 hi)))
    (exact ⟨⟨(show Blk _ w.heap.size #[.slice A n c, .slice B m c2, .int .i64 lo, .int .i64 hi] 89 from by (repeat (first | (with_reducible assumption) | ((with_reducible apply Blk.new_at); focus (first | (simp; done) | (simp; omega))) | with_reducible apply Blk.alloc | with_reducible apply Blk.drew | with_reducible apply Blk.drewN | with_reducible apply Blk.set | ((with_reducible apply Blk.far); case hp => (first | (simp; done) | (dsimp only; omega))) | ((with_reducible apply Blk.ext); case he => with_reducible assumption)))).cell 0, (show Blk _ w.heap.size #[.slice A n c, .slice B m c2, .int .i64 lo, .int .i64 hi] 89 from by (repeat (first | (with_reducible assumption) | ((with_reducible apply Blk.new_at); focus (first | (simp; done) | (simp; omega))) | with_reducible apply Blk.alloc | with_reducible apply Blk.drew | with_reducible apply Blk.drewN | with_reducible apply Blk.set | ((with_reducible apply Blk.far); case hp => (first | (simp; done) | (dsimp only; omega))) | ((with_reducible apply Blk.ext); case he => with_reducible assumption)))).cell 1⟩, (show Blk _ w.heap.size #[.slice A n c, .slice B m c2, .int .i64 lo, .int .i64 hi] 89 from by (repeat (first | (with_reducible assumption) | ((with_reducible apply Blk.new_at); focus (first | (simp; done) | (simp; omega))) | with_reducible apply Blk.alloc | with_reducible apply Blk.drew | with_reducible apply Blk.drewN | with_reducible apply Blk.set | ((with_reducible apply Blk.far); case hp => (first | (simp; done) | (dsimp only; omega))) | ((with_reducible apply Blk.ext); case he => with_reducible assumption)))).cell 2, (show Blk _ w.heap.size #[.slice A n c, .slice B m c2, .int .i64 lo, .int .i64 hi] 89 from by (repeat (first | (with_reducible assumption) | ((with_reducible apply Blk.new_at); focus (first | (simp; done) | (simp; omega))) | with_reducible apply Blk.alloc | with_reducible apply Blk.drew | with_reducible apply Blk.drewN | with_reducible apply Blk.set | ((with_reducible apply Blk.far); case hp => (first | (simp; done) | (dsimp only; omega))) | ((with_reducible apply Blk.ext); case he => with_reducible assumption)))).cell 3⟩) (first
      | (go_at_call 97; refine (HE.out _ _ (HX.out.ext (by (repeat (first | (with_reducible assumption) | with_reducible exact Ext.refl _ | with_reducible apply Ext.alloc | with_reducible apply Ext.drew | with_reducible apply Ext.drewN | ((with_reducible apply Ext.set); case hp => (first | (simp; done) | (dsimp only; omega) | omega)) | ((with_reducible apply Ext.trans); case k => with_reducible assumption))))) (HK.out.ext (by (repeat (first | (with_reducible assumption) | with_reducible exact Ext.refl _ | with_reducible apply Ext.alloc | with_reducible apply Ext.drew | with_reducible apply Ext.drewN | ((with_reducible apply Ext.set); case hp => (first | (simp; done) | (dsimp only; omega) | omega)) | ((with_reducible apply Ext.trans); case k => with_reducible assumption)))))).mono ?_; rintro e w3 ⟨g0, cap0, cur0, rfl, hI, h3⟩)
      | (go_at_call 117; refine (HT.out _ _ _ _ (HK.out.ext (by (repeat (first | (with_reducible assumption) | with_reducible exact Ext.refl _ | with_reducible apply Ext.alloc | with_reducible apply Ext.drew | with_reducible apply Ext.drewN | ((with_reducible apply Ext.set); case hp => (first | (simp; done) | (dsimp only; omega) | omega)) | ((with_reducible apply Ext.trans); case k => with_reducible assumption))))) (hI.ints (by omega))).mono ?_; rintro e w4 ⟨rfl, h4⟩; refine (have hO6 : Blk w4 (w.heap.size + 1) #[.int .i64 0, .int .i64 0] 23 := ?_; ?_); (focus ((repeat (first | (with_reducible assumption) | ((with_reducible apply Blk.new_at); focus (first | (simp; done) | (simp; omega))) | with_reducible apply Blk.alloc | with_reducible apply Blk.drew | with_reducible apply Blk.drewN | with_reducible apply Blk.set | ((with_reducible apply Blk.far); case hp => (first | (simp; done) | (dsimp only; omega))) | ((with_reducible apply Blk.ext); case he => with_reducible assumption))); done)); obtain ⟨o1, o2, o3, o4⟩ := hO6.c2; have o5 := hO6.lt))
  all_goals
    go_wp2_with fail
    refine end_c rfl rfl _ _ _ _ rfl (by (apply Blk.is; (case h => (repeat (first | (with_reducible assumption) | ((with_reducible apply Blk.new_at); focus (first | (simp; done) | (simp; omega))) | with_reducible apply Blk.alloc | with_reducible apply Blk.drew | with_reducible apply Blk.drewN | with_reducible apply Blk.set | ((with_reducible apply Blk.far); case hp => (first | (simp; done) | (dsimp only; omega))) | ((with_reducible apply Blk.ext); case he => with_reducible assumption)))); all_goals rfl)) Try.underlying23 rfl (by exact szL) ?_
    exact Ret.mk' rfl (by (repeat (first | (with_reducible assumption) | with_reducible exact Ext.refl _ | with_reducible apply Ext.alloc | with_reducible apply Ext.drew | with_reducible apply Ext.drewN | ((with_reducible apply Ext.set); case hp => (first | (simp; done) | (dsimp only; omega) | omega)) | ((with_reducible apply Ext.trans); case k => with_reducible assumption))))
end Go.Proofs.Ytdcedfciaaooiaa
