/- The reference's Room: the walk. -/
import Derived.Test.YtdcedfciaaooiaaWT25
import Derived.Test.YtdcedfciaaooiaaR25
set_option linter.unusedVariables false
namespace Go.Proofs.Ytdcedfciaaooiaa
open Go.RowKit

set_option maxRecDepth 20000 in
set_option maxHeartbeats 4000000 in
theorem rroom_bad (link : Int) (A B : Option Addr) (n m c c2 : Nat) (xs : List Dim) (cs : List Lk) (lo hi : Int) (w : World) (hx : Dims w A n xs) (hk : Lnks w B m cs) (hcap : m ≤ c2) (E : Int) (h : taskE xs cs lo hi = E) (hE : (E != 0) = true) : Calls Try.prog 56 #[.agg #[.slice A n c, .slice B m c2, .int .i64 lo, .int .i64 hi], .int .i64 link] w (Ret (.tuple #[.agg #[.int .i64 0, .int .i64 0], .int .i64 E]) w) := by
  have HX := Lib.hid hx
  have HK := Lib.hid hk
  have HC := Lib.hid (fun w (h1 : Dims w A n xs) (h2 : Lnks w B m cs) => (by have := rcheck25_any A B n m c c2 xs cs lo hi w h1 h2 hcap; rwa [h] at this : Calls Try.prog 95 #[.agg #[.slice A n c, .slice B m c2, .int .i64 lo, .int .i64 hi]] w (Ret (.int .i64 E) w)))
  clear hx hk h
  go_enter Try.func56, Try.ntmps56
  go_wp2_with fail; refine (HC.out _ (HX.out.ext (by (repeat (first | (with_reducible assumption) | with_reducible exact Ext.refl _ | with_reducible apply Ext.alloc | with_reducible apply Ext.drew | with_reducible apply Ext.drewN | ((with_reducible apply Ext.set); case hp => (first | (simp; done) | (dsimp only; omega) | omega)) | ((with_reducible apply Ext.trans); case k => with_reducible assumption))))) (HK.out.ext (by (repeat (first | (with_reducible assumption) | with_reducible exact Ext.refl _ | with_reducible apply Ext.alloc | with_reducible apply Ext.drew | with_reducible apply Ext.drewN | ((with_reducible apply Ext.set); case hp => (first | (simp; done) | (dsimp only; omega) | omega)) | ((with_reducible apply Ext.trans); case k => with_reducible assumption)))))).mono ?_; rintro e w2 ⟨rfl, h2⟩
  have O : Blk w2 (w.heap.size + 1) #[.int .i64 0, .int .i64 0] 23 := (by (repeat (first | (with_reducible assumption) | ((with_reducible apply Blk.new_at); focus (first | (simp; done) | (simp; omega))) | with_reducible apply Blk.alloc | with_reducible apply Blk.drew | with_reducible apply Blk.drewN | with_reducible apply Blk.set | ((with_reducible apply Blk.far); case hp => (first | (simp; done) | (dsimp only; omega))) | ((with_reducible apply Blk.ext); case he => with_reducible assumption)))); obtain ⟨O1, O2, O3, O4⟩ := O.c2; have O5 := O.lt
  go_wp2_with fail
  refine end_ct rfl rfl _ _ _ _ _ rfl rfl (by (repeat (first | (with_reducible assumption) | ((with_reducible apply Blk.new_at); focus (first | (simp; done) | (simp; omega))) | with_reducible apply Blk.alloc | with_reducible apply Blk.drew | with_reducible apply Blk.drewN | with_reducible apply Blk.set | ((with_reducible apply Blk.far); case hp => (first | (simp; done) | (dsimp only; omega))) | ((with_reducible apply Blk.ext); case he => with_reducible assumption)))) Try.underlying23 rfl (by exact szL) ?_
  exact Ret.mk' rfl (by (repeat (first | (with_reducible assumption) | with_reducible exact Ext.refl _ | with_reducible apply Ext.alloc | with_reducible apply Ext.drew | with_reducible apply Ext.drewN | ((with_reducible apply Ext.set); case hp => (first | (simp; done) | (dsimp only; omega) | omega)) | ((with_reducible apply Ext.trans); case k => with_reducible assumption))))
set_option maxRecDepth 20000 in
set_option maxHeartbeats 4000000 in
theorem rroom_out (link : Int) (A B : Option Addr) (n m c c2 : Nat) (xs : List Dim) (cs : List Lk) (lo hi : Int) (w : World) (hx : Dims w A n xs) (hk : Lnks w B m cs) (hcap : m ≤ c2) (h : taskE xs cs lo hi = 0) (hl : link < 0 ∨ (m : Int) ≤ link) : Calls Try.prog 56 #[.agg #[.slice A n c, .slice B m c2, .int .i64 lo, .int .i64 hi], .int .i64 link] w (Ret (.tuple #[.agg #[.int .i64 0, .int .i64 0], .int .i64 2]) w) := by
  have HX := Lib.hid hx
  have HK := Lib.hid hk
  have HC := Lib.hid (fun w (h1 : Dims w A n xs) (h2 : Lnks w B m cs) => (by have := rcheck25_any A B n m c c2 xs cs lo hi w h1 h2 hcap; rwa [h] at this : Calls Try.prog 95 #[.agg #[.slice A n c, .slice B m c2, .int .i64 lo, .int .i64 hi]] w (Ret (.int .i64 0) w)))
  clear hx hk h
  have hcase : link < 0 ∨ (0 ≤ link ∧ (m : Int) ≤ link) := by omega
  rcases hcase with hc | hc
  all_goals
    go_enter Try.func56, Try.ntmps56
    go_wp2_with fail; refine (HC.out _ (HX.out.ext (by (repeat (first | (with_reducible assumption) | with_reducible exact Ext.refl _ | with_reducible apply Ext.alloc | with_reducible apply Ext.drew | with_reducible apply Ext.drewN | ((with_reducible apply Ext.set); case hp => (first | (simp; done) | (dsimp only; omega) | omega)) | ((with_reducible apply Ext.trans); case k => with_reducible assumption))))) (HK.out.ext (by (repeat (first | (with_reducible assumption) | with_reducible exact Ext.refl _ | with_reducible apply Ext.alloc | with_reducible apply Ext.drew | with_reducible apply Ext.drewN | ((with_reducible apply Ext.set); case hp => (first | (simp; done) | (dsimp only; omega) | omega)) | ((with_reducible apply Ext.trans); case k => with_reducible assumption)))))).mono ?_; rintro e w2 ⟨rfl, h2⟩
    have P : Blk w2 w.heap.size #[.slice A n c, .slice B m c2, .int .i64 lo, .int .i64 hi] 89 := by (repeat (first | (with_reducible assumption) | ((with_reducible apply Blk.new_at); focus (first | (simp; done) | (simp; omega))) | with_reducible apply Blk.alloc | with_reducible apply Blk.drew | with_reducible apply Blk.drewN | with_reducible apply Blk.set | ((with_reducible apply Blk.far); case hp => (first | (simp; done) | (dsimp only; omega))) | ((with_reducible apply Blk.ext); case he => with_reducible assumption)))
    have P0 := P.cell 0
    have P1 := P.cell 1
    have P2 := P.cell 2
    have P3 := P.cell 3
    simp at P0 P1 P2 P3
    have Pl := P.lt
    have O : Blk w2 (w.heap.size + 1) #[.int .i64 0, .int .i64 0] 23 := (by (repeat (first | (with_reducible assumption) | ((with_reducible apply Blk.new_at); focus (first | (simp; done) | (simp; omega))) | with_reducible apply Blk.alloc | with_reducible apply Blk.drew | with_reducible apply Blk.drewN | with_reducible apply Blk.set | ((with_reducible apply Blk.far); case hp => (first | (simp; done) | (dsimp only; omega))) | ((with_reducible apply Blk.ext); case he => with_reducible assumption)))); obtain ⟨O1, O2, O3, O4⟩ := O.c2; have O5 := O.lt
    go_wp2_with fail
    refine end_ct rfl rfl _ _ _ _ _ rfl rfl (by (repeat (first | (with_reducible assumption) | ((with_reducible apply Blk.new_at); focus (first | (simp; done) | (simp; omega))) | with_reducible apply Blk.alloc | with_reducible apply Blk.drew | with_reducible apply Blk.drewN | with_reducible apply Blk.set | ((with_reducible apply Blk.far); case hp => (first | (simp; done) | (dsimp only; omega))) | ((with_reducible apply Blk.ext); case he => with_reducible assumption)))) Try.underlying23 rfl (by exact szL) ?_
    exact Ret.mk' rfl (by (repeat (first | (with_reducible assumption) | with_reducible exact Ext.refl _ | with_reducible apply Ext.alloc | with_reducible apply Ext.drew | with_reducible apply Ext.drewN | ((with_reducible apply Ext.set); case hp => (first | (simp; done) | (dsimp only; omega) | omega)) | ((with_reducible apply Ext.trans); case k => with_reducible assumption))))
set_option maxRecDepth 20000 in
set_option maxHeartbeats 4000000 in
theorem rroom_false (k : Nat) (A B : Option Addr) (n m c c2 : Nat) (xs : List Dim) (cs : List Lk) (lo hi : Int) (w : World) (hx : Dims w A n xs) (hk : Lnks w B m cs) (hcap : m ≤ c2) (h : taskE xs cs lo hi = 0) (hkm : k < m) (hb : (cs.getD k zeroK).back = false) : Calls Try.prog 56 #[.agg #[.slice A n c, .slice B m c2, .int .i64 lo, .int .i64 hi], .int .i64 (k : Int)] w (Ret (.tuple #[.agg #[.int .i64 (roomP (roomL (endS 1 xs cs) (endS (-1) xs cs) lo hi (dimK xs (cs.getD k zeroK)).lo (dimK xs (cs.getD k zeroK)).hi false) (roomH (endS 1 xs cs) (endS (-1) xs cs) lo hi (dimK xs (cs.getD k zeroK)).lo (dimK xs (cs.getD k zeroK)).hi false)).lo, .int .i64 (roomP (roomL (endS 1 xs cs) (endS (-1) xs cs) lo hi (dimK xs (cs.getD k zeroK)).lo (dimK xs (cs.getD k zeroK)).hi false) (roomH (endS 1 xs cs) (endS (-1) xs cs) lo hi (dimK xs (cs.getD k zeroK)).lo (dimK xs (cs.getD k zeroK)).hi false)).hi], .int .i64 (roomP (roomL (endS 1 xs cs) (endS (-1) xs cs) lo hi (dimK xs (cs.getD k zeroK)).lo (dimK xs (cs.getD k zeroK)).hi false) (roomH (endS 1 xs cs) (endS (-1) xs cs) lo hi (dimK xs (cs.getD k zeroK)).lo (dimK xs (cs.getD k zeroK)).hi false)).err]) w) := by
  have hrt := rt_of hx.len hk.len (taskE_zero h).1
  have hwant := chk_lims0 (taskE_zero h).2
  obtain ⟨bB, oB, rfl, hcB⟩ := hk.at_ hrt.m0
  have HX := Lib.hid hx
  have HK := Lib.hid hk
  have HCB := Lib.hid hcB
  have HC := Lib.hid (fun w (h1 : Dims w A n xs) (h2 : Lnks w (some ⟨bB, oB, none⟩) m cs) => (by have := rcheck25_any A (some ⟨bB, oB, none⟩) n m c c2 xs cs lo hi w h1 h2 hcap; rwa [h] at this : Calls Try.prog 95 #[.agg #[.slice A n c, .slice (some ⟨bB, oB, none⟩) m c2, .int .i64 lo, .int .i64 hi]] w (Ret (.int .i64 0) w)))
  have hmem := hrt.mem k hkm
  have hfk := hrt.fine k hkm
  have hm256 := hrt.m256
  have hn256 := hrt.n256
  have HW := Lib.hid (fun w (h1 : Dims w A n xs) (h2 : Lnks w (some ⟨bB, oB, none⟩) m cs) => rwith_any A (some ⟨bB, oB, none⟩) n m c c2 xs cs lo hi ⟨0, 0⟩ k w h1 h2 hkm hrt.n256 hrt.m256 (by have h1 := hfk.1; omega))
  have hrt2 := rt_with hrt (cs.getD k zeroK).dim.toNat ⟨0, 0⟩ (by decide)
  have HBW := Lib.hid (fun A2 c3 w (h1 : Dims w A2 n (withL xs (cs.getD k zeroK).dim.toNat ⟨0, 0⟩)) (h2 : Lnks w (some ⟨bB, oB, none⟩) m cs) => rbounds_any A2 (some ⟨bB, oB, none⟩) n m c3 c2 _ cs lo hi w h1 h2 hrt2)
  have HFT : Hid (∀ j, j < n → ((withL xs (cs.getD k zeroK).dim.toNat ⟨0, 0⟩).getD j zeroD).fits) := Lib.hid (fun j hj => by
    by_cases e : (cs.getD k zeroK).dim.toNat = j
    · subst e
      rw [withL_at (by rw [HX.out.len]; exact hj)]
      exact HX.out.fit _ hj
    · rw [withL_ne e]; exact HX.out.fit _ hj)
  have hrr := room_false hrt lo hi k hkm hb
  have hr1 := hrt2.range 1
  have hr2 := hrt2.range (-1)
  obtain ⟨⟨yd, yb⟩, hy⟩ : ∃ y, (cs.getD k zeroK) = y := ⟨_, rfl⟩
  have hyb : yb = false := by rw [hy] at hb; exact hb
  subst hyb
  obtain ⟨L, hL⟩ : ∃ L, roomL (endS 1 xs cs) (endS (-1) xs cs) lo hi (dimK xs (cs.getD k zeroK)).lo (dimK xs (cs.getD k zeroK)).hi false = L := ⟨_, rfl⟩
  obtain ⟨M, hM⟩ : ∃ M, roomH (endS 1 xs cs) (endS (-1) xs cs) lo hi (dimK xs (cs.getD k zeroK)).lo (dimK xs (cs.getD k zeroK)).hi false = M := ⟨_, rfl⟩
  have hfin := roomP_of hL hM
  have HFIN := Lib.hid hfin
  rw [hL, hM] at hrr
  rw [hL, hM] at HFIN ⊢
  obtain ⟨zs, hzs⟩ : ∃ zs, withL xs (cs.getD k zeroK).dim.toNat ⟨0, 0⟩ = zs := ⟨_, rfl⟩
  rw [hzs] at HW HBW HFT hrr hr1 hr2
  obtain ⟨e1, he1⟩ : ∃ v, endS 1 zs cs = v := ⟨_, rfl⟩
  obtain ⟨e2, he2⟩ : ∃ v, endS (-1) zs cs = v := ⟨_, rfl⟩
  rw [he1, he2] at HBW
  rw [he1] at hrr hr1
  rw [he2] at hrr hr2
  have HY := Lib.hid hy
  obtain ⟨hrrL, hrrM⟩ := hrr
  have hW1 : IntKind.i64.wrap (lo - e1) = lo - e1 := i64_in' (by omega)
  have hW2 : IntKind.i64.wrap (hi - e2) = hi - e2 := i64_in' (by omega)
  clear hx hk h hrt hrt2 hfin hL hM hzs he1 he2 hy hb hmem hfk hcB
  go_enter Try.func56, Try.ntmps56
  go_wp2_with fail; refine (HC.out _ (HX.out.ext (by (repeat (first | (with_reducible assumption) | with_reducible exact Ext.refl _ | with_reducible apply Ext.alloc | with_reducible apply Ext.drew | with_reducible apply Ext.drewN | ((with_reducible apply Ext.set); case hp => (first | (simp; done) | (dsimp only; omega) | omega)) | ((with_reducible apply Ext.trans); case k => with_reducible assumption))))) (HK.out.ext (by (repeat (first | (with_reducible assumption) | with_reducible exact Ext.refl _ | with_reducible apply Ext.alloc | with_reducible apply Ext.drew | with_reducible apply Ext.drewN | ((with_reducible apply Ext.set); case hp => (first | (simp; done) | (dsimp only; omega) | omega)) | ((with_reducible apply Ext.trans); case k => with_reducible assumption)))))).mono ?_; rintro e w2 ⟨rfl, h2⟩
  have P : Blk w2 w.heap.size #[.slice A n c, .slice (some ⟨bB, oB, none⟩) m c2, .int .i64 lo, .int .i64 hi] 89 := by (repeat (first | (with_reducible assumption) | ((with_reducible apply Blk.new_at); focus (first | (simp; done) | (simp; omega))) | with_reducible apply Blk.alloc | with_reducible apply Blk.drew | with_reducible apply Blk.drewN | with_reducible apply Blk.set | ((with_reducible apply Blk.far); case hp => (first | (simp; done) | (dsimp only; omega))) | ((with_reducible apply Blk.ext); case he => with_reducible assumption)))
  have P0 := P.cell 0
  have P1 := P.cell 1
  have P2 := P.cell 2
  have P3 := P.cell 3
  simp at P0 P1 P2 P3
  have Pl := P.lt
  have hs2 := Ext.size h2
  simp only [World.size_alloc] at hs2
  go_wp2_with fail
  refine (HW.out _ (HX.out.ext (by (repeat (first | (with_reducible assumption) | with_reducible exact Ext.refl _ | with_reducible apply Ext.alloc | with_reducible apply Ext.drew | with_reducible apply Ext.drewN | ((with_reducible apply Ext.set); case hp => (first | (simp; done) | (dsimp only; omega) | omega)) | ((with_reducible apply Ext.trans); case k => with_reducible assumption))))) (HK.out.ext (by (repeat (first | (with_reducible assumption) | with_reducible exact Ext.refl _ | with_reducible apply Ext.alloc | with_reducible apply Ext.drew | with_reducible apply Ext.drewN | ((with_reducible apply Ext.set); case hp => (first | (simp; done) | (dsimp only; omega) | omega)) | ((with_reducible apply Ext.trans); case k => with_reducible assumption)))))).mono ?_
  rintro e w3 ⟨g, cap, cur, rfl, R3, h3⟩
  have hD3 := Lib.hid (R3.dims (by omega) HFT.out)
  clear R3
  go_wp2_with fail
  refine (HBW.out _ _ _ (hD3.out.ext (by (repeat (first | (with_reducible assumption) | with_reducible exact Ext.refl _ | with_reducible apply Ext.alloc | with_reducible apply Ext.drew | with_reducible apply Ext.drewN | ((with_reducible apply Ext.set); case hp => (first | (simp; done) | (dsimp only; omega) | omega)) | ((with_reducible apply Ext.trans); case k => with_reducible assumption))))) (HK.out.ext (by (repeat (first | (with_reducible assumption) | with_reducible exact Ext.refl _ | with_reducible apply Ext.alloc | with_reducible apply Ext.drew | with_reducible apply Ext.drewN | ((with_reducible apply Ext.set); case hp => (first | (simp; done) | (dsimp only; omega) | omega)) | ((with_reducible apply Ext.trans); case k => with_reducible assumption)))))).mono ?_
  rintro e w4 ⟨rfl, h4⟩
  have Q : Blk w4 w.heap.size #[.slice A n c, .slice (some ⟨bB, oB, none⟩) m c2, .int .i64 lo, .int .i64 hi] 89 := by (repeat (first | (with_reducible assumption) | ((with_reducible apply Blk.new_at); focus (first | (simp; done) | (simp; omega))) | with_reducible apply Blk.alloc | with_reducible apply Blk.drew | with_reducible apply Blk.drewN | with_reducible apply Blk.set | ((with_reducible apply Blk.far); case hp => (first | (simp; done) | (dsimp only; omega))) | ((with_reducible apply Blk.ext); case he => with_reducible assumption)))
  have Q0 := Q.cell 0
  have Q1 := Q.cell 1
  have Q2 := Q.cell 2
  have Q3 := Q.cell 3
  simp at Q0 Q1 Q2 Q3
  have Ql := Q.lt
  have O : Blk w4 (w.heap.size + 1) #[.int .i64 0, .int .i64 0] 23 := (by (repeat (first | (with_reducible assumption) | ((with_reducible apply Blk.new_at); focus (first | (simp; done) | (simp; omega))) | with_reducible apply Blk.alloc | with_reducible apply Blk.drew | with_reducible apply Blk.drewN | with_reducible apply Blk.set | ((with_reducible apply Blk.far); case hp => (first | (simp; done) | (dsimp only; omega))) | ((with_reducible apply Blk.ext); case he => with_reducible assumption)))); obtain ⟨O1, O2, O3, O4⟩ := O.c2; have O5 := O.lt
  have hE4 : Ext w w4 := by (repeat (first | (with_reducible assumption) | with_reducible exact Ext.refl _ | with_reducible apply Ext.alloc | with_reducible apply Ext.drew | with_reducible apply Ext.drewN | ((with_reducible apply Ext.set); case hp => (first | (simp; done) | (dsimp only; omega) | omega)) | ((with_reducible apply Ext.trans); case k => with_reducible assumption)))
  have hs3 := Ext.size h3
  have hs4 := Ext.size h4
  obtain ⟨l1, l2⟩ := Lnks.cells HCB.out hE4 k hkm _ HY.out
  have hbl2 : bB < w4.heap.size := World.block_lt_of_cell? w4 _ l1
  have hkn : (k : Int) < (m : Int) := by omega
  go_upto_region 10 with fail
  obtain ⟨W5, hW5⟩ : ∃ W5, ((w4.alloc (.cells #[.int .i64 e1, .int .i64 e2] 23)).alloc (.cells #[.int .i64 L, .int .i64 M] 23)) = W5 := ⟨_, rfl⟩
  have hE5 : Ext w W5 := by rw [← hW5]; (repeat (first | (with_reducible assumption) | with_reducible exact Ext.refl _ | with_reducible apply Ext.alloc | with_reducible apply Ext.drew | with_reducible apply Ext.drewN | ((with_reducible apply Ext.set); case hp => (first | (simp; done) | (dsimp only; omega) | omega)) | ((with_reducible apply Ext.trans); case k => with_reducible assumption)))
  have hO5 : Blk W5 (w.heap.size + 1) #[.int .i64 0, .int .i64 0] 23 := by rw [← hW5]; (repeat (first | (with_reducible assumption) | ((with_reducible apply Blk.new_at); focus (first | (simp; done) | (simp; omega))) | with_reducible apply Blk.alloc | with_reducible apply Blk.drew | with_reducible apply Blk.drewN | with_reducible apply Blk.set | ((with_reducible apply Blk.far); case hp => (first | (simp; done) | (dsimp only; omega))) | ((with_reducible apply Blk.ext); case he => with_reducible assumption)))
  have hU5 : Blk W5 (w4.heap.size + 1) #[.int .i64 L, .int .i64 M] 23 := by rw [← hW5]; (repeat (first | (with_reducible assumption) | ((with_reducible apply Blk.new_at); focus (first | (simp; done) | (simp; omega))) | with_reducible apply Blk.alloc | with_reducible apply Blk.drew | with_reducible apply Blk.drewN | with_reducible apply Blk.set | ((with_reducible apply Blk.far); case hp => (first | (simp; done) | (dsimp only; omega))) | ((with_reducible apply Blk.ext); case he => with_reducible assumption)))
  rw [hW5]
  clear hW5 O O1 O2 O3 O4 O5 Q Q0 Q1 Q2 Q3 Ql P P0 P1 P2 P3 Pl
  obtain ⟨o1, o2, o3, o4⟩ := hO5.c2
  obtain ⟨y1, y2, y3, y4⟩ := hU5.c2
  have hul := hU5.lt
  have hol := hO5.lt
  have hx8 : (L < -100000 ∧ 100000 < M) ∨ (L < -100000 ∧ M ≤ 100000 ∧ -100000 ≤ M) ∨ (L < -100000 ∧ M < -100000) ∨ (-100000 ≤ L ∧ L ≤ 100000 ∧ 100000 < M) ∨ (100000 < L ∧ 100000 < M) ∨ (-100000 ≤ L ∧ M ≤ 100000 ∧ L ≤ M) ∨ (-100000 ≤ L ∧ M ≤ 100000 ∧ M < L) := by omega
  rcases hx8 with q | q | q | q | q | q | q
  all_goals
    go_wp2_with fail
    refine end_ct rfl rfl _ _ _ _ _ rfl rfl (by (repeat (first | (with_reducible assumption) | ((with_reducible apply Blk.new_at); focus (first | (simp; done) | (simp; omega))) | with_reducible apply Blk.alloc | with_reducible apply Blk.drew | with_reducible apply Blk.drewN | with_reducible apply Blk.set | ((with_reducible apply Blk.far); case hp => (first | (simp; done) | (dsimp only; omega))) | ((with_reducible apply Blk.ext); case he => with_reducible assumption)))) Try.underlying23 rfl (by exact szL) ?_
    refine HFIN.out _ _ _ w _ ?_ (by (repeat (first | (with_reducible assumption) | with_reducible exact Ext.refl _ | with_reducible apply Ext.alloc | with_reducible apply Ext.drew | with_reducible apply Ext.drewN | ((with_reducible apply Ext.set); case hp => (first | (simp; done) | (dsimp only; omega) | omega)) | ((with_reducible apply Ext.trans); case k => with_reducible assumption))))
    unfold clampLo clampHi
    first
      | exact .inl ⟨by split <;> omega, by split <;> omega, by omega, rfl⟩
      | exact .inr ⟨by split <;> split <;> omega, rfl, rfl, rfl⟩
set_option maxRecDepth 20000 in
set_option maxHeartbeats 4000000 in
theorem rroom_true (k : Nat) (A B : Option Addr) (n m c c2 : Nat) (xs : List Dim) (cs : List Lk) (lo hi : Int) (w : World) (hx : Dims w A n xs) (hk : Lnks w B m cs) (hcap : m ≤ c2) (h : taskE xs cs lo hi = 0) (hkm : k < m) (hb : (cs.getD k zeroK).back = true) : Calls Try.prog 56 #[.agg #[.slice A n c, .slice B m c2, .int .i64 lo, .int .i64 hi], .int .i64 (k : Int)] w (Ret (.tuple #[.agg #[.int .i64 (roomP (roomL (endS 1 xs cs) (endS (-1) xs cs) lo hi (dimK xs (cs.getD k zeroK)).lo (dimK xs (cs.getD k zeroK)).hi true) (roomH (endS 1 xs cs) (endS (-1) xs cs) lo hi (dimK xs (cs.getD k zeroK)).lo (dimK xs (cs.getD k zeroK)).hi true)).lo, .int .i64 (roomP (roomL (endS 1 xs cs) (endS (-1) xs cs) lo hi (dimK xs (cs.getD k zeroK)).lo (dimK xs (cs.getD k zeroK)).hi true) (roomH (endS 1 xs cs) (endS (-1) xs cs) lo hi (dimK xs (cs.getD k zeroK)).lo (dimK xs (cs.getD k zeroK)).hi true)).hi], .int .i64 (roomP (roomL (endS 1 xs cs) (endS (-1) xs cs) lo hi (dimK xs (cs.getD k zeroK)).lo (dimK xs (cs.getD k zeroK)).hi true) (roomH (endS 1 xs cs) (endS (-1) xs cs) lo hi (dimK xs (cs.getD k zeroK)).lo (dimK xs (cs.getD k zeroK)).hi true)).err]) w) := by
  have hrt := rt_of hx.len hk.len (taskE_zero h).1
  have hwant := chk_lims0 (taskE_zero h).2
  obtain ⟨bB, oB, rfl, hcB⟩ := hk.at_ hrt.m0
  have HX := Lib.hid hx
  have HK := Lib.hid hk
  have HCB := Lib.hid hcB
  have HC := Lib.hid (fun w (h1 : Dims w A n xs) (h2 : Lnks w (some ⟨bB, oB, none⟩) m cs) => (by have := rcheck25_any A (some ⟨bB, oB, none⟩) n m c c2 xs cs lo hi w h1 h2 hcap; rwa [h] at this : Calls Try.prog 95 #[.agg #[.slice A n c, .slice (some ⟨bB, oB, none⟩) m c2, .int .i64 lo, .int .i64 hi]] w (Ret (.int .i64 0) w)))
  have hmem := hrt.mem k hkm
  have hfk := hrt.fine k hkm
  have hm256 := hrt.m256
  have hn256 := hrt.n256
  have HW := Lib.hid (fun w (h1 : Dims w A n xs) (h2 : Lnks w (some ⟨bB, oB, none⟩) m cs) => rwith_any A (some ⟨bB, oB, none⟩) n m c c2 xs cs lo hi ⟨0, 0⟩ k w h1 h2 hkm hrt.n256 hrt.m256 (by have h1 := hfk.1; omega))
  have hrt2 := rt_with hrt (cs.getD k zeroK).dim.toNat ⟨0, 0⟩ (by decide)
  have HBW := Lib.hid (fun A2 c3 w (h1 : Dims w A2 n (withL xs (cs.getD k zeroK).dim.toNat ⟨0, 0⟩)) (h2 : Lnks w (some ⟨bB, oB, none⟩) m cs) => rbounds_any A2 (some ⟨bB, oB, none⟩) n m c3 c2 _ cs lo hi w h1 h2 hrt2)
  have HFT : Hid (∀ j, j < n → ((withL xs (cs.getD k zeroK).dim.toNat ⟨0, 0⟩).getD j zeroD).fits) := Lib.hid (fun j hj => by
    by_cases e : (cs.getD k zeroK).dim.toNat = j
    · subst e
      rw [withL_at (by rw [HX.out.len]; exact hj)]
      exact HX.out.fit _ hj
    · rw [withL_ne e]; exact HX.out.fit _ hj)
  have hrr := room_true hrt lo hi k hkm hb
  have hr1 := hrt2.range 1
  have hr2 := hrt2.range (-1)
  obtain ⟨⟨yd, yb⟩, hy⟩ : ∃ y, (cs.getD k zeroK) = y := ⟨_, rfl⟩
  have hyb : yb = true := by rw [hy] at hb; exact hb
  subst hyb
  obtain ⟨L, hL⟩ : ∃ L, roomL (endS 1 xs cs) (endS (-1) xs cs) lo hi (dimK xs (cs.getD k zeroK)).lo (dimK xs (cs.getD k zeroK)).hi true = L := ⟨_, rfl⟩
  obtain ⟨M, hM⟩ : ∃ M, roomH (endS 1 xs cs) (endS (-1) xs cs) lo hi (dimK xs (cs.getD k zeroK)).lo (dimK xs (cs.getD k zeroK)).hi true = M := ⟨_, rfl⟩
  have hfin := roomP_of hL hM
  have HFIN := Lib.hid hfin
  rw [hL, hM] at hrr
  rw [hL, hM] at HFIN ⊢
  obtain ⟨zs, hzs⟩ : ∃ zs, withL xs (cs.getD k zeroK).dim.toNat ⟨0, 0⟩ = zs := ⟨_, rfl⟩
  rw [hzs] at HW HBW HFT hrr hr1 hr2
  obtain ⟨e1, he1⟩ : ∃ v, endS 1 zs cs = v := ⟨_, rfl⟩
  obtain ⟨e2, he2⟩ : ∃ v, endS (-1) zs cs = v := ⟨_, rfl⟩
  rw [he1, he2] at HBW
  rw [he1] at hrr hr1
  rw [he2] at hrr hr2
  have HY := Lib.hid hy
  obtain ⟨hrrL, hrrM⟩ := hrr
  have hW1 : IntKind.i64.wrap (lo - e1) = lo - e1 := i64_in' (by omega)
  have hW2 : IntKind.i64.wrap (hi - e2) = hi - e2 := i64_in' (by omega)
  have hW3 : IntKind.i64.wrap (e2 - hi) = L := by rw [hrrL]; exact i64_in' (by omega)
  have hW4 : IntKind.i64.wrap (e1 - lo) = M := by rw [hrrM]; exact i64_in' (by omega)
  clear hx hk h hrt hrt2 hfin hL hM hzs he1 he2 hy hb hmem hfk hcB
  go_enter Try.func56, Try.ntmps56
  go_wp2_with fail; refine (HC.out _ (HX.out.ext (by (repeat (first | (with_reducible assumption) | with_reducible exact Ext.refl _ | with_reducible apply Ext.alloc | with_reducible apply Ext.drew | with_reducible apply Ext.drewN | ((with_reducible apply Ext.set); case hp => (first | (simp; done) | (dsimp only; omega) | omega)) | ((with_reducible apply Ext.trans); case k => with_reducible assumption))))) (HK.out.ext (by (repeat (first | (with_reducible assumption) | with_reducible exact Ext.refl _ | with_reducible apply Ext.alloc | with_reducible apply Ext.drew | with_reducible apply Ext.drewN | ((with_reducible apply Ext.set); case hp => (first | (simp; done) | (dsimp only; omega) | omega)) | ((with_reducible apply Ext.trans); case k => with_reducible assumption)))))).mono ?_; rintro e w2 ⟨rfl, h2⟩
  have P : Blk w2 w.heap.size #[.slice A n c, .slice (some ⟨bB, oB, none⟩) m c2, .int .i64 lo, .int .i64 hi] 89 := by (repeat (first | (with_reducible assumption) | ((with_reducible apply Blk.new_at); focus (first | (simp; done) | (simp; omega))) | with_reducible apply Blk.alloc | with_reducible apply Blk.drew | with_reducible apply Blk.drewN | with_reducible apply Blk.set | ((with_reducible apply Blk.far); case hp => (first | (simp; done) | (dsimp only; omega))) | ((with_reducible apply Blk.ext); case he => with_reducible assumption)))
  have P0 := P.cell 0
  have P1 := P.cell 1
  have P2 := P.cell 2
  have P3 := P.cell 3
  simp at P0 P1 P2 P3
  have Pl := P.lt
  have hs2 := Ext.size h2
  simp only [World.size_alloc] at hs2
  go_wp2_with fail
  refine (HW.out _ (HX.out.ext (by (repeat (first | (with_reducible assumption) | with_reducible exact Ext.refl _ | with_reducible apply Ext.alloc | with_reducible apply Ext.drew | with_reducible apply Ext.drewN | ((with_reducible apply Ext.set); case hp => (first | (simp; done) | (dsimp only; omega) | omega)) | ((with_reducible apply Ext.trans); case k => with_reducible assumption))))) (HK.out.ext (by (repeat (first | (with_reducible assumption) | with_reducible exact Ext.refl _ | with_reducible apply Ext.alloc | with_reducible apply Ext.drew | with_reducible apply Ext.drewN | ((with_reducible apply Ext.set); case hp => (first | (simp; done) | (dsimp only; omega) | omega)) | ((with_reducible apply Ext.trans); case k => with_reducible assumption)))))).mono ?_
  rintro e w3 ⟨g, cap, cur, rfl, R3, h3⟩
  have hD3 := Lib.hid (R3.dims (by omega) HFT.out)
  clear R3
  go_wp2_with fail
  refine (HBW.out _ _ _ (hD3.out.ext (by (repeat (first | (with_reducible assumption) | with_reducible exact Ext.refl _ | with_reducible apply Ext.alloc | with_reducible apply Ext.drew | with_reducible apply Ext.drewN | ((with_reducible apply Ext.set); case hp => (first | (simp; done) | (dsimp only; omega) | omega)) | ((with_reducible apply Ext.trans); case k => with_reducible assumption))))) (HK.out.ext (by (repeat (first | (with_reducible assumption) | with_reducible exact Ext.refl _ | with_reducible apply Ext.alloc | with_reducible apply Ext.drew | with_reducible apply Ext.drewN | ((with_reducible apply Ext.set); case hp => (first | (simp; done) | (dsimp only; omega) | omega)) | ((with_reducible apply Ext.trans); case k => with_reducible assumption)))))).mono ?_
  rintro e w4 ⟨rfl, h4⟩
  have Q : Blk w4 w.heap.size #[.slice A n c, .slice (some ⟨bB, oB, none⟩) m c2, .int .i64 lo, .int .i64 hi] 89 := by (repeat (first | (with_reducible assumption) | ((with_reducible apply Blk.new_at); focus (first | (simp; done) | (simp; omega))) | with_reducible apply Blk.alloc | with_reducible apply Blk.drew | with_reducible apply Blk.drewN | with_reducible apply Blk.set | ((with_reducible apply Blk.far); case hp => (first | (simp; done) | (dsimp only; omega))) | ((with_reducible apply Blk.ext); case he => with_reducible assumption)))
  have Q0 := Q.cell 0
  have Q1 := Q.cell 1
  have Q2 := Q.cell 2
  have Q3 := Q.cell 3
  simp at Q0 Q1 Q2 Q3
  have Ql := Q.lt
  have O : Blk w4 (w.heap.size + 1) #[.int .i64 0, .int .i64 0] 23 := (by (repeat (first | (with_reducible assumption) | ((with_reducible apply Blk.new_at); focus (first | (simp; done) | (simp; omega))) | with_reducible apply Blk.alloc | with_reducible apply Blk.drew | with_reducible apply Blk.drewN | with_reducible apply Blk.set | ((with_reducible apply Blk.far); case hp => (first | (simp; done) | (dsimp only; omega))) | ((with_reducible apply Blk.ext); case he => with_reducible assumption)))); obtain ⟨O1, O2, O3, O4⟩ := O.c2; have O5 := O.lt
  have hE4 : Ext w w4 := by (repeat (first | (with_reducible assumption) | with_reducible exact Ext.refl _ | with_reducible apply Ext.alloc | with_reducible apply Ext.drew | with_reducible apply Ext.drewN | ((with_reducible apply Ext.set); case hp => (first | (simp; done) | (dsimp only; omega) | omega)) | ((with_reducible apply Ext.trans); case k => with_reducible assumption)))
  have hs3 := Ext.size h3
  have hs4 := Ext.size h4
  obtain ⟨l1, l2⟩ := Lnks.cells HCB.out hE4 k hkm _ HY.out
  have hbl2 : bB < w4.heap.size := World.block_lt_of_cell? w4 _ l1
  have hkn : (k : Int) < (m : Int) := by omega
  go_upto_region 10 with fail
  obtain ⟨W5, hW5⟩ : ∃ W5, ((w4.alloc (.cells #[.int .i64 e1, .int .i64 e2] 23)).alloc (.cells #[.int .i64 L, .int .i64 M] 23)) = W5 := ⟨_, rfl⟩
  have hE5 : Ext w W5 := by rw [← hW5]; (repeat (first | (with_reducible assumption) | with_reducible exact Ext.refl _ | with_reducible apply Ext.alloc | with_reducible apply Ext.drew | with_reducible apply Ext.drewN | ((with_reducible apply Ext.set); case hp => (first | (simp; done) | (dsimp only; omega) | omega)) | ((with_reducible apply Ext.trans); case k => with_reducible assumption)))
  have hO5 : Blk W5 (w.heap.size + 1) #[.int .i64 0, .int .i64 0] 23 := by rw [← hW5]; (repeat (first | (with_reducible assumption) | ((with_reducible apply Blk.new_at); focus (first | (simp; done) | (simp; omega))) | with_reducible apply Blk.alloc | with_reducible apply Blk.drew | with_reducible apply Blk.drewN | with_reducible apply Blk.set | ((with_reducible apply Blk.far); case hp => (first | (simp; done) | (dsimp only; omega))) | ((with_reducible apply Blk.ext); case he => with_reducible assumption)))
  have hU5 : Blk W5 (w4.heap.size + 1) #[.int .i64 L, .int .i64 M] 23 := by rw [← hW5]; (repeat (first | (with_reducible assumption) | ((with_reducible apply Blk.new_at); focus (first | (simp; done) | (simp; omega))) | with_reducible apply Blk.alloc | with_reducible apply Blk.drew | with_reducible apply Blk.drewN | with_reducible apply Blk.set | ((with_reducible apply Blk.far); case hp => (first | (simp; done) | (dsimp only; omega))) | ((with_reducible apply Blk.ext); case he => with_reducible assumption)))
  rw [hW5]
  clear hW5 O O1 O2 O3 O4 O5 Q Q0 Q1 Q2 Q3 Ql P P0 P1 P2 P3 Pl
  obtain ⟨o1, o2, o3, o4⟩ := hO5.c2
  obtain ⟨y1, y2, y3, y4⟩ := hU5.c2
  have hul := hU5.lt
  have hol := hO5.lt
  have hx8 : (L < -100000 ∧ 100000 < M) ∨ (L < -100000 ∧ M ≤ 100000 ∧ -100000 ≤ M) ∨ (L < -100000 ∧ M < -100000) ∨ (-100000 ≤ L ∧ L ≤ 100000 ∧ 100000 < M) ∨ (100000 < L ∧ 100000 < M) ∨ (-100000 ≤ L ∧ M ≤ 100000 ∧ L ≤ M) ∨ (-100000 ≤ L ∧ M ≤ 100000 ∧ M < L) := by omega
  rcases hx8 with q | q | q | q | q | q | q
  all_goals
    go_wp2_with fail
    refine end_ct rfl rfl _ _ _ _ _ rfl rfl (by (repeat (first | (with_reducible assumption) | ((with_reducible apply Blk.new_at); focus (first | (simp; done) | (simp; omega))) | with_reducible apply Blk.alloc | with_reducible apply Blk.drew | with_reducible apply Blk.drewN | with_reducible apply Blk.set | ((with_reducible apply Blk.far); case hp => (first | (simp; done) | (dsimp only; omega))) | ((with_reducible apply Blk.ext); case he => with_reducible assumption)))) Try.underlying23 rfl (by exact szL) ?_
    refine HFIN.out _ _ _ w _ ?_ (by (repeat (first | (with_reducible assumption) | with_reducible exact Ext.refl _ | with_reducible apply Ext.alloc | with_reducible apply Ext.drew | with_reducible apply Ext.drewN | ((with_reducible apply Ext.set); case hp => (first | (simp; done) | (dsimp only; omega) | omega)) | ((with_reducible apply Ext.trans); case k => with_reducible assumption))))
    unfold clampLo clampHi
    first
      | exact .inl ⟨by split <;> omega, by split <;> omega, by omega, rfl⟩
      | exact .inr ⟨by split <;> split <;> omega, rfl, rfl, rfl⟩
end Go.Proofs.Ytdcedfciaaooiaa
