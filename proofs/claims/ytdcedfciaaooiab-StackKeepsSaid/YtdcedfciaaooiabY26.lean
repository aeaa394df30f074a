/- The reference's Shares and Keeps: the walks. -/
import Derived.Test.YtdcedfciaaooiabY25
import Derived.Test.YtdcedfciaaooiabS26
import Derived.OwnWalk
set_option linter.unusedVariables false
namespace Go.Proofs.Ytdcedfciaaooiab
open Go.RowKit

set_option maxRecDepth 20000 in
set_option maxHeartbeats 4000000 in
theorem rshares_bad (A B : Option Addr) (n m c c2 : Nat) (xs : List Dim) (cs : List Lk) (lo hi : Int) (w : World) (hx : Dims w A n xs) (hk : Lnks w B m cs) (hcap : m ≤ c2) (E : Int) (h : taskE xs cs lo hi = E) (hE : (E != 0) = true) : Calls Try.prog 26 #[.agg #[.slice A n c, .slice B m c2, .int .i64 lo, .int .i64 hi]] w (Ret (.tuple #[.slice none 0 0, .int .i64 E]) w) := by
  have HX := Lib.hid hx
  have HK := Lib.hid hk
  have HC := Lib.hid (fun w (h1 : Dims w A n xs) (h2 : Lnks w B m cs) => (by have := rcheck25_any A B n m c c2 xs cs lo hi w h1 h2 hcap; rwa [h] at this : Calls Try.prog 23 #[.agg #[.slice A n c, .slice B m c2, .int .i64 lo, .int .i64 hi]] w (Ret (.int .i64 E) w)))
  clear hx hk h
  go_enter Try.func26, Try.ntmps26
  go_wp2_with fail; refine (HC.out _ (HX.out.ext (by (repeat (first | (with_reducible assumption) | with_reducible exact Ext.refl _ | with_reducible apply Ext.alloc | with_reducible apply Ext.drew | with_reducible apply Ext.drewN | ((with_reducible apply Ext.set); case hp => (first | (simp; done) | (dsimp only; omega) | omega)) | ((with_reducible apply Ext.trans); case k => with_reducible assumption))))) (HK.out.ext (by (repeat (first | (with_reducible assumption) | with_reducible exact Ext.refl _ | with_reducible apply Ext.alloc | with_reducible apply Ext.drew | with_reducible apply Ext.drewN | ((with_reducible apply Ext.set); case hp => (first | (simp; done) | (dsimp only; omega) | omega)) | ((with_reducible apply Ext.trans); case k => with_reducible assumption)))))).mono ?_; rintro e w2 ⟨rfl, h2⟩
  go_wp2_with fail
  go_ret2
  exact Ret.mk' rfl (by (repeat (first | (with_reducible assumption) | with_reducible exact Ext.refl _ | with_reducible apply Ext.alloc | with_reducible apply Ext.drew | with_reducible apply Ext.drewN | ((with_reducible apply Ext.set); case hp => (first | (simp; done) | (dsimp only; omega) | omega)) | ((with_reducible apply Ext.trans); case k => with_reducible assumption))))
set_option maxRecDepth 20000 in
set_option maxHeartbeats 4000000 in
theorem rshares_ok (A B : Option Addr) (n m c c2 : Nat) (xs : List Dim) (cs : List Lk) (lo hi : Int) (w : World) (hx : Dims w A n xs) (hk : Lnks w B m cs) (hcap : m ≤ c2) (h : taskE xs cs lo hi = 0) : Calls Try.prog 26 #[.agg #[.slice A n c, .slice B m c2, .int .i64 lo, .int .i64 hi]] w (fun e w' => ∃ g cap cur, e = .returned (.tuple #[.slice (some ⟨g, 0, none⟩) m cap, .int .i64 0]) ∧ IRow w' w.heap.size g m cur (sharesL xs cs) ∧ Ext w w') := by
  have hrt0 := rt_of hx.len hk.len (taskE_zero h).1
  have HRT := Lib.hid hrt0
  have hxl := hrt0.xl
  have hcl := hrt0.cl
  have hm256 := hrt0.m256
  have hn256 := hrt0.n256
  have hm0 := hrt0.m0
  have hn0 : 0 < n := by have := hrt0.mem 0 hrt0.m0; omega
  obtain ⟨bA, oA, rfl, hcA⟩ := hx.at_ hn0
  obtain ⟨bB, oB, rfl, hcB⟩ := hk.at_ hm0
  have HCA := Lib.hid hcA
  have HCB := Lib.hid hcB
  obtain ⟨i0, hi0, hz0, hz1, hz2⟩ := info_parts infoInt
  have hi' := Lib.hid hi0
  have hz0' := Lib.hid hz0
  have hz1' := Lib.hid hz1
  have hz2' := Lib.hid hz2
  clear hcA hcB hrt0 hi0 hz0 hz1 hz2
  have hrt := rt_of hx.len hk.len (taskE_zero h).1
  have hwant := chk_lims0 (taskE_zero h).2
  have HX := Lib.hid hx
  have HK := Lib.hid hk
  have HC := Lib.hid (fun w (h1 : Dims w (some ⟨bA, oA, none⟩) n xs) (h2 : Lnks w (some ⟨bB, oB, none⟩) m cs) => (by have := rcheck25_any _ _ n m c c2 xs cs lo hi w h1 h2 hcap; rwa [h] at this : Calls Try.prog 23 #[.agg #[.slice (some ⟨bA, oA, none⟩) n c, .slice (some ⟨bB, oB, none⟩) m c2, .int .i64 lo, .int .i64 hi]] w (Ret (.int .i64 0) w)))
  have HB := Lib.hid (fun w (h1 : Dims w (some ⟨bA, oA, none⟩) n xs) (h2 : Lnks w (some ⟨bB, oB, none⟩) m cs) => rbounds_any _ _ n m c c2 xs cs lo hi w h1 h2 hrt)
  have HE := Lib.hid (fun (gr : Bool) w (h1 : Dims w (some ⟨bA, oA, none⟩) n xs) (h2 : Lnks w (some ⟨bB, oB, none⟩) m cs) => rext_any gr _ _ n m c c2 xs cs lo hi w h1 h2 hrt)
  have hr1 := hrt.range 1
  have hr2 := hrt.range (-1)
  clear hx hk h hrt
  go_enter Try.func26, Try.ntmps26
  go_wp2_with fail; refine (HC.out _ (HX.out.ext (by (repeat (first | (with_reducible assumption) | with_reducible exact Ext.refl _ | with_reducible apply Ext.alloc | with_reducible apply Ext.drew | with_reducible apply Ext.drewN | ((with_reducible apply Ext.set); case hp => (first | (simp; done) | (dsimp only; omega) | omega)) | ((with_reducible apply Ext.trans); case k => with_reducible assumption))))) (HK.out.ext (by (repeat (first | (with_reducible assumption) | with_reducible exact Ext.refl _ | with_reducible apply Ext.alloc | with_reducible apply Ext.drew | with_reducible apply Ext.drewN | ((with_reducible apply Ext.set); case hp => (first | (simp; done) | (dsimp only; omega) | omega)) | ((with_reducible apply Ext.trans); case k => with_reducible assumption)))))).mono ?_; rintro e w2 ⟨rfl, h2⟩
  have P : Blk w2 w.heap.size #[.slice (some ⟨bA, oA, none⟩) n c, .slice (some ⟨bB, oB, none⟩) m c2, .int .i64 lo, .int .i64 hi] 31 := by (repeat (first | (with_reducible assumption) | ((with_reducible apply Blk.new_at); focus (first | (simp; done) | (simp; omega))) | with_reducible apply Blk.alloc | with_reducible apply Blk.drew | with_reducible apply Blk.drewN | with_reducible apply Blk.set | ((with_reducible apply Blk.far); case hp => (first | (simp; done) | (dsimp only; omega))) | ((with_reducible apply Blk.ext); case he => with_reducible assumption)))
  have P0 := P.cell 0
  have P1 := P.cell 1
  have P2 := P.cell 2
  have P3 := P.cell 3
  simp at P0 P1 P2 P3
  have Pl := P.lt
  have hw2 : Ext w w2 := by (repeat (first | (with_reducible assumption) | with_reducible exact Ext.refl _ | with_reducible apply Ext.alloc | with_reducible apply Ext.drew | with_reducible apply Ext.drewN | ((with_reducible apply Ext.set); case hp => (first | (simp; done) | (dsimp only; omega) | omega)) | ((with_reducible apply Ext.trans); case k => with_reducible assumption)))
  go_wp2_with fail
  go_loopw [5, 6] (fun v i wr => ∃ q : Nat, q ≤ m ∧ i = .int .i64 q ∧ Ext w wr ∧ Blk wr w.heap.size #[.slice (some ⟨bA, oA, none⟩) n c, .slice (some ⟨bB, oB, none⟩) m c2, .int .i64 lo, .int .i64 hi] 31 ∧ wr.ownsRow (w.heap.size + 1) 3 1 v q (flatI (sharesL xs (cs.take q)))) (fun _ i _ => m - (intOf i).toNat)
  case atStart => exact ⟨0, Nat.zero_le _, rfl, hw2, by (repeat (first | (with_reducible assumption) | ((with_reducible apply Blk.new_at); focus (first | (simp; done) | (simp; omega))) | with_reducible apply Blk.alloc | with_reducible apply Blk.drew | with_reducible apply Blk.drewN | with_reducible apply Blk.set | ((with_reducible apply Blk.far); case hp => (first | (simp; done) | (dsimp only; omega))) | ((with_reducible apply Blk.ext); case he => with_reducible assumption))), World.ownsRow_nil _ _ _ _⟩
  case round =>
    obtain ⟨q, hq, rfl, hE, hT, hrow⟩ := hrel
    have hTl := hT.lt
    have T0 := hT.cell 0
    have T1 := hT.cell 1
    have T2 := hT.cell 2
    have T3 := hT.cell 3
    simp at T0 T1 T2 T3
    by_cases hlt : q < m
    · obtain ⟨⟨y, bk⟩, hy⟩ : ∃ y, cs.getD q zeroK = y := ⟨_, rfl⟩
      obtain ⟨l1, l2⟩ := Lnks.cells HCB.out hE q hlt _ hy
      have hfk := HRT.out.fine q hlt
      rw [hy] at hfk
      obtain ⟨g0, g1, g2, g3, g4, g5⟩ := hfk
      dsimp only at l1 l2 g0 g1
      obtain ⟨p, rfl⟩ := Int.eq_ofNat_of_zero_le g0
      have hp : p < n := by omega
      obtain ⟨d, hd⟩ : ∃ d, xs.getD p zeroD = d := ⟨_, rfl⟩
      obtain ⟨-, -, -, a4, a5⟩ := Dims.cells HCA.out hE p hp d hd
      have hbl : bA < wr.heap.size := World.block_lt_of_cell? wr _ a4
      have hbl2 : bB < wr.heap.size := World.block_lt_of_cell? wr _ l1
      have hdk : dimK xs ⟨(p : Int), bk⟩ = d := by unfold dimK; rw [Int.toNat_natCast]; exact hd
      rw [hdk] at g2 g3 g4 g5
      obtain ⟨D, hD⟩ : ∃ D, d.hi - d.lo = D := ⟨_, rfl⟩
      have hck : sharesL xs (cs.take (q + 1)) = sharesL xs (cs.take q) ++ [D] := by rw [take_succK (by omega), hy, sharesL_snoc, shareI, hdk, hD]
      have HSN := Lib.hid hck
      have HD := Lib.hid hd
      have HY := Lib.hid hy
      have HROW := Lib.hid hrow
      clear hck hdk hd hy hrow
      go_wp2_with fail
      go_region_held3 (fun W => (W.cell? ⟨w.heap.size, 0, none⟩ = some (.slice (some ⟨bA, oA, none⟩) n c) ∧ W.cell? ⟨w.heap.size, 1, none⟩ = some (.slice (some ⟨bB, oB, none⟩) m c2)) ∧ W.cell? ⟨bB, oB + q * 2, none⟩ = some (.int .i64 (p : Int)) ∧ (W.cell? ⟨bA, oA + p * 5 + 3, none⟩ = some (.int .i64 d.lo) ∧ W.cell? ⟨bA, oA + p * 5 + 4, none⟩ = some (.int .i64 d.hi)))
        (exact ⟨⟨(show Blk _ w.heap.size #[.slice (some ⟨bA, oA, none⟩) n c, .slice (some ⟨bB, oB, none⟩) m c2, .int .i64 lo, .int .i64 hi] 31 from by (repeat (first | (with_reducible assumption) | ((with_reducible apply Blk.new_at); focus (first | (simp; done) | (simp; omega))) | with_reducible apply Blk.alloc | with_reducible apply Blk.drew | with_reducible apply Blk.drewN | with_reducible apply Blk.set | ((with_reducible apply Blk.far); case hp => (first | (simp; done) | (dsimp only; omega))) | ((with_reducible apply Blk.ext); case he => with_reducible assumption)))).cell 0, (show Blk _ w.heap.size #[.slice (some ⟨bA, oA, none⟩) n c, .slice (some ⟨bB, oB, none⟩) m c2, .int .i64 lo, .int .i64 hi] 31 from by (repeat (first | (with_reducible assumption) | ((with_reducible apply Blk.new_at); focus (first | (simp; done) | (simp; omega))) | with_reducible apply Blk.alloc | with_reducible apply Blk.drew | with_reducible apply Blk.drewN | with_reducible apply Blk.set | ((with_reducible apply Blk.far); case hp => (first | (simp; done) | (dsimp only; omega))) | ((with_reducible apply Blk.ext); case he => with_reducible assumption)))).cell 1⟩, (Lnks.cells HCB.out (by (repeat (first | (with_reducible assumption) | with_reducible exact Ext.refl _ | with_reducible apply Ext.alloc | with_reducible apply Ext.drew | with_reducible apply Ext.drewN | ((with_reducible apply Ext.set); case hp => (first | (simp; done) | (dsimp only; omega) | omega)) | ((with_reducible apply Ext.trans); case k => with_reducible assumption)))) q hlt ⟨(p : Int), bk⟩ HY.out).1, (Dims.cells HCA.out (by (repeat (first | (with_reducible assumption) | with_reducible exact Ext.refl _ | with_reducible apply Ext.alloc | with_reducible apply Ext.drew | with_reducible apply Ext.drewN | ((with_reducible apply Ext.set); case hp => (first | (simp; done) | (dsimp only; omega) | omega)) | ((with_reducible apply Ext.trans); case k => with_reducible assumption)))) p hp d HD.out).2.2.2⟩) (fail)
      obtain ⟨W5, hW5⟩ : ∃ W5, (wr.alloc (.cells #[.int .i64 d.lo, .int .i64 d.hi] 25)).drew = W5 := ⟨_, rfl⟩
      have hE5 : Ext w W5 := by rw [← hW5]; (repeat (first | (with_reducible assumption) | with_reducible exact Ext.refl _ | with_reducible apply Ext.alloc | with_reducible apply Ext.drew | with_reducible apply Ext.drewN | ((with_reducible apply Ext.set); case hp => (first | (simp; done) | (dsimp only; omega) | omega)) | ((with_reducible apply Ext.trans); case k => with_reducible assumption)))
      have hT5 : Blk W5 w.heap.size #[.slice (some ⟨bA, oA, none⟩) n c, .slice (some ⟨bB, oB, none⟩) m c2, .int .i64 lo, .int .i64 hi] 31 := by rw [← hW5]; (repeat (first | (with_reducible assumption) | ((with_reducible apply Blk.new_at); focus (first | (simp; done) | (simp; omega))) | with_reducible apply Blk.alloc | with_reducible apply Blk.drew | with_reducible apply Blk.drewN | with_reducible apply Blk.set | ((with_reducible apply Blk.far); case hp => (first | (simp; done) | (dsimp only; omega))) | ((with_reducible apply Blk.ext); case he => with_reducible assumption)))
      have hL5 : Blk W5 wr.heap.size #[.int .i64 d.lo, .int .i64 d.hi] 25 := by rw [← hW5]; (repeat (first | (with_reducible assumption) | ((with_reducible apply Blk.new_at); focus (first | (simp; done) | (simp; omega))) | with_reducible apply Blk.alloc | with_reducible apply Blk.drew | with_reducible apply Blk.drewN | with_reducible apply Blk.set | ((with_reducible apply Blk.far); case hp => (first | (simp; done) | (dsimp only; omega))) | ((with_reducible apply Blk.ext); case he => with_reducible assumption)))
      have hrow5 : W5.ownsRow (w.heap.size + 1) 3 1 u5 q (flatI (sharesL xs (cs.take q))) := by rw [← hW5]; exact HROW.out.alloc (.cells #[.int .i64 d.lo, .int .i64 d.hi] 25)
      have hs5 : W5.heap.size = wr.heap.size + 1 := by rw [← hW5]; simp
      rw [hW5]
      clear hW5 T0 T1 T2 T3 a4 a5 l1 l2
      obtain ⟨z1, z2, z3, z4⟩ := hL5.c2
      have hTl5 := hT5.lt
      go_wp2_with (at_builtin; refine wpList_append_own _ rfl _ _ 39 rfl (w.heap.size + 1) 3 i0 _ 1 8 Try.underlying39 hi'.out hz0'.out hz1'.out hz2'.out rfl (by decide) _ _ _ rfl (hrow5.alloc _) ⟨wr.heap.size + 1, 0, none⟩ 1 1 [.int .i64 D] rfl rfl (by have := cells_one W5 (.int .i64 D) 3; rw [hs5] at this; exact this) (by simp [Value.oneCell']) (by have : maxLen = 9223372036854775807 := rfl; omega) (by omega) (by simp; omega) ?_; intro v' w6 hown' hgrow _)
      have hgrow2 : (W5.alloc (.cells #[.int .i64 D] 3)).grownBy w6 u5.ownBlock := hgrow
      go_roundw
      case rel =>
        refine ⟨q + 1, by omega, by simp, (hE5.alloc _).grown hgrow2 (fun k e => by have := ownBlock_ge hrow5 e; omega), Blk.grown (hT5.alloc _) hgrow2 (Blk.under_row (hT5.alloc (.cells #[.int .i64 D] 3)) (by omega) (hrow5.alloc _)), ?_⟩
        rw [HSN.out, flatI_snoc]
        exact hown'
      case measure => simp [intOf]; omega
    · obtain rfl : m = q := by omega
      have hr2 : wr.ownsRow (w.heap.size + 1) 3 1 u5 m (flatI (sharesL xs cs)) := by rw [show cs.take m = cs from by rw [← hcl, List.take_length]] at hrow; exact hrow
      obtain ⟨g, cap, cur, rfl, hR⟩ := ownsI hr2 hm0
      clear hrow hr2
      go_wp2_with fail
      go_ret2
      exact ⟨g, cap, cur, rfl, ⟨by have := hR.1; omega, hR.2⟩, hE⟩
theorem has_yes {a b v : Int} (h : a ≤ v ∧ v ≤ b) : hasB a b v = true := by simp [hasB]; omega
theorem has_no {a b v : Int} (h : v < a ∨ b < v) : hasB a b v = false := by simp [hasB]; omega
set_option maxRecDepth 20000 in
set_option maxHeartbeats 4000000 in
theorem rkeeps_bad (A B : Option Addr) (n m c c2 : Nat) (xs : List Dim) (cs : List Lk) (lo hi : Int) (w : World) (hx : Dims w A n xs) (hk : Lnks w B m cs) (hcap : m ≤ c2) (E : Int) (h : taskE xs cs lo hi = E) (hE : (E != 0) = true) : Calls Try.prog 28 #[.agg #[.slice A n c, .slice B m c2, .int .i64 lo, .int .i64 hi]] w (Ret (.tuple #[.bool false, .slice none 0 0, .int .i64 E]) w) := by
  have HX := Lib.hid hx
  have HK := Lib.hid hk
  have HC := Lib.hid (fun w (h1 : Dims w A n xs) (h2 : Lnks w B m cs) => (by have := rcheck25_any A B n m c c2 xs cs lo hi w h1 h2 hcap; rwa [h] at this : Calls Try.prog 23 #[.agg #[.slice A n c, .slice B m c2, .int .i64 lo, .int .i64 hi]] w (Ret (.int .i64 E) w)))
  clear hx hk h
  go_enter Try.func28, Try.ntmps28
  go_wp2_with fail; refine (HC.out _ (HX.out.ext (by (repeat (first | (with_reducible assumption) | with_reducible exact Ext.refl _ | with_reducible apply Ext.alloc | with_reducible apply Ext.drew | with_reducible apply Ext.drewN | ((with_reducible apply Ext.set); case hp => (first | (simp; done) | (dsimp only; omega) | omega)) | ((with_reducible apply Ext.trans); case k => with_reducible assumption))))) (HK.out.ext (by (repeat (first | (with_reducible assumption) | with_reducible exact Ext.refl _ | with_reducible apply Ext.alloc | with_reducible apply Ext.drew | with_reducible apply Ext.drewN | ((with_reducible apply Ext.set); case hp => (first | (simp; done) | (dsimp only; omega) | omega)) | ((with_reducible apply Ext.trans); case k => with_reducible assumption)))))).mono ?_; rintro e w2 ⟨rfl, h2⟩
  go_wp2_with fail
  refine end_t3 (u0 := 2) (u1 := 3) (u2 := 4) rfl rfl ?_
  exact Ret.mk' rfl (by (repeat (first | (with_reducible assumption) | with_reducible exact Ext.refl _ | with_reducible apply Ext.alloc | with_reducible apply Ext.drew | with_reducible apply Ext.drewN | ((with_reducible apply Ext.set); case hp => (first | (simp; done) | (dsimp only; omega) | omega)) | ((with_reducible apply Ext.trans); case k => with_reducible assumption))))
set_option maxRecDepth 20000 in
set_option maxHeartbeats 4000000 in
theorem rkeeps_low (A B : Option Addr) (n m c c2 : Nat) (xs : List Dim) (cs : List Lk) (lo hi : Int) (w : World) (hx : Dims w A n xs) (hk : Lnks w B m cs) (hcap : m ≤ c2) (h : taskE xs cs lo hi = 0) (h1 : endS 1 xs cs < lo ∨ hi < endS 1 xs cs) : Calls Try.prog 28 #[.agg #[.slice A n c, .slice B m c2, .int .i64 lo, .int .i64 hi]] w (fun e w' => ∃ g cap cur, e = .returned (.tuple #[.bool false, .slice (some ⟨g, 0, none⟩) n cap, .int .i64 0]) ∧ IRow w' w.heap.size g n cur (extL false xs cs) ∧ Ext w w') := by
  have hrt := rt_of hx.len hk.len (taskE_zero h).1
  have hwant := chk_lims0 (taskE_zero h).2
  have HX := Lib.hid hx
  have HK := Lib.hid hk
  have HC := Lib.hid (fun w (h1 : Dims w A n xs) (h2 : Lnks w B m cs) => (by have := rcheck25_any A B n m c c2 xs cs lo hi w h1 h2 hcap; rwa [h] at this : Calls Try.prog 23 #[.agg #[.slice A n c, .slice B m c2, .int .i64 lo, .int .i64 hi]] w (Ret (.int .i64 0) w)))
  have HB := Lib.hid (fun w (h1 : Dims w A n xs) (h2 : Lnks w B m cs) => rbounds_any A B n m c c2 xs cs lo hi w h1 h2 hrt)
  have HE := Lib.hid (fun (gr : Bool) w (h1 : Dims w A n xs) (h2 : Lnks w B m cs) => rext_any gr A B n m c c2 xs cs lo hi w h1 h2 hrt)
  have hr1 := hrt.range 1
  have hr2 := hrt.range (-1)
  clear hx hk h hrt
  have hno := has_no h1
  generalize endS 1 xs cs = b1 at *
  generalize endS (-1) xs cs = b2 at *
  go_enter Try.func28, Try.ntmps28
  go_wp2_with fail; refine (HC.out _ (HX.out.ext (by (repeat (first | (with_reducible assumption) | with_reducible exact Ext.refl _ | with_reducible apply Ext.alloc | with_reducible apply Ext.drew | with_reducible apply Ext.drewN | ((with_reducible apply Ext.set); case hp => (first | (simp; done) | (dsimp only; omega) | omega)) | ((with_reducible apply Ext.trans); case k => with_reducible assumption))))) (HK.out.ext (by (repeat (first | (with_reducible assumption) | with_reducible exact Ext.refl _ | with_reducible apply Ext.alloc | with_reducible apply Ext.drew | with_reducible apply Ext.drewN | ((with_reducible apply Ext.set); case hp => (first | (simp; done) | (dsimp only; omega) | omega)) | ((with_reducible apply Ext.trans); case k => with_reducible assumption)))))).mono ?_; rintro e w2 ⟨rfl, h2⟩
  have P : Blk w2 w.heap.size #[.slice A n c, .slice B m c2, .int .i64 lo, .int .i64 hi] 31 := by (repeat (first | (with_reducible assumption) | ((with_reducible apply Blk.new_at); focus (first | (simp; done) | (simp; omega))) | with_reducible apply Blk.alloc | with_reducible apply Blk.drew | with_reducible apply Blk.drewN | with_reducible apply Blk.set | ((with_reducible apply Blk.far); case hp => (first | (simp; done) | (dsimp only; omega))) | ((with_reducible apply Blk.ext); case he => with_reducible assumption)))
  have P0 := P.cell 0
  have P1 := P.cell 1
  have P2 := P.cell 2
  have P3 := P.cell 3
  simp at P0 P1 P2 P3
  have Pl := P.lt
  go_wp2_with fail; refine (HB.out _ (HX.out.ext (by (repeat (first | (with_reducible assumption) | with_reducible exact Ext.refl _ | with_reducible apply Ext.alloc | with_reducible apply Ext.drew | with_reducible apply Ext.drewN | ((with_reducible apply Ext.set); case hp => (first | (simp; done) | (dsimp only; omega) | omega)) | ((with_reducible apply Ext.trans); case k => with_reducible assumption))))) (HK.out.ext (by (repeat (first | (with_reducible assumption) | with_reducible exact Ext.refl _ | with_reducible apply Ext.alloc | with_reducible apply Ext.drew | with_reducible apply Ext.drewN | ((with_reducible apply Ext.set); case hp => (first | (simp; done) | (dsimp only; omega) | omega)) | ((with_reducible apply Ext.trans); case k => with_reducible assumption)))))).mono ?_; rintro e w3 ⟨rfl, h3⟩
  have Q : Blk w3 w.heap.size #[.slice A n c, .slice B m c2, .int .i64 lo, .int .i64 hi] 31 := by (repeat (first | (with_reducible assumption) | ((with_reducible apply Blk.new_at); focus (first | (simp; done) | (simp; omega))) | with_reducible apply Blk.alloc | with_reducible apply Blk.drew | with_reducible apply Blk.drewN | with_reducible apply Blk.set | ((with_reducible apply Blk.far); case hp => (first | (simp; done) | (dsimp only; omega))) | ((with_reducible apply Blk.ext); case he => with_reducible assumption)))
  have Q0 := Q.cell 0
  have Q1 := Q.cell 1
  have Q2 := Q.cell 2
  have Q3 := Q.cell 3
  simp at Q0 Q1 Q2 Q3
  have Ql := Q.lt
  have hs2 := Ext.size h2
  have hs3 := Ext.size h3
  simp only [World.size_alloc] at hs2
  go_wp2_with fail
  refine (rhas_any lo hi b1 _).mono ?_
  rintro e w4 ⟨rfl, h4⟩
  rw [hno]
  have S1 : Blk w4 w.heap.size #[.slice A n c, .slice B m c2, .int .i64 lo, .int .i64 hi] 31 := by (repeat (first | (with_reducible assumption) | ((with_reducible apply Blk.new_at); focus (first | (simp; done) | (simp; omega))) | with_reducible apply Blk.alloc | with_reducible apply Blk.drew | with_reducible apply Blk.drewN | with_reducible apply Blk.set | ((with_reducible apply Blk.far); case hp => (first | (simp; done) | (dsimp only; omega))) | ((with_reducible apply Blk.ext); case he => with_reducible assumption)))
  have S10 := S1.cell 0
  have S11 := S1.cell 1
  have S12 := S1.cell 2
  have S13 := S1.cell 3
  simp at S10 S11 S12 S13
  have S1l := S1.lt
  have L1 : Blk w4 (w3.heap.size) #[.int .i64 b1, .int .i64 b2] 25 := (by (repeat (first | (with_reducible assumption) | ((with_reducible apply Blk.new_at); focus (first | (simp; done) | (simp; omega))) | with_reducible apply Blk.alloc | with_reducible apply Blk.drew | with_reducible apply Blk.drewN | with_reducible apply Blk.set | ((with_reducible apply Blk.far); case hp => (first | (simp; done) | (dsimp only; omega))) | ((with_reducible apply Blk.ext); case he => with_reducible assumption)))); obtain ⟨L11, L12, L13, L14⟩ := L1.c2; have L15 := L1.lt
  go_wp2_with fail
  refine (HE.out false _ (HX.out.ext (by (repeat (first | (with_reducible assumption) | with_reducible exact Ext.refl _ | with_reducible apply Ext.alloc | with_reducible apply Ext.drew | with_reducible apply Ext.drewN | ((with_reducible apply Ext.set); case hp => (first | (simp; done) | (dsimp only; omega) | omega)) | ((with_reducible apply Ext.trans); case k => with_reducible assumption))))) (HK.out.ext (by (repeat (first | (with_reducible assumption) | with_reducible exact Ext.refl _ | with_reducible apply Ext.alloc | with_reducible apply Ext.drew | with_reducible apply Ext.drewN | ((with_reducible apply Ext.set); case hp => (first | (simp; done) | (dsimp only; omega) | omega)) | ((with_reducible apply Ext.trans); case k => with_reducible assumption)))))).mono ?_
  rintro e w9 ⟨g, cap, cur, rfl, hI, h9⟩
  go_wp2_with fail
  refine end_t3 (u0 := 2) (u1 := 3) (u2 := 4) rfl rfl ?_
  refine ⟨g, cap, cur, rfl, ⟨?_, hI.2⟩, by (repeat (first | (with_reducible assumption) | with_reducible exact Ext.refl _ | with_reducible apply Ext.alloc | with_reducible apply Ext.drew | with_reducible apply Ext.drewN | ((with_reducible apply Ext.set); case hp => (first | (simp; done) | (dsimp only; omega) | omega)) | ((with_reducible apply Ext.trans); case k => with_reducible assumption)))⟩
  have := hI.1
  have e9 := Ext.size h9
  (try simp only [World.size_alloc] at e9)
  (try simp only [World.size_alloc] at this)
  omega
set_option maxRecDepth 20000 in
set_option maxHeartbeats 4000000 in
theorem rkeeps_high (A B : Option Addr) (n m c c2 : Nat) (xs : List Dim) (cs : List Lk) (lo hi : Int) (w : World) (hx : Dims w A n xs) (hk : Lnks w B m cs) (hcap : m ≤ c2) (h : taskE xs cs lo hi = 0) (h0 : lo ≤ endS 1 xs cs ∧ endS 1 xs cs ≤ hi) (h1 : endS (-1) xs cs < lo ∨ hi < endS (-1) xs cs) : Calls Try.prog 28 #[.agg #[.slice A n c, .slice B m c2, .int .i64 lo, .int .i64 hi]] w (fun e w' => ∃ g cap cur, e = .returned (.tuple #[.bool false, .slice (some ⟨g, 0, none⟩) n cap, .int .i64 0]) ∧ IRow w' w.heap.size g n cur (extL true xs cs) ∧ Ext w w') := by
  have hrt := rt_of hx.len hk.len (taskE_zero h).1
  have hwant := chk_lims0 (taskE_zero h).2
  have HX := Lib.hid hx
  have HK := Lib.hid hk
  have HC := Lib.hid (fun w (h1 : Dims w A n xs) (h2 : Lnks w B m cs) => (by have := rcheck25_any A B n m c c2 xs cs lo hi w h1 h2 hcap; rwa [h] at this : Calls Try.prog 23 #[.agg #[.slice A n c, .slice B m c2, .int .i64 lo, .int .i64 hi]] w (Ret (.int .i64 0) w)))
  have HB := Lib.hid (fun w (h1 : Dims w A n xs) (h2 : Lnks w B m cs) => rbounds_any A B n m c c2 xs cs lo hi w h1 h2 hrt)
  have HE := Lib.hid (fun (gr : Bool) w (h1 : Dims w A n xs) (h2 : Lnks w B m cs) => rext_any gr A B n m c c2 xs cs lo hi w h1 h2 hrt)
  have hr1 := hrt.range 1
  have hr2 := hrt.range (-1)
  clear hx hk h hrt
  have hy := has_yes h0
  have hno := has_no h1
  generalize endS 1 xs cs = b1 at *
  generalize endS (-1) xs cs = b2 at *
  go_enter Try.func28, Try.ntmps28
  go_wp2_with fail; refine (HC.out _ (HX.out.ext (by (repeat (first | (with_reducible assumption) | with_reducible exact Ext.refl _ | with_reducible apply Ext.alloc | with_reducible apply Ext.drew | with_reducible apply Ext.drewN | ((with_reducible apply Ext.set); case hp => (first | (simp; done) | (dsimp only; omega) | omega)) | ((with_reducible apply Ext.trans); case k => with_reducible assumption))))) (HK.out.ext (by (repeat (first | (with_reducible assumption) | with_reducible exact Ext.refl _ | with_reducible apply Ext.alloc | with_reducible apply Ext.drew | with_reducible apply Ext.drewN | ((with_reducible apply Ext.set); case hp => (first | (simp; done) | (dsimp only; omega) | omega)) | ((with_reducible apply Ext.trans); case k => with_reducible assumption)))))).mono ?_; rintro e w2 ⟨rfl, h2⟩
  have P : Blk w2 w.heap.size #[.slice A n c, .slice B m c2, .int .i64 lo, .int .i64 hi] 31 := by (repeat (first | (with_reducible assumption) | ((with_reducible apply Blk.new_at); focus (first | (simp; done) | (simp; omega))) | with_reducible apply Blk.alloc | with_reducible apply Blk.drew | with_reducible apply Blk.drewN | with_reducible apply Blk.set | ((with_reducible apply Blk.far); case hp => (first | (simp; done) | (dsimp only; omega))) | ((with_reducible apply Blk.ext); case he => with_reducible assumption)))
  have P0 := P.cell 0
  have P1 := P.cell 1
  have P2 := P.cell 2
  have P3 := P.cell 3
  simp at P0 P1 P2 P3
  have Pl := P.lt
  go_wp2_with fail; refine (HB.out _ (HX.out.ext (by (repeat (first | (with_reducible assumption) | with_reducible exact Ext.refl _ | with_reducible apply Ext.alloc | with_reducible apply Ext.drew | with_reducible apply Ext.drewN | ((with_reducible apply Ext.set); case hp => (first | (simp; done) | (dsimp only; omega) | omega)) | ((with_reducible apply Ext.trans); case k => with_reducible assumption))))) (HK.out.ext (by (repeat (first | (with_reducible assumption) | with_reducible exact Ext.refl _ | with_reducible apply Ext.alloc | with_reducible apply Ext.drew | with_reducible apply Ext.drewN | ((with_reducible apply Ext.set); case hp => (first | (simp; done) | (dsimp only; omega) | omega)) | ((with_reducible apply Ext.trans); case k => with_reducible assumption)))))).mono ?_; rintro e w3 ⟨rfl, h3⟩
  have Q : Blk w3 w.heap.size #[.slice A n c, .slice B m c2, .int .i64 lo, .int .i64 hi] 31 := by (repeat (first | (with_reducible assumption) | ((with_reducible apply Blk.new_at); focus (first | (simp; done) | (simp; omega))) | with_reducible apply Blk.alloc | with_reducible apply Blk.drew | with_reducible apply Blk.drewN | with_reducible apply Blk.set | ((with_reducible apply Blk.far); case hp => (first | (simp; done) | (dsimp only; omega))) | ((with_reducible apply Blk.ext); case he => with_reducible assumption)))
  have Q0 := Q.cell 0
  have Q1 := Q.cell 1
  have Q2 := Q.cell 2
  have Q3 := Q.cell 3
  simp at Q0 Q1 Q2 Q3
  have Ql := Q.lt
  have hs2 := Ext.size h2
  have hs3 := Ext.size h3
  simp only [World.size_alloc] at hs2
  go_wp2_with fail
  refine (rhas_any lo hi b1 _).mono ?_
  rintro e w4 ⟨rfl, h4⟩
  rw [hy]
  have S1 : Blk w4 w.heap.size #[.slice A n c, .slice B m c2, .int .i64 lo, .int .i64 hi] 31 := by (repeat (first | (with_reducible assumption) | ((with_reducible apply Blk.new_at); focus (first | (simp; done) | (simp; omega))) | with_reducible apply Blk.alloc | with_reducible apply Blk.drew | with_reducible apply Blk.drewN | with_reducible apply Blk.set | ((with_reducible apply Blk.far); case hp => (first | (simp; done) | (dsimp only; omega))) | ((with_reducible apply Blk.ext); case he => with_reducible assumption)))
  have S10 := S1.cell 0
  have S11 := S1.cell 1
  have S12 := S1.cell 2
  have S13 := S1.cell 3
  simp at S10 S11 S12 S13
  have S1l := S1.lt
  have L1 : Blk w4 (w3.heap.size) #[.int .i64 b1, .int .i64 b2] 25 := (by (repeat (first | (with_reducible assumption) | ((with_reducible apply Blk.new_at); focus (first | (simp; done) | (simp; omega))) | with_reducible apply Blk.alloc | with_reducible apply Blk.drew | with_reducible apply Blk.drewN | with_reducible apply Blk.set | ((with_reducible apply Blk.far); case hp => (first | (simp; done) | (dsimp only; omega))) | ((with_reducible apply Blk.ext); case he => with_reducible assumption)))); obtain ⟨L11, L12, L13, L14⟩ := L1.c2; have L15 := L1.lt
  go_wp2_with fail
  refine (rhas_any lo hi b2 _).mono ?_
  rintro e w5 ⟨rfl, h5⟩
  rw [hno]
  have S2 : Blk w5 w.heap.size #[.slice A n c, .slice B m c2, .int .i64 lo, .int .i64 hi] 31 := by (repeat (first | (with_reducible assumption) | ((with_reducible apply Blk.new_at); focus (first | (simp; done) | (simp; omega))) | with_reducible apply Blk.alloc | with_reducible apply Blk.drew | with_reducible apply Blk.drewN | with_reducible apply Blk.set | ((with_reducible apply Blk.far); case hp => (first | (simp; done) | (dsimp only; omega))) | ((with_reducible apply Blk.ext); case he => with_reducible assumption)))
  have S20 := S2.cell 0
  have S21 := S2.cell 1
  have S22 := S2.cell 2
  have S23 := S2.cell 3
  simp at S20 S21 S22 S23
  have S2l := S2.lt
  have L2 : Blk w5 (w3.heap.size) #[.int .i64 b1, .int .i64 b2] 25 := (by (repeat (first | (with_reducible assumption) | ((with_reducible apply Blk.new_at); focus (first | (simp; done) | (simp; omega))) | with_reducible apply Blk.alloc | with_reducible apply Blk.drew | with_reducible apply Blk.drewN | with_reducible apply Blk.set | ((with_reducible apply Blk.far); case hp => (first | (simp; done) | (dsimp only; omega))) | ((with_reducible apply Blk.ext); case he => with_reducible assumption)))); obtain ⟨L21, L22, L23, L24⟩ := L2.c2; have L25 := L2.lt
  go_wp2_with fail
  refine (HE.out true _ (HX.out.ext (by (repeat (first | (with_reducible assumption) | with_reducible exact Ext.refl _ | with_reducible apply Ext.alloc | with_reducible apply Ext.drew | with_reducible apply Ext.drewN | ((with_reducible apply Ext.set); case hp => (first | (simp; done) | (dsimp only; omega) | omega)) | ((with_reducible apply Ext.trans); case k => with_reducible assumption))))) (HK.out.ext (by (repeat (first | (with_reducible assumption) | with_reducible exact Ext.refl _ | with_reducible apply Ext.alloc | with_reducible apply Ext.drew | with_reducible apply Ext.drewN | ((with_reducible apply Ext.set); case hp => (first | (simp; done) | (dsimp only; omega) | omega)) | ((with_reducible apply Ext.trans); case k => with_reducible assumption)))))).mono ?_
  rintro e w9 ⟨g, cap, cur, rfl, hI, h9⟩
  go_wp2_with fail
  refine end_t3 (u0 := 2) (u1 := 3) (u2 := 4) rfl rfl ?_
  refine ⟨g, cap, cur, rfl, ⟨?_, hI.2⟩, by (repeat (first | (with_reducible assumption) | with_reducible exact Ext.refl _ | with_reducible apply Ext.alloc | with_reducible apply Ext.drew | with_reducible apply Ext.drewN | ((with_reducible apply Ext.set); case hp => (first | (simp; done) | (dsimp only; omega) | omega)) | ((with_reducible apply Ext.trans); case k => with_reducible assumption)))⟩
  have := hI.1
  have e9 := Ext.size h9
  (try simp only [World.size_alloc] at e9)
  (try simp only [World.size_alloc] at this)
  omega
set_option maxRecDepth 20000 in
set_option maxHeartbeats 4000000 in
theorem rkeeps_yes (A B : Option Addr) (n m c c2 : Nat) (xs : List Dim) (cs : List Lk) (lo hi : Int) (w : World) (hx : Dims w A n xs) (hk : Lnks w B m cs) (hcap : m ≤ c2) (h : taskE xs cs lo hi = 0) (h0 : lo ≤ endS 1 xs cs ∧ endS 1 xs cs ≤ hi) (h1 : lo ≤ endS (-1) xs cs ∧ endS (-1) xs cs ≤ hi) : Calls Try.prog 28 #[.agg #[.slice A n c, .slice B m c2, .int .i64 lo, .int .i64 hi]] w (Ret (.tuple #[.bool true, .slice none 0 0, .int .i64 0]) w) := by
  have hrt := rt_of hx.len hk.len (taskE_zero h).1
  have hwant := chk_lims0 (taskE_zero h).2
  have HX := Lib.hid hx
  have HK := Lib.hid hk
  have HC := Lib.hid (fun w (h1 : Dims w A n xs) (h2 : Lnks w B m cs) => (by have := rcheck25_any A B n m c c2 xs cs lo hi w h1 h2 hcap; rwa [h] at this : Calls Try.prog 23 #[.agg #[.slice A n c, .slice B m c2, .int .i64 lo, .int .i64 hi]] w (Ret (.int .i64 0) w)))
  have HB := Lib.hid (fun w (h1 : Dims w A n xs) (h2 : Lnks w B m cs) => rbounds_any A B n m c c2 xs cs lo hi w h1 h2 hrt)
  have HE := Lib.hid (fun (gr : Bool) w (h1 : Dims w A n xs) (h2 : Lnks w B m cs) => rext_any gr A B n m c c2 xs cs lo hi w h1 h2 hrt)
  have hr1 := hrt.range 1
  have hr2 := hrt.range (-1)
  clear hx hk h hrt
  have hy := has_yes h0
  have hy2 := has_yes h1
  generalize endS 1 xs cs = b1 at *
  generalize endS (-1) xs cs = b2 at *
  go_enter Try.func28, Try.ntmps28
  go_wp2_with fail; refine (HC.out _ (HX.out.ext (by (repeat (first | (with_reducible assumption) | with_reducible exact Ext.refl _ | with_reducible apply Ext.alloc | with_reducible apply Ext.drew | with_reducible apply Ext.drewN | ((with_reducible apply Ext.set); case hp => (first | (simp; done) | (dsimp only; omega) | omega)) | ((with_reducible apply Ext.trans); case k => with_reducible assumption))))) (HK.out.ext (by (repeat (first | (with_reducible assumption) | with_reducible exact Ext.refl _ | with_reducible apply Ext.alloc | with_reducible apply Ext.drew | with_reducible apply Ext.drewN | ((with_reducible apply Ext.set); case hp => (first | (simp; done) | (dsimp only; omega) | omega)) | ((with_reducible apply Ext.trans); case k => with_reducible assumption)))))).mono ?_; rintro e w2 ⟨rfl, h2⟩
  have P : Blk w2 w.heap.size #[.slice A n c, .slice B m c2, .int .i64 lo, .int .i64 hi] 31 := by (repeat (first | (with_reducible assumption) | ((with_reducible apply Blk.new_at); focus (first | (simp; done) | (simp; omega))) | with_reducible apply Blk.alloc | with_reducible apply Blk.drew | with_reducible apply Blk.drewN | with_reducible apply Blk.set | ((with_reducible apply Blk.far); case hp => (first | (simp; done) | (dsimp only; omega))) | ((with_reducible apply Blk.ext); case he => with_reducible assumption)))
  have P0 := P.cell 0
  have P1 := P.cell 1
  have P2 := P.cell 2
  have P3 := P.cell 3
  simp at P0 P1 P2 P3
  have Pl := P.lt
  go_wp2_with fail; refine (HB.out _ (HX.out.ext (by (repeat (first | (with_reducible assumption) | with_reducible exact Ext.refl _ | with_reducible apply Ext.alloc | with_reducible apply Ext.drew | with_reducible apply Ext.drewN | ((with_reducible apply Ext.set); case hp => (first | (simp; done) | (dsimp only; omega) | omega)) | ((with_reducible apply Ext.trans); case k => with_reducible assumption))))) (HK.out.ext (by (repeat (first | (with_reducible assumption) | with_reducible exact Ext.refl _ | with_reducible apply Ext.alloc | with_reducible apply Ext.drew | with_reducible apply Ext.drewN | ((with_reducible apply Ext.set); case hp => (first | (simp; done) | (dsimp only; omega) | omega)) | ((with_reducible apply Ext.trans); case k => with_reducible assumption)))))).mono ?_; rintro e w3 ⟨rfl, h3⟩
  have Q : Blk w3 w.heap.size #[.slice A n c, .slice B m c2, .int .i64 lo, .int .i64 hi] 31 := by (repeat (first | (with_reducible assumption) | ((with_reducible apply Blk.new_at); focus (first | (simp; done) | (simp; omega))) | with_reducible apply Blk.alloc | with_reducible apply Blk.drew | with_reducible apply Blk.drewN | with_reducible apply Blk.set | ((with_reducible apply Blk.far); case hp => (first | (simp; done) | (dsimp only; omega))) | ((with_reducible apply Blk.ext); case he => with_reducible assumption)))
  have Q0 := Q.cell 0
  have Q1 := Q.cell 1
  have Q2 := Q.cell 2
  have Q3 := Q.cell 3
  simp at Q0 Q1 Q2 Q3
  have Ql := Q.lt
  have hs2 := Ext.size h2
  have hs3 := Ext.size h3
  simp only [World.size_alloc] at hs2
  go_wp2_with fail
  refine (rhas_any lo hi b1 _).mono ?_
  rintro e w4 ⟨rfl, h4⟩
  rw [hy]
  have S1 : Blk w4 w.heap.size #[.slice A n c, .slice B m c2, .int .i64 lo, .int .i64 hi] 31 := by (repeat (first | (with_reducible assumption) | ((with_reducible apply Blk.new_at); focus (first | (simp; done) | (simp; omega))) | with_reducible apply Blk.alloc | with_reducible apply Blk.drew | with_reducible apply Blk.drewN | with_reducible apply Blk.set | ((with_reducible apply Blk.far); case hp => (first | (simp; done) | (dsimp only; omega))) | ((with_reducible apply Blk.ext); case he => with_reducible assumption)))
  have S10 := S1.cell 0
  have S11 := S1.cell 1
  have S12 := S1.cell 2
  have S13 := S1.cell 3
  simp at S10 S11 S12 S13
  have S1l := S1.lt
  have L1 : Blk w4 (w3.heap.size) #[.int .i64 b1, .int .i64 b2] 25 := (by (repeat (first | (with_reducible assumption) | ((with_reducible apply Blk.new_at); focus (first | (simp; done) | (simp; omega))) | with_reducible apply Blk.alloc | with_reducible apply Blk.drew | with_reducible apply Blk.drewN | with_reducible apply Blk.set | ((with_reducible apply Blk.far); case hp => (first | (simp; done) | (dsimp only; omega))) | ((with_reducible apply Blk.ext); case he => with_reducible assumption)))); obtain ⟨L11, L12, L13, L14⟩ := L1.c2; have L15 := L1.lt
  go_wp2_with fail
  refine (rhas_any lo hi b2 _).mono ?_
  rintro e w5 ⟨rfl, h5⟩
  rw [hy2]
  have S2 : Blk w5 w.heap.size #[.slice A n c, .slice B m c2, .int .i64 lo, .int .i64 hi] 31 := by (repeat (first | (with_reducible assumption) | ((with_reducible apply Blk.new_at); focus (first | (simp; done) | (simp; omega))) | with_reducible apply Blk.alloc | with_reducible apply Blk.drew | with_reducible apply Blk.drewN | with_reducible apply Blk.set | ((with_reducible apply Blk.far); case hp => (first | (simp; done) | (dsimp only; omega))) | ((with_reducible apply Blk.ext); case he => with_reducible assumption)))
  have S20 := S2.cell 0
  have S21 := S2.cell 1
  have S22 := S2.cell 2
  have S23 := S2.cell 3
  simp at S20 S21 S22 S23
  have S2l := S2.lt
  have L2 : Blk w5 (w3.heap.size) #[.int .i64 b1, .int .i64 b2] 25 := (by (repeat (first | (with_reducible assumption) | ((with_reducible apply Blk.new_at); focus (first | (simp; done) | (simp; omega))) | with_reducible apply Blk.alloc | with_reducible apply Blk.drew | with_reducible apply Blk.drewN | with_reducible apply Blk.set | ((with_reducible apply Blk.far); case hp => (first | (simp; done) | (dsimp only; omega))) | ((with_reducible apply Blk.ext); case he => with_reducible assumption)))); obtain ⟨L21, L22, L23, L24⟩ := L2.c2; have L25 := L2.lt
  go_wp2_with fail
  refine end_t3 (u0 := 2) (u1 := 3) (u2 := 4) rfl rfl ?_
  exact Ret.mk' rfl (by (repeat (first | (with_reducible assumption) | with_reducible exact Ext.refl _ | with_reducible apply Ext.alloc | with_reducible apply Ext.drew | with_reducible apply Ext.drewN | ((with_reducible apply Ext.set); case hp => (first | (simp; done) | (dsimp only; omega) | omega)) | ((with_reducible apply Ext.trans); case k => with_reducible assumption))))
end Go.Proofs.Ytdcedfciaaooiab
