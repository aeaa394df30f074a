/- The reference's Part: the walk. -/
import Derived.Test.YtdcedfciaaooiaaY25
import Derived.Test.YtdcedfciaaooiaaT25
set_option linter.unusedVariables false
namespace Go.Proofs.Ytdcedfciaaooiaa
open Go.RowKit

set_option maxRecDepth 20000 in
set_option maxHeartbeats 4000000 in
theorem rpart_bad (sum : Int) (A B : Option Addr) (n m c c2 : Nat) (xs : List Dim) (cs : List Lk) (lo hi : Int) (w : World) (hx : Dims w A n xs) (hk : Lnks w B m cs) (hcap : m ≤ c2) (E : Int) (h : taskE xs cs lo hi = E) (hE : (E != 0) = true) : Calls Try.prog 53 #[.agg #[.slice A n c, .slice B m c2, .int .i64 lo, .int .i64 hi], .int .i64 sum] w (Ret (.tuple #[.slice none 0 0, .int .i64 E]) w) := by
  have HX := Lib.hid hx
  have HK := Lib.hid hk
  have HC := Lib.hid (fun w (h1 : Dims w A n xs) (h2 : Lnks w B m cs) => (by have := rcheck25_any A B n m c c2 xs cs lo hi w h1 h2 hcap; rwa [h] at this : Calls Try.prog 95 #[.agg #[.slice A n c, .slice B m c2, .int .i64 lo, .int .i64 hi]] w (Ret (.int .i64 E) w)))
  clear hx hk h
  go_enter Try.func53, Try.ntmps53
  go_wp2_with fail; refine (HC.out _ (HX.out.ext (by (repeat (first | (with_reducible assumption) | with_reducible exact Ext.refl _ | with_reducible apply Ext.alloc | with_reducible apply Ext.drew | with_reducible apply Ext.drewN | ((with_reducible apply Ext.set); case hp => (first | (simp; done) | (dsimp only; omega) | omega)) | ((with_reducible apply Ext.trans); case k => with_reducible assumption))))) (HK.out.ext (by (repeat (first | (with_reducible assumption) | with_reducible exact Ext.refl _ | with_reducible apply Ext.alloc | with_reducible apply Ext.drew | with_reducible apply Ext.drewN | ((with_reducible apply Ext.set); case hp => (first | (simp; done) | (dsimp only; omega) | omega)) | ((with_reducible apply Ext.trans); case k => with_reducible assumption)))))).mono ?_; rintro e w2 ⟨rfl, h2⟩
  go_wp2_with fail
  go_ret2
  exact Ret.mk' rfl (by (repeat (first | (with_reducible assumption) | with_reducible exact Ext.refl _ | with_reducible apply Ext.alloc | with_reducible apply Ext.drew | with_reducible apply Ext.drewN | ((with_reducible apply Ext.set); case hp => (first | (simp; done) | (dsimp only; omega) | omega)) | ((with_reducible apply Ext.trans); case k => with_reducible assumption))))
set_option maxRecDepth 20000 in
set_option maxHeartbeats 4000000 in
theorem rpart_out (sum : Int) (A B : Option Addr) (n m c c2 : Nat) (xs : List Dim) (cs : List Lk) (lo hi : Int) (w : World) (hx : Dims w A n xs) (hk : Lnks w B m cs) (hcap : m ≤ c2) (h : taskE xs cs lo hi = 0) (hsum : sum < endS 1 xs cs ∨ endS (-1) xs cs < sum) : Calls Try.prog 53 #[.agg #[.slice A n c, .slice B m c2, .int .i64 lo, .int .i64 hi], .int .i64 sum] w (Ret (.tuple #[.slice none 0 0, .int .i64 2]) w) := by
  have hrt := rt_of hx.len hk.len (taskE_zero h).1
  have hwant := chk_lims0 (taskE_zero h).2
  have HX := Lib.hid hx
  have HK := Lib.hid hk
  have HC := Lib.hid (fun w (h1 : Dims w A n xs) (h2 : Lnks w B m cs) => (by have := rcheck25_any A B n m c c2 xs cs lo hi w h1 h2 hcap; rwa [h] at this : Calls Try.prog 95 #[.agg #[.slice A n c, .slice B m c2, .int .i64 lo, .int .i64 hi]] w (Ret (.int .i64 0) w)))
  have HB := Lib.hid (fun w (h1 : Dims w A n xs) (h2 : Lnks w B m cs) => rbounds_any A B n m c c2 xs cs lo hi w h1 h2 hrt)
  have HE := Lib.hid (fun (gr : Bool) w (h1 : Dims w A n xs) (h2 : Lnks w B m cs) => rext_any gr A B n m c c2 xs cs lo hi w h1 h2 hrt)
  have hr1 := hrt.range 1
  have hr2 := hrt.range (-1)
  clear hx hk h hrt
  generalize endS 1 xs cs = b1 at *
  generalize endS (-1) xs cs = b2 at *
  have hcase : sum < b1 ∨ (b1 ≤ sum ∧ b2 < sum) := by omega
  rcases hcase with hc | hc
  all_goals
    go_enter Try.func53, Try.ntmps53
    go_wp2_with fail; refine (HC.out _ (HX.out.ext (by (repeat (first | (with_reducible assumption) | with_reducible exact Ext.refl _ | with_reducible apply Ext.alloc | with_reducible apply Ext.drew | with_reducible apply Ext.drewN | ((with_reducible apply Ext.set); case hp => (first | (simp; done) | (dsimp only; omega) | omega)) | ((with_reducible apply Ext.trans); case k => with_reducible assumption))))) (HK.out.ext (by (repeat (first | (with_reducible assumption) | with_reducible exact Ext.refl _ | with_reducible apply Ext.alloc | with_reducible apply Ext.drew | with_reducible apply Ext.drewN | ((with_reducible apply Ext.set); case hp => (first | (simp; done) | (dsimp only; omega) | omega)) | ((with_reducible apply Ext.trans); case k => with_reducible assumption)))))).mono ?_; rintro e w2 ⟨rfl, h2⟩
    have P : Blk w2 w.heap.size #[.slice A n c, .slice B m c2, .int .i64 lo, .int .i64 hi] 89 := by (repeat (first | (with_reducible assumption) | ((with_reducible apply Blk.new_at); focus (first | (simp; done) | (simp; omega))) | with_reducible apply Blk.alloc | with_reducible apply Blk.drew | with_reducible apply Blk.drewN | with_reducible apply Blk.set | ((with_reducible apply Blk.far); case hp => (first | (simp; done) | (dsimp only; omega))) | ((with_reducible apply Blk.ext); case he => with_reducible assumption)))
    have P0 := P.cell 0
    have P1 := P.cell 1
    have P2 := P.cell 2
    have P3 := P.cell 3
    simp at P0 P1 P2 P3
    have Pl := P.lt
    go_wp2_with fail; refine (HB.out _ (HX.out.ext (by (repeat (first | (with_reducible assumption) | with_reducible exact Ext.refl _ | with_reducible apply Ext.alloc | with_reducible apply Ext.drew | with_reducible apply Ext.drewN | ((with_reducible apply Ext.set); case hp => (first | (simp; done) | (dsimp only; omega) | omega)) | ((with_reducible apply Ext.trans); case k => with_reducible assumption))))) (HK.out.ext (by (repeat (first | (with_reducible assumption) | with_reducible exact Ext.refl _ | with_reducible apply Ext.alloc | with_reducible apply Ext.drew | with_reducible apply Ext.drewN | ((with_reducible apply Ext.set); case hp => (first | (simp; done) | (dsimp only; omega) | omega)) | ((with_reducible apply Ext.trans); case k => with_reducible assumption)))))).mono ?_; rintro e w3 ⟨rfl, h3⟩
    go_wp2_with fail
    go_ret2
    exact Ret.mk' rfl (by (repeat (first | (with_reducible assumption) | with_reducible exact Ext.refl _ | with_reducible apply Ext.alloc | with_reducible apply Ext.drew | with_reducible apply Ext.drewN | ((with_reducible apply Ext.set); case hp => (first | (simp; done) | (dsimp only; omega) | omega)) | ((with_reducible apply Ext.trans); case k => with_reducible assumption))))
set_option maxRecDepth 20000 in
set_option maxHeartbeats 4000000 in
theorem rpart_ok (sum : Int) (A B : Option Addr) (n m c c2 : Nat) (xs : List Dim) (cs : List Lk) (lo hi : Int) (w : World) (hx : Dims w A n xs) (hk : Lnks w B m cs) (hcap : m ≤ c2) (h : taskE xs cs lo hi = 0) (hsum : endS 1 xs cs ≤ sum ∧ sum ≤ endS (-1) xs cs) : Calls Try.prog 53 #[.agg #[.slice A n c, .slice B m c2, .int .i64 lo, .int .i64 hi], .int .i64 sum] w (fun e w' => ∃ g cap cur, e = .returned (.tuple #[.slice (some ⟨g, 0, none⟩) n cap, .int .i64 0]) ∧ IRow w' w.heap.size g n cur (sumP xs cs (sum - endS 1 xs cs)) ∧ Ext w w') := by
  have hrt0 := rt_of hx.len hk.len (taskE_zero h).1
  have HRT := Lib.hid hrt0
  have HPR := Lib.hid (part_range hrt0)
  have HPE := Lib.hid (part_ext hrt0 false)
  have hxl := hrt0.xl
  have hcl := hrt0.cl
  have hm256 := hrt0.m256
  have hn256 := hrt0.n256
  have hm0 := hrt0.m0
  have hn0 : 0 < n := by have := hrt0.mem 0 hrt0.m0; omega
  obtain ⟨bA, oA, rfl, hcA⟩ := hx.at_ hn0
  obtain ⟨bB, oB, rfl, hcB⟩ := hk.at_ hm0
  have HCA := Lib.hid hcA
  have HCB := Lib.hid hcB
  clear hcA hcB hrt0
  have hrt := rt_of hx.len hk.len (taskE_zero h).1
  have hwant := chk_lims0 (taskE_zero h).2
  have HX := Lib.hid hx
  have HK := Lib.hid hk
  have HC := Lib.hid (fun w (h1 : Dims w (some ⟨bA, oA, none⟩) n xs) (h2 : Lnks w (some ⟨bB, oB, none⟩) m cs) => (by have := rcheck25_any _ _ n m c c2 xs cs lo hi w h1 h2 hcap; rwa [h] at this : Calls Try.prog 95 #[.agg #[.slice (some ⟨bA, oA, none⟩) n c, .slice (some ⟨bB, oB, none⟩) m c2, .int .i64 lo, .int .i64 hi]] w (Ret (.int .i64 0) w)))
  have HB := Lib.hid (fun w (h1 : Dims w (some ⟨bA, oA, none⟩) n xs) (h2 : Lnks w (some ⟨bB, oB, none⟩) m cs) => rbounds_any _ _ n m c c2 xs cs lo hi w h1 h2 hrt)
  have HE := Lib.hid (fun (gr : Bool) w (h1 : Dims w (some ⟨bA, oA, none⟩) n xs) (h2 : Lnks w (some ⟨bB, oB, none⟩) m cs) => rext_any gr _ _ n m c c2 xs cs lo hi w h1 h2 hrt)
  have hr1 := hrt.range 1
  have hr2 := hrt.range (-1)
  clear hx hk h hrt
  generalize hb1 : endS 1 xs cs = b1 at *
  generalize hb2 : endS (-1) xs cs = b2 at *
  go_enter Try.func53, Try.ntmps53
  go_wp2_with fail; refine (HC.out _ (HX.out.ext (by (repeat (first | (with_reducible assumption) | with_reducible exact Ext.refl _ | with_reducible apply Ext.alloc | with_reducible apply Ext.drew | with_reducible apply Ext.drewN | ((with_reducible apply Ext.set); case hp => (first | (simp; done) | (dsimp only; omega) | omega)) | ((with_reducible apply Ext.trans); case k => with_reducible assumption))))) (HK.out.ext (by (repeat (first | (with_reducible assumption) | with_reducible exact Ext.refl _ | with_reducible apply Ext.alloc | with_reducible apply Ext.drew | with_reducible apply Ext.drewN | ((with_reducible apply Ext.set); case hp => (first | (simp; done) | (dsimp only; omega) | omega)) | ((with_reducible apply Ext.trans); case k => with_reducible assumption)))))).mono ?_; rintro e w2 ⟨rfl, h2⟩
  have P : Blk w2 w.heap.size #[.slice (some ⟨bA, oA, none⟩) n c, .slice (some ⟨bB, oB, none⟩) m c2, .int .i64 lo, .int .i64 hi] 89 := by (repeat (first | (with_reducible assumption) | ((with_reducible apply Blk.new_at); focus (first | (simp; done) | (simp; omega))) | with_reducible apply Blk.alloc | with_reducible apply Blk.drew | with_reducible apply Blk.drewN | with_reducible apply Blk.set | ((with_reducible apply Blk.far); case hp => (first | (simp; done) | (dsimp only; omega))) | ((with_reducible apply Blk.ext); case he => with_reducible assumption)))
  have P0 := P.cell 0
  have P1 := P.cell 1
  have P2 := P.cell 2
  have P3 := P.cell 3
  simp at P0 P1 P2 P3
  have Pl := P.lt
  go_wp2_with fail; refine (HB.out _ (HX.out.ext (by (repeat (first | (with_reducible assumption) | with_reducible exact Ext.refl _ | with_reducible apply Ext.alloc | with_reducible apply Ext.drew | with_reducible apply Ext.drewN | ((with_reducible apply Ext.set); case hp => (first | (simp; done) | (dsimp only; omega) | omega)) | ((with_reducible apply Ext.trans); case k => with_reducible assumption))))) (HK.out.ext (by (repeat (first | (with_reducible assumption) | with_reducible exact Ext.refl _ | with_reducible apply Ext.alloc | with_reducible apply Ext.drew | with_reducible apply Ext.drewN | ((with_reducible apply Ext.set); case hp => (first | (simp; done) | (dsimp only; omega) | omega)) | ((with_reducible apply Ext.trans); case k => with_reducible assumption)))))).mono ?_; rintro e w3 ⟨rfl, h3⟩
  have Q : Blk w3 w.heap.size #[.slice (some ⟨bA, oA, none⟩) n c, .slice (some ⟨bB, oB, none⟩) m c2, .int .i64 lo, .int .i64 hi] 89 := by (repeat (first | (with_reducible assumption) | ((with_reducible apply Blk.new_at); focus (first | (simp; done) | (simp; omega))) | with_reducible apply Blk.alloc | with_reducible apply Blk.drew | with_reducible apply Blk.drewN | with_reducible apply Blk.set | ((with_reducible apply Blk.far); case hp => (first | (simp; done) | (dsimp only; omega))) | ((with_reducible apply Blk.ext); case he => with_reducible assumption)))
  have Q0 := Q.cell 0
  have Q1 := Q.cell 1
  have Q2 := Q.cell 2
  have Q3 := Q.cell 3
  simp at Q0 Q1 Q2 Q3
  have Ql := Q.lt
  have hs2 := Ext.size h2
  have hs3 := Ext.size h3
  simp only [World.size_alloc] at hs2
  have hd0 : 0 ≤ sum - b1 ∧ sum - b1 ≤ 60000000 := by omega
  go_wp2_with fail
  refine (HE.out false _ (HX.out.ext (by (repeat (first | (with_reducible assumption) | with_reducible exact Ext.refl _ | with_reducible apply Ext.alloc | with_reducible apply Ext.drew | with_reducible apply Ext.drewN | ((with_reducible apply Ext.set); case hp => (first | (simp; done) | (dsimp only; omega) | omega)) | ((with_reducible apply Ext.trans); case k => with_reducible assumption))))) (HK.out.ext (by (repeat (first | (with_reducible assumption) | with_reducible exact Ext.refl _ | with_reducible apply Ext.alloc | with_reducible apply Ext.drew | with_reducible apply Ext.drewN | ((with_reducible apply Ext.set); case hp => (first | (simp; done) | (dsimp only; omega) | omega)) | ((with_reducible apply Ext.trans); case k => with_reducible assumption)))))).mono ?_
  rintro e w4 ⟨g, cap, cur, rfl, hI, h4⟩
  rw [← HPE.out] at hI
  have hs4 := Ext.size h4
  simp only [World.size_alloc] at hs4 hI
  have hge := hI.1
  have X4 : Blk w4 (w3.heap.size) #[.int .i64 b1, .int .i64 b2] 23 := (by (repeat (first | (with_reducible assumption) | ((with_reducible apply Blk.new_at); focus (first | (simp; done) | (simp; omega))) | with_reducible apply Blk.alloc | with_reducible apply Blk.drew | with_reducible apply Blk.drewN | with_reducible apply Blk.set | ((with_reducible apply Blk.far); case hp => (first | (simp; done) | (dsimp only; omega))) | ((with_reducible apply Blk.ext); case he => with_reducible assumption)))); obtain ⟨X41, X42, X43, X44⟩ := X4.c2; have X45 := X4.lt
  have R : Blk w4 w.heap.size #[.slice (some ⟨bA, oA, none⟩) n c, .slice (some ⟨bB, oB, none⟩) m c2, .int .i64 lo, .int .i64 hi] 89 := by (repeat (first | (with_reducible assumption) | ((with_reducible apply Blk.new_at); focus (first | (simp; done) | (simp; omega))) | with_reducible apply Blk.alloc | with_reducible apply Blk.drew | with_reducible apply Blk.drewN | with_reducible apply Blk.set | ((with_reducible apply Blk.far); case hp => (first | (simp; done) | (dsimp only; omega))) | ((with_reducible apply Blk.ext); case he => with_reducible assumption)))
  have R0 := R.cell 0
  have R1 := R.cell 1
  have R2 := R.cell 2
  have R3 := R.cell 3
  simp at R0 R1 R2 R3
  have Rl := R.lt
  have hw4 : Ext w w4 := by (repeat (first | (with_reducible assumption) | with_reducible exact Ext.refl _ | with_reducible apply Ext.alloc | with_reducible apply Ext.drew | with_reducible apply Ext.drewN | ((with_reducible apply Ext.set); case hp => (first | (simp; done) | (dsimp only; omega) | omega)) | ((with_reducible apply Ext.trans); case k => with_reducible assumption)))
  go_wp2_with fail
  go_loopw [9, 10] (fun s9 i wr => ∃ q : Nat, q ≤ m ∧ i = .int .i64 q ∧ Ext w wr ∧ Blk wr w.heap.size #[.slice (some ⟨bA, oA, none⟩) n c, .slice (some ⟨bB, oB, none⟩) m c2, .int .i64 lo, .int .i64 hi] 89 ∧ ∃ left cur1, s9 = .int .i64 left ∧ Hid (left = (foldP xs (cs.take q) (partL 1 xs cs, sum - b1)).2) ∧ ∃ vs, IRow wr (w.heap.size + 1) g n cur1 vs ∧ Hid (vs = (foldP xs (cs.take q) (partL 1 xs cs, sum - b1)).1)) (fun _ i _ => m - (intOf i).toNat)
  case atStart => exact ⟨0, Nat.zero_le _, rfl, hw4, by (repeat (first | (with_reducible assumption) | ((with_reducible apply Blk.new_at); focus (first | (simp; done) | (simp; omega))) | with_reducible apply Blk.alloc | with_reducible apply Blk.drew | with_reducible apply Blk.drewN | with_reducible apply Blk.set | ((with_reducible apply Blk.far); case hp => (first | (simp; done) | (dsimp only; omega))) | ((with_reducible apply Blk.ext); case he => with_reducible assumption))), sum - b1, cur, rfl, Lib.hid rfl, _, ⟨by omega, hI.2⟩, Lib.hid rfl⟩
  case round =>
    obtain ⟨q, hq, rfl, hE, hT, left, cur1, rfl, hL, vs, qR, hV⟩ := hrel
    have hTl := hT.lt
    have T0 := hT.cell 0
    have T1 := hT.cell 1
    have T2 := hT.cell 2
    have T3 := hT.cell 3
    simp at T0 T1 T2 T3
    have hgr := qR.lt
    by_cases hlt : q < m
    · obtain ⟨⟨y, bk⟩, hy⟩ : ∃ y, cs.getD q zeroK = y := ⟨_, rfl⟩
      obtain ⟨l1, l2⟩ := Lnks.cells HCB.out hE q hlt _ hy
      have hfk := HRT.out.fine q hlt
      rw [hy] at hfk
      obtain ⟨g0, g1, g2, g3, g4, g5⟩ := hfk
      dsimp only at l1 l2 g0 g1
      obtain ⟨p, rfl⟩ := Int.eq_ofNat_of_zero_le g0
      have hp : p < n := by omega
      obtain ⟨d, hd⟩ : ∃ d, xs.getD p zeroD = d := ⟨_, rfl⟩
      obtain ⟨-, -, -, a4, a5⟩ := Dims.cells HCA.out hE p hp d hd
      have hbl : bA < wr.heap.size := World.block_lt_of_cell? wr _ a4
      have hbl2 : bB < wr.heap.size := World.block_lt_of_cell? wr _ l1
      have hdk : dimK xs ⟨(p : Int), bk⟩ = d := by unfold dimK; rw [Int.toNat_natCast]; exact hd
      rw [hdk] at g2 g3 g4 g5
      have hck : cs.take (q + 1) = cs.take q ++ [⟨(p : Int), bk⟩] := by rw [take_succK (by omega), hy]
      have hfr := foldP_range (xs := xs) (Y := 100000) (X := 60000000) (partL 1 xs cs, sum - b1) hd0 HPR.out (by omega) (cs.take q).length (cs.take q) rfl (fun x hx => by
        obtain ⟨i, hi, rfl⟩ := List.mem_iff_getElem.1 hx
        rw [List.length_take] at hi
        have := HRT.out.fine i (by omega)
        rw [List.getElem_take]
        rwa [List.getD_eq_getElem?_getD, List.getElem?_eq_getElem (by omega)] at this)
      have hfs : foldP xs (cs.take (q + 1)) (partL 1 xs cs, sum - b1) = stepP xs (vs, left) ⟨(p : Int), bk⟩ := by rw [hck, foldP_snoc, hL.out, hV.out]
      rw [← hL.out, ← hV.out, List.length_take, Nat.min_eq_left (by omega)] at hfr
      obtain ⟨⟨f1, f2⟩, f3⟩ := hfr
      have f4 := f3 p
      obtain ⟨v, hv⟩ : ∃ v, vs.getD p 0 = v := ⟨_, rfl⟩
      obtain ⟨rc, rf⟩ := qR.cell hp
      rw [hv] at rc f4
      obtain ⟨D, hD⟩ : ∃ D, d.hi - d.lo = D := ⟨_, rfl⟩
      have hDr : -200000 ≤ D ∧ D ≤ 200000 := by omega
      have hti : takeI xs ⟨(p : Int), bk⟩ left = if D < left then D else left := by unfold takeI; rw [hdk, hD]
      have hst : ∀ by_, takeI xs ⟨(p : Int), bk⟩ left = by_ → stepP xs (vs, left) ⟨(p : Int), bk⟩ = (vs.set p (v + sgn ⟨(p : Int), bk⟩ * by_), left - by_) := fun by_ hb => by
        unfold stepP
        dsimp only
        rw [hb, Int.toNat_natCast, hv]
      clear hd hdk hck hy hL hV f3
      have hx3 : D < left ∨ left < D ∨ left = D := by omega
      rcases hx3 with hc | hc | hc
      · rw [if_pos hc] at hti
        have hfin := hfs.trans (hst _ hti)
        clear hfs hst hti
        cases bk
        · obtain ⟨N, hN⟩ : ∃ N, v + D = N := ⟨_, rfl⟩
          have HN := Lib.hid (And.intro hfin (show v + sgn ⟨(p : Int), false⟩ * D = N from by rw [← hN]; simp [sgn]))
          clear hfin
          go_wp2_with fail
          go_roundw
          case rel =>
            have hP := qR.put hp N
            have hP3 := hP.ext (((Ext.refl _).alloc (.cells #[.int .i64 (p : Int), .bool false] 145)).alloc (.cells #[.int .i64 d.lo, .int .i64 d.hi] 23))
            exact ⟨q + 1, by omega, by go_num, by (repeat (first | (with_reducible assumption) | with_reducible exact Ext.refl _ | with_reducible apply Ext.alloc | with_reducible apply Ext.drew | with_reducible apply Ext.drewN | ((with_reducible apply Ext.set); case hp => (first | (simp; done) | (dsimp only; omega) | omega)) | ((with_reducible apply Ext.trans); case k => with_reducible assumption))), by (repeat (first | (with_reducible assumption) | ((with_reducible apply Blk.new_at); focus (first | (simp; done) | (simp; omega))) | with_reducible apply Blk.alloc | with_reducible apply Blk.drew | with_reducible apply Blk.drewN | with_reducible apply Blk.set | ((with_reducible apply Blk.far); case hp => (first | (simp; done) | (dsimp only; omega))) | ((with_reducible apply Blk.ext); case he => with_reducible assumption))), (left - D), cur1.setIfInBounds p (.int .i64 N), rfl, Lib.hid (by rw [HN.out.1]), _, hP3, Lib.hid (by rw [HN.out.1]; dsimp only; rw [HN.out.2])⟩
          case measure => simp [intOf]; omega
        · obtain ⟨N, hN⟩ : ∃ N, v - D = N := ⟨_, rfl⟩
          have HN := Lib.hid (And.intro hfin (show v + sgn ⟨(p : Int), true⟩ * D = N from by rw [← hN]; simp [sgn]; omega))
          clear hfin
          go_wp2_with fail
          go_roundw
          case rel =>
            have hP := qR.put hp N
            have hP3 := hP.ext (((Ext.refl _).alloc (.cells #[.int .i64 (p : Int), .bool true] 145)).alloc (.cells #[.int .i64 d.lo, .int .i64 d.hi] 23))
            exact ⟨q + 1, by omega, by go_num, by (repeat (first | (with_reducible assumption) | with_reducible exact Ext.refl _ | with_reducible apply Ext.alloc | with_reducible apply Ext.drew | with_reducible apply Ext.drewN | ((with_reducible apply Ext.set); case hp => (first | (simp; done) | (dsimp only; omega) | omega)) | ((with_reducible apply Ext.trans); case k => with_reducible assumption))), by (repeat (first | (with_reducible assumption) | ((with_reducible apply Blk.new_at); focus (first | (simp; done) | (simp; omega))) | with_reducible apply Blk.alloc | with_reducible apply Blk.drew | with_reducible apply Blk.drewN | with_reducible apply Blk.set | ((with_reducible apply Blk.far); case hp => (first | (simp; done) | (dsimp only; omega))) | ((with_reducible apply Blk.ext); case he => with_reducible assumption))), (left - D), cur1.setIfInBounds p (.int .i64 N), rfl, Lib.hid (by rw [HN.out.1]), _, hP3, Lib.hid (by rw [HN.out.1]; dsimp only; rw [HN.out.2])⟩
          case measure => simp [intOf]; omega
      · rw [if_neg (by omega)] at hti
        have hfin := hfs.trans (hst _ hti)
        clear hfs hst hti
        cases bk
        · obtain ⟨N, hN⟩ : ∃ N, v + left = N := ⟨_, rfl⟩
          have HN := Lib.hid (And.intro hfin (show v + sgn ⟨(p : Int), false⟩ * left = N from by rw [← hN]; simp [sgn]))
          clear hfin
          go_wp2_with fail
          go_roundw
          case rel =>
            have hP := qR.put hp N
            have hP3 := hP.ext (((Ext.refl _).alloc (.cells #[.int .i64 (p : Int), .bool false] 145)).alloc (.cells #[.int .i64 d.lo, .int .i64 d.hi] 23))
            exact ⟨q + 1, by omega, by go_num, by (repeat (first | (with_reducible assumption) | with_reducible exact Ext.refl _ | with_reducible apply Ext.alloc | with_reducible apply Ext.drew | with_reducible apply Ext.drewN | ((with_reducible apply Ext.set); case hp => (first | (simp; done) | (dsimp only; omega) | omega)) | ((with_reducible apply Ext.trans); case k => with_reducible assumption))), by (repeat (first | (with_reducible assumption) | ((with_reducible apply Blk.new_at); focus (first | (simp; done) | (simp; omega))) | with_reducible apply Blk.alloc | with_reducible apply Blk.drew | with_reducible apply Blk.drewN | with_reducible apply Blk.set | ((with_reducible apply Blk.far); case hp => (first | (simp; done) | (dsimp only; omega))) | ((with_reducible apply Blk.ext); case he => with_reducible assumption))), (0), cur1.setIfInBounds p (.int .i64 N), rfl, Lib.hid (by rw [HN.out.1]; simp), _, hP3, Lib.hid (by rw [HN.out.1]; dsimp only; rw [HN.out.2])⟩
          case measure => simp [intOf]; omega
        · obtain ⟨N, hN⟩ : ∃ N, v - left = N := ⟨_, rfl⟩
          have HN := Lib.hid (And.intro hfin (show v + sgn ⟨(p : Int), true⟩ * left = N from by rw [← hN]; simp [sgn]; omega))
          clear hfin
          go_wp2_with fail
          go_roundw
          case rel =>
            have hP := qR.put hp N
            have hP3 := hP.ext (((Ext.refl _).alloc (.cells #[.int .i64 (p : Int), .bool true] 145)).alloc (.cells #[.int .i64 d.lo, .int .i64 d.hi] 23))
            exact ⟨q + 1, by omega, by go_num, by (repeat (first | (with_reducible assumption) | with_reducible exact Ext.refl _ | with_reducible apply Ext.alloc | with_reducible apply Ext.drew | with_reducible apply Ext.drewN | ((with_reducible apply Ext.set); case hp => (first | (simp; done) | (dsimp only; omega) | omega)) | ((with_reducible apply Ext.trans); case k => with_reducible assumption))), by (repeat (first | (with_reducible assumption) | ((with_reducible apply Blk.new_at); focus (first | (simp; done) | (simp; omega))) | with_reducible apply Blk.alloc | with_reducible apply Blk.drew | with_reducible apply Blk.drewN | with_reducible apply Blk.set | ((with_reducible apply Blk.far); case hp => (first | (simp; done) | (dsimp only; omega))) | ((with_reducible apply Blk.ext); case he => with_reducible assumption))), (0), cur1.setIfInBounds p (.int .i64 N), rfl, Lib.hid (by rw [HN.out.1]; simp), _, hP3, Lib.hid (by rw [HN.out.1]; dsimp only; rw [HN.out.2])⟩
          case measure => simp [intOf]; omega
      · subst hc
        rw [if_neg (by omega)] at hti
        have hfin := hfs.trans (hst _ hti)
        clear hfs hst hti
        cases bk
        · obtain ⟨N, hN⟩ : ∃ N, v + left = N := ⟨_, rfl⟩
          have HN := Lib.hid (And.intro hfin (show v + sgn ⟨(p : Int), false⟩ * left = N from by rw [← hN]; simp [sgn]))
          clear hfin
          go_wp2_with fail
          go_roundw
          case rel =>
            have hP := qR.put hp N
            have hP3 := hP.ext (((Ext.refl _).alloc (.cells #[.int .i64 (p : Int), .bool false] 145)).alloc (.cells #[.int .i64 d.lo, .int .i64 d.hi] 23))
            exact ⟨q + 1, by omega, by go_num, by (repeat (first | (with_reducible assumption) | with_reducible exact Ext.refl _ | with_reducible apply Ext.alloc | with_reducible apply Ext.drew | with_reducible apply Ext.drewN | ((with_reducible apply Ext.set); case hp => (first | (simp; done) | (dsimp only; omega) | omega)) | ((with_reducible apply Ext.trans); case k => with_reducible assumption))), by (repeat (first | (with_reducible assumption) | ((with_reducible apply Blk.new_at); focus (first | (simp; done) | (simp; omega))) | with_reducible apply Blk.alloc | with_reducible apply Blk.drew | with_reducible apply Blk.drewN | with_reducible apply Blk.set | ((with_reducible apply Blk.far); case hp => (first | (simp; done) | (dsimp only; omega))) | ((with_reducible apply Blk.ext); case he => with_reducible assumption))), (0), cur1.setIfInBounds p (.int .i64 N), rfl, Lib.hid (by rw [HN.out.1]; simp), _, hP3, Lib.hid (by rw [HN.out.1]; dsimp only; rw [HN.out.2])⟩
          case measure => simp [intOf]; omega
        · obtain ⟨N, hN⟩ : ∃ N, v - left = N := ⟨_, rfl⟩
          have HN := Lib.hid (And.intro hfin (show v + sgn ⟨(p : Int), true⟩ * left = N from by rw [← hN]; simp [sgn]; omega))
          clear hfin
          go_wp2_with fail
          go_roundw
          case rel =>
            have hP := qR.put hp N
            have hP3 := hP.ext (((Ext.refl _).alloc (.cells #[.int .i64 (p : Int), .bool true] 145)).alloc (.cells #[.int .i64 d.lo, .int .i64 d.hi] 23))
            exact ⟨q + 1, by omega, by go_num, by (repeat (first | (with_reducible assumption) | with_reducible exact Ext.refl _ | with_reducible apply Ext.alloc | with_reducible apply Ext.drew | with_reducible apply Ext.drewN | ((with_reducible apply Ext.set); case hp => (first | (simp; done) | (dsimp only; omega) | omega)) | ((with_reducible apply Ext.trans); case k => with_reducible assumption))), by (repeat (first | (with_reducible assumption) | ((with_reducible apply Blk.new_at); focus (first | (simp; done) | (simp; omega))) | with_reducible apply Blk.alloc | with_reducible apply Blk.drew | with_reducible apply Blk.drewN | with_reducible apply Blk.set | ((with_reducible apply Blk.far); case hp => (first | (simp; done) | (dsimp only; omega))) | ((with_reducible apply Blk.ext); case he => with_reducible assumption))), (0), cur1.setIfInBounds p (.int .i64 N), rfl, Lib.hid (by rw [HN.out.1]; simp), _, hP3, Lib.hid (by rw [HN.out.1]; dsimp only; rw [HN.out.2])⟩
          case measure => simp [intOf]; omega
    · obtain rfl : m = q := by omega
      have hV2 := hV.out
      rw [show cs.take m = cs from by rw [← hcl, List.take_length]] at hV2
      have HV2 := Lib.hid hV2
      clear hL hV hV2
      go_wp2_with fail
      go_ret2
      refine ⟨g, cap, cur1, rfl, ⟨by omega, ?_⟩, hE⟩
      have : sumP xs cs (sum - b1) = vs := HV2.out.symm
      rw [this]
      exact qR.2
end Go.Proofs.Ytdcedfciaaooiaa
