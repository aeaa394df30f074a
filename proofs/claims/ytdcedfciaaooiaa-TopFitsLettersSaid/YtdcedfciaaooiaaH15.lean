/- Package fit on right fits. -/
import Derived.Test.YtdcedfciaaooiaaG15
set_option linter.unusedVariables false
namespace Go.Proofs.Ytdcedfciaaooiaa
open Go.RowKit

set_option maxRecDepth 20000 in
theorem glim_ok (n : Int) (b : Bool) (k : Nat) (g : Int) (hn : sizeE n = 0) (hk : k < 10) (hg : classE (k : Int) g = 0) (hin : inE n (awayI n b k g) = 0) (w : World) :
    Calls Try.prog 105 #[.int .i64 n, .agg #[.bool b, .int .i64 (k : Int), .int .i64 g]] w (Ret (.tuple #[.agg #[.int .i64 (n + (awayI n b k g).lo), .int .i64 (n + (awayI n b k g).hi)], .int .i64 0]) w) := by
  have h1 := sizeE_zero hn
  have h2 := classE_zero hg
  have h3 := inE_zero hin
  have hr := away_range n b hk h2.2.2.1 h2.2.2.2
  have HD := Lib.hid (gdev_ok n b k g hn hk hg)
  obtain ⟨lo, hlo⟩ : ∃ v, (awayI n b k g).lo = v := ⟨_, rfl⟩
  obtain ⟨hi, hhi⟩ : ∃ v, (awayI n b k g).hi = v := ⟨_, rfl⟩
  rw [hlo, hhi] at HD h3 hr
  rw [hlo, hhi]
  clear hlo hhi hin hn hg
  go_enter Try.func105, Try.ntmps105
  go_wp2_with fail; refine (HD.out _).mono ?_; rintro e w2 ⟨rfl, h2'⟩
  have B : Blk w2 (w.heap.size + 1) #[.int .i64 0, .int .i64 0] 23 := (by (repeat (first | (with_reducible assumption) | ((with_reducible apply Blk.new_at); focus (first | (simp; done) | (simp; omega))) | with_reducible apply Blk.alloc | with_reducible apply Blk.drew | with_reducible apply Blk.drewN | with_reducible apply Blk.set | ((with_reducible apply Blk.far); case hp => (first | (simp; done) | (dsimp only; omega))) | ((with_reducible apply Blk.ext); case he => with_reducible assumption)))); obtain ⟨B1, B2, B3, B4⟩ := B.c2; have B5 := B.lt
  have hs := Ext.size h2'
  simp only [World.size_alloc] at hs
  go_wp2_with fail
  refine end_ct rfl rfl _ _ _ _ _ rfl rfl (by (repeat (first | (with_reducible assumption) | ((with_reducible apply Blk.new_at); focus (first | (simp; done) | (simp; omega))) | with_reducible apply Blk.alloc | with_reducible apply Blk.drew | with_reducible apply Blk.drewN | with_reducible apply Blk.set | ((with_reducible apply Blk.far); case hp => (first | (simp; done) | (dsimp only; omega))) | ((with_reducible apply Blk.ext); case he => with_reducible assumption)))) Try.underlying23 rfl (by exact szL) ?_
  exact Ret.mk' (by simp) (by (repeat (first | (with_reducible assumption) | with_reducible exact Ext.refl _ | with_reducible apply Ext.alloc | with_reducible apply Ext.drew | with_reducible apply Ext.drewN | ((with_reducible apply Ext.set); case hp => (first | (simp; done) | (dsimp only; omega) | omega)) | ((with_reducible apply Ext.trans); case k => with_reducible assumption))))

theorem clearance_any (a b c d : Int) (ha : -1000000 ≤ a ∧ a ≤ 1000000) (hb : -1000000 ≤ b ∧ b ≤ 1000000) (hc : -1000000 ≤ c ∧ c ≤ 1000000) (hd : -1000000 ≤ d ∧ d ≤ 1000000) (w : World) :
    Calls Try.prog 80 #[.agg #[.int .i64 a, .int .i64 b, .int .i64 c, .int .i64 d]] w (Ret (.agg #[.int .i64 (a - d), .int .i64 (b - c)]) w) := by
  go_enter Try.func80, Try.ntmps80
  go_wp2_with fail
  refine end_c rfl rfl _ _ _ _ rfl (by (apply Blk.is; (case h => (repeat (first | (with_reducible assumption) | ((with_reducible apply Blk.new_at); focus (first | (simp; done) | (simp; omega))) | with_reducible apply Blk.alloc | with_reducible apply Blk.drew | with_reducible apply Blk.drewN | with_reducible apply Blk.set | ((with_reducible apply Blk.far); case hp => (first | (simp; done) | (dsimp only; omega))) | ((with_reducible apply Blk.ext); case he => with_reducible assumption)))); all_goals rfl)) Try.underlying23 rfl (by exact szL15) ?_
  exact Ret.mk' rfl (by (repeat (first | (with_reducible assumption) | with_reducible exact Ext.refl _ | with_reducible apply Ext.alloc | with_reducible apply Ext.drew | with_reducible apply Ext.drewN | ((with_reducible apply Ext.set); case hp => (first | (simp; done) | (dsimp only; omega) | omega)) | ((with_reducible apply Ext.trans); case k => with_reducible assumption))))

theorem pair_ix0 (a b c d e f : Value) (w : World) : (Instr.index 165 (.agg #[a, b, c, d, e, f]) (.int .i64 0)).run Try.prog w = .ok (.agg #[a, b, c]) w := by kernel_rfl
theorem pair_ix1 (a b c d e f : Value) (w : World) : (Instr.index 165 (.agg #[a, b, c, d, e, f]) (.int .i64 1)).run Try.prog w = .ok (.agg #[d, e, f]) w := by kernel_rfl
theorem szF : (Try.prog.info? 130).map (·.size) = some 11 := by kernel_rfl
set_option maxRecDepth 20000 in
set_option maxHeartbeats 4000000 in
theorem fcheck_ok (n : Int) (k : Nat) (hg : Int) (j : Nat) (sg : Int) (hn : sizeE n = 0) (hk : k < 10) (hj : j < 10) (h1 : classE (k : Int) hg = 0) (h2 : classE (j : Int) sg = 0) (h3 : inE n (awayI n true k hg) = 0) (h4 : inE n (awayI n false j sg) = 0) (w : World) :
    Calls Try.prog 79 #[.agg #[.int .i64 n, .bool true, .int .i64 (k : Int), .int .i64 hg, .bool false, .int .i64 (j : Int), .int .i64 sg]] w
      (Ret (.tuple #[.agg #[.int .i64 n, .bool true, .int .i64 (k : Int), .int .i64 hg, .bool false, .int .i64 (j : Int), .int .i64 sg, .int .i64 (n + (awayI n true k hg).lo), .int .i64 (n + (awayI n true k hg).hi), .int .i64 (n + (awayI n false j sg).lo), .int .i64 (n + (awayI n false j sg).hi)], .int .i64 0]) w) := by
  have HN := Lib.hid hn
  have HL1 := Lib.hid (glim_ok n true k hg hn hk h1 h3)
  have HL2 := Lib.hid (glim_ok n false j sg hn hj h2 h4)
  have HC1 := Lib.hid h1
  have HC2 := Lib.hid h2
  clear hn h1 h2 h3 h4
  generalize n + (awayI n true k hg).lo = A1 at HL1
  generalize n + (awayI n true k hg).hi = A2 at HL1
  generalize n + (awayI n false j sg).lo = B1 at HL2
  generalize n + (awayI n false j sg).hi = B2 at HL2
  have ix0 := fun w => pair_ix0 (.bool true) (.int .i64 k) (.int .i64 hg) (.bool false) (.int .i64 j) (.int .i64 sg) w
  have ix1 := fun w => pair_ix1 (.bool true) (.int .i64 k) (.int .i64 hg) (.bool false) (.int .i64 j) (.int .i64 sg) w
  go_enter Try.func79, Try.ntmps79
  go_wp2_with fail
  refine (fsized_any n _).mono ?_
  rintro e w1 ⟨rfl, rfl⟩
  rw [HN.out]
  go_wp2_with fail
  go_loopw [6, 7, 23] (fun s6 s7 i wr => ∃ q : Nat, q ≤ 2 ∧ i = .int .i64 q ∧ Ext ((w.alloc (.cells #[.int .i64 n, .bool true, .int .i64 (k : Int), .int .i64 hg, .bool false, .int .i64 (j : Int), .int .i64 sg] 71)).alloc (.cells #[.int .i64 0, .bool false, .int .i64 0, .int .i64 0, .bool false, .int .i64 0, .int .i64 0, .int .i64 0, .int .i64 0, .int .i64 0, .int .i64 0] 130)) wr) (fun _ _ i _ => 2 - (intOf i).toNat)
  case atStart => exact ⟨0, by omega, rfl, Ext.refl _⟩
  case round =>
    obtain ⟨q, hq, rfl, he⟩ := hrel
    have hq3 : q = 0 ∨ q = 1 ∨ q = 2 := by omega
    rcases hq3 with rfl | rfl | rfl
    · go_wp2_with fail
      refine (gcheck_any _ _ _ _).mono ?_
      rintro e w2 ⟨rfl, h2⟩
      rw [HC1.out]
      go_wp2_with fail
      go_roundw
      case rel => exact ⟨1, by omega, by simp, he.trans (by (repeat (first | (with_reducible assumption) | with_reducible exact Ext.refl _ | with_reducible apply Ext.alloc | with_reducible apply Ext.drew | with_reducible apply Ext.drewN | ((with_reducible apply Ext.set); case hp => (first | (simp; done) | (dsimp only; omega) | omega)) | ((with_reducible apply Ext.trans); case k => with_reducible assumption))))⟩
      case measure => simp [intOf]
    · go_wp2_with fail
      refine (gcheck_any _ _ _ _).mono ?_
      rintro e w2 ⟨rfl, h2⟩
      rw [HC2.out]
      go_wp2_with fail
      go_roundw
      case rel => exact ⟨2, by omega, by simp, he.trans (by (repeat (first | (with_reducible assumption) | with_reducible exact Ext.refl _ | with_reducible apply Ext.alloc | with_reducible apply Ext.drew | with_reducible apply Ext.drewN | ((with_reducible apply Ext.set); case hp => (first | (simp; done) | (dsimp only; omega) | omega)) | ((with_reducible apply Ext.trans); case k => with_reducible assumption))))⟩
      case measure => simp [intOf]
    · have hF : Blk wr w.heap.size #[.int .i64 n, .bool true, .int .i64 (k : Int), .int .i64 hg, .bool false, .int .i64 (j : Int), .int .i64 sg] 71 := by (repeat (first | (with_reducible assumption) | ((with_reducible apply Blk.new_at); focus (first | (simp; done) | (simp; omega))) | with_reducible apply Blk.alloc | with_reducible apply Blk.drew | with_reducible apply Blk.drewN | with_reducible apply Blk.set | ((with_reducible apply Blk.far); case hp => (first | (simp; done) | (dsimp only; omega))) | ((with_reducible apply Blk.ext); case he => with_reducible assumption)))
      have f0 := hF.cell 0
      have f1 := hF.cell 1
      have f2 := hF.cell 2
      have f3 := hF.cell 3
      have f4 := hF.cell 4
      have f5 := hF.cell 5
      have f6 := hF.cell 6
      simp at f0 f1 f2 f3 f4 f5 f6
      have hFl := hF.lt
      go_wp2_with fail; refine (HL1.out _).mono ?_; rintro e w2 ⟨rfl, h2⟩
      have hF2 : Blk w2 w.heap.size #[.int .i64 n, .bool true, .int .i64 (k : Int), .int .i64 hg, .bool false, .int .i64 (j : Int), .int .i64 sg] 71 := by (repeat (first | (with_reducible assumption) | ((with_reducible apply Blk.new_at); focus (first | (simp; done) | (simp; omega))) | with_reducible apply Blk.alloc | with_reducible apply Blk.drew | with_reducible apply Blk.drewN | with_reducible apply Blk.set | ((with_reducible apply Blk.far); case hp => (first | (simp; done) | (dsimp only; omega))) | ((with_reducible apply Blk.ext); case he => with_reducible assumption)))
      have p0 := hF2.cell 0
      have p1 := hF2.cell 1
      have p2 := hF2.cell 2
      have p3 := hF2.cell 3
      have p4 := hF2.cell 4
      have p5 := hF2.cell 5
      have p6 := hF2.cell 6
      simp at p0 p1 p2 p3 p4 p5 p6
      have hs2 := Ext.size h2
      have hF2l := hF2.lt
      go_wp2_with fail; refine (HL2.out _).mono ?_; rintro e w3 ⟨rfl, h3⟩
      have hF3 : Blk w3 w.heap.size #[.int .i64 n, .bool true, .int .i64 (k : Int), .int .i64 hg, .bool false, .int .i64 (j : Int), .int .i64 sg] 71 := by (repeat (first | (with_reducible assumption) | ((with_reducible apply Blk.new_at); focus (first | (simp; done) | (simp; omega))) | with_reducible apply Blk.alloc | with_reducible apply Blk.drew | with_reducible apply Blk.drewN | with_reducible apply Blk.set | ((with_reducible apply Blk.far); case hp => (first | (simp; done) | (dsimp only; omega))) | ((with_reducible apply Blk.ext); case he => with_reducible assumption)))
      have hZ3 : Blk w3 (w.heap.size + 1) #[.int .i64 0, .bool false, .int .i64 0, .int .i64 0, .bool false, .int .i64 0, .int .i64 0, .int .i64 0, .int .i64 0, .int .i64 0, .int .i64 0] 130 := by (repeat (first | (with_reducible assumption) | ((with_reducible apply Blk.new_at); focus (first | (simp; done) | (simp; omega))) | with_reducible apply Blk.alloc | with_reducible apply Blk.drew | with_reducible apply Blk.drewN | with_reducible apply Blk.set | ((with_reducible apply Blk.far); case hp => (first | (simp; done) | (dsimp only; omega))) | ((with_reducible apply Blk.ext); case he => with_reducible assumption)))
      have L1 : Blk w3 (w2.heap.size) #[.int .i64 A1, .int .i64 A2] 23 := (by (repeat (first | (with_reducible assumption) | ((with_reducible apply Blk.new_at); focus (first | (simp; done) | (simp; omega))) | with_reducible apply Blk.alloc | with_reducible apply Blk.drew | with_reducible apply Blk.drewN | with_reducible apply Blk.set | ((with_reducible apply Blk.far); case hp => (first | (simp; done) | (dsimp only; omega))) | ((with_reducible apply Blk.ext); case he => with_reducible assumption)))); obtain ⟨L11, L12, L13, L14⟩ := L1.c2; have L15 := L1.lt
      have q0 := hF3.cell 0
      have q1 := hF3.cell 1
      have q2 := hF3.cell 2
      have q3 := hF3.cell 3
      have q4 := hF3.cell 4
      have q5 := hF3.cell 5
      have q6 := hF3.cell 6
      simp at q0 q1 q2 q3 q4 q5 q6
      have z0 := hZ3.cell 0
      have y0 := hZ3.frozen 0
      have z1 := hZ3.cell 1
      have y1 := hZ3.frozen 1
      have z2 := hZ3.cell 2
      have y2 := hZ3.frozen 2
      have z3 := hZ3.cell 3
      have y3 := hZ3.frozen 3
      have z4 := hZ3.cell 4
      have y4 := hZ3.frozen 4
      have z5 := hZ3.cell 5
      have y5 := hZ3.frozen 5
      have z6 := hZ3.cell 6
      have y6 := hZ3.frozen 6
      have z7 := hZ3.cell 7
      have y7 := hZ3.frozen 7
      have z8 := hZ3.cell 8
      have y8 := hZ3.frozen 8
      have z9 := hZ3.cell 9
      have y9 := hZ3.frozen 9
      have z10 := hZ3.cell 10
      have y10 := hZ3.frozen 10
      simp at z0 z1 z2 z3 z4 z5 z6 z7 z8 z9 z10
      have hs3 := Ext.size h3
      simp only [World.size_alloc] at hs3
      have hZl := hZ3.lt
      have hFl3 := hF3.lt
      go_wp2_with fail
      have hEnd0 := (((((((((((hZ3.set 0 (.int .i64 n)).set 1 (.bool true)).set 2 (.int .i64 (k : Int))).set 3 (.int .i64 hg)).set 4 (.bool false)).set 5 (.int .i64 (j : Int))).set 6 (.int .i64 sg)).set 7 (.int .i64 A1)).set 8 (.int .i64 A2)).set 9 (.int .i64 B1)).set 10 (.int .i64 B2)).alloc (.cells #[.int .i64 B1, .int .i64 B2] 23)
      have hEnd := hEnd0.is (show _ = #[.int .i64 n, .bool true, .int .i64 (k : Int), .int .i64 hg, .bool false, .int .i64 (j : Int), .int .i64 sg, .int .i64 A1, .int .i64 A2, .int .i64 B1, .int .i64 B2] from by simp)
      clear hEnd0
      refine end_ct rfl rfl _ _ _ _ _ rfl rfl hEnd Try.underlying130 rfl (by exact szF) ?_
      exact Ret.mk' rfl (by (repeat (first | (with_reducible assumption) | with_reducible exact Ext.refl _ | with_reducible apply Ext.alloc | with_reducible apply Ext.drew | with_reducible apply Ext.drewN | ((with_reducible apply Ext.set); case hp => (first | (simp; done) | (dsimp only; omega) | omega)) | ((with_reducible apply Ext.trans); case k => with_reducible assumption))))

set_option maxRecDepth 20000 in
set_option maxHeartbeats 4000000 in
theorem fclear_ok (n : Int) (k : Nat) (hg : Int) (j : Nat) (sg : Int) (hn : sizeE n = 0) (hk : k < 10) (hj : j < 10) (h1 : classE (k : Int) hg = 0) (h2 : classE (j : Int) sg = 0) (h3 : inE n (awayI n true k hg) = 0) (h4 : inE n (awayI n false j sg) = 0) (w : World) :
    Calls Try.prog 41 #[.agg #[.int .i64 n, .bool true, .int .i64 (k : Int), .int .i64 hg, .bool false, .int .i64 (j : Int), .int .i64 sg]] w
      (Ret (.tuple #[.agg #[.int .i64 (n + (awayI n true k hg).lo - (n + (awayI n false j sg).hi)), .int .i64 (n + (awayI n true k hg).hi - (n + (awayI n false j sg).lo))], .int .i64 0]) w) := by
  have HC := Lib.hid (fcheck_ok n k hg j sg hn hk hj h1 h2 h3 h4)
  have r0 := sizeE_zero hn
  have c1 := classE_zero h1
  have c2 := classE_zero h2
  have r1 := away_range n true hk c1.2.2.1 c1.2.2.2
  have r2 := away_range n false hj c2.2.2.1 c2.2.2.2
  have g1 : -1000000 ≤ n + (awayI n true k hg).lo ∧ n + (awayI n true k hg).lo ≤ 1000000 := by omega
  have g2 : -1000000 ≤ n + (awayI n true k hg).hi ∧ n + (awayI n true k hg).hi ≤ 1000000 := by omega
  have g3 : -1000000 ≤ n + (awayI n false j sg).lo ∧ n + (awayI n false j sg).lo ≤ 1000000 := by omega
  have g4 : -1000000 ≤ n + (awayI n false j sg).hi ∧ n + (awayI n false j sg).hi ≤ 1000000 := by omega
  clear hn h1 h2 h3 h4 r1 r2
  generalize n + (awayI n true k hg).lo = A1 at *
  generalize n + (awayI n true k hg).hi = A2 at *
  generalize n + (awayI n false j sg).lo = B1 at *
  generalize n + (awayI n false j sg).hi = B2 at *
  go_enter Try.func41, Try.ntmps41
  go_wp2_with fail; refine (HC.out _).mono ?_; rintro e w2 ⟨rfl, h2⟩
  go_wp2_with fail; refine (clearance_any A1 A2 B1 B2 g1 g2 g3 g4 _).mono ?_; rintro e w3 ⟨rfl, h3⟩
  have O : Blk w3 (w.heap.size + 1) #[.int .i64 0, .int .i64 0] 23 := (by (repeat (first | (with_reducible assumption) | ((with_reducible apply Blk.new_at); focus (first | (simp; done) | (simp; omega))) | with_reducible apply Blk.alloc | with_reducible apply Blk.drew | with_reducible apply Blk.drewN | with_reducible apply Blk.set | ((with_reducible apply Blk.far); case hp => (first | (simp; done) | (dsimp only; omega))) | ((with_reducible apply Blk.ext); case he => with_reducible assumption)))); obtain ⟨O1, O2, O3, O4⟩ := O.c2; have O5 := O.lt
  have hs2 := Ext.size h2
  have hs3 := Ext.size h3
  simp only [World.size_alloc] at hs2 hs3
  go_wp2_with fail
  refine end_ct rfl rfl _ _ _ _ _ rfl rfl (by (repeat (first | (with_reducible assumption) | ((with_reducible apply Blk.new_at); focus (first | (simp; done) | (simp; omega))) | with_reducible apply Blk.alloc | with_reducible apply Blk.drew | with_reducible apply Blk.drewN | with_reducible apply Blk.set | ((with_reducible apply Blk.far); case hp => (first | (simp; done) | (dsimp only; omega))) | ((with_reducible apply Blk.ext); case he => with_reducible assumption)))) Try.underlying23 rfl (by exact szL) ?_
  exact Ret.mk' (by simp) (by (repeat (first | (with_reducible assumption) | with_reducible exact Ext.refl _ | with_reducible apply Ext.alloc | with_reducible apply Ext.drew | with_reducible apply Ext.drewN | ((with_reducible apply Ext.set); case hp => (first | (simp; done) | (dsimp only; omega) | omega)) | ((with_reducible apply Ext.trans); case k => with_reducible assumption))))
def kindI (a b : Int) : Int := if 0 ≤ a then 0 else if b ≤ 0 then 2 else 1
set_option maxRecDepth 20000 in
set_option maxHeartbeats 4000000 in
theorem fkind_ok (n : Int) (k : Nat) (hg : Int) (j : Nat) (sg : Int) (hn : sizeE n = 0) (hk : k < 10) (hj : j < 10) (h1 : classE (k : Int) hg = 0) (h2 : classE (j : Int) sg = 0) (h3 : inE n (awayI n true k hg) = 0) (h4 : inE n (awayI n false j sg) = 0) (w : World) :
    Calls Try.prog 43 #[.agg #[.int .i64 n, .bool true, .int .i64 (k : Int), .int .i64 hg, .bool false, .int .i64 (j : Int), .int .i64 sg]] w
      (Ret (.tuple #[.int .i64 (kindI (n + (awayI n true k hg).lo - (n + (awayI n false j sg).hi)) (n + (awayI n true k hg).hi - (n + (awayI n false j sg).lo))), .int .i64 0]) w) := by
  have HC := Lib.hid (fcheck_ok n k hg j sg hn hk hj h1 h2 h3 h4)
  have r0 := sizeE_zero hn
  have c1 := classE_zero h1
  have c2 := classE_zero h2
  have r1 := away_range n true hk c1.2.2.1 c1.2.2.2
  have r2 := away_range n false hj c2.2.2.1 c2.2.2.2
  have g1 : -1000000 ≤ n + (awayI n true k hg).lo ∧ n + (awayI n true k hg).lo ≤ 1000000 := by omega
  have g2 : -1000000 ≤ n + (awayI n true k hg).hi ∧ n + (awayI n true k hg).hi ≤ 1000000 := by omega
  have g3 : -1000000 ≤ n + (awayI n false j sg).lo ∧ n + (awayI n false j sg).lo ≤ 1000000 := by omega
  have g4 : -1000000 ≤ n + (awayI n false j sg).hi ∧ n + (awayI n false j sg).hi ≤ 1000000 := by omega
  clear hn h1 h2 h3 h4 r1 r2
  generalize n + (awayI n true k hg).lo = A1 at *
  generalize n + (awayI n true k hg).hi = A2 at *
  generalize n + (awayI n false j sg).lo = B1 at *
  generalize n + (awayI n false j sg).hi = B2 at *
  have hx : (B2 ≤ A1) ∨ (A1 < B2 ∧ A2 ≤ B1) ∨ (A1 < B2 ∧ B1 < A2) := by omega
  rcases hx with hx | hx | hx
  all_goals
    go_enter Try.func43, Try.ntmps43
    go_wp2_with fail; refine (HC.out _).mono ?_; rintro e w2 ⟨rfl, h2⟩
    go_wp2_with fail; refine (clearance_any A1 A2 B1 B2 g1 g2 g3 g4 _).mono ?_; rintro e w3 ⟨rfl, h3⟩
    have hs2 := Ext.size h2
    have hs3 := Ext.size h3
    simp only [World.size_alloc] at hs2 hs3
    go_wp2_with fail
    go_ret2
    exact Ret.mk' (by unfold kindI; first | (rw [if_pos (by omega)]; rfl) | (rw [if_neg (by omega), if_pos (by omega)]; rfl) | (rw [if_neg (by omega), if_neg (by omega)]; rfl)) (by (repeat (first | (with_reducible assumption) | with_reducible exact Ext.refl _ | with_reducible apply Ext.alloc | with_reducible apply Ext.drew | with_reducible apply Ext.drewN | ((with_reducible apply Ext.set); case hp => (first | (simp; done) | (dsimp only; omega) | omega)) | ((with_reducible apply Ext.trans); case k => with_reducible assumption))))
end Go.Proofs.Ytdcedfciaaooiaa
