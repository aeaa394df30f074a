/- The law TopFitsLetters returns true at every input: the walk. -/
import Derived.Test.YtdcedfciaaooiaaM15
set_option linter.unusedVariables false
namespace Go.Proofs.Ytdcedfciaaooiaa
open Go.RowKit

set_option maxRecDepth 20000 in
theorem ex_clear (w : World) : Calls Try.prog 41 #[.agg #[.int .i64 25000, .bool true, .int .i64 4, .int .i64 7, .bool false, .int .i64 3, .int .i64 6]] w (Ret (.tuple #[.agg #[.int .i64 7, .int .i64 41], .int .i64 0]) w) := by
  have h := fclear_ok 25000 4 7 3 6 (by decide) (by decide) (by decide) (by decide) (by decide) (by decide) (by decide) w
  have e1 : (25000 : Int) + (awayI 25000 true 4 7).lo - (25000 + (awayI 25000 false 3 6).hi) = 7 := by decide
  have e2 : (25000 : Int) + (awayI 25000 true 4 7).hi - (25000 + (awayI 25000 false 3 6).lo) = 41 := by decide
  rw [e1, e2] at h
  exact h
set_option maxRecDepth 20000 in
theorem runFits_any (w : World) : Calls Try.prog 40 #[] w (Ret (.bool true) w) := by
  go_enter Try.func40, Try.ntmps40
  go_wp2_with fail; refine (fit_any 25000 3 7 6 _).mono ?_; rintro e w1 ⟨rfl, h1⟩
  go_wp2_with fail; refine (ex_clear _).mono ?_; rintro e w2 ⟨rfl, h2⟩
  go_wp2_with fail
  go_ret
  exact Ret.bool (by first | rfl | simp) (by (repeat (first | (with_reducible assumption) | with_reducible exact Ext.refl _ | with_reducible apply Ext.alloc | with_reducible apply Ext.drew | with_reducible apply Ext.drewN | ((with_reducible apply Ext.set); case hp => (first | (simp; done) | (dsimp only; omega) | omega)) | ((with_reducible apply Ext.trans); case k => with_reducible assumption))))

theorem hole_lo (n g : Int) : (awayI n true 4 g).lo = 0 := by simp [awayI, devI, shI, shifts]
theorem hole_hi (n g : Int) : (awayI n true 4 g).hi = tolI n g := by simp [awayI, devI, shI, shifts]
theorem letter_at : ∀ (k : Nat), k < 10 → ∃ c : Int, (∀ w : World, (Instr.index 9 (.string ⟨#[100, 101, 102, 103, 104, 106, 107, 109, 110, 112]⟩) (.int .i64 (k : Int))).run Try.prog w = .ok (.int .u8 c) w) ∧ 0 ≤ c ∧ c ≤ 255 ∧
    ((k < 5 ∧ c ≤ 104) ∨ (k = 5 ∧ c = 106) ∨ (5 < k ∧ 106 < c))
  | 0, _ => ⟨100, fun w => by kernel_rfl, by decide, by decide, by decide⟩
  | 1, _ => ⟨101, fun w => by kernel_rfl, by decide, by decide, by decide⟩
  | 2, _ => ⟨102, fun w => by kernel_rfl, by decide, by decide, by decide⟩
  | 3, _ => ⟨103, fun w => by kernel_rfl, by decide, by decide, by decide⟩
  | 4, _ => ⟨104, fun w => by kernel_rfl, by decide, by decide, by decide⟩
  | 5, _ => ⟨106, fun w => by kernel_rfl, by decide, by decide, by decide⟩
  | 6, _ => ⟨107, fun w => by kernel_rfl, by decide, by decide, by decide⟩
  | 7, _ => ⟨109, fun w => by kernel_rfl, by decide, by decide, by decide⟩
  | 8, _ => ⟨110, fun w => by kernel_rfl, by decide, by decide, by decide⟩
  | 9, _ => ⟨112, fun w => by kernel_rfl, by decide, by decide, by decide⟩
  | k + 10, h => absurd h (by omega)

set_option maxRecDepth 20000 in
set_option maxHeartbeats 4000000 in
theorem letters_right (n : Int) (k : Nat) (hg sg : Int) (hr : rfitE n hg (k : Int) sg = 0) (w : World) : Calls Try.prog 9 #[.agg #[.int .i64 n, .int .i64 (k : Int), .int .i64 hg, .int .i64 sg]] w (Ret (.bool true) w) := by
  have HRR := Lib.hid (runRight_any n (k : Int) hg sg)
  rw [hr] at HRR
  obtain ⟨z0, z1, z2, z3, z4⟩ := rfitE_zero hr
  clear hr
  have c1 := classE_zero z1
  have c2 := classE_zero z2
  have hk : k < 10 := by omega
  have i1 : inE n (awayI n true 4 hg) = 0 := by unfold limI at z3; rw [if_pos z0, if_pos z1] at z3; exact z3
  have i2 : inE n (awayI n false k sg) = 0 := by unfold limI at z4; rw [if_pos z0, if_pos z2] at z4; simpa using z4
  have g1 : gradeE hg = 0 := by unfold gradeE; rw [if_neg (by omega)]
  have g2 : gradeE sg = 0 := by unfold gradeE; rw [if_neg (by omega)]
  have HC := Lib.hid (fclear_ok n 4 hg k sg z0 (by omega) hk z1 z2 i1 i2)
  have HK := Lib.hid (fkind_ok n 4 hg k sg z0 (by omega) hk z1 z2 i1 i2)
  have HT1 := Lib.hid (gtol_ok n hg z0 g1)
  have HT2 := Lib.hid (gtol_ok n sg z0 g2)
  have HD := Lib.hid (gdev_ok n false k sg z0 hk z2)
  have t1 := tol_range n c1.2.2.1 c1.2.2.2
  have t2 := tol_range n c2.2.2.1 c2.2.2.2
  have s0 := sh_range n hk
  have s1 : 5 < k → 1 ≤ shI n k := fun h => sh_pos n h hk
  obtain ⟨c, hc, hc0, hc255, hcc⟩ := letter_at k hk
  have hdv : (k < 5 ∧ (awayI n false k sg).lo = -(shI n k) - tolI n sg ∧ (awayI n false k sg).hi = -(shI n k)) ∨ (k = 5 ∧ (awayI n false k sg).lo = -(tolI n sg / 2) ∧ (awayI n false k sg).hi = tolI n sg / 2) ∨ (5 < k ∧ (awayI n false k sg).lo = shI n k ∧ (awayI n false k sg).hi = shI n k + tolI n sg) := by
    have : k < 5 ∨ k = 5 ∨ 5 < k := by omega
    rcases this with h | h | h
    · exact .inl ⟨h, by simp [awayI, devI, h, show ¬ k = 5 by omega], by simp [awayI, devI, h, show ¬ k = 5 by omega]⟩
    · exact .inr (.inl ⟨h, by simp [awayI, devI, h], by simp [awayI, devI, h]⟩)
    · exact .inr (.inr ⟨h, by simp [awayI, devI, show ¬ k < 5 by omega, show ¬ k = 5 by omega], by simp [awayI, devI, show ¬ k < 5 by omega, show ¬ k = 5 by omega]⟩)
  rw [hole_lo, hole_hi] at HC HK
  clear z0 z1 z2 z3 z4 i1 i2 g1 g2 c1 c2
  generalize tolI n hg = T1 at *
  generalize tolI n sg = T2 at *
  generalize (awayI n false k sg).lo = dl at *
  generalize (awayI n false k sg).hi = dh at *
  generalize shI n k = s at *
  rw [show n + 0 - (n + dh) = -dh by omega, show n + T1 - (n + dl) = T1 - dl by omega] at HC HK
  obtain ⟨K, hK⟩ : ∃ v, kindI (-dh) (T1 - dl) = v := ⟨_, rfl⟩
  rw [hK] at HK
  have hK2 : (dh ≤ 0 ∧ K = 0) ∨ (0 < dh ∧ (K = 1 ∨ K = 2)) := by
    unfold kindI at hK
    split at hK
    · exact .inl ⟨by omega, by omega⟩
    · exact .inr ⟨by omega, by split at hK <;> omega⟩
  clear hK
  have hall : (k < 5 ∧ c ≤ 104 ∧ K = 0 ∧ dh ≤ 0 ∧ T1 - dl + dh = T1 + T2 ∧ -1000 ≤ dh ∧ dh ≤ 1000 ∧ -1000 ≤ dl ∧ dl ≤ 1000) ∨ (c = 106 ∧ -1000 ≤ dh ∧ dh ≤ 1000 ∧ -1000 ≤ dl ∧ dl ≤ 1000) ∨ (106 < c ∧ 1 ≤ K ∧ 0 < dh ∧ T1 - dl + dh = T1 + T2 ∧ -1000 ≤ dh ∧ dh ≤ 1000 ∧ -1000 ≤ dl ∧ dl ≤ 1000) := by
    rcases hdv with ⟨h, h1, h2⟩ | ⟨h, h1, h2⟩ | ⟨h, h1, h2⟩
    · exact .inl (by omega)
    · exact .inr (.inl (by omega))
    · have := s1 h
      exact .inr (.inr (by omega))
  clear hdv hcc s0 s1 hK2
  rcases hall with ⟨q1, q2, q3, q4, q5, q6⟩ | ⟨q1, q2⟩ | ⟨q1, q2, q3, q4, q5⟩
  case inl =>
    subst q3
    have r1 : T1 - dl - -dh = T1 + T2 := by omega
    have r2 : ¬ (106 < c) := by omega
    have r3 : ¬ (c = 106) := by omega
    have r4 : ¬ (0 < dh) := by omega
    clear q1
    go_enter Try.func9, Try.ntmps9
    go_wp2_with fail; refine (HRR.out _).mono ?_; rintro e w1 ⟨rfl, h1⟩
    have Pa : Blk w1 w.heap.size #[.int .i64 n, .int .i64 (k : Int), .int .i64 hg, .int .i64 sg] 65 := by (repeat (first | (with_reducible assumption) | ((with_reducible apply Blk.new_at); focus (first | (simp; done) | (simp; omega))) | with_reducible apply Blk.alloc | with_reducible apply Blk.drew | with_reducible apply Blk.drewN | with_reducible apply Blk.set | ((with_reducible apply Blk.far); case hp => (first | (simp; done) | (dsimp only; omega))) | ((with_reducible apply Blk.ext); case he => with_reducible assumption)))
    have Pa0 := Pa.cell 0
    have Pa1 := Pa.cell 1
    have Pa2 := Pa.cell 2
    have Pa3 := Pa.cell 3
    simp at Pa0 Pa1 Pa2 Pa3
    have Pal := Pa.lt
    go_wp2_with fail; refine (fit_any n (k : Int) hg sg _).mono ?_; rintro e w2 ⟨rfl, h2⟩
    have Pb : Blk w2 w.heap.size #[.int .i64 n, .int .i64 (k : Int), .int .i64 hg, .int .i64 sg] 65 := by (repeat (first | (with_reducible assumption) | ((with_reducible apply Blk.new_at); focus (first | (simp; done) | (simp; omega))) | with_reducible apply Blk.alloc | with_reducible apply Blk.drew | with_reducible apply Blk.drewN | with_reducible apply Blk.set | ((with_reducible apply Blk.far); case hp => (first | (simp; done) | (dsimp only; omega))) | ((with_reducible apply Blk.ext); case he => with_reducible assumption)))
    have Pb0 := Pb.cell 0
    have Pb1 := Pb.cell 1
    have Pb2 := Pb.cell 2
    have Pb3 := Pb.cell 3
    simp at Pb0 Pb1 Pb2 Pb3
    have Pbl := Pb.lt
    go_wp2_with fail; refine (HC.out _).mono ?_; rintro e w3 ⟨rfl, h3⟩
    have Pc : Blk w3 w.heap.size #[.int .i64 n, .int .i64 (k : Int), .int .i64 hg, .int .i64 sg] 65 := by (repeat (first | (with_reducible assumption) | ((with_reducible apply Blk.new_at); focus (first | (simp; done) | (simp; omega))) | with_reducible apply Blk.alloc | with_reducible apply Blk.drew | with_reducible apply Blk.drewN | with_reducible apply Blk.set | ((with_reducible apply Blk.far); case hp => (first | (simp; done) | (dsimp only; omega))) | ((with_reducible apply Blk.ext); case he => with_reducible assumption)))
    have Pc0 := Pc.cell 0
    have Pc1 := Pc.cell 1
    have Pc2 := Pc.cell 2
    have Pc3 := Pc.cell 3
    simp at Pc0 Pc1 Pc2 Pc3
    have Pcl := Pc.lt
    have hs3 := Ext.size h3
    have hs2 := Ext.size h2
    go_wp2_with fail; refine (fit_any n (k : Int) hg sg _).mono ?_; rintro e w4 ⟨rfl, h4⟩
    have Pd : Blk w4 w.heap.size #[.int .i64 n, .int .i64 (k : Int), .int .i64 hg, .int .i64 sg] 65 := by (repeat (first | (with_reducible assumption) | ((with_reducible apply Blk.new_at); focus (first | (simp; done) | (simp; omega))) | with_reducible apply Blk.alloc | with_reducible apply Blk.drew | with_reducible apply Blk.drewN | with_reducible apply Blk.set | ((with_reducible apply Blk.far); case hp => (first | (simp; done) | (dsimp only; omega))) | ((with_reducible apply Blk.ext); case he => with_reducible assumption)))
    have Pd0 := Pd.cell 0
    have Pd1 := Pd.cell 1
    have Pd2 := Pd.cell 2
    have Pd3 := Pd.cell 3
    simp at Pd0 Pd1 Pd2 Pd3
    have Pdl := Pd.lt
    go_wp2_with fail; refine (HK.out _).mono ?_; rintro e w5 ⟨rfl, h5⟩
    have Pe : Blk w5 w.heap.size #[.int .i64 n, .int .i64 (k : Int), .int .i64 hg, .int .i64 sg] 65 := by (repeat (first | (with_reducible assumption) | ((with_reducible apply Blk.new_at); focus (first | (simp; done) | (simp; omega))) | with_reducible apply Blk.alloc | with_reducible apply Blk.drew | with_reducible apply Blk.drewN | with_reducible apply Blk.set | ((with_reducible apply Blk.far); case hp => (first | (simp; done) | (dsimp only; omega))) | ((with_reducible apply Blk.ext); case he => with_reducible assumption)))
    have Pe0 := Pe.cell 0
    have Pe1 := Pe.cell 1
    have Pe2 := Pe.cell 2
    have Pe3 := Pe.cell 3
    simp at Pe0 Pe1 Pe2 Pe3
    have Pel := Pe.lt
    go_wp2_with fail; refine (HT1.out _).mono ?_; rintro e w6 ⟨rfl, h6⟩
    have Pf : Blk w6 w.heap.size #[.int .i64 n, .int .i64 (k : Int), .int .i64 hg, .int .i64 sg] 65 := by (repeat (first | (with_reducible assumption) | ((with_reducible apply Blk.new_at); focus (first | (simp; done) | (simp; omega))) | with_reducible apply Blk.alloc | with_reducible apply Blk.drew | with_reducible apply Blk.drewN | with_reducible apply Blk.set | ((with_reducible apply Blk.far); case hp => (first | (simp; done) | (dsimp only; omega))) | ((with_reducible apply Blk.ext); case he => with_reducible assumption)))
    have Pf0 := Pf.cell 0
    have Pf1 := Pf.cell 1
    have Pf2 := Pf.cell 2
    have Pf3 := Pf.cell 3
    simp at Pf0 Pf1 Pf2 Pf3
    have Pfl := Pf.lt
    go_wp2_with fail; refine (HT2.out _).mono ?_; rintro e w7 ⟨rfl, h7⟩
    have Pg : Blk w7 w.heap.size #[.int .i64 n, .int .i64 (k : Int), .int .i64 hg, .int .i64 sg] 65 := by (repeat (first | (with_reducible assumption) | ((with_reducible apply Blk.new_at); focus (first | (simp; done) | (simp; omega))) | with_reducible apply Blk.alloc | with_reducible apply Blk.drew | with_reducible apply Blk.drewN | with_reducible apply Blk.set | ((with_reducible apply Blk.far); case hp => (first | (simp; done) | (dsimp only; omega))) | ((with_reducible apply Blk.ext); case he => with_reducible assumption)))
    have Pg0 := Pg.cell 0
    have Pg1 := Pg.cell 1
    have Pg2 := Pg.cell 2
    have Pg3 := Pg.cell 3
    simp at Pg0 Pg1 Pg2 Pg3
    have Pgl := Pg.lt
    go_wp2_with fail; refine (HD.out _).mono ?_; rintro e w8 ⟨rfl, h8⟩
    have Pm : Blk w8 w.heap.size #[.int .i64 n, .int .i64 (k : Int), .int .i64 hg, .int .i64 sg] 65 := by (repeat (first | (with_reducible assumption) | ((with_reducible apply Blk.new_at); focus (first | (simp; done) | (simp; omega))) | with_reducible apply Blk.alloc | with_reducible apply Blk.drew | with_reducible apply Blk.drewN | with_reducible apply Blk.set | ((with_reducible apply Blk.far); case hp => (first | (simp; done) | (dsimp only; omega))) | ((with_reducible apply Blk.ext); case he => with_reducible assumption)))
    have Pm0 := Pm.cell 0
    have Pm1 := Pm.cell 1
    have Pm2 := Pm.cell 2
    have Pm3 := Pm.cell 3
    simp at Pm0 Pm1 Pm2 Pm3
    have Pml := Pm.lt
    have L : Blk w8 (w3.heap.size) #[.int .i64 (-dh), .int .i64 (T1 - dl)] 23 := (by (repeat (first | (with_reducible assumption) | ((with_reducible apply Blk.new_at); focus (first | (simp; done) | (simp; omega))) | with_reducible apply Blk.alloc | with_reducible apply Blk.drew | with_reducible apply Blk.drewN | with_reducible apply Blk.set | ((with_reducible apply Blk.far); case hp => (first | (simp; done) | (dsimp only; omega))) | ((with_reducible apply Blk.ext); case he => with_reducible assumption)))); obtain ⟨L1, L2, L3, L4⟩ := L.c2; have L5 := L.lt
    have hs8 := Ext.size h8
    go_wp2_with fail
    refine (runFits_any _).mono ?_
    rintro e w9 ⟨rfl, h9⟩
    go_wp2_with fail
    go_ret
    exact Ret.bool (by first | rfl | simp) (by (repeat (first | (with_reducible assumption) | with_reducible exact Ext.refl _ | with_reducible apply Ext.alloc | with_reducible apply Ext.drew | with_reducible apply Ext.drewN | ((with_reducible apply Ext.set); case hp => (first | (simp; done) | (dsimp only; omega) | omega)) | ((with_reducible apply Ext.trans); case k => with_reducible assumption))))
  case inr.inl =>
    subst q1
    go_enter Try.func9, Try.ntmps9
    go_wp2_with fail; refine (HRR.out _).mono ?_; rintro e w1 ⟨rfl, h1⟩
    have Pa : Blk w1 w.heap.size #[.int .i64 n, .int .i64 (k : Int), .int .i64 hg, .int .i64 sg] 65 := by (repeat (first | (with_reducible assumption) | ((with_reducible apply Blk.new_at); focus (first | (simp; done) | (simp; omega))) | with_reducible apply Blk.alloc | with_reducible apply Blk.drew | with_reducible apply Blk.drewN | with_reducible apply Blk.set | ((with_reducible apply Blk.far); case hp => (first | (simp; done) | (dsimp only; omega))) | ((with_reducible apply Blk.ext); case he => with_reducible assumption)))
    have Pa0 := Pa.cell 0
    have Pa1 := Pa.cell 1
    have Pa2 := Pa.cell 2
    have Pa3 := Pa.cell 3
    simp at Pa0 Pa1 Pa2 Pa3
    have Pal := Pa.lt
    go_wp2_with fail; refine (fit_any n (k : Int) hg sg _).mono ?_; rintro e w2 ⟨rfl, h2⟩
    have Pb : Blk w2 w.heap.size #[.int .i64 n, .int .i64 (k : Int), .int .i64 hg, .int .i64 sg] 65 := by (repeat (first | (with_reducible assumption) | ((with_reducible apply Blk.new_at); focus (first | (simp; done) | (simp; omega))) | with_reducible apply Blk.alloc | with_reducible apply Blk.drew | with_reducible apply Blk.drewN | with_reducible apply Blk.set | ((with_reducible apply Blk.far); case hp => (first | (simp; done) | (dsimp only; omega))) | ((with_reducible apply Blk.ext); case he => with_reducible assumption)))
    have Pb0 := Pb.cell 0
    have Pb1 := Pb.cell 1
    have Pb2 := Pb.cell 2
    have Pb3 := Pb.cell 3
    simp at Pb0 Pb1 Pb2 Pb3
    have Pbl := Pb.lt
    go_wp2_with fail; refine (HC.out _).mono ?_; rintro e w3 ⟨rfl, h3⟩
    have Pc : Blk w3 w.heap.size #[.int .i64 n, .int .i64 (k : Int), .int .i64 hg, .int .i64 sg] 65 := by (repeat (first | (with_reducible assumption) | ((with_reducible apply Blk.new_at); focus (first | (simp; done) | (simp; omega))) | with_reducible apply Blk.alloc | with_reducible apply Blk.drew | with_reducible apply Blk.drewN | with_reducible apply Blk.set | ((with_reducible apply Blk.far); case hp => (first | (simp; done) | (dsimp only; omega))) | ((with_reducible apply Blk.ext); case he => with_reducible assumption)))
    have Pc0 := Pc.cell 0
    have Pc1 := Pc.cell 1
    have Pc2 := Pc.cell 2
    have Pc3 := Pc.cell 3
    simp at Pc0 Pc1 Pc2 Pc3
    have Pcl := Pc.lt
    have hs3 := Ext.size h3
    have hs2 := Ext.size h2
    go_wp2_with fail; refine (fit_any n (k : Int) hg sg _).mono ?_; rintro e w4 ⟨rfl, h4⟩
    have Pd : Blk w4 w.heap.size #[.int .i64 n, .int .i64 (k : Int), .int .i64 hg, .int .i64 sg] 65 := by (repeat (first | (with_reducible assumption) | ((with_reducible apply Blk.new_at); focus (first | (simp; done) | (simp; omega))) | with_reducible apply Blk.alloc | with_reducible apply Blk.drew | with_reducible apply Blk.drewN | with_reducible apply Blk.set | ((with_reducible apply Blk.far); case hp => (first | (simp; done) | (dsimp only; omega))) | ((with_reducible apply Blk.ext); case he => with_reducible assumption)))
    have Pd0 := Pd.cell 0
    have Pd1 := Pd.cell 1
    have Pd2 := Pd.cell 2
    have Pd3 := Pd.cell 3
    simp at Pd0 Pd1 Pd2 Pd3
    have Pdl := Pd.lt
    go_wp2_with fail; refine (HK.out _).mono ?_; rintro e w5 ⟨rfl, h5⟩
    have Pe : Blk w5 w.heap.size #[.int .i64 n, .int .i64 (k : Int), .int .i64 hg, .int .i64 sg] 65 := by (repeat (first | (with_reducible assumption) | ((with_reducible apply Blk.new_at); focus (first | (simp; done) | (simp; omega))) | with_reducible apply Blk.alloc | with_reducible apply Blk.drew | with_reducible apply Blk.drewN | with_reducible apply Blk.set | ((with_reducible apply Blk.far); case hp => (first | (simp; done) | (dsimp only; omega))) | ((with_reducible apply Blk.ext); case he => with_reducible assumption)))
    have Pe0 := Pe.cell 0
    have Pe1 := Pe.cell 1
    have Pe2 := Pe.cell 2
    have Pe3 := Pe.cell 3
    simp at Pe0 Pe1 Pe2 Pe3
    have Pel := Pe.lt
    go_wp2_with fail; refine (HT1.out _).mono ?_; rintro e w6 ⟨rfl, h6⟩
    have Pf : Blk w6 w.heap.size #[.int .i64 n, .int .i64 (k : Int), .int .i64 hg, .int .i64 sg] 65 := by (repeat (first | (with_reducible assumption) | ((with_reducible apply Blk.new_at); focus (first | (simp; done) | (simp; omega))) | with_reducible apply Blk.alloc | with_reducible apply Blk.drew | with_reducible apply Blk.drewN | with_reducible apply Blk.set | ((with_reducible apply Blk.far); case hp => (first | (simp; done) | (dsimp only; omega))) | ((with_reducible apply Blk.ext); case he => with_reducible assumption)))
    have Pf0 := Pf.cell 0
    have Pf1 := Pf.cell 1
    have Pf2 := Pf.cell 2
    have Pf3 := Pf.cell 3
    simp at Pf0 Pf1 Pf2 Pf3
    have Pfl := Pf.lt
    go_wp2_with fail; refine (HT2.out _).mono ?_; rintro e w7 ⟨rfl, h7⟩
    have Pg : Blk w7 w.heap.size #[.int .i64 n, .int .i64 (k : Int), .int .i64 hg, .int .i64 sg] 65 := by (repeat (first | (with_reducible assumption) | ((with_reducible apply Blk.new_at); focus (first | (simp; done) | (simp; omega))) | with_reducible apply Blk.alloc | with_reducible apply Blk.drew | with_reducible apply Blk.drewN | with_reducible apply Blk.set | ((with_reducible apply Blk.far); case hp => (first | (simp; done) | (dsimp only; omega))) | ((with_reducible apply Blk.ext); case he => with_reducible assumption)))
    have Pg0 := Pg.cell 0
    have Pg1 := Pg.cell 1
    have Pg2 := Pg.cell 2
    have Pg3 := Pg.cell 3
    simp at Pg0 Pg1 Pg2 Pg3
    have Pgl := Pg.lt
    go_wp2_with fail; refine (HD.out _).mono ?_; rintro e w8 ⟨rfl, h8⟩
    have Pm : Blk w8 w.heap.size #[.int .i64 n, .int .i64 (k : Int), .int .i64 hg, .int .i64 sg] 65 := by (repeat (first | (with_reducible assumption) | ((with_reducible apply Blk.new_at); focus (first | (simp; done) | (simp; omega))) | with_reducible apply Blk.alloc | with_reducible apply Blk.drew | with_reducible apply Blk.drewN | with_reducible apply Blk.set | ((with_reducible apply Blk.far); case hp => (first | (simp; done) | (dsimp only; omega))) | ((with_reducible apply Blk.ext); case he => with_reducible assumption)))
    have Pm0 := Pm.cell 0
    have Pm1 := Pm.cell 1
    have Pm2 := Pm.cell 2
    have Pm3 := Pm.cell 3
    simp at Pm0 Pm1 Pm2 Pm3
    have Pml := Pm.lt
    have L : Blk w8 (w3.heap.size) #[.int .i64 (-dh), .int .i64 (T1 - dl)] 23 := (by (repeat (first | (with_reducible assumption) | ((with_reducible apply Blk.new_at); focus (first | (simp; done) | (simp; omega))) | with_reducible apply Blk.alloc | with_reducible apply Blk.drew | with_reducible apply Blk.drewN | with_reducible apply Blk.set | ((with_reducible apply Blk.far); case hp => (first | (simp; done) | (dsimp only; omega))) | ((with_reducible apply Blk.ext); case he => with_reducible assumption)))); obtain ⟨L1, L2, L3, L4⟩ := L.c2; have L5 := L.lt
    have hs8 := Ext.size h8
    go_wp2_with fail
    refine (runFits_any _).mono ?_
    rintro e w9 ⟨rfl, h9⟩
    go_wp2_with fail
    go_ret
    exact Ret.bool (by first | rfl | simp) (by (repeat (first | (with_reducible assumption) | with_reducible exact Ext.refl _ | with_reducible apply Ext.alloc | with_reducible apply Ext.drew | with_reducible apply Ext.drewN | ((with_reducible apply Ext.set); case hp => (first | (simp; done) | (dsimp only; omega) | omega)) | ((with_reducible apply Ext.trans); case k => with_reducible assumption))))
  case inr.inr =>
    have r1 : T1 - dl - -dh = T1 + T2 := by omega
    have r2 : ¬ (c ≤ 104) := by omega
    have r3 : ¬ (c = 106) := by omega
    have r4 : ¬ (dh ≤ 0) := by omega
    have r5 : ¬ (K = 0) := by omega
    have r6 : (K == 0) = false := by simpa using r5
    have r7 : (K != 0) = true := by simpa using r5
    have r8 : ¬ (0 ≤ -dh) := by omega
    have r9 : (-dh < 0) := by omega
    go_enter Try.func9, Try.ntmps9
    go_wp2_with fail; refine (HRR.out _).mono ?_; rintro e w1 ⟨rfl, h1⟩
    have Pa : Blk w1 w.heap.size #[.int .i64 n, .int .i64 (k : Int), .int .i64 hg, .int .i64 sg] 65 := by (repeat (first | (with_reducible assumption) | ((with_reducible apply Blk.new_at); focus (first | (simp; done) | (simp; omega))) | with_reducible apply Blk.alloc | with_reducible apply Blk.drew | with_reducible apply Blk.drewN | with_reducible apply Blk.set | ((with_reducible apply Blk.far); case hp => (first | (simp; done) | (dsimp only; omega))) | ((with_reducible apply Blk.ext); case he => with_reducible assumption)))
    have Pa0 := Pa.cell 0
    have Pa1 := Pa.cell 1
    have Pa2 := Pa.cell 2
    have Pa3 := Pa.cell 3
    simp at Pa0 Pa1 Pa2 Pa3
    have Pal := Pa.lt
    go_wp2_with fail; refine (fit_any n (k : Int) hg sg _).mono ?_; rintro e w2 ⟨rfl, h2⟩
    have Pb : Blk w2 w.heap.size #[.int .i64 n, .int .i64 (k : Int), .int .i64 hg, .int .i64 sg] 65 := by (repeat (first | (with_reducible assumption) | ((with_reducible apply Blk.new_at); focus (first | (simp; done) | (simp; omega))) | with_reducible apply Blk.alloc | with_reducible apply Blk.drew | with_reducible apply Blk.drewN | with_reducible apply Blk.set | ((with_reducible apply Blk.far); case hp => (first | (simp; done) | (dsimp only; omega))) | ((with_reducible apply Blk.ext); case he => with_reducible assumption)))
    have Pb0 := Pb.cell 0
    have Pb1 := Pb.cell 1
    have Pb2 := Pb.cell 2
    have Pb3 := Pb.cell 3
    simp at Pb0 Pb1 Pb2 Pb3
    have Pbl := Pb.lt
    go_wp2_with fail; refine (HC.out _).mono ?_; rintro e w3 ⟨rfl, h3⟩
    have Pc : Blk w3 w.heap.size #[.int .i64 n, .int .i64 (k : Int), .int .i64 hg, .int .i64 sg] 65 := by (repeat (first | (with_reducible assumption) | ((with_reducible apply Blk.new_at); focus (first | (simp; done) | (simp; omega))) | with_reducible apply Blk.alloc | with_reducible apply Blk.drew | with_reducible apply Blk.drewN | with_reducible apply Blk.set | ((with_reducible apply Blk.far); case hp => (first | (simp; done) | (dsimp only; omega))) | ((with_reducible apply Blk.ext); case he => with_reducible assumption)))
    have Pc0 := Pc.cell 0
    have Pc1 := Pc.cell 1
    have Pc2 := Pc.cell 2
    have Pc3 := Pc.cell 3
    simp at Pc0 Pc1 Pc2 Pc3
    have Pcl := Pc.lt
    have hs3 := Ext.size h3
    have hs2 := Ext.size h2
    go_wp2_with fail; refine (fit_any n (k : Int) hg sg _).mono ?_; rintro e w4 ⟨rfl, h4⟩
    have Pd : Blk w4 w.heap.size #[.int .i64 n, .int .i64 (k : Int), .int .i64 hg, .int .i64 sg] 65 := by (repeat (first | (with_reducible assumption) | ((with_reducible apply Blk.new_at); focus (first | (simp; done) | (simp; omega))) | with_reducible apply Blk.alloc | with_reducible apply Blk.drew | with_reducible apply Blk.drewN | with_reducible apply Blk.set | ((with_reducible apply Blk.far); case hp => (first | (simp; done) | (dsimp only; omega))) | ((with_reducible apply Blk.ext); case he => with_reducible assumption)))
    have Pd0 := Pd.cell 0
    have Pd1 := Pd.cell 1
    have Pd2 := Pd.cell 2
    have Pd3 := Pd.cell 3
    simp at Pd0 Pd1 Pd2 Pd3
    have Pdl := Pd.lt
    go_wp2_with fail; refine (HK.out _).mono ?_; rintro e w5 ⟨rfl, h5⟩
    have Pe : Blk w5 w.heap.size #[.int .i64 n, .int .i64 (k : Int), .int .i64 hg, .int .i64 sg] 65 := by (repeat (first | (with_reducible assumption) | ((with_reducible apply Blk.new_at); focus (first | (simp; done) | (simp; omega))) | with_reducible apply Blk.alloc | with_reducible apply Blk.drew | with_reducible apply Blk.drewN | with_reducible apply Blk.set | ((with_reducible apply Blk.far); case hp => (first | (simp; done) | (dsimp only; omega))) | ((with_reducible apply Blk.ext); case he => with_reducible assumption)))
    have Pe0 := Pe.cell 0
    have Pe1 := Pe.cell 1
    have Pe2 := Pe.cell 2
    have Pe3 := Pe.cell 3
    simp at Pe0 Pe1 Pe2 Pe3
    have Pel := Pe.lt
    go_wp2_with fail; refine (HT1.out _).mono ?_; rintro e w6 ⟨rfl, h6⟩
    have Pf : Blk w6 w.heap.size #[.int .i64 n, .int .i64 (k : Int), .int .i64 hg, .int .i64 sg] 65 := by (repeat (first | (with_reducible assumption) | ((with_reducible apply Blk.new_at); focus (first | (simp; done) | (simp; omega))) | with_reducible apply Blk.alloc | with_reducible apply Blk.drew | with_reducible apply Blk.drewN | with_reducible apply Blk.set | ((with_reducible apply Blk.far); case hp => (first | (simp; done) | (dsimp only; omega))) | ((with_reducible apply Blk.ext); case he => with_reducible assumption)))
    have Pf0 := Pf.cell 0
    have Pf1 := Pf.cell 1
    have Pf2 := Pf.cell 2
    have Pf3 := Pf.cell 3
    simp at Pf0 Pf1 Pf2 Pf3
    have Pfl := Pf.lt
    go_wp2_with fail; refine (HT2.out _).mono ?_; rintro e w7 ⟨rfl, h7⟩
    have Pg : Blk w7 w.heap.size #[.int .i64 n, .int .i64 (k : Int), .int .i64 hg, .int .i64 sg] 65 := by (repeat (first | (with_reducible assumption) | ((with_reducible apply Blk.new_at); focus (first | (simp; done) | (simp; omega))) | with_reducible apply Blk.alloc | with_reducible apply Blk.drew | with_reducible apply Blk.drewN | with_reducible apply Blk.set | ((with_reducible apply Blk.far); case hp => (first | (simp; done) | (dsimp only; omega))) | ((with_reducible apply Blk.ext); case he => with_reducible assumption)))
    have Pg0 := Pg.cell 0
    have Pg1 := Pg.cell 1
    have Pg2 := Pg.cell 2
    have Pg3 := Pg.cell 3
    simp at Pg0 Pg1 Pg2 Pg3
    have Pgl := Pg.lt
    go_wp2_with fail; refine (HD.out _).mono ?_; rintro e w8 ⟨rfl, h8⟩
    have Pm : Blk w8 w.heap.size #[.int .i64 n, .int .i64 (k : Int), .int .i64 hg, .int .i64 sg] 65 := by (repeat (first | (with_reducible assumption) | ((with_reducible apply Blk.new_at); focus (first | (simp; done) | (simp; omega))) | with_reducible apply Blk.alloc | with_reducible apply Blk.drew | with_reducible apply Blk.drewN | with_reducible apply Blk.set | ((with_reducible apply Blk.far); case hp => (first | (simp; done) | (dsimp only; omega))) | ((with_reducible apply Blk.ext); case he => with_reducible assumption)))
    have Pm0 := Pm.cell 0
    have Pm1 := Pm.cell 1
    have Pm2 := Pm.cell 2
    have Pm3 := Pm.cell 3
    simp at Pm0 Pm1 Pm2 Pm3
    have Pml := Pm.lt
    have L : Blk w8 (w3.heap.size) #[.int .i64 (-dh), .int .i64 (T1 - dl)] 23 := (by (repeat (first | (with_reducible assumption) | ((with_reducible apply Blk.new_at); focus (first | (simp; done) | (simp; omega))) | with_reducible apply Blk.alloc | with_reducible apply Blk.drew | with_reducible apply Blk.drewN | with_reducible apply Blk.set | ((with_reducible apply Blk.far); case hp => (first | (simp; done) | (dsimp only; omega))) | ((with_reducible apply Blk.ext); case he => with_reducible assumption)))); obtain ⟨L1, L2, L3, L4⟩ := L.c2; have L5 := L.lt
    have hs8 := Ext.size h8
    go_wp2_with fail
    refine (runFits_any _).mono ?_
    rintro e w9 ⟨rfl, h9⟩
    go_wp2_with fail
    go_ret
    exact Ret.bool (by first | rfl | simp) (by (repeat (first | (with_reducible assumption) | with_reducible exact Ext.refl _ | with_reducible apply Ext.alloc | with_reducible apply Ext.drew | with_reducible apply Ext.drewN | ((with_reducible apply Ext.set); case hp => (first | (simp; done) | (dsimp only; omega) | omega)) | ((with_reducible apply Ext.trans); case k => with_reducible assumption))))

theorem law_letters (n k hg sg : Int) (w : World) : Calls Try.prog 9 #[.agg #[.int .i64 n, .int .i64 k, .int .i64 hg, .int .i64 sg]] w (Ret (.bool true) w) := by
  by_cases hr : rfitE n hg k sg = 0
  · have hk := (classE_zero (rfitE_zero hr).2.2.1).1
    obtain ⟨q, rfl⟩ := Int.eq_ofNat_of_zero_le hk
    exact letters_right n q hg sg hr w
  · have HRR := Lib.hid (runRight_any n k hg sg)
    rw [show (rfitE n hg k sg == 0) = false from by simpa using hr] at HRR
    go_enter Try.func9, Try.ntmps9
    go_wp2_with fail; refine (HRR.out _).mono ?_; rintro e w1 ⟨rfl, h1⟩
    go_wp2_with fail; refine (runFits_any _).mono ?_; rintro e w2 ⟨rfl, h2⟩
    go_wp2_with fail
    go_ret
    exact Ret.bool (by first | rfl | simp) (by (repeat (first | (with_reducible assumption) | with_reducible exact Ext.refl _ | with_reducible apply Ext.alloc | with_reducible apply Ext.drew | with_reducible apply Ext.drewN | ((with_reducible apply Ext.set); case hp => (first | (simp; done) | (dsimp only; omega) | omega)) | ((with_reducible apply Ext.trans); case k => with_reducible assumption))))
end Go.Proofs.Ytdcedfciaaooiaa
