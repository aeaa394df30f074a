/- The functions of package grades do what P15 says. -/
import Derived.Test.YtdcedfciaaooiaaX0
import Derived.Test.YtdcedfciaaooiaaP15
import Derived.Test.YtdcedfciaaooiaaProg
import Derived.Deep.WholeRow
set_option linter.unusedVariables false
namespace Go.Proofs.Ytdcedfciaaooiaa
open Go.RowKit

def stepsV : Array Value := #[.int .i64 3000, .int .i64 6, .int .i64 6000, .int .i64 8, .int .i64 10000, .int .i64 9, .int .i64 18000, .int .i64 11, .int .i64 30000, .int .i64 13, .int .i64 50000, .int .i64 16, .int .i64 80000, .int .i64 19, .int .i64 100000, .int .i64 22]
theorem stepsV_most {k : Nat} (hk : k < 8) : stepsV[0 + k * 2]? = some (.int .i64 (mosts.getD k 0)) ∧ stepsV[0 + k * 2 + 1]? = some (.int .i64 (bases.getD k 0)) := by
  have h : k = 0 ∨ k = 1 ∨ k = 2 ∨ k = 3 ∨ k = 4 ∨ k = 5 ∨ k = 6 ∨ k = 7 := by omega
  rcases h with rfl | rfl | rfl | rfl | rfl | rfl | rfl | rfl <;> exact ⟨rfl, rfl⟩
def facsV : Array Value := #[.int .i64 7, .int .i64 10, .int .i64 16, .int .i64 25, .int .i64 40, .int .i64 64, .int .i64 100, .int .i64 160]
def lettersV : Array Value := #[.int .i64 50, .func (.func 121) #[] #[], .int .i64 31, .func (.func 121) #[] #[], .int .i64 16, .func (.func 121) #[] #[], .int .i64 6, .func (.func 121) #[] #[], .int .i64 0, .func (.func 121) #[] #[],
  .int .i64 0, .func (.func 122) #[] #[], .int .i64 2, .func (.func 123) #[] #[], .int .i64 9, .func (.func 123) #[] #[], .int .i64 15, .func (.func 123) #[] #[], .int .i64 22, .func (.func 123) #[] #[]]

set_option maxRecDepth 20000 in
theorem steps_any (w : World) : Calls Try.prog 106 #[] w (Ret (.agg stepsV) w) := by
  go_enter Try.func106, Try.ntmps106
  go_wp2
  refine end_c rfl rfl _ _ _ _ rfl (by (apply Blk.is; (case h => (repeat (first | (with_reducible assumption) | ((with_reducible apply Blk.new_at); focus (first | (simp; done) | (simp; omega))) | with_reducible apply Blk.alloc | with_reducible apply Blk.drew | with_reducible apply Blk.drewN | with_reducible apply Blk.set | ((with_reducible apply Blk.far); case hp => (first | (simp; done) | (dsimp only; omega))) | ((with_reducible apply Blk.ext); case he => with_reducible assumption)))); all_goals rfl)) Try.underlying168 rfl (by kernel_rfl) ?_
  exact Ret.mk' rfl (by (repeat (first | (with_reducible assumption) | with_reducible exact Ext.refl _ | with_reducible apply Ext.alloc | with_reducible apply Ext.drew | with_reducible apply Ext.drewN | ((with_reducible apply Ext.set); case hp => (first | (simp; done) | (dsimp only; omega) | omega)) | ((with_reducible apply Ext.trans); case k => with_reducible assumption))))
set_option maxRecDepth 20000 in
theorem factors_any (w : World) : Calls Try.prog 108 #[] w (Ret (.agg facsV) w) := by
  go_enter Try.func108, Try.ntmps108
  go_wp2
  refine end_c rfl rfl _ _ _ _ rfl (by (apply Blk.is; (case h => (repeat (first | (with_reducible assumption) | ((with_reducible apply Blk.new_at); focus (first | (simp; done) | (simp; omega))) | with_reducible apply Blk.alloc | with_reducible apply Blk.drew | with_reducible apply Blk.drewN | with_reducible apply Blk.set | ((with_reducible apply Blk.far); case hp => (first | (simp; done) | (dsimp only; omega))) | ((with_reducible apply Blk.ext); case he => with_reducible assumption)))); all_goals rfl)) Try.underlying170 rfl (by kernel_rfl) ?_
  exact Ret.mk' rfl (by (repeat (first | (with_reducible assumption) | with_reducible exact Ext.refl _ | with_reducible apply Ext.alloc | with_reducible apply Ext.drew | with_reducible apply Ext.drewN | ((with_reducible apply Ext.set); case hp => (first | (simp; done) | (dsimp only; omega) | omega)) | ((with_reducible apply Ext.trans); case k => with_reducible assumption))))
theorem wpList_built {P : Program} {ops : Array Oper} {rest : List Oper} {o : Oper} {a : Act} {w : World} {Q : Exit → Act → World → Prop} (hg : o.guard = none) (t : TypeId) (parts : Array (Nat × Operand)) (ho : o.op = .build t parts) (cells : Array Value)
    (hc : P.built t (parts.map fun (i, x) => (i, a.eval x)).toList = some cells) (h : wpList P ops Q rest (a.put o.dst (.agg cells)) w) : wpList P ops Q (o :: rest) a w :=
  wpList_build hg t parts ho (by rw [hc]; rfl) (by rw [hc]; exact h)
theorem letters_built : Try.prog.built 175 [(0, .agg #[.int .i64 50, .func (.func 121) #[] #[]]), (1, .agg #[.int .i64 31, .func (.func 121) #[] #[]]), (2, .agg #[.int .i64 16, .func (.func 121) #[] #[]]), (3, .agg #[.int .i64 6, .func (.func 121) #[] #[]]), (4, .agg #[.int .i64 0, .func (.func 121) #[] #[]]), (5, .agg #[.int .i64 0, .func (.func 122) #[] #[]]), (6, .agg #[.int .i64 2, .func (.func 123) #[] #[]]), (7, .agg #[.int .i64 9, .func (.func 123) #[] #[]]), (8, .agg #[.int .i64 15, .func (.func 123) #[] #[]]), (9, .agg #[.int .i64 22, .func (.func 123) #[] #[]])] = some lettersV := by kernel_rfl
set_option maxRecDepth 20000 in
theorem letters_any (w : World) : Calls Try.prog 109 #[] w (Ret (.agg lettersV) w) := by
  go_enter Try.func109, Try.ntmps109
  go_upto_region 4 with fail
  rename_i hcut
  refine wp_region_lit ?_
  iterate 20 (refine wpList_plain rfl (fun K hK => ?_); go_simp; refine hK _ _ ?_; clear hK)
  refine wpList_built rfl 175 _ rfl lettersV (by simp only [List.map_toArray, List.map_cons, List.map_nil, Act.eval, Array.getD_eq_getD_getElem?, List.getElem?_toArray, List.getElem?_cons_succ, List.getElem?_cons_zero, Option.getD_some]; exact letters_built) ?_
  refine wpList_store_row rfl 175 _ _ rfl w.heap.size lettersV rfl rfl _ _ (heap_alloc_last w _) (by kernel_rfl) rfl (by kernel_rfl) ?_
  rw [World.setRow_alloc_new]
  refine wpList_nil ?_
  refine hcut _ _ ?_
  go_wp2
  refine end_c rfl rfl _ _ _ _ rfl (Blk.new w _ _) Try.underlying175 rfl (by kernel_rfl) ?_
  exact Ret.mk' rfl (by (repeat (first | (with_reducible assumption) | with_reducible exact Ext.refl _ | with_reducible apply Ext.alloc | with_reducible apply Ext.drew | with_reducible apply Ext.drewN | ((with_reducible apply Ext.set); case hp => (first | (simp; done) | (dsimp only; omega) | omega)) | ((with_reducible apply Ext.trans); case k => with_reducible assumption))))
theorem szL15 : (Try.prog.info? 23).map (·.size) = some 2 := by kernel_rfl
theorem below_any (t s : Int) (ht : 0 ≤ t ∧ t ≤ 1000) (hs : 0 ≤ s ∧ s ≤ 1000) (w : World) : Calls Try.prog 121 #[.int .i64 t, .int .i64 s] w (Ret (.agg #[.int .i64 (-s - t), .int .i64 (-s)]) w) := by
  go_enter Try.func121, Try.ntmps121
  go_wp2
  refine end_c rfl rfl _ _ _ _ rfl (by (apply Blk.is; (case h => (repeat (first | (with_reducible assumption) | ((with_reducible apply Blk.new_at); focus (first | (simp; done) | (simp; omega))) | with_reducible apply Blk.alloc | with_reducible apply Blk.drew | with_reducible apply Blk.drewN | with_reducible apply Blk.set | ((with_reducible apply Blk.far); case hp => (first | (simp; done) | (dsimp only; omega))) | ((with_reducible apply Blk.ext); case he => with_reducible assumption)))); all_goals rfl)) Try.underlying23 rfl (by exact szL15) ?_
  exact Ret.mk' rfl (by (repeat (first | (with_reducible assumption) | with_reducible exact Ext.refl _ | with_reducible apply Ext.alloc | with_reducible apply Ext.drew | with_reducible apply Ext.drewN | ((with_reducible apply Ext.set); case hp => (first | (simp; done) | (dsimp only; omega) | omega)) | ((with_reducible apply Ext.trans); case k => with_reducible assumption))))
theorem around_any (t s : Int) (ht : 0 ≤ t ∧ t ≤ 1000) (hs : 0 ≤ s ∧ s ≤ 1000) (w : World) : Calls Try.prog 122 #[.int .i64 t, .int .i64 s] w (Ret (.agg #[.int .i64 (-(t / 2)), .int .i64 (t / 2)]) w) := by
  go_enter Try.func122, Try.ntmps122
  go_wp2
  refine end_c rfl rfl _ _ _ _ rfl (by (apply Blk.is; (case h => (repeat (first | (with_reducible assumption) | ((with_reducible apply Blk.new_at); focus (first | (simp; done) | (simp; omega))) | with_reducible apply Blk.alloc | with_reducible apply Blk.drew | with_reducible apply Blk.drewN | with_reducible apply Blk.set | ((with_reducible apply Blk.far); case hp => (first | (simp; done) | (dsimp only; omega))) | ((with_reducible apply Blk.ext); case he => with_reducible assumption)))); all_goals rfl)) Try.underlying23 rfl (by exact szL15) ?_
  exact Ret.mk' rfl (by (repeat (first | (with_reducible assumption) | with_reducible exact Ext.refl _ | with_reducible apply Ext.alloc | with_reducible apply Ext.drew | with_reducible apply Ext.drewN | ((with_reducible apply Ext.set); case hp => (first | (simp; done) | (dsimp only; omega) | omega)) | ((with_reducible apply Ext.trans); case k => with_reducible assumption))))
theorem above_any (t s : Int) (ht : 0 ≤ t ∧ t ≤ 1000) (hs : 0 ≤ s ∧ s ≤ 1000) (w : World) : Calls Try.prog 123 #[.int .i64 t, .int .i64 s] w (Ret (.agg #[.int .i64 s, .int .i64 (s + t)]) w) := by
  go_enter Try.func123, Try.ntmps123
  go_wp2
  refine end_c rfl rfl _ _ _ _ rfl (by (apply Blk.is; (case h => (repeat (first | (with_reducible assumption) | ((with_reducible apply Blk.new_at); focus (first | (simp; done) | (simp; omega))) | with_reducible apply Blk.alloc | with_reducible apply Blk.drew | with_reducible apply Blk.drewN | with_reducible apply Blk.set | ((with_reducible apply Blk.far); case hp => (first | (simp; done) | (dsimp only; omega))) | ((with_reducible apply Blk.ext); case he => with_reducible assumption)))); all_goals rfl)) Try.underlying23 rfl (by exact szL15) ?_
  exact Ret.mk' rfl (by (repeat (first | (with_reducible assumption) | with_reducible exact Ext.refl _ | with_reducible apply Ext.alloc | with_reducible apply Ext.drew | with_reducible apply Ext.drewN | ((with_reducible apply Ext.set); case hp => (first | (simp; done) | (dsimp only; omega) | omega)) | ((with_reducible apply Ext.trans); case k => with_reducible assumption))))

theorem index1_any (n m b : Int) (c : Nat) (w : World) (hC : Blk w c #[.int .i64 n] 3) : Calls Try.prog 120 #[.agg #[.int .i64 m, .int .i64 b], .pointer (some ⟨c, 0, none⟩)] w (Ret (.bool (decide (n ≤ m))) w) := by
  obtain ⟨c1, c2⟩ := hC.c1
  have hl := hC.lt
  go_enter Try.func120, Try.ntmps120
  go_wp2
  go_ret
  exact Ret.bool (by first | rfl | simp) (by (repeat (first | (with_reducible assumption) | with_reducible exact Ext.refl _ | with_reducible apply Ext.alloc | with_reducible apply Ext.drew | with_reducible apply Ext.drewN | ((with_reducible apply Ext.set); case hp => (first | (simp; done) | (dsimp only; omega) | omega)) | ((with_reducible apply Ext.trans); case k => with_reducible assumption))))

theorem step_hit {n : Int} {k : Nat} (hk : k < 8) (ha : ∀ j, j < k → mosts.getD j 0 < n) (h : n ≤ mosts.getD k 0) : stepI n = k := by
  have hc : k = 0 ∨ k = 1 ∨ k = 2 ∨ k = 3 ∨ k = 4 ∨ k = 5 ∨ k = 6 ∨ k = 7 := by omega
  rcases hc with rfl | rfl | rfl | rfl | rfl | rfl | rfl | rfl
  case inl => simp [mosts] at h; simp [stepI, h]
  all_goals
    have hb := ha _ (Nat.lt_succ_self _)
    simp [mosts] at h hb
    unfold stepI
    repeat (first | rw [if_neg (by omega)] | rw [if_pos (by omega)])
set_option maxRecDepth 20000 in
theorem indexf_any (n : Int) (hn : n ≤ 100000) (g c : Nat) (T : TypeId) (w : World) (hB : Blk w g stepsV T) (hC : Blk w c #[.int .i64 n] 3) :
    Calls Try.prog 119 #[.slice (some ⟨g, 0, none⟩) 8 8, .func (.func 120) #[] #[.pointer (some ⟨c, 0, none⟩)]] w (Ret (.int .i64 (stepI n : Int)) w) := by
  go_enter Try.func119, Try.ntmps119
  go_wp2_with fail
  go_loopw [5, 8] (fun x i wr => ∃ k : Nat, k ≤ 8 ∧ i = .int .i64 k ∧ Ext w wr ∧ Hid (∀ j, j < k → mosts.getD j 0 < n)) (fun _ i _ => 8 - (intOf i).toNat)
  case atStart => exact ⟨0, Nat.zero_le _, rfl, Ext.refl _, fun j hj => by omega⟩
  case round =>
    obtain ⟨k, hk, rfl, he, hz⟩ := hrel
    by_cases hlt : k < 8
    · obtain ⟨s1, s2⟩ := stepsV_most hlt
      obtain ⟨M, hM⟩ : ∃ v, mosts.getD k 0 = v := ⟨_, rfl⟩
      obtain ⟨B, hB'⟩ : ∃ v, bases.getD k 0 = v := ⟨_, rfl⟩
      rw [hM] at s1
      rw [hB'] at s2
      have c1 : wr.cell? ⟨g, 0 + k * 2, none⟩ = some (.int .i64 M) := ((hB.ext he).cell _).trans s1
      have c2 : wr.cell? ⟨g, 0 + k * 2 + 1, none⟩ = some (.int .i64 B) := ((hB.ext he).cell _).trans s2
      simp only [Nat.zero_add] at c1 c2
      have HM := Lib.hid hM
      clear s1 s2 hM hB'
      by_cases hh : n ≤ M
      · have hfin : stepI n = k := step_hit hlt hz.out (by rw [HM.out]; exact hh)
        have hd : decide (n ≤ M) = true := by simpa using hh
        go_wp2_with fail
        refine (index1_any n M B c _ (hC.ext he)).mono ?_
        rintro e w' ⟨rfl, hb⟩
        rw [hd]
        go_wp2_with fail
        go_ret
        exact Ret.int (by rw [hfin]) (he.trans hb)
      · have hd : decide (n ≤ M) = false := by simpa using hh
        go_wp2_with fail
        refine (index1_any n M B c _ (hC.ext he)).mono ?_
        rintro e w' ⟨rfl, hb⟩
        rw [hd]
        go_wp2_with fail
        go_roundw
        case rel => exact ⟨k + 1, by omega, by go_num, he.trans hb, fun j hj => by
          by_cases h : j < k
          · exact hz.out j h
          · obtain rfl : j = k := by omega
            rw [HM.out]; omega⟩
        case measure => simp [intOf]; omega
    · exfalso
      have := hz.out 7 (by omega)
      simp [mosts] at this
      omega
end Go.Proofs.Ytdcedfciaaooiaa
