/- The examples of chapter 25: awake returns true. -/
import Derived.Test.YtdcedfciaaooiaaF25
import Derived.Test.YtdcedfciaaooiaaK25
import Derived.Test.YtdcedfciaaooiaaR25
import Derived.Test.YtdcedfciaaooiaaT25
set_option linter.unusedVariables false
namespace Go.Proofs.Ytdcedfciaaooiaa
open Go.RowKit

set_option maxRecDepth 100000
theorem n65 : nameE ⟨#[65]⟩ = 0 := by decide
theorem n66 : nameE ⟨#[66]⟩ = 0 := by decide
theorem n67 : nameE ⟨#[67]⟩ = 0 := by decide
theorem n68 : nameE ⟨#[68]⟩ = 0 := by decide
theorem t65_66 : sameS ⟨#[65]⟩ ⟨#[66]⟩ = false := by rw [sameS_eq]; rfl
theorem t67_66 : sameS ⟨#[67]⟩ ⟨#[66]⟩ = false := by rw [sameS_eq]; rfl
theorem t67_68 : sameS ⟨#[67]⟩ ⟨#[68]⟩ = false := by rw [sameS_eq]; rfl
theorem t66_66 : sameS ⟨#[66]⟩ ⟨#[66]⟩ = true := by rw [sameS_eq]; rfl
theorem t67_67 : sameS ⟨#[67]⟩ ⟨#[67]⟩ = true := by rw [sameS_eq]; rfl
theorem t65_67 : sameS ⟨#[65]⟩ ⟨#[67]⟩ = false := by rw [sameS_eq]; rfl
theorem t66_67 : sameS ⟨#[66]⟩ ⟨#[67]⟩ = false := by rw [sameS_eq]; rfl
theorem t66_68 : sameS ⟨#[66]⟩ ⟨#[68]⟩ = false := by rw [sameS_eq]; rfl
theorem th_given : givenE three = 0 := by
  rw [givenE_few rfl (by decide)]
  refine allE_none (n := 3) rfl (fun j hj => ?_)
  have h3 : j = 0 ∨ j = 1 ∨ j = 2 := by omega
  rcases h3 with rfl | rfl | rfl
  · simp [three, validE, firstE, n65, n66, midE, t65_66, chk, inR]
  · simp [three, validE, firstE, n67, n66, midE, t67_66, chk, inR]
  · simp [three, validE, firstE, n67, n68, midE, t67_68, chk, inR]
theorem th_chain : chainE three threeK = 0 := by
  refine chainE_none (n := 3) rfl (by omega) (by omega) (fun j hj => ?_)
  have h3 : j = 0 ∨ j = 1 ∨ j = 2 := by omega
  rcases h3 with rfl | rfl | rfl
  · simp [threeK, three, goesE, rangeB, shapeB, usedB, shutB, begunB, axisK, firstK, lastK, beginS, stopS]
  · simp [threeK, three, goesE, rangeB, shapeB, usedB, shutB, begunB, axisK, firstK, lastK, beginS, stopS, t66_66, t65_66]
  · simp [threeK, three, goesE, rangeB, shapeB, usedB, shutB, begunB, axisK, firstK, lastK, beginS, stopS, t67_67, t65_67, t66_68]
theorem th_task : taskE three threeK 10 16 = 0 := by
  rw [taskE_ok (by rw [checkE, if_neg (by simp [th_given]), th_chain])]
  simp [chk, inR]
theorem th_1 : endS 1 three threeK = 11 := by decide
theorem th_2 : endS (-1) three threeK = 18 := by decide
theorem th_p : sumP three threeK (14 - endS 1 three threeK) = [12, 3, 5] := by decide
theorem th_k : atE true three threeK = [12, 3, 9] := by decide
section
variable (A B : Option Addr) (w : World) (hx : Dims w A 3 three) (hk : Lnks w B 3 threeK)
include hx hk
theorem aw_lim : Calls Try.prog 58 #[.agg #[.slice A 3 3, .slice B 3 3, .int .i64 10, .int .i64 16]] w (Ret (.tuple #[.agg #[.int .i64 11, .int .i64 18], .int .i64 0]) w) := by
  have h := slimits_ok A B 3 3 3 3 three threeK 10 16 w hx hk th_task
  rwa [th_1, th_2] at h
theorem aw_part : Calls Try.prog 52 #[.agg #[.slice A 3 3, .slice B 3 3, .int .i64 10, .int .i64 16], .int .i64 14] w (fun e w' => ∃ g cap cur, e = .returned (.tuple #[.slice (some ⟨g, 0, none⟩) 3 cap, .int .i64 0]) ∧ IRow w' w.heap.size g 3 cur [12, 3, 5] ∧ Ext w w') := by
  have h := spart_ok 14 A B 3 3 3 3 three threeK 10 16 w hx hk th_task (by rw [th_1, th_2]; omega)
  rwa [th_p] at h
theorem aw_keeps : Calls Try.prog 61 #[.agg #[.slice A 3 3, .slice B 3 3, .int .i64 10, .int .i64 16]] w (fun e w' => ∃ g cap cur, e = .returned (.tuple #[.bool false, .slice (some ⟨g, 0, none⟩) 3 cap, .int .i64 0]) ∧ IRow w' w.heap.size g 3 cur [12, 3, 9] ∧ Ext w w') := by
  have h := skeeps_high A B 3 3 3 3 three threeK 10 16 w hx hk th_task (by rw [th_1]; omega) (by rw [th_2]; omega)
  rwa [th_k] at h
theorem aw_spare : Calls Try.prog 60 #[.agg #[.slice A 3 3, .slice B 3 3, .int .i64 10, .int .i64 16]] w (Ret (.tuple #[.int .i64 1, .int .i64 (-2), .int .i64 0]) w) := by
  have h := sspare_ok A B 3 3 3 3 three threeK 10 16 w hx hk th_task
  rwa [th_1, th_2] at h
theorem aw_room2 : Calls Try.prog 55 #[.agg #[.slice A 3 3, .slice B 3 3, .int .i64 10, .int .i64 16], .int .i64 2] w (Ret (.tuple #[.agg #[.int .i64 4, .int .i64 7], .int .i64 0]) w) := by
  have h := sroom_false A B 3 3 3 3 three threeK 10 16 w hx hk th_task 2 (by omega) rfl
  rw [th_1, th_2] at h
  exact h
theorem aw_room1 : Calls Try.prog 55 #[.agg #[.slice A 3 3, .slice B 3 3, .int .i64 10, .int .i64 16], .int .i64 1] w (Ret (.tuple #[.agg #[.int .i64 5, .int .i64 5], .int .i64 0]) w) := by
  have h := sroom_true A B 3 3 3 3 three threeK 10 16 w hx hk th_task 1 (by omega) rfl
  rw [th_1, th_2] at h
  exact h
end
theorem ints_new3 (w : World) (a b c : Int) (t : TypeId) : Ints (w.alloc (.cells #[.int .i64 a, .int .i64 b, .int .i64 c] t)) (some ⟨w.heap.size, 0, none⟩) 3 [a, b, c] :=
  ⟨rfl, by omega, .inr ⟨_, 0, rfl, fun j hj => by
    have hB := Blk.new w #[.int .i64 a, .int .i64 b, .int .i64 c] t
    have h3 : j = 0 ∨ j = 1 ∨ j = 2 := by omega
    rcases h3 with rfl | rfl | rfl
    · exact hB.cell 0
    · exact hB.cell 1
    · exact hB.cell 2⟩⟩
set_option maxHeartbeats 4000000 in
theorem awake25_any (w : World) : Calls Try.prog 51 #[] w (Ret (.bool true) w) := by
  go_enter Try.func51, Try.ntmps51
  go_wp2_with fail
  refine (three_any _).mono ?_
  rintro e w1 ⟨A1, B1, rfl, x1, k1, h1⟩
  go_wp2_with fail; refine (aw_lim A1 B1 _ x1 k1).mono ?_; rintro e w2 ⟨rfl, h2⟩
  go_wp2_with fail
  refine (three_any _).mono ?_
  rintro e w3 ⟨A3, B3, rfl, x3, k3, h3⟩
  go_wp2_with fail
  refine (aw_part A3 B3 _ x3 k3).mono ?_
  rintro e w4 ⟨g4, cap4, cur4, rfl, hI4, h4⟩
  go_wp2_with fail
  refine (three_any _).mono ?_
  rintro e w5 ⟨A5, B5, rfl, x5, k5, h5⟩
  go_wp2_with fail
  refine (aw_keeps A5 B5 _ x5 k5).mono ?_
  rintro e w6 ⟨g6, cap6, cur6, rfl, hI6, h6⟩
  go_wp2_with fail
  refine (three_any _).mono ?_
  rintro e w7 ⟨A7, B7, rfl, x7, k7, h7⟩
  go_wp2_with fail; refine (aw_spare A7 B7 _ x7 k7).mono ?_; rintro e w8 ⟨rfl, h8⟩
  have hs2 := Ext.size h2
  have L8 : Blk w8 (w2.heap.size) #[.int .i64 11, .int .i64 18] 23 := (by (repeat (first | (with_reducible assumption) | ((with_reducible apply Blk.new_at); focus (first | (simp; done) | (simp; omega))) | with_reducible apply Blk.alloc | with_reducible apply Blk.drew | with_reducible apply Blk.drewN | with_reducible apply Blk.set | ((with_reducible apply Blk.far); case hp => (first | (simp; done) | (dsimp only; omega))) | ((with_reducible apply Blk.ext); case he => with_reducible assumption)))); obtain ⟨L81, L82, L83, L84⟩ := L8.c2; have L85 := L8.lt
  have e88 : Ext w6 w8 := by (repeat (first | (with_reducible assumption) | with_reducible exact Ext.refl _ | with_reducible apply Ext.alloc | with_reducible apply Ext.drew | with_reducible apply Ext.drewN | ((with_reducible apply Ext.set); case hp => (first | (simp; done) | (dsimp only; omega) | omega)) | ((with_reducible apply Ext.trans); case k => with_reducible assumption)))
  have e68 : Ext w4 w8 := by (repeat (first | (with_reducible assumption) | with_reducible exact Ext.refl _ | with_reducible apply Ext.alloc | with_reducible apply Ext.drew | with_reducible apply Ext.drewN | ((with_reducible apply Ext.set); case hp => (first | (simp; done) | (dsimp only; omega) | omega)) | ((with_reducible apply Ext.trans); case k => with_reducible assumption)))
  have I4 := (hI4.ints (by omega)).ext e68
  have I6 := (hI6.ints (by omega)).ext e88
  go_wp2_with fail
  refine (eqI_true _ _ 3 _ _ [12, 3, 5] _ (I4.ext (by (repeat (first | (with_reducible assumption) | with_reducible exact Ext.refl _ | with_reducible apply Ext.alloc | with_reducible apply Ext.drew | with_reducible apply Ext.drewN | ((with_reducible apply Ext.set); case hp => (first | (simp; done) | (dsimp only; omega) | omega)) | ((with_reducible apply Ext.trans); case k => with_reducible assumption))))) (ints_new3 _ _ _ _ _)).mono ?_
  rintro e w9 ⟨rfl, h9⟩
  go_wp2_with fail
  refine (eqI_true _ _ 3 _ _ [12, 3, 9] _ (I6.ext (by (repeat (first | (with_reducible assumption) | with_reducible exact Ext.refl _ | with_reducible apply Ext.alloc | with_reducible apply Ext.drew | with_reducible apply Ext.drewN | ((with_reducible apply Ext.set); case hp => (first | (simp; done) | (dsimp only; omega) | omega)) | ((with_reducible apply Ext.trans); case k => with_reducible assumption))))) (ints_new3 _ _ _ _ _)).mono ?_
  rintro e w10 ⟨rfl, h10⟩
  go_wp2_with fail
  refine (three_any _).mono ?_
  rintro e w11 ⟨A11, B11, rfl, x11, k11, h11⟩
  go_wp2_with fail; refine (aw_room2 A11 B11 _ x11 k11).mono ?_; rintro e w12 ⟨rfl, h12⟩
  go_wp2_with fail
  refine (three_any _).mono ?_
  rintro e w13 ⟨A13, B13, rfl, x13, k13, h13⟩
  go_wp2_with fail; refine (aw_room1 A13 B13 _ x13 k13).mono ?_; rintro e w14 ⟨rfl, h14⟩
  have R12 : Blk w14 (w12.heap.size) #[.int .i64 4, .int .i64 7] 23 := (by (repeat (first | (with_reducible assumption) | ((with_reducible apply Blk.new_at); focus (first | (simp; done) | (simp; omega))) | with_reducible apply Blk.alloc | with_reducible apply Blk.drew | with_reducible apply Blk.drewN | with_reducible apply Blk.set | ((with_reducible apply Blk.far); case hp => (first | (simp; done) | (dsimp only; omega))) | ((with_reducible apply Blk.ext); case he => with_reducible assumption)))); obtain ⟨R121, R122, R123, R124⟩ := R12.c2; have R125 := R12.lt
  go_wp2_with fail
  go_ret
  exact Ret.bool (by first | rfl | simp) (by (repeat (first | (with_reducible assumption) | with_reducible exact Ext.refl _ | with_reducible apply Ext.alloc | with_reducible apply Ext.drew | with_reducible apply Ext.drewN | ((with_reducible apply Ext.set); case hp => (first | (simp; done) | (dsimp only; omega) | omega)) | ((with_reducible apply Ext.trans); case k => with_reducible assumption))))
end Go.Proofs.Ytdcedfciaaooiaa
