/- Both limits of a stack are the sums of parts, and so is every int between them. -/
import Derived.Test.YtdcedfciaaooiabRows
import Derived.Test.YtdcedfciaaooiabO0
import Derived.Test.YtdcedfciaaooiabAT26
import Derived.Test.YtdcedfciaaooiabO6
import Derived.Test.YtdcedfciaaooiabO7
set_option linter.unusedVariables false
namespace Go.Proofs.Ytdcedfciaaooiab.stackAttains
open Go.ChangeShapes Go.WideShapes Go.ChangeAt Go.RowKit
open Go.ChangeMaps (open_string shut_string)

theorem own : ownKnob Try.prog.godebug = none := by kernel_rfl
theorem laidOut : laidOutB Try.prog = true := by kernel_rfl
set_option maxRecDepth 100000 in
theorem lifted (os : Os) (started : os.Started) (H : Type) (enc : TypeId × Value → H) :
    ReturnsInHanded {} Try.checked os 7 .any (Rows.stackAttainsSpec.pre6 enc Try.prog Try.f7 Rows.stackAttainsRow.domain false) (Rows.stackAttainsSpec.post enc Try.prog Try.f7 false true false false) := by
  refine returnsInHanded_of_change_sized (C := Try.checked) own started (by kernel_rfl) Try.func7
    (ChangeSpec.witness6 (enc := enc) (C := Try.checked) false ⟨#[], #[.agg #[.slice none 0 0, .slice none 0 0, .int .i64 0, .int .i64 0], .int .u16 0, .agg #[.int .u16 0, .int .u16 0, .int .u16 0, .int .u16 0, .int .u16 0, .int .u16 0]], []⟩ 8 (by kernel_rfl) (by kernel_rfl) (by kernel_rfl) (by kernel_rfl)) ?_
  intro W base args ds gs before hval0 hW hcnd hsz0 _
  have hsz : (DataW.weightsEach Try.prog (Try.f7.params.toList ++ Rows.stackAttainsSpec.plain.varTypes Try.prog) (ds ++ gs)).all (· ≤ reachBytes) = true := hsz0
  have hval : ∀ (j : Nat) t v, Try.f7.params[j]? = some t → args[j]? = some v → Value.okWide Try.prog W .any base t v := hval0
  have hW' := hW
  obtain ⟨p, q, hA0, hV, rfl, hfz, hnd⟩ := hW
  have hA : DataW.TrodAll enc Try.prog W 0 (fun _ => true) true Try.f7.params.toList args.toList ds p := hA0
  rw [Try.params7] at hA hval hsz
  obtain ⟨v0, vs0, d0, ds0, p0, q0, hargs, rfl, rfl, h0, r0⟩ := trodAll_cons hA
  obtain ⟨v1, vs1, d1, ds1, p1, q1, rfl, rfl, rfl, h1, r1⟩ := trodAll_cons r0
  obtain ⟨v2, vs2, d2, ds2, p2, q2, rfl, rfl, rfl, h2, r2⟩ := trodAll_cons r1
  obtain ⟨rfl, rfl, rfl⟩ := trodAll_nil r2
  obtain rfl : args = #[v0, v1, v2] := by cases args; simp_all
  obtain ⟨rfl, rfl⟩ := trodVars_none hV
  have k0 := h0
  have lt0 : ∀ x ∈ p0, x.block < W.heap.size := by obtain ⟨m, hm⟩ := k0; exact DataW.trod_lt m _ _ _ hm
  have k1 := h1
  have lt1 : ∀ x ∈ p1, x.block < W.heap.size := by obtain ⟨m, hm⟩ := k1; exact DataW.trod_lt m _ _ _ hm
  have k2 := h2
  have lt2 : ∀ x ∈ p2, x.block < W.heap.size := by obtain ⟨m, hm⟩ := k2; exact DataW.trod_lt m _ _ _ hm
  obtain ⟨A0, B0, n0, m0, c0, e0, X0, K0, l0, u0, rfl, wX0, wK0, wC0, wE0, wM0⟩ := open_task hsz (j := 0) rfl rfl (hval 0 27 v0 rfl rfl) h0
  obtain ⟨x1, rfl, -, -, wx1⟩ := open_int Try.underlying73 (hval 1 73 v1 rfl rfl) h1
  have ux1 : 0 ≤ x1 ∧ x1 ≤ 65535 := by simp only [Lit.wf, Bool.and_eq_true, decide_eq_true_eq] at wx1; exact wx1
  obtain ⟨r2_0, r2_1, r2_2, r2_3, r2_4, r2_5, rfl, wr2_0, wr2_1, wr2_2, wr2_3, wr2_4, wr2_5⟩ := open_arr6u (hval 2 74 v2 rfl rfl) h2
  clear hA0 hval0 hsz0 hsz
  refine (law_stackAttains A0 B0 n0 m0 c0 e0 X0 K0 l0 u0 x1 r2_0 r2_1 r2_2 r2_3 r2_4 r2_5 W wX0 wK0 wM0 ux1 wr2_0 wr2_1 wr2_2 wr2_3 wr2_4 wr2_5).mono fun e W' ⟨he, bel⟩ => ?_
  subst he
  have bel : Below W.heap.size W W' := bel
  exact ⟨_, rfl, _, _, _, [], _, [], hW', trodAll_mk1 (shut_bool Try.underlying4 _), (trodAll_cons_mk (Below.trod laidOut (by kernel_rfl) (of_decide_eq_true (by kernel_rfl)) k0 bel lt0) (trodAll_cons_mk (Below.trod laidOut (by kernel_rfl) (of_decide_eq_true (by kernel_rfl)) k1 bel lt1) (trodAll_cons_mk (Below.trod laidOut (by kernel_rfl) (of_decide_eq_true (by kernel_rfl)) k2 bel lt2) trodAll_mk0))), rfl, bel.frame _, fun h => by cases h⟩
theorem over : Rows.stackAttainsRow.holds Try.pinned (OpenSpec.ofChange Rows.stackAttainsSpec) :=
  OpenClaim.holds_of_wide 7 Try.f7 rfl rfl rfl rfl rfl rfl rfl ⟨rfl, rfl, rfl, rfl, rfl⟩ rfl rfl rfl rfl rfl (by kernel_rfl) Try.func7 (by kernel_rfl)
    (of_decide_eq_true (by kernel_rfl)) (by unfold Func.isWrapper; first | (rw [if_pos (by decide +kernel)]; kernel_rfl) | (rw [if_neg (by decide +kernel)]; exact ⟨rfl, rfl⟩))
    (fun os started H enc _ => lifted os started H enc)
end Go.Proofs.Ytdcedfciaaooiab.stackAttains
namespace Go.Proofs.Ytdcedfciaaooiab
theorem stackAttains_holds : Rows.StackAttainsSaid := stackAttains.over
#print axioms stackAttains_holds
end Go.Proofs.Ytdcedfciaaooiab
