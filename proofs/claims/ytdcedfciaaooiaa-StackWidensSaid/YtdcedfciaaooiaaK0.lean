/- A region that draws, inside a round of a range over a function: by the plain walk. -/
import Derived.Test.YtdcedfciaaooiaaJ0
import Derived.Deep.RegionHeld3
import Derived.OrdersIn
set_option linter.unusedVariables false
namespace Go.Proofs.Ytdcedfciaaooiaa
open Go.RowKit

/-- Q, but 'False' where memory runs out. -/
def NoOut (Q : Exit → Act → World → Prop) : Exit → Act → World → Prop
  | .outgrown, _, _ => False
  | e, a, w => Q e a w
theorem NoOut.normal {Q : Exit → Act → World → Prop} {a : Act} {w : World} (h : Q .normal a w) : NoOut Q .normal a w := h
theorem NoOut.imp {Q : Exit → Act → World → Prop} : ∀ (e : Exit) (a : Act) (w : World), NoOut Q e a w → Q e a w := fun e a w h => by
  cases e <;> first | exact h | exact (h : False).elim
theorem NoOut.not {Q : Exit → Act → World → Prop} : ¬ LetsOut (NoOut Q) := fun ⟨_, _, h⟩ => h

theorem rows_in {l n : Nat} {P : Program} {row : String} {args : Array Value} {w : World} {R : Value → World → Prop} (h : Rows P row args w R) : RowsIn (Fence.wide.inRound l) n P row args w R := fun c cs _ => by
  obtain ⟨v, w', r, s⟩ := h c cs
  exact ⟨v, w', r, stepsIn_wide.2 s⟩
theorem upon_in {l n : Nat} {P : Program} {o : Oper} {a : Act} {next : Act → World → Prop} {Q : Exit → Act → World → Prop} {r : Result Next} (h : o.upon P a next Q r) : o.uponIn (Fence.wide.inRound l) n P a next Q r := by
  cases r with
  | ok x w' =>
    cases x with
    | value v => exact h
    | skip => exact h
    | defer d => exact h
    | enter f args => exact ⟨(fun e => by cases e), (callsIn_wide.2 h : CallsIn Fence.wide (n - 1) P f args w' _)⟩
    | row row args => exact ⟨(fun e => by cases e), rows_in h⟩
    | _ => exact (h : False).elim
  | halt x w' =>
    cases x with
    | panic v => exact h
    | _ => exact (h : False).elim
theorem wp_in {l n : Nat} {P : Program} {o : Oper} {a : Act} {w : World} {next : Act → World → Prop} {Q : Exit → Act → World → Prop} (hd : ∀ c, o.op ≠ .defer c) (h : o.wp P a w next Q) : o.wpIn (Fence.wide.inRound l) n P a w next Q := by
  refine ⟨fun _ _ => trivial, ?_⟩
  rw [Oper.semAt_eq _ _ _ hd]
  exact upon_in h
theorem wpAny_in {l n : Nat} {P : Program} {md : Region.Mode} {ops : Array Oper} {Q : Exit → Act → World → Prop} (hd : ∀ (i : Nat) (o : Oper), ops[i]? = some o → ∀ c, o.op ≠ .defer c) (hq : ¬ LetsOut Q) :
    ∀ (fuel : Nat) (listed : Array Bool) (a : Act) (w : World), wpAny P md ops Q fuel listed a w → wpAnyIn (Fence.wide.inRound l) n P md ops Q fuel listed a w := by
  have key : ∀ (i : Nat) (K K' : Act → World → Prop) (a : Act) (w : World), (∀ a w, K a w → K' a w) → wpOp P ops Q i K a w → wpOpIn (Fence.wide.inRound l) n P ops Q i K' a w := by
    intro i K K' a w hK h
    unfold wpOp at h
    unfold wpOpIn
    cases ho : ops[i]? with
    | none => rw [ho] at h; exact hK _ _ h
    | some o =>
      rw [ho] at h
      dsimp only at h ⊢
      split
      · rename_i hw
        rw [if_pos hw] at h
        rcases h with h | ⟨_, h⟩
        · exact wp_in (hd i o ho) (Oper.wp_mono hK h)
        · exact absurd h hq
      · rename_i hw
        rw [if_neg hw] at h
        exact ⟨fun _ _ => trivial, hK _ _ h⟩
  intro fuel
  induction fuel with
  | zero => intro listed a w h; exact h
  | succ fuel ih =>
    intro listed a w h
    exact ⟨h.1, fun i hi => key i _ _ a w (fun a w => ih _ a w) (h.2 i hi)⟩
def noDefer (ops : Array Oper) : Bool := ops.all fun o => match o.op with | .defer _ => false | _ => true
theorem noDefer_spec {ops : Array Oper} (h : noDefer ops = true) (i : Nat) (o : Oper) (ho : ops[i]? = some o) (c : _) : o.op ≠ .defer c := by
  intro e
  have := Array.all_eq_true'.1 h o (Array.mem_of_getElem? ho)
  rw [e] at this
  simp at this
/-- The beginning of a region that draws, inside a round: the plain walk of the region serves. -/
theorem wpIn_region_held {l n id : Nat} {P : Program} {ops : Array Oper} {Q : Exit → Act → World → Prop} {S : World → Prop} {a : Act} {w : World} (hd : noDefer ops = true) (hm : P.follows .mixedOrders = true) (hS : S w.drew)
    (h : S w.drew → wpAnyH P .any ops (NoOut Q) S ops.size (Array.replicate ops.size false) a w.drew) : (Code.region id ops true).wpIn (Fence.wide.inRound l) n P Q a w :=
  wpIn_mono (wpIn_region_any hm (wpAny_in (noDefer_spec hd) NoOut.not _ _ _ _ (wpAny_of_held _ _ _ _ (h hS)))) NoOut.imp

end Go.Proofs.Ytdcedfciaaooiaa
