/- slices.Clone of dimensions: the walk. -/
import Derived.Test.YtdcedfciaaooiaaA6
import Derived.Deep.AppendSrc
import Derived.Lib.SliceRun
set_option linter.unusedVariables false
namespace Go.Proofs.Ytdcedfciaaooiaa
open Go.RowKit

set_option maxRecDepth 20000 in
set_option maxHeartbeats 4000000 in
theorem clone_any (A : Option Addr) (n c : Nat) (xs : List Dim) (w : World) (hx : Dims w A n xs) (hn : 0 < n) (hmax : n ≤ 256) :
    Calls Try.prog 59 #[.slice A n c] w (fun e w' => ∃ g cap cur, e = .returned (.slice (some ⟨g, 0, none⟩) n cap) ∧ DRow w' w.heap.size g n cur xs ∧ Ext w w') := by
  obtain ⟨b, o, rfl, hc⟩ := hx.at_ hn
  have hl := hx.len
  have HC := Lib.hid hc
  obtain ⟨i0, hi, hz0, hz1, hz2⟩ := info_parts infoDim
  have q : ∀ (w : World) (a : Option Addr) (n c n' c' : Nat), (binOp .eql 42 (.slice a n c) (.slice none n' c')).run Try.prog w = .ok (.bool a.isNone) w := fun w a n c n' c' => Lib.run_eql_slice_nil w _ _ a n c n' c' Try.underlying42
  clear hc hx
  go_enter Try.func59, Try.ntmps59
  go_wp2_with (at_builtin; refine wpList_append_own _ rfl _ _ 42 rfl w.heap.size 40 i0 _ 5 56 Try.underlying42 hi hz0 hz1 hz2 rfl (by decide) _ 0 [] rfl (World.ownsRow_made w #[] 0 (Nat.le_refl _) (Nat.zero_le _) rfl) ⟨b, o, none⟩ n c (flatD xs) rfl ?q1 ?q2 ?q3 ?q4 ?q5 ?q6 ?_)
  case q1 => rw [flatD_len, hl]
  case q2 => exact Dims.news hl HC.out (by (repeat (first | (with_reducible assumption) | with_reducible exact Ext.refl _ | with_reducible apply Ext.alloc | with_reducible apply Ext.drew | with_reducible apply Ext.drewN | ((with_reducible apply Ext.set); case hp => (first | (simp; done) | (dsimp only; omega) | omega)) | ((with_reducible apply Ext.trans); case k => with_reducible assumption))))
  case q3 => exact flatD_one xs
  case q4 => unfold maxLen; omega
  case q5 => omega
  case q6 => simp
  intro v' w1 hown hgrow hnil
  obtain ⟨g, cap, cur, rfl, hD⟩ := ownsDR hown hn
  go_wp2_with fail
  go_ret
  refine ⟨g, cap, cur, rfl, hD, ?_⟩
  exact Ext.grown ((Ext.refl w).alloc _) hgrow (by intro k hk; simp [Value.ownBlock] at hk; omega)
end Go.Proofs.Ytdcedfciaaooiaa
