/- Whether values are a part: the walk. -/
import Derived.Test.YtdcedfciaaooiabF25
import Derived.Test.YtdcedfciaaooiabI25
import Derived.BigQuiet
set_option linter.unusedVariables false
namespace Go.Proofs.Ytdcedfciaaooiab
open Go.RowKit

set_option maxRecDepth 20000 in
set_option maxHeartbeats 4000000 in
theorem within_ok (A B V : Option Addr) (n m c c2 c3 : Nat) (xs : List Dim) (lo hi : Int) (vs : List Int) (w : World) (hx : Dims w A n xs) (hv : Ints w V n vs) (hin : ∀ i, i < n → (xs.getD i zeroD).lo ≤ vs.getD i 0 ∧ vs.getD i 0 ≤ (xs.getD i zeroD).hi) : Calls Try.prog 35 #[.agg #[.slice A n c, .slice B m c2, .int .i64 lo, .int .i64 hi], .slice V n c3] w (Ret (.bool true) w) := by
  have HX := Lib.hid hx
  have HV := Lib.hid hv
  have HIN := Lib.hid hin
  have hxm := hx.max
  clear hx hv hin
  go_enter Try.func35, Try.ntmps35
  go_wp2_with fail
  go_loopw [16] (fun i wr => ∃ q : Nat, q ≤ n ∧ i = .int .i64 q ∧ Ext w wr) (fun i _ => n - (intOf i).toNat)
  case atStart => exact ⟨0, Nat.zero_le _, rfl, by (repeat (first | (with_reducible assumption) | with_reducible exact Ext.refl _ | with_reducible apply Ext.alloc | with_reducible apply Ext.drew | with_reducible apply Ext.drewN | ((with_reducible apply Ext.set); case hp => (first | (simp; done) | (dsimp only; omega) | omega)) | ((with_reducible apply Ext.trans); case k => with_reducible assumption)))⟩
  case round =>
    obtain ⟨q, hq, rfl, hE⟩ := hrel
    by_cases hlt : q < n
    · obtain ⟨bA, oA, rfl, hcA⟩ := HX.out.at_ (by omega)
      obtain ⟨bV, oV, rfl, hcV⟩ := HV.out.at_ (by omega)
      have hin := HIN.out q hlt
      obtain ⟨d, hd⟩ : ∃ d, xs.getD q zeroD = d := ⟨_, rfl⟩
      obtain ⟨v, hvv⟩ : ∃ v, vs.getD q 0 = v := ⟨_, rfl⟩
      obtain ⟨a1, a2, a3, a4, a5⟩ := Dims.cells hcA hE q hlt d hd
      have v1 := hE.cell (hcV q hlt)
      rw [hvv] at v1 hin
      rw [hd] at hin
      have hbl := World.block_lt_of_cell? _ _ v1
      have hbl2 := World.block_lt_of_cell? _ _ a1
      dsimp only at hbl hbl2
      obtain ⟨hin1, hin2⟩ := hin
      have hin3 : decide (v < d.lo) = false := by simp; omega
      have hin4 : decide (d.hi < v) = false := by simp; omega
      clear hcA hcV hd hvv
      go_wp2_with fail
      go_quiet (fail)
      go_wp2_with fail
      go_roundw
      case rel => exact ⟨q + 1, by omega, by go_num, by (repeat (first | (with_reducible assumption) | with_reducible exact Ext.refl _ | with_reducible apply Ext.alloc | with_reducible apply Ext.drew | with_reducible apply Ext.drewN | ((with_reducible apply Ext.set); case hp => (first | (simp; done) | (dsimp only; omega) | omega)) | ((with_reducible apply Ext.trans); case k => with_reducible assumption)))⟩
      case measure => simp [intOf]; omega
    · obtain rfl : n = q := by omega
      go_wp2_with fail
      go_ret
      exact Ret.bool rfl hE
end Go.Proofs.Ytdcedfciaaooiab
