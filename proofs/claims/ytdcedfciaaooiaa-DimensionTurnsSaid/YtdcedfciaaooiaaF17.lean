/- Few of chapter 17, and the law DimensionJoins: the walks. -/
import Derived.Test.YtdcedfciaaooiaaA17
import Derived.Test.YtdcedfciaaooiaaD0
set_option linter.unusedVariables false
namespace Go.Proofs.Ytdcedfciaaooiaa
open Go.RowKit

/-- It returns some truth value, and only makes memory. -/
def RetB (w : World) (e : Ending) (w' : World) : Prop := ∃ x : Bool, e = .returned (.bool x) ∧ Ext w w'
theorem RetB.mk' {x : Bool} {w w' : World} (h : Ext w w') : RetB w (.returned (.bool x)) w' := ⟨x, rfl, h⟩

/-- A block of two dimensions, read as a list. -/
theorem Dims.two {w : World} {g : Nat} {t : TypeId} {a b : Dim} (h : Blk w g #[.string a.frm, .string a.to, .int .i64 a.axis, .int .i64 a.lo, .int .i64 a.hi, .string b.frm, .string b.to, .int .i64 b.axis, .int .i64 b.lo, .int .i64 b.hi] t) (ha : a.fits) (hb : b.fits) : Dims w (some ⟨g, 0, none⟩) 2 [a, b] := by
  refine ⟨rfl, by decide, fun k hk => ?_, .inr ⟨g, 0, rfl, fun k hk => ?_⟩⟩
  · match k, hk with
    | 0, _ => exact ha
    | 1, _ => exact hb
  · match k, hk with
    | 0, _ => exact ⟨h.cell 0, h.cell 1, h.cell 2, h.cell 3, h.cell 4⟩
    | 1, _ => exact ⟨h.cell 5, h.cell 6, h.cell 7, h.cell 8, h.cell 9⟩

set_option maxRecDepth 20000 in
set_option maxHeartbeats 2000000 in
theorem few17_any (A : Option Addr) (n c : Nat) (xs : List Dim) (w : World) (hx : Dims w A n xs) : Calls Try.prog 26 #[.slice A n c] w (RetB w) := by
  have HX := Lib.hid hx
  have hmx := hx.max
  clear hx
  have hcs : (10 < n ∧ n ≤ 256) ∨ (10 < n ∧ 512 < n) ∨ (10 < n ∧ 256 < n ∧ n ≤ 512) ∨ n ≤ 10 := by omega
  rcases hcs with ⟨h1, h2⟩ | ⟨h1, h2⟩ | ⟨h1, h2, h3⟩ | h1
  · go_enter Try.func26, Try.ntmps26
    go_wp2_with fail
    go_ret
    exact RetB.mk' (by (repeat (first | (with_reducible assumption) | with_reducible exact Ext.refl _ | with_reducible apply Ext.alloc | with_reducible apply Ext.drew | with_reducible apply Ext.drewN | ((with_reducible apply Ext.set); case hp => (first | (simp; done) | (dsimp only; omega) | omega)) | ((with_reducible apply Ext.trans); case k => with_reducible assumption))))
  · go_enter Try.func26, Try.ntmps26
    go_wp2_with fail
    go_ret
    exact RetB.mk' (by (repeat (first | (with_reducible assumption) | with_reducible exact Ext.refl _ | with_reducible apply Ext.alloc | with_reducible apply Ext.drew | with_reducible apply Ext.drewN | ((with_reducible apply Ext.set); case hp => (first | (simp; done) | (dsimp only; omega) | omega)) | ((with_reducible apply Ext.trans); case k => with_reducible assumption))))
  all_goals
    go_enter Try.func26, Try.ntmps26
    go_wp2_with fail
    go_loopw [3] (fun i wr => ∃ k : Nat, k ≤ n ∧ i = .int .i64 k ∧ Ext w wr) (fun i _ => n - (intOf i).toNat)
    case atStart => exact ⟨0, Nat.zero_le _, rfl, Ext.refl _⟩
    case round =>
      obtain ⟨k, hk, rfl, he⟩ := hrel
      by_cases hlt : k < n
      · obtain ⟨b, o, hA, hc⟩ := HX.out.at_ (by omega)
        obtain ⟨d, hd⟩ : ∃ d, xs.getD k zeroD = d := ⟨_, rfl⟩
        obtain ⟨c1, c2, c3, c4, c5⟩ := Dims.cells hc he k hlt d hd
        have HD := Lib.hid hd
        have HA := Lib.hid hA
        clear hc hd
        subst hA
        by_cases hf : 100 < d.frm.size
        · go_wp2_with fail
          go_ret
          exact RetB.mk' (by (repeat (first | (with_reducible assumption) | with_reducible exact Ext.refl _ | with_reducible apply Ext.alloc | with_reducible apply Ext.drew | with_reducible apply Ext.drewN | ((with_reducible apply Ext.set); case hp => (first | (simp; done) | (dsimp only; omega) | omega)) | ((with_reducible apply Ext.trans); case k => with_reducible assumption))))
        · by_cases hg : 100 < d.to.size
          · go_wp2_with fail
            go_ret
            exact RetB.mk' (by (repeat (first | (with_reducible assumption) | with_reducible exact Ext.refl _ | with_reducible apply Ext.alloc | with_reducible apply Ext.drew | with_reducible apply Ext.drewN | ((with_reducible apply Ext.set); case hp => (first | (simp; done) | (dsimp only; omega) | omega)) | ((with_reducible apply Ext.trans); case k => with_reducible assumption))))
          · go_wp2_with fail
            go_roundw
            case rel => exact ⟨k + 1, by omega, by go_num, by (repeat (first | (with_reducible assumption) | with_reducible exact Ext.refl _ | with_reducible apply Ext.alloc | with_reducible apply Ext.drew | with_reducible apply Ext.drewN | ((with_reducible apply Ext.set); case hp => (first | (simp; done) | (dsimp only; omega) | omega)) | ((with_reducible apply Ext.trans); case k => with_reducible assumption)))⟩
            case measure => simp [intOf]; omega
      · go_wp2_with fail
        go_ret
        exact RetB.mk' (by (repeat (first | (with_reducible assumption) | with_reducible exact Ext.refl _ | with_reducible apply Ext.alloc | with_reducible apply Ext.drew | with_reducible apply Ext.drewN | ((with_reducible apply Ext.set); case hp => (first | (simp; done) | (dsimp only; omega) | omega)) | ((with_reducible apply Ext.trans); case k => with_reducible assumption))))
end Go.Proofs.Ytdcedfciaaooiaa
