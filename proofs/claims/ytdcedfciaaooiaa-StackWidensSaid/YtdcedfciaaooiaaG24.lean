/- given and Given: the first error of some dimensions. -/
import Derived.Test.YtdcedfciaaooiaaD0
import Derived.Test.YtdcedfciaaooiaaR2
set_option linter.unusedVariables false
namespace Go.Proofs.Ytdcedfciaaooiaa
open Go.RowKit

set_option maxRecDepth 20000 in
set_option maxHeartbeats 1000000 in
theorem given_any (A : Option Addr) (n c : Nat) (xs : List Dim) (w : World) (hx : Dims w A n xs) : Calls Try.prog 127 #[.slice A n c] w (Ret (.int .i64 (givenE xs)) w) := by
  have HX := Lib.hid hx
  have hmx := hx.max
  clear hx
  by_cases hm : 256 < n
  · have hr := Lib.hid (givenE_many HX.out.len hm)
    go_enter Try.func127, Try.ntmps127
    go_wp2_with fail
    go_ret
    exact Ret.int hr.out.symm (by (repeat (first | (with_reducible assumption) | with_reducible exact Ext.refl _ | with_reducible apply Ext.alloc | with_reducible apply Ext.drew | with_reducible apply Ext.drewN | ((with_reducible apply Ext.set); case hp => (first | (simp; done) | (dsimp only; omega) | omega)) | ((with_reducible apply Ext.trans); case k => with_reducible assumption))))
  · have hg := Lib.hid (givenE_few HX.out.len hm)
    go_enter Try.func127, Try.ntmps127
    go_wp2_with fail
    go_loopw [4, 5, 11] (fun x y i wr => ∃ k : Nat, k ≤ n ∧ i = .int .i64 k ∧ Ext w wr ∧ Hid (∀ j, j < k → validE (xs.getD j zeroD) = 0)) (fun _ _ i _ => n - (intOf i).toNat)
    case atStart => exact ⟨0, Nat.zero_le _, rfl, Ext.refl _, fun j hj => by omega⟩
    case round =>
      obtain ⟨k, hk, rfl, he, hz⟩ := hrel
      by_cases hlt : k < n
      · obtain ⟨b, o, hA, hc⟩ := HX.out.at_ (by omega)
        obtain ⟨d, hd⟩ : ∃ d, xs.getD k zeroD = d := ⟨_, rfl⟩
        obtain ⟨c1, c2, c3, c4, c5⟩ := Dims.cells hc he k hlt d hd
        have hfit := HX.out.fit k hlt
        rw [hd] at hfit
        have HD := Lib.hid hd
        have HA := Lib.hid hA
        clear hc hd
        subst hA
        cases hv : validE d != 0
        · go_wp2_with fail
          refine (valid_any _ _ hfit).mono ?_
          rintro e w2 ⟨rfl, he2⟩
          go_wp2_with fail
          go_roundw
          case rel => exact ⟨k + 1, by omega, by go_num, by (repeat (first | (with_reducible assumption) | with_reducible exact Ext.refl _ | with_reducible apply Ext.alloc | with_reducible apply Ext.drew | with_reducible apply Ext.drewN | ((with_reducible apply Ext.set); case hp => (first | (simp; done) | (dsimp only; omega) | omega)) | ((with_reducible apply Ext.trans); case k => with_reducible assumption))), fun j hj => by
            by_cases h : j < k
            · exact hz.out j h
            · obtain rfl : j = k := by omega
              rw [HD.out]; simpa using hv⟩
          case measure => simp [intOf]; omega
        · have hr := Lib.hid (allE_hit HX.out.len k hlt hz.out (by rw [HD.out]; simpa using hv))
          go_wp2_with fail
          refine (valid_any _ _ hfit).mono ?_
          rintro e w2 ⟨rfl, he2⟩
          go_wp2_with fail
          go_ret
          exact Ret.int (by rw [hg.out, hr.out, HD.out]) (by (repeat (first | (with_reducible assumption) | with_reducible exact Ext.refl _ | with_reducible apply Ext.alloc | with_reducible apply Ext.drew | with_reducible apply Ext.drewN | ((with_reducible apply Ext.set); case hp => (first | (simp; done) | (dsimp only; omega) | omega)) | ((with_reducible apply Ext.trans); case k => with_reducible assumption))))
      · have hr := Lib.hid (allE_none HX.out.len (fun j hj => hz.out j (by omega)))
        go_wp2_with fail
        go_ret
        exact Ret.int (by rw [hg.out, hr.out]) (by (repeat (first | (with_reducible assumption) | with_reducible exact Ext.refl _ | with_reducible apply Ext.alloc | with_reducible apply Ext.drew | with_reducible apply Ext.drewN | ((with_reducible apply Ext.set); case hp => (first | (simp; done) | (dsimp only; omega) | omega)) | ((with_reducible apply Ext.trans); case k => with_reducible assumption))))
set_option maxRecDepth 20000 in
set_option maxHeartbeats 1000000 in
theorem rgiven_any (A : Option Addr) (n c : Nat) (xs : List Dim) (w : World) (hx : Dims w A n xs) : Calls Try.prog 111 #[.slice A n c] w (Ret (.int .i64 (givenE xs)) w) := by
  have HX := Lib.hid hx
  have hmx := hx.max
  clear hx
  by_cases hm : 256 < n
  · have hr := Lib.hid (givenE_many HX.out.len hm)
    go_enter Try.func111, Try.ntmps111
    go_wp2_with fail
    go_ret
    exact Ret.int hr.out.symm (by (repeat (first | (with_reducible assumption) | with_reducible exact Ext.refl _ | with_reducible apply Ext.alloc | with_reducible apply Ext.drew | with_reducible apply Ext.drewN | ((with_reducible apply Ext.set); case hp => (first | (simp; done) | (dsimp only; omega) | omega)) | ((with_reducible apply Ext.trans); case k => with_reducible assumption))))
  · have hg := Lib.hid (givenE_few HX.out.len hm)
    go_enter Try.func111, Try.ntmps111
    go_wp2_with fail
    go_loopw [3, 4] (fun i y wr => ∃ k : Nat, k ≤ n ∧ i = .int .i64 k ∧ Ext w wr ∧ Hid (∀ j, j < k → validE (xs.getD j zeroD) = 0)) (fun i _ _ => n - (intOf i).toNat)
    case atStart => exact ⟨0, Nat.zero_le _, rfl, Ext.refl _, fun j hj => by omega⟩
    case round =>
      obtain ⟨k, hk, rfl, he, hz⟩ := hrel
      by_cases hlt : k < n
      · obtain ⟨b, o, hA, hc⟩ := HX.out.at_ (by omega)
        obtain ⟨d, hd⟩ : ∃ d, xs.getD k zeroD = d := ⟨_, rfl⟩
        obtain ⟨c1, c2, c3, c4, c5⟩ := Dims.cells hc he k hlt d hd
        have hfit := HX.out.fit k hlt
        rw [hd] at hfit
        have HD := Lib.hid hd
        have HA := Lib.hid hA
        clear hc hd
        subst hA
        cases hv : validE d != 0
        · go_wp2_with fail
          refine (rvalid_any _ _ hfit).mono ?_
          rintro e w2 ⟨rfl, he2⟩
          go_wp2_with fail
          go_roundw
          case rel => exact ⟨k + 1, by omega, by go_num, by (repeat (first | (with_reducible assumption) | with_reducible exact Ext.refl _ | with_reducible apply Ext.alloc | with_reducible apply Ext.drew | with_reducible apply Ext.drewN | ((with_reducible apply Ext.set); case hp => (first | (simp; done) | (dsimp only; omega) | omega)) | ((with_reducible apply Ext.trans); case k => with_reducible assumption))), fun j hj => by
            by_cases h : j < k
            · exact hz.out j h
            · obtain rfl : j = k := by omega
              rw [HD.out]; simpa using hv⟩
          case measure => simp [intOf]; omega
        · have hr := Lib.hid (allE_hit HX.out.len k hlt hz.out (by rw [HD.out]; simpa using hv))
          go_wp2_with fail
          refine (rvalid_any _ _ hfit).mono ?_
          rintro e w2 ⟨rfl, he2⟩
          go_wp2_with fail
          go_ret
          exact Ret.int (by rw [hg.out, hr.out, HD.out]) (by (repeat (first | (with_reducible assumption) | with_reducible exact Ext.refl _ | with_reducible apply Ext.alloc | with_reducible apply Ext.drew | with_reducible apply Ext.drewN | ((with_reducible apply Ext.set); case hp => (first | (simp; done) | (dsimp only; omega) | omega)) | ((with_reducible apply Ext.trans); case k => with_reducible assumption))))
      · have hr := Lib.hid (allE_none HX.out.len (fun j hj => hz.out j (by omega)))
        go_wp2_with fail
        go_ret
        exact Ret.int (by rw [hg.out, hr.out]) (by (repeat (first | (with_reducible assumption) | with_reducible exact Ext.refl _ | with_reducible apply Ext.alloc | with_reducible apply Ext.drew | with_reducible apply Ext.drewN | ((with_reducible apply Ext.set); case hp => (first | (simp; done) | (dsimp only; omega) | omega)) | ((with_reducible apply Ext.trans); case k => with_reducible assumption))))
end Go.Proofs.Ytdcedfciaaooiaa
