/- loop.Sum: the walk. -/
import Derived.Test.YtdcedfciaaooiabI25
set_option linter.unusedVariables false
namespace Go.Proofs.Ytdcedfciaaooiab
open Go.RowKit

theorem getD_range0 {vs : List Int} {Y : Int} (hY : 0 ≤ Y) (n : Nat) (hl : vs.length = n) (h : ∀ i, i < n → -Y ≤ vs.getD i 0 ∧ vs.getD i 0 ≤ Y) (i : Nat) : -Y ≤ vs.getD i 0 ∧ vs.getD i 0 ≤ Y := by
  by_cases hi : i < n
  · exact h i hi
  · rw [List.getD_eq_getElem?_getD, List.getElem?_eq_none (by omega)]
    simp only [Option.getD_none]
    omega
section
variable (A B V : Option Addr) (n m p c c2 c3 : Nat) (xs : List Dim) (cs : List Lk) (vs : List Int) (w : World) (hx : Dims w A n xs) (hk : Lnks w B m cs) (hv : Ints w V p vs)
include hx hk hv
set_option maxRecDepth 100000 in
set_option maxHeartbeats 4000000 in
theorem lsum_bad (E : Int) (h : checkE xs cs = E) (hE : (E != 0) = true) : Calls Try.prog 36 #[.slice A n c, .slice B m c2, .slice V p c3] w (Ret (.tuple #[.int .i64 0, .int .i64 E]) w) := by
  have HC := Lib.hid (by have := lcheck_any A B n m c c2 xs cs w hx hk; rwa [h] at this : Calls Try.prog 60 #[.slice A n c, .slice B m c2] w (Ret (.int .i64 E) w))
  have hvl := hv.len
  clear hx hk hv h
  go_enter Try.func36, Try.ntmps36
  go_wp2_with fail; refine (HC.out).mono ?_; rintro e w2 ⟨rfl, h2⟩
  go_wp2_with fail
  go_ret2
  exact Ret.mk' rfl (by (repeat (first | (with_reducible assumption) | with_reducible exact Ext.refl _ | with_reducible apply Ext.alloc | with_reducible apply Ext.drew | with_reducible apply Ext.drewN | ((with_reducible apply Ext.set); case hp => (first | (simp; done) | (dsimp only; omega) | omega)) | ((with_reducible apply Ext.trans); case k => with_reducible assumption))))
set_option maxRecDepth 100000 in
set_option maxHeartbeats 4000000 in
theorem lsum_shape (h : checkE xs cs = 0) (hp : p ≠ n) : Calls Try.prog 36 #[.slice A n c, .slice B m c2, .slice V p c3] w (Ret (.tuple #[.int .i64 0, .int .i64 8]) w) := by
  have HC := Lib.hid (by have := lcheck_any A B n m c c2 xs cs w hx hk; rwa [h] at this : Calls Try.prog 60 #[.slice A n c, .slice B m c2] w (Ret (.int .i64 0) w))
  have hpn : ((p : Int) == (n : Int)) = false := by simp; omega
  have hpn2 : ¬ ((p : Int) = (n : Int)) := by omega
  have hvl := hv.len
  clear hx hk hv h
  go_enter Try.func36, Try.ntmps36
  go_wp2_with fail; refine (HC.out).mono ?_; rintro e w2 ⟨rfl, h2⟩
  go_wp2_with fail
  go_ret2
  exact Ret.mk' rfl (by (repeat (first | (with_reducible assumption) | with_reducible exact Ext.refl _ | with_reducible apply Ext.alloc | with_reducible apply Ext.drew | with_reducible apply Ext.drewN | ((with_reducible apply Ext.set); case hp => (first | (simp; done) | (dsimp only; omega) | omega)) | ((with_reducible apply Ext.trans); case k => with_reducible assumption))))
end
section
variable (A B V : Option Addr) (n m c c2 c3 : Nat) (xs : List Dim) (cs : List Lk) (vs : List Int) (w : World) (hx : Dims w A n xs) (hk : Lnks w B m cs) (hv : Ints w V n vs)
include hx hk hv
set_option maxRecDepth 100000 in
set_option maxHeartbeats 4000000 in
theorem lsum_range (h : checkE xs cs = 0) (i0 : Nat) (hi0 : i0 < n) (hbad : vs.getD i0 0 < -100000 ∨ 100000 < vs.getD i0 0) : Calls Try.prog 36 #[.slice A n c, .slice B m c2, .slice V n c3] w (Ret (.tuple #[.int .i64 0, .int .i64 2]) w) := by
  have HC := Lib.hid (by have := lcheck_any A B n m c c2 xs cs w hx hk; rwa [h] at this : Calls Try.prog 60 #[.slice A n c, .slice B m c2] w (Ret (.int .i64 0) w))
  have HBAD := Lib.hid hbad
  have hvm := hv.max
  obtain ⟨bV, oV, rfl, hcV⟩ := hv.at_ (by omega)
  have HCV := Lib.hid hcV
  clear hx hk hv h hbad hcV
  go_enter Try.func36, Try.ntmps36
  go_wp2_with fail; refine (HC.out).mono ?_; rintro e w2 ⟨rfl, h2⟩
  go_wp2_with fail
  go_loopw [27] (fun i wr => ∃ q : Nat, q ≤ n ∧ i = .int .i64 q ∧ Ext w wr ∧ Hid (∀ j, j < q → -100000 ≤ vs.getD j 0 ∧ vs.getD j 0 ≤ 100000)) (fun i _ => n - (intOf i).toNat)
  case atStart => exact ⟨0, Nat.zero_le _, rfl, h2, Lib.hid (fun j hj => by omega)⟩
  case round =>
    obtain ⟨q, hq, rfl, hE, hz⟩ := hrel
    by_cases hlt : q < n
    · have v1 := hE.cell (HCV.out q hlt)
      obtain ⟨v, hvv⟩ : ∃ v, vs.getD q 0 = v := ⟨_, rfl⟩
      rw [hvv] at v1
      have HVV := Lib.hid hvv
      clear hvv
      have hx3 : v < -100000 ∨ (-100000 ≤ v ∧ 100000 < v) ∨ (-100000 ≤ v ∧ v ≤ 100000) := by omega
      rcases hx3 with hc | hc | hc
      · go_wp2_with fail
        go_ret2
        exact Ret.mk' rfl hE
      · go_wp2_with fail
        go_ret2
        exact Ret.mk' rfl hE
      · go_wp2_with fail
        go_roundw
        case rel => exact ⟨q + 1, by omega, by go_num, hE, Lib.hid (fun j hj => by
          by_cases h : j < q
          · exact hz.out j h
          · obtain rfl : j = q := by omega
            rw [HVV.out]; exact hc)⟩
        case measure => simp [intOf]; omega
    · exfalso
      have := hz.out i0 (by omega)
      have := HBAD.out
      omega
set_option maxRecDepth 100000 in
set_option maxHeartbeats 4000000 in
theorem lsum_ok (h : checkE xs cs = 0) (hm : m ≤ 256) (hr : ∀ j, j < m → 0 ≤ (cs.getD j zeroK).dim ∧ (cs.getD j zeroK).dim < (n : Int)) (hin : ∀ i, i < n → -100000 ≤ vs.getD i 0 ∧ vs.getD i 0 ≤ 100000) : Calls Try.prog 36 #[.slice A n c, .slice B m c2, .slice V n c3] w (Ret (.tuple #[.int .i64 (totalL cs vs), .int .i64 0]) w) := by
  have HC := Lib.hid (by have := lcheck_any A B n m c c2 xs cs w hx hk; rwa [h] at this : Calls Try.prog 60 #[.slice A n c, .slice B m c2] w (Ret (.int .i64 0) w))
  have HK := Lib.hid hk
  have HV := Lib.hid hv
  have HR := Lib.hid hr
  have HIN := Lib.hid hin
  have HY := Lib.hid (getD_range0 (Y := 100000) (by omega) n hv.len hin)
  have hcl := hk.len
  have hvm := hv.max
  clear hx hk hv h hr hin
  go_enter Try.func36, Try.ntmps36
  go_wp2_with fail; refine (HC.out).mono ?_; rintro e w2 ⟨rfl, h2⟩
  go_wp2_with fail
  go_loopw [27] (fun i wr => ∃ q : Nat, q ≤ n ∧ i = .int .i64 q ∧ Ext w wr) (fun i _ => n - (intOf i).toNat)
  case atStart => exact ⟨0, Nat.zero_le _, rfl, h2⟩
  case round =>
    obtain ⟨q, hq, rfl, hE⟩ := hrel
    by_cases hlt : q < n
    · obtain ⟨bV, oV, rfl, hcV⟩ := HV.out.at_ (by omega)
      have v1 := hE.cell (hcV q hlt)
      have hvr := HIN.out q hlt
      obtain ⟨v, hvv⟩ : ∃ v, vs.getD q 0 = v := ⟨_, rfl⟩
      rw [hvv] at v1 hvr
      clear hvv hcV
      go_wp2_with fail
      go_roundw
      case rel => exact ⟨q + 1, by omega, by go_num, hE⟩
      case measure => simp [intOf]; omega
    · obtain rfl : n = q := by omega
      go_wp2_with fail
      go_loopw [11, 40] (fun s i wr2 => ∃ k : Nat, k ≤ m ∧ i = .int .i64 k ∧ Ext w wr2 ∧ ∃ u, s = .int .i64 u ∧ Hid (u = totalL (cs.take k) vs)) (fun _ i _ => m - (intOf i).toNat)
      case atStart => exact ⟨0, Nat.zero_le _, rfl, hE, 0, rfl, Lib.hid rfl⟩
      case round =>
        obtain ⟨k, hk, rfl, hE2, u, rfl, hu⟩ := hrel
        by_cases hlt2 : k < m
        · obtain ⟨bB, oB, rfl, hcB⟩ := HK.out.at_ (by omega)
          have hd := HR.out k hlt2
          obtain ⟨bV, oV, rfl, hcV⟩ := HV.out.at_ (by omega)
          obtain ⟨⟨y, bk⟩, hy⟩ : ∃ y, cs.getD k zeroK = y := ⟨_, rfl⟩
          obtain ⟨l1, l2⟩ := Lnks.cells hcB hE2 k hlt2 _ hy
          rw [hy] at hd
          dsimp only at l1 l2 hd
          obtain ⟨p, rfl⟩ := Int.eq_ofNat_of_zero_le hd.1
          have hp : p < n := by omega
          have v1 := hE2.cell (hcV p hp)
          have hbl := World.block_lt_of_cell? _ _ v1
          have hbl2 := World.block_lt_of_cell? _ _ l1
          dsimp only at hbl hbl2
          obtain ⟨v, hvv⟩ : ∃ v, vs.getD p 0 = v := ⟨_, rfl⟩
          have hyv := HY.out p
          rw [hvv] at v1 hyv
          have hur := totalL_range HY.out (cs.take k).length (cs.take k) rfl
          rw [← hu.out, List.length_take, Nat.min_eq_left (by omega)] at hur
          have hsn : totalL (cs.take (k + 1)) vs = u + sgn ⟨(p : Int), bk⟩ * v := by rw [take_succK (by omega), hy, totalL_snoc, hu.out, Int.toNat_natCast, hvv]
          have HSN := Lib.hid hsn
          clear hsn hcB hcV hvv hy hu
          cases bk
          · go_wp2_with fail
            go_roundw
            case rel => exact ⟨k + 1, by omega, by go_num, by (repeat (first | (with_reducible assumption) | with_reducible exact Ext.refl _ | with_reducible apply Ext.alloc | with_reducible apply Ext.drew | with_reducible apply Ext.drewN | ((with_reducible apply Ext.set); case hp => (first | (simp; done) | (dsimp only; omega) | omega)) | ((with_reducible apply Ext.trans); case k => with_reducible assumption))), _, rfl, Lib.hid (by rw [HSN.out]; simp [sgn])⟩
            case measure => simp [intOf]; omega
          · go_wp2_with fail
            go_roundw
            case rel => exact ⟨k + 1, by omega, by go_num, by (repeat (first | (with_reducible assumption) | with_reducible exact Ext.refl _ | with_reducible apply Ext.alloc | with_reducible apply Ext.drew | with_reducible apply Ext.drewN | ((with_reducible apply Ext.set); case hp => (first | (simp; done) | (dsimp only; omega) | omega)) | ((with_reducible apply Ext.trans); case k => with_reducible assumption))), _, rfl, Lib.hid (by rw [HSN.out]; simp [sgn]; omega)⟩
            case measure => simp [intOf]; omega
        · obtain rfl : m = k := by omega
          have hu2 := hu.out
          rw [show cs.take m = cs from by rw [← hcl, List.take_length]] at hu2
          have HU := Lib.hid hu2
          clear hu2 hu
          go_wp2_with fail
          go_ret2
          exact Ret.mk' (by rw [← HU.out]; rfl) (by (repeat (first | (with_reducible assumption) | with_reducible exact Ext.refl _ | with_reducible apply Ext.alloc | with_reducible apply Ext.drew | with_reducible apply Ext.drewN | ((with_reducible apply Ext.set); case hp => (first | (simp; done) | (dsimp only; omega) | omega)) | ((with_reducible apply Ext.trans); case k => with_reducible assumption))))
end
end Go.Proofs.Ytdcedfciaaooiab
