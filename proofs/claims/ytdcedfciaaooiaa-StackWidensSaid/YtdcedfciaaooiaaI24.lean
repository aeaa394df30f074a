/- chain of the reference; Check of both: the walks. -/
import Derived.Test.YtdcedfciaaooiaaH24
set_option linter.unusedVariables false
namespace Go.Proofs.Ytdcedfciaaooiaa
open Go.RowKit

theorem getD_takeK {cs : List Lk} {k j : Nat} (h : j < k) : (cs.take k).getD j zeroK = cs.getD j zeroK := by
  rw [List.getD_eq_getElem?_getD, List.getD_eq_getElem?_getD, List.getElem?_take_of_lt h]

set_option maxRecDepth 20000 in
set_option maxHeartbeats 8000000 in
theorem rchain_any (A B : Option Addr) (n m c c2 : Nat) (xs : List Dim) (cs : List Lk) (w : World) (hx : Dims w A n xs) (hk : Lnks w B m cs) (hmc : m ≤ c2) :
    Calls Try.prog 125 #[.slice A n c, .slice B m c2] w (Ret (.int .i64 (chainE xs cs)) w) := by
  have HX := Lib.hid hx
  have HK := Lib.hid hk
  have hmx := hx.max
  have hmk := hk.max
  clear hx hk
  by_cases h0 : m = 0
  · subst h0
    have e0 := Lib.hid (chainE_empty (xs := xs) HK.out.len)
    go_enter Try.func125, Try.ntmps125
    go_wp2_with fail
    go_ret
    exact Ret.int e0.out.symm (by (repeat (first | (with_reducible assumption) | with_reducible exact Ext.refl _ | with_reducible apply Ext.alloc | with_reducible apply Ext.drew | with_reducible apply Ext.drewN | ((with_reducible apply Ext.set); case hp => (first | (simp; done) | (dsimp only; omega) | omega)) | ((with_reducible apply Ext.trans); case k => with_reducible assumption))))
  by_cases h1 : 256 < m
  · have e0 := Lib.hid (chainE_many (xs := xs) (cs := cs) (by rw [HK.out.len]; exact h1))
    go_enter Try.func125, Try.ntmps125
    go_wp2_with fail
    go_ret
    exact Ret.int e0.out.symm (by (repeat (first | (with_reducible assumption) | with_reducible exact Ext.refl _ | with_reducible apply Ext.alloc | with_reducible apply Ext.drew | with_reducible apply Ext.drewN | ((with_reducible apply Ext.set); case hp => (first | (simp; done) | (dsimp only; omega) | omega)) | ((with_reducible apply Ext.trans); case k => with_reducible assumption))))
  have hm0 : (((m : Nat) : Int) == 0) = false := by simp; omega
  obtain ⟨bB, oB, hB, hcB⟩ := HK.out.at_ (by omega)
  have HCB := Lib.hid hcB
  clear hcB
  subst hB
  go_enter Try.func125, Try.ntmps125
  go_wp2_with fail
  go_loopw [5] (fun j wr => ∃ k : Nat, k ≤ m ∧ j = .int .i64 k ∧ Ext w wr ∧ Hid (∀ j, j < k → goesE xs (cs.take j) (cs.getD j zeroK) = 0)) (fun j _ => m - (intOf j).toNat)
  case atStart => exact ⟨0, Nat.zero_le _, rfl, Ext.refl _, fun j hj => by omega⟩
  case round =>
    obtain ⟨k, hkm, rfl, he, hz⟩ := hrel
    by_cases hlt : k < m
    · obtain ⟨⟨i, bk⟩, hx⟩ : ∃ x, cs.getD k zeroK = x := ⟨_, rfl⟩
      have HXK := Lib.hid hx
      clear hx
      have hkc : k ≤ c2 := by omega
      have hkk : (k : Int) < (m : Int) := by omega
      have hkc2 : (k : Int) ≤ (c2 : Int) := by omega
      have hk0 : (0 : Int) ≤ (k : Int) := by omega
      have HG : Hid (∀ W, Ext w W → Calls Try.prog 129 #[.slice A n c, .slice (some ⟨bB, oB, none⟩) k c2, .agg #[.int .i64 i, .bool bk]] W (Ret (.int .i64 (goesE xs (cs.take k) ⟨i, bk⟩)) W)) := Lib.hid (fun W hW =>
        goes_any A _ n k c c2 xs (cs.take k) i bk W (HX.out.ext hW) ((HK.out.take (by omega)).ext hW) (fun j hj => by
          rw [getD_takeK hj]
          have := goesE_range (hz.out j hj)
          rwa [HX.out.len] at this))
      obtain ⟨E, hE⟩ : ∃ E, goesE xs (cs.take k) ⟨i, bk⟩ = E := ⟨_, rfl⟩
      rw [hE] at HG
      have HE := Lib.hid hE
      clear hE
      go_upto_region 8 with fail
      cases e0 : E != 0
      all_goals
        go_region_held3 (fun W => (W.cell? ⟨bB, oB + k * 2, none⟩ = some (.int .i64 i) ∧ W.cell? ⟨bB, oB + k * 2 + 1, none⟩ = some (.bool bk)))
          (exact Lnks.cells HCB.out (by (repeat (first | (with_reducible assumption) | with_reducible exact Ext.refl _ | with_reducible apply Ext.alloc | with_reducible apply Ext.drew | with_reducible apply Ext.drewN | ((with_reducible apply Ext.set); case hp => (first | (simp; done) | (dsimp only; omega) | omega)) | ((with_reducible apply Ext.trans); case k => with_reducible assumption)))) k hlt _ HXK.out)
          (first
            | (go_at_call 129; refine (HG.out _ (by (repeat (first | (with_reducible assumption) | with_reducible exact Ext.refl _ | with_reducible apply Ext.alloc | with_reducible apply Ext.drew | with_reducible apply Ext.drewN | ((with_reducible apply Ext.set); case hp => (first | (simp; done) | (dsimp only; omega) | omega)) | ((with_reducible apply Ext.trans); case k => with_reducible assumption))))).mono ?_; rintro e w3 ⟨rfl, h3⟩))
      case false =>
        all_goals
          go_wp2_with fail
          refine ⟨⟨k + 1, by omega, by go_num, by (repeat (first | (with_reducible assumption) | with_reducible exact Ext.refl _ | with_reducible apply Ext.alloc | with_reducible apply Ext.drew | with_reducible apply Ext.drewN | ((with_reducible apply Ext.set); case hp => (first | (simp; done) | (dsimp only; omega) | omega)) | ((with_reducible apply Ext.trans); case k => with_reducible assumption))), fun j hj => ?_⟩, by simp [intOf]; omega⟩
          by_cases h : j < k
          · exact hz.out j h
          · obtain rfl : j = k := by omega
            rw [HXK.out, HE.out]
            simpa using e0
      case true =>
        have hres := Lib.hid (chainE_hit (xs := xs) HK.out.len (by omega) k hlt hz.out (by rw [HXK.out, HE.out]; simpa using e0))
        rw [HXK.out, HE.out] at hres
        all_goals
          go_wp2_with fail
          go_ret
          exact Ret.int hres.out.symm (by (repeat (first | (with_reducible assumption) | with_reducible exact Ext.refl _ | with_reducible apply Ext.alloc | with_reducible apply Ext.drew | with_reducible apply Ext.drewN | ((with_reducible apply Ext.set); case hp => (first | (simp; done) | (dsimp only; omega) | omega)) | ((with_reducible apply Ext.trans); case k => with_reducible assumption))))
    · obtain rfl : k = m := by omega
      have e0 := Lib.hid (chainE_none (xs := xs) HK.out.len h0 (by omega) hz.out)
      go_wp2_with fail
      go_ret
      exact Ret.int e0.out.symm (by (repeat (first | (with_reducible assumption) | with_reducible exact Ext.refl _ | with_reducible apply Ext.alloc | with_reducible apply Ext.drew | with_reducible apply Ext.drewN | ((with_reducible apply Ext.set); case hp => (first | (simp; done) | (dsimp only; omega) | omega)) | ((with_reducible apply Ext.trans); case k => with_reducible assumption))))

theorem checkE_bad {xs : List Dim} {cs : List Lk} (h : givenE xs ≠ 0) : checkE xs cs = givenE xs := by rw [checkE, if_pos h]
theorem checkE_ok {xs : List Dim} {cs : List Lk} (h : givenE xs = 0) : checkE xs cs = chainE xs cs := by rw [checkE, if_neg (by simp [h])]
set_option maxRecDepth 20000 in
theorem lcheck_any (A B : Option Addr) (n m c c2 : Nat) (xs : List Dim) (cs : List Lk) (w : World) (hx : Dims w A n xs) (hk : Lnks w B m cs) :
    Calls Try.prog 124 #[.slice A n c, .slice B m c2] w (Ret (.int .i64 (checkE xs cs)) w) := by
  have HX := Lib.hid hx
  have HK := Lib.hid hk
  clear hx hk
  cases h : givenE xs != 0
  · have e := Lib.hid (checkE_ok (xs := xs) (cs := cs) (by simpa using h))
    go_enter Try.func124, Try.ntmps124
    go_wp2_with fail; refine (given_any A n c xs _ (HX.out.ext (by (repeat (first | (with_reducible assumption) | with_reducible exact Ext.refl _ | with_reducible apply Ext.alloc | with_reducible apply Ext.drew | with_reducible apply Ext.drewN | ((with_reducible apply Ext.set); case hp => (first | (simp; done) | (dsimp only; omega) | omega)) | ((with_reducible apply Ext.trans); case k => with_reducible assumption)))))).mono ?_; rintro e w2 ⟨rfl, h2⟩
    go_wp2_with fail; refine (chain_any A B n m c c2 xs cs _ (HX.out.ext (by (repeat (first | (with_reducible assumption) | with_reducible exact Ext.refl _ | with_reducible apply Ext.alloc | with_reducible apply Ext.drew | with_reducible apply Ext.drewN | ((with_reducible apply Ext.set); case hp => (first | (simp; done) | (dsimp only; omega) | omega)) | ((with_reducible apply Ext.trans); case k => with_reducible assumption))))) (HK.out.ext (by (repeat (first | (with_reducible assumption) | with_reducible exact Ext.refl _ | with_reducible apply Ext.alloc | with_reducible apply Ext.drew | with_reducible apply Ext.drewN | ((with_reducible apply Ext.set); case hp => (first | (simp; done) | (dsimp only; omega) | omega)) | ((with_reducible apply Ext.trans); case k => with_reducible assumption)))))).mono ?_; rintro e w3 ⟨rfl, h3⟩
    go_wp2_with fail
    go_ret
    exact Ret.int e.out.symm (by (repeat (first | (with_reducible assumption) | with_reducible exact Ext.refl _ | with_reducible apply Ext.alloc | with_reducible apply Ext.drew | with_reducible apply Ext.drewN | ((with_reducible apply Ext.set); case hp => (first | (simp; done) | (dsimp only; omega) | omega)) | ((with_reducible apply Ext.trans); case k => with_reducible assumption))))
  · have e := Lib.hid (checkE_bad (xs := xs) (cs := cs) (by simpa using h))
    go_enter Try.func124, Try.ntmps124
    go_wp2_with fail; refine (given_any A n c xs _ (HX.out.ext (by (repeat (first | (with_reducible assumption) | with_reducible exact Ext.refl _ | with_reducible apply Ext.alloc | with_reducible apply Ext.drew | with_reducible apply Ext.drewN | ((with_reducible apply Ext.set); case hp => (first | (simp; done) | (dsimp only; omega) | omega)) | ((with_reducible apply Ext.trans); case k => with_reducible assumption)))))).mono ?_; rintro e w2 ⟨rfl, h2⟩
    go_wp2_with fail
    go_ret
    exact Ret.int e.out.symm (by (repeat (first | (with_reducible assumption) | with_reducible exact Ext.refl _ | with_reducible apply Ext.alloc | with_reducible apply Ext.drew | with_reducible apply Ext.drewN | ((with_reducible apply Ext.set); case hp => (first | (simp; done) | (dsimp only; omega) | omega)) | ((with_reducible apply Ext.trans); case k => with_reducible assumption))))
set_option maxRecDepth 20000 in
theorem rlcheck_any (A B : Option Addr) (n m c c2 : Nat) (xs : List Dim) (cs : List Lk) (w : World) (hx : Dims w A n xs) (hk : Lnks w B m cs) (hmc : m ≤ c2) :
    Calls Try.prog 116 #[.slice A n c, .slice B m c2] w (Ret (.int .i64 (checkE xs cs)) w) := by
  have HX := Lib.hid hx
  have HK := Lib.hid hk
  clear hx hk
  cases h : givenE xs != 0
  · have e := Lib.hid (checkE_ok (xs := xs) (cs := cs) (by simpa using h))
    go_enter Try.func116, Try.ntmps116
    go_wp2_with fail; refine (rgiven_any A n c xs _ (HX.out.ext (by (repeat (first | (with_reducible assumption) | with_reducible exact Ext.refl _ | with_reducible apply Ext.alloc | with_reducible apply Ext.drew | with_reducible apply Ext.drewN | ((with_reducible apply Ext.set); case hp => (first | (simp; done) | (dsimp only; omega) | omega)) | ((with_reducible apply Ext.trans); case k => with_reducible assumption)))))).mono ?_; rintro e w2 ⟨rfl, h2⟩
    go_wp2_with fail; refine (rchain_any A B n m c c2 xs cs _ (HX.out.ext (by (repeat (first | (with_reducible assumption) | with_reducible exact Ext.refl _ | with_reducible apply Ext.alloc | with_reducible apply Ext.drew | with_reducible apply Ext.drewN | ((with_reducible apply Ext.set); case hp => (first | (simp; done) | (dsimp only; omega) | omega)) | ((with_reducible apply Ext.trans); case k => with_reducible assumption))))) (HK.out.ext (by (repeat (first | (with_reducible assumption) | with_reducible exact Ext.refl _ | with_reducible apply Ext.alloc | with_reducible apply Ext.drew | with_reducible apply Ext.drewN | ((with_reducible apply Ext.set); case hp => (first | (simp; done) | (dsimp only; omega) | omega)) | ((with_reducible apply Ext.trans); case k => with_reducible assumption))))) hmc).mono ?_; rintro e w3 ⟨rfl, h3⟩
    go_wp2_with fail
    go_ret
    exact Ret.int e.out.symm (by (repeat (first | (with_reducible assumption) | with_reducible exact Ext.refl _ | with_reducible apply Ext.alloc | with_reducible apply Ext.drew | with_reducible apply Ext.drewN | ((with_reducible apply Ext.set); case hp => (first | (simp; done) | (dsimp only; omega) | omega)) | ((with_reducible apply Ext.trans); case k => with_reducible assumption))))
  · have e := Lib.hid (checkE_bad (xs := xs) (cs := cs) (by simpa using h))
    go_enter Try.func116, Try.ntmps116
    go_wp2_with fail; refine (rgiven_any A n c xs _ (HX.out.ext (by (repeat (first | (with_reducible assumption) | with_reducible exact Ext.refl _ | with_reducible apply Ext.alloc | with_reducible apply Ext.drew | with_reducible apply Ext.drewN | ((with_reducible apply Ext.set); case hp => (first | (simp; done) | (dsimp only; omega) | omega)) | ((with_reducible apply Ext.trans); case k => with_reducible assumption)))))).mono ?_; rintro e w2 ⟨rfl, h2⟩
    go_wp2_with fail
    go_ret
    exact Ret.int e.out.symm (by (repeat (first | (with_reducible assumption) | with_reducible exact Ext.refl _ | with_reducible apply Ext.alloc | with_reducible apply Ext.drew | with_reducible apply Ext.drewN | ((with_reducible apply Ext.set); case hp => (first | (simp; done) | (dsimp only; omega) | omega)) | ((with_reducible apply Ext.trans); case k => with_reducible assumption))))
end Go.Proofs.Ytdcedfciaaooiaa
