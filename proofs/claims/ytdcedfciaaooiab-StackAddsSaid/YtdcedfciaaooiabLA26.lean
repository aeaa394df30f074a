/- The law StackAdds returns true at every input: the walk. -/
import Derived.Test.YtdcedfciaaooiabA26
import Derived.Test.YtdcedfciaaooiabO25
import Derived.Test.YtdcedfciaaooiabG26
import Derived.Test.YtdcedfciaaooiabP26
import Derived.Test.YtdcedfciaaooiabPA26
import Derived.Test.YtdcedfciaaooiabS26
import Derived.Test.YtdcedfciaaooiabRV26
set_option linter.unusedVariables false
namespace Go.Proofs.Ytdcedfciaaooiab
open Go.RowKit

theorem sharesL_len (xs : List Dim) (cs : List Lk) : (sharesL xs cs).length = cs.length := by simp [sharesL]
def sumI (l : List Int) : Int := l.foldl (· + ·) 0
theorem sumI_take (l : List Int) (q : Nat) (hq : q < l.length) : sumI (l.take (q + 1)) = sumI (l.take q) + l.getD q 0 := by
  rw [List.take_add_one, List.getElem?_eq_getElem hq, List.getD_eq_getElem?_getD, List.getElem?_eq_getElem hq]
  show (l.take q ++ [l[q]]).foldl (· + ·) 0 = (l.take q).foldl (· + ·) 0 + l[q]
  rw [List.foldl_append]
  rfl
theorem Lnks.drop {w : World} {b o n : Nat} {cs : List Lk} (h : Lnks w (some ⟨b, o, none⟩) n cs) {k : Nat} (hk : k < n) : Lnks w (some ⟨b, o + k * 2, none⟩) (n - k) (cs.drop k) := by
  refine ⟨by rw [List.length_drop, h.len], by have := h.max; omega, ?_⟩
  obtain ⟨b', o', hA, hc⟩ := h.at_ (by omega)
  cases hA
  refine .inr ⟨b, o + k * 2, rfl, fun j hj => ?_⟩
  rw [pk_drop, show o + k * 2 + j * 2 = o + (k + j) * 2 from by omega]
  exact hc _ (by omega)
set_option maxRecDepth 20000 in
set_option maxHeartbeats 4000000 in
theorem law_stackAdds (A B : Option Addr) (n m c c2 : Nat) (xs : List Dim) (cs : List Lk) (lo hi : Int) (cut : Int) (w : World) (hx : Dims w A n xs) (hk : Lnks w B m cs) (hm4 : m < 8796093022208) (hmc2 : m ≤ c2) (hcu : 0 ≤ cut ∧ cut ≤ 255) : Calls Try.prog 6 #[.agg #[.slice A n c, .slice B m c2, .int .i64 lo, .int .i64 hi], .int .u8 cut] w (Ret (.bool true) w) := by
  have HX := Lib.hid hx
  have HK := Lib.hid hk
  have hxl := hx.len
  have hkl := hk.len
  clear hx hk
  go_enter Try.func6, Try.ntmps6
  go_wp2_with fail
  refine (right25_any A B n m c c2 xs cs lo hi _ (HX.out.ext (by (repeat (first | (with_reducible assumption) | with_reducible exact Ext.refl _ | with_reducible apply Ext.alloc | with_reducible apply Ext.drew | with_reducible apply Ext.drewN | ((with_reducible apply Ext.set); case hp => (first | (simp; done) | (dsimp only; omega) | omega)) | ((with_reducible apply Ext.trans); case k => with_reducible assumption))))) (HK.out.ext (by (repeat (first | (with_reducible assumption) | with_reducible exact Ext.refl _ | with_reducible apply Ext.alloc | with_reducible apply Ext.drew | with_reducible apply Ext.drewN | ((with_reducible apply Ext.set); case hp => (first | (simp; done) | (dsimp only; omega) | omega)) | ((with_reducible apply Ext.trans); case k => with_reducible assumption))))) hm4).mono ?_
  rintro e w1 ⟨rt, rfl, hrt0, hw1⟩
  cases rt
  case false =>
    go_wp2_with fail; refine (awake25_any _).mono ?_; rintro e w2 ⟨rfl, hw2⟩
    go_wp2_with fail
    go_ret
    exact Ret.bool (by first | rfl | simp) (by (repeat (first | (with_reducible assumption) | with_reducible exact Ext.refl _ | with_reducible apply Ext.alloc | with_reducible apply Ext.drew | with_reducible apply Ext.drewN | ((with_reducible apply Ext.set); case hp => (first | (simp; done) | (dsimp only; omega) | omega)) | ((with_reducible apply Ext.trans); case k => with_reducible assumption))))
  case true =>
    obtain ⟨h6, h⟩ := hrt0 rfl
    have hrt := rt_of HX.out.len HK.out.len (taskE_zero h).1
    have hm0 := hrt.m0
    have hm256 := hrt.m256
    obtain ⟨bB, oB, rfl, hcB⟩ := HK.out.at_ hm0
    have hbl : bB < w.heap.size := World.block_lt_of_cell? w _ (hcB 0 hm0).1
    have HCK := Lib.hid (taskE_zero h).1
    have hr1 := hrt.range 1
    have hr2 := hrt.range (-1)
    have HH := Lib.hid h
    have HSL := Lib.hid (fun w (h1 : Dims w A n xs) (h2 : Lnks w (some ⟨bB, oB, none⟩) m cs) => slimits_ok A (some ⟨bB, oB, none⟩) n m c c2 xs cs lo hi w h1 h2 HH.out)
    have HWI := Lib.hid (width_take (xs := xs) cs)
    have HSR : Hid (∀ q, q < m → 0 ≤ (sharesL xs cs).getD q 0 ∧ (sharesL xs cs).getD q 0 ≤ 200000) := Lib.hid (fun q hq => by
      have hf := hrt.fine q hq
      have hl := hrt.lims _ (hrt.mem q hq)
      have e : (sharesL xs cs).getD q 0 = shareI xs (cs.getD q zeroK) := by
        unfold sharesL
        rw [List.getD_eq_getElem?_getD, List.getElem?_map, List.getD_eq_getElem?_getD, List.getElem?_eq_getElem (by rw [hrt.cl]; exact hq)]
        rfl
      rw [e]
      unfold shareI dimK
      omega)
    have HRV : Hid (taskE xs (revC cs) lo hi = 0) := Lib.hid (by
      have := check_rev (taskE_zero h).1
      unfold taskE
      rw [if_neg (by simpa using this)]
      exact (taskE_zero h).2)
    have HCU : Hid (∀ k, 0 < k → k < m → taskE xs (cs.take k) lo hi = 0 ∧ taskE xs (cs.drop k) lo hi = 0) := Lib.hid (fun k h0 hk => by
      have h1 := check_take (taskE_zero h).1 h0 (by rw [hrt.cl]; omega)
      have h2 := check_drop (taskE_zero h).1 (k := k) (by rw [hrt.cl]; omega)
      unfold taskE
      rw [if_neg (by simpa using h1), if_neg (by simpa using h2)]
      exact ⟨(taskE_zero h).2, (taskE_zero h).2⟩)
    have HRR := Lib.hid (And.intro (endS_rev 1 xs cs) (endS_rev (-1) xs cs))
    have HCT := Lib.hid (fun k => And.intro (endS_cut 1 xs cs k) (endS_cut (-1) xs cs k))
    obtain ⟨L, hL⟩ : ∃ L, endS 1 xs cs = L := ⟨_, rfl⟩
    obtain ⟨H, hH⟩ : ∃ H, endS (-1) xs cs = H := ⟨_, rfl⟩
    rw [hL] at hr1
    rw [hH] at hr2
    rw [hL, hH] at HSL HWI HCT
    rw [show -(-1 : Int) = 1 from rfl, hL, hH] at HRR
    obtain ⟨k, hk0⟩ := Int.eq_ofNat_of_zero_le (Int.emod_nonneg cut (show (m : Int) ≠ 0 by omega))
    have hklt := Int.emod_lt_of_pos cut (show (0 : Int) < (m : Int) by omega)
    rw [hk0] at hklt
    have hkm : k < m := by omega
    have hkt : Int.tmod cut (m : Int) = (k : Int) := by rw [Int.tmod_eq_emod_of_nonneg (by omega)]; exact hk0
    have hnz : ¬ ((m : Int) = 0) := by omega
    have hWc : IntKind.i64.wrap cut = cut := i64_in' (by omega)
    clear hrt h hrt0 hL hH hk0 hklt hcB
    have P : Blk w1 (w.heap.size) #[.slice A n c, .slice (some ⟨bB, oB, none⟩) m c2, .int .i64 lo, .int .i64 hi] 27 := by (repeat (first | (with_reducible assumption) | ((with_reducible apply Blk.new_at); focus (first | (simp; done) | (simp; omega))) | with_reducible apply Blk.alloc | with_reducible apply Blk.drew | with_reducible apply Blk.drewN | with_reducible apply Blk.set | ((with_reducible apply Blk.far); case hp => (first | (simp; done) | (dsimp only; omega))) | ((with_reducible apply Blk.ext); case he => with_reducible assumption)))
    have P0 := P.cell 0
    have P1 := P.cell 1
    have P2 := P.cell 2
    have P3 := P.cell 3
    simp at P0 P1 P2 P3
    have Pl := P.lt
    go_wp2_with fail; refine (HSL.out _ (HX.out.ext (by (repeat (first | (with_reducible assumption) | with_reducible exact Ext.refl _ | with_reducible apply Ext.alloc | with_reducible apply Ext.drew | with_reducible apply Ext.drewN | ((with_reducible apply Ext.set); case hp => (first | (simp; done) | (dsimp only; omega) | omega)) | ((with_reducible apply Ext.trans); case k => with_reducible assumption))))) (HK.out.ext (by (repeat (first | (with_reducible assumption) | with_reducible exact Ext.refl _ | with_reducible apply Ext.alloc | with_reducible apply Ext.drew | with_reducible apply Ext.drewN | ((with_reducible apply Ext.set); case hp => (first | (simp; done) | (dsimp only; omega) | omega)) | ((with_reducible apply Ext.trans); case k => with_reducible assumption)))))).mono ?_; rintro e w2 ⟨rfl, hw2⟩
    have Q : Blk w2 (w.heap.size) #[.slice A n c, .slice (some ⟨bB, oB, none⟩) m c2, .int .i64 lo, .int .i64 hi] 27 := by (repeat (first | (with_reducible assumption) | ((with_reducible apply Blk.new_at); focus (first | (simp; done) | (simp; omega))) | with_reducible apply Blk.alloc | with_reducible apply Blk.drew | with_reducible apply Blk.drewN | with_reducible apply Blk.set | ((with_reducible apply Blk.far); case hp => (first | (simp; done) | (dsimp only; omega))) | ((with_reducible apply Blk.ext); case he => with_reducible assumption)))
    have Q0 := Q.cell 0
    have Q1 := Q.cell 1
    have Q2 := Q.cell 2
    have Q3 := Q.cell 3
    simp at Q0 Q1 Q2 Q3
    have Ql := Q.lt
    go_wp2_with fail
    refine (sshares_ok A (some ⟨bB, oB, none⟩) n m c c2 xs cs lo hi _ (HX.out.ext (by (repeat (first | (with_reducible assumption) | with_reducible exact Ext.refl _ | with_reducible apply Ext.alloc | with_reducible apply Ext.drew | with_reducible apply Ext.drewN | ((with_reducible apply Ext.set); case hp => (first | (simp; done) | (dsimp only; omega) | omega)) | ((with_reducible apply Ext.trans); case k => with_reducible assumption))))) (HK.out.ext (by (repeat (first | (with_reducible assumption) | with_reducible exact Ext.refl _ | with_reducible apply Ext.alloc | with_reducible apply Ext.drew | with_reducible apply Ext.drewN | ((with_reducible apply Ext.set); case hp => (first | (simp; done) | (dsimp only; omega) | omega)) | ((with_reducible apply Ext.trans); case k => with_reducible assumption))))) HH.out).mono ?_
    rintro e w3 ⟨g3, cap3, cur3, rfl, I3, hw3⟩
    have R : Blk w3 (w.heap.size) #[.slice A n c, .slice (some ⟨bB, oB, none⟩) m c2, .int .i64 lo, .int .i64 hi] 27 := by (repeat (first | (with_reducible assumption) | ((with_reducible apply Blk.new_at); focus (first | (simp; done) | (simp; omega))) | with_reducible apply Blk.alloc | with_reducible apply Blk.drew | with_reducible apply Blk.drewN | with_reducible apply Blk.set | ((with_reducible apply Blk.far); case hp => (first | (simp; done) | (dsimp only; omega))) | ((with_reducible apply Blk.ext); case he => with_reducible assumption)))
    have R0 := R.cell 0
    have R1 := R.cell 1
    have R2 := R.cell 2
    have R3 := R.cell 3
    simp at R0 R1 R2 R3
    have Rl := R.lt
    go_wp2_with fail
    refine (lreverse_ok A (some ⟨bB, oB, none⟩) n m c c2 xs cs _ (HX.out.ext (by (repeat (first | (with_reducible assumption) | with_reducible exact Ext.refl _ | with_reducible apply Ext.alloc | with_reducible apply Ext.drew | with_reducible apply Ext.drewN | ((with_reducible apply Ext.set); case hp => (first | (simp; done) | (dsimp only; omega) | omega)) | ((with_reducible apply Ext.trans); case k => with_reducible assumption))))) (HK.out.ext (by (repeat (first | (with_reducible assumption) | with_reducible exact Ext.refl _ | with_reducible apply Ext.alloc | with_reducible apply Ext.drew | with_reducible apply Ext.drewN | ((with_reducible apply Ext.set); case hp => (first | (simp; done) | (dsimp only; omega) | omega)) | ((with_reducible apply Ext.trans); case k => with_reducible assumption))))) HCK.out).mono ?_
    rintro e w4 ⟨g4, cap4, cur4, rfl, R4, hcap4, hw4⟩
    have S : Blk w4 (w.heap.size) #[.slice A n c, .slice (some ⟨bB, oB, none⟩) m c2, .int .i64 lo, .int .i64 hi] 27 := by (repeat (first | (with_reducible assumption) | ((with_reducible apply Blk.new_at); focus (first | (simp; done) | (simp; omega))) | with_reducible apply Blk.alloc | with_reducible apply Blk.drew | with_reducible apply Blk.drewN | with_reducible apply Blk.set | ((with_reducible apply Blk.far); case hp => (first | (simp; done) | (dsimp only; omega))) | ((with_reducible apply Blk.ext); case he => with_reducible assumption)))
    have S0 := S.cell 0
    have S1 := S.cell 1
    have S2 := S.cell 2
    have S3 := S.cell 3
    simp at S0 S1 S2 S3
    have Sl := S.lt
    have U : Blk w4 (w2.heap.size) #[.int .i64 L, .int .i64 H] 25 := (by (repeat (first | (with_reducible assumption) | ((with_reducible apply Blk.new_at); focus (first | (simp; done) | (simp; omega))) | with_reducible apply Blk.alloc | with_reducible apply Blk.drew | with_reducible apply Blk.drewN | with_reducible apply Blk.set | ((with_reducible apply Blk.far); case hp => (first | (simp; done) | (dsimp only; omega))) | ((with_reducible apply Blk.ext); case he => with_reducible assumption)))); obtain ⟨U1, U2, U3, U4⟩ := U.c2; have U5 := U.lt
    have J4 := R4.lnks (by omega)
    have I4 := I3.ext hw4
    have HI4 := Lib.hid I4
    have HJ4 := Lib.hid J4
    have hcS : ∀ q, q < m → w4.cell? ⟨g3, q, none⟩ = some (.int .i64 ((sharesL xs cs).getD q 0)) := fun q hq => (I4.cell hq).1
    have HCS := Lib.hid hcS
    have hg3l := I4.lt
    have hE4 : Ext w w4 := by (repeat (first | (with_reducible assumption) | with_reducible exact Ext.refl _ | with_reducible apply Ext.alloc | with_reducible apply Ext.drew | with_reducible apply Ext.drewN | ((with_reducible apply Ext.set); case hp => (first | (simp; done) | (dsimp only; omega) | omega)) | ((with_reducible apply Ext.trans); case k => with_reducible assumption)))
    have hs2 := Ext.size hw2
    try simp only [World.size_alloc] at hs2
    clear I3 R4 J4 I4 hcS
    go_wp2_with fail
    go_loopw [11, 13, 45] (fun s11 s13 i wr => ∃ q : Nat, q ≤ m ∧ i = .int .i64 q ∧ wr = w4 ∧ ∃ S, s11 = .int .i64 S ∧ (0 ≤ S ∧ S ≤ 200000 * q) ∧ Hid (S = sumI ((sharesL xs cs).take q))) (fun _ _ i _ => m - (intOf i).toNat)
    case atStart => exact ⟨0, Nat.zero_le _, rfl, rfl, 0, rfl, by omega, Lib.hid rfl⟩
    case round =>
      obtain ⟨q, hq, rfl, rfl, Sm, rfl, hSr, hS⟩ := hrel
      by_cases hlt : q < m
      · have c1 := HCS.out q hlt
        have hsr := HSR.out q hlt
        have hst := Lib.hid (sumI_take (sharesL xs cs) q (by rw [sharesL_len]; omega))
        obtain ⟨v, hv⟩ : ∃ v, (sharesL xs cs).getD q 0 = v := ⟨_, rfl⟩
        rw [hv] at c1 hsr hst
        have hWS : IntKind.i64.wrap (Sm + v) = Sm + v := i64_in' (by omega)
        have HS2 := Lib.hid (show Sm + v = sumI ((sharesL xs cs).take (q + 1)) by rw [hst.out, ← hS.out])
        clear hst hv hS
        go_wp2_with fail
        go_roundw
        case rel => exact ⟨q + 1, by omega, by go_num, by trivial, Sm + v, rfl, by omega, HS2⟩
        case measure => simp [intOf]; omega
      · obtain rfl : m = q := by omega
        have hSm : H - L = Sm := by
          rw [hS.out, HWI.out]
          rw [show (sharesL xs cs).take m = sharesL xs cs from by rw [List.take_of_length_le (by rw [sharesL_len]; omega)]]
          rfl
        have hWHL : IntKind.i64.wrap (H - L) = H - L := i64_in' (by omega)
        have hne : (H - L != Sm) = false := by rw [hSm]; simp
        go_wp2_with fail
        refine (slimits_ok A (some ⟨g4, 0, none⟩) n m c cap4 xs (revC cs) lo hi _ (HX.out.ext (by (repeat (first | (with_reducible assumption) | with_reducible exact Ext.refl _ | with_reducible apply Ext.alloc | with_reducible apply Ext.drew | with_reducible apply Ext.drewN | ((with_reducible apply Ext.set); case hp => (first | (simp; done) | (dsimp only; omega) | omega)) | ((with_reducible apply Ext.trans); case k => with_reducible assumption))))) (HJ4.out.ext (by (repeat (first | (with_reducible assumption) | with_reducible exact Ext.refl _ | with_reducible apply Ext.alloc | with_reducible apply Ext.drew | with_reducible apply Ext.drewN | ((with_reducible apply Ext.set); case hp => (first | (simp; done) | (dsimp only; omega) | omega)) | ((with_reducible apply Ext.trans); case k => with_reducible assumption))))) HRV.out).mono ?_
        rintro e w5 ⟨rfl, hw5⟩
        rw [HRR.out.1, HRR.out.2]
        have V : Blk w5 (w.heap.size) #[.slice A n c, .slice (some ⟨bB, oB, none⟩) m c2, .int .i64 lo, .int .i64 hi] 27 := by (repeat (first | (with_reducible assumption) | ((with_reducible apply Blk.new_at); focus (first | (simp; done) | (simp; omega))) | with_reducible apply Blk.alloc | with_reducible apply Blk.drew | with_reducible apply Blk.drewN | with_reducible apply Blk.set | ((with_reducible apply Blk.far); case hp => (first | (simp; done) | (dsimp only; omega))) | ((with_reducible apply Blk.ext); case he => with_reducible assumption)))
        have V0 := V.cell 0
        have V1 := V.cell 1
        have V2 := V.cell 2
        have V3 := V.cell 3
        simp at V0 V1 V2 V3
        have Vl := V.lt
        have X : Blk w5 (w2.heap.size) #[.int .i64 L, .int .i64 H] 25 := (by (repeat (first | (with_reducible assumption) | ((with_reducible apply Blk.new_at); focus (first | (simp; done) | (simp; omega))) | with_reducible apply Blk.alloc | with_reducible apply Blk.drew | with_reducible apply Blk.drewN | with_reducible apply Blk.set | ((with_reducible apply Blk.far); case hp => (first | (simp; done) | (dsimp only; omega))) | ((with_reducible apply Blk.ext); case he => with_reducible assumption)))); obtain ⟨X1, X2, X3, X4⟩ := X.c2; have X5 := X.lt
        have hW6 : IntKind.i64.wrap (-L) = -L := i64_in' (by omega)
        have hW7 : IntKind.i64.wrap (-H) = -H := i64_in' (by omega)
        have hn6 : (-L != -L) = false := by simp
        have hn7 : (-H != -H) = false := by simp
        by_cases hk0 : k = 0
        · subst hk0
          go_wp2_with (first | (go_at_call 17; refine (awake25_any _).mono ?_; rintro e wz ⟨rfl, hwz⟩))
          go_ret
          exact Ret.bool (by first | rfl | simp) (by (repeat (first | (with_reducible assumption) | with_reducible exact Ext.refl _ | with_reducible apply Ext.alloc | with_reducible apply Ext.drew | with_reducible apply Ext.drewN | ((with_reducible apply Ext.set); case hp => (first | (simp; done) | (dsimp only; omega) | omega)) | ((with_reducible apply Ext.trans); case k => with_reducible assumption))))
        · have hk0' : ((k : Int) == 0) = false := by simp; omega
          have hku : (k : Int) ≤ (m : Int) := by omega
          have hkc : (k : Int) ≤ (c2 : Int) := by omega
          have hmc : (m : Int) ≤ (c2 : Int) := by omega
          have hck : ¬ c2 = k := by omega
          have hE5 : Ext w w5 := by (repeat (first | (with_reducible assumption) | with_reducible exact Ext.refl _ | with_reducible apply Ext.alloc | with_reducible apply Ext.drew | with_reducible apply Ext.drewN | ((with_reducible apply Ext.set); case hp => (first | (simp; done) | (dsimp only; omega) | omega)) | ((with_reducible apply Ext.trans); case k => with_reducible assumption)))
          go_upto_region 22 with fail
          go_cut [17, 18] (fun s17 s18 wc => ∃ ga gb, s17 = .pointer (some ⟨ga, 0, none⟩) ∧ s18 = .pointer (some ⟨gb, 0, none⟩) ∧ (ga ≠ gb ∧ w2.heap.size < ga ∧ w2.heap.size < gb) ∧ Blk wc ga #[.slice A n c, .slice (some ⟨bB, oB, none⟩) m c2, .int .i64 lo, .int .i64 hi] 27 ∧ Blk wc gb #[.slice A n c, .slice (some ⟨bB, oB, none⟩) m c2, .int .i64 lo, .int .i64 hi] 27 ∧ Blk wc w2.heap.size #[.int .i64 L, .int .i64 H] 25 ∧ Blk wc w.heap.size #[.slice A n c, .slice (some ⟨bB, oB, none⟩) m c2, .int .i64 lo, .int .i64 hi] 27 ∧ Ext w wc)
          case first =>
            go_region_held3 (fun W => (W.cell? ⟨w.heap.size, 0, none⟩ = some (.slice A n c) ∧ W.cell? ⟨w.heap.size, 1, none⟩ = some (.slice (some ⟨bB, oB, none⟩) m c2)) ∧ W.cell? ⟨w.heap.size, 2, none⟩ = some (.int .i64 lo) ∧ W.cell? ⟨w.heap.size, 3, none⟩ = some (.int .i64 hi))
              (exact ⟨⟨(show Blk _ w.heap.size #[.slice A n c, .slice (some ⟨bB, oB, none⟩) m c2, .int .i64 lo, .int .i64 hi] 27 from by (repeat (first | (with_reducible assumption) | ((with_reducible apply Blk.new_at); focus (first | (simp; done) | (simp; omega))) | with_reducible apply Blk.alloc | with_reducible apply Blk.drew | with_reducible apply Blk.drewN | with_reducible apply Blk.set | ((with_reducible apply Blk.far); case hp => (first | (simp; done) | (dsimp only; omega))) | ((with_reducible apply Blk.ext); case he => with_reducible assumption)))).cell 0, (show Blk _ w.heap.size #[.slice A n c, .slice (some ⟨bB, oB, none⟩) m c2, .int .i64 lo, .int .i64 hi] 27 from by (repeat (first | (with_reducible assumption) | ((with_reducible apply Blk.new_at); focus (first | (simp; done) | (simp; omega))) | with_reducible apply Blk.alloc | with_reducible apply Blk.drew | with_reducible apply Blk.drewN | with_reducible apply Blk.set | ((with_reducible apply Blk.far); case hp => (first | (simp; done) | (dsimp only; omega))) | ((with_reducible apply Blk.ext); case he => with_reducible assumption)))).cell 1⟩, (show Blk _ w.heap.size #[.slice A n c, .slice (some ⟨bB, oB, none⟩) m c2, .int .i64 lo, .int .i64 hi] 27 from by (repeat (first | (with_reducible assumption) | ((with_reducible apply Blk.new_at); focus (first | (simp; done) | (simp; omega))) | with_reducible apply Blk.alloc | with_reducible apply Blk.drew | with_reducible apply Blk.drewN | with_reducible apply Blk.set | ((with_reducible apply Blk.far); case hp => (first | (simp; done) | (dsimp only; omega))) | ((with_reducible apply Blk.ext); case he => with_reducible assumption)))).cell 2, (show Blk _ w.heap.size #[.slice A n c, .slice (some ⟨bB, oB, none⟩) m c2, .int .i64 lo, .int .i64 hi] 27 from by (repeat (first | (with_reducible assumption) | ((with_reducible apply Blk.new_at); focus (first | (simp; done) | (simp; omega))) | with_reducible apply Blk.alloc | with_reducible apply Blk.drew | with_reducible apply Blk.drewN | with_reducible apply Blk.set | ((with_reducible apply Blk.far); case hp => (first | (simp; done) | (dsimp only; omega))) | ((with_reducible apply Blk.ext); case he => with_reducible assumption)))).cell 3⟩) (fail)
            all_goals
              go_wp2_with fail
              go_meet
              refine ⟨_, _, rfl, rfl, ⟨by simp, by first | omega | (simp; omega), by first | omega | (simp; omega)⟩, by (apply Blk.is; (case h => (repeat (first | (with_reducible assumption) | ((with_reducible apply Blk.new_at); focus (first | (simp; done) | (simp; omega))) | with_reducible apply Blk.alloc | with_reducible apply Blk.drew | with_reducible apply Blk.drewN | with_reducible apply Blk.set | ((with_reducible apply Blk.far); case hp => (first | (simp; done) | (dsimp only; omega))) | ((with_reducible apply Blk.ext); case he => with_reducible assumption)))); all_goals rfl), by (apply Blk.is; (case h => (repeat (first | (with_reducible assumption) | ((with_reducible apply Blk.new_at); focus (first | (simp; done) | (simp; omega))) | with_reducible apply Blk.alloc | with_reducible apply Blk.drew | with_reducible apply Blk.drewN | with_reducible apply Blk.set | ((with_reducible apply Blk.far); case hp => (first | (simp; done) | (dsimp only; omega))) | ((with_reducible apply Blk.ext); case he => with_reducible assumption)))); all_goals rfl), by (repeat (first | (with_reducible assumption) | ((with_reducible apply Blk.new_at); focus (first | (simp; done) | (simp; omega))) | with_reducible apply Blk.alloc | with_reducible apply Blk.drew | with_reducible apply Blk.drewN | with_reducible apply Blk.set | ((with_reducible apply Blk.far); case hp => (first | (simp; done) | (dsimp only; omega))) | ((with_reducible apply Blk.ext); case he => with_reducible assumption))), by (repeat (first | (with_reducible assumption) | ((with_reducible apply Blk.new_at); focus (first | (simp; done) | (simp; omega))) | with_reducible apply Blk.alloc | with_reducible apply Blk.drew | with_reducible apply Blk.drewN | with_reducible apply Blk.set | ((with_reducible apply Blk.far); case hp => (first | (simp; done) | (dsimp only; omega))) | ((with_reducible apply Blk.ext); case he => with_reducible assumption))), by (repeat (first | (with_reducible assumption) | with_reducible exact Ext.refl _ | with_reducible apply Ext.alloc | with_reducible apply Ext.drew | with_reducible apply Ext.drewN | ((with_reducible apply Ext.set); case hp => (first | (simp; done) | (dsimp only; omega) | omega)) | ((with_reducible apply Ext.trans); case k => with_reducible assumption)))⟩
          case rest =>
            obtain ⟨ga, gb, rfl, rfl, ⟨hab, hga, hgb⟩, bA, bBb, bU, bT, hEc⟩ := hcut
            rename_i wc
            have hba : gb ≠ ga := fun e => hab e.symm
            have a1 := bA.cell 1
            have a2 := bA.frozen 1
            have a3 := bBb.cell 1
            have a4 := bBb.frozen 1
            simp at a1 a3
            have al := bA.lt
            have bl := bBb.lt
            have tl := bT.lt
            have ul := bU.lt
            go_upto_region 23 with fail
            go_region_held3 (fun W => W.cell? ⟨w.heap.size, 1, none⟩ = some (.slice (some ⟨bB, oB, none⟩) m c2))
              (exact (show Blk _ w.heap.size #[.slice A n c, .slice (some ⟨bB, oB, none⟩) m c2, .int .i64 lo, .int .i64 hi] 27 from by (repeat (first | (with_reducible assumption) | ((with_reducible apply Blk.new_at); focus (first | (simp; done) | (simp; omega))) | with_reducible apply Blk.alloc | with_reducible apply Blk.drew | with_reducible apply Blk.drewN | with_reducible apply Blk.set | ((with_reducible apply Blk.far); case hp => (first | (simp; done) | (dsimp only; omega))) | ((with_reducible apply Blk.ext); case he => with_reducible assumption)))).cell 1) (fail)
            all_goals
              clear a1 a2 a3 a4
              obtain ⟨W6, hW6⟩ : ∃ W6, ((wc.setCell { block := ga, off := 1 } (.slice (some ⟨bB, oB, none⟩) k c2)).setCell { block := gb, off := 1 } (.slice (some ⟨bB, oB + k * 2, none⟩) (m - k) (c2 - k))).drew = W6 := ⟨_, rfl⟩
              have d1 : Blk W6 ga #[.slice A n c, .slice (some ⟨bB, oB, none⟩) k c2, .int .i64 lo, .int .i64 hi] 27 := by
                rw [← hW6]
                exact ((bA.set 1 _).far hab _).drew
              have d2 : Blk W6 gb #[.slice A n c, .slice (some ⟨bB, oB + k * 2, none⟩) (m - k) (c2 - k), .int .i64 lo, .int .i64 hi] 27 := by
                rw [← hW6]
                exact ((bBb.far hba _).set 1 _).drew
              have d3 : Blk W6 w2.heap.size #[.int .i64 L, .int .i64 H] 25 := by
                rw [← hW6]
                exact ((bU.far (by dsimp only; omega) _).far (by dsimp only; omega) _).drew
              have hE6 : Ext w W6 := by
                rw [← hW6]
                exact ((hEc.set (by dsimp only; omega) _).set (by dsimp only; omega) _).drew
              rw [hW6]
              clear hW6 bA bBb bU bT hEc
              have D : Blk W6 (ga) #[.slice A n c, .slice (some ⟨bB, oB, none⟩) k c2, .int .i64 lo, .int .i64 hi] 27 := by (repeat (first | (with_reducible assumption) | ((with_reducible apply Blk.new_at); focus (first | (simp; done) | (simp; omega))) | with_reducible apply Blk.alloc | with_reducible apply Blk.drew | with_reducible apply Blk.drewN | with_reducible apply Blk.set | ((with_reducible apply Blk.far); case hp => (first | (simp; done) | (dsimp only; omega))) | ((with_reducible apply Blk.ext); case he => with_reducible assumption)))
              have D0 := D.cell 0
              have D1 := D.cell 1
              have D2 := D.cell 2
              have D3 := D.cell 3
              simp at D0 D1 D2 D3
              have Dl := D.lt
              go_wp2_with fail
              refine (slimits_ok A (some ⟨bB, oB, none⟩) n k c c2 xs (cs.take k) lo hi _ (HX.out.ext (by (repeat (first | (with_reducible assumption) | with_reducible exact Ext.refl _ | with_reducible apply Ext.alloc | with_reducible apply Ext.drew | with_reducible apply Ext.drewN | ((with_reducible apply Ext.set); case hp => (first | (simp; done) | (dsimp only; omega) | omega)) | ((with_reducible apply Ext.trans); case k => with_reducible assumption))))) ((HK.out.ext (by (repeat (first | (with_reducible assumption) | with_reducible exact Ext.refl _ | with_reducible apply Ext.alloc | with_reducible apply Ext.drew | with_reducible apply Ext.drewN | ((with_reducible apply Ext.set); case hp => (first | (simp; done) | (dsimp only; omega) | omega)) | ((with_reducible apply Ext.trans); case k => with_reducible assumption))))).take (by omega)) (HCU.out k (by omega) hkm).1).mono ?_
              rintro e w7 ⟨rfl, hw7⟩
              have E : Blk w7 (gb) #[.slice A n c, .slice (some ⟨bB, oB + k * 2, none⟩) (m - k) (c2 - k), .int .i64 lo, .int .i64 hi] 27 := by (repeat (first | (with_reducible assumption) | ((with_reducible apply Blk.new_at); focus (first | (simp; done) | (simp; omega))) | with_reducible apply Blk.alloc | with_reducible apply Blk.drew | with_reducible apply Blk.drewN | with_reducible apply Blk.set | ((with_reducible apply Blk.far); case hp => (first | (simp; done) | (dsimp only; omega))) | ((with_reducible apply Blk.ext); case he => with_reducible assumption)))
              have E0 := E.cell 0
              have E1 := E.cell 1
              have E2 := E.cell 2
              have E3 := E.cell 3
              simp at E0 E1 E2 E3
              have El := E.lt
              go_wp2_with fail
              refine (slimits_ok A (some ⟨bB, oB + k * 2, none⟩) n (m - k) c (c2 - k) xs (cs.drop k) lo hi _ (HX.out.ext (by (repeat (first | (with_reducible assumption) | with_reducible exact Ext.refl _ | with_reducible apply Ext.alloc | with_reducible apply Ext.drew | with_reducible apply Ext.drewN | ((with_reducible apply Ext.set); case hp => (first | (simp; done) | (dsimp only; omega) | omega)) | ((with_reducible apply Ext.trans); case k => with_reducible assumption))))) ((HK.out.ext (by (repeat (first | (with_reducible assumption) | with_reducible exact Ext.refl _ | with_reducible apply Ext.alloc | with_reducible apply Ext.drew | with_reducible apply Ext.drewN | ((with_reducible apply Ext.set); case hp => (first | (simp; done) | (dsimp only; omega) | omega)) | ((with_reducible apply Ext.trans); case k => with_reducible assumption))))).drop hkm) (HCU.out k (by omega) hkm).2).mono ?_
              rintro e w8 ⟨rfl, hw8⟩
              have hcut := HCT.out k
              obtain ⟨pa, hpa⟩ : ∃ v, endS 1 xs (cs.take k) = v := ⟨_, rfl⟩
              obtain ⟨pb, hpb⟩ : ∃ v, endS 1 xs (cs.drop k) = v := ⟨_, rfl⟩
              obtain ⟨qa, hqa⟩ : ∃ v, endS (-1) xs (cs.take k) = v := ⟨_, rfl⟩
              obtain ⟨qb, hqb⟩ : ∃ v, endS (-1) xs (cs.drop k) = v := ⟨_, rfl⟩
              rw [hpa, hpb, hqa, hqb] at hcut
              simp only [hpa, hqa, hpb, hqb] at hw8 ⊢
              clear hpa hpb hqa hqb
              obtain ⟨hcu1, hcu2⟩ := hcut
              have hs7 := Ext.size hw7
              have hs8 := Ext.size hw8
              have hWa : IntKind.i64.wrap (pa + pb) = L := by rw [hcu1]; exact i64_in' (by omega)
              have hWb : IntKind.i64.wrap (qa + qb) = H := by rw [hcu2]; exact i64_in' (by omega)
              have F : Blk w8 (w7.heap.size) #[.int .i64 pa, .int .i64 qa] 25 := (by (repeat (first | (with_reducible assumption) | ((with_reducible apply Blk.new_at); focus (first | (simp; done) | (simp; omega))) | with_reducible apply Blk.alloc | with_reducible apply Blk.drew | with_reducible apply Blk.drewN | with_reducible apply Blk.set | ((with_reducible apply Blk.far); case hp => (first | (simp; done) | (dsimp only; omega))) | ((with_reducible apply Blk.ext); case he => with_reducible assumption)))); obtain ⟨F1, F2, F3, F4⟩ := F.c2; have F5 := F.lt
              have U : Blk w8 (w2.heap.size) #[.int .i64 L, .int .i64 H] 25 := (by (repeat (first | (with_reducible assumption) | ((with_reducible apply Blk.new_at); focus (first | (simp; done) | (simp; omega))) | with_reducible apply Blk.alloc | with_reducible apply Blk.drew | with_reducible apply Blk.drewN | with_reducible apply Blk.set | ((with_reducible apply Blk.far); case hp => (first | (simp; done) | (dsimp only; omega))) | ((with_reducible apply Blk.ext); case he => with_reducible assumption)))); obtain ⟨U1, U2, U3, U4⟩ := U.c2; have U5 := U.lt
              go_wp2_with (first | (go_at_call 17; refine (awake25_any _).mono ?_; rintro e wz ⟨rfl, hwz⟩))
              go_ret
              exact Ret.bool (by first | rfl | simp) (by (repeat (first | (with_reducible assumption) | with_reducible exact Ext.refl _ | with_reducible apply Ext.alloc | with_reducible apply Ext.drew | with_reducible apply Ext.drewN | ((with_reducible apply Ext.set); case hp => (first | (simp; done) | (dsimp only; omega) | omega)) | ((with_reducible apply Ext.trans); case k => with_reducible assumption))))
end Go.Proofs.Ytdcedfciaaooiab
