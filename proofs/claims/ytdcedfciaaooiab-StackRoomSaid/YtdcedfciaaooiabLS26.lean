/- The law StackRoom returns true at every input: the walk. -/
import Derived.Test.YtdcedfciaaooiabA26
import Derived.Test.YtdcedfciaaooiabO25
import Derived.Test.YtdcedfciaaooiabG26
import Derived.Test.YtdcedfciaaooiabCK26
import Derived.Test.YtdcedfciaaooiabR25
set_option linter.unusedVariables false
namespace Go.Proofs.Ytdcedfciaaooiab
open Go.RowKit

theorem keeps1_any (A B : Option Addr) (n m c c2 : Nat) (xs : List Dim) (cs : List Lk) (lo hi : Int) (l : Lim) (k gt gk : Nat) (w : World) (bk : Bool) (kl kh : Int) (hx : Dims w A n xs) (hk : Lnks w B m cs) (bT0 : Blk w gt #[.slice A n c, .slice B m c2, .int .i64 lo, .int .i64 hi] 27) (bK0 : Blk w gk #[.int .i64 (k : Int)] 3) (h : taskE xs cs lo hi = 0) (hkm : k < m) (hb : (cs.getD k zeroK).back = bk)
    (hkl : roomL (endS 1 xs cs) (endS (-1) xs cs) lo hi (dimK xs (cs.getD k zeroK)).lo (dimK xs (cs.getD k zeroK)).hi bk = kl) (hkh : roomH (endS 1 xs cs) (endS (-1) xs cs) lo hi (dimK xs (cs.getD k zeroK)).lo (dimK xs (cs.getD k zeroK)).hi bk = kh) (hl : -100000 ≤ l.lo ∧ l.lo ≤ l.hi ∧ l.hi ≤ 100000) :
    Calls Try.prog 33 #[.agg #[.int .i64 l.lo, .int .i64 l.hi], .pointer (some ⟨gt, 0, none⟩), .pointer (some ⟨gk, 0, none⟩)] w (Ret (.tuple #[.bool (decide (kl ≤ l.lo ∧ l.hi ≤ kh)), .bool true]) w) := by
  have hrt := rt_of hx.len hk.len (taskE_zero h).1
  have hiff := keeps_with hrt lo hi k hkm l bk hb
  rw [hkl, hkh] at hiff
  have hle := ends_le (rt_with hrt (cs.getD k zeroK).dim.toNat l hl)
  by_cases hy : lo ≤ endS 1 (withL xs (cs.getD k zeroK).dim.toNat l) cs ∧ endS (-1) (withL xs (cs.getD k zeroK).dim.toNat l) cs ≤ hi
  · rw [show decide (kl ≤ l.lo ∧ l.hi ≤ kh) = true from decide_eq_true (hiff.1 hy)]
    exact keeps1_yes A B n m c c2 xs cs lo hi l k gt gk w hx hk bT0 bK0 h hkm hl (by omega)
  · rw [show decide (kl ≤ l.lo ∧ l.hi ≤ kh) = false from decide_eq_false (fun e => hy (hiff.2 e))]
    by_cases h1 : lo ≤ endS 1 (withL xs (cs.getD k zeroK).dim.toNat l) cs ∧ endS 1 (withL xs (cs.getD k zeroK).dim.toNat l) cs ≤ hi
    · exact keeps1_high A B n m c c2 xs cs lo hi l k gt gk w hx hk bT0 bK0 h hkm hl ⟨h1, by omega⟩
    · exact keeps1_low A B n m c c2 xs cs lo hi l k gt gk w hx hk bT0 bK0 h hkm hl (by omega)
set_option maxRecDepth 20000 in
set_option maxHeartbeats 4000000 in
theorem law_stackRoom (A B : Option Addr) (n m c c2 : Nat) (xs : List Dim) (cs : List Lk) (lo hi : Int) (which : Int) (w : World) (hx : Dims w A n xs) (hk : Lnks w B m cs) (hm4 : m < 8796093022208) (hwh : 0 ≤ which ∧ which ≤ 255) : Calls Try.prog 5 #[.agg #[.slice A n c, .slice B m c2, .int .i64 lo, .int .i64 hi], .int .u8 which] w (Ret (.bool true) w) := by
  have HX := Lib.hid hx
  have HK := Lib.hid hk
  have hxl := hx.len
  have hkl := hk.len
  clear hx hk
  go_enter Try.func5, Try.ntmps5
  go_wp2_with fail
  refine (right25_any A B n m c c2 xs cs lo hi _ (HX.out.ext (by (repeat (first | (with_reducible assumption) | with_reducible exact Ext.refl _ | with_reducible apply Ext.alloc | with_reducible apply Ext.drew | with_reducible apply Ext.drewN | ((with_reducible apply Ext.set); case hp => (first | (simp; done) | (dsimp only; omega) | omega)) | ((with_reducible apply Ext.trans); case k => with_reducible assumption))))) (HK.out.ext (by (repeat (first | (with_reducible assumption) | with_reducible exact Ext.refl _ | with_reducible apply Ext.alloc | with_reducible apply Ext.drew | with_reducible apply Ext.drewN | ((with_reducible apply Ext.set); case hp => (first | (simp; done) | (dsimp only; omega) | omega)) | ((with_reducible apply Ext.trans); case k => with_reducible assumption))))) hm4).mono ?_
  rintro e w1 ⟨rt, rfl, hrt0, hw1⟩
  cases rt
  case false =>
    go_wp2_with fail; refine (awake25_any _).mono ?_; rintro e w2 ⟨rfl, hw2⟩
    go_wp2_with fail
    go_ret
    exact Ret.bool (by first | rfl | simp) (by (repeat (first | (with_reducible assumption) | with_reducible exact Ext.refl _ | with_reducible apply Ext.alloc | with_reducible apply Ext.drew | with_reducible apply Ext.drewN | ((with_reducible apply Ext.set); case hp => (first | (simp; done) | (dsimp only; omega) | omega)) | ((with_reducible apply Ext.trans); case k => with_reducible assumption))))
  case true =>
    obtain ⟨h6, h⟩ := hrt0 rfl
    have hrt := rt_of HX.out.len HK.out.len (taskE_zero h).1
    have hm0 := hrt.m0
    have hm256 := hrt.m256
    obtain ⟨k, hk0⟩ := Int.eq_ofNat_of_zero_le (Int.emod_nonneg which (show (m : Int) ≠ 0 by omega))
    have hklt := Int.emod_lt_of_pos which (show (0 : Int) < (m : Int) by omega)
    rw [hk0] at hklt
    have hkm : k < m := by omega
    have hkt : Int.tmod which (m : Int) = (k : Int) := by rw [Int.tmod_eq_emod_of_nonneg (by omega)]; exact hk0
    have hnz : ¬ ((m : Int) = 0) := by omega
    have hWc : IntKind.i64.wrap which = which := i64_in' (by omega)
    obtain ⟨bk, hb⟩ : ∃ b, (cs.getD k zeroK).back = b := ⟨_, rfl⟩
    obtain ⟨kl, hkl⟩ : ∃ v, roomL (endS 1 xs cs) (endS (-1) xs cs) lo hi (dimK xs (cs.getD k zeroK)).lo (dimK xs (cs.getD k zeroK)).hi bk = v := ⟨_, rfl⟩
    obtain ⟨kh, hkh⟩ : ∃ v, roomH (endS 1 xs cs) (endS (-1) xs cs) lo hi (dimK xs (cs.getD k zeroK)).lo (dimK xs (cs.getD k zeroK)).hi bk = v := ⟨_, rfl⟩
    have HS := Lib.hid (fun w (h1 : Dims w A n xs) (h2 : Lnks w B m cs) => (by
      cases bk
      · have := sroom_false A B n m c c2 xs cs lo hi w h1 h2 h k hkm hb
        rwa [hkl, hkh] at this
      · have := sroom_true A B n m c c2 xs cs lo hi w h1 h2 h k hkm hb
        rwa [hkl, hkh] at this : Calls Try.prog 32 #[.agg #[.slice A n c, .slice B m c2, .int .i64 lo, .int .i64 hi], .int .i64 (k : Int)] w (Ret (.tuple #[.agg #[.int .i64 (roomP kl kh).lo, .int .i64 (roomP kl kh).hi], .int .i64 (roomP kl kh).err]) w)))
    have HKP := Lib.hid (fun (l : Lim) gt gk w h1 h2 h3 h4 hl => keeps1_any A B n m c c2 xs cs lo hi l k gt gk w bk kl kh h1 h2 h3 h4 h hkm hb hkl hkh hl)
    have hre := roomP_err kl kh
    have hrp := fun h0 => roomP_ok (L := kl) (M := kh) h0
    clear hrt h hrt0 hk0 hklt hb hkl hkh
    generalize roomP kl kh = R at HS hre hrp
    obtain ⟨r1, r2, r3⟩ := R
    dsimp only at hre hrp
    have P : Blk w1 (w.heap.size) #[.slice A n c, .slice B m c2, .int .i64 lo, .int .i64 hi] 27 := by (repeat (first | (with_reducible assumption) | ((with_reducible apply Blk.new_at); focus (first | (simp; done) | (simp; omega))) | with_reducible apply Blk.alloc | with_reducible apply Blk.drew | with_reducible apply Blk.drewN | with_reducible apply Blk.set | ((with_reducible apply Blk.far); case hp => (first | (simp; done) | (dsimp only; omega))) | ((with_reducible apply Blk.ext); case he => with_reducible assumption)))
    have P0 := P.cell 0
    have P1 := P.cell 1
    have P2 := P.cell 2
    have P3 := P.cell 3
    simp at P0 P1 P2 P3
    have Pl := P.lt
    go_wp2_with fail; refine (HS.out _ (HX.out.ext (by (repeat (first | (with_reducible assumption) | with_reducible exact Ext.refl _ | with_reducible apply Ext.alloc | with_reducible apply Ext.drew | with_reducible apply Ext.drewN | ((with_reducible apply Ext.set); case hp => (first | (simp; done) | (dsimp only; omega) | omega)) | ((with_reducible apply Ext.trans); case k => with_reducible assumption))))) (HK.out.ext (by (repeat (first | (with_reducible assumption) | with_reducible exact Ext.refl _ | with_reducible apply Ext.alloc | with_reducible apply Ext.drew | with_reducible apply Ext.drewN | ((with_reducible apply Ext.set); case hp => (first | (simp; done) | (dsimp only; omega) | omega)) | ((with_reducible apply Ext.trans); case k => with_reducible assumption)))))).mono ?_; rintro e w2 ⟨rfl, hw2⟩
    rcases hre with rfl | rfl
    case inr =>
      have Q : Blk w2 (w.heap.size) #[.slice A n c, .slice B m c2, .int .i64 lo, .int .i64 hi] 27 := by (repeat (first | (with_reducible assumption) | ((with_reducible apply Blk.new_at); focus (first | (simp; done) | (simp; omega))) | with_reducible apply Blk.alloc | with_reducible apply Blk.drew | with_reducible apply Blk.drewN | with_reducible apply Blk.set | ((with_reducible apply Blk.far); case hp => (first | (simp; done) | (dsimp only; omega))) | ((with_reducible apply Blk.ext); case he => with_reducible assumption)))
      have Q0 := Q.cell 0
      have Q1 := Q.cell 1
      have Q2 := Q.cell 2
      have Q3 := Q.cell 3
      simp at Q0 Q1 Q2 Q3
      have Ql := Q.lt
      go_wp2_with (first | (go_at_call 17; refine (awake25_any _).mono ?_; rintro e wz ⟨rfl, hwz⟩))
      go_ret
      exact Ret.bool (by first | rfl | simp) (by (repeat (first | (with_reducible assumption) | with_reducible exact Ext.refl _ | with_reducible apply Ext.alloc | with_reducible apply Ext.drew | with_reducible apply Ext.drewN | ((with_reducible apply Ext.set); case hp => (first | (simp; done) | (dsimp only; omega) | omega)) | ((with_reducible apply Ext.trans); case k => with_reducible assumption))))
    case inl =>
      have Q : Blk w2 (w.heap.size) #[.slice A n c, .slice B m c2, .int .i64 lo, .int .i64 hi] 27 := by (repeat (first | (with_reducible assumption) | ((with_reducible apply Blk.new_at); focus (first | (simp; done) | (simp; omega))) | with_reducible apply Blk.alloc | with_reducible apply Blk.drew | with_reducible apply Blk.drewN | with_reducible apply Blk.set | ((with_reducible apply Blk.far); case hp => (first | (simp; done) | (dsimp only; omega))) | ((with_reducible apply Blk.ext); case he => with_reducible assumption)))
      have Q0 := Q.cell 0
      have Q1 := Q.cell 1
      have Q2 := Q.cell 2
      have Q3 := Q.cell 3
      simp at Q0 Q1 Q2 Q3
      have Ql := Q.lt
      obtain ⟨h1, h2, h3⟩ := hrp rfl
      have hK2 : Blk w2 w1.heap.size #[.int .i64 (k : Int)] 3 := by (repeat (first | (with_reducible assumption) | ((with_reducible apply Blk.new_at); focus (first | (simp; done) | (simp; omega))) | with_reducible apply Blk.alloc | with_reducible apply Blk.drew | with_reducible apply Blk.drewN | with_reducible apply Blk.set | ((with_reducible apply Blk.far); case hp => (first | (simp; done) | (dsimp only; omega))) | ((with_reducible apply Blk.ext); case he => with_reducible assumption)))
      have k2 := hK2.cell 0
      simp at k2
      have hs2 := Ext.size hw2
      simp only [World.size_alloc] at hs2
      have hra : -100000 ≤ r1 ∧ r1 ≤ 100000 := by unfold clampLo clampHi at *; split at h1 <;> split at h2 <;> omega
      have hrb : -100000 ≤ r2 ∧ r2 ≤ 100000 := by unfold clampLo clampHi at *; split at h1 <;> split at h2 <;> omega
      have hq1 : kl ≤ r1 ∧ r2 ≤ kh := by unfold clampLo clampHi at *; split at h1 <;> split at h2 <;> omega
      have hq2 : -100000 < r1 → r1 = kl := by unfold clampLo at *; split at h1 <;> omega
      have hq3 : r2 < 100000 → r2 = kh := by unfold clampHi at *; split at h2 <;> omega
      have hle : r1 ≤ r2 := by rw [h1, h2]; exact h3
      have hC1 : decide (kl ≤ r1 ∧ r2 ≤ kh) = true := by simpa using hq1
      clear h1 h2 h3 hrp
      have HK1 := Lib.hid (fun gt gk w (h1 : Dims w A n xs) (h2 : Lnks w B m cs) h3 h4 => (by have := HKP.out ⟨r1, r2⟩ gt gk w h1 h2 h3 h4 (by dsimp only; omega); dsimp only at this; rwa [hC1] at this : Calls Try.prog 33 #[.agg #[.int .i64 r1, .int .i64 r2], .pointer (some ⟨gt, 0, none⟩), .pointer (some ⟨gk, 0, none⟩)] w (Ret (.tuple #[.bool true, .bool true]) w)))
      obtain ⟨o, ho⟩ : ∃ o, r1 - 1 = o := ⟨_, rfl⟩
      obtain ⟨v, hv⟩ : ∃ v, r2 + 1 = v := ⟨_, rfl⟩
      have hWo : IntKind.i64.wrap (r1 - 1) = o := by rw [ho]; exact i64_in' (by omega)
      have hWv : IntKind.i64.wrap (r2 + 1) = v := by rw [hv]; exact i64_in' (by omega)
      have hC2 : -100000 < r1 → decide (kl ≤ o ∧ r2 ≤ kh) = false := fun h => by have := hq2 h; simp; omega
      have hC3 : r2 < 100000 → decide (kl ≤ r1 ∧ v ≤ kh) = false := fun h => by have := hq3 h; simp; omega
      have HK2 := Lib.hid (fun (h : -100000 < r1) gt gk w (h1 : Dims w A n xs) (h2 : Lnks w B m cs) h3 h4 => (by have := HKP.out ⟨o, r2⟩ gt gk w h1 h2 h3 h4 (by dsimp only; omega); dsimp only at this; rwa [hC2 h] at this : Calls Try.prog 33 #[.agg #[.int .i64 o, .int .i64 r2], .pointer (some ⟨gt, 0, none⟩), .pointer (some ⟨gk, 0, none⟩)] w (Ret (.tuple #[.bool false, .bool true]) w)))
      have HK3 := Lib.hid (fun (h : r2 < 100000) gt gk w (h1 : Dims w A n xs) (h2 : Lnks w B m cs) h3 h4 => (by have := HKP.out ⟨r1, v⟩ gt gk w h1 h2 h3 h4 (by dsimp only; omega); dsimp only at this; rwa [hC3 h] at this : Calls Try.prog 33 #[.agg #[.int .i64 r1, .int .i64 v], .pointer (some ⟨gt, 0, none⟩), .pointer (some ⟨gk, 0, none⟩)] w (Ret (.tuple #[.bool false, .bool true]) w)))
      clear hC1 hC2 hC3 hq1 hq2 hq3 ho hv HKP
      have hE2 : Ext w w2 := by (repeat (first | (with_reducible assumption) | with_reducible exact Ext.refl _ | with_reducible apply Ext.alloc | with_reducible apply Ext.drew | with_reducible apply Ext.drewN | ((with_reducible apply Ext.set); case hp => (first | (simp; done) | (dsimp only; omega) | omega)) | ((with_reducible apply Ext.trans); case k => with_reducible assumption)))
      have hw1l : w.heap.size < w1.heap.size := Pl
      go_wp2_with fail
      refine (HK1.out _ _ _ (HX.out.ext (by (repeat (first | (with_reducible assumption) | with_reducible exact Ext.refl _ | with_reducible apply Ext.alloc | with_reducible apply Ext.drew | with_reducible apply Ext.drewN | ((with_reducible apply Ext.set); case hp => (first | (simp; done) | (dsimp only; omega) | omega)) | ((with_reducible apply Ext.trans); case k => with_reducible assumption))))) (HK.out.ext (by (repeat (first | (with_reducible assumption) | with_reducible exact Ext.refl _ | with_reducible apply Ext.alloc | with_reducible apply Ext.drew | with_reducible apply Ext.drewN | ((with_reducible apply Ext.set); case hp => (first | (simp; done) | (dsimp only; omega) | omega)) | ((with_reducible apply Ext.trans); case k => with_reducible assumption))))) (by (repeat (first | (with_reducible assumption) | ((with_reducible apply Blk.new_at); focus (first | (simp; done) | (simp; omega))) | with_reducible apply Blk.alloc | with_reducible apply Blk.drew | with_reducible apply Blk.drewN | with_reducible apply Blk.set | ((with_reducible apply Blk.far); case hp => (first | (simp; done) | (dsimp only; omega))) | ((with_reducible apply Blk.ext); case he => with_reducible assumption)))) (by (repeat (first | (with_reducible assumption) | ((with_reducible apply Blk.new_at); focus (first | (simp; done) | (simp; omega))) | with_reducible apply Blk.alloc | with_reducible apply Blk.drew | with_reducible apply Blk.drewN | with_reducible apply Blk.set | ((with_reducible apply Blk.far); case hp => (first | (simp; done) | (dsimp only; omega))) | ((with_reducible apply Blk.ext); case he => with_reducible assumption))))).mono ?_
      rintro e w3 ⟨rfl, hw3⟩
      have S : Blk w3 (w.heap.size) #[.slice A n c, .slice B m c2, .int .i64 lo, .int .i64 hi] 27 := by (repeat (first | (with_reducible assumption) | ((with_reducible apply Blk.new_at); focus (first | (simp; done) | (simp; omega))) | with_reducible apply Blk.alloc | with_reducible apply Blk.drew | with_reducible apply Blk.drewN | with_reducible apply Blk.set | ((with_reducible apply Blk.far); case hp => (first | (simp; done) | (dsimp only; omega))) | ((with_reducible apply Blk.ext); case he => with_reducible assumption)))
      have S0 := S.cell 0
      have S1 := S.cell 1
      have S2 := S.cell 2
      have S3 := S.cell 3
      simp at S0 S1 S2 S3
      have Sl := S.lt
      have U : Blk w3 (w2.heap.size) #[.int .i64 r1, .int .i64 r2] 25 := (by (repeat (first | (with_reducible assumption) | ((with_reducible apply Blk.new_at); focus (first | (simp; done) | (simp; omega))) | with_reducible apply Blk.alloc | with_reducible apply Blk.drew | with_reducible apply Blk.drewN | with_reducible apply Blk.set | ((with_reducible apply Blk.far); case hp => (first | (simp; done) | (dsimp only; omega))) | ((with_reducible apply Blk.ext); case he => with_reducible assumption)))); obtain ⟨U1, U2, U3, U4⟩ := U.c2; have U5 := U.lt
      have hK3 : Blk w3 w1.heap.size #[.int .i64 (k : Int)] 3 := by (repeat (first | (with_reducible assumption) | ((with_reducible apply Blk.new_at); focus (first | (simp; done) | (simp; omega))) | with_reducible apply Blk.alloc | with_reducible apply Blk.drew | with_reducible apply Blk.drewN | with_reducible apply Blk.set | ((with_reducible apply Blk.far); case hp => (first | (simp; done) | (dsimp only; omega))) | ((with_reducible apply Blk.ext); case he => with_reducible assumption)))
      have hE3 : Ext w w3 := by (repeat (first | (with_reducible assumption) | with_reducible exact Ext.refl _ | with_reducible apply Ext.alloc | with_reducible apply Ext.drew | with_reducible apply Ext.drewN | ((with_reducible apply Ext.set); case hp => (first | (simp; done) | (dsimp only; omega) | omega)) | ((with_reducible apply Ext.trans); case k => with_reducible assumption)))
      by_cases hA : -100000 < r1
      · go_wp2_with fail
        refine (HK2.out hA _ _ _ (HX.out.ext (by (repeat (first | (with_reducible assumption) | with_reducible exact Ext.refl _ | with_reducible apply Ext.alloc | with_reducible apply Ext.drew | with_reducible apply Ext.drewN | ((with_reducible apply Ext.set); case hp => (first | (simp; done) | (dsimp only; omega) | omega)) | ((with_reducible apply Ext.trans); case k => with_reducible assumption))))) (HK.out.ext (by (repeat (first | (with_reducible assumption) | with_reducible exact Ext.refl _ | with_reducible apply Ext.alloc | with_reducible apply Ext.drew | with_reducible apply Ext.drewN | ((with_reducible apply Ext.set); case hp => (first | (simp; done) | (dsimp only; omega) | omega)) | ((with_reducible apply Ext.trans); case k => with_reducible assumption))))) (by (repeat (first | (with_reducible assumption) | ((with_reducible apply Blk.new_at); focus (first | (simp; done) | (simp; omega))) | with_reducible apply Blk.alloc | with_reducible apply Blk.drew | with_reducible apply Blk.drewN | with_reducible apply Blk.set | ((with_reducible apply Blk.far); case hp => (first | (simp; done) | (dsimp only; omega))) | ((with_reducible apply Blk.ext); case he => with_reducible assumption)))) (by (repeat (first | (with_reducible assumption) | ((with_reducible apply Blk.new_at); focus (first | (simp; done) | (simp; omega))) | with_reducible apply Blk.alloc | with_reducible apply Blk.drew | with_reducible apply Blk.drewN | with_reducible apply Blk.set | ((with_reducible apply Blk.far); case hp => (first | (simp; done) | (dsimp only; omega))) | ((with_reducible apply Blk.ext); case he => with_reducible assumption))))).mono ?_
        rintro e w4 ⟨rfl, hw4⟩
        have V : Blk w4 (w.heap.size) #[.slice A n c, .slice B m c2, .int .i64 lo, .int .i64 hi] 27 := by (repeat (first | (with_reducible assumption) | ((with_reducible apply Blk.new_at); focus (first | (simp; done) | (simp; omega))) | with_reducible apply Blk.alloc | with_reducible apply Blk.drew | with_reducible apply Blk.drewN | with_reducible apply Blk.set | ((with_reducible apply Blk.far); case hp => (first | (simp; done) | (dsimp only; omega))) | ((with_reducible apply Blk.ext); case he => with_reducible assumption)))
        have V0 := V.cell 0
        have V1 := V.cell 1
        have V2 := V.cell 2
        have V3 := V.cell 3
        simp at V0 V1 V2 V3
        have Vl := V.lt
        have X : Blk w4 (w2.heap.size) #[.int .i64 r1, .int .i64 r2] 25 := (by (repeat (first | (with_reducible assumption) | ((with_reducible apply Blk.new_at); focus (first | (simp; done) | (simp; omega))) | with_reducible apply Blk.alloc | with_reducible apply Blk.drew | with_reducible apply Blk.drewN | with_reducible apply Blk.set | ((with_reducible apply Blk.far); case hp => (first | (simp; done) | (dsimp only; omega))) | ((with_reducible apply Blk.ext); case he => with_reducible assumption)))); obtain ⟨X1, X2, X3, X4⟩ := X.c2; have X5 := X.lt
        have hK4 : Blk w4 w1.heap.size #[.int .i64 (k : Int)] 3 := by (repeat (first | (with_reducible assumption) | ((with_reducible apply Blk.new_at); focus (first | (simp; done) | (simp; omega))) | with_reducible apply Blk.alloc | with_reducible apply Blk.drew | with_reducible apply Blk.drewN | with_reducible apply Blk.set | ((with_reducible apply Blk.far); case hp => (first | (simp; done) | (dsimp only; omega))) | ((with_reducible apply Blk.ext); case he => with_reducible assumption)))
        by_cases hB : r2 < 100000
        · go_wp2_with fail
          refine (HK3.out hB _ _ _ (HX.out.ext (by (repeat (first | (with_reducible assumption) | with_reducible exact Ext.refl _ | with_reducible apply Ext.alloc | with_reducible apply Ext.drew | with_reducible apply Ext.drewN | ((with_reducible apply Ext.set); case hp => (first | (simp; done) | (dsimp only; omega) | omega)) | ((with_reducible apply Ext.trans); case k => with_reducible assumption))))) (HK.out.ext (by (repeat (first | (with_reducible assumption) | with_reducible exact Ext.refl _ | with_reducible apply Ext.alloc | with_reducible apply Ext.drew | with_reducible apply Ext.drewN | ((with_reducible apply Ext.set); case hp => (first | (simp; done) | (dsimp only; omega) | omega)) | ((with_reducible apply Ext.trans); case k => with_reducible assumption))))) (by (repeat (first | (with_reducible assumption) | ((with_reducible apply Blk.new_at); focus (first | (simp; done) | (simp; omega))) | with_reducible apply Blk.alloc | with_reducible apply Blk.drew | with_reducible apply Blk.drewN | with_reducible apply Blk.set | ((with_reducible apply Blk.far); case hp => (first | (simp; done) | (dsimp only; omega))) | ((with_reducible apply Blk.ext); case he => with_reducible assumption)))) (by (repeat (first | (with_reducible assumption) | ((with_reducible apply Blk.new_at); focus (first | (simp; done) | (simp; omega))) | with_reducible apply Blk.alloc | with_reducible apply Blk.drew | with_reducible apply Blk.drewN | with_reducible apply Blk.set | ((with_reducible apply Blk.far); case hp => (first | (simp; done) | (dsimp only; omega))) | ((with_reducible apply Blk.ext); case he => with_reducible assumption))))).mono ?_
          rintro e w5 ⟨rfl, hw5⟩
          go_wp2_with (first | (go_at_call 17; refine (awake25_any _).mono ?_; rintro e wz ⟨rfl, hwz⟩))
          go_ret
          exact Ret.bool (by first | rfl | simp) (by (repeat (first | (with_reducible assumption) | with_reducible exact Ext.refl _ | with_reducible apply Ext.alloc | with_reducible apply Ext.drew | with_reducible apply Ext.drewN | ((with_reducible apply Ext.set); case hp => (first | (simp; done) | (dsimp only; omega) | omega)) | ((with_reducible apply Ext.trans); case k => with_reducible assumption))))
        · go_wp2_with (first | (go_at_call 17; refine (awake25_any _).mono ?_; rintro e wz ⟨rfl, hwz⟩))
          go_ret
          exact Ret.bool (by first | rfl | simp) (by (repeat (first | (with_reducible assumption) | with_reducible exact Ext.refl _ | with_reducible apply Ext.alloc | with_reducible apply Ext.drew | with_reducible apply Ext.drewN | ((with_reducible apply Ext.set); case hp => (first | (simp; done) | (dsimp only; omega) | omega)) | ((with_reducible apply Ext.trans); case k => with_reducible assumption))))
      · by_cases hB : r2 < 100000
        · go_wp2_with fail
          refine (HK3.out hB _ _ _ (HX.out.ext (by (repeat (first | (with_reducible assumption) | with_reducible exact Ext.refl _ | with_reducible apply Ext.alloc | with_reducible apply Ext.drew | with_reducible apply Ext.drewN | ((with_reducible apply Ext.set); case hp => (first | (simp; done) | (dsimp only; omega) | omega)) | ((with_reducible apply Ext.trans); case k => with_reducible assumption))))) (HK.out.ext (by (repeat (first | (with_reducible assumption) | with_reducible exact Ext.refl _ | with_reducible apply Ext.alloc | with_reducible apply Ext.drew | with_reducible apply Ext.drewN | ((with_reducible apply Ext.set); case hp => (first | (simp; done) | (dsimp only; omega) | omega)) | ((with_reducible apply Ext.trans); case k => with_reducible assumption))))) (by (repeat (first | (with_reducible assumption) | ((with_reducible apply Blk.new_at); focus (first | (simp; done) | (simp; omega))) | with_reducible apply Blk.alloc | with_reducible apply Blk.drew | with_reducible apply Blk.drewN | with_reducible apply Blk.set | ((with_reducible apply Blk.far); case hp => (first | (simp; done) | (dsimp only; omega))) | ((with_reducible apply Blk.ext); case he => with_reducible assumption)))) (by (repeat (first | (with_reducible assumption) | ((with_reducible apply Blk.new_at); focus (first | (simp; done) | (simp; omega))) | with_reducible apply Blk.alloc | with_reducible apply Blk.drew | with_reducible apply Blk.drewN | with_reducible apply Blk.set | ((with_reducible apply Blk.far); case hp => (first | (simp; done) | (dsimp only; omega))) | ((with_reducible apply Blk.ext); case he => with_reducible assumption))))).mono ?_
          rintro e w5 ⟨rfl, hw5⟩
          go_wp2_with (first | (go_at_call 17; refine (awake25_any _).mono ?_; rintro e wz ⟨rfl, hwz⟩))
          go_ret
          exact Ret.bool (by first | rfl | simp) (by (repeat (first | (with_reducible assumption) | with_reducible exact Ext.refl _ | with_reducible apply Ext.alloc | with_reducible apply Ext.drew | with_reducible apply Ext.drewN | ((with_reducible apply Ext.set); case hp => (first | (simp; done) | (dsimp only; omega) | omega)) | ((with_reducible apply Ext.trans); case k => with_reducible assumption))))
        · go_wp2_with (first | (go_at_call 17; refine (awake25_any _).mono ?_; rintro e wz ⟨rfl, hwz⟩))
          go_ret
          exact Ret.bool (by first | rfl | simp) (by (repeat (first | (with_reducible assumption) | with_reducible exact Ext.refl _ | with_reducible apply Ext.alloc | with_reducible apply Ext.drew | with_reducible apply Ext.drewN | ((with_reducible apply Ext.set); case hp => (first | (simp; done) | (dsimp only; omega) | omega)) | ((with_reducible apply Ext.trans); case k => with_reducible assumption))))
end Go.Proofs.Ytdcedfciaaooiab
