/- The iterator slices.Backward over links. -/
import Derived.Test.YtdcedfciaaooiabKB17
import Derived.Test.YtdcedfciaaooiabC24
set_option linter.unusedVariables false
namespace Go.Proofs.Ytdcedfciaaooiab
open Go.RowKit Go.Shelf
attribute [local go_sem] Oper.semAt_some

set_option maxRecDepth 100000 in
set_option maxHeartbeats 2000000 in
theorem backL1_in {α : Type} (val : α → Lk) (F : Fence) (n : Nat) (h7 : F.fn 101) (hro : F.round = none) (hn : 1 ≤ n) (l Bs n₀ b off len cap : Nat) (f : Nat → α) (hlen : len ≤ 35184372088832) (hb : b < n₀) (J Jx : List (Nat × α) → World → Prop)
    (hY : ∀ pre x W, J pre W → pre.length < len → YieldAt F (n - 1) Try.prog l #[.int .i64 (x.1 : Nat), .agg #[.int .i64 (val x.2).dim, .bool (val x.2).back]] W fun e W' =>
      (e = .returned (.bool true) ∧ J (pre ++ [x]) W' ∧ KpB n₀ Bs W W') ∨ (e = .returned (.bool false) ∧ Jx (pre ++ [x]) W'))
    (W : World) (hBs : W.cell? ⟨Bs, 0, none⟩ = some (.slice (some ⟨b, off, none⟩) len cap)) (hc : ∀ j, j < len → LCells W b (off + j * 2) (val (f j))) (h0 : J [] W) :
    CallsIn F n Try.prog 101 #[.func (.yield l) #[] #[], .pointer (some ⟨Bs, 0, none⟩)] W fun e W' => (∃ v, e = .returned v) ∧
      ((∃ ys, ys = upto (backK f len) len ∧ J ys W') ∨ (∃ pre, (∃ k, k ≤ len ∧ pre = upto (backK f len) k) ∧ Jx pre W')) := by
  have HC := Lib.hid hc
  clear hc
  have HB := Lib.hid hBs
  refine callsIn_of_wp Try.func101 rfl h7 ?_ hro
  simp only [Try.ntmps101, List.size_toArray, List.length_cons, List.length_nil, Nat.reduceAdd, Nat.reduceSub, Array.replicate_succ, Array.replicate_zero, List.push_toArray, List.append_toArray, List.nil_append, List.cons_append]
  gi_wp2
  gi_loopw [3] (fun i wr => ∃ k : Nat, k ≤ len ∧ i = .int .i64 ((len : Int) - 1 - k) ∧ J (upto (backK f len) k) wr ∧ KpB n₀ Bs W wr)
    (fun i _ => (intOf i + 1).toNat)
  case atStart => exact ⟨0, Nat.zero_le _, by go_num, h0, KpB.refl _ _ _⟩
  case round =>
    obtain ⟨k, hk, rfl, hJs, hnx⟩ := hrel
    by_cases hlt : k < len
    · obtain ⟨m, hm⟩ : ∃ m, len - 1 - k = m := ⟨_, rfl⟩
      have hm2 : ((len : Int) - 1 - k) = ((m : Nat) : Int) := by omega
      have hmlt : m < len := by omega
      obtain ⟨x, hx⟩ : ∃ x, f m = x := ⟨_, rfl⟩
      obtain ⟨d1, d2⟩ := HC.out m hmlt
      obtain ⟨⟨dm, bk⟩, hv⟩ : ∃ y, val x = y := ⟨_, rfl⟩
      rw [hx, hv] at d1 d2
      dsimp only at d1 d2
      have c0 := (hnx.cell 0).trans HB.out
      have c1 := (hnx.1.cell (p := ⟨b, off + m * 2, none⟩) hb).trans d1
      have c2 := (hnx.1.cell (p := ⟨b, off + m * 2 + 1, none⟩) hb).trans d2
      have HX := Lib.hid hx
      have HM := Lib.hid hm
      clear d1 d2 hx hm
      rw [hm2]
      have HM2 := Lib.hid hm2
      clear hm2
      have hlen2 : (upto (backK f len) k).length < len := by rw [upto_length]; exact hlt
      have hbk : Hid (backK f len k = (m, x)) := Lib.hid (by rw [backK, HM.out, HX.out])
      obtain ⟨fn, tmps, assign, body, hy, hR⟩ := hY _ (m, x) wr hJs hlen2
      dsimp only at hy
      rw [hv] at hy
      clear hv
      gi_wp2
      refine hR.mono ?_
      rintro e W3 (⟨rfl, hJ3, hk3⟩ | ⟨rfl, hJx3⟩)
      · gi_wp2
        go_roundw
        case rel => exact ⟨k + 1, by omega, by have := HM2.out; go_num, by rw [upto_succ, hbk.out]; exact hJ3, hnx.trans hk3⟩
        case measure => first | (simp [intOf]; done) | (simp [intOf]; omega)
      · gi_wp2
        refine bodyPost_ret (results_none rfl _ _ _) rfl ?_
        exact ⟨⟨_, rfl⟩, .inr ⟨_, ⟨k + 1, by omega, by rw [upto_succ, hbk.out]⟩, hJx3⟩⟩
    · obtain rfl : k = len := by omega
      gi_wp2
      go_end0
      exact ⟨⟨_, rfl⟩, .inl ⟨_, rfl, hJs⟩⟩

set_option maxRecDepth 100000 in
set_option maxHeartbeats 1000000 in
theorem backL1_nil_in {α : Type} (F : Fence) (n : Nat) (h7 : F.fn 101) (hro : F.round = none) (l Bs cap : Nat) (A : Option Addr) (J : List (Nat × α) → World → Prop) (W : World) (hBs : W.cell? ⟨Bs, 0, none⟩ = some (.slice A 0 cap)) (h0 : J [] W) :
    CallsIn F n Try.prog 101 #[.func (.yield l) #[] #[], .pointer (some ⟨Bs, 0, none⟩)] W fun e W' => (∃ v, e = .returned v) ∧ J [] W' := by
  refine callsIn_of_wp Try.func101 rfl h7 ?_ hro
  simp only [Try.ntmps101, List.size_toArray, List.length_cons, List.length_nil, Nat.reduceAdd, Nat.reduceSub, Array.replicate_succ, Array.replicate_zero, List.push_toArray, List.append_toArray, List.nil_append, List.cons_append]
  gi_wp2
  gi_loopw [3] (fun i wr => i = .int .i64 (-1) ∧ J [] wr) (fun _ _ => 0)
  case atStart => exact ⟨by go_num, h0⟩
  case round =>
    obtain ⟨rfl, hJs⟩ := hrel
    gi_wp2
    go_end0
    exact ⟨⟨_, rfl⟩, hJs⟩

theorem lback_any (A : Option Addr) (m c : Nat) (w : World) : Calls Try.prog 72 #[.slice A m c] w
    (fun e w' => e = .returned (.func (.func 101) #[] #[.pointer (some ⟨w.heap.size, 0, none⟩)]) ∧ w.alloc (.cells #[.slice A m c] 23) = w') := by
  go_enter Try.func72, Try.ntmps72
  go_wp2_with fail
  go_ret
  exact ⟨rfl, rfl⟩

theorem backL_stops {α : Type} (val : α → Lk) (f : Nat → α) (F : Fence) (n : Nat) (h7 : F.fn 101) (hro : F.round = none) (hn : 1 ≤ n) (Bs n₀ m cap : Nat) (A : Option Addr) (xs : List Lk) (w : World) (hBs : Bs < w.heap.size)
    (hc : w.cell? ⟨Bs, 0, none⟩ = some (.slice A m cap)) (hA : m ≠ 0 → ∀ b o, A = some ⟨b, o, none⟩ → b < n₀) (hI : Lnks w A m xs) (hf : ∀ j, j < m → val (f j) = xs.getD j zeroK) :
    SeqStopsK F n Try.prog 101 #[.pointer (some ⟨Bs, 0, none⟩)] (fun x : Nat × α => #[.int .i64 (x.1 : Nat), .agg #[.int .i64 (val x.2).dim, .bool (val x.2).back]]) (KpB n₀ Bs) (fun ys => ys = upto (backK f m) m)
      (fun pre => ∃ k, k ≤ m ∧ pre = upto (backK f m) k) m w := fun l J Jx W hW hJ _ hY h0 => by
  have hc' := (hW.cell (p := ⟨Bs, 0, none⟩) hBs).trans hc
  have hI' : Lnks W A m xs := hI.ext hW
  by_cases hm : m = 0
  · subst hm
    exact (backL1_nil_in F n h7 hro l Bs cap A J W hc' h0).mono fun e W' ⟨he, hj⟩ => ⟨he, .inl ⟨_, rfl, hj⟩⟩
  · obtain ⟨b, o, rfl, hcs⟩ := hI'.at_ (by omega)
    exact backL1_in val F n h7 hro hn l Bs n₀ b o m cap f hI.max (hA hm b o rfl) J Jx hY W hc'
      (fun j hj => by rw [hf j hj]; exact hcs j hj) h0
end Go.Proofs.Ytdcedfciaaooiab
