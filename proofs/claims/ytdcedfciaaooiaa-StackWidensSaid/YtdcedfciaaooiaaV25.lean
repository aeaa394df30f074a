/- The iterator over the links of a task: its contract. -/
import Derived.Test.YtdcedfciaaooiaaU25
set_option linter.unusedVariables false
namespace Go.Proofs.Ytdcedfciaaooiaa
open Go.RowKit Go.Shelf
attribute [local go_sem] Oper.semAt_some

set_option maxRecDepth 100000 in
set_option maxHeartbeats 4000000 in
theorem linksL1_in {α : Type} (val : α → Lk) (F : Fence) (n : Nat) (h7 : F.fn 115) (hro : F.round = none) (hn : 1 ≤ n) (l Bs n₀ b off len cap : Nat) (f : Nat → α) (hlen : len ≤ 35184372088832) (hb : b < n₀) (J Jx : List α → World → Prop) (hJab : ∀ s A B, J s A → Ext A B → J s B)
    (hY : ∀ pre x W, J pre W → pre.length < len → YieldAt F (n - 1) Try.prog l #[.int .i64 (val x).dim, .int .i64 (sgn (val x))] W fun e W' =>
      (e = .returned (.bool true) ∧ J (pre ++ [x]) W' ∧ Below n₀ W W') ∨ (e = .returned (.bool false) ∧ Jx (pre ++ [x]) W'))
    (W : World) (hn₀ : n₀ ≤ W.heap.size) (hBs : W.cell? ⟨Bs, 1, none⟩ = some (.slice (some ⟨b, off, none⟩) len cap)) (hc : ∀ j, j < len → LCells W b (off + j * 2) (val (f j))) (h0 : J [] W) :
    CallsIn F n Try.prog 115 #[.func (.yield l) #[] #[], .pointer (some ⟨Bs, 0, none⟩)] W fun e W' => (∃ v, e = .returned v) ∧
      ((∃ ys, ys = upto f len ∧ J ys W') ∨ (∃ pre, (∃ k, k ≤ len ∧ pre = upto f k) ∧ Jx pre W')) := by
  have HC := Lib.hid hc
  clear hc
  refine callsIn_of_wp Try.func115 rfl h7 ?_ hro
  simp only [Try.ntmps115, List.size_toArray, List.length_cons, List.length_nil, Nat.reduceAdd, Nat.reduceSub, Array.replicate_succ, Array.replicate_zero, List.push_toArray, List.append_toArray, List.nil_append, List.cons_append]
  gi_wp2
  gi_loopw [10] (fun i wr => ∃ k : Nat, k ≤ len ∧ i = .int .i64 k ∧ J (upto f k) wr ∧ Below n₀ W wr)
    (fun i _ => len - (intOf i).toNat)
  case atStart => exact ⟨0, Nat.zero_le _, rfl, h0, Below.refl _ _⟩
  case round =>
    obtain ⟨k, hk, rfl, hJs, hnx⟩ := hrel
    by_cases hlt : k < len
    · obtain ⟨x, hx⟩ : ∃ x, f k = x := ⟨_, rfl⟩
      obtain ⟨⟨dm, bk⟩, hv⟩ : ∃ y, val x = y := ⟨_, rfl⟩
      obtain ⟨d1, d2⟩ := HC.out k hlt
      rw [hx, hv] at d1 d2
      dsimp only at d1 d2
      have c1 := (hnx.cell (p := ⟨b, off + k * 2, none⟩) hb).trans d1
      have c2 := (hnx.cell (p := ⟨b, off + k * 2 + 1, none⟩) hb).trans d2
      have HX := Lib.hid hx
      clear d1 d2 hx
      have hlen2 : (upto f k).length < len := by rw [upto_length]; exact hlt
      obtain ⟨fn, tmps, assign, body, hy, hR⟩ := hY _ x (wr.alloc (.cells #[.int .i64 dm, .bool bk] 144)) (hJab _ _ _ hJs ((Ext.refl _).alloc _)) hlen2
      rw [hv] at hy
      clear hv
      cases bk
      all_goals
        simp only [sgn, if_true, if_false, Bool.false_eq_true] at hy
        gi_wp2
        refine hR.mono ?_
        rintro e W3 (⟨rfl, hJ3, hk3⟩ | ⟨rfl, hJx3⟩)
        · gi_wp2
          go_roundw
          case rel => exact ⟨k + 1, by omega, by simp, by rw [upto_succ, HX.out]; exact hJ3, (hnx.alloc (Nat.le_trans hn₀ hnx.size) _).trans hk3⟩
          case measure => simp [intOf]; omega
        · gi_wp2
          refine bodyPost_ret (results_none rfl _ _ _) rfl ?_
          exact ⟨⟨_, rfl⟩, .inr ⟨_, ⟨k + 1, by omega, by rw [upto_succ, HX.out]⟩, hJx3⟩⟩
    · obtain rfl : k = len := by omega
      gi_wp2
      go_end0
      exact ⟨⟨_, rfl⟩, .inl ⟨_, rfl, hJs⟩⟩

set_option maxRecDepth 100000 in
set_option maxHeartbeats 1000000 in
theorem linksL1_nil_in {α : Type} (F : Fence) (n : Nat) (h7 : F.fn 115) (hro : F.round = none) (l Bs cap : Nat) (A : Option Addr) (J : List α → World → Prop) (W : World) (hBs : W.cell? ⟨Bs, 1, none⟩ = some (.slice A 0 cap)) (h0 : J [] W) :
    CallsIn F n Try.prog 115 #[.func (.yield l) #[] #[], .pointer (some ⟨Bs, 0, none⟩)] W fun e W' => (∃ v, e = .returned v) ∧ J [] W' := by
  refine callsIn_of_wp Try.func115 rfl h7 ?_ hro
  simp only [Try.ntmps115, List.size_toArray, List.length_cons, List.length_nil, Nat.reduceAdd, Nat.reduceSub, Array.replicate_succ, Array.replicate_zero, List.push_toArray, List.append_toArray, List.nil_append, List.cons_append]
  gi_wp2
  gi_loopw [10] (fun i wr => i = .int .i64 0 ∧ J [] wr) (fun _ _ => 0)
  case atStart => exact ⟨rfl, h0⟩
  case round =>
    obtain ⟨rfl, hJs⟩ := hrel
    gi_wp2
    go_end0
    exact ⟨⟨_, rfl⟩, hJs⟩

theorem linksL_stops {α : Type} (val : α → Lk) (f : Nat → α) (F : Fence) (n : Nat) (h7 : F.fn 115) (hro : F.round = none) (hn : 1 ≤ n) (Bs n₀ m cap : Nat) (A : Option Addr) (cs : List Lk) (w : World) (hBs : Bs < w.heap.size) (hn₀ : n₀ ≤ w.heap.size)
    (hc : w.cell? ⟨Bs, 1, none⟩ = some (.slice A m cap)) (hA : m ≠ 0 → ∀ b o, A = some ⟨b, o, none⟩ → b < n₀) (hI : Lnks w A m cs) (hf : ∀ j, j < m → val (f j) = cs.getD j zeroK) :
    SeqStopsK F n Try.prog 115 #[.pointer (some ⟨Bs, 0, none⟩)] (fun x : α => #[.int .i64 (val x).dim, .int .i64 (sgn (val x))]) (Below n₀) (fun ys => ys = upto f m)
      (fun pre => ∃ k, k ≤ m ∧ pre = upto f k) m w := fun l J Jx W hW hJ _ hY h0 => by
  have hc' := (hW.cell (p := ⟨Bs, 1, none⟩) hBs).trans hc
  have hI' : Lnks W A m cs := hI.ext hW
  by_cases hm : m = 0
  · subst hm
    exact (linksL1_nil_in F n h7 hro l Bs cap A J W hc' h0).mono fun e W' ⟨he, hj⟩ => ⟨he, .inl ⟨_, rfl, hj⟩⟩
  · obtain ⟨b, o, rfl, hcs⟩ := hI'.at_ (by omega)
    exact linksL1_in val F n h7 hro hn l Bs n₀ b o m cap f hI.max (hA hm b o rfl) J Jx (fun s A B hs he => hJ s A B none hs (he.grownBy none) (fun r e => by cases e)) hY W (Nat.le_trans hn₀ hW.size) hc'
      (fun j hj => by rw [hf j hj]; exact hcs j hj) h0
end Go.Proofs.Ytdcedfciaaooiaa
