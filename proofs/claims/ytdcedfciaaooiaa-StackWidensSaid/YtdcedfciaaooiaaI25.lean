/- Lists of ints read; the reference's sum of a chain: the walk. -/
import Derived.Test.YtdcedfciaaooiaaX25
set_option linter.unusedVariables false
namespace Go.Proofs.Ytdcedfciaaooiaa
open Go.RowKit

/-- A list of ints, as it lies in memory. -/
def Ints (w : World) (A : Option Addr) (n : Nat) (vs : List Int) : Prop :=
  vs.length = n ∧ n ≤ 35184372088832 ∧ (n = 0 ∨ ∃ b o, A = some ⟨b, o, none⟩ ∧ ∀ j, j < n → w.cell? ⟨b, o + j, none⟩ = some (.int .i64 (vs.getD j 0)))
theorem Ints.len {w : World} {A : Option Addr} {n : Nat} {vs : List Int} (h : Ints w A n vs) : vs.length = n := h.1
theorem Ints.max {w : World} {A : Option Addr} {n : Nat} {vs : List Int} (h : Ints w A n vs) : n ≤ 35184372088832 := h.2.1
theorem Ints.ext {w w' : World} {A : Option Addr} {n : Nat} {vs : List Int} (h : Ints w A n vs) (he : Ext w w') : Ints w' A n vs := by
  refine ⟨h.1, h.2.1, ?_⟩
  rcases h.2.2 with h0 | ⟨b, o, hA, hc⟩
  · exact .inl h0
  · exact .inr ⟨b, o, hA, fun j hj => he.cell (hc j hj)⟩
theorem Ints.at_ {w : World} {A : Option Addr} {n : Nat} {vs : List Int} (h : Ints w A n vs) (h0 : 0 < n) : ∃ b o, A = some ⟨b, o, none⟩ ∧ ∀ j, j < n → w.cell? ⟨b, o + j, none⟩ = some (.int .i64 (vs.getD j 0)) := by
  rcases h.2.2 with hz | h
  · omega
  · exact h
theorem IRow.ints {W : World} {base g n : Nat} {cur : Array Value} {ys : List Int} (h : IRow W base g n cur ys) (hn : n ≤ 35184372088832) : Ints W (some ⟨g, 0, none⟩) n ys :=
  ⟨h.2.2.1, hn, .inr ⟨g, 0, rfl, fun j hj => by rw [Nat.zero_add]; exact (h.cell hj).1⟩⟩

theorem totalL_snoc (cs : List Lk) (x : Lk) (vs : List Int) : totalL (cs ++ [x]) vs = totalL cs vs + sgn x * vs.getD x.dim.toNat 0 := by simp [totalL]
theorem sgn_val {x : Lk} {v Y : Int} (h : -Y ≤ v ∧ v ≤ Y) : -Y ≤ sgn x * v ∧ sgn x * v ≤ Y := by unfold sgn; split <;> omega
theorem totalL_range {vs : List Int} {Y : Int} (hv : ∀ i, -Y ≤ vs.getD i 0 ∧ vs.getD i 0 ≤ Y) : ∀ (k : Nat) (cs : List Lk), cs.length = k → -(Y * k) ≤ totalL cs vs ∧ totalL cs vs ≤ Y * k := by
  intro k
  induction k with
  | zero => intro cs hl; rw [List.length_eq_zero_iff.1 hl]; simp [totalL]
  | succ k ih =>
    intro cs hl
    rcases List.eq_nil_or_concat cs with h | ⟨ys, x, h⟩
    · rw [h] at hl; simp at hl
    · rw [List.concat_eq_append] at h
      subst h
      have h1 := ih ys (by simpa using hl)
      have h2 := sgn_val (x := x) (hv x.dim.toNat)
      rw [totalL_snoc]
      have e : Y * ((k + 1 : Nat) : Int) = Y * (k : Int) + Y := by rw [Int.natCast_succ, Int.mul_add, Int.mul_one]
      rw [e]
      omega
set_option maxRecDepth 100000 in
set_option maxHeartbeats 4000000 in
theorem rtotal_any (B V : Option Addr) (m c n c2 : Nat) (cs : List Lk) (vs : List Int) (w : World) (hk : Lnks w B m cs) (hv : Ints w V n vs) (hm : m ≤ 512) (hr : ∀ j, j < m → 0 ≤ (cs.getD j zeroK).dim ∧ (cs.getD j zeroK).dim < (n : Int)) (hY : ∀ i, -1000000000 ≤ vs.getD i 0 ∧ vs.getD i 0 ≤ 1000000000) :
    Calls Try.prog 117 #[.slice B m c, .slice V n c2] w (Ret (.int .i64 (totalL cs vs)) w) := by
  have HK := Lib.hid hk
  have HV := Lib.hid hv
  have HR := Lib.hid hr
  have HY := Lib.hid hY
  have hcl := hk.len
  have hvm := hv.max
  clear hk hv hr hY
  go_enter Try.func117, Try.ntmps117
  go_wp2_with fail
  go_loopw [5, 6] (fun s i wr => wr = w ∧ ∃ q : Nat, q ≤ m ∧ i = .int .i64 q ∧ ∃ u, s = .int .i64 u ∧ Hid (u = totalL (cs.take q) vs)) (fun _ i _ => m - (intOf i).toNat)
  case atStart => exact ⟨rfl, 0, Nat.zero_le _, rfl, 0, rfl, Lib.hid rfl⟩
  case round =>
    obtain ⟨rfl, q, hq, rfl, u, rfl, hu⟩ := hrel
    by_cases hlt : q < m
    · obtain ⟨bB, oB, rfl, hcB⟩ := HK.out.at_ (by omega)
      have hd := HR.out q hlt
      obtain ⟨bV, oV, rfl, hcV⟩ := HV.out.at_ (by omega)
      obtain ⟨⟨y, bk⟩, hy⟩ : ∃ y, cs.getD q zeroK = y := ⟨_, rfl⟩
      obtain ⟨l1, l2⟩ := Lnks.cells hcB (Ext.refl _) q hlt _ hy
      rw [hy] at hd
      dsimp only at l1 l2 hd
      obtain ⟨p, rfl⟩ := Int.eq_ofNat_of_zero_le hd.1
      have hp : p < n := by omega
      have v1 := hcV p hp
      obtain ⟨v, hvv⟩ : ∃ v, vs.getD p 0 = v := ⟨_, rfl⟩
      have hyv := HY.out p
      rw [hvv] at v1 hyv
      have hur := totalL_range HY.out (cs.take q).length (cs.take q) rfl
      rw [← hu.out, List.length_take, Nat.min_eq_left (by omega)] at hur
      have hsn : totalL (cs.take (q + 1)) vs = u + sgn ⟨(p : Int), bk⟩ * v := by rw [take_succK (by omega), hy, totalL_snoc, hu.out, Int.toNat_natCast, hvv]
      have HSN := Lib.hid hsn
      clear hsn hcB hcV hvv hy hu
      cases bk
      · go_wp2_with fail
        go_roundw
        case rel => exact ⟨trivial, q + 1, by omega, by go_num, _, rfl, Lib.hid (by rw [HSN.out]; simp [sgn])⟩
        case measure => simp [intOf]; omega
      · go_wp2_with fail
        go_roundw
        case rel => exact ⟨trivial, q + 1, by omega, by go_num, _, rfl, Lib.hid (by rw [HSN.out]; simp [sgn]; omega)⟩
        case measure => simp [intOf]; omega
    · obtain rfl : m = q := by omega
      have hu2 := hu.out
      rw [show cs.take m = cs from by rw [← hcl, List.take_length]] at hu2
      have HU := Lib.hid hu2
      clear hu2 hu
      go_wp2_with fail
      go_ret
      exact Ret.int HU.out (Ext.refl _)
end Go.Proofs.Ytdcedfciaaooiaa
