/- ends, Begin and Stop: where a link begins and ends. -/
import Derived.Test.YtdcedfciaaooiaaG24
set_option linter.unusedVariables false
namespace Go.Proofs.Ytdcedfciaaooiaa
open Go.RowKit

/-- A link of a chain. -/
structure Lk where
  dim : Int
  back : Bool
def beginS (xs : List Dim) (x : Lk) : ByteArray := if x.back then (xs.getD x.dim.toNat zeroD).to else (xs.getD x.dim.toNat zeroD).frm
def stopS (xs : List Dim) (x : Lk) : ByteArray := if x.back then (xs.getD x.dim.toNat zeroD).frm else (xs.getD x.dim.toNat zeroD).to

theorem ends_any (A : Option Addr) (n c : Nat) (xs : List Dim) (i : Int) (bk : Bool) (w : World) (hx : Dims w A n xs) (h0 : 0 ≤ i) (h1 : i < n) :
    Calls Try.prog 131 #[.slice A n c, .agg #[.int .i64 i, .bool bk]] w (Ret (.tuple #[.string (beginS xs ⟨i, bk⟩), .string (stopS xs ⟨i, bk⟩)]) w) := by
  obtain ⟨k, rfl⟩ := Int.eq_ofNat_of_zero_le h0
  have hk : k < n := by omega
  obtain ⟨b, o, hA, hc⟩ := hx.at_ (by omega)
  obtain ⟨d, hd⟩ : ∃ d, xs.getD k zeroD = d := ⟨_, rfl⟩
  have hmx := hx.max
  obtain ⟨c1, c2, c3, c4, c5⟩ := Dims.cells hc (Ext.refl w) k hk d hd
  have e1 := Lib.hid (show beginS xs ⟨k, bk⟩ = if bk then d.to else d.frm by simp only [beginS, Int.toNat_natCast]; rw [hd])
  have e2 := Lib.hid (show stopS xs ⟨k, bk⟩ = if bk then d.frm else d.to by simp only [stopS, Int.toNat_natCast]; rw [hd])
  have hbl : b < w.heap.size := World.block_lt_of_cell? w _ c1
  clear hc hd hx
  subst hA
  cases bk
  all_goals
    go_enter Try.func131, Try.ntmps131
    go_wp2_with fail
    go_quiet (fail)
    go_wp2_with fail
    go_ret2
    first
      | exact ⟨by rw [e1.out, e2.out]; rfl, by (repeat (first | (with_reducible assumption) | with_reducible exact Ext.refl _ | with_reducible apply Ext.alloc | with_reducible apply Ext.drew | with_reducible apply Ext.drewN | ((with_reducible apply Ext.set); case hp => (first | (simp; done) | (dsimp only; omega) | omega)) | ((with_reducible apply Ext.trans); case k => with_reducible assumption)))⟩

theorem begin_any (A : Option Addr) (n c : Nat) (xs : List Dim) (i : Int) (bk : Bool) (w : World) (hx : Dims w A n xs) (h0 : 0 ≤ i) (h1 : i < n) :
    Calls Try.prog 132 #[.slice A n c, .agg #[.int .i64 i, .bool bk]] w (Ret (.string (beginS xs ⟨i, bk⟩)) w) := by
  obtain ⟨k, rfl⟩ := Int.eq_ofNat_of_zero_le h0
  have hk : k < n := by omega
  obtain ⟨b, o, hA, hc⟩ := hx.at_ (by omega)
  obtain ⟨d, hd⟩ : ∃ d, xs.getD k zeroD = d := ⟨_, rfl⟩
  have hmx := hx.max
  obtain ⟨c1, c2, c3, c4, c5⟩ := Dims.cells hc (Ext.refl w) k hk d hd
  have e1 := Lib.hid (show beginS xs ⟨k, bk⟩ = if bk then d.to else d.frm by simp only [beginS, Int.toNat_natCast]; rw [hd])
  have hbl : b < w.heap.size := World.block_lt_of_cell? w _ c1
  clear hc hd hx
  subst hA
  cases bk
  all_goals
    go_enter Try.func132, Try.ntmps132
    go_wp2_with fail
    go_ret
    exact ⟨by rw [e1.out]; rfl, by (repeat (first | (with_reducible assumption) | with_reducible exact Ext.refl _ | with_reducible apply Ext.alloc | with_reducible apply Ext.drew | with_reducible apply Ext.drewN | ((with_reducible apply Ext.set); case hp => (first | (simp; done) | (dsimp only; omega) | omega)) | ((with_reducible apply Ext.trans); case k => with_reducible assumption)))⟩
theorem stop_any (A : Option Addr) (n c : Nat) (xs : List Dim) (i : Int) (bk : Bool) (w : World) (hx : Dims w A n xs) (h0 : 0 ≤ i) (h1 : i < n) :
    Calls Try.prog 133 #[.slice A n c, .agg #[.int .i64 i, .bool bk]] w (Ret (.string (stopS xs ⟨i, bk⟩)) w) := by
  have e1 := Lib.hid (show stopS xs ⟨i, bk⟩ = beginS xs ⟨i, !bk⟩ by cases bk <;> rfl)
  go_enter Try.func133, Try.ntmps133
  go_wp2_with fail; refine (begin_any A n c xs i (!bk) _ (hx.ext (by (repeat (first | (with_reducible assumption) | with_reducible exact Ext.refl _ | with_reducible apply Ext.alloc | with_reducible apply Ext.drew | with_reducible apply Ext.drewN | ((with_reducible apply Ext.set); case hp => (first | (simp; done) | (dsimp only; omega) | omega)) | ((with_reducible apply Ext.trans); case k => with_reducible assumption))))) h0 h1).mono ?_; rintro e w2 ⟨rfl, he⟩
  go_wp2_with fail
  go_ret
  exact ⟨by rw [e1.out]; rfl, by (repeat (first | (with_reducible assumption) | with_reducible exact Ext.refl _ | with_reducible apply Ext.alloc | with_reducible apply Ext.drew | with_reducible apply Ext.drewN | ((with_reducible apply Ext.set); case hp => (first | (simp; done) | (dsimp only; omega) | omega)) | ((with_reducible apply Ext.trans); case k => with_reducible assumption)))⟩
end Go.Proofs.Ytdcedfciaaooiaa
