/- How a list of dimensions among the arguments is read. -/
import Derived.Test.YtdcedfciaaooiaaO1
import Derived.Test.YtdcedfciaaooiaaD0
import Derived.Deep.Slices
import Derived.SizedLaws
set_option linter.unusedVariables false
namespace Go.Proofs.Ytdcedfciaaooiaa
open Go.ChangeShapes Go.WideShapes Go.ChangeAt Go.RowKit Go.Deep

instance : Inhabited Dim := ⟨zeroD⟩
theorem getD_range (f : Nat → Dim) (n k : Nat) (hk : k < n) : ((List.range n).map f).getD k zeroD = f k := by
  simp [List.getD_eq_getElem?_getD, hk]
theorem bytesDim : Try.prog.bytesOf 40 = 56 := by kernel_rfl

section
variable {H : Type} {enc : TypeId × Value → H} {w w0 : World} {base b0 : Nat} {sp : Nat → Bool} {held : Bool} {r : Reach} {v : Value} {d : DataW H} {p : List MemPlace}
set_option maxRecDepth 100000 in
theorem dims_cells {fuel : Nat} {A : Option Addr} {n c : Nat} {x : DataW H × List MemPlace} (h : DataW.trod enc Try.prog w base sp held fuel 42 [.slice A n c] = some x)
    (hsz : ∀ elems spare, x.1 = .slice elems spare → (elems.length + spare.length) * 56 ≤ reachBytes) : ∃ xs, Dims w A n xs ∧ n ≤ c := by
  rcases open_slice Try.underlying42 h with ⟨hcs, _⟩ | ⟨a, len, cap, m, k, D, Pl, hcs, hb, hl, hm, hmm, hx, hel⟩
  · simp only [List.cons.injEq, Value.slice.injEq] at hcs
    obtain ⟨⟨rfl, rfl, rfl⟩, _⟩ := hcs
    exact ⟨[], ⟨rfl, by decide, fun k hk => absurd hk (Nat.not_lt_zero _), .inl rfl⟩, Nat.le_refl _⟩
  · simp only [List.cons.injEq, Value.slice.injEq] at hcs
    obtain ⟨⟨rfl, rfl, rfl⟩, _⟩ := hcs
    have hs := hsz _ _ (by rw [hx])
    simp only [List.length_map, List.length_range] at hs
    have hr := reachBytes_lt
    have hlm : n ≤ m := by rw [hmm]; split <;> omega
    have hn : n ≤ 35184372088832 := by
      have : n * 56 ≤ (n + (m - n)) * 56 := Nat.mul_le_mul_right _ (by omega)
      omega
    obtain ⟨f, hf⟩ := choose_lt (n := n) (p := fun i (D : Dim) => D.fits ∧ w.cells? base (a.add (i * 5)) 5 = some [.string D.frm, .string D.to, .int .i64 D.axis, .int .i64 D.lo, .int .i64 D.hi]) (fun i hi => by
      obtain ⟨cs', h1, h2⟩ := hel i (by omega)
      rw [cellsDim] at h1
      obtain ⟨D, rfl, hD⟩ := dim_cells h2
      exact ⟨D, hD, h1⟩)
    refine ⟨(List.range n).map f, ⟨by simp, hn, fun k hk => by rw [getD_range _ _ _ hk]; exact (hf k hk).1, ?_⟩, hl⟩
    by_cases h0 : n = 0
    · exact .inl h0
    · right
      have hspot : a.spot = none := by
        obtain ⟨_, _, hc⟩ := World.cells?_some (hf 0 (by omega)).2
        have := hc 0 (by omega)
        simp only [Nat.zero_mul] at this
        have e : (a.add 0).add 0 = a := by simp [Addr.add]
        rw [e] at this
        exact World.cell?_spot (v := .string (f 0).frm) (by rw [this]; rfl)
      obtain ⟨b, o, s⟩ := a
      simp only at hspot
      subst hspot
      refine ⟨b, o, rfl, fun k hk => ?_⟩
      rw [getD_range _ _ _ hk]
      obtain ⟨_, _, hc⟩ := World.cells?_some (hf k hk).2
      have q0 := hc 0 (by omega)
      have q1 := hc 1 (by omega)
      have q2 := hc 2 (by omega)
      have q3 := hc 3 (by omega)
      have q4 := hc 4 (by omega)
      simp only [Go.WideShapes.add_plain, Nat.add_zero] at q0 q1 q2 q3 q4
      exact ⟨q0, q1, q2, q3, q4⟩
set_option maxRecDepth 100000 in
theorem open_dims {ts : List TypeId} {ds : List (DataW H)} {j : Nat} (hsz : (DataW.weightsEach Try.prog ts ds).all (· ≤ reachBytes) = true) (ht : ts[j]? = some 42) (hd : ds[j]? = some d)
    (hv : Value.okWide Try.prog w0 r b0 42 v) (h : DataW.Trod enc Try.prog w base sp held 42 v d p) : ∃ A n c xs, v = .slice A n c ∧ Dims w A n xs ∧ n ≤ c := by
  obtain ⟨A, n, c, rfl⟩ := okWide_slice Try.underlying42 hv
  obtain ⟨fuel, hf⟩ := h
  obtain ⟨xs, hx⟩ := dims_cells (x := (d, p)) hf (fun elems spare e => by
    have := sized_slice hsz ht (by rw [hd]; exact congrArg some e) Try.underlying42
    rwa [bytesDim] at this)
  exact ⟨A, n, c, xs, rfl, hx⟩
end
end Go.Proofs.Ytdcedfciaaooiaa
