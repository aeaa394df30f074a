/- How a task among the arguments is read. -/
import Derived.Test.YtdcedfciaaooiaaO3
import Derived.Test.YtdcedfciaaooiaaC24
set_option linter.unusedVariables false
namespace Go.Proofs.Ytdcedfciaaooiaa
open Go.ChangeShapes Go.WideShapes Go.ChangeAt Go.RowKit Go.Deep

instance : Inhabited Lk := ⟨zeroK⟩
theorem getD_rangeK (f : Nat → Lk) (n k : Nat) (hk : k < n) : ((List.range n).map f).getD k zeroK = f k := by
  simp [List.getD_eq_getElem?_getD, hk]
theorem bytesLnk : Try.prog.bytesOf 144 = 16 := by kernel_rfl
theorem cellsLnk : Try.prog.cellsOf 144 = 2 := by kernel_rfl
theorem cellsBool : Try.prog.cellsOf 4 = 1 := by kernel_rfl
theorem cellsTask : Try.prog.cellsOf 85 = 4 := by kernel_rfl
theorem cellsSlD : Try.prog.cellsOf 42 = 1 := by kernel_rfl
theorem cellsSlL : Try.prog.cellsOf 83 = 1 := by kernel_rfl
section
variable {H : Type} {enc : TypeId × Value → H} {P : Program} {w : World} {base : Nat} {sp : Nat → Bool} {held : Bool}
theorem trod_fields2 {t : TypeId} {fs : Array Field} {fuel : Nat} {cs : List Value} {x : DataW H × List MemPlace} (ht : P.underlying t = some (.struct fs)) (h : DataW.trod enc P w base sp held fuel t cs = some x) :
    cs.length = P.cellsOf t ∧ ∃ n xs, (fs.toList.mapM fun f => DataW.trod enc P w base sp held n f.type ((cs.drop f.offset).take (P.cellsOf f.type))) = some xs ∧ x.1 = .agg (xs.map (·.1)) := by
  cases fuel with
  | zero => simp [DataW.trod] at h
  | succ n =>
    unfold DataW.trod at h
    rw [ht] at h
    simp only at h
    split at h
    · rename_i hl
      rw [Option.map_eq_some_iff] at h
      obtain ⟨xs, hxs, rfl⟩ := h
      exact ⟨hl, n, xs, hxs, rfl⟩
    · cases h
theorem slice_form {t e : TypeId} {fuel : Nat} {v : Value} {x : DataW H × List MemPlace} (ht : P.underlying t = some (.slice e)) (h : DataW.trod enc P w base sp held fuel t [v] = some x) : ∃ A n c, v = .slice A n c := by
  rcases open_slice ht h with ⟨hcs, _⟩ | ⟨a, len, cap, m, k, D, Pl, hcs, _⟩
  · simp only [List.cons.injEq] at hcs
    exact ⟨_, _, _, hcs.1⟩
  · simp only [List.cons.injEq] at hcs
    exact ⟨_, _, _, hcs.1⟩
theorem mapM3 {α β : Type} {f : α → Option β} {a b c : α} {r : List β} (h : [a, b, c].mapM f = some r) : ∃ x y z, f a = some x ∧ f b = some y ∧ f c = some z ∧ r = [x, y, z] := by
  simp only [List.mapM_cons, List.mapM_nil, Option.bind_eq_bind, Option.bind_eq_some_iff] at h
  obtain ⟨x, hx, ys, ⟨y, hy, zs, ⟨z, hz, us, hu, h3⟩, h2⟩, h1⟩ := h
  simp only [Option.pure_def, Option.some.injEq] at hu h1 h2 h3
  subst hu h3 h2 h1
  exact ⟨x, y, z, hx, hy, hz, rfl⟩
end
section
variable {H : Type} {enc : TypeId × Value → H} {w w0 : World} {base b0 : Nat} {sp : Nat → Bool} {held : Bool} {r : Reach} {v : Value} {d : DataW H} {p : List MemPlace}
set_option maxRecDepth 100000 in
theorem link_cells {fuel : Nat} {x : DataW H × List MemPlace} {cs : List Value} (h : DataW.trod enc Try.prog w base sp held fuel 144 cs = some x) : ∃ D : Lk, cs = [.int .i64 D.dim, .bool D.back] := by
  obtain ⟨hl, n, hf⟩ := trod_fields Try.underlying144 h
  rw [cellsLnk] at hl
  match cs, hl with
  | [c0, c1], _ =>
    obtain ⟨y0, h0⟩ := hf _ (List.mem_cons_self ..)
    obtain ⟨y1, h1⟩ := hf _ (List.mem_cons_of_mem _ (List.mem_cons_self ..))
    simp [cellsInt, cellsBool] at h0 h1
    obtain ⟨k, rfl, wk⟩ := trod_i64 Try.underlying3 h0
    obtain ⟨b, hb, _⟩ := DataW.trod_bool Try.underlying4 h1
    simp at hb
    exact ⟨⟨k, b⟩, by rw [hb]⟩
set_option maxRecDepth 100000 in
theorem lnks_cells {fuel : Nat} {A : Option Addr} {n c : Nat} {x : DataW H × List MemPlace} (h : DataW.trod enc Try.prog w base sp held fuel 83 [.slice A n c] = some x)
    (hsz : ∀ elems spare, x.1 = .slice elems spare → (elems.length + spare.length) * 16 ≤ reachBytes) : ∃ xs, Lnks w A n xs ∧ n ≤ c ∧ n < 8796093022208 := by
  rcases open_slice Try.underlying83 h with ⟨hcs, _⟩ | ⟨a, len, cap, m, k, D, Pl, hcs, hb, hl, hm, hmm, hx, hel⟩
  · simp only [List.cons.injEq, Value.slice.injEq] at hcs
    obtain ⟨⟨rfl, rfl, rfl⟩, _⟩ := hcs
    exact ⟨[], ⟨rfl, by decide, .inl rfl⟩, Nat.le_refl _, by omega⟩
  · simp only [List.cons.injEq, Value.slice.injEq] at hcs
    obtain ⟨⟨rfl, rfl, rfl⟩, _⟩ := hcs
    have hs := hsz _ _ (by rw [hx])
    simp only [List.length_map, List.length_range] at hs
    have hr := reachBytes_lt
    have hlm : n ≤ m := by rw [hmm]; split <;> omega
    have hn : n < 8796093022208 := by
      have : n * 16 ≤ (n + (m - n)) * 16 := Nat.mul_le_mul_right _ (by omega)
      omega
    obtain ⟨f, hf⟩ := choose_lt (n := n) (p := fun i (D : Lk) => w.cells? base (a.add (i * 2)) 2 = some [.int .i64 D.dim, .bool D.back]) (fun i hi => by
      obtain ⟨cs', h1, h2⟩ := hel i (by omega)
      rw [cellsLnk] at h1
      obtain ⟨D, rfl⟩ := link_cells h2
      exact ⟨D, h1⟩)
    refine ⟨(List.range n).map f, ⟨by simp, by omega, ?_⟩, hl, hn⟩
    by_cases h0 : n = 0
    · exact .inl h0
    · right
      have hspot : a.spot = none := by
        obtain ⟨_, _, hc⟩ := World.cells?_some (hf 0 (by omega))
        have := hc 0 (by omega)
        simp only [Nat.zero_mul] at this
        have e : (a.add 0).add 0 = a := by simp [Addr.add]
        rw [e] at this
        exact World.cell?_spot (v := .int .i64 (f 0).dim) (by rw [this]; rfl)
      obtain ⟨b, o, s⟩ := a
      simp only at hspot
      subst hspot
      refine ⟨b, o, rfl, fun k hk => ?_⟩
      rw [getD_rangeK _ _ _ hk]
      obtain ⟨_, _, hc⟩ := World.cells?_some (hf k hk)
      have q0 := hc 0 (by omega)
      have q1 := hc 1 (by omega)
      simp only [Go.WideShapes.add_plain, Nat.add_zero] at q0 q1
      exact ⟨q0, q1⟩
set_option maxRecDepth 100000 in
theorem open_task {ts : List TypeId} {ds : List (DataW H)} {j : Nat} (hsz : (DataW.weightsEach Try.prog ts ds).all (· ≤ reachBytes) = true) (ht : ts[j]? = some 85) (hd : ds[j]? = some d)
    (hv : Value.okWide Try.prog w0 r b0 85 v) (h : DataW.Trod enc Try.prog w base sp held 85 v d p) : ∃ A B n m c c2 xs cs lo hi, v = .agg #[.slice A n c, .slice B m c2, .int .i64 lo, .int .i64 hi] ∧ Dims w A n xs ∧ Lnks w B m cs ∧ n ≤ c ∧ m ≤ c2 ∧ m < 8796093022208 := by
  obtain ⟨cs, rfl, hszz⟩ := okWide_struct Try.underlying85 hv
  obtain ⟨fuel, hf⟩ := h
  obtain ⟨hl, n, xs, hm, hx⟩ := trod_fields2 Try.underlying85 hf
  rw [cellsTask] at hl
  have hl : cs.toList.length = 4 := hl
  obtain ⟨y0, y1, y2, e0, e1, e2, rfl⟩ := mapM3 hm
  match hcs : cs.toList, hl with
  | [c0, c1, c2, c3], _ =>
    simp [cellsSlD, cellsSlL, cellsLim, Value.cells, hcs] at e0 e1 e2
    have hw : ∀ q ∈ (DataW.agg (H := H) [y0.1, y1.1, y2.1]).weights Try.prog 85, q ≤ reachBytes := fun q hq => by
      have hd2 : d = .agg [y0.1, y1.1, y2.1] := by simpa using hx
      have := List.all_eq_true.1 hsz _ (DataW.weights_mem_each ht hd q (by rw [hd2]; exact hq))
      simpa using this
    have hws : (DataW.weightsEach Try.prog [42, 83, 23] [y0.1, y1.1, y2.1]).all (· ≤ reachBytes) = true := by
      rw [List.all_eq_true]
      intro q hq
      exact decide_eq_true (hw q (by simp only [DataW.weights, Try.underlying85]; exact hq))
    obtain ⟨A, m0, cA, rfl⟩ := slice_form Try.underlying42 e0
    obtain ⟨B, m1, cB, rfl⟩ := slice_form Try.underlying83 e1
    obtain ⟨X, hX, hXc⟩ := dims_cells e0 (fun elems spare e => by
      have := sized_slice hws (j := 0) rfl (by exact congrArg some e) Try.underlying42
      rwa [bytesDim] at this)
    obtain ⟨K, hK, hKc, hK9⟩ := lnks_cells e1 (fun elems spare e => by
      have := sized_slice hws (j := 1) rfl (by exact congrArg some e) Try.underlying83
      rwa [bytesLnk] at this)
    obtain ⟨lo, hi, hab, -, -⟩ := lim_cells e2
    simp at hab
    obtain ⟨rfl, rfl⟩ := hab
    exact ⟨A, B, m0, m1, cA, cB, X, K, lo, hi, by rw [show cs = cs.toList.toArray from rfl, hcs], hX, hK, hXc, hKc, hK9⟩
end
end Go.Proofs.Ytdcedfciaaooiaa
