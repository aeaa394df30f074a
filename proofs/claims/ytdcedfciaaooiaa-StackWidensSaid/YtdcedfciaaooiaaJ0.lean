/- Ranges over functions: small words; the iterator slices.Values over dimensions; what joining a list gives. -/
import Derived.Test.YtdcedfciaaooiaaD0
import Derived.RangeFuncNested
import Derived.RangeFuncBound
import Derived.RangeFuncCalls
import Derived.RangeFuncLeaves
import Derived.Shelf.Abstract
import Derived.Shelf.RegionOpen
import Derived.OwnWalkIn
import Derived.TacticsInMore
import Derived.LoopNIn
import Derived.LoopIn
set_option linter.unusedVariables false
namespace Go.Proofs.Ytdcedfciaaooiaa
open Go.RowKit Go.Shelf
attribute [local go_sem] Oper.semAt_some

/-- What a round keeps: all below B, and what is no cells. -/
def KB (B : Nat) (a w : World) : Prop := B ≤ a.heap.size ∧ KeepsFrom B a w ∧ Below B a w
section
variable {B : Nat} {a w W' : World}
theorem KB.refl (h : B ≤ a.heap.size) : KB B a a := ⟨h, KeepsFrom.refl _ _, Below.refl _ _⟩
theorem KB.alloc (h : KB B a w) (o : Obj) : KB B a (w.alloc o) := ⟨h.1, h.2.1.trans ((KeepsOthers.alloc _ _).from _), h.2.2.alloc (Nat.le_trans h.1 h.2.2.size) o⟩
theorem KB.set (h : KB B a w) {p : Addr} (hp : B ≤ p.block) (u : Value) : KB B a (w.setCell p u) := ⟨h.1, h.2.1.trans ((KeepsOthers.setCell _ _ _).from _), h.2.2.setCell hp u⟩
theorem KB.drew (h : KB B a w) : KB B a w.drew := ⟨h.1, h.2.1.trans ((KeepsOthers.drew _).from _), h.2.2.drew⟩
theorem KB.ext (h : KB B a w) (he : Ext w W') : KB B a W' :=
  ⟨h.1, h.2.1.trans (KeepsFrom.of_grownBy (he.grownBy none) (fun j e => by cases e)), h.2.2.trans (Below.mono he (Nat.le_trans h.1 h.2.2.size))⟩
theorem KB.keeps (h : KB B a w) {B' : Nat} (hB : B ≤ B') : KeepsFrom B' a w := ⟨h.2.1.size, fun k o hk => h.2.1.same k o (Nat.le_trans hB hk)⟩
theorem KB.below (h : KB B a w) : Below B a w := h.2.2
theorem blk_own {β : Type} (g : Nat) (t : TypeId) (f : β → Array Value) : Own (fun s W => Blk W g (f s) t) := fun s X Y row hs hg hrow =>
  Blk.grown hs hg (fun e' => by obtain ⟨o, ho, hc⟩ := hrow g e'.symm; rw [show X.heap[g]? = _ from hs] at ho; cases ho; cases hc)
theorem Blk.putObj {g : Nat} {cs : Array Value} {t : TypeId} (h : Blk w g cs t) {l : Nat} {o : Obj} (o' : Obj) (hl : w.heap[l]? = some o) (ho : o.isCells = false) : Blk (w.putObj l o') g cs t :=
  h.grown (grownBy_putObj' w l o') (fun e => by cases e; rw [show w.heap[g]? = _ from h] at hl; cases hl; cases ho)
end

theorem run_loadVar_one {P : Program} (w : World) (g : Nat) (t ty : TypeId) (v : Value) (k : IntKind) (hg : Blk w g #[v] t) (hu : P.underlying ty = some (.int k)) : (loadVar ty ⟨g, 0, none⟩).run P w = .ok v w := by
  have hc := hg.cell 0
  simp at hc
  have hagg : (isAgg ty).run P w = .ok false w := by
    unfold isAgg
    rw [Sem.run_bind, run_underlying hu w]
    rfl
  simp [loadVar, Sem.run_bind, hagg, hc]
theorem results_cc {P : Program} {fn : Func} {tmps : Array Value} {w : World} {p1 p2 : Tmp} {y1 y2 : TypeId} {a1 a2 : Addr} {v1 v2 : Value} (hr : fn.results = #[.cell p1 y1, .cell p2 y2])
    (e1 : tmps.getD p1 undef = .pointer (some a1)) (e2 : tmps.getD p2 undef = .pointer (some a2)) (h1 : (loadVar y1 a1).run P w = .ok v1 w) (h2 : (loadVar y2 a2).run P w = .ok v2 w) : (results fn tmps).run P w = .ok (.tuple #[v1, v2]) w := by
  unfold results
  rw [show fn.results = [.cell p1 y1, .cell p2 y2].toArray from hr, List.mapM_toArray]
  simp only [Sem.run_bind, Sem.run_map, List.mapM_cons, List.mapM_nil]
  simp [e1, e2, asAddr, h1, h2]
/-- The end of a walk with a range over a function in it: a struct and a number, both in cells. -/
theorem endM_cc {F : Fence} {n : Nat} {P : Program} {fn : Func} {R : Ending → World → Prop} {a : Act} {w : World} {p1 p2 : Tmp} {y1 y2 t1 t2 : TypeId} {D g1 g2 : Nat} {cs : Array Value} {v : Value} {k : IntKind} {d : TypeDesc} (hr : fn.results = #[.cell p1 y1, .cell p2 y2])
    (hd : a.defers = [{ target := .collected D, args := #[] }]) (hK : w.heap[D]? = some (.deferred (some []))) (e1 : a.tmps.getD p1 undef = .pointer (some ⟨g1, 0, none⟩)) (e2 : a.tmps.getD p2 undef = .pointer (some ⟨g2, 0, none⟩)) (h1 : Blk w g1 cs t1) (h2 : Blk w g2 #[v] t2)
    (hu : P.underlying y1 = some d) (hs : (match d with | .struct _ | .array _ _ => true | _ => false) = true) (hi : (P.info? y1).map (·.size) = some cs.size) (hu2 : P.underlying y2 = some (.int k))
    (h : R (.returned (.tuple #[.agg cs, v])) (w.putObj D (.deferred none))) : bodyPostM F n P fn R .ret a w := by
  show LeavesInM F n P fn a.tmps R a.defers .returning w
  rw [hd]
  refine ⟨by simp, .inl ⟨_, _, rfl, run_takeDeferred hK, ?_⟩⟩
  exact ⟨_, results_cc hr e1 e2 (run_loadVar_row _ g1 t1 y1 cs (0, 0) d (h1.putObj _ hK rfl) hu hs hi) (run_loadVar_one _ g2 t2 y2 v k (h2.putObj _ hK rfl) hu2), h⟩

def upto {α : Type} (f : Nat → α) (k : Nat) : List α := (List.range k).map f
theorem upto_succ {α : Type} (f : Nat → α) (k : Nat) : upto f (k + 1) = upto f k ++ [f k] := by simp [upto, List.range_succ]
theorem upto_length {α : Type} (f : Nat → α) (k : Nat) : (upto f k).length = k := by simp [upto]

/-- A dimension whose names fit. -/
abbrev FD := { d : Dim // d.fits }
def zeroF : FD := ⟨zeroD, by decide, by decide⟩
open Classical in
noncomputable def nth (xs : List Dim) (k : Nat) : FD := if h : (xs.getD k zeroD).fits then ⟨xs.getD k zeroD, h⟩ else zeroF
theorem nth_val {xs : List Dim} {k : Nat} (h : (xs.getD k zeroD).fits) : (nth xs k).1 = xs.getD k zeroD := by unfold nth; rw [dif_pos h]
theorem upto_val {xs : List Dim} {n : Nat} (hn : xs.length = n) (hf : ∀ k, k < n → (xs.getD k zeroD).fits) : ∀ k, k ≤ n → (upto (nth xs) k).map (·.1) = xs.take k := by
  intro k
  induction k with
  | zero => intro _; rfl
  | succ k ih =>
    intro hk
    rw [upto_succ, List.map_append, ih (by omega), List.take_add_one, List.map_cons, List.map_nil, nth_val (hf k (by omega))]
    have hlt : k < xs.length := by omega
    rw [List.getD_eq_getElem?_getD, List.getElem?_eq_getElem hlt]
    rfl

/-- One step of joining; joining a list. -/
def stepL (s : Bool × Dim × Int) (x : Dim) : Bool × Dim × Int :=
  if s.2.2 ≠ 0 then s else if s.1 then (true, joinD s.2.1 x, joinE s.2.1 x) else (true, x, 0)
def stL (ys : List Dim) : Bool × Dim × Int := ys.foldl stepL (false, zeroD, 0)
theorem stL_snoc (ys : List Dim) (x : Dim) : stL (ys ++ [x]) = stepL (stL ys) x := by simp [stL]
theorem stL_app (ys zs : List Dim) (h : (stL ys).2.2 ≠ 0) : stL (ys ++ zs) = stL ys := by
  induction zs generalizing ys with
  | nil => simp
  | cons z zs ih =>
    have h1 : stL (ys ++ [z]) = stL ys := by rw [stL_snoc, stepL, if_pos h]
    rw [show ys ++ z :: zs = (ys ++ [z]) ++ zs from by simp, ih _ (by rw [h1]; exact h), h1]
theorem joinD_fits {a b : Dim} (ha : a.fits) (hb : b.fits) : (joinD a b).fits := by
  unfold joinD
  split
  · exact ⟨ha.1, hb.2⟩
  · exact zeroF.2
theorem stL_fits (ys : List Dim) (h : ∀ y ∈ ys, y.fits) : (stL ys).2.1.fits := by
  suffices ∀ (s : Bool × Dim × Int), s.2.1.fits → (ys.foldl stepL s).2.1.fits from this _ zeroF.2
  induction ys with
  | nil => intro s hs; exact hs
  | cons y ys ih =>
    intro s hs
    rw [List.foldl_cons]
    refine ih (fun z hz => h z (List.mem_cons_of_mem _ hz)) _ ?_
    have hy := h y (List.mem_cons_self ..)
    unfold stepL
    split
    · exact hs
    · split
      · exact joinD_fits hs hy
      · exact hy

set_option maxRecDepth 100000 in
set_option maxHeartbeats 2000000 in
theorem valuesD1_in (F : Fence) (n : Nat) (h7 : F.fn 110) (hro : F.round = none) (hn : 1 ≤ n) (l Bs n₀ b off len cap : Nat) (f : Nat → FD) (hlen : len ≤ 35184372088832) (hb : b < n₀) (J Jx : List FD → World → Prop) (hJab : ∀ s A B, J s A → Ext A B → J s B)
    (hY : ∀ pre x W, J pre W → pre.length < len → YieldAt F (n - 1) Try.prog l #[.agg #[.string x.1.frm, .string x.1.to, .int .i64 x.1.axis, .int .i64 x.1.lo, .int .i64 x.1.hi]] W fun e W' =>
      (e = .returned (.bool true) ∧ J (pre ++ [x]) W' ∧ Below n₀ W W') ∨ (e = .returned (.bool false) ∧ Jx (pre ++ [x]) W'))
    (W : World) (hn₀ : n₀ ≤ W.heap.size) (hBs : W.cell? ⟨Bs, 0, none⟩ = some (.slice (some ⟨b, off, none⟩) len cap)) (hc : ∀ j, j < len → DCells W b (off + j * 5) (f j).1) (h0 : J [] W) :
    CallsIn F n Try.prog 110 #[.func (.yield l) #[] #[], .pointer (some ⟨Bs, 0, none⟩)] W fun e W' => (∃ v, e = .returned v) ∧
      ((∃ ys, ys = upto f len ∧ J ys W') ∨ (∃ pre, (∃ k, k ≤ len ∧ pre = upto f k) ∧ Jx pre W')) := by
  have HC := Lib.hid hc
  clear hc
  refine callsIn_of_wp Try.func110 rfl h7 ?_ hro
  simp only [Try.ntmps110, List.size_toArray, List.length_cons, List.length_nil, Nat.reduceAdd, Nat.reduceSub, Array.replicate_succ, Array.replicate_zero, List.push_toArray, List.append_toArray, List.nil_append, List.cons_append]
  gi_wp2
  gi_loopw [7] (fun i wr => ∃ k : Nat, k ≤ len ∧ i = .int .i64 k ∧ J (upto f k) wr ∧ Below n₀ W wr)
    (fun i _ => len - (intOf i).toNat)
  case atStart => exact ⟨0, Nat.zero_le _, rfl, h0, Below.refl _ _⟩
  case round =>
    obtain ⟨k, hk, rfl, hJs, hnx⟩ := hrel
    by_cases hlt : k < len
    · obtain ⟨x, hx⟩ : ∃ x, f k = x := ⟨_, rfl⟩
      obtain ⟨d1, d2, d3, d4, d5⟩ := HC.out k hlt
      rw [hx] at d1 d2 d3 d4 d5
      have c1 := (hnx.cell (p := ⟨b, off + k * 5, none⟩) hb).trans d1
      have c2 := (hnx.cell (p := ⟨b, off + k * 5 + 1, none⟩) hb).trans d2
      have c3 := (hnx.cell (p := ⟨b, off + k * 5 + 2, none⟩) hb).trans d3
      have c4 := (hnx.cell (p := ⟨b, off + k * 5 + 3, none⟩) hb).trans d4
      have c5 := (hnx.cell (p := ⟨b, off + k * 5 + 4, none⟩) hb).trans d5
      have HX := Lib.hid hx
      clear d1 d2 d3 d4 d5 hx
      have hlen2 : (upto f k).length < len := by rw [upto_length]; exact hlt
      obtain ⟨fn, tmps, assign, body, hy, hR⟩ := hY _ x (wr.alloc (.cells #[.string x.1.frm, .string x.1.to, .int .i64 x.1.axis, .int .i64 x.1.lo, .int .i64 x.1.hi] 40)) (hJab _ _ _ hJs ((Ext.refl _).alloc _)) hlen2
      gi_wp2
      refine hR.mono ?_
      rintro e W3 (⟨rfl, hJ3, hk3⟩ | ⟨rfl, hJx3⟩)
      · gi_wp2
        go_roundw
        case rel => exact ⟨k + 1, by omega, by simp, by rw [upto_succ, HX.out]; exact hJ3, (hnx.alloc (Nat.le_trans hn₀ hnx.size) _).trans hk3⟩
        case measure => simp [intOf]; omega
      · gi_wp2
        refine bodyPost_ret (results_none rfl _ _ _) rfl ?_
        exact ⟨⟨_, rfl⟩, .inr ⟨_, ⟨k + 1, by omega, by rw [upto_succ, HX.out]⟩, hJx3⟩⟩
    · obtain rfl : k = len := by omega
      gi_wp2
      go_end0
      exact ⟨⟨_, rfl⟩, .inl ⟨_, rfl, hJs⟩⟩

set_option maxRecDepth 100000 in
set_option maxHeartbeats 1000000 in
theorem valuesD1_nil_in (F : Fence) (n : Nat) (h7 : F.fn 110) (hro : F.round = none) (l Bs cap : Nat) (A : Option Addr) (J : List FD → World → Prop) (W : World) (hBs : W.cell? ⟨Bs, 0, none⟩ = some (.slice A 0 cap)) (h0 : J [] W) :
    CallsIn F n Try.prog 110 #[.func (.yield l) #[] #[], .pointer (some ⟨Bs, 0, none⟩)] W fun e W' => (∃ v, e = .returned v) ∧ J [] W' := by
  refine callsIn_of_wp Try.func110 rfl h7 ?_ hro
  simp only [Try.ntmps110, List.size_toArray, List.length_cons, List.length_nil, Nat.reduceAdd, Nat.reduceSub, Array.replicate_succ, Array.replicate_zero, List.push_toArray, List.append_toArray, List.nil_append, List.cons_append]
  gi_wp2
  gi_loopw [7] (fun i wr => i = .int .i64 0 ∧ J [] wr) (fun _ _ => 0)
  case atStart => exact ⟨rfl, h0⟩
  case round =>
    obtain ⟨rfl, hJs⟩ := hrel
    gi_wp2
    go_end0
    exact ⟨⟨_, rfl⟩, hJs⟩

theorem valuesD_stops (F : Fence) (n : Nat) (h7 : F.fn 110) (hro : F.round = none) (hn : 1 ≤ n) (Bs n₀ m cap : Nat) (A : Option Addr) (xs : List Dim) (w : World) (hBs : Bs < w.heap.size) (hn₀ : n₀ ≤ w.heap.size)
    (hc : w.cell? ⟨Bs, 0, none⟩ = some (.slice A m cap)) (hA : m ≠ 0 → ∀ b o, A = some ⟨b, o, none⟩ → b < n₀) (hI : Dims w A m xs) :
    SeqStopsK F n Try.prog 110 #[.pointer (some ⟨Bs, 0, none⟩)] (fun x : FD => #[.agg #[.string x.1.frm, .string x.1.to, .int .i64 x.1.axis, .int .i64 x.1.lo, .int .i64 x.1.hi]]) (Below n₀) (fun ys => ys = upto (nth xs) m)
      (fun pre => ∃ k, k ≤ m ∧ pre = upto (nth xs) k) m w := fun l J Jx W hW hJ _ hY h0 => by
  have hc' := (hW.cell (p := ⟨Bs, 0, none⟩) hBs).trans hc
  have hI' : Dims W A m xs := hI.ext hW
  by_cases hm : m = 0
  · subst hm
    exact (valuesD1_nil_in F n h7 hro l Bs cap A J W hc' h0).mono fun e W' ⟨he, hj⟩ => ⟨he, .inl ⟨_, rfl, hj⟩⟩
  · obtain ⟨b, o, rfl, hcs⟩ := hI'.at_ (by omega)
    exact valuesD1_in F n h7 hro hn l Bs n₀ b o m cap (nth xs) hI.max (hA hm b o rfl) J Jx (fun s A B hs he => hJ s A B none hs (he.grownBy none) (fun r e => by cases e)) hY W (Nat.le_trans hn₀ hW.size) hc'
      (fun j hj => by rw [nth_val (hI.fit j hj)]; exact hcs j hj) h0
end Go.Proofs.Ytdcedfciaaooiaa
