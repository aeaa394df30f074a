/- Small words on worlds and blocks, used by the walks of this seat. No program in sight. -/
import Derived.WalkKit
import Derived.KernelRfl
import Derived.BigQuiet
import Derived.WalkLawsBesides
import Derived.Lib.Hide
import Derived.Laws.Rows
import Derived.Deep.RegionHeld3
import Derived.Deep.DeepCutAuto
import Derived.Deep.CutBlock
import Derived.Deep.LoopGhost
import Derived.Deep.QuietTactic
set_option linter.unusedVariables false
namespace Go.Proofs.Ytdcedfciaaooiaa
open Go.RowKit

/-- The old blocks are as they were. -/
def Ext (w w' : World) : Prop := Below w.heap.size w w'
theorem Ext.refl (w : World) : Ext w w := Below.refl _ _
theorem Ext.size {w w' : World} (h : Ext w w') : w.heap.size ≤ w'.heap.size := Below.size h
theorem Ext.trans {a b c : World} (h : Ext a b) (k : Ext b c) : Ext a c := Below.trans h (Below.mono k h.size)
theorem Ext.alloc {w W : World} (h : Ext w W) (o : Obj) : Ext w (W.alloc o) := Below.alloc h h.size o
theorem Ext.drew {w W : World} (h : Ext w W) : Ext w W.drew := Below.drew h
theorem Ext.drewN {w W : World} (h : Ext w W) (n : Nat) : Ext w (W.drewN n) := below_drewN h n
theorem Ext.set {w W : World} (h : Ext w W) {p : Addr} (hp : w.heap.size ≤ p.block) (u : Value) : Ext w (W.setCell p u) := Below.setCell h hp u
theorem Ext.cell {w w' : World} (h : Ext w w') {p : Addr} {v : Value} (hc : w.cell? p = some v) : w'.cell? p = some v := (Below.cell h (World.block_lt_of_cell? w p hc)).trans hc
theorem Ext.heap {w w' : World} (h : Ext w w') {k : Nat} (hk : k < w.heap.size) : w'.heap[k]? = w.heap[k]? := Below.block h k hk
theorem Ext.grown {a w w' : World} {row : Option Nat} (h : Ext a w) (hg : w.grownBy w' row) (hr : ∀ k, row = some k → a.heap.size ≤ k) : Ext a w' := Below.grown h hg h.size hr
theorem Ext.grownBy {w w' : World} (h : Ext w w') (row : Option Nat) : w.grownBy w' row := ⟨h.os, h.tape, h.output, Below.size h, fun i hi _ => Below.block h i hi⟩

/-- A block of cells, none of them frozen. -/
def Blk (w : World) (g : Nat) (cs : Array Value) (t : TypeId) : Prop := w.heap[g]? = some (.cells cs t (0, 0))
theorem Blk.lt {w : World} {g : Nat} {cs : Array Value} {t : TypeId} (h : Blk w g cs t) : g < w.heap.size := (Array.getElem?_eq_some_iff.1 h).1
theorem Blk.new (w : World) (cs : Array Value) (t : TypeId) : Blk (w.alloc (.cells cs t)) w.heap.size cs t := heap_alloc_new w _
theorem Blk.new_at (w : World) (cs : Array Value) (t : TypeId) (g : Nat) (h : w.heap.size = g) : Blk (w.alloc (.cells cs t)) g cs t := h ▸ Blk.new w cs t
theorem Blk.alloc {w : World} {g : Nat} {cs : Array Value} {t : TypeId} (h : Blk w g cs t) (o : Obj) : Blk (w.alloc o) g cs t := (Below.heap_alloc w o g h.lt).trans h
theorem Blk.drew {w : World} {g : Nat} {cs : Array Value} {t : TypeId} (h : Blk w g cs t) : Blk w.drew g cs t := h
theorem Blk.drewN {w : World} {g : Nat} {cs : Array Value} {t : TypeId} (h : Blk w g cs t) (n : Nat) : Blk (w.drewN n) g cs t := h
theorem Blk.ext {w w' : World} {g : Nat} {cs : Array Value} {t : TypeId} (h : Blk w g cs t) (he : Ext w w') : Blk w' g cs t := (he.heap h.lt).trans h
theorem Blk.set {w : World} {g : Nat} {cs : Array Value} {t : TypeId} (h : Blk w g cs t) (i : Nat) (u : Value) : Blk (w.setCell ⟨g, i, none⟩ u) g (cs.setIfInBounds i u) t := by
  simp only [Blk] at h
  simp [Blk, World.setCell, Array.getElem?_modify, h]
theorem Blk.far {w : World} {g : Nat} {cs : Array Value} {t : TypeId} (h : Blk w g cs t) {p : Addr} (hp : g ≠ p.block) (u : Value) : Blk (w.setCell p u) g cs t := (Below.heap_setCell w p u g hp).trans h
theorem Blk.grown {w w' : World} {g : Nat} {cs : Array Value} {t : TypeId} {row : Option Nat} (h : Blk w g cs t) (hg : w.grownBy w' row) (hne : some g ≠ row) : Blk w' g cs t := (hg.block g h.lt hne).trans h
theorem Blk.cell {w : World} {g : Nat} {cs : Array Value} {t : TypeId} (h : Blk w g cs t) (i : Nat) : w.cell? ⟨g, i, none⟩ = cs[i]? := by
  simp only [Blk] at h
  simp [World.cell?, h]
theorem Blk.frozen {w : World} {g : Nat} {cs : Array Value} {t : TypeId} (h : Blk w g cs t) (i : Nat) : w.frozen? ⟨g, i, none⟩ = false := by
  simp only [Blk] at h
  simp [World.frozen?, h]
theorem Blk.c1 {w : World} {g : Nat} {a : Value} {t : TypeId} (h : Blk w g #[a] t) : w.cell? ⟨g, 0, none⟩ = some a ∧ w.frozen? ⟨g, 0, none⟩ = false := ⟨h.cell 0, h.frozen 0⟩
theorem Blk.c2 {w : World} {g : Nat} {a b : Value} {t : TypeId} (h : Blk w g #[a, b] t) : w.cell? ⟨g, 0, none⟩ = some a ∧ w.cell? ⟨g, 1, none⟩ = some b ∧ w.frozen? ⟨g, 0, none⟩ = false ∧ w.frozen? ⟨g, 1, none⟩ = false := ⟨h.cell 0, h.cell 1, h.frozen 0, h.frozen 1⟩
theorem Blk.c5 {w : World} {g : Nat} {a b c d e : Value} {t : TypeId} (h : Blk w g #[a, b, c, d, e] t) : (w.cell? ⟨g, 0, none⟩ = some a ∧ w.cell? ⟨g, 1, none⟩ = some b ∧ w.cell? ⟨g, 2, none⟩ = some c ∧ w.cell? ⟨g, 3, none⟩ = some d ∧ w.cell? ⟨g, 4, none⟩ = some e) ∧ w.frozen? ⟨g, 0, none⟩ = false ∧ w.frozen? ⟨g, 1, none⟩ = false ∧ w.frozen? ⟨g, 2, none⟩ = false ∧ w.frozen? ⟨g, 3, none⟩ = false ∧ w.frozen? ⟨g, 4, none⟩ = false :=
  ⟨⟨h.cell 0, h.cell 1, h.cell 2, h.cell 3, h.cell 4⟩, h.frozen 0, h.frozen 1, h.frozen 2, h.frozen 3, h.frozen 4⟩
theorem Blk.is {w : World} {g : Nat} {cs cs' : Array Value} {t : TypeId} (h : Blk w g cs t) (e : cs = cs') : Blk w g cs' t := e ▸ h
theorem Blk.r1 {w : World} {g : Nat} {a : Value} {t : TypeId} (h : Blk w g #[a] t) : w.cell? ⟨g, 0, none⟩ = some a := h.cell 0
theorem Blk.r2 {w : World} {g : Nat} {a b : Value} {t : TypeId} (h : Blk w g #[a, b] t) : w.cell? ⟨g, 0, none⟩ = some a ∧ w.cell? ⟨g, 1, none⟩ = some b := ⟨h.cell 0, h.cell 1⟩
theorem Blk.r5 {w : World} {g : Nat} {a b c d e : Value} {t : TypeId} (h : Blk w g #[a, b, c, d, e] t) : w.cell? ⟨g, 0, none⟩ = some a ∧ w.cell? ⟨g, 1, none⟩ = some b ∧ w.cell? ⟨g, 2, none⟩ = some c ∧ w.cell? ⟨g, 3, none⟩ = some d ∧ w.cell? ⟨g, 4, none⟩ = some e :=
  ⟨h.cell 0, h.cell 1, h.cell 2, h.cell 3, h.cell 4⟩
theorem Blk.ne {w : World} {g g' : Nat} {t t' : TypeId} {cs cs' : Array Value} (h : Blk w g cs t) (h' : Blk w g' cs' t') (hne : t ≠ t') : g ≠ g' := by
  rintro rfl
  simp only [Blk] at h h'
  rw [h] at h'
  injection h' with h'
  injection h' with _ ht
  exact hne ht

/-- It returns v, and only makes memory. -/
def Ret (v : Value) (w : World) (e : Ending) (w' : World) : Prop := e = .returned v ∧ Ext w w'
theorem Ret.mk' {v v' : Value} {w w' : World} (hv : v' = v) (h : Ext w w') : Ret v w (.returned v') w' := ⟨by rw [hv], h⟩

theorem Ret.int {k : IntKind} {a b : Int} {w w' : World} (h : a = b) (he : Ext w w') : Ret (.int k b) w (.returned (.int k a)) w' := ⟨by rw [h], he⟩
theorem Ret.bool {a b : Bool} {w w' : World} (h : a = b) (he : Ext w w') : Ret (.bool b) w (.returned (.bool a)) w' := ⟨by rw [h], he⟩
theorem retb {a b : Bool} (h : a = b) : Ending.returned (.bool a) = .returned (.bool b) := by rw [h]
theorem reti {k : IntKind} {a b : Int} (h : a = b) : Ending.returned (.int k a) = .returned (.int k b) := by rw [h]
/-- Results of any shape: a slot, or a struct or array in a block. -/
inductive Outs (P : Program) (tmps : Array Value) (w : World) : List ResultVar → List Value → Prop where
  | nil : Outs P tmps w [] []
  | tmp {u : Tmp} {rs : List ResultVar} {vs : List Value} (h : Outs P tmps w rs vs) : Outs P tmps w (.tmp u :: rs) (tmps.getD u undef :: vs)
  | cell {p : Tmp} {ty : TypeId} {rs : List ResultVar} {vs : List Value} (g : Nat) (t : TypeId) (cs : Array Value) (d : TypeDesc)
      (hp : tmps.getD p undef = .pointer (some ⟨g, 0, none⟩)) (hg : Blk w g cs t)
      (hu : P.underlying ty = some d) (hd : (match d with | .struct _ | .array _ _ => true | _ => false) = true) (hi : (P.info? ty).map (·.size) = some cs.size)
      (h : Outs P tmps w rs vs) : Outs P tmps w (.cell p ty :: rs) (.agg cs :: vs)
theorem outs_run {P : Program} {tmps : Array Value} {w : World} {rs : List ResultVar} {vs : List Value} (hv : Outs P tmps w rs vs) (f : ResultVar → Sem Value) (hf : ∀ u, f (.tmp u) = pure (tmps.getD u undef))
    (hc : ∀ a t, f (.cell a t) = (do loadVar t (← asAddr (tmps.getD a undef)))) : (rs.mapM f).run P w = .ok vs w := by
  induction hv with
  | nil => simp
  | tmp h ih => simp [List.mapM_cons, hf, ih]
  | cell g t cs d hp hg hu hd hi h ih =>
    rw [List.mapM_cons, hc, hp]
    simp [asAddr, run_loadVar_row w g t _ cs (0, 0) d hg hu hd hi, ih]
/-- Two results or more (or none). -/
theorem outs_many {P : Program} {tmps : Array Value} {w : World} {fn : Func} {rs : List ResultVar} {vs : List Value} (h : fn.results = rs.toArray) (hl : vs.length ≠ 1) (hv : Outs P tmps w rs vs) : (results fn tmps).run P w = .ok (.tuple vs.toArray) w := by
  unfold results
  rw [h, List.mapM_toArray]
  simp only [Sem.run_bind, Sem.run_map]
  rw [outs_run hv]
  · simp [hl]
  · intro u
    rfl
  · intro a t
    rfl
theorem outs_one {P : Program} {tmps : Array Value} {w : World} {fn : Func} {r : ResultVar} {v : Value} (h : fn.results = #[r]) (hv : Outs P tmps w [r] [v]) : (results fn tmps).run P w = .ok v w := by
  unfold results
  rw [show fn.results = [r].toArray from h, List.mapM_toArray]
  simp only [Sem.run_bind, Sem.run_map]
  rw [outs_run hv]
  · simp
  · intro u
    rfl
  · intro a t
    rfl

/-- The ends of a walk: one struct; a struct and a slot. -/
theorem end_c {P : Program} {fn : Func} {R : Ending → World → Prop} {a : Act} {w : World} {p : Tmp} {ty : TypeId} (hr : fn.results = #[.cell p ty]) (hd : a.defers = []) (g : Nat) (t : TypeId) (cs : Array Value) (d : TypeDesc)
    (hp : a.tmps.getD p undef = .pointer (some ⟨g, 0, none⟩)) (hg : Blk w g cs t) (hu : P.underlying ty = some d) (hs : (match d with | .struct _ | .array _ _ => true | _ => false) = true) (hi : (P.info? ty).map (·.size) = some cs.size)
    (h : R (.returned (.agg cs)) w) : bodyPost P fn R .ret a w :=
  ⟨hd, _, outs_one hr (.cell g t cs d hp hg hu hs hi .nil), h⟩
theorem end_ct {P : Program} {fn : Func} {R : Ending → World → Prop} {a : Act} {w : World} {p u : Tmp} {ty : TypeId} (hr : fn.results = #[.cell p ty, .tmp u]) (hd : a.defers = []) (g : Nat) (t : TypeId) (cs : Array Value) (d : TypeDesc) (x : Value)
    (hp : a.tmps.getD p undef = .pointer (some ⟨g, 0, none⟩)) (hx : a.tmps.getD u undef = x) (hg : Blk w g cs t) (hu : P.underlying ty = some d) (hs : (match d with | .struct _ | .array _ _ => true | _ => false) = true) (hi : (P.info? ty).map (·.size) = some cs.size)
    (h : R (.returned (.tuple #[.agg cs, x])) w) : bodyPost P fn R .ret a w :=
  ⟨hd, _, outs_many (rs := [.cell p ty, .tmp u]) hr (by simp) (.cell g t cs d hp hg hu hs hi (.tmp .nil)), by rw [hx]; exact h⟩

end Go.Proofs.Ytdcedfciaaooiaa
