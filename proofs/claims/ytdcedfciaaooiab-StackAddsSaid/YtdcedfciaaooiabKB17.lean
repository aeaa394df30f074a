/- What an iterator that re-reads its own box keeps. -/
import Derived.Test.YtdcedfciaaooiabJ0
set_option linter.unusedVariables false
namespace Go.Proofs.Ytdcedfciaaooiab
open Go.RowKit Go.Shelf

/-- All below n₀ lies as it lay, and block b too. -/
def KpB (n₀ b : Nat) (W W' : World) : Prop := Below n₀ W W' ∧ W'.heap[b]? = W.heap[b]?
theorem KpB.refl (n₀ b : Nat) (W : World) : KpB n₀ b W W := ⟨Below.refl _ _, rfl⟩
theorem KpB.trans {n₀ b : Nat} {A B C : World} (h : KpB n₀ b A B) (k : KpB n₀ b B C) : KpB n₀ b A C := ⟨h.1.trans k.1, k.2.trans h.2⟩
theorem KpB.cell {n₀ b : Nat} {A B : World} (h : KpB n₀ b A B) (o : Nat) : B.cell? ⟨b, o, none⟩ = A.cell? ⟨b, o, none⟩ := World.cell?_of_block (w := A) h.2
theorem kpB_t {n₀ b : Nat} {A B C : World} (h : KpB n₀ b A B) (k : KpB n₀ b B C) : KpB n₀ b A C := h.trans k
theorem kpB_b {n₀ b : Nat} {w : World} (hn : n₀ ≤ w.heap.size) (hb : b < w.heap.size) (W : World) (l : Nat) (o o' : Obj) (hl : w.heap.size ≤ l) (h : W.heap[l]? = some o) (h1 : o.isCells = false) (h2 : o.isWalk = false) : KpB n₀ b W (W.putObj l o') :=
  ⟨belowK_b hn W l o o' hl h h1 h2, World.putObj_heap_other (by omega)⟩

def backK {α : Type} (f : Nat → α) (n : Nat) (j : Nat) : Nat × α := (n - 1 - j, f (n - 1 - j))
end Go.Proofs.Ytdcedfciaaooiab
