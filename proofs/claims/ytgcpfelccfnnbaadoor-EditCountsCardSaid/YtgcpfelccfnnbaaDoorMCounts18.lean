/-
Part 18 of the texts of this proof: the walks through the program's functions.
-/
import Derived.Test.YtgcpfelccfnnbaaDoorMCounts2
namespace Go.Proofs.YtgcpfelccfnnbaaDoor.X
open Go.RowKit Go.Proofs.YtgcpfelccfnnbaaDoorW.PrintWords Go.Proofs.YtgcpfelccfnnbaaDoorW.PrintLast Go.Proofs.YtgcpfelccfnnbaaDoorW.PrintMore
attribute [local go_sem] max2_int min2_int max_two min_two max_three min_three max_four min_four   -- for this text's walks alone
set_option linter.unusedVariables false
set_option linter.unusedSimpArgs false
def set4 (W : World) (g : Nat) (a b c d : Value) : World := (((W.setCell ⟨g, 0, none⟩ a).setCell ⟨g, 1, none⟩ b).setCell ⟨g, 2, none⟩ c).setCell ⟨g, 3, none⟩ d
theorem blk_put4 {W : World} {g : Nat} {t : TypeId} {z0 z1 z2 z3 a b c d : Value} (h : W.heap[g]? = some (.cells #[z0, z1, z2, z3] t (0, 0))) : (set4 W g a b c d).heap[g]? = some (.cells #[a, b, c, d] t (0, 0)) := by
  unfold set4
  refine blk_put (cs := #[a, b, c, z3]) ?_ 3 _ rfl
  refine blk_put (cs := #[a, b, z2, z3]) ?_ 2 _ rfl
  refine blk_put (cs := #[a, z1, z2, z3]) ?_ 1 _ rfl
  exact blk_put (cs := #[z0, z1, z2, z3]) h 0 _ rfl
theorem below_set4 {B : Nat} {w W : World} {g : Nat} {a b c d : Value} (h : Below B w W) (hg : B ≤ g) : Below B w (set4 W g a b c d) := (((h.setCell hg _).setCell hg _).setCell hg _).setCell hg _
theorem heap_set4 {W : World} {g k : Nat} {a b c d : Value} (h : k ≠ g) : (set4 W g a b c d).heap[k]? = W.heap[k]? := by
  unfold set4
  rw [Below.heap_setCell _ _ _ _ h, Below.heap_setCell _ _ _ _ h, Below.heap_setCell _ _ _ _ h, Below.heap_setCell _ _ _ _ h]
theorem size_set4 {W : World} {g : Nat} {a b c d : Value} : (set4 W g a b c d).heap.size = W.heap.size := by simp [set4]
theorem F_set4 {α : Type} {k : Kd α} {W : World} {P : Nat → Prop} {A : Option Addr} {n : Nat} {xs : List α} {g : Nat} {a b c d : Value} (h : Kd.F k W P A n xs) (hP : ∀ j, P j → j ≠ g) : Kd.F k (set4 W g a b c d) P A n xs := Kd.F_step h (fun j hj _ => heap_set4 (hP j hj))
end Go.Proofs.YtgcpfelccfnnbaaDoor.X
