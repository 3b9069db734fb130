/-
Part 33 of the texts of this proof: the walks through the program's functions.
-/
import Derived.Test.YtgcpfelccfnnbaaDoorMCounts2
import Derived.Test.YtgcpfelccfnnbaaDoorMCounts15
import Derived.Test.YtgcpfelccfnnbaaDoorMCounts19
import Derived.Test.YtgcpfelccfnnbaaDoorMCounts30
import Derived.Test.YtgcpfelccfnnbaaDoorMCounts31
import Derived.Test.YtgcpfelccfnnbaaDoorMCounts32
namespace Go.Proofs.YtgcpfelccfnnbaaDoor.X
open Go.RowKit Go.Proofs.YtgcpfelccfnnbaaDoorW.PrintWords Go.Proofs.YtgcpfelccfnnbaaDoorW.PrintLast Go.Proofs.YtgcpfelccfnnbaaDoorW.PrintMore
attribute [local go_sem] max2_int min2_int max_two min_two max_three min_three max_four min_four   -- for this text's walks alone
set_option linter.unusedVariables false
set_option linter.unusedSimpArgs false
mutual
theorem chk_cnt : ∀ {x : S24} {left depth lf : Nat}, chk x left depth = some lf → lf + cnt x = left
  | ⟨k, t, c, l⟩, left, depth, lf, h => by
    rw [chk] at h
    split at h
    · cases h
    · split at h
      · cases h
      · split at h
        · have := chkL_cnt h; simp only [cnt]; omega
        · cases h
theorem chkL_cnt : ∀ {l : List S24} {k : Int} {left depth lf : Nat}, chkL l k left depth = some lf → lf + cntL l = left
  | [], k, left, depth, lf, h => by
    rw [chkL] at h
    injection h with h
    simp only [cntL]; omega
  | x :: l, k, left, depth, lf, h => by
    rw [chkL] at h
    split at h
    · cases h
    · obtain ⟨l1, h1, h2⟩ := Option.bind_eq_some_iff.1 h
      have := chk_cnt h1
      have := chkL_cnt h2
      simp only [cntL]; omega
end
theorem valid_cnt {x : S24} (h : validB x = true) : cnt x ≤ 1000 := by
  unfold validB at h
  simp only [Bool.and_eq_true] at h
  obtain ⟨lf, hl⟩ := Option.isSome_iff_exists.1 h.2
  have := chk_cnt hl
  omega
theorem valid_cntL {x : S24} (h : validB x = true) : cntL x.f3 < 1000 := by have := valid_cnt h; rw [cnt_eq] at this; omega
theorem fine_z : fine z24 = true := by kernel_rfl
theorem row_sub : ∀ (m : Nat) (x : S24) (p : List Int), p.length ≤ m → (fine x = true → fine (rowG x p).1 = true) ∧ cntL (rowG x p).1.f3 ≤ cntL x.f3 := by
  intro m
  induction m with
  | zero =>
    intro x p hm
    have hp : p = [] := List.eq_nil_of_length_eq_zero (by omega)
    subst hp
    rw [rowG]
    exact ⟨fun h => h, Nat.le_refl _⟩
  | succ m ih =>
    intro x p hm
    match p, hm with
    | [], _ => rw [rowG]; exact ⟨fun h => h, Nat.le_refl _⟩
    | [_], _ => rw [rowG]; exact ⟨fun h => h, Nat.le_refl _⟩
    | i :: s :: q, hm =>
      rw [rowG]
      split
      · rename_i hh
        have hi : i.toNat < x.f3.length := by omega
        have hs : s.toNat < (nth x.f3 i.toNat).f3.length := by omega
        have h1 := ih (nth (nth x.f3 i.toNat).f3 s.toNat) q (by simp only [List.length_cons] at hm; omega)
        have c1 := cntL_get (nth_some hi)
        have c2 := cntL_get (nth_some hs)
        have e1 := cnt_eq (nth x.f3 i.toNat)
        have e2 := cnt_eq (nth (nth x.f3 i.toNat).f3 s.toNat)
        refine ⟨fun hf => h1.1 ?_, by omega⟩
        rw [fine_eq, Bool.and_eq_true] at hf
        have f1 := fineL_get (nth_some hi) hf.2
        rw [fine_eq, Bool.and_eq_true] at f1
        exact fineL_get (nth_some hs) f1.2
      · exact ⟨fun _ => fine_z, by show cntL [] ≤ _; rw [cntL]; omega⟩
theorem fineL_set : ∀ (l : List S24) (i : Nat) (y : S24), fineL l = true → fine y = true → fineL (l.set i y) = true
  | [], _, _, h, _ => by simpa using h
  | x :: l, 0, y, h, hy => by simp only [fineL, Bool.and_eq_true, List.set_cons_zero] at h ⊢; exact ⟨hy, h.2⟩
  | x :: l, i + 1, y, h, hy => by simp only [fineL, Bool.and_eq_true, List.set_cons_succ] at h ⊢; exact ⟨h.1, fineL_set l i y h.2 hy⟩
theorem with_fine : ∀ (m : Nat) (x : S24) (p : List Int) (r : S24), p.length ≤ m → WithOk x p → fine x = true → fine r = true → fine (withG x p r) = true := by
  intro m
  induction m with
  | zero =>
    intro x p r hm hok hx hr
    have hp : p = [] := List.eq_nil_of_length_eq_zero (by omega)
    subst hp
    rw [withG]
    exact hr
  | succ m ih =>
    intro x p r hm hok hx hr
    match p, hm, hok with
    | [], _, _ => rw [withG]; exact hr
    | [_], _, hok => exact hok.elim
    | i :: s :: q, hm, hok =>
      obtain ⟨hi0, hi, hs0, hs, hok⟩ := hok
      have hi' : i.toNat < x.f3.length := by omega
      have hs' : s.toNat < (nth x.f3 i.toNat).f3.length := by omega
      rw [fine_eq, Bool.and_eq_true] at hx
      have f1 := fineL_get (nth_some hi') hx.2
      rw [fine_eq, Bool.and_eq_true] at f1
      have f2 := fineL_get (nth_some hs') f1.2
      have h1 := ih _ q r (by simp only [List.length_cons] at hm; omega) hok f2 hr
      rw [withG, fine_eq, Bool.and_eq_true]
      refine ⟨hx.1, fineL_set _ _ _ hx.2 ?_⟩
      rw [fine_eq, Bool.and_eq_true]
      exact ⟨f1.1, fineL_set _ _ _ f1.2 h1⟩
/-- The row of a valid tree, or why not. -/
def rowE (x : S24) (p : List Int) : S24 × Int := if validB x = true then (if (rowG x p).2 = true then ((rowG x p).1, 0) else (z24, 8)) else (z24, 1)
theorem rowE_f (x : S24) (p : List Int) (hf : fine x = true) : node_Row.f x.f0 x.f1 x.f2 x.f3 p = some ((rowE x p).1.f0, (rowE x p).1.f1, (rowE x p).1.f2, (rowE x p).1.f3, (rowE x p).2) := by
  obtain ⟨x0, x1, x2, l⟩ := x
  have hV : node_Valid.f x0 x1 x2 l = some (validB ⟨x0, x1, x2, l⟩) := by unfold node_Valid.f; rw [if_pos hf]
  unfold node_Row.f rowE
  rw [hV]
  simp only [Option.bind_some]
  by_cases hv : validB ⟨x0, x1, x2, l⟩ = true
  · rw [if_pos hv, if_pos hv]
    unfold node_row.f
    simp only [Option.bind_some]
    by_cases hr : (rowG ⟨x0, x1, x2, l⟩ p).2 = true
    · rw [if_pos hr, if_pos hr]
      have hc := (row_sub p.length ⟨x0, x1, x2, l⟩ p (Nat.le_refl _)).2
      have hv2 := valid_cntL hv
      simp only at hc hv2
      unfold node_clone.f
      rw [if_pos (by omega)]
      rfl
    · rw [if_neg hr, if_neg hr]
      rfl
  · rw [if_neg hv, if_neg hv]
    rfl
theorem rowE_any (x : S24) (p : List Int) (A B : Option Addr) (c d : Nat) (w : World) (hf : fine x = true) (hc : x.f3.length ≤ c) (hd : p.length ≤ d) (hA : Kd.C k24 w A x.f3.length x.f3) (hB : Kd.C (Kd.int .i64) w B p.length p) :
    Calls Tryd.prog 29 #[.agg #[.int .i64 x.f0, .string x.f1, .int .i64 x.f2, .slice A x.f3.length c], .slice B p.length d] w fun e w' => ∃ v : Value, e = .returned (.tuple #[.agg #[.int .i64 (rowE x p).1.f0, .string (rowE x p).1.f1, .int .i64 (rowE x p).1.f2, v], .int .i64 (rowE x p).2]) ∧ Kd.R k24 24 w' w.heap.size (fun _ => True) v (rowE x p).1.f3 ∧ Below w.heap.size w w' :=
  node_Row.calls x.f0 x.f1 x.f2 A c x.f3 B d p _ _ _ _ _ w hA hc hB hd (rowE_f x p hf)
/-- A tree with another row at a path, or why not. -/
def withE (x : S24) (p : List Int) (r : S24) : S24 × Int :=
  if validB x = true then (if (rowG x p).2 = true then (if validB r = true then (if validB (withG x p r) = true then (withG x p r, 0) else (z24, 6)) else (z24, 4)) else (z24, 8)) else (z24, 1)
theorem blk_over {w1 w2 : World} {o c : Obj} {k : Nat} (h : w1.heap[k]? = some c) (hB : Below (w1.alloc o).heap.size (w1.alloc o) w2) : w2.heap[k]? = some c := by
  have hk : k < w1.heap.size := by
    rw [Array.getElem?_eq_some_iff] at h
    exact h.1
  rw [hB.block k (by simp; omega), Below.heap_alloc _ _ _ hk]
  exact h
theorem blk_allocO {w1 : World} {c : Obj} {k : Nat} (h : w1.heap[k]? = some c) (o : Obj) : (w1.alloc o).heap[k]? = some c := blk_over h (Below.refl _ _)
theorem blk_on {w1 w2 : World} {c : Obj} {k : Nat} (h : w1.heap[k]? = some c) (hB : Below w1.heap.size w1 w2) : w2.heap[k]? = some c := by
  have hk : k < w1.heap.size := by
    rw [Array.getElem?_eq_some_iff] at h
    exact h.1
  rw [hB.block k hk]
  exact h
end Go.Proofs.YtgcpfelccfnnbaaDoor.X
