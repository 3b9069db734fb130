/-
Part 4 of the texts of this proof: the walks through the program's functions.
-/
import Derived.StillTailTactics
import Derived.Deep.Slices
import Derived.Deep.Fields
import Derived.ChangeSame
import Derived.Test.YtgcpfelccfnnbaaDoorRows
import Derived.ProofKit
import Derived.OpenShut
import Derived.LaidMore
import Derived.Lay
import Derived.Stop.Joined
import Derived.Carry
import Derived.Below
import Derived.Test.YtgcpfelccfnnbaaDoorMCounts3
namespace Go.Proofs.YtgcpfelccfnnbaaDoor.X
open Go.RowKit Go.Proofs.YtgcpfelccfnnbaaDoorW.PrintWords Go.Proofs.YtgcpfelccfnnbaaDoorW.PrintLast Go.Proofs.YtgcpfelccfnnbaaDoorW.PrintMore
attribute [local go_sem] max2_int min2_int max_two min_two max_three min_three max_four min_four   -- for this text's walks alone
set_option linter.unusedVariables false
set_option linter.unusedSimpArgs false
theorem cntL_set : ∀ (l : List S24) (i : Nat) (y : S24), i < l.length → cntL (l.set i y) + cnt (nth l i) = cntL l + cnt y
  | x :: l, 0, y, _ => by simp only [List.set_cons_zero, cntL]; show cnt y + cntL l + cnt x = _; omega
  | x :: l, i + 1, y, h => by
    have := cntL_set l i y (by simpa using h)
    simp only [List.set_cons_succ, cntL]
    show cnt x + cntL (l.set i y) + cnt (nth l i) = _
    omega
/-- Paths by pairs. -/
theorem pairs {P : List Int → Prop} (h0 : P []) (h1 : ∀ i, P [i]) (h2 : ∀ i s p, P p → P (i :: s :: p)) : ∀ p, P p
  | [] => h0
  | [i] => h1 i
  | i :: s :: p => h2 i s p (pairs h0 h1 h2 p)
theorem rowG_cons {x : S24} {i s : Int} {p : List Int} (h : 0 ≤ i ∧ i < x.f3.length ∧ 0 ≤ s ∧ s < (nth x.f3 i.toNat).f3.length) : rowG x (i :: s :: p) = rowG (nth (nth x.f3 i.toNat).f3 s.toNat) p := by rw [rowG, if_pos h]
theorem withG_nil (x r : S24) : withG x [] r = r := by unfold withG; rfl
theorem withG_cons (x r : S24) (i s : Int) (p : List Int) : withG x (i :: s :: p) r = ⟨x.f0, x.f1, x.f2, x.f3.set i.toNat ⟨(nth x.f3 i.toNat).f0, (nth x.f3 i.toNat).f1, (nth x.f3 i.toNat).f2, (nth x.f3 i.toNat).f3.set s.toNat (withG (nth (nth x.f3 i.toNat).f3 s.toNat) p r)⟩⟩ := by
  conv => lhs; unfold withG
theorem ok_row : ∀ (p : List Int) (x : S24), WithOk x p → (rowG x p).2 = true := by
  refine pairs ?_ ?_ ?_
  · intro x _; rw [rowG]
  · intro i x h; exact h.elim
  · intro i s p ih x h
    obtain ⟨a, b, c, d, e⟩ := h
    rw [rowG_cons ⟨a, b, c, d⟩]
    exact ih _ e
theorem row_withOk {x : S24} {p : List Int} (h : (rowG x p).2 = true) : WithOk x p := row_ok p.length x p (Nat.le_refl _) h
theorem cnt_with : ∀ (p : List Int) (x r : S24), WithOk x p → cnt (withG x p r) + cnt (rowG x p).1 = cnt x + cnt r := by
  refine pairs ?_ ?_ ?_
  · intro x r _; rw [withG_nil, rowG]; simp only; omega
  · intro i x r h; exact h.elim
  · intro i j p ih x r h
    obtain ⟨a, b, c, d, e⟩ := h
    have hi : i.toNat < x.f3.length := by omega
    have hs : j.toNat < (nth x.f3 i.toNat).f3.length := by omega
    have h1 := ih _ r e
    rw [withG_cons, rowG_cons ⟨a, b, c, d⟩]
    have h2 := cntL_set (nth x.f3 i.toNat).f3 j.toNat (withG (nth (nth x.f3 i.toNat).f3 j.toNat) p r) hs
    have h3 := cntL_set x.f3 i.toNat ⟨(nth x.f3 i.toNat).f0, (nth x.f3 i.toNat).f1, (nth x.f3 i.toNat).f2, (nth x.f3 i.toNat).f3.set j.toNat (withG (nth (nth x.f3 i.toNat).f3 j.toNat) p r)⟩ hi
    have h4 := cnt_eq (nth x.f3 i.toNat)
    have h5 := cnt_eq x
    simp only [cnt] at h3 ⊢
    omega
mutual
theorem eqN_iff : ∀ (x y : S24), eqN x y = true ↔ x = y
  | ⟨k, t, c, l⟩, ⟨k', t', c', l'⟩ => by
    rw [eqN]
    simp only [Bool.and_eq_true, decide_eq_true_eq]
    rw [eqL_iff l l']
    constructor
    · rintro ⟨rfl, h, rfl, rfl⟩
      have h2 : t = t' := by
        cases t; cases t'
        simp only [ByteArray.mk.injEq]
        exact Array.toList_inj.1 h
      rw [h2]
    · intro h
      injection h with h1 h2 h3 h4
      exact ⟨h1, by rw [h2], h3, h4⟩
theorem eqL_iff : ∀ (l m : List S24), eqL l m = true ↔ l = m
  | [], m => by
    rw [eqL]
    cases m <;> simp
  | x :: l, [] => by
    rw [eqL]
    simp
  | x :: l, y :: m => by
    rw [eqL, Bool.and_eq_true, eqN_iff x y, eqL_iff l m]
    simp
end
def bareB (o : S27) : Bool := o.f6.data.toList.isEmpty && o.f7.data.toList.isEmpty
def itemsB (l : List S24) : Bool := validB ⟨1, ⟨#[]⟩, 0, l⟩
/-- The operation is well formed. -/
def formedB (o : S27) : Bool :=
  if o.f0 = 1 ∨ o.f0 = 2 then decide (o.f3 = 0) && (decide (o.f5 = 0) && (bareB o && (decide (0 < o.f4.length) && itemsB o.f4)))
  else if o.f0 = 3 ∨ o.f0 = 4 then bareB o && (decide (0 ≤ o.f3) && (decide (o.f4.length = 1) && (itemsB o.f4 && (decide (0 ≤ o.f5) && (decide (o.f5 < (nth o.f4 0).f3.length) && decide ((nth (nth o.f4 0).f3 o.f5.toNat).f3 = []))))))
  else if o.f0 = 5 then decide (o.f3 = 0) && (decide (o.f5 = 0) && (decide (o.f4 = []) && decide (¬ o.f6.data.toList = o.f7.data.toList)))
  else false
def needsI (o : S27) : Int := if o.f0 = 1 then 0 else if o.f0 = 2 then (o.f4.length : Int) else if o.f0 = 3 then o.f3 else 1
def oldL (l : List S24) (o : S27) : List S24 := (l.take (o.f2 + needsI o).toNat).drop o.f2.toNat
def newL (l : List S24) (o : S27) : List S24 := l.take o.f2.toNat ++ ((changeG o (oldL l o)).1 ++ l.drop (o.f2 + needsI o).toNat)
def newRow (r : S24) (o : S27) : S24 := ⟨r.f0, r.f1, r.f2, newL r.f3 o⟩
/-- The tree behind an operation, or why there is none. -/
def applyE (x : S24) (o : S27) : S24 × Int :=
  if validB x = true then
    if formedB o = true then
      if (rowG x o.f1).2 = true then
        if o.f2 < 0 ∨ ((rowG x o.f1).1.f3.length : Int) < o.f2 ∨ ((rowG x o.f1).1.f3.length : Int) - o.f2 < needsI o then (z24, 2)
        else if (changeG o (oldL (rowG x o.f1).1.f3 o)).2 = true then
          if validB (newRow (rowG x o.f1).1 o) = true ∧ validB (withG x o.f1 (newRow (rowG x o.f1).1 o)) = true then (withG x o.f1 (newRow (rowG x o.f1).1 o), 0) else (z24, 6)
        else (z24, 7)
      else (z24, 8)
    else (z24, 4)
  else (z24, 1)
/-- What it takes for an operation to be done. -/
structure Does (x : S24) (o : S27) : Prop where
  valid : validB x = true
  formed : formedB o = true
  row : WithOk x o.f1
  at0 : 0 ≤ o.f2
  room : o.f2 + needsI o ≤ (rowG x o.f1).1.f3.length
  need : 0 ≤ needsI o
  change : (changeG o (oldL (rowG x o.f1).1.f3 o)).2 = true
  vrow : validB (newRow (rowG x o.f1).1 o) = true
  vall : validB (withG x o.f1 (newRow (rowG x o.f1).1 o)) = true
theorem needs_nonneg {o : S27} (h : formedB o = true) : 0 ≤ needsI o := by
  unfold needsI
  by_cases h1 : o.f0 = 1
  · rw [if_pos h1]; exact Int.le_refl _
  rw [if_neg h1]
  by_cases h2 : o.f0 = 2
  · rw [if_pos h2]; omega
  rw [if_neg h2]
  by_cases h3 : o.f0 = 3
  · rw [if_pos h3]
    unfold formedB at h
    rw [if_neg (by omega), if_pos (.inl h3)] at h
    simp only [Bool.and_eq_true, decide_eq_true_eq] at h
    exact h.2.1
  · rw [if_neg h3]; omega
theorem does_of {x a : S24} {o : S27} {e : Int} (h : applyE x o = (a, e)) (he : e = 0) : Does x o ∧ a = withG x o.f1 (newRow (rowG x o.f1).1 o) := by
  subst he
  unfold applyE at h
  by_cases h1 : validB x = true
  · rw [if_pos h1] at h
    by_cases h2 : formedB o = true
    · rw [if_pos h2] at h
      by_cases h3 : (rowG x o.f1).2 = true
      · rw [if_pos h3] at h
        by_cases h4 : o.f2 < 0 ∨ ((rowG x o.f1).1.f3.length : Int) < o.f2 ∨ ((rowG x o.f1).1.f3.length : Int) - o.f2 < needsI o
        · rw [if_pos h4] at h; simp at h
        · rw [if_neg h4] at h
          by_cases h5 : (changeG o (oldL (rowG x o.f1).1.f3 o)).2 = true
          · rw [if_pos h5] at h
            by_cases h6 : validB (newRow (rowG x o.f1).1 o) = true ∧ validB (withG x o.f1 (newRow (rowG x o.f1).1 o)) = true
            · rw [if_pos h6] at h
              injection h with h7 h8
              exact ⟨⟨h1, h2, row_withOk h3, by omega, by omega, needs_nonneg h2, h5, h6.1, h6.2⟩, h7.symm⟩
            · rw [if_neg h6] at h; simp at h
          · rw [if_neg h5] at h; simp at h
      · rw [if_neg h3] at h; simp at h
    · rw [if_neg h2] at h; simp at h
  · rw [if_neg h1] at h; simp at h
theorem apply_does {x : S24} {o : S27} (h : Does x o) : applyE x o = (withG x o.f1 (newRow (rowG x o.f1).1 o), 0) := by
  unfold applyE
  rw [if_pos h.valid, if_pos h.formed, if_pos (ok_row _ _ h.row), if_neg (by have := h.at0; have := h.room; have := h.need; omega), if_pos h.change, if_pos ⟨h.vrow, h.vall⟩]
theorem kinds {o : S27} (h : formedB o = true) : o.f0 = 1 ∨ o.f0 = 2 ∨ o.f0 = 3 ∨ o.f0 = 4 ∨ o.f0 = 5 := by
  unfold formedB at h
  by_cases h1 : o.f0 = 1 ∨ o.f0 = 2
  · omega
  rw [if_neg h1] at h
  by_cases h2 : o.f0 = 3 ∨ o.f0 = 4
  · omega
  rw [if_neg h2] at h
  by_cases h3 : o.f0 = 5
  · omega
  · rw [if_neg h3] at h; cases h
theorem wrap_parts {o : S27} (h : formedB o = true) (hk : o.f0 = 3 ∨ o.f0 = 4) : 0 ≤ o.f3 ∧ (∃ t, o.f4 = [t]) ∧ itemsB o.f4 = true ∧ 0 ≤ o.f5 ∧ o.f5 < (nth o.f4 0).f3.length ∧ (nth (nth o.f4 0).f3 o.f5.toNat).f3 = [] := by
  unfold formedB at h
  rw [if_neg (by omega), if_pos hk] at h
  simp only [Bool.and_eq_true, decide_eq_true_eq] at h
  exact ⟨h.2.1, List.length_eq_one_iff.1 h.2.2.1, h.2.2.2⟩
theorem cntL_append (l m : List S24) : cntL (l ++ m) = cntL l + cntL m := by
  induction l with
  | nil => simp [cntL]
  | cons x l ih => simp only [List.cons_append, cntL, ih]; omega
theorem cntL_fill {l k : List S24} {i : Nat} (hi : i < l.length) : cntL (filledL l i k) + cntL (nth l i).f3 = cntL l + cntL k := by
  unfold filledL
  have h1 := cntL_set l i ⟨(nth l i).f0, (nth l i).f1, (nth l i).f2, k⟩ hi
  have h2 := cnt_eq (nth l i)
  simp only [cnt] at h1
  omega
/-- What a change does to the number of nodes. -/
theorem change_cnt (o : S27) (l : List S24) (hf : formedB o = true) (hl : (l.length : Int) = needsI o) (hc : (changeG o l).2 = true) :
    (cntL (changeG o l).1 : Int) = cntL l + (if o.f0 = 2 ∨ o.f0 = 4 then -(cntL o.f4 : Int) else (cntL o.f4 : Int)) := by
  obtain ⟨o0, o1, o2, o3, o4, o5, o6, o7⟩ := o
  rcases kinds hf with hk | hk | hk | hk | hk <;> simp only at hk <;> subst hk
  · have hl0 : l = [] := List.eq_nil_of_length_eq_zero (by simp [needsI] at hl; simp [hl])
    subst hl0
    simp [changeG, cntL]
  · simp only [changeG] at hc
    simp only [if_pos, reduceIte] at hc
    have := (eqL_iff l o4).1 (by simpa using hc)
    subst this
    simp [changeG, cntL]
    omega
  · obtain ⟨h0, ⟨t, ht⟩, hi, hs0, hs, he⟩ := wrap_parts hf (.inl rfl)
    simp only at h0 ht hi hs0 hs he
    subst ht
    have hn0 : nth [t] 0 = t := rfl
    rw [hn0] at hs he
    have hs' : o5.toNat < t.f3.length := by omega
    have e1 : (changeG ⟨3, o1, o2, o3, [t], o5, o6, o7⟩ l).1 = [⟨t.f0, t.f1, t.f2, filledL t.f3 o5.toNat l⟩] := rfl
    rw [e1]
    have h1 := cntL_fill (k := l) hs'
    have h2 := cnt_eq t
    rw [he] at h1
    simp only [cntL, cnt] at h1 ⊢
    simp
    omega
  · obtain ⟨h0, ⟨t, ht⟩, hi, hs0, hs, he⟩ := wrap_parts hf (.inr rfl)
    simp only at h0 ht hi hs0 hs he
    subst ht
    have hn0 : nth [t] 0 = t := rfl
    have hl1 : l.length = 1 := by have : (l.length : Int) = 1 := by simpa [needsI] using hl
                                  omega
    obtain ⟨x, rfl⟩ := List.length_eq_one_iff.1 hl1
    have e1 : changeG ⟨4, o1, o2, o3, [t], o5, o6, o7⟩ [x] = unwrappedG x ⟨4, o1, o2, o3, [t], o5, o6, o7⟩ := rfl
    rw [e1] at hc ⊢
    unfold unwrappedG at hc ⊢
    simp only [hn0] at hc ⊢
    by_cases hh : (x.f3.length : Int) ≤ o5 ∨ ((nth x.f3 o5.toNat).f3.length : Int) ≠ o3
    · rw [if_pos hh] at hc; cases hc
    · rw [if_neg hh] at hc ⊢
      simp only at hc ⊢
      have hx := (eqN_iff _ _).1 hc
      have hs' : o5.toNat < x.f3.length := by omega
      have h1 := cntL_fill (k := []) hs'
      have h2 := cnt_eq x
      simp only [← hx, cntL, cnt] at h1 ⊢
      simp
      omega
  · have hl1 : l.length = 1 := by have : (l.length : Int) = 1 := by simpa [needsI] using hl
                                  omega
    obtain ⟨x, rfl⟩ := List.length_eq_one_iff.1 hl1
    have e1 : (changeG ⟨5, o1, o2, o3, o4, o5, o6, o7⟩ [x]).1 = [⟨x.f0, o7, x.f2, x.f3⟩] := rfl
    rw [e1]
    have h4 : o4 = [] := by
      unfold formedB at hf
      simp at hf
      exact hf.2.2.1
    subst h4
    have h2 := cnt_eq x
    simp only [cntL, cnt]
    simp
    omega
theorem old_len {l : List S24} {o : S27} (h0 : 0 ≤ o.f2) (hn : 0 ≤ needsI o) (hr : o.f2 + needsI o ≤ l.length) : ((oldL l o).length : Int) = needsI o := by
  unfold oldL
  rw [List.length_drop, List.length_take]
  omega
theorem old_split {l : List S24} {o : S27} (h0 : 0 ≤ o.f2) (hn : 0 ≤ needsI o) : l = l.take o.f2.toNat ++ (oldL l o ++ l.drop (o.f2 + needsI o).toNat) := by
  unfold oldL
  have h1 : l.take o.f2.toNat = (l.take (o.f2 + needsI o).toNat).take o.f2.toNat := by rw [List.take_take]; congr 1; omega
  rw [h1, ← List.append_assoc, List.take_append_drop, List.take_append_drop]
theorem new_cnt {x : S24} {o : S27} (h : Does x o) : (cnt (newRow (rowG x o.f1).1 o) : Int) = cnt (rowG x o.f1).1 + (if o.f0 = 2 ∨ o.f0 = 4 then -(cntL o.f4 : Int) else (cntL o.f4 : Int)) := by
  have h1 := change_cnt o (oldL (rowG x o.f1).1.f3 o) h.formed (old_len h.at0 h.need h.room) h.change
  have h2 := congrArg cntL (old_split (l := (rowG x o.f1).1.f3) h.at0 h.need)
  have h3 := cnt_eq (rowG x o.f1).1
  rw [cntL_append, cntL_append] at h2
  show (cnt ⟨_, _, _, newL _ _⟩ : Int) = _
  rw [cnt]
  unfold newL
  rw [cntL_append, cntL_append]
  omega
/-- The number of nodes behind an operation. -/
theorem apply_cnt {x : S24} {o : S27} (h : Does x o) : (cnt (applyE x o).1 : Int) = cnt x + (if o.f0 = 2 ∨ o.f0 = 4 then -(cntL o.f4 : Int) else (cntL o.f4 : Int)) := by
  rw [apply_does h]
  have h1 := new_cnt h
  have h2 := cnt_with o.f1 x (newRow (rowG x o.f1).1 o) h.row
  simp only
  omega
end Go.Proofs.YtgcpfelccfnnbaaDoor.X
namespace Go.Proofs.YtgcpfelccfnnbaaDoor.X
open Go.RowKit Go.Proofs.YtgcpfelccfnnbaaDoorW.PrintWords Go.Proofs.YtgcpfelccfnnbaaDoorW.PrintLast Go.Proofs.YtgcpfelccfnnbaaDoorW.PrintMore
attribute [local go_sem] max2_int min2_int max_two min_two max_three min_three max_four min_four   -- for this text's walks alone
set_option linter.unusedVariables false
set_option linter.unusedSimpArgs false
/-- The boxes of the arguments and of the result, in a later world. -/
structure Boxes (w W : World) (a b c : Obj) : Prop where
  fst : W.heap[w.heap.size]? = some a
  snd : W.heap[w.heap.size + 1]? = some b
  trd : W.heap[w.heap.size + 1 + 1]? = some c
  below : Below w.heap.size w W
  big : w.heap.size + 3 ≤ W.heap.size
theorem Boxes.on {w W W1 : World} {a b c : Obj} (h : Boxes w W a b c) (hb : Below W.heap.size W W1) : Boxes w W1 a b c :=
  ⟨blk_on h.fst hb, blk_on h.snd hb, blk_on h.trd hb, below_then h.below h.below.size hb, Nat.le_trans h.big hb.size⟩
theorem Boxes.new (w : World) (a b c : Obj) : Boxes w (((w.alloc a).alloc b).alloc c) a b c := by
  have h := withBoxes (w := w) (o1 := a) (o2 := b) (o3 := c) (Below.refl _ _)
  exact ⟨h.1.out, h.2.1.out, h.2.2.1.out, h.2.2.2.1.out, h.2.2.2.2.out⟩
theorem Boxes.alloc {w W : World} {a b c : Obj} (h : Boxes w W a b c) (o : Obj) : Boxes w (W.alloc o) a b c := h.on (below_alloc (Below.refl _ _) o)
theorem Boxes.drew {w W : World} {a b c : Obj} (h : Boxes w W a b c) : Boxes w W.drew a b c := h.on (Below.refl _ _).drew
theorem Boxes.put {w W : World} {a b c : Obj} (h : Boxes w W a b c) {g i : Nat} (hg : w.heap.size + 3 ≤ g) (v : Value) : Boxes w (W.setCell ⟨g, i, none⟩ v) a b c :=
  ⟨(Below.heap_setCell W ⟨g, i, none⟩ v _ (by show _ ≠ g; omega)).trans h.fst, (Below.heap_setCell W ⟨g, i, none⟩ v _ (by show _ ≠ g; omega)).trans h.snd, (Below.heap_setCell W ⟨g, i, none⟩ v _ (by show _ ≠ g; omega)).trans h.trd, h.below.setCell (by show _ ≤ g; omega) _, by simpa [World.setCell] using h.big⟩
/-- No tree, why. -/
def ErrPost (w : World) (ev : Int) (e : Ending) (w' : World) : Prop := e = .returned (.tuple #[.agg #[.int .i64 0, .string ⟨#[]⟩, .int .i64 0, .slice none 0 0], .int .i64 ev]) ∧ Below w.heap.size w w'
set_option maxRecDepth 100000 in
set_option maxHeartbeats 4000000 in
theorem apply_e1 (x : S24) (o : S27) (A AR AN : Option Addr) (c cR cN : Nat) (w : World) (HA : Aside0 (Kd.C k24 w A x.f3.length x.f3)) (HR : Aside0 (Kd.C (Kd.int .i64) w AR o.f1.length o.f1)) (HN : Aside0 (Kd.C k24 w AN o.f4.length o.f4)) (HV : Aside0 (∀ W : World, Kd.C k24 W A x.f3.length x.f3 → Calls Tryd.prog 27 #[.agg #[.int .i64 x.f0, .string x.f1, .int .i64 x.f2, .slice A x.f3.length c]] W fun e w' => e = .returned (.bool false) ∧ Below W.heap.size W w')) :
    Calls Tryd.prog 11 #[.agg #[.int .i64 x.f0, .string x.f1, .int .i64 x.f2, .slice A x.f3.length c], .agg #[.int .i64 o.f0, .slice AR o.f1.length cR, .int .i64 o.f2, .int .i64 o.f3, .slice AN o.f4.length cN, .int .i64 o.f5, .string o.f6, .string o.f7]] w (ErrPost w 1) := by
  go_enter Tryd.func11, Tryd.ntmps11
  go_wp2_with (go_at_call 27; go_loud (refine (HV.out _ (Kd.C_below HA.out (Boxes.new w _ _ _).below)).mono ?_; rintro e w1 ⟨rfl, hB1⟩; have HB1 := (Boxes.new w _ _ _).on hB1; clear hB1; have z0 := (blk_cell HB1.trd 0 : w1.cell? ⟨w.heap.size + 1 + 1, 0, none⟩ = _); have z1 := (blk_cell HB1.trd 1 : w1.cell? ⟨w.heap.size + 1 + 1, 1, none⟩ = _); have z2 := (blk_cell HB1.trd 2 : w1.cell? ⟨w.heap.size + 1 + 1, 2, none⟩ = _); have z3 := (blk_cell HB1.trd 3 : w1.cell? ⟨w.heap.size + 1 + 1, 3, none⟩ = _); have y0 := (blk_frozen HB1.trd 0 : w1.frozen? ⟨w.heap.size + 1 + 1, 0, none⟩ = false); have y1 := (blk_frozen HB1.trd 1 : w1.frozen? ⟨w.heap.size + 1 + 1, 1, none⟩ = false); have y2 := (blk_frozen HB1.trd 2 : w1.frozen? ⟨w.heap.size + 1 + 1, 2, none⟩ = false); have y3 := (blk_frozen HB1.trd 3 : w1.frozen? ⟨w.heap.size + 1 + 1, 3, none⟩ = false)))
  refine bodyPost_ret (results_ct rfl _ _ (w.heap.size + 1 + 1) 24 #[.int .i64 0, .string ⟨#[]⟩, .int .i64 0, .slice none 0 0] (0, 0) _ rfl (blk_put4 HB1.trd) Tryd.underlying24 rfl (by kernel_rfl)) rfl ?_
  exact ⟨rfl, below_set4 HB1.below (by omega)⟩
set_option maxRecDepth 100000 in
set_option maxHeartbeats 4000000 in
theorem apply_e2 (x : S24) (o : S27) (A AR AN : Option Addr) (c cR cN : Nat) (w : World) (HA : Aside0 (Kd.C k24 w A x.f3.length x.f3)) (HR : Aside0 (Kd.C (Kd.int .i64) w AR o.f1.length o.f1)) (HN : Aside0 (Kd.C k24 w AN o.f4.length o.f4)) (HV : Aside0 (∀ W : World, Kd.C k24 W A x.f3.length x.f3 → Calls Tryd.prog 27 #[.agg #[.int .i64 x.f0, .string x.f1, .int .i64 x.f2, .slice A x.f3.length c]] W fun e w' => e = .returned (.bool true) ∧ Below W.heap.size W w')) (HF : Aside0 (∀ W : World, Kd.C (Kd.int .i64) W AR o.f1.length o.f1 → Kd.C k24 W AN o.f4.length o.f4 → Calls Tryd.prog 28 #[.agg #[.int .i64 o.f0, .slice AR o.f1.length cR, .int .i64 o.f2, .int .i64 o.f3, .slice AN o.f4.length cN, .int .i64 o.f5, .string o.f6, .string o.f7]] W fun e w' => e = .returned (.bool false) ∧ Below W.heap.size W w')) :
    Calls Tryd.prog 11 #[.agg #[.int .i64 x.f0, .string x.f1, .int .i64 x.f2, .slice A x.f3.length c], .agg #[.int .i64 o.f0, .slice AR o.f1.length cR, .int .i64 o.f2, .int .i64 o.f3, .slice AN o.f4.length cN, .int .i64 o.f5, .string o.f6, .string o.f7]] w (ErrPost w 4) := by
  go_enter Tryd.func11, Tryd.ntmps11
  go_wp2_with (first | (go_at_call 27; go_loud (refine (HV.out _ (Kd.C_below HA.out (Boxes.new w _ _ _).below)).mono ?_; rintro e w1 ⟨rfl, hB1⟩; have HB1 := (Boxes.new w _ _ _).on hB1; clear hB1; have o0 := (blk_cell HB1.snd 0 : w1.cell? ⟨w.heap.size + 1, 0, none⟩ = _); have o1 := (blk_cell HB1.snd 1 : w1.cell? ⟨w.heap.size + 1, 1, none⟩ = _); have o2 := (blk_cell HB1.snd 2 : w1.cell? ⟨w.heap.size + 1, 2, none⟩ = _); have o3 := (blk_cell HB1.snd 3 : w1.cell? ⟨w.heap.size + 1, 3, none⟩ = _); have o4 := (blk_cell HB1.snd 4 : w1.cell? ⟨w.heap.size + 1, 4, none⟩ = _); have o5 := (blk_cell HB1.snd 5 : w1.cell? ⟨w.heap.size + 1, 5, none⟩ = _); have o6 := (blk_cell HB1.snd 6 : w1.cell? ⟨w.heap.size + 1, 6, none⟩ = _); have o7 := (blk_cell HB1.snd 7 : w1.cell? ⟨w.heap.size + 1, 7, none⟩ = _))) | (go_at_call 28; go_loud (refine (HF.out _ (Kd.C_below HR.out HB1.below) (Kd.C_below HN.out HB1.below)).mono ?_; rintro e w2 ⟨rfl, hB2⟩; have HB2 := HB1.on hB2; clear hB2 HB1; clear o0 o1 o2 o3 o4 o5 o6 o7; have z0 := (blk_cell HB2.trd 0 : w2.cell? ⟨w.heap.size + 1 + 1, 0, none⟩ = _); have z1 := (blk_cell HB2.trd 1 : w2.cell? ⟨w.heap.size + 1 + 1, 1, none⟩ = _); have z2 := (blk_cell HB2.trd 2 : w2.cell? ⟨w.heap.size + 1 + 1, 2, none⟩ = _); have z3 := (blk_cell HB2.trd 3 : w2.cell? ⟨w.heap.size + 1 + 1, 3, none⟩ = _); have y0 := (blk_frozen HB2.trd 0 : w2.frozen? ⟨w.heap.size + 1 + 1, 0, none⟩ = false); have y1 := (blk_frozen HB2.trd 1 : w2.frozen? ⟨w.heap.size + 1 + 1, 1, none⟩ = false); have y2 := (blk_frozen HB2.trd 2 : w2.frozen? ⟨w.heap.size + 1 + 1, 2, none⟩ = false); have y3 := (blk_frozen HB2.trd 3 : w2.frozen? ⟨w.heap.size + 1 + 1, 3, none⟩ = false))))
  refine bodyPost_ret (results_ct rfl _ _ (w.heap.size + 1 + 1) 24 #[.int .i64 0, .string ⟨#[]⟩, .int .i64 0, .slice none 0 0] (0, 0) _ rfl (blk_put4 HB2.trd) Tryd.underlying24 rfl (by kernel_rfl)) rfl ?_
  exact ⟨rfl, below_set4 HB2.below (by omega)⟩
set_option maxRecDepth 100000 in
set_option maxHeartbeats 4000000 in
theorem apply_e3 (r : S24) (ev : Int) (he : ¬ ev = 0) (x : S24) (o : S27) (A AR AN : Option Addr) (c cR cN : Nat) (w : World) (HA : Aside0 (Kd.C k24 w A x.f3.length x.f3)) (HR : Aside0 (Kd.C (Kd.int .i64) w AR o.f1.length o.f1)) (HN : Aside0 (Kd.C k24 w AN o.f4.length o.f4)) (HV : Aside0 (∀ W : World, Kd.C k24 W A x.f3.length x.f3 → Calls Tryd.prog 27 #[.agg #[.int .i64 x.f0, .string x.f1, .int .i64 x.f2, .slice A x.f3.length c]] W fun e w' => e = .returned (.bool true) ∧ Below W.heap.size W w')) (HF : Aside0 (∀ W : World, Kd.C (Kd.int .i64) W AR o.f1.length o.f1 → Kd.C k24 W AN o.f4.length o.f4 → Calls Tryd.prog 28 #[.agg #[.int .i64 o.f0, .slice AR o.f1.length cR, .int .i64 o.f2, .int .i64 o.f3, .slice AN o.f4.length cN, .int .i64 o.f5, .string o.f6, .string o.f7]] W fun e w' => e = .returned (.bool true) ∧ Below W.heap.size W w')) (HROW : Aside0 (∀ W : World, Kd.C k24 W A x.f3.length x.f3 → Kd.C (Kd.int .i64) W AR o.f1.length o.f1 → Calls Tryd.prog 29 #[.agg #[.int .i64 x.f0, .string x.f1, .int .i64 x.f2, .slice A x.f3.length c], .slice AR o.f1.length cR] W fun e w' => ∃ v : Value, e = .returned (.tuple #[.agg #[.int .i64 r.f0, .string r.f1, .int .i64 r.f2, v], .int .i64 ev]) ∧ Kd.R k24 24 w' W.heap.size (fun _ => True) v r.f3 ∧ Below W.heap.size W w')) :
    Calls Tryd.prog 11 #[.agg #[.int .i64 x.f0, .string x.f1, .int .i64 x.f2, .slice A x.f3.length c], .agg #[.int .i64 o.f0, .slice AR o.f1.length cR, .int .i64 o.f2, .int .i64 o.f3, .slice AN o.f4.length cN, .int .i64 o.f5, .string o.f6, .string o.f7]] w (ErrPost w ev) := by
  go_enter Tryd.func11, Tryd.ntmps11
  go_wp2_with (first | (go_at_call 27; go_loud (refine (HV.out _ (Kd.C_below HA.out (Boxes.new w _ _ _).below)).mono ?_; rintro e w1 ⟨rfl, hB1⟩; have HB1 := (Boxes.new w _ _ _).on hB1; clear hB1; have o0 := (blk_cell HB1.snd 0 : w1.cell? ⟨w.heap.size + 1, 0, none⟩ = _); have o1 := (blk_cell HB1.snd 1 : w1.cell? ⟨w.heap.size + 1, 1, none⟩ = _); have o2 := (blk_cell HB1.snd 2 : w1.cell? ⟨w.heap.size + 1, 2, none⟩ = _); have o3 := (blk_cell HB1.snd 3 : w1.cell? ⟨w.heap.size + 1, 3, none⟩ = _); have o4 := (blk_cell HB1.snd 4 : w1.cell? ⟨w.heap.size + 1, 4, none⟩ = _); have o5 := (blk_cell HB1.snd 5 : w1.cell? ⟨w.heap.size + 1, 5, none⟩ = _); have o6 := (blk_cell HB1.snd 6 : w1.cell? ⟨w.heap.size + 1, 6, none⟩ = _); have o7 := (blk_cell HB1.snd 7 : w1.cell? ⟨w.heap.size + 1, 7, none⟩ = _))) | (go_at_call 28; go_loud (refine (HF.out _ (Kd.C_below HR.out HB1.below) (Kd.C_below HN.out HB1.below)).mono ?_; rintro e w2 ⟨rfl, hB2⟩; have HB2 := HB1.on hB2; clear hB2 HB1; clear o0 o1 o2 o3 o4 o5 o6 o7; have x0 := (blk_cell HB2.fst 0 : w2.cell? ⟨w.heap.size, 0, none⟩ = _); have x1 := (blk_cell HB2.fst 1 : w2.cell? ⟨w.heap.size, 1, none⟩ = _); have x2 := (blk_cell HB2.fst 2 : w2.cell? ⟨w.heap.size, 2, none⟩ = _); have x3 := (blk_cell HB2.fst 3 : w2.cell? ⟨w.heap.size, 3, none⟩ = _); have o0 := (blk_cell HB2.snd 0 : w2.cell? ⟨w.heap.size + 1, 0, none⟩ = _); have o1 := (blk_cell HB2.snd 1 : w2.cell? ⟨w.heap.size + 1, 1, none⟩ = _); have o2 := (blk_cell HB2.snd 2 : w2.cell? ⟨w.heap.size + 1, 2, none⟩ = _); have o3 := (blk_cell HB2.snd 3 : w2.cell? ⟨w.heap.size + 1, 3, none⟩ = _); have o4 := (blk_cell HB2.snd 4 : w2.cell? ⟨w.heap.size + 1, 4, none⟩ = _); have o5 := (blk_cell HB2.snd 5 : w2.cell? ⟨w.heap.size + 1, 5, none⟩ = _); have o6 := (blk_cell HB2.snd 6 : w2.cell? ⟨w.heap.size + 1, 6, none⟩ = _); have o7 := (blk_cell HB2.snd 7 : w2.cell? ⟨w.heap.size + 1, 7, none⟩ = _))) | (go_at_call 29; go_loud (refine (HROW.out _ (Kd.C_below HA.out HB2.below) (Kd.C_below HR.out HB2.below)).mono ?_; rintro e w3 ⟨v, rfl, hRR, hB3⟩; obtain ⟨A1, c1, rfl⟩ := Kd.R_slice hRR; have HB3 := HB2.on hB3; clear hB3 HB2; clear x0 x1 x2 x3 o0 o1 o2 o3 o4 o5 o6 o7; have z0 := fun o => (blk_cell (blk_allocO HB3.trd o) 0 : (w3.alloc o).cell? ⟨w.heap.size + 1 + 1, 0, none⟩ = _); have z1 := fun o => (blk_cell (blk_allocO HB3.trd o) 1 : (w3.alloc o).cell? ⟨w.heap.size + 1 + 1, 1, none⟩ = _); have z2 := fun o => (blk_cell (blk_allocO HB3.trd o) 2 : (w3.alloc o).cell? ⟨w.heap.size + 1 + 1, 2, none⟩ = _); have z3 := fun o => (blk_cell (blk_allocO HB3.trd o) 3 : (w3.alloc o).cell? ⟨w.heap.size + 1 + 1, 3, none⟩ = _); have y0 := fun o => (blk_frozen (blk_allocO HB3.trd o) 0 : (w3.alloc o).frozen? ⟨w.heap.size + 1 + 1, 0, none⟩ = false); have y1 := fun o => (blk_frozen (blk_allocO HB3.trd o) 1 : (w3.alloc o).frozen? ⟨w.heap.size + 1 + 1, 1, none⟩ = false); have y2 := fun o => (blk_frozen (blk_allocO HB3.trd o) 2 : (w3.alloc o).frozen? ⟨w.heap.size + 1 + 1, 2, none⟩ = false); have y3 := fun o => (blk_frozen (blk_allocO HB3.trd o) 3 : (w3.alloc o).frozen? ⟨w.heap.size + 1 + 1, 3, none⟩ = false))))
  refine bodyPost_ret (results_ct rfl _ _ (w.heap.size + 1 + 1) 24 #[.int .i64 0, .string ⟨#[]⟩, .int .i64 0, .slice none 0 0] (0, 0) _ rfl (blk_put4 (HB3.alloc _).trd) Tryd.underlying24 rfl (by kernel_rfl)) rfl ?_
  exact ⟨rfl, below_set4 (HB3.alloc _).below (by omega)⟩
end Go.Proofs.YtgcpfelccfnnbaaDoor.X
namespace Go.Proofs.YtgcpfelccfnnbaaDoor.X
open Go.RowKit Go.Proofs.YtgcpfelccfnnbaaDoorW.PrintWords Go.Proofs.YtgcpfelccfnnbaaDoorW.PrintLast Go.Proofs.YtgcpfelccfnnbaaDoorW.PrintMore
attribute [local go_sem] max2_int min2_int max_two min_two max_three min_three max_four min_four   -- for this text's walks alone
set_option linter.unusedVariables false
set_option linter.unusedSimpArgs false
def apply9.T : Bool × List (List Nat × List Nat) := (true, [([], []), ([0], [0]), ([1], [1]), ([2], [2]), ([3], [3]), ([4, 3], [3, 4]), ([3], [3]), ([5, 6, 3], [3, 5, 6]), ([3, 7], [3, 7]), ([8, 3], [8]), ([9], [9]), ([10, 9, 9], [9, 10]), ([9], [9]), ([9], [9]), ([13, 9], [9, 13]), ([12, 14, 9], [9, 12, 14]), ([11, 15, 9], [9, 11, 15]), ([9, 16], [9, 16])])
def apply9.B : List Nat := [0, 1, 3, 7, 15, 31, 15, 127, 255, 511, 1023, 2047, 1023, 1023, 9215, 29695, 65535, 131071]
theorem apply9.tab : rtab .any (opsOf Tryd.f11 9) = apply9.T := by kernel_rfl
theorem apply9.bits : waitsOk apply9.T.2 apply9.B = true := by kernel_rfl
set_option maxRecDepth 100000 in
set_option maxHeartbeats 4000000 in
theorem apply_e4a (r : S24) (x : S24) (o : S27) (A AR AN : Option Addr) (c cR cN : Nat) (w : World) (HA : Aside0 (Kd.C k24 w A x.f3.length x.f3)) (HR : Aside0 (Kd.C (Kd.int .i64) w AR o.f1.length o.f1)) (HN : Aside0 (Kd.C k24 w AN o.f4.length o.f4)) (HV : Aside0 (∀ W : World, Kd.C k24 W A x.f3.length x.f3 → Calls Tryd.prog 27 #[.agg #[.int .i64 x.f0, .string x.f1, .int .i64 x.f2, .slice A x.f3.length c]] W fun e w' => e = .returned (.bool true) ∧ Below W.heap.size W w')) (HF : Aside0 (∀ W : World, Kd.C (Kd.int .i64) W AR o.f1.length o.f1 → Kd.C k24 W AN o.f4.length o.f4 → Calls Tryd.prog 28 #[.agg #[.int .i64 o.f0, .slice AR o.f1.length cR, .int .i64 o.f2, .int .i64 o.f3, .slice AN o.f4.length cN, .int .i64 o.f5, .string o.f6, .string o.f7]] W fun e w' => e = .returned (.bool true) ∧ Below W.heap.size W w')) (HROW : Aside0 (∀ W : World, Kd.C k24 W A x.f3.length x.f3 → Kd.C (Kd.int .i64) W AR o.f1.length o.f1 → Calls Tryd.prog 29 #[.agg #[.int .i64 x.f0, .string x.f1, .int .i64 x.f2, .slice A x.f3.length c], .slice AR o.f1.length cR] W fun e w' => ∃ v : Value, e = .returned (.tuple #[.agg #[.int .i64 r.f0, .string r.f1, .int .i64 r.f2, v], .int .i64 0]) ∧ Kd.R k24 24 w' W.heap.size (fun _ => True) v r.f3 ∧ Below W.heap.size W w')) (h39 : decide (o.f2 < 0) = true) :
    Calls Tryd.prog 11 #[.agg #[.int .i64 x.f0, .string x.f1, .int .i64 x.f2, .slice A x.f3.length c], .agg #[.int .i64 o.f0, .slice AR o.f1.length cR, .int .i64 o.f2, .int .i64 o.f3, .slice AN o.f4.length cN, .int .i64 o.f5, .string o.f6, .string o.f7]] w (ErrPost w 2) := by
  go_enter Tryd.func11, Tryd.ntmps11
  go_wp2_with (first | (go_at_call 27; go_loud (refine (HV.out _ (Kd.C_below HA.out (Boxes.new w _ _ _).below)).mono ?_; rintro e w1 ⟨rfl, hB1⟩; have HB1 := (Boxes.new w _ _ _).on hB1; clear hB1; have o0 := (blk_cell HB1.snd 0 : w1.cell? ⟨w.heap.size + 1, 0, none⟩ = _); have o1 := (blk_cell HB1.snd 1 : w1.cell? ⟨w.heap.size + 1, 1, none⟩ = _); have o2 := (blk_cell HB1.snd 2 : w1.cell? ⟨w.heap.size + 1, 2, none⟩ = _); have o3 := (blk_cell HB1.snd 3 : w1.cell? ⟨w.heap.size + 1, 3, none⟩ = _); have o4 := (blk_cell HB1.snd 4 : w1.cell? ⟨w.heap.size + 1, 4, none⟩ = _); have o5 := (blk_cell HB1.snd 5 : w1.cell? ⟨w.heap.size + 1, 5, none⟩ = _); have o6 := (blk_cell HB1.snd 6 : w1.cell? ⟨w.heap.size + 1, 6, none⟩ = _); have o7 := (blk_cell HB1.snd 7 : w1.cell? ⟨w.heap.size + 1, 7, none⟩ = _))) | (go_at_call 28; go_loud (refine (HF.out _ (Kd.C_below HR.out HB1.below) (Kd.C_below HN.out HB1.below)).mono ?_; rintro e w2 ⟨rfl, hB2⟩; have HB2 := HB1.on hB2; clear hB2 HB1; clear o0 o1 o2 o3 o4 o5 o6 o7; have x0 := (blk_cell HB2.fst 0 : w2.cell? ⟨w.heap.size, 0, none⟩ = _); have x1 := (blk_cell HB2.fst 1 : w2.cell? ⟨w.heap.size, 1, none⟩ = _); have x2 := (blk_cell HB2.fst 2 : w2.cell? ⟨w.heap.size, 2, none⟩ = _); have x3 := (blk_cell HB2.fst 3 : w2.cell? ⟨w.heap.size, 3, none⟩ = _); have o0 := (blk_cell HB2.snd 0 : w2.cell? ⟨w.heap.size + 1, 0, none⟩ = _); have o1 := (blk_cell HB2.snd 1 : w2.cell? ⟨w.heap.size + 1, 1, none⟩ = _); have o2 := (blk_cell HB2.snd 2 : w2.cell? ⟨w.heap.size + 1, 2, none⟩ = _); have o3 := (blk_cell HB2.snd 3 : w2.cell? ⟨w.heap.size + 1, 3, none⟩ = _); have o4 := (blk_cell HB2.snd 4 : w2.cell? ⟨w.heap.size + 1, 4, none⟩ = _); have o5 := (blk_cell HB2.snd 5 : w2.cell? ⟨w.heap.size + 1, 5, none⟩ = _); have o6 := (blk_cell HB2.snd 6 : w2.cell? ⟨w.heap.size + 1, 6, none⟩ = _); have o7 := (blk_cell HB2.snd 7 : w2.cell? ⟨w.heap.size + 1, 7, none⟩ = _))) | (go_at_call 29; go_loud (refine (HROW.out _ (Kd.C_below HA.out HB2.below) (Kd.C_below HR.out HB2.below)).mono ?_; rintro e w3 ⟨v, rfl, hRR, hB3⟩; obtain ⟨A1, c1, rfl⟩ := Kd.R_slice hRR; have HB3 := HB2.on hB3; clear hB3 HB2; clear x0 x1 x2 x3 o0 o1 o2 o3 o4 o5 o6 o7; have HRR := Aside0.mk hRR; clear hRR; skip)))
  have HB4 := HB3.alloc (.cells #[.int .i64 r.f0, .string r.f1, .int .i64 r.f2, .slice A1 r.f3.length c1] 24)
  have HRB4 := heap_alloc_new w3 (.cells #[.int .i64 r.f0, .string r.f1, .int .i64 r.f2, .slice A1 r.f3.length c1] 24)
  clear HB3
  clear HRB4
  refine start_ (n := 18) (S := fun w' => w'.cell? ⟨w.heap.size + 1, 0, none⟩ = some (.int .i64 o.f0) ∧ w'.cell? ⟨w.heap.size + 1, 1, none⟩ = some (.slice AR o.f1.length cR) ∧ w'.cell? ⟨w.heap.size + 1, 2, none⟩ = some (.int .i64 o.f2) ∧ w'.cell? ⟨w.heap.size + 1, 3, none⟩ = some (.int .i64 o.f3) ∧ w'.cell? ⟨w.heap.size + 1, 4, none⟩ = some (.slice AN o.f4.length cN) ∧ w'.cell? ⟨w.heap.size + 1, 5, none⟩ = some (.int .i64 o.f5) ∧ w'.cell? ⟨w.heap.size + 1, 6, none⟩ = some (.string o.f6) ∧ w'.cell? ⟨w.heap.size + 1, 7, none⟩ = some (.string o.f7)) (ds := []) #[false, false, false, false, false, false, false, false, false, false, false, false, false, false, false, false, false, false] (by kernel_rfl) rfl rfl ⟨blk_cell HB4.drew.snd 0, blk_cell HB4.drew.snd 1, blk_cell HB4.drew.snd 2, blk_cell HB4.drew.snd 3, blk_cell HB4.drew.snd 4, blk_cell HB4.drew.snd 5, blk_cell HB4.drew.snd 6, blk_cell HB4.drew.snd 7⟩ (fun hHeld => ?_); refine with_tabW apply9.tab apply9.bits (fun HT_ HW_ => ?_)
  have HB5 := HB4.drew
  clear HB4
  generalize (w3.alloc (.cells #[.int .i64 r.f0, .string r.f1, .int .i64 r.f2, .slice A1 r.f3.length c1] 24)).drew = W5 at HB5 hHeld ⊢
  refine pure_ (i := 0) (N := some 37) (v := ?_) (a' := ?_) #[true, false, false, false, false, false, false, false, false, false, false, false, false, false, false, false, false, false] rfl rfl (any_of HT_.out (by kernel_rfl)) (fun _ _ _ h => h) (Or.inl ⟨by rfl, ?_⟩) ?_ ?_
  rotate_left
  · intro w'
    go_simp
    with_reducible rfl
  rotate_left
  · simp only [Act.put, List.setIfInBounds_toArray, List.set_cons_zero, List.set_cons_succ, i64_w, i32_w]
    rfl
  refine take_ (i := 1) (N := some 38) (v := ?_) (a' := ?_) #[true, true, false, false, false, false, false, false, false, false, false, false, false, false, false, false, false, false] rfl rfl (take_ofW HT_.out HW_.out (by kernel_rfl)) (fun _ _ _ h => h) (Or.inl ⟨by rfl, ?_⟩) hHeld ?_ ?_
  rotate_left
  · rintro w' ⟨s0, s1, s2, s3, s4, s5, s6, s7⟩
    go_simp
    with_reducible rfl
  rotate_left
  · simp only [Act.put, List.setIfInBounds_toArray, List.set_cons_zero, List.set_cons_succ, i64_w, i32_w]
    rfl
  refine pure_ (i := 2) (N := some 39) (v := ?_) (a' := ?_) #[true, true, true, false, false, false, false, false, false, false, false, false, false, false, false, false, false, false] rfl rfl (any_of HT_.out (by kernel_rfl)) (fun _ _ _ h => h) (Or.inl ⟨by rfl, ?_⟩) ?_ ?_
  rotate_left
  · intro w'
    go_simp
    with_reducible rfl
  rotate_left
  · simp only [Act.put, List.setIfInBounds_toArray, List.set_cons_zero, List.set_cons_succ, i64_w, i32_w]
    rfl
  refine pure_ (i := 3) (N := some 40) (v := ?_) (a' := ?_) #[true, true, true, true, false, false, false, false, false, false, false, false, false, false, false, false, false, false] rfl rfl (any_of HT_.out (by kernel_rfl)) (fun _ _ _ h => h) (Or.inl ⟨by rfl, ?_⟩) ?_ ?_
  rotate_left
  · intro w'
    go_simp
    with_reducible rfl
  rotate_left
  · simp only [Act.put, List.setIfInBounds_toArray, List.set_cons_zero, List.set_cons_succ, i64_w, i32_w]
    rfl
  refine pure_ (i := 4) (N := some 41) (v := undef) (a' := ?_) #[true, true, true, true, true, false, false, false, false, false, false, false, false, false, false, false, false, false] rfl rfl (any_of HT_.out (by kernel_rfl)) (fun _ _ _ h => h) (Or.inr ⟨by rfl, rfl⟩) ?_ ?_
  rotate_left
  · simp only [Act.put, List.setIfInBounds_toArray, List.set_cons_zero, List.set_cons_succ, i64_w, i32_w]
    rfl
  refine pure_ (i := 5) (N := some 42) (v := undef) (a' := ?_) #[true, true, true, true, true, true, false, false, false, false, false, false, false, false, false, false, false, false] rfl rfl (any_of HT_.out (by kernel_rfl)) (fun _ _ _ h => h) (Or.inr ⟨by rfl, rfl⟩) ?_ ?_
  rotate_left
  · simp only [Act.put, List.setIfInBounds_toArray, List.set_cons_zero, List.set_cons_succ, i64_w, i32_w]
    rfl
  refine pure_ (i := 6) (N := some 43) (v := undef) (a' := ?_) #[true, true, true, true, true, true, true, false, false, false, false, false, false, false, false, false, false, false] rfl rfl (any_of HT_.out (by kernel_rfl)) (fun _ _ _ h => h) (Or.inr ⟨by rfl, rfl⟩) ?_ ?_
  rotate_left
  · simp only [Act.put, List.setIfInBounds_toArray, List.set_cons_zero, List.set_cons_succ, i64_w, i32_w]
    rfl
  refine pure_ (i := 7) (N := some 44) (v := undef) (a' := ?_) #[true, true, true, true, true, true, true, true, false, false, false, false, false, false, false, false, false, false] rfl rfl (any_of HT_.out (by kernel_rfl)) (fun _ _ _ h => h) (Or.inr ⟨by rfl, rfl⟩) ?_ ?_
  rotate_left
  · simp only [Act.put, List.setIfInBounds_toArray, List.set_cons_zero, List.set_cons_succ, i64_w, i32_w]
    rfl
  refine pure_ (i := 8) (N := some 45) (v := ?_) (a' := ?_) #[true, true, true, true, true, true, true, true, true, false, false, false, false, false, false, false, false, false] rfl rfl (any_of HT_.out (by kernel_rfl)) (fun _ _ _ h => h) (Or.inl ⟨by rfl, ?_⟩) ?_ ?_
  rotate_left
  · intro w'
    go_simp
    with_reducible rfl
  rotate_left
  · simp only [Act.put, List.setIfInBounds_toArray, List.set_cons_zero, List.set_cons_succ, i64_w, i32_w]
    rfl
  refine pure_ (i := 9) (N := some 46) (v := ?_) (a' := ?_) #[true, true, true, true, true, true, true, true, true, true, false, false, false, false, false, false, false, false] rfl rfl (any_of HT_.out (by kernel_rfl)) (fun _ _ _ h => h) (Or.inl ⟨by rfl, ?_⟩) ?_ ?_
  rotate_left
  · intro w'
    go_simp
    with_reducible rfl
  rotate_left
  · simp only [Act.put, List.setIfInBounds_toArray, List.set_cons_zero, List.set_cons_succ, i64_w, i32_w]
    rfl
  refine pure_ (i := 10) (N := some 47) (v := undef) (a' := ?_) #[true, true, true, true, true, true, true, true, true, true, true, false, false, false, false, false, false, false] rfl rfl (any_of HT_.out (by kernel_rfl)) (fun _ _ _ h => h) (Or.inr ⟨by rfl, rfl⟩) ?_ ?_
  rotate_left
  · simp only [Act.put, List.setIfInBounds_toArray, List.set_cons_zero, List.set_cons_succ, i64_w, i32_w]
    rfl
  refine pure_ (i := 11) (N := some 48) (v := undef) (a' := ?_) #[true, true, true, true, true, true, true, true, true, true, true, true, false, false, false, false, false, false] rfl rfl (any_of HT_.out (by kernel_rfl)) (fun _ _ _ h => h) (Or.inr ⟨by rfl, rfl⟩) ?_ ?_
  rotate_left
  · simp only [Act.put, List.setIfInBounds_toArray, List.set_cons_zero, List.set_cons_succ, i64_w, i32_w]
    rfl
  refine pure_ (i := 12) (N := some 49) (v := undef) (a' := ?_) #[true, true, true, true, true, true, true, true, true, true, true, true, true, false, false, false, false, false] rfl rfl (any_of HT_.out (by kernel_rfl)) (fun _ _ _ h => h) (Or.inr ⟨by rfl, rfl⟩) ?_ ?_
  rotate_left
  · simp only [Act.put, List.setIfInBounds_toArray, List.set_cons_zero, List.set_cons_succ, i64_w, i32_w]
    rfl
  refine pure_ (i := 13) (N := some 50) (v := undef) (a' := ?_) #[true, true, true, true, true, true, true, true, true, true, true, true, true, true, false, false, false, false] rfl rfl (any_of HT_.out (by kernel_rfl)) (fun _ _ _ h => h) (Or.inr ⟨by rfl, rfl⟩) ?_ ?_
  rotate_left
  · simp only [Act.put, List.setIfInBounds_toArray, List.set_cons_zero, List.set_cons_succ, i64_w, i32_w]
    rfl
  refine pure_ (i := 14) (N := some 51) (v := undef) (a' := ?_) #[true, true, true, true, true, true, true, true, true, true, true, true, true, true, true, false, false, false] rfl rfl (any_of HT_.out (by kernel_rfl)) (fun _ _ _ h => h) (Or.inr ⟨by rfl, rfl⟩) ?_ ?_
  rotate_left
  · simp only [Act.put, List.setIfInBounds_toArray, List.set_cons_zero, List.set_cons_succ, i64_w, i32_w]
    rfl
  refine pure_ (i := 15) (N := some 52) (v := undef) (a' := ?_) #[true, true, true, true, true, true, true, true, true, true, true, true, true, true, true, true, false, false] rfl rfl (any_of HT_.out (by kernel_rfl)) (fun _ _ _ h => h) (Or.inr ⟨by rfl, rfl⟩) ?_ ?_
  rotate_left
  · simp only [Act.put, List.setIfInBounds_toArray, List.set_cons_zero, List.set_cons_succ, i64_w, i32_w]
    rfl
  refine pure_ (i := 16) (N := some 53) (v := undef) (a' := ?_) #[true, true, true, true, true, true, true, true, true, true, true, true, true, true, true, true, true, false] rfl rfl (any_of HT_.out (by kernel_rfl)) (fun _ _ _ h => h) (Or.inr ⟨by rfl, rfl⟩) ?_ ?_
  rotate_left
  · simp only [Act.put, List.setIfInBounds_toArray, List.set_cons_zero, List.set_cons_succ, i64_w, i32_w]
    rfl
  refine pure_ (i := 17) (N := some 54) (v := ?_) (a' := ?_) #[true, true, true, true, true, true, true, true, true, true, true, true, true, true, true, true, true, true] rfl rfl (any_of HT_.out (by kernel_rfl)) (fun _ _ _ h => h) (Or.inl ⟨by rfl, ?_⟩) ?_ ?_
  rotate_left
  · intro w'
    go_simp
    with_reducible rfl
  rotate_left
  · simp only [Act.put, List.setIfInBounds_toArray, List.set_cons_zero, List.set_cons_succ, i64_w, i32_w]
    rfl
  refine done_ (done_of HT_.out (by kernel_rfl)) ?_
  have z0 := (blk_cell HB5.trd 0 : W5.cell? ⟨w.heap.size + 1 + 1, 0, none⟩ = _)
  have z1 := (blk_cell HB5.trd 1 : W5.cell? ⟨w.heap.size + 1 + 1, 1, none⟩ = _)
  have z2 := (blk_cell HB5.trd 2 : W5.cell? ⟨w.heap.size + 1 + 1, 2, none⟩ = _)
  have z3 := (blk_cell HB5.trd 3 : W5.cell? ⟨w.heap.size + 1 + 1, 3, none⟩ = _)
  have y0 := (blk_frozen HB5.trd 0 : W5.frozen? ⟨w.heap.size + 1 + 1, 0, none⟩ = false)
  have y1 := (blk_frozen HB5.trd 1 : W5.frozen? ⟨w.heap.size + 1 + 1, 1, none⟩ = false)
  have y2 := (blk_frozen HB5.trd 2 : W5.frozen? ⟨w.heap.size + 1 + 1, 2, none⟩ = false)
  have y3 := (blk_frozen HB5.trd 3 : W5.frozen? ⟨w.heap.size + 1 + 1, 3, none⟩ = false)
  try go_wp2
  refine bodyPost_ret (results_ct rfl _ _ (w.heap.size + 1 + 1) 24 #[.int .i64 0, .string ⟨#[]⟩, .int .i64 0, .slice none 0 0] (0, 0) _ rfl (blk_put4 HB5.trd) Tryd.underlying24 rfl (by kernel_rfl)) rfl ?_
  exact ⟨rfl, below_set4 HB5.below (by omega)⟩
set_option maxRecDepth 100000 in
set_option maxHeartbeats 4000000 in
theorem apply_e4b (r : S24) (x : S24) (o : S27) (A AR AN : Option Addr) (c cR cN : Nat) (w : World) (HA : Aside0 (Kd.C k24 w A x.f3.length x.f3)) (HR : Aside0 (Kd.C (Kd.int .i64) w AR o.f1.length o.f1)) (HN : Aside0 (Kd.C k24 w AN o.f4.length o.f4)) (HV : Aside0 (∀ W : World, Kd.C k24 W A x.f3.length x.f3 → Calls Tryd.prog 27 #[.agg #[.int .i64 x.f0, .string x.f1, .int .i64 x.f2, .slice A x.f3.length c]] W fun e w' => e = .returned (.bool true) ∧ Below W.heap.size W w')) (HF : Aside0 (∀ W : World, Kd.C (Kd.int .i64) W AR o.f1.length o.f1 → Kd.C k24 W AN o.f4.length o.f4 → Calls Tryd.prog 28 #[.agg #[.int .i64 o.f0, .slice AR o.f1.length cR, .int .i64 o.f2, .int .i64 o.f3, .slice AN o.f4.length cN, .int .i64 o.f5, .string o.f6, .string o.f7]] W fun e w' => e = .returned (.bool true) ∧ Below W.heap.size W w')) (HROW : Aside0 (∀ W : World, Kd.C k24 W A x.f3.length x.f3 → Kd.C (Kd.int .i64) W AR o.f1.length o.f1 → Calls Tryd.prog 29 #[.agg #[.int .i64 x.f0, .string x.f1, .int .i64 x.f2, .slice A x.f3.length c], .slice AR o.f1.length cR] W fun e w' => ∃ v : Value, e = .returned (.tuple #[.agg #[.int .i64 r.f0, .string r.f1, .int .i64 r.f2, v], .int .i64 0]) ∧ Kd.R k24 24 w' W.heap.size (fun _ => True) v r.f3 ∧ Below W.heap.size W w')) (h39 : decide (o.f2 < 0) = false) (h44 : decide ((r.f3.length : Int) < o.f2) = true) :
    Calls Tryd.prog 11 #[.agg #[.int .i64 x.f0, .string x.f1, .int .i64 x.f2, .slice A x.f3.length c], .agg #[.int .i64 o.f0, .slice AR o.f1.length cR, .int .i64 o.f2, .int .i64 o.f3, .slice AN o.f4.length cN, .int .i64 o.f5, .string o.f6, .string o.f7]] w (ErrPost w 2) := by
  go_enter Tryd.func11, Tryd.ntmps11
  go_wp2_with (first | (go_at_call 27; go_loud (refine (HV.out _ (Kd.C_below HA.out (Boxes.new w _ _ _).below)).mono ?_; rintro e w1 ⟨rfl, hB1⟩; have HB1 := (Boxes.new w _ _ _).on hB1; clear hB1; have o0 := (blk_cell HB1.snd 0 : w1.cell? ⟨w.heap.size + 1, 0, none⟩ = _); have o1 := (blk_cell HB1.snd 1 : w1.cell? ⟨w.heap.size + 1, 1, none⟩ = _); have o2 := (blk_cell HB1.snd 2 : w1.cell? ⟨w.heap.size + 1, 2, none⟩ = _); have o3 := (blk_cell HB1.snd 3 : w1.cell? ⟨w.heap.size + 1, 3, none⟩ = _); have o4 := (blk_cell HB1.snd 4 : w1.cell? ⟨w.heap.size + 1, 4, none⟩ = _); have o5 := (blk_cell HB1.snd 5 : w1.cell? ⟨w.heap.size + 1, 5, none⟩ = _); have o6 := (blk_cell HB1.snd 6 : w1.cell? ⟨w.heap.size + 1, 6, none⟩ = _); have o7 := (blk_cell HB1.snd 7 : w1.cell? ⟨w.heap.size + 1, 7, none⟩ = _))) | (go_at_call 28; go_loud (refine (HF.out _ (Kd.C_below HR.out HB1.below) (Kd.C_below HN.out HB1.below)).mono ?_; rintro e w2 ⟨rfl, hB2⟩; have HB2 := HB1.on hB2; clear hB2 HB1; clear o0 o1 o2 o3 o4 o5 o6 o7; have x0 := (blk_cell HB2.fst 0 : w2.cell? ⟨w.heap.size, 0, none⟩ = _); have x1 := (blk_cell HB2.fst 1 : w2.cell? ⟨w.heap.size, 1, none⟩ = _); have x2 := (blk_cell HB2.fst 2 : w2.cell? ⟨w.heap.size, 2, none⟩ = _); have x3 := (blk_cell HB2.fst 3 : w2.cell? ⟨w.heap.size, 3, none⟩ = _); have o0 := (blk_cell HB2.snd 0 : w2.cell? ⟨w.heap.size + 1, 0, none⟩ = _); have o1 := (blk_cell HB2.snd 1 : w2.cell? ⟨w.heap.size + 1, 1, none⟩ = _); have o2 := (blk_cell HB2.snd 2 : w2.cell? ⟨w.heap.size + 1, 2, none⟩ = _); have o3 := (blk_cell HB2.snd 3 : w2.cell? ⟨w.heap.size + 1, 3, none⟩ = _); have o4 := (blk_cell HB2.snd 4 : w2.cell? ⟨w.heap.size + 1, 4, none⟩ = _); have o5 := (blk_cell HB2.snd 5 : w2.cell? ⟨w.heap.size + 1, 5, none⟩ = _); have o6 := (blk_cell HB2.snd 6 : w2.cell? ⟨w.heap.size + 1, 6, none⟩ = _); have o7 := (blk_cell HB2.snd 7 : w2.cell? ⟨w.heap.size + 1, 7, none⟩ = _))) | (go_at_call 29; go_loud (refine (HROW.out _ (Kd.C_below HA.out HB2.below) (Kd.C_below HR.out HB2.below)).mono ?_; rintro e w3 ⟨v, rfl, hRR, hB3⟩; obtain ⟨A1, c1, rfl⟩ := Kd.R_slice hRR; have HB3 := HB2.on hB3; clear hB3 HB2; clear x0 x1 x2 x3 o0 o1 o2 o3 o4 o5 o6 o7; have HRR := Aside0.mk hRR; clear hRR; skip)))
  have HB4 := HB3.alloc (.cells #[.int .i64 r.f0, .string r.f1, .int .i64 r.f2, .slice A1 r.f3.length c1] 24)
  have HRB4 := heap_alloc_new w3 (.cells #[.int .i64 r.f0, .string r.f1, .int .i64 r.f2, .slice A1 r.f3.length c1] 24)
  clear HB3
  clear HRB4
  refine start_ (n := 18) (S := fun w' => w'.cell? ⟨w.heap.size + 1, 0, none⟩ = some (.int .i64 o.f0) ∧ w'.cell? ⟨w.heap.size + 1, 1, none⟩ = some (.slice AR o.f1.length cR) ∧ w'.cell? ⟨w.heap.size + 1, 2, none⟩ = some (.int .i64 o.f2) ∧ w'.cell? ⟨w.heap.size + 1, 3, none⟩ = some (.int .i64 o.f3) ∧ w'.cell? ⟨w.heap.size + 1, 4, none⟩ = some (.slice AN o.f4.length cN) ∧ w'.cell? ⟨w.heap.size + 1, 5, none⟩ = some (.int .i64 o.f5) ∧ w'.cell? ⟨w.heap.size + 1, 6, none⟩ = some (.string o.f6) ∧ w'.cell? ⟨w.heap.size + 1, 7, none⟩ = some (.string o.f7)) (ds := []) #[false, false, false, false, false, false, false, false, false, false, false, false, false, false, false, false, false, false] (by kernel_rfl) rfl rfl ⟨blk_cell HB4.drew.snd 0, blk_cell HB4.drew.snd 1, blk_cell HB4.drew.snd 2, blk_cell HB4.drew.snd 3, blk_cell HB4.drew.snd 4, blk_cell HB4.drew.snd 5, blk_cell HB4.drew.snd 6, blk_cell HB4.drew.snd 7⟩ (fun hHeld => ?_); refine with_tabW apply9.tab apply9.bits (fun HT_ HW_ => ?_)
  have HB5 := HB4.drew
  clear HB4
  generalize (w3.alloc (.cells #[.int .i64 r.f0, .string r.f1, .int .i64 r.f2, .slice A1 r.f3.length c1] 24)).drew = W5 at HB5 hHeld ⊢
  refine pure_ (i := 0) (N := some 37) (v := ?_) (a' := ?_) #[true, false, false, false, false, false, false, false, false, false, false, false, false, false, false, false, false, false] rfl rfl (any_of HT_.out (by kernel_rfl)) (fun _ _ _ h => h) (Or.inl ⟨by rfl, ?_⟩) ?_ ?_
  rotate_left
  · intro w'
    go_simp
    with_reducible rfl
  rotate_left
  · simp only [Act.put, List.setIfInBounds_toArray, List.set_cons_zero, List.set_cons_succ, i64_w, i32_w]
    rfl
  refine take_ (i := 1) (N := some 38) (v := ?_) (a' := ?_) #[true, true, false, false, false, false, false, false, false, false, false, false, false, false, false, false, false, false] rfl rfl (take_ofW HT_.out HW_.out (by kernel_rfl)) (fun _ _ _ h => h) (Or.inl ⟨by rfl, ?_⟩) hHeld ?_ ?_
  rotate_left
  · rintro w' ⟨s0, s1, s2, s3, s4, s5, s6, s7⟩
    go_simp
    with_reducible rfl
  rotate_left
  · simp only [Act.put, List.setIfInBounds_toArray, List.set_cons_zero, List.set_cons_succ, i64_w, i32_w]
    rfl
  refine pure_ (i := 2) (N := some 39) (v := ?_) (a' := ?_) #[true, true, true, false, false, false, false, false, false, false, false, false, false, false, false, false, false, false] rfl rfl (any_of HT_.out (by kernel_rfl)) (fun _ _ _ h => h) (Or.inl ⟨by rfl, ?_⟩) ?_ ?_
  rotate_left
  · intro w'
    go_simp
    with_reducible rfl
  rotate_left
  · simp only [Act.put, List.setIfInBounds_toArray, List.set_cons_zero, List.set_cons_succ, i64_w, i32_w]
    rfl
  refine pure_ (i := 3) (N := some 40) (v := ?_) (a' := ?_) #[true, true, true, true, false, false, false, false, false, false, false, false, false, false, false, false, false, false] rfl rfl (any_of HT_.out (by kernel_rfl)) (fun _ _ _ h => h) (Or.inl ⟨by rfl, ?_⟩) ?_ ?_
  rotate_left
  · intro w'
    go_simp
    with_reducible rfl
  rotate_left
  · simp only [Act.put, List.setIfInBounds_toArray, List.set_cons_zero, List.set_cons_succ, i64_w, i32_w]
    rfl
  refine pure_ (i := 4) (N := some 41) (v := ?_) (a' := ?_) #[true, true, true, true, true, false, false, false, false, false, false, false, false, false, false, false, false, false] rfl rfl (any_of HT_.out (by kernel_rfl)) (fun _ _ _ h => h) (Or.inl ⟨by rfl, ?_⟩) ?_ ?_
  rotate_left
  · intro w'
    go_simp
    with_reducible rfl
  rotate_left
  · simp only [Act.put, List.setIfInBounds_toArray, List.set_cons_zero, List.set_cons_succ, i64_w, i32_w]
    rfl
  refine take_ (i := 5) (N := some 42) (v := ?_) (a' := ?_) #[true, true, true, true, true, true, false, false, false, false, false, false, false, false, false, false, false, false] rfl rfl (take_ofW HT_.out HW_.out (by kernel_rfl)) (fun _ _ _ h => h) (Or.inl ⟨by rfl, ?_⟩) hHeld ?_ ?_
  rotate_left
  · rintro w' ⟨s0, s1, s2, s3, s4, s5, s6, s7⟩
    go_simp
    with_reducible rfl
  rotate_left
  · simp only [Act.put, List.setIfInBounds_toArray, List.set_cons_zero, List.set_cons_succ, i64_w, i32_w]
    rfl
  refine pure_ (i := 6) (N := some 43) (v := ?_) (a' := ?_) #[true, true, true, true, true, true, true, false, false, false, false, false, false, false, false, false, false, false] rfl rfl (any_of HT_.out (by kernel_rfl)) (fun _ _ _ h => h) (Or.inl ⟨by rfl, ?_⟩) ?_ ?_
  rotate_left
  · intro w'
    go_simp
    with_reducible rfl
  rotate_left
  · simp only [Act.put, List.setIfInBounds_toArray, List.set_cons_zero, List.set_cons_succ, i64_w, i32_w]
    rfl
  refine pure_ (i := 7) (N := some 44) (v := ?_) (a' := ?_) #[true, true, true, true, true, true, true, true, false, false, false, false, false, false, false, false, false, false] rfl rfl (any_of HT_.out (by kernel_rfl)) (fun _ _ _ h => h) (Or.inl ⟨by rfl, ?_⟩) ?_ ?_
  rotate_left
  · intro w'
    go_simp
    with_reducible rfl
  rotate_left
  · simp only [Act.put, List.setIfInBounds_toArray, List.set_cons_zero, List.set_cons_succ, i64_w, i32_w]
    rfl
  refine pure_ (i := 8) (N := some 45) (v := ?_) (a' := ?_) #[true, true, true, true, true, true, true, true, true, false, false, false, false, false, false, false, false, false] rfl rfl (any_of HT_.out (by kernel_rfl)) (fun _ _ _ h => h) (Or.inl ⟨by rfl, ?_⟩) ?_ ?_
  rotate_left
  · intro w'
    go_simp
    with_reducible rfl
  rotate_left
  · simp only [Act.put, List.setIfInBounds_toArray, List.set_cons_zero, List.set_cons_succ, i64_w, i32_w]
    rfl
  refine pure_ (i := 9) (N := some 46) (v := ?_) (a' := ?_) #[true, true, true, true, true, true, true, true, true, true, false, false, false, false, false, false, false, false] rfl rfl (any_of HT_.out (by kernel_rfl)) (fun _ _ _ h => h) (Or.inl ⟨by rfl, ?_⟩) ?_ ?_
  rotate_left
  · intro w'
    go_simp
    with_reducible rfl
  rotate_left
  · simp only [Act.put, List.setIfInBounds_toArray, List.set_cons_zero, List.set_cons_succ, i64_w, i32_w]
    rfl
  refine pure_ (i := 10) (N := some 47) (v := undef) (a' := ?_) #[true, true, true, true, true, true, true, true, true, true, true, false, false, false, false, false, false, false] rfl rfl (any_of HT_.out (by kernel_rfl)) (fun _ _ _ h => h) (Or.inr ⟨by rfl, rfl⟩) ?_ ?_
  rotate_left
  · simp only [Act.put, List.setIfInBounds_toArray, List.set_cons_zero, List.set_cons_succ, i64_w, i32_w]
    rfl
  refine pure_ (i := 11) (N := some 48) (v := undef) (a' := ?_) #[true, true, true, true, true, true, true, true, true, true, true, true, false, false, false, false, false, false] rfl rfl (any_of HT_.out (by kernel_rfl)) (fun _ _ _ h => h) (Or.inr ⟨by rfl, rfl⟩) ?_ ?_
  rotate_left
  · simp only [Act.put, List.setIfInBounds_toArray, List.set_cons_zero, List.set_cons_succ, i64_w, i32_w]
    rfl
  refine pure_ (i := 12) (N := some 49) (v := undef) (a' := ?_) #[true, true, true, true, true, true, true, true, true, true, true, true, true, false, false, false, false, false] rfl rfl (any_of HT_.out (by kernel_rfl)) (fun _ _ _ h => h) (Or.inr ⟨by rfl, rfl⟩) ?_ ?_
  rotate_left
  · simp only [Act.put, List.setIfInBounds_toArray, List.set_cons_zero, List.set_cons_succ, i64_w, i32_w]
    rfl
  refine pure_ (i := 13) (N := some 50) (v := undef) (a' := ?_) #[true, true, true, true, true, true, true, true, true, true, true, true, true, true, false, false, false, false] rfl rfl (any_of HT_.out (by kernel_rfl)) (fun _ _ _ h => h) (Or.inr ⟨by rfl, rfl⟩) ?_ ?_
  rotate_left
  · simp only [Act.put, List.setIfInBounds_toArray, List.set_cons_zero, List.set_cons_succ, i64_w, i32_w]
    rfl
  refine pure_ (i := 14) (N := some 51) (v := undef) (a' := ?_) #[true, true, true, true, true, true, true, true, true, true, true, true, true, true, true, false, false, false] rfl rfl (any_of HT_.out (by kernel_rfl)) (fun _ _ _ h => h) (Or.inr ⟨by rfl, rfl⟩) ?_ ?_
  rotate_left
  · simp only [Act.put, List.setIfInBounds_toArray, List.set_cons_zero, List.set_cons_succ, i64_w, i32_w]
    rfl
  refine pure_ (i := 15) (N := some 52) (v := undef) (a' := ?_) #[true, true, true, true, true, true, true, true, true, true, true, true, true, true, true, true, false, false] rfl rfl (any_of HT_.out (by kernel_rfl)) (fun _ _ _ h => h) (Or.inr ⟨by rfl, rfl⟩) ?_ ?_
  rotate_left
  · simp only [Act.put, List.setIfInBounds_toArray, List.set_cons_zero, List.set_cons_succ, i64_w, i32_w]
    rfl
  refine pure_ (i := 16) (N := some 53) (v := undef) (a' := ?_) #[true, true, true, true, true, true, true, true, true, true, true, true, true, true, true, true, true, false] rfl rfl (any_of HT_.out (by kernel_rfl)) (fun _ _ _ h => h) (Or.inr ⟨by rfl, rfl⟩) ?_ ?_
  rotate_left
  · simp only [Act.put, List.setIfInBounds_toArray, List.set_cons_zero, List.set_cons_succ, i64_w, i32_w]
    rfl
  refine pure_ (i := 17) (N := some 54) (v := ?_) (a' := ?_) #[true, true, true, true, true, true, true, true, true, true, true, true, true, true, true, true, true, true] rfl rfl (any_of HT_.out (by kernel_rfl)) (fun _ _ _ h => h) (Or.inl ⟨by rfl, ?_⟩) ?_ ?_
  rotate_left
  · intro w'
    go_simp
    with_reducible rfl
  rotate_left
  · simp only [Act.put, List.setIfInBounds_toArray, List.set_cons_zero, List.set_cons_succ, i64_w, i32_w]
    rfl
  refine done_ (done_of HT_.out (by kernel_rfl)) ?_
  have z0 := (blk_cell HB5.trd 0 : W5.cell? ⟨w.heap.size + 1 + 1, 0, none⟩ = _)
  have z1 := (blk_cell HB5.trd 1 : W5.cell? ⟨w.heap.size + 1 + 1, 1, none⟩ = _)
  have z2 := (blk_cell HB5.trd 2 : W5.cell? ⟨w.heap.size + 1 + 1, 2, none⟩ = _)
  have z3 := (blk_cell HB5.trd 3 : W5.cell? ⟨w.heap.size + 1 + 1, 3, none⟩ = _)
  have y0 := (blk_frozen HB5.trd 0 : W5.frozen? ⟨w.heap.size + 1 + 1, 0, none⟩ = false)
  have y1 := (blk_frozen HB5.trd 1 : W5.frozen? ⟨w.heap.size + 1 + 1, 1, none⟩ = false)
  have y2 := (blk_frozen HB5.trd 2 : W5.frozen? ⟨w.heap.size + 1 + 1, 2, none⟩ = false)
  have y3 := (blk_frozen HB5.trd 3 : W5.frozen? ⟨w.heap.size + 1 + 1, 3, none⟩ = false)
  try go_wp2
  refine bodyPost_ret (results_ct rfl _ _ (w.heap.size + 1 + 1) 24 #[.int .i64 0, .string ⟨#[]⟩, .int .i64 0, .slice none 0 0] (0, 0) _ rfl (blk_put4 HB5.trd) Tryd.underlying24 rfl (by kernel_rfl)) rfl ?_
  exact ⟨rfl, below_set4 HB5.below (by omega)⟩
end Go.Proofs.YtgcpfelccfnnbaaDoor.X
namespace Go.Proofs.YtgcpfelccfnnbaaDoor.X
open Go.RowKit Go.Proofs.YtgcpfelccfnnbaaDoorW.PrintWords Go.Proofs.YtgcpfelccfnnbaaDoorW.PrintLast Go.Proofs.YtgcpfelccfnnbaaDoorW.PrintMore
attribute [local go_sem] max2_int min2_int max_two min_two max_three min_three max_four min_four   -- for this text's walks alone
set_option linter.unusedVariables false
set_option linter.unusedSimpArgs false
def apply11.T : Bool × List (List Nat × List Nat) := (true, [([], []), ([0], [0]), ([], []), ([2], [2]), ([1, 3], [1, 3]), ([4, 3, 0, 1, 2, 3, 4], [4])])
def apply11.B : List Nat := [0, 1, 0, 4, 15, 31]
theorem apply11.tab : rtab .any (opsOf Tryd.f11 11) = apply11.T := by kernel_rfl
theorem apply11.bits : waitsOk apply11.T.2 apply11.B = true := by kernel_rfl
def apply12.T : Bool × List (List Nat × List Nat) := (true, [([], []), ([0], [0]), ([], []), ([2], [2]), ([], []), ([4], [4]), ([], []), ([3, 5, 6], [3, 5, 6]), ([1, 7, 1], [1, 7]), ([8], [8]), ([9], [9]), ([9], [9]), ([10, 8, 0, 1, 2, 3, 4, 5, 6, 7, 8, 9, 10], [10]), ([11, 12, 0, 1, 2, 3, 4, 5, 6, 7, 8, 9, 10, 11, 12], [11])])
def apply12.B : List Nat := [0, 1, 0, 4, 0, 16, 0, 124, 255, 511, 1023, 1023, 2047, 8191]
theorem apply12.tab : rtab .any (opsOf Tryd.f11 12) = apply12.T := by kernel_rfl
theorem apply12.bits : waitsOk apply12.T.2 apply12.B = true := by kernel_rfl
def apply15.T : Bool × List (List Nat × List Nat) := (true, [([], []), ([0], [0]), ([], []), ([2], [2]), ([1, 3], [1, 3]), ([], []), ([], []), ([6], [6]), ([], []), ([7, 8], [7, 8]), ([4, 5, 9], [4, 5, 9]), ([10], [10]), ([0, 1, 2, 3, 4, 5, 6, 7, 8, 9, 10, 11], []), ([12, 11, 11, 0, 1, 2, 3, 4, 5, 6, 7, 8, 9, 10, 11], [11, 12])])
def apply15.B : List Nat := [0, 1, 0, 4, 15, 0, 0, 64, 0, 448, 1023, 2047, 4095, 8191]
theorem apply15.tab : rtab .any (opsOf Tryd.f11 15) = apply15.T := by kernel_rfl
theorem apply15.bits : waitsOk apply15.T.2 apply15.B = true := by kernel_rfl
theorem threeF {W : World} {a b e : List S24} {Aa Ab Ae : Option Addr} {ca cb ce : Nat} {ok : Nat → Prop} (ha : a.length ≤ ca) (hb : b.length ≤ cb) (he : e.length ≤ ce) (Fa : Kd.F k24 W ok Aa a.length a) (Fb : Kd.F k24 W ok Ab b.length b) (Fe : Kd.F k24 W ok Ae e.length e) :
    Kd.F (Kd.slice 24 k24) (W.alloc (.cells #[.slice Aa a.length ca, .slice Ab b.length cb, .slice Ae e.length ce] 22)) (fun j => ok j ∨ j = W.heap.size) (some ⟨W.heap.size, 0, none⟩) 3 [a, b, e] := by
  intro W' hW
  have hbl : W'.heap[W.heap.size]? = some (.cells #[.slice Aa a.length ca, .slice Ab b.length cb, .slice Ae e.length ce] 22 (0, 0)) := (hW _ (.inr rfl) (by simp)).trans (heap_alloc_new W _)
  have hs : ∀ k, ok k → k < W.heap.size → W'.heap[k]? = W.heap[k]? := fun k hk hlt => (hW k (.inl hk) (by simp; omega)).trans (Below.heap_alloc _ _ _ hlt)
  refine ⟨rfl, by simp, fun _ => ⟨_, rfl, fun j p hj => ?_⟩⟩
  match j, hj with
  | 0, hj =>
    simp only [List.getElem?_cons_zero, Option.some.injEq] at hj
    subst hj
    refine ⟨[.slice Aa a.length ca], rfl, ⟨Aa, ca, rfl, ha, Fa W' hs⟩, fun i u hu => ?_⟩
    rw [add_plain, blk_cell hbl]
    match i, hu with
    | 0, hu => simpa using hu
    | i + 1, hu => simp at hu
  | 1, hj =>
    simp only [List.getElem?_cons_succ, List.getElem?_cons_zero, Option.some.injEq] at hj
    subst hj
    refine ⟨[.slice Ab b.length cb], rfl, ⟨Ab, cb, rfl, hb, Fb W' hs⟩, fun i u hu => ?_⟩
    rw [add_plain, blk_cell hbl]
    match i, hu with
    | 0, hu => simpa [Kd.slice] using hu
    | i + 1, hu => simp at hu
  | 2, hj =>
    simp only [List.getElem?_cons_succ, List.getElem?_cons_zero, Option.some.injEq] at hj
    subst hj
    refine ⟨[.slice Ae e.length ce], rfl, ⟨Ae, ce, rfl, he, Fe W' hs⟩, fun i u hu => ?_⟩
    rw [add_plain, blk_cell hbl]
    match i, hu with
    | 0, hu => simpa [Kd.slice] using hu
    | i + 1, hu => simp at hu
  | j + 3, hj => simp at hj
set_option maxRecDepth 100000 in
set_option maxHeartbeats 4000000 in
theorem apply_e4c (r : S24) (nn : Int) (x : S24) (o : S27) (A AR AN : Option Addr) (c cR cN : Nat) (w : World) (HA : Aside0 (Kd.C k24 w A x.f3.length x.f3)) (HR : Aside0 (Kd.C (Kd.int .i64) w AR o.f1.length o.f1)) (HN : Aside0 (Kd.C k24 w AN o.f4.length o.f4)) (HV : Aside0 (∀ W : World, Kd.C k24 W A x.f3.length x.f3 → Calls Tryd.prog 27 #[.agg #[.int .i64 x.f0, .string x.f1, .int .i64 x.f2, .slice A x.f3.length c]] W fun e w' => e = .returned (.bool true) ∧ Below W.heap.size W w')) (HF : Aside0 (∀ W : World, Kd.C (Kd.int .i64) W AR o.f1.length o.f1 → Kd.C k24 W AN o.f4.length o.f4 → Calls Tryd.prog 28 #[.agg #[.int .i64 o.f0, .slice AR o.f1.length cR, .int .i64 o.f2, .int .i64 o.f3, .slice AN o.f4.length cN, .int .i64 o.f5, .string o.f6, .string o.f7]] W fun e w' => e = .returned (.bool true) ∧ Below W.heap.size W w')) (HROW : Aside0 (∀ W : World, Kd.C k24 W A x.f3.length x.f3 → Kd.C (Kd.int .i64) W AR o.f1.length o.f1 → Calls Tryd.prog 29 #[.agg #[.int .i64 x.f0, .string x.f1, .int .i64 x.f2, .slice A x.f3.length c], .slice AR o.f1.length cR] W fun e w' => ∃ v : Value, e = .returned (.tuple #[.agg #[.int .i64 r.f0, .string r.f1, .int .i64 r.f2, v], .int .i64 0]) ∧ Kd.R k24 24 w' W.heap.size (fun _ => True) v r.f3 ∧ Below W.heap.size W w')) (HNEED : Aside0 (∀ W : World, Kd.C (Kd.int .i64) W AR o.f1.length o.f1 → Kd.C k24 W AN o.f4.length o.f4 → Calls Tryd.prog 30 #[.agg #[.int .i64 o.f0, .slice AR o.f1.length cR, .int .i64 o.f2, .int .i64 o.f3, .slice AN o.f4.length cN, .int .i64 o.f5, .string o.f6, .string o.f7]] W fun e w' => e = .returned (.int .i64 nn) ∧ Below W.heap.size W w')) (h39 : decide (o.f2 < 0) = false) (h44 : decide ((r.f3.length : Int) < o.f2) = false) (h53 : decide (wrap64 ((r.f3.length : Int) - o.f2) < nn) = true) :
    Calls Tryd.prog 11 #[.agg #[.int .i64 x.f0, .string x.f1, .int .i64 x.f2, .slice A x.f3.length c], .agg #[.int .i64 o.f0, .slice AR o.f1.length cR, .int .i64 o.f2, .int .i64 o.f3, .slice AN o.f4.length cN, .int .i64 o.f5, .string o.f6, .string o.f7]] w (ErrPost w 2) := by
  go_enter Tryd.func11, Tryd.ntmps11
  go_wp2_with (first | (go_at_call 27; go_loud (refine (HV.out _ (Kd.C_below HA.out (Boxes.new w _ _ _).below)).mono ?_; rintro e w1 ⟨rfl, hB1⟩; have HB1 := (Boxes.new w _ _ _).on hB1; clear hB1; have o0 := (blk_cell HB1.snd 0 : w1.cell? ⟨w.heap.size + 1, 0, none⟩ = _); have o1 := (blk_cell HB1.snd 1 : w1.cell? ⟨w.heap.size + 1, 1, none⟩ = _); have o2 := (blk_cell HB1.snd 2 : w1.cell? ⟨w.heap.size + 1, 2, none⟩ = _); have o3 := (blk_cell HB1.snd 3 : w1.cell? ⟨w.heap.size + 1, 3, none⟩ = _); have o4 := (blk_cell HB1.snd 4 : w1.cell? ⟨w.heap.size + 1, 4, none⟩ = _); have o5 := (blk_cell HB1.snd 5 : w1.cell? ⟨w.heap.size + 1, 5, none⟩ = _); have o6 := (blk_cell HB1.snd 6 : w1.cell? ⟨w.heap.size + 1, 6, none⟩ = _); have o7 := (blk_cell HB1.snd 7 : w1.cell? ⟨w.heap.size + 1, 7, none⟩ = _))) | (go_at_call 28; go_loud (refine (HF.out _ (Kd.C_below HR.out HB1.below) (Kd.C_below HN.out HB1.below)).mono ?_; rintro e w2 ⟨rfl, hB2⟩; have HB2 := HB1.on hB2; clear hB2 HB1; clear o0 o1 o2 o3 o4 o5 o6 o7; have x0 := (blk_cell HB2.fst 0 : w2.cell? ⟨w.heap.size, 0, none⟩ = _); have x1 := (blk_cell HB2.fst 1 : w2.cell? ⟨w.heap.size, 1, none⟩ = _); have x2 := (blk_cell HB2.fst 2 : w2.cell? ⟨w.heap.size, 2, none⟩ = _); have x3 := (blk_cell HB2.fst 3 : w2.cell? ⟨w.heap.size, 3, none⟩ = _); have o0 := (blk_cell HB2.snd 0 : w2.cell? ⟨w.heap.size + 1, 0, none⟩ = _); have o1 := (blk_cell HB2.snd 1 : w2.cell? ⟨w.heap.size + 1, 1, none⟩ = _); have o2 := (blk_cell HB2.snd 2 : w2.cell? ⟨w.heap.size + 1, 2, none⟩ = _); have o3 := (blk_cell HB2.snd 3 : w2.cell? ⟨w.heap.size + 1, 3, none⟩ = _); have o4 := (blk_cell HB2.snd 4 : w2.cell? ⟨w.heap.size + 1, 4, none⟩ = _); have o5 := (blk_cell HB2.snd 5 : w2.cell? ⟨w.heap.size + 1, 5, none⟩ = _); have o6 := (blk_cell HB2.snd 6 : w2.cell? ⟨w.heap.size + 1, 6, none⟩ = _); have o7 := (blk_cell HB2.snd 7 : w2.cell? ⟨w.heap.size + 1, 7, none⟩ = _))) | (go_at_call 29; go_loud (refine (HROW.out _ (Kd.C_below HA.out HB2.below) (Kd.C_below HR.out HB2.below)).mono ?_; rintro e w3 ⟨v, rfl, hRR, hB3⟩; obtain ⟨A1, c1, rfl⟩ := Kd.R_slice hRR; have HB3 := HB2.on hB3; clear hB3 HB2; clear x0 x1 x2 x3 o0 o1 o2 o3 o4 o5 o6 o7; have HRR := Aside0.mk hRR; clear hRR; skip)))
  have HG := Aside0.mk HB3.big
  have HCR := Aside0.mk (Kd.R_reads' HRR.out).2.1
  have HKF : Aside0 (Kd.F k24 (w3.alloc (.cells #[.int .i64 r.f0, .string r.f1, .int .i64 r.f2, .slice A1 r.f3.length c1] 24)) (fun k => k ≠ w3.heap.size) A1 r.f3.length r.f3) := ⟨Kd.F_mono (Kd.F_alloc (Kd.F_bound (Kd.R_F HRR.out)) _) (fun k hk => by have := hk.2; omega)⟩
  have HRB4 := Aside0.mk (heap_alloc_new w3 (.cells #[.int .i64 r.f0, .string r.f1, .int .i64 r.f2, .slice A1 r.f3.length c1] 24))
  have HB4 := HB3.alloc (.cells #[.int .i64 r.f0, .string r.f1, .int .i64 r.f2, .slice A1 r.f3.length c1] 24)
  clear HB3 HRR
  refine start_ (n := 18) (S := fun w' => w'.cell? ⟨w.heap.size + 1, 0, none⟩ = some (.int .i64 o.f0) ∧ w'.cell? ⟨w.heap.size + 1, 1, none⟩ = some (.slice AR o.f1.length cR) ∧ w'.cell? ⟨w.heap.size + 1, 2, none⟩ = some (.int .i64 o.f2) ∧ w'.cell? ⟨w.heap.size + 1, 3, none⟩ = some (.int .i64 o.f3) ∧ w'.cell? ⟨w.heap.size + 1, 4, none⟩ = some (.slice AN o.f4.length cN) ∧ w'.cell? ⟨w.heap.size + 1, 5, none⟩ = some (.int .i64 o.f5) ∧ w'.cell? ⟨w.heap.size + 1, 6, none⟩ = some (.string o.f6) ∧ w'.cell? ⟨w.heap.size + 1, 7, none⟩ = some (.string o.f7)) (ds := []) #[false, false, false, false, false, false, false, false, false, false, false, false, false, false, false, false, false, false] (by kernel_rfl) rfl rfl ⟨blk_cell HB4.drew.snd 0, blk_cell HB4.drew.snd 1, blk_cell HB4.drew.snd 2, blk_cell HB4.drew.snd 3, blk_cell HB4.drew.snd 4, blk_cell HB4.drew.snd 5, blk_cell HB4.drew.snd 6, blk_cell HB4.drew.snd 7⟩ (fun hHeld => ?_); refine with_tabW apply9.tab apply9.bits (fun HT_ HW_ => ?_)
  have HB5 := HB4.drew
  have HRB5 : Aside0 ((w3.alloc (.cells #[.int .i64 r.f0, .string r.f1, .int .i64 r.f2, .slice A1 r.f3.length c1] 24)).drew.heap[w3.heap.size]? = some (.cells #[.int .i64 r.f0, .string r.f1, .int .i64 r.f2, .slice A1 r.f3.length c1] 24)) := ⟨HRB4.out⟩
  have HKF5 := Aside0.mk (Kd.F_drew HKF.out)
  clear HB4 HRB4 HKF
  generalize (w3.alloc (.cells #[.int .i64 r.f0, .string r.f1, .int .i64 r.f2, .slice A1 r.f3.length c1] 24)).drew = W5 at HB5 HRB5 HKF5 hHeld ⊢
  generalize w3.heap.size = g6 at HG HRB5 HKF5 ⊢
  refine pure_ (i := 0) (N := some 37) (v := ?_) (a' := ?_) #[true, false, false, false, false, false, false, false, false, false, false, false, false, false, false, false, false, false] rfl rfl (any_of HT_.out (by kernel_rfl)) (fun _ _ _ h => h) (Or.inl ⟨by rfl, ?_⟩) ?_ ?_
  rotate_left
  · intro w'
    go_simp
    with_reducible rfl
  rotate_left
  · simp only [Act.put, List.setIfInBounds_toArray, List.set_cons_zero, List.set_cons_succ, i64_w, i32_w]
    rfl
  refine take_ (i := 1) (N := some 38) (v := ?_) (a' := ?_) #[true, true, false, false, false, false, false, false, false, false, false, false, false, false, false, false, false, false] rfl rfl (take_ofW HT_.out HW_.out (by kernel_rfl)) (fun _ _ _ h => h) (Or.inl ⟨by rfl, ?_⟩) hHeld ?_ ?_
  rotate_left
  · rintro w' ⟨s0, s1, s2, s3, s4, s5, s6, s7⟩
    go_simp
    with_reducible rfl
  rotate_left
  · simp only [Act.put, List.setIfInBounds_toArray, List.set_cons_zero, List.set_cons_succ, i64_w, i32_w]
    rfl
  refine pure_ (i := 2) (N := some 39) (v := ?_) (a' := ?_) #[true, true, true, false, false, false, false, false, false, false, false, false, false, false, false, false, false, false] rfl rfl (any_of HT_.out (by kernel_rfl)) (fun _ _ _ h => h) (Or.inl ⟨by rfl, ?_⟩) ?_ ?_
  rotate_left
  · intro w'
    go_simp
    with_reducible rfl
  rotate_left
  · simp only [Act.put, List.setIfInBounds_toArray, List.set_cons_zero, List.set_cons_succ, i64_w, i32_w]
    rfl
  refine pure_ (i := 3) (N := some 40) (v := ?_) (a' := ?_) #[true, true, true, true, false, false, false, false, false, false, false, false, false, false, false, false, false, false] rfl rfl (any_of HT_.out (by kernel_rfl)) (fun _ _ _ h => h) (Or.inl ⟨by rfl, ?_⟩) ?_ ?_
  rotate_left
  · intro w'
    go_simp
    with_reducible rfl
  rotate_left
  · simp only [Act.put, List.setIfInBounds_toArray, List.set_cons_zero, List.set_cons_succ, i64_w, i32_w]
    rfl
  refine pure_ (i := 4) (N := some 41) (v := ?_) (a' := ?_) #[true, true, true, true, true, false, false, false, false, false, false, false, false, false, false, false, false, false] rfl rfl (any_of HT_.out (by kernel_rfl)) (fun _ _ _ h => h) (Or.inl ⟨by rfl, ?_⟩) ?_ ?_
  rotate_left
  · intro w'
    go_simp
    with_reducible rfl
  rotate_left
  · simp only [Act.put, List.setIfInBounds_toArray, List.set_cons_zero, List.set_cons_succ, i64_w, i32_w]
    rfl
  refine take_ (i := 5) (N := some 42) (v := ?_) (a' := ?_) #[true, true, true, true, true, true, false, false, false, false, false, false, false, false, false, false, false, false] rfl rfl (take_ofW HT_.out HW_.out (by kernel_rfl)) (fun _ _ _ h => h) (Or.inl ⟨by rfl, ?_⟩) hHeld ?_ ?_
  rotate_left
  · rintro w' ⟨s0, s1, s2, s3, s4, s5, s6, s7⟩
    go_simp
    with_reducible rfl
  rotate_left
  · simp only [Act.put, List.setIfInBounds_toArray, List.set_cons_zero, List.set_cons_succ, i64_w, i32_w]
    rfl
  refine pure_ (i := 6) (N := some 43) (v := ?_) (a' := ?_) #[true, true, true, true, true, true, true, false, false, false, false, false, false, false, false, false, false, false] rfl rfl (any_of HT_.out (by kernel_rfl)) (fun _ _ _ h => h) (Or.inl ⟨by rfl, ?_⟩) ?_ ?_
  rotate_left
  · intro w'
    go_simp
    with_reducible rfl
  rotate_left
  · simp only [Act.put, List.setIfInBounds_toArray, List.set_cons_zero, List.set_cons_succ, i64_w, i32_w]
    rfl
  refine pure_ (i := 7) (N := some 44) (v := ?_) (a' := ?_) #[true, true, true, true, true, true, true, true, false, false, false, false, false, false, false, false, false, false] rfl rfl (any_of HT_.out (by kernel_rfl)) (fun _ _ _ h => h) (Or.inl ⟨by rfl, ?_⟩) ?_ ?_
  rotate_left
  · intro w'
    go_simp
    with_reducible rfl
  rotate_left
  · simp only [Act.put, List.setIfInBounds_toArray, List.set_cons_zero, List.set_cons_succ, i64_w, i32_w]
    rfl
  refine pure_ (i := 8) (N := some 45) (v := ?_) (a' := ?_) #[true, true, true, true, true, true, true, true, true, false, false, false, false, false, false, false, false, false] rfl rfl (any_of HT_.out (by kernel_rfl)) (fun _ _ _ h => h) (Or.inl ⟨by rfl, ?_⟩) ?_ ?_
  rotate_left
  · intro w'
    go_simp
    with_reducible rfl
  rotate_left
  · simp only [Act.put, List.setIfInBounds_toArray, List.set_cons_zero, List.set_cons_succ, i64_w, i32_w]
    rfl
  refine pure_ (i := 9) (N := some 46) (v := ?_) (a' := ?_) #[true, true, true, true, true, true, true, true, true, true, false, false, false, false, false, false, false, false] rfl rfl (any_of HT_.out (by kernel_rfl)) (fun _ _ _ h => h) (Or.inl ⟨by rfl, ?_⟩) ?_ ?_
  rotate_left
  · intro w'
    go_simp
    with_reducible rfl
  rotate_left
  · simp only [Act.put, List.setIfInBounds_toArray, List.set_cons_zero, List.set_cons_succ, i64_w, i32_w]
    rfl
  refine take_ (i := 10) (N := some 47) (v := ?_) (a' := ?_) #[true, true, true, true, true, true, true, true, true, true, true, false, false, false, false, false, false, false] rfl rfl (take_ofW HT_.out HW_.out (by kernel_rfl)) (fun _ _ _ h => h) (Or.inl ⟨by rfl, ?_⟩) hHeld ?_ ?_
  rotate_left
  · rintro w' ⟨s0, s1, s2, s3, s4, s5, s6, s7⟩
    go_simp
    with_reducible rfl
  rotate_left
  · simp only [Act.put, List.setIfInBounds_toArray, List.set_cons_zero, List.set_cons_succ, i64_w, i32_w]
    rfl
  refine pure_ (i := 12) (N := some 49) (v := ?_) (a' := ?_) #[true, true, true, true, true, true, true, true, true, true, true, false, true, false, false, false, false, false] rfl rfl (any_of HT_.out (by kernel_rfl)) (fun _ _ _ h => h) (Or.inl ⟨by rfl, ?_⟩) ?_ ?_
  rotate_left
  · intro w'
    go_simp
    with_reducible rfl
  rotate_left
  · simp only [Act.put, List.setIfInBounds_toArray, List.set_cons_zero, List.set_cons_succ, i64_w, i32_w]
    rfl
  refine pure_ (i := 13) (N := some 50) (v := ?_) (a' := ?_) #[true, true, true, true, true, true, true, true, true, true, true, false, true, true, false, false, false, false] rfl rfl (any_of HT_.out (by kernel_rfl)) (fun _ _ _ h => h) (Or.inl ⟨by rfl, ?_⟩) ?_ ?_
  rotate_left
  · intro w'
    go_simp
    with_reducible rfl
  rotate_left
  · simp only [Act.put, List.setIfInBounds_toArray, List.set_cons_zero, List.set_cons_succ, i64_w, i32_w]
    rfl
  refine take_ (i := 14) (N := some 51) (v := ?_) (a' := ?_) #[true, true, true, true, true, true, true, true, true, true, true, false, true, true, true, false, false, false] rfl rfl (take_ofW HT_.out HW_.out (by kernel_rfl)) (fun _ _ _ h => h) (Or.inl ⟨by rfl, ?_⟩) hHeld ?_ ?_
  rotate_left
  · rintro w' ⟨s0, s1, s2, s3, s4, s5, s6, s7⟩
    go_simp
    with_reducible rfl
  rotate_left
  · simp only [Act.put, List.setIfInBounds_toArray, List.set_cons_zero, List.set_cons_succ, i64_w, i32_w]
    rfl
  refine pure_ (i := 15) (N := some 52) (v := ?_) (a' := ?_) #[true, true, true, true, true, true, true, true, true, true, true, false, true, true, true, true, false, false] rfl rfl (any_of HT_.out (by kernel_rfl)) (fun _ _ _ h => h) (Or.inl ⟨by rfl, ?_⟩) ?_ ?_
  rotate_left
  · intro w'
    go_simp
    with_reducible rfl
  rotate_left
  · simp only [Act.put, List.setIfInBounds_toArray, List.set_cons_zero, List.set_cons_succ, i64_w, i32_w]
    rfl
  refine one_ (i := 11) (N := some 48) #[true, true, true, true, true, true, true, true, true, true, true, true, true, true, true, true, false, false] rfl rfl (one_of HT_.out (by kernel_rfl)) (by decide) (fun K hK => ?_)
  refine goes_ Tryd.func30 (by kernel_rfl) rfl #[.agg #[.int .i64 o.f0, .slice AR o.f1.length cR, .int .i64 o.f2, .int .i64 o.f3, .slice AN o.f4.length cN, .int .i64 o.f5, .string o.f6, .string o.f7]] (by rfl) rfl rfl (by (try simp only [List.map_toArray, List.map_cons, List.map_nil]); first | done | rfl | (simp only [List.length_drop, List.length_take]; rfl)) ?_
  refine (HNEED.out _ (Kd.C_below HR.out HB5.below) (Kd.C_below HN.out HB5.below)).mono ?_
  rintro e w6 ⟨rfl, hb⟩
  have HB6 := HB5.on hb
  have HRB6 := Aside0.mk (blk_on HRB5.out hb)
  have HKF6 := Aside0.mk (Kd.F_below HKF5.out hb)
  clear hb HB5 HRB5 HKF5 hHeld
  refine ⟨_, rfl, ?_⟩
  refine hK.out _ _ ⟨blk_cell HB6.snd 0, blk_cell HB6.snd 1, blk_cell HB6.snd 2, blk_cell HB6.snd 3, blk_cell HB6.snd 4, blk_cell HB6.snd 5, blk_cell HB6.snd 6, blk_cell HB6.snd 7⟩ (fun hHeld => ?_)
  clear hK K
  refine norm_ (a' := ?_) ?_ ?_
  rotate_left
  · show Act.put _ (some 48) _ = _
    simp only [Act.put, List.setIfInBounds_toArray, List.set_cons_zero, List.set_cons_succ, i64_w, i32_w]
    rfl
  refine pure_ (i := 16) (N := some 53) (v := ?_) (a' := ?_) #[true, true, true, true, true, true, true, true, true, true, true, true, true, true, true, true, true, false] rfl rfl (any_of HT_.out (by kernel_rfl)) (fun _ _ _ h => h) (Or.inl ⟨by rfl, ?_⟩) ?_ ?_
  rotate_left
  · intro w'
    go_simp
    with_reducible rfl
  rotate_left
  · simp only [Act.put, List.setIfInBounds_toArray, List.set_cons_zero, List.set_cons_succ, i64_w, i32_w]
    rfl
  refine pure_ (i := 17) (N := some 54) (v := ?_) (a' := ?_) #[true, true, true, true, true, true, true, true, true, true, true, true, true, true, true, true, true, true] rfl rfl (any_of HT_.out (by kernel_rfl)) (fun _ _ _ h => h) (Or.inl ⟨by rfl, ?_⟩) ?_ ?_
  rotate_left
  · intro w'
    go_simp
    with_reducible rfl
  rotate_left
  · simp only [Act.put, List.setIfInBounds_toArray, List.set_cons_zero, List.set_cons_succ, i64_w, i32_w]
    rfl
  refine done_ (done_of HT_.out (by kernel_rfl)) ?_
  have z0 := (blk_cell HB6.trd 0 : w6.cell? ⟨w.heap.size + 1 + 1, 0, none⟩ = _)
  have z1 := (blk_cell HB6.trd 1 : w6.cell? ⟨w.heap.size + 1 + 1, 1, none⟩ = _)
  have z2 := (blk_cell HB6.trd 2 : w6.cell? ⟨w.heap.size + 1 + 1, 2, none⟩ = _)
  have z3 := (blk_cell HB6.trd 3 : w6.cell? ⟨w.heap.size + 1 + 1, 3, none⟩ = _)
  have y0 := (blk_frozen HB6.trd 0 : w6.frozen? ⟨w.heap.size + 1 + 1, 0, none⟩ = false)
  have y1 := (blk_frozen HB6.trd 1 : w6.frozen? ⟨w.heap.size + 1 + 1, 1, none⟩ = false)
  have y2 := (blk_frozen HB6.trd 2 : w6.frozen? ⟨w.heap.size + 1 + 1, 2, none⟩ = false)
  have y3 := (blk_frozen HB6.trd 3 : w6.frozen? ⟨w.heap.size + 1 + 1, 3, none⟩ = false)
  try go_wp2
  refine bodyPost_ret (results_ct rfl _ _ (w.heap.size + 1 + 1) 24 #[.int .i64 0, .string ⟨#[]⟩, .int .i64 0, .slice none 0 0] (0, 0) _ rfl (blk_put4 HB6.trd) Tryd.underlying24 rfl (by kernel_rfl)) rfl ?_
  exact ⟨rfl, below_set4 HB6.below (by omega)⟩
set_option maxRecDepth 100000 in
set_option maxHeartbeats 4000000 in
theorem apply_e5 (pre old post ch kids : List S24) (en : Int) (r : S24) (nn : Int) (x : S24) (o : S27) (A AR AN : Option Addr) (c cR cN : Nat) (w : World) (HA : Aside0 (Kd.C k24 w A x.f3.length x.f3)) (HR : Aside0 (Kd.C (Kd.int .i64) w AR o.f1.length o.f1)) (HN : Aside0 (Kd.C k24 w AN o.f4.length o.f4)) (HV : Aside0 (∀ W : World, Kd.C k24 W A x.f3.length x.f3 → Calls Tryd.prog 27 #[.agg #[.int .i64 x.f0, .string x.f1, .int .i64 x.f2, .slice A x.f3.length c]] W fun e w' => e = .returned (.bool true) ∧ Below W.heap.size W w')) (HF : Aside0 (∀ W : World, Kd.C (Kd.int .i64) W AR o.f1.length o.f1 → Kd.C k24 W AN o.f4.length o.f4 → Calls Tryd.prog 28 #[.agg #[.int .i64 o.f0, .slice AR o.f1.length cR, .int .i64 o.f2, .int .i64 o.f3, .slice AN o.f4.length cN, .int .i64 o.f5, .string o.f6, .string o.f7]] W fun e w' => e = .returned (.bool true) ∧ Below W.heap.size W w')) (HROW : Aside0 (∀ W : World, Kd.C k24 W A x.f3.length x.f3 → Kd.C (Kd.int .i64) W AR o.f1.length o.f1 → Calls Tryd.prog 29 #[.agg #[.int .i64 x.f0, .string x.f1, .int .i64 x.f2, .slice A x.f3.length c], .slice AR o.f1.length cR] W fun e w' => ∃ v : Value, e = .returned (.tuple #[.agg #[.int .i64 r.f0, .string r.f1, .int .i64 r.f2, v], .int .i64 0]) ∧ Kd.R k24 24 w' W.heap.size (fun _ => True) v r.f3 ∧ Below W.heap.size W w')) (HNEED : Aside0 (∀ W : World, Kd.C (Kd.int .i64) W AR o.f1.length o.f1 → Kd.C k24 W AN o.f4.length o.f4 → Calls Tryd.prog 30 #[.agg #[.int .i64 o.f0, .slice AR o.f1.length cR, .int .i64 o.f2, .int .i64 o.f3, .slice AN o.f4.length cN, .int .i64 o.f5, .string o.f6, .string o.f7]] W fun e w' => e = .returned (.int .i64 nn) ∧ Below W.heap.size W w')) (h39 : decide (o.f2 < 0) = false) (h44 : decide ((r.f3.length : Int) < o.f2) = false) (h53 : decide (wrap64 ((r.f3.length : Int) - o.f2) < nn) = false) (hen : wrap64 (o.f2 + nn) = en) (h0 : 0 ≤ o.f2) (h1 : o.f2 ≤ en) (h2 : en ≤ r.f3.length) (Hold : Aside0 ((r.f3.take en.toNat).drop o.f2.toNat = old)) (HCOPY : Aside0 (∀ (P : Nat → Prop) (W : World), Kd.C (Kd.int .i64) W AR o.f1.length o.f1 → Kd.F k24 W P AN o.f4.length o.f4 → Calls Tryd.prog 32 #[.agg #[.int .i64 o.f0, .slice AR o.f1.length cR, .int .i64 o.f2, .int .i64 o.f3, .slice AN o.f4.length cN, .int .i64 o.f5, .string o.f6, .string o.f7]] W fun e w' => ∃ v1 v4 : Value, e = .returned (.agg #[.int .i64 o.f0, v1, .int .i64 o.f2, .int .i64 o.f3, v4, .int .i64 o.f5, .string o.f6, .string o.f7]) ∧ (Kd.int .i64).R 3 w' W.heap.size (fun k => W.heap.size ≤ k) v1 o.f1 ∧ Kd.N k24 24 w' W.heap.size (fun k => (P k ∨ W.heap.size ≤ k) ∧ some k ≠ v1.ownBlock) v4 o.f4 ∧ Below W.heap.size W w')) (HCH : Aside0 (∀ (A2 AR2 AN2 : Option Addr) (c2 cR2 cN2 : Nat) (P : Nat → Prop) (W : World), old.length ≤ c2 → o.f4.length ≤ cN2 → Kd.F k24 W P A2 old.length old → Kd.F k24 W P AN2 o.f4.length o.f4 → Calls Tryd.prog 31 #[.agg #[.int .i64 o.f0, .slice AR2 o.f1.length cR2, .int .i64 o.f2, .int .i64 o.f3, .slice AN2 o.f4.length cN2, .int .i64 o.f5, .string o.f6, .string o.f7], .slice A2 old.length c2] W fun e w' => ∃ (A' : Option Addr) (c' : Nat), e = .returned (.tuple #[.slice A' ch.length c', .bool false]) ∧ ch.length ≤ c' ∧ Kd.F k24 w' (fun j => P j ∨ W.heap.size ≤ j) A' ch.length ch ∧ Below W.heap.size W w')) :
    Calls Tryd.prog 11 #[.agg #[.int .i64 x.f0, .string x.f1, .int .i64 x.f2, .slice A x.f3.length c], .agg #[.int .i64 o.f0, .slice AR o.f1.length cR, .int .i64 o.f2, .int .i64 o.f3, .slice AN o.f4.length cN, .int .i64 o.f5, .string o.f6, .string o.f7]] w (ErrPost w 7) := by
  go_enter Tryd.func11, Tryd.ntmps11
  go_wp2_with (first | (go_at_call 27; go_loud (refine (HV.out _ (Kd.C_below HA.out (Boxes.new w _ _ _).below)).mono ?_; rintro e w1 ⟨rfl, hB1⟩; have HB1 := (Boxes.new w _ _ _).on hB1; clear hB1; have o0 := (blk_cell HB1.snd 0 : w1.cell? ⟨w.heap.size + 1, 0, none⟩ = _); have o1 := (blk_cell HB1.snd 1 : w1.cell? ⟨w.heap.size + 1, 1, none⟩ = _); have o2 := (blk_cell HB1.snd 2 : w1.cell? ⟨w.heap.size + 1, 2, none⟩ = _); have o3 := (blk_cell HB1.snd 3 : w1.cell? ⟨w.heap.size + 1, 3, none⟩ = _); have o4 := (blk_cell HB1.snd 4 : w1.cell? ⟨w.heap.size + 1, 4, none⟩ = _); have o5 := (blk_cell HB1.snd 5 : w1.cell? ⟨w.heap.size + 1, 5, none⟩ = _); have o6 := (blk_cell HB1.snd 6 : w1.cell? ⟨w.heap.size + 1, 6, none⟩ = _); have o7 := (blk_cell HB1.snd 7 : w1.cell? ⟨w.heap.size + 1, 7, none⟩ = _))) | (go_at_call 28; go_loud (refine (HF.out _ (Kd.C_below HR.out HB1.below) (Kd.C_below HN.out HB1.below)).mono ?_; rintro e w2 ⟨rfl, hB2⟩; have HB2 := HB1.on hB2; clear hB2 HB1; clear o0 o1 o2 o3 o4 o5 o6 o7; have x0 := (blk_cell HB2.fst 0 : w2.cell? ⟨w.heap.size, 0, none⟩ = _); have x1 := (blk_cell HB2.fst 1 : w2.cell? ⟨w.heap.size, 1, none⟩ = _); have x2 := (blk_cell HB2.fst 2 : w2.cell? ⟨w.heap.size, 2, none⟩ = _); have x3 := (blk_cell HB2.fst 3 : w2.cell? ⟨w.heap.size, 3, none⟩ = _); have o0 := (blk_cell HB2.snd 0 : w2.cell? ⟨w.heap.size + 1, 0, none⟩ = _); have o1 := (blk_cell HB2.snd 1 : w2.cell? ⟨w.heap.size + 1, 1, none⟩ = _); have o2 := (blk_cell HB2.snd 2 : w2.cell? ⟨w.heap.size + 1, 2, none⟩ = _); have o3 := (blk_cell HB2.snd 3 : w2.cell? ⟨w.heap.size + 1, 3, none⟩ = _); have o4 := (blk_cell HB2.snd 4 : w2.cell? ⟨w.heap.size + 1, 4, none⟩ = _); have o5 := (blk_cell HB2.snd 5 : w2.cell? ⟨w.heap.size + 1, 5, none⟩ = _); have o6 := (blk_cell HB2.snd 6 : w2.cell? ⟨w.heap.size + 1, 6, none⟩ = _); have o7 := (blk_cell HB2.snd 7 : w2.cell? ⟨w.heap.size + 1, 7, none⟩ = _))) | (go_at_call 29; go_loud (refine (HROW.out _ (Kd.C_below HA.out HB2.below) (Kd.C_below HR.out HB2.below)).mono ?_; rintro e w3 ⟨v, rfl, hRR, hB3⟩; obtain ⟨A1, c1, rfl⟩ := Kd.R_slice hRR; have HB3 := HB2.on hB3; clear hB3 HB2; clear x0 x1 x2 x3 o0 o1 o2 o3 o4 o5 o6 o7; have HRR := Aside0.mk hRR; clear hRR; skip)))
  have HG := Aside0.mk HB3.big
  have HCR := Aside0.mk (Kd.R_reads' HRR.out).2.1
  have HKF : Aside0 (Kd.F k24 (w3.alloc (.cells #[.int .i64 r.f0, .string r.f1, .int .i64 r.f2, .slice A1 r.f3.length c1] 24)) (fun k => k ≠ w3.heap.size) A1 r.f3.length r.f3) := ⟨Kd.F_mono (Kd.F_alloc (Kd.F_bound (Kd.R_F HRR.out)) _) (fun k hk => by have := hk.2; omega)⟩
  have HRB4 := Aside0.mk (heap_alloc_new w3 (.cells #[.int .i64 r.f0, .string r.f1, .int .i64 r.f2, .slice A1 r.f3.length c1] 24))
  have HB4 := HB3.alloc (.cells #[.int .i64 r.f0, .string r.f1, .int .i64 r.f2, .slice A1 r.f3.length c1] 24)
  clear HB3 HRR
  refine start_ (n := 18) (S := fun w' => w'.cell? ⟨w.heap.size + 1, 0, none⟩ = some (.int .i64 o.f0) ∧ w'.cell? ⟨w.heap.size + 1, 1, none⟩ = some (.slice AR o.f1.length cR) ∧ w'.cell? ⟨w.heap.size + 1, 2, none⟩ = some (.int .i64 o.f2) ∧ w'.cell? ⟨w.heap.size + 1, 3, none⟩ = some (.int .i64 o.f3) ∧ w'.cell? ⟨w.heap.size + 1, 4, none⟩ = some (.slice AN o.f4.length cN) ∧ w'.cell? ⟨w.heap.size + 1, 5, none⟩ = some (.int .i64 o.f5) ∧ w'.cell? ⟨w.heap.size + 1, 6, none⟩ = some (.string o.f6) ∧ w'.cell? ⟨w.heap.size + 1, 7, none⟩ = some (.string o.f7)) (ds := []) #[false, false, false, false, false, false, false, false, false, false, false, false, false, false, false, false, false, false] (by kernel_rfl) rfl rfl ⟨blk_cell HB4.drew.snd 0, blk_cell HB4.drew.snd 1, blk_cell HB4.drew.snd 2, blk_cell HB4.drew.snd 3, blk_cell HB4.drew.snd 4, blk_cell HB4.drew.snd 5, blk_cell HB4.drew.snd 6, blk_cell HB4.drew.snd 7⟩ (fun hHeld => ?_); refine with_tabW apply9.tab apply9.bits (fun HT_ HW_ => ?_)
  have HB5 := HB4.drew
  have HRB5 : Aside0 ((w3.alloc (.cells #[.int .i64 r.f0, .string r.f1, .int .i64 r.f2, .slice A1 r.f3.length c1] 24)).drew.heap[w3.heap.size]? = some (.cells #[.int .i64 r.f0, .string r.f1, .int .i64 r.f2, .slice A1 r.f3.length c1] 24)) := ⟨HRB4.out⟩
  have HKF5 := Aside0.mk (Kd.F_drew HKF.out)
  clear HB4 HRB4 HKF
  generalize (w3.alloc (.cells #[.int .i64 r.f0, .string r.f1, .int .i64 r.f2, .slice A1 r.f3.length c1] 24)).drew = W5 at HB5 HRB5 HKF5 hHeld ⊢
  generalize w3.heap.size = g6 at HG HRB5 HKF5 ⊢
  refine pure_ (i := 0) (N := some 37) (v := ?_) (a' := ?_) #[true, false, false, false, false, false, false, false, false, false, false, false, false, false, false, false, false, false] rfl rfl (any_of HT_.out (by kernel_rfl)) (fun _ _ _ h => h) (Or.inl ⟨by rfl, ?_⟩) ?_ ?_
  rotate_left
  · intro w'
    go_simp
    with_reducible rfl
  rotate_left
  · simp only [Act.put, List.setIfInBounds_toArray, List.set_cons_zero, List.set_cons_succ, i64_w, i32_w]
    rfl
  refine take_ (i := 1) (N := some 38) (v := ?_) (a' := ?_) #[true, true, false, false, false, false, false, false, false, false, false, false, false, false, false, false, false, false] rfl rfl (take_ofW HT_.out HW_.out (by kernel_rfl)) (fun _ _ _ h => h) (Or.inl ⟨by rfl, ?_⟩) hHeld ?_ ?_
  rotate_left
  · rintro w' ⟨s0, s1, s2, s3, s4, s5, s6, s7⟩
    go_simp
    with_reducible rfl
  rotate_left
  · simp only [Act.put, List.setIfInBounds_toArray, List.set_cons_zero, List.set_cons_succ, i64_w, i32_w]
    rfl
  refine pure_ (i := 2) (N := some 39) (v := ?_) (a' := ?_) #[true, true, true, false, false, false, false, false, false, false, false, false, false, false, false, false, false, false] rfl rfl (any_of HT_.out (by kernel_rfl)) (fun _ _ _ h => h) (Or.inl ⟨by rfl, ?_⟩) ?_ ?_
  rotate_left
  · intro w'
    go_simp
    with_reducible rfl
  rotate_left
  · simp only [Act.put, List.setIfInBounds_toArray, List.set_cons_zero, List.set_cons_succ, i64_w, i32_w]
    rfl
  refine pure_ (i := 3) (N := some 40) (v := ?_) (a' := ?_) #[true, true, true, true, false, false, false, false, false, false, false, false, false, false, false, false, false, false] rfl rfl (any_of HT_.out (by kernel_rfl)) (fun _ _ _ h => h) (Or.inl ⟨by rfl, ?_⟩) ?_ ?_
  rotate_left
  · intro w'
    go_simp
    with_reducible rfl
  rotate_left
  · simp only [Act.put, List.setIfInBounds_toArray, List.set_cons_zero, List.set_cons_succ, i64_w, i32_w]
    rfl
  refine pure_ (i := 4) (N := some 41) (v := ?_) (a' := ?_) #[true, true, true, true, true, false, false, false, false, false, false, false, false, false, false, false, false, false] rfl rfl (any_of HT_.out (by kernel_rfl)) (fun _ _ _ h => h) (Or.inl ⟨by rfl, ?_⟩) ?_ ?_
  rotate_left
  · intro w'
    go_simp
    with_reducible rfl
  rotate_left
  · simp only [Act.put, List.setIfInBounds_toArray, List.set_cons_zero, List.set_cons_succ, i64_w, i32_w]
    rfl
  refine take_ (i := 5) (N := some 42) (v := ?_) (a' := ?_) #[true, true, true, true, true, true, false, false, false, false, false, false, false, false, false, false, false, false] rfl rfl (take_ofW HT_.out HW_.out (by kernel_rfl)) (fun _ _ _ h => h) (Or.inl ⟨by rfl, ?_⟩) hHeld ?_ ?_
  rotate_left
  · rintro w' ⟨s0, s1, s2, s3, s4, s5, s6, s7⟩
    go_simp
    with_reducible rfl
  rotate_left
  · simp only [Act.put, List.setIfInBounds_toArray, List.set_cons_zero, List.set_cons_succ, i64_w, i32_w]
    rfl
  refine pure_ (i := 6) (N := some 43) (v := ?_) (a' := ?_) #[true, true, true, true, true, true, true, false, false, false, false, false, false, false, false, false, false, false] rfl rfl (any_of HT_.out (by kernel_rfl)) (fun _ _ _ h => h) (Or.inl ⟨by rfl, ?_⟩) ?_ ?_
  rotate_left
  · intro w'
    go_simp
    with_reducible rfl
  rotate_left
  · simp only [Act.put, List.setIfInBounds_toArray, List.set_cons_zero, List.set_cons_succ, i64_w, i32_w]
    rfl
  refine pure_ (i := 7) (N := some 44) (v := ?_) (a' := ?_) #[true, true, true, true, true, true, true, true, false, false, false, false, false, false, false, false, false, false] rfl rfl (any_of HT_.out (by kernel_rfl)) (fun _ _ _ h => h) (Or.inl ⟨by rfl, ?_⟩) ?_ ?_
  rotate_left
  · intro w'
    go_simp
    with_reducible rfl
  rotate_left
  · simp only [Act.put, List.setIfInBounds_toArray, List.set_cons_zero, List.set_cons_succ, i64_w, i32_w]
    rfl
  refine pure_ (i := 8) (N := some 45) (v := ?_) (a' := ?_) #[true, true, true, true, true, true, true, true, true, false, false, false, false, false, false, false, false, false] rfl rfl (any_of HT_.out (by kernel_rfl)) (fun _ _ _ h => h) (Or.inl ⟨by rfl, ?_⟩) ?_ ?_
  rotate_left
  · intro w'
    go_simp
    with_reducible rfl
  rotate_left
  · simp only [Act.put, List.setIfInBounds_toArray, List.set_cons_zero, List.set_cons_succ, i64_w, i32_w]
    rfl
  refine pure_ (i := 9) (N := some 46) (v := ?_) (a' := ?_) #[true, true, true, true, true, true, true, true, true, true, false, false, false, false, false, false, false, false] rfl rfl (any_of HT_.out (by kernel_rfl)) (fun _ _ _ h => h) (Or.inl ⟨by rfl, ?_⟩) ?_ ?_
  rotate_left
  · intro w'
    go_simp
    with_reducible rfl
  rotate_left
  · simp only [Act.put, List.setIfInBounds_toArray, List.set_cons_zero, List.set_cons_succ, i64_w, i32_w]
    rfl
  refine take_ (i := 10) (N := some 47) (v := ?_) (a' := ?_) #[true, true, true, true, true, true, true, true, true, true, true, false, false, false, false, false, false, false] rfl rfl (take_ofW HT_.out HW_.out (by kernel_rfl)) (fun _ _ _ h => h) (Or.inl ⟨by rfl, ?_⟩) hHeld ?_ ?_
  rotate_left
  · rintro w' ⟨s0, s1, s2, s3, s4, s5, s6, s7⟩
    go_simp
    with_reducible rfl
  rotate_left
  · simp only [Act.put, List.setIfInBounds_toArray, List.set_cons_zero, List.set_cons_succ, i64_w, i32_w]
    rfl
  refine pure_ (i := 12) (N := some 49) (v := ?_) (a' := ?_) #[true, true, true, true, true, true, true, true, true, true, true, false, true, false, false, false, false, false] rfl rfl (any_of HT_.out (by kernel_rfl)) (fun _ _ _ h => h) (Or.inl ⟨by rfl, ?_⟩) ?_ ?_
  rotate_left
  · intro w'
    go_simp
    with_reducible rfl
  rotate_left
  · simp only [Act.put, List.setIfInBounds_toArray, List.set_cons_zero, List.set_cons_succ, i64_w, i32_w]
    rfl
  refine pure_ (i := 13) (N := some 50) (v := ?_) (a' := ?_) #[true, true, true, true, true, true, true, true, true, true, true, false, true, true, false, false, false, false] rfl rfl (any_of HT_.out (by kernel_rfl)) (fun _ _ _ h => h) (Or.inl ⟨by rfl, ?_⟩) ?_ ?_
  rotate_left
  · intro w'
    go_simp
    with_reducible rfl
  rotate_left
  · simp only [Act.put, List.setIfInBounds_toArray, List.set_cons_zero, List.set_cons_succ, i64_w, i32_w]
    rfl
  refine take_ (i := 14) (N := some 51) (v := ?_) (a' := ?_) #[true, true, true, true, true, true, true, true, true, true, true, false, true, true, true, false, false, false] rfl rfl (take_ofW HT_.out HW_.out (by kernel_rfl)) (fun _ _ _ h => h) (Or.inl ⟨by rfl, ?_⟩) hHeld ?_ ?_
  rotate_left
  · rintro w' ⟨s0, s1, s2, s3, s4, s5, s6, s7⟩
    go_simp
    with_reducible rfl
  rotate_left
  · simp only [Act.put, List.setIfInBounds_toArray, List.set_cons_zero, List.set_cons_succ, i64_w, i32_w]
    rfl
  refine pure_ (i := 15) (N := some 52) (v := ?_) (a' := ?_) #[true, true, true, true, true, true, true, true, true, true, true, false, true, true, true, true, false, false] rfl rfl (any_of HT_.out (by kernel_rfl)) (fun _ _ _ h => h) (Or.inl ⟨by rfl, ?_⟩) ?_ ?_
  rotate_left
  · intro w'
    go_simp
    with_reducible rfl
  rotate_left
  · simp only [Act.put, List.setIfInBounds_toArray, List.set_cons_zero, List.set_cons_succ, i64_w, i32_w]
    rfl
  refine one_ (i := 11) (N := some 48) #[true, true, true, true, true, true, true, true, true, true, true, true, true, true, true, true, false, false] rfl rfl (one_of HT_.out (by kernel_rfl)) (by decide) (fun K hK => ?_)
  refine goes_ Tryd.func30 (by kernel_rfl) rfl #[.agg #[.int .i64 o.f0, .slice AR o.f1.length cR, .int .i64 o.f2, .int .i64 o.f3, .slice AN o.f4.length cN, .int .i64 o.f5, .string o.f6, .string o.f7]] (by rfl) rfl rfl (by (try simp only [List.map_toArray, List.map_cons, List.map_nil]); first | done | rfl | (simp only [List.length_drop, List.length_take]; rfl)) ?_
  refine (HNEED.out _ (Kd.C_below HR.out HB5.below) (Kd.C_below HN.out HB5.below)).mono ?_
  rintro e w6 ⟨rfl, hb⟩
  have HB6 := HB5.on hb
  have HRB6 := Aside0.mk (blk_on HRB5.out hb)
  have HKF6 := Aside0.mk (Kd.F_below HKF5.out hb)
  clear hb HB5 HRB5 HKF5 hHeld
  refine ⟨_, rfl, ?_⟩
  refine hK.out _ _ ⟨blk_cell HB6.snd 0, blk_cell HB6.snd 1, blk_cell HB6.snd 2, blk_cell HB6.snd 3, blk_cell HB6.snd 4, blk_cell HB6.snd 5, blk_cell HB6.snd 6, blk_cell HB6.snd 7⟩ (fun hHeld => ?_)
  clear hK K
  refine norm_ (a' := ?_) ?_ ?_
  rotate_left
  · show Act.put _ (some 48) _ = _
    simp only [Act.put, List.setIfInBounds_toArray, List.set_cons_zero, List.set_cons_succ, i64_w, i32_w]
    rfl
  refine pure_ (i := 16) (N := some 53) (v := ?_) (a' := ?_) #[true, true, true, true, true, true, true, true, true, true, true, true, true, true, true, true, true, false] rfl rfl (any_of HT_.out (by kernel_rfl)) (fun _ _ _ h => h) (Or.inl ⟨by rfl, ?_⟩) ?_ ?_
  rotate_left
  · intro w'
    go_simp
    with_reducible rfl
  rotate_left
  · simp only [Act.put, List.setIfInBounds_toArray, List.set_cons_zero, List.set_cons_succ, i64_w, i32_w]
    rfl
  refine pure_ (i := 17) (N := some 54) (v := ?_) (a' := ?_) #[true, true, true, true, true, true, true, true, true, true, true, true, true, true, true, true, true, true] rfl rfl (any_of HT_.out (by kernel_rfl)) (fun _ _ _ h => h) (Or.inl ⟨by rfl, ?_⟩) ?_ ?_
  rotate_left
  · intro w'
    go_simp
    with_reducible rfl
  rotate_left
  · simp only [Act.put, List.setIfInBounds_toArray, List.set_cons_zero, List.set_cons_succ, i64_w, i32_w]
    rfl
  refine done_ (done_of HT_.out (by kernel_rfl)) ?_
  try go_wp2
  refine start_ (n := 6) (S := fun w' => w'.cell? ⟨w.heap.size + 1, 0, none⟩ = some (.int .i64 o.f0) ∧ w'.cell? ⟨w.heap.size + 1, 1, none⟩ = some (.slice AR o.f1.length cR) ∧ w'.cell? ⟨w.heap.size + 1, 2, none⟩ = some (.int .i64 o.f2) ∧ w'.cell? ⟨w.heap.size + 1, 3, none⟩ = some (.int .i64 o.f3) ∧ w'.cell? ⟨w.heap.size + 1, 4, none⟩ = some (.slice AN o.f4.length cN) ∧ w'.cell? ⟨w.heap.size + 1, 5, none⟩ = some (.int .i64 o.f5) ∧ w'.cell? ⟨w.heap.size + 1, 6, none⟩ = some (.string o.f6) ∧ w'.cell? ⟨w.heap.size + 1, 7, none⟩ = some (.string o.f7)) (ds := []) #[false, false, false, false, false, false] (by kernel_rfl) rfl rfl ⟨blk_cell HB6.drew.snd 0, blk_cell HB6.drew.snd 1, blk_cell HB6.drew.snd 2, blk_cell HB6.drew.snd 3, blk_cell HB6.drew.snd 4, blk_cell HB6.drew.snd 5, blk_cell HB6.drew.snd 6, blk_cell HB6.drew.snd 7⟩ (fun hHeld => ?_); refine with_tabW apply11.tab apply11.bits (fun HT_ HW_ => ?_)
  have HB7 := HB6.drew
  have HRB7 : Aside0 (w6.drew.heap[g6]? = _) := ⟨HRB6.out⟩
  have HKF7 := Aside0.mk (Kd.F_drew HKF6.out)
  clear HB6 HRB6 HKF6
  generalize w6.drew = w7 at HB7 HRB7 HKF7 hHeld ⊢
  refine pure_ (i := 0) (N := some 56) (v := ?_) (a' := ?_) #[true, false, false, false, false, false] rfl rfl (any_of HT_.out (by kernel_rfl)) (fun _ _ _ h => h) (Or.inl ⟨by rfl, ?_⟩) ?_ ?_
  rotate_left
  · intro w'
    go_simp
    with_reducible rfl
  rotate_left
  · simp only [Act.put, List.setIfInBounds_toArray, List.set_cons_zero, List.set_cons_succ, i64_w, i32_w]
    rfl
  refine take_ (i := 1) (N := some 57) (v := ?_) (a' := ?_) #[true, true, false, false, false, false] rfl rfl (take_ofW HT_.out HW_.out (by kernel_rfl)) (fun _ _ _ h => h) (Or.inl ⟨by rfl, ?_⟩) hHeld ?_ ?_
  rotate_left
  · rintro w' ⟨s0, s1, s2, s3, s4, s5, s6, s7⟩
    go_simp
    with_reducible rfl
  rotate_left
  · simp only [Act.put, List.setIfInBounds_toArray, List.set_cons_zero, List.set_cons_succ, i64_w, i32_w]
    rfl
  refine take_ (i := 2) (N := some 58) (v := ?_) (a' := ?_) #[true, true, true, false, false, false] rfl rfl (take_ofW HT_.out HW_.out (by kernel_rfl)) (fun _ _ _ h => h) (Or.inl ⟨by rfl, ?_⟩) hHeld ?_ ?_
  rotate_left
  · rintro w' ⟨s0, s1, s2, s3, s4, s5, s6, s7⟩
    go_simp
    with_reducible rfl
  rotate_left
  · simp only [Act.put, List.setIfInBounds_toArray, List.set_cons_zero, List.set_cons_succ, i64_w, i32_w]
    rfl
  refine one_ (i := 3) (N := some 59) #[true, true, true, true, false, false] rfl rfl (one_of HT_.out (by kernel_rfl)) (by decide) (fun K hK => ?_)
  refine goes_ Tryd.func30 (by kernel_rfl) rfl #[.agg #[.int .i64 o.f0, .slice AR o.f1.length cR, .int .i64 o.f2, .int .i64 o.f3, .slice AN o.f4.length cN, .int .i64 o.f5, .string o.f6, .string o.f7]] (by rfl) rfl rfl (by (try simp only [List.map_toArray, List.map_cons, List.map_nil]); first | done | rfl | (simp only [List.length_drop, List.length_take]; rfl)) ?_
  refine (HNEED.out _ (Kd.C_below HR.out HB7.below) (Kd.C_below HN.out HB7.below)).mono ?_
  rintro e w8 ⟨rfl, hb⟩
  have HB8 := HB7.on hb
  have HRB8 := Aside0.mk (blk_on HRB7.out hb)
  have HKF8 := Aside0.mk (Kd.F_below HKF7.out hb)
  clear hb HB7 HRB7 HKF7 hHeld
  refine ⟨_, rfl, ?_⟩
  refine hK.out _ _ ⟨blk_cell HB8.snd 0, blk_cell HB8.snd 1, blk_cell HB8.snd 2, blk_cell HB8.snd 3, blk_cell HB8.snd 4, blk_cell HB8.snd 5, blk_cell HB8.snd 6, blk_cell HB8.snd 7⟩ (fun hHeld => ?_)
  clear hK K
  refine norm_ (a' := ?_) ?_ ?_
  rotate_left
  · show Act.put _ (some 59) _ = _
    simp only [Act.put, List.setIfInBounds_toArray, List.set_cons_zero, List.set_cons_succ, i64_w, i32_w]
    rfl
  refine pure_ (i := 4) (N := some 60) (v := ?_) (a' := ?_) #[true, true, true, true, true, false] rfl rfl (any_of HT_.out (by kernel_rfl)) (fun _ _ _ h => h) (Or.inl ⟨by rfl, ?_⟩) ?_ ?_
  rotate_left
  · intro w'
    go_simp
    with_reducible rfl
  rotate_left
  · simp only [Act.put, List.setIfInBounds_toArray, List.set_cons_zero, List.set_cons_succ, i64_w, i32_w]
    rfl
  refine pure_ (i := 5) (N := some 9) (v := ?_) (a' := ?_) #[true, true, true, true, true, true] rfl rfl (any_of HT_.out (by kernel_rfl)) (fun _ _ _ h => h) (Or.inl ⟨by rfl, ?_⟩) ?_ ?_
  rotate_left
  · intro w'
    go_simp
    with_reducible rfl
  rotate_left
  · simp only [Act.put, List.setIfInBounds_toArray, List.set_cons_zero, List.set_cons_succ, i64_w, i32_w]
    rfl
  refine done_ (done_of HT_.out (by kernel_rfl)) ?_
  try go_wp2
  obtain ⟨ii, hii, _, hsz, _⟩ := info_parts infoN
  have hcut := cut_mid (P := Tryd.prog) 22 24 .i64 .i64 Tryd.underlying22 hii 4 hsz A1 r.f3.length c1 o.f2 en h0 h1 h2 HCR.out
  have hlo : old.length = en.toNat - o.f2.toNat := by rw [← Hold.out, List.length_drop, List.length_take]; omega
  have hro := Kd.F_mid (lo := o.f2.toNat) (hi := en.toNat) (c := c1) HKF8.out (by omega) (by omega) HCR.out
  rw [Hold.out] at hro
  obtain ⟨A2, hA2⟩ : ∃ A2, A2 = (if c1 = o.f2.toNat then A1 else A1.map (·.add (o.f2.toNat * 4))) := ⟨_, rfl⟩
  obtain ⟨c2, hc2⟩ : ∃ c2, c2 = c1 - o.f2.toNat := ⟨_, rfl⟩
  replace hro : Kd.F k24 w8 (fun k => k ≠ g6) A2 old.length old := by rw [hA2]; exact hro
  rw [← hlo, ← hA2, ← hc2] at hcut
  have hle2 : Aside0 (old.length ≤ c2) := ⟨by have := HCR.out; rw [hlo, hc2]; omega⟩
  have HO8 := Aside0.mk hro
  clear hro hA2 hc2 hlo hii hsz
  refine start_ (n := 14) (S := fun w' => w'.cell? ⟨w.heap.size + 1, 0, none⟩ = some (.int .i64 o.f0) ∧ w'.cell? ⟨w.heap.size + 1, 1, none⟩ = some (.slice AR o.f1.length cR) ∧ w'.cell? ⟨w.heap.size + 1, 2, none⟩ = some (.int .i64 o.f2) ∧ w'.cell? ⟨w.heap.size + 1, 3, none⟩ = some (.int .i64 o.f3) ∧ w'.cell? ⟨w.heap.size + 1, 4, none⟩ = some (.slice AN o.f4.length cN) ∧ w'.cell? ⟨w.heap.size + 1, 5, none⟩ = some (.int .i64 o.f5) ∧ w'.cell? ⟨w.heap.size + 1, 6, none⟩ = some (.string o.f6) ∧ w'.cell? ⟨w.heap.size + 1, 7, none⟩ = some (.string o.f7) ∧ w'.cell? ⟨g6, 0, none⟩ = some (.int .i64 r.f0) ∧ w'.cell? ⟨g6, 1, none⟩ = some (.string r.f1) ∧ w'.cell? ⟨g6, 2, none⟩ = some (.int .i64 r.f2) ∧ w'.cell? ⟨g6, 3, none⟩ = some (.slice A1 r.f3.length c1)) (ds := []) #[false, false, false, false, false, false, false, false, false, false, false, false, false, false] (by kernel_rfl) rfl rfl ⟨blk_cell HB8.drew.snd 0, blk_cell HB8.drew.snd 1, blk_cell HB8.drew.snd 2, blk_cell HB8.drew.snd 3, blk_cell HB8.drew.snd 4, blk_cell HB8.drew.snd 5, blk_cell HB8.drew.snd 6, blk_cell HB8.drew.snd 7, blk_cell HRB8.out 0, blk_cell HRB8.out 1, blk_cell HRB8.out 2, blk_cell HRB8.out 3⟩ (fun hHeld => ?_); refine with_tabW apply12.tab apply12.bits (fun HT_ HW_ => ?_)
  have HB9 := HB8.drew
  have HRB9 : Aside0 (w8.drew.heap[g6]? = _) := ⟨HRB8.out⟩
  have HKF9 := Aside0.mk (Kd.F_drew HKF8.out)
  have HO9 := Aside0.mk (Kd.F_drew HO8.out)
  clear HB8 HRB8 HKF8 HO8
  generalize w8.drew = w9 at HB9 HRB9 HKF9 HO9 hHeld ⊢
  refine pure_ (i := 2) (N := some 64) (v := ?_) (a' := ?_) #[false, false, true, false, false, false, false, false, false, false, false, false, false, false] rfl rfl (any_of HT_.out (by kernel_rfl)) (fun _ _ _ h => h) (Or.inl ⟨by rfl, ?_⟩) ?_ ?_
  rotate_left
  · intro w'
    go_simp
    with_reducible rfl
  rotate_left
  · simp only [Act.put, List.setIfInBounds_toArray, List.set_cons_zero, List.set_cons_succ, i64_w, i32_w]
    rfl
  refine pure_ (i := 4) (N := some 66) (v := ?_) (a' := ?_) #[false, false, true, false, true, false, false, false, false, false, false, false, false, false] rfl rfl (any_of HT_.out (by kernel_rfl)) (fun _ _ _ h => h) (Or.inl ⟨by rfl, ?_⟩) ?_ ?_
  rotate_left
  · intro w'
    go_simp
    with_reducible rfl
  rotate_left
  · simp only [Act.put, List.setIfInBounds_toArray, List.set_cons_zero, List.set_cons_succ, i64_w, i32_w]
    rfl
  refine pure_ (i := 6) (N := some 68) (v := ?_) (a' := ?_) #[false, false, true, false, true, false, true, false, false, false, false, false, false, false] rfl rfl (any_of HT_.out (by kernel_rfl)) (fun _ _ _ h => h) (Or.inl ⟨by rfl, ?_⟩) ?_ ?_
  rotate_left
  · intro w'
    go_simp
    with_reducible rfl
  rotate_left
  · simp only [Act.put, List.setIfInBounds_toArray, List.set_cons_zero, List.set_cons_succ, i64_w, i32_w]
    rfl
  refine take_ (i := 0) (N := some 62) (v := ?_) (a' := ?_) #[true, false, true, false, true, false, true, false, false, false, false, false, false, false] rfl rfl (take_ofW HT_.out HW_.out (by kernel_rfl)) (fun _ _ _ h => h) (Or.inl ⟨by rfl, ?_⟩) hHeld ?_ ?_
  rotate_left
  · rintro w' ⟨s0, s1, s2, s3, s4, s5, s6, s7, s8, s9, s10, s11⟩
    go_simp
    with_reducible rfl
  rotate_left
  · simp only [Act.put, List.setIfInBounds_toArray, List.set_cons_zero, List.set_cons_succ, i64_w, i32_w]
    rfl
  refine take_ (i := 3) (N := some 65) (v := ?_) (a' := ?_) #[true, false, true, true, true, false, true, false, false, false, false, false, false, false] rfl rfl (take_ofW HT_.out HW_.out (by kernel_rfl)) (fun _ _ _ h => h) (Or.inl ⟨by rfl, ?_⟩) hHeld ?_ ?_
  rotate_left
  · rintro w' ⟨s0, s1, s2, s3, s4, s5, s6, s7, s8, s9, s10, s11⟩
    go_simp
    with_reducible rfl
  rotate_left
  · simp only [Act.put, List.setIfInBounds_toArray, List.set_cons_zero, List.set_cons_succ, i64_w, i32_w]
    rfl
  refine take_ (i := 5) (N := some 67) (v := ?_) (a' := ?_) #[true, false, true, true, true, true, true, false, false, false, false, false, false, false] rfl rfl (take_ofW HT_.out HW_.out (by kernel_rfl)) (fun _ _ _ h => h) (Or.inl ⟨by rfl, ?_⟩) hHeld ?_ ?_
  rotate_left
  · rintro w' ⟨s0, s1, s2, s3, s4, s5, s6, s7, s8, s9, s10, s11⟩
    go_simp
    with_reducible rfl
  rotate_left
  · simp only [Act.put, List.setIfInBounds_toArray, List.set_cons_zero, List.set_cons_succ, i64_w, i32_w]
    rfl
  refine pure_ (i := 7) (N := some 69) (v := ?_) (a' := ?_) #[true, false, true, true, true, true, true, true, false, false, false, false, false, false] rfl rfl (any_of HT_.out (by kernel_rfl)) (fun _ _ _ h => h) (Or.inl ⟨by rfl, ?_⟩) ?_ ?_
  rotate_left
  · intro w'
    go_simp
    with_reducible rfl
  rotate_left
  · simp only [Act.put, List.setIfInBounds_toArray, List.set_cons_zero, List.set_cons_succ, i64_w, i32_w]
    rfl
  refine one_ (i := 1) (N := some 63) #[true, true, true, true, true, true, true, true, false, false, false, false, false, false] rfl rfl (one_of HT_.out (by kernel_rfl)) (by decide) (fun K hK => ?_)
  refine goes_ Tryd.func32 (by kernel_rfl) rfl #[.agg #[.int .i64 o.f0, .slice AR o.f1.length cR, .int .i64 o.f2, .int .i64 o.f3, .slice AN o.f4.length cN, .int .i64 o.f5, .string o.f6, .string o.f7]] (by rfl) rfl rfl (by (try simp only [List.map_toArray, List.map_cons, List.map_nil]); first | done | rfl | (simp only [List.length_drop, List.length_take]; rfl)) ?_
  refine (HCOPY.out (fun k => k ≠ g6) _ (Kd.C_below HR.out HB9.below) (Kd.F_mono (Kd.F_below (Kd.C_F k24_heap HN.out) HB9.below) (fun k hk => by have := HG.out; omega))).mono ?_
  rintro e w10 ⟨v1, v4, rfl, hR1, hN4, hb⟩
  obtain ⟨AR2, cR2, rfl⟩ := Kd.R_slice hR1
  obtain ⟨AN2, cN2, rfl⟩ := Kd.N_slice hN4
  have HGL := blk_lt HRB9.out
  have HCN := Aside0.mk (Kd.N_reads' hN4).2.1
  have HN10 : Aside0 (Kd.F k24 w10 (fun k => k ≠ g6) AN2 o.f4.length o.f4) := ⟨Kd.F_mono (Kd.N_F hN4) (fun k hk => by rcases hk.1 with h | h; exact h; omega)⟩
  have HO10 := Aside0.mk (Kd.F_below HO9.out hb)
  have HB10 := HB9.on hb
  have HRB10 := Aside0.mk (blk_on HRB9.out hb)
  have HKF10 := Aside0.mk (Kd.F_below HKF9.out hb)
  clear hb hN4 hR1 HGL HB9 HRB9 HKF9 HO9 hHeld
  refine ⟨_, rfl, ?_⟩
  refine hK.out _ _ ⟨blk_cell HB10.snd 0, blk_cell HB10.snd 1, blk_cell HB10.snd 2, blk_cell HB10.snd 3, blk_cell HB10.snd 4, blk_cell HB10.snd 5, blk_cell HB10.snd 6, blk_cell HB10.snd 7, blk_cell HRB10.out 0, blk_cell HRB10.out 1, blk_cell HRB10.out 2, blk_cell HRB10.out 3⟩ (fun hHeld => ?_)
  clear hK K
  refine norm_ (a' := ?_) ?_ ?_
  rotate_left
  · show Act.put _ (some 63) _ = _
    simp only [Act.put, List.setIfInBounds_toArray, List.set_cons_zero, List.set_cons_succ, i64_w, i32_w]
    rfl
  refine one_ (i := 8) (N := some 70) #[true, true, true, true, true, true, true, true, true, false, false, false, false, false] rfl rfl (one_of HT_.out (by kernel_rfl)) (by decide) (fun K hK => ?_)
  refine goes_ Tryd.func31 (by kernel_rfl) rfl #[.agg #[.int .i64 o.f0, .slice AR2 o.f1.length cR2, .int .i64 o.f2, .int .i64 o.f3, .slice AN2 o.f4.length cN2, .int .i64 o.f5, .string o.f6, .string o.f7], .slice A2 old.length c2] (by rfl) rfl rfl (by (try simp only [List.map_toArray, List.map_cons, List.map_nil]); first | done | rfl | (simp only [List.length_drop, List.length_take]; rfl)) ?_
  refine (HCH.out A2 AR2 AN2 c2 cR2 cN2 (fun k => k ≠ g6) _ hle2.out HCN.out HO10.out HN10.out).mono ?_
  rintro e w11 ⟨A3, c3, rfl, hl3, hF3, hb⟩
  have HGL := blk_lt HRB10.out
  have HC11 : Aside0 (Kd.F k24 w11 (fun k => k ≠ g6) A3 ch.length ch) := ⟨Kd.F_mono hF3 (fun k hk => by rcases hk with h | h; exact h; omega)⟩
  have HL3 := Aside0.mk hl3
  have HB11 := HB10.on hb
  have HRB11 := Aside0.mk (blk_on HRB10.out hb)
  have HKF11 := Aside0.mk (Kd.F_below HKF10.out hb)
  clear hb hF3 hl3 HGL HB10 HRB10 HKF10 HO10 HN10 hHeld
  refine ⟨_, rfl, ?_⟩
  refine hK.out _ _ ⟨blk_cell HB11.snd 0, blk_cell HB11.snd 1, blk_cell HB11.snd 2, blk_cell HB11.snd 3, blk_cell HB11.snd 4, blk_cell HB11.snd 5, blk_cell HB11.snd 6, blk_cell HB11.snd 7, blk_cell HRB11.out 0, blk_cell HRB11.out 1, blk_cell HRB11.out 2, blk_cell HRB11.out 3⟩ (fun hHeld => ?_)
  clear hK K
  refine norm_ (a' := ?_) ?_ ?_
  rotate_left
  · show Act.put _ (some 70) _ = _
    simp only [Act.put, List.setIfInBounds_toArray, List.set_cons_zero, List.set_cons_succ, i64_w, i32_w]
    rfl
  refine pure_ (i := 9) (N := some 61) (v := ?_) (a' := ?_) #[true, true, true, true, true, true, true, true, true, true, false, false, false, false] rfl rfl (any_of HT_.out (by kernel_rfl)) (fun _ _ _ h => h) (Or.inl ⟨by rfl, ?_⟩) ?_ ?_
  rotate_left
  · intro w'
    go_simp
    with_reducible rfl
  rotate_left
  · simp only [Act.put, List.setIfInBounds_toArray, List.set_cons_zero, List.set_cons_succ, i64_w, i32_w]
    rfl
  refine pure_ (i := 10) (N := some 71) (v := ?_) (a' := ?_) #[true, true, true, true, true, true, true, true, true, true, true, false, false, false] rfl rfl (any_of HT_.out (by kernel_rfl)) (fun _ _ _ h => h) (Or.inl ⟨by rfl, ?_⟩) ?_ ?_
  rotate_left
  · intro w'
    go_simp
    with_reducible rfl
  rotate_left
  · simp only [Act.put, List.setIfInBounds_toArray, List.set_cons_zero, List.set_cons_succ, i64_w, i32_w]
    rfl
  refine pure_ (i := 11) (N := some 72) (v := ?_) (a' := ?_) #[true, true, true, true, true, true, true, true, true, true, true, true, false, false] rfl rfl (any_of HT_.out (by kernel_rfl)) (fun _ _ _ h => h) (Or.inl ⟨by rfl, ?_⟩) ?_ ?_
  rotate_left
  · intro w'
    go_simp
    with_reducible rfl
  rotate_left
  · simp only [Act.put, List.setIfInBounds_toArray, List.set_cons_zero, List.set_cons_succ, i64_w, i32_w]
    rfl
  refine pure_ (i := 12) (N := some 10) (v := ?_) (a' := ?_) #[true, true, true, true, true, true, true, true, true, true, true, true, true, false] rfl rfl (any_of HT_.out (by kernel_rfl)) (fun _ _ _ h => h) (Or.inl ⟨by rfl, ?_⟩) ?_ ?_
  rotate_left
  · intro w'
    go_simp
    with_reducible rfl
  rotate_left
  · simp only [Act.put, List.setIfInBounds_toArray, List.set_cons_zero, List.set_cons_succ, i64_w, i32_w]
    rfl
  refine pure_ (i := 13) (N := some 11) (v := ?_) (a' := ?_) #[true, true, true, true, true, true, true, true, true, true, true, true, true, true] rfl rfl (any_of HT_.out (by kernel_rfl)) (fun _ _ _ h => h) (Or.inl ⟨by rfl, ?_⟩) ?_ ?_
  rotate_left
  · intro w'
    go_simp
    with_reducible rfl
  rotate_left
  · simp only [Act.put, List.setIfInBounds_toArray, List.set_cons_zero, List.set_cons_succ, i64_w, i32_w]
    rfl
  refine done_ (done_of HT_.out (by kernel_rfl)) ?_
  have z0 := (blk_cell HB11.trd 0 : w11.cell? ⟨w.heap.size + 1 + 1, 0, none⟩ = _)
  have z1 := (blk_cell HB11.trd 1 : w11.cell? ⟨w.heap.size + 1 + 1, 1, none⟩ = _)
  have z2 := (blk_cell HB11.trd 2 : w11.cell? ⟨w.heap.size + 1 + 1, 2, none⟩ = _)
  have z3 := (blk_cell HB11.trd 3 : w11.cell? ⟨w.heap.size + 1 + 1, 3, none⟩ = _)
  have y0 := (blk_frozen HB11.trd 0 : w11.frozen? ⟨w.heap.size + 1 + 1, 0, none⟩ = false)
  have y1 := (blk_frozen HB11.trd 1 : w11.frozen? ⟨w.heap.size + 1 + 1, 1, none⟩ = false)
  have y2 := (blk_frozen HB11.trd 2 : w11.frozen? ⟨w.heap.size + 1 + 1, 2, none⟩ = false)
  have y3 := (blk_frozen HB11.trd 3 : w11.frozen? ⟨w.heap.size + 1 + 1, 3, none⟩ = false)
  try go_wp2
  refine bodyPost_ret (results_ct rfl _ _ (w.heap.size + 1 + 1) 24 #[.int .i64 0, .string ⟨#[]⟩, .int .i64 0, .slice none 0 0] (0, 0) _ rfl (blk_put4 HB11.trd) Tryd.underlying24 rfl (by kernel_rfl)) rfl ?_
  exact ⟨rfl, below_set4 HB11.below (by omega)⟩
end Go.Proofs.YtgcpfelccfnnbaaDoor.X
namespace Go.Proofs.YtgcpfelccfnnbaaDoor.X
open Go.RowKit Go.Proofs.YtgcpfelccfnnbaaDoorW.PrintWords Go.Proofs.YtgcpfelccfnnbaaDoorW.PrintLast Go.Proofs.YtgcpfelccfnnbaaDoorW.PrintMore
attribute [local go_sem] max2_int min2_int max_two min_two max_three min_three max_four min_four   -- for this text's walks alone
set_option linter.unusedVariables false
set_option linter.unusedSimpArgs false
set_option maxRecDepth 100000 in
set_option maxHeartbeats 4000000 in
theorem apply_e6 (u : S24) (we : Int) (hwe : ¬ we = 0) (pre old post ch kids : List S24) (en : Int) (r : S24) (nn : Int) (x : S24) (o : S27) (A AR AN : Option Addr) (c cR cN : Nat) (w : World) (HA : Aside0 (Kd.C k24 w A x.f3.length x.f3)) (HR : Aside0 (Kd.C (Kd.int .i64) w AR o.f1.length o.f1)) (HN : Aside0 (Kd.C k24 w AN o.f4.length o.f4)) (HV : Aside0 (∀ W : World, Kd.C k24 W A x.f3.length x.f3 → Calls Tryd.prog 27 #[.agg #[.int .i64 x.f0, .string x.f1, .int .i64 x.f2, .slice A x.f3.length c]] W fun e w' => e = .returned (.bool true) ∧ Below W.heap.size W w')) (HF : Aside0 (∀ W : World, Kd.C (Kd.int .i64) W AR o.f1.length o.f1 → Kd.C k24 W AN o.f4.length o.f4 → Calls Tryd.prog 28 #[.agg #[.int .i64 o.f0, .slice AR o.f1.length cR, .int .i64 o.f2, .int .i64 o.f3, .slice AN o.f4.length cN, .int .i64 o.f5, .string o.f6, .string o.f7]] W fun e w' => e = .returned (.bool true) ∧ Below W.heap.size W w')) (HROW : Aside0 (∀ W : World, Kd.C k24 W A x.f3.length x.f3 → Kd.C (Kd.int .i64) W AR o.f1.length o.f1 → Calls Tryd.prog 29 #[.agg #[.int .i64 x.f0, .string x.f1, .int .i64 x.f2, .slice A x.f3.length c], .slice AR o.f1.length cR] W fun e w' => ∃ v : Value, e = .returned (.tuple #[.agg #[.int .i64 r.f0, .string r.f1, .int .i64 r.f2, v], .int .i64 0]) ∧ Kd.R k24 24 w' W.heap.size (fun _ => True) v r.f3 ∧ Below W.heap.size W w')) (HNEED : Aside0 (∀ W : World, Kd.C (Kd.int .i64) W AR o.f1.length o.f1 → Kd.C k24 W AN o.f4.length o.f4 → Calls Tryd.prog 30 #[.agg #[.int .i64 o.f0, .slice AR o.f1.length cR, .int .i64 o.f2, .int .i64 o.f3, .slice AN o.f4.length cN, .int .i64 o.f5, .string o.f6, .string o.f7]] W fun e w' => e = .returned (.int .i64 nn) ∧ Below W.heap.size W w')) (h39 : decide (o.f2 < 0) = false) (h44 : decide ((r.f3.length : Int) < o.f2) = false) (h53 : decide (wrap64 ((r.f3.length : Int) - o.f2) < nn) = false) (hen : wrap64 (o.f2 + nn) = en) (h0 : 0 ≤ o.f2) (h1 : o.f2 ≤ en) (h2 : en ≤ r.f3.length) (Hold : Aside0 ((r.f3.take en.toNat).drop o.f2.toNat = old)) (HCOPY : Aside0 (∀ (P : Nat → Prop) (W : World), Kd.C (Kd.int .i64) W AR o.f1.length o.f1 → Kd.F k24 W P AN o.f4.length o.f4 → Calls Tryd.prog 32 #[.agg #[.int .i64 o.f0, .slice AR o.f1.length cR, .int .i64 o.f2, .int .i64 o.f3, .slice AN o.f4.length cN, .int .i64 o.f5, .string o.f6, .string o.f7]] W fun e w' => ∃ v1 v4 : Value, e = .returned (.agg #[.int .i64 o.f0, v1, .int .i64 o.f2, .int .i64 o.f3, v4, .int .i64 o.f5, .string o.f6, .string o.f7]) ∧ (Kd.int .i64).R 3 w' W.heap.size (fun k => W.heap.size ≤ k) v1 o.f1 ∧ Kd.N k24 24 w' W.heap.size (fun k => (P k ∨ W.heap.size ≤ k) ∧ some k ≠ v1.ownBlock) v4 o.f4 ∧ Below W.heap.size W w')) (HCH : Aside0 (∀ (A2 AR2 AN2 : Option Addr) (c2 cR2 cN2 : Nat) (P : Nat → Prop) (W : World), old.length ≤ c2 → o.f4.length ≤ cN2 → Kd.F k24 W P A2 old.length old → Kd.F k24 W P AN2 o.f4.length o.f4 → Calls Tryd.prog 31 #[.agg #[.int .i64 o.f0, .slice AR2 o.f1.length cR2, .int .i64 o.f2, .int .i64 o.f3, .slice AN2 o.f4.length cN2, .int .i64 o.f5, .string o.f6, .string o.f7], .slice A2 old.length c2] W fun e w' => ∃ (A' : Option Addr) (c' : Nat), e = .returned (.tuple #[.slice A' ch.length c', .bool true]) ∧ ch.length ≤ c' ∧ Kd.F k24 w' (fun j => P j ∨ W.heap.size ≤ j) A' ch.length ch ∧ Below W.heap.size W w')) (Hpre : Aside0 (r.f3.take o.f2.toNat = pre)) (Hpost : Aside0 (r.f3.drop en.toNat = post)) (HCAT : Aside0 (∀ (A2 : Option Addr) (c2 : Nat) (P : Nat → Prop) (W : World), Kd.F (Kd.slice 24 k24) W P A2 3 [pre, ch, post] → Calls Tryd.prog 33 #[.slice A2 3 c2] W fun e w' => ∃ v : Value, e = .returned v ∧ Kd.N k24 24 w' W.heap.size (fun k => P k ∨ W.heap.size ≤ k) v kids ∧ Below W.heap.size W w')) (HWITH : Aside0 (∀ (A2 : Option Addr) (c2 : Nat) (W : World), kids.length ≤ c2 → Kd.C k24 W A x.f3.length x.f3 → Kd.C (Kd.int .i64) W AR o.f1.length o.f1 → Kd.C k24 W A2 kids.length kids → Calls Tryd.prog 34 #[.agg #[.int .i64 x.f0, .string x.f1, .int .i64 x.f2, .slice A x.f3.length c], .slice AR o.f1.length cR, .agg #[.int .i64 r.f0, .string r.f1, .int .i64 r.f2, .slice A2 kids.length c2]] W fun e w' => ∃ (A' : Option Addr) (c' : Nat), e = .returned (.tuple #[.agg #[.int .i64 u.f0, .string u.f1, .int .i64 u.f2, .slice A' u.f3.length c'], .int .i64 we]) ∧ u.f3.length ≤ c' ∧ Kd.F k24 w' (fun k => W.heap.size ≤ k) A' u.f3.length u.f3 ∧ Below W.heap.size W w')) :
    Calls Tryd.prog 11 #[.agg #[.int .i64 x.f0, .string x.f1, .int .i64 x.f2, .slice A x.f3.length c], .agg #[.int .i64 o.f0, .slice AR o.f1.length cR, .int .i64 o.f2, .int .i64 o.f3, .slice AN o.f4.length cN, .int .i64 o.f5, .string o.f6, .string o.f7]] w (ErrPost w 6) := by
  go_enter Tryd.func11, Tryd.ntmps11
  go_wp2_with (first | (go_at_call 27; go_loud (refine (HV.out _ (Kd.C_below HA.out (Boxes.new w _ _ _).below)).mono ?_; rintro e w1 ⟨rfl, hB1⟩; have HB1 := (Boxes.new w _ _ _).on hB1; clear hB1; have o0 := (blk_cell HB1.snd 0 : w1.cell? ⟨w.heap.size + 1, 0, none⟩ = _); have o1 := (blk_cell HB1.snd 1 : w1.cell? ⟨w.heap.size + 1, 1, none⟩ = _); have o2 := (blk_cell HB1.snd 2 : w1.cell? ⟨w.heap.size + 1, 2, none⟩ = _); have o3 := (blk_cell HB1.snd 3 : w1.cell? ⟨w.heap.size + 1, 3, none⟩ = _); have o4 := (blk_cell HB1.snd 4 : w1.cell? ⟨w.heap.size + 1, 4, none⟩ = _); have o5 := (blk_cell HB1.snd 5 : w1.cell? ⟨w.heap.size + 1, 5, none⟩ = _); have o6 := (blk_cell HB1.snd 6 : w1.cell? ⟨w.heap.size + 1, 6, none⟩ = _); have o7 := (blk_cell HB1.snd 7 : w1.cell? ⟨w.heap.size + 1, 7, none⟩ = _))) | (go_at_call 28; go_loud (refine (HF.out _ (Kd.C_below HR.out HB1.below) (Kd.C_below HN.out HB1.below)).mono ?_; rintro e w2 ⟨rfl, hB2⟩; have HB2 := HB1.on hB2; clear hB2 HB1; clear o0 o1 o2 o3 o4 o5 o6 o7; have x0 := (blk_cell HB2.fst 0 : w2.cell? ⟨w.heap.size, 0, none⟩ = _); have x1 := (blk_cell HB2.fst 1 : w2.cell? ⟨w.heap.size, 1, none⟩ = _); have x2 := (blk_cell HB2.fst 2 : w2.cell? ⟨w.heap.size, 2, none⟩ = _); have x3 := (blk_cell HB2.fst 3 : w2.cell? ⟨w.heap.size, 3, none⟩ = _); have o0 := (blk_cell HB2.snd 0 : w2.cell? ⟨w.heap.size + 1, 0, none⟩ = _); have o1 := (blk_cell HB2.snd 1 : w2.cell? ⟨w.heap.size + 1, 1, none⟩ = _); have o2 := (blk_cell HB2.snd 2 : w2.cell? ⟨w.heap.size + 1, 2, none⟩ = _); have o3 := (blk_cell HB2.snd 3 : w2.cell? ⟨w.heap.size + 1, 3, none⟩ = _); have o4 := (blk_cell HB2.snd 4 : w2.cell? ⟨w.heap.size + 1, 4, none⟩ = _); have o5 := (blk_cell HB2.snd 5 : w2.cell? ⟨w.heap.size + 1, 5, none⟩ = _); have o6 := (blk_cell HB2.snd 6 : w2.cell? ⟨w.heap.size + 1, 6, none⟩ = _); have o7 := (blk_cell HB2.snd 7 : w2.cell? ⟨w.heap.size + 1, 7, none⟩ = _))) | (go_at_call 29; go_loud (refine (HROW.out _ (Kd.C_below HA.out HB2.below) (Kd.C_below HR.out HB2.below)).mono ?_; rintro e w3 ⟨v, rfl, hRR, hB3⟩; obtain ⟨A1, c1, rfl⟩ := Kd.R_slice hRR; have HB3 := HB2.on hB3; clear hB3 HB2; clear x0 x1 x2 x3 o0 o1 o2 o3 o4 o5 o6 o7; have HRR := Aside0.mk hRR; clear hRR; skip)))
  have HG := Aside0.mk HB3.big
  have HCR := Aside0.mk (Kd.R_reads' HRR.out).2.1
  have HKF : Aside0 (Kd.F k24 (w3.alloc (.cells #[.int .i64 r.f0, .string r.f1, .int .i64 r.f2, .slice A1 r.f3.length c1] 24)) (fun k => k ≠ w3.heap.size) A1 r.f3.length r.f3) := ⟨Kd.F_mono (Kd.F_alloc (Kd.F_bound (Kd.R_F HRR.out)) _) (fun k hk => by have := hk.2; omega)⟩
  have HRB4 := Aside0.mk (heap_alloc_new w3 (.cells #[.int .i64 r.f0, .string r.f1, .int .i64 r.f2, .slice A1 r.f3.length c1] 24))
  have HB4 := HB3.alloc (.cells #[.int .i64 r.f0, .string r.f1, .int .i64 r.f2, .slice A1 r.f3.length c1] 24)
  clear HB3 HRR
  refine start_ (n := 18) (S := fun w' => w'.cell? ⟨w.heap.size + 1, 0, none⟩ = some (.int .i64 o.f0) ∧ w'.cell? ⟨w.heap.size + 1, 1, none⟩ = some (.slice AR o.f1.length cR) ∧ w'.cell? ⟨w.heap.size + 1, 2, none⟩ = some (.int .i64 o.f2) ∧ w'.cell? ⟨w.heap.size + 1, 3, none⟩ = some (.int .i64 o.f3) ∧ w'.cell? ⟨w.heap.size + 1, 4, none⟩ = some (.slice AN o.f4.length cN) ∧ w'.cell? ⟨w.heap.size + 1, 5, none⟩ = some (.int .i64 o.f5) ∧ w'.cell? ⟨w.heap.size + 1, 6, none⟩ = some (.string o.f6) ∧ w'.cell? ⟨w.heap.size + 1, 7, none⟩ = some (.string o.f7)) (ds := []) #[false, false, false, false, false, false, false, false, false, false, false, false, false, false, false, false, false, false] (by kernel_rfl) rfl rfl ⟨blk_cell HB4.drew.snd 0, blk_cell HB4.drew.snd 1, blk_cell HB4.drew.snd 2, blk_cell HB4.drew.snd 3, blk_cell HB4.drew.snd 4, blk_cell HB4.drew.snd 5, blk_cell HB4.drew.snd 6, blk_cell HB4.drew.snd 7⟩ (fun hHeld => ?_); refine with_tabW apply9.tab apply9.bits (fun HT_ HW_ => ?_)
  have HB5 := HB4.drew
  have HRB5 : Aside0 ((w3.alloc (.cells #[.int .i64 r.f0, .string r.f1, .int .i64 r.f2, .slice A1 r.f3.length c1] 24)).drew.heap[w3.heap.size]? = some (.cells #[.int .i64 r.f0, .string r.f1, .int .i64 r.f2, .slice A1 r.f3.length c1] 24)) := ⟨HRB4.out⟩
  have HKF5 := Aside0.mk (Kd.F_drew HKF.out)
  clear HB4 HRB4 HKF
  generalize (w3.alloc (.cells #[.int .i64 r.f0, .string r.f1, .int .i64 r.f2, .slice A1 r.f3.length c1] 24)).drew = W5 at HB5 HRB5 HKF5 hHeld ⊢
  generalize w3.heap.size = g6 at HG HRB5 HKF5 ⊢
  refine pure_ (i := 0) (N := some 37) (v := ?_) (a' := ?_) #[true, false, false, false, false, false, false, false, false, false, false, false, false, false, false, false, false, false] rfl rfl (any_of HT_.out (by kernel_rfl)) (fun _ _ _ h => h) (Or.inl ⟨by rfl, ?_⟩) ?_ ?_
  rotate_left
  · intro w'
    go_simp
    with_reducible rfl
  rotate_left
  · simp only [Act.put, List.setIfInBounds_toArray, List.set_cons_zero, List.set_cons_succ, i64_w, i32_w]
    rfl
  refine take_ (i := 1) (N := some 38) (v := ?_) (a' := ?_) #[true, true, false, false, false, false, false, false, false, false, false, false, false, false, false, false, false, false] rfl rfl (take_ofW HT_.out HW_.out (by kernel_rfl)) (fun _ _ _ h => h) (Or.inl ⟨by rfl, ?_⟩) hHeld ?_ ?_
  rotate_left
  · rintro w' ⟨s0, s1, s2, s3, s4, s5, s6, s7⟩
    go_simp
    with_reducible rfl
  rotate_left
  · simp only [Act.put, List.setIfInBounds_toArray, List.set_cons_zero, List.set_cons_succ, i64_w, i32_w]
    rfl
  refine pure_ (i := 2) (N := some 39) (v := ?_) (a' := ?_) #[true, true, true, false, false, false, false, false, false, false, false, false, false, false, false, false, false, false] rfl rfl (any_of HT_.out (by kernel_rfl)) (fun _ _ _ h => h) (Or.inl ⟨by rfl, ?_⟩) ?_ ?_
  rotate_left
  · intro w'
    go_simp
    with_reducible rfl
  rotate_left
  · simp only [Act.put, List.setIfInBounds_toArray, List.set_cons_zero, List.set_cons_succ, i64_w, i32_w]
    rfl
  refine pure_ (i := 3) (N := some 40) (v := ?_) (a' := ?_) #[true, true, true, true, false, false, false, false, false, false, false, false, false, false, false, false, false, false] rfl rfl (any_of HT_.out (by kernel_rfl)) (fun _ _ _ h => h) (Or.inl ⟨by rfl, ?_⟩) ?_ ?_
  rotate_left
  · intro w'
    go_simp
    with_reducible rfl
  rotate_left
  · simp only [Act.put, List.setIfInBounds_toArray, List.set_cons_zero, List.set_cons_succ, i64_w, i32_w]
    rfl
  refine pure_ (i := 4) (N := some 41) (v := ?_) (a' := ?_) #[true, true, true, true, true, false, false, false, false, false, false, false, false, false, false, false, false, false] rfl rfl (any_of HT_.out (by kernel_rfl)) (fun _ _ _ h => h) (Or.inl ⟨by rfl, ?_⟩) ?_ ?_
  rotate_left
  · intro w'
    go_simp
    with_reducible rfl
  rotate_left
  · simp only [Act.put, List.setIfInBounds_toArray, List.set_cons_zero, List.set_cons_succ, i64_w, i32_w]
    rfl
  refine take_ (i := 5) (N := some 42) (v := ?_) (a' := ?_) #[true, true, true, true, true, true, false, false, false, false, false, false, false, false, false, false, false, false] rfl rfl (take_ofW HT_.out HW_.out (by kernel_rfl)) (fun _ _ _ h => h) (Or.inl ⟨by rfl, ?_⟩) hHeld ?_ ?_
  rotate_left
  · rintro w' ⟨s0, s1, s2, s3, s4, s5, s6, s7⟩
    go_simp
    with_reducible rfl
  rotate_left
  · simp only [Act.put, List.setIfInBounds_toArray, List.set_cons_zero, List.set_cons_succ, i64_w, i32_w]
    rfl
  refine pure_ (i := 6) (N := some 43) (v := ?_) (a' := ?_) #[true, true, true, true, true, true, true, false, false, false, false, false, false, false, false, false, false, false] rfl rfl (any_of HT_.out (by kernel_rfl)) (fun _ _ _ h => h) (Or.inl ⟨by rfl, ?_⟩) ?_ ?_
  rotate_left
  · intro w'
    go_simp
    with_reducible rfl
  rotate_left
  · simp only [Act.put, List.setIfInBounds_toArray, List.set_cons_zero, List.set_cons_succ, i64_w, i32_w]
    rfl
  refine pure_ (i := 7) (N := some 44) (v := ?_) (a' := ?_) #[true, true, true, true, true, true, true, true, false, false, false, false, false, false, false, false, false, false] rfl rfl (any_of HT_.out (by kernel_rfl)) (fun _ _ _ h => h) (Or.inl ⟨by rfl, ?_⟩) ?_ ?_
  rotate_left
  · intro w'
    go_simp
    with_reducible rfl
  rotate_left
  · simp only [Act.put, List.setIfInBounds_toArray, List.set_cons_zero, List.set_cons_succ, i64_w, i32_w]
    rfl
  refine pure_ (i := 8) (N := some 45) (v := ?_) (a' := ?_) #[true, true, true, true, true, true, true, true, true, false, false, false, false, false, false, false, false, false] rfl rfl (any_of HT_.out (by kernel_rfl)) (fun _ _ _ h => h) (Or.inl ⟨by rfl, ?_⟩) ?_ ?_
  rotate_left
  · intro w'
    go_simp
    with_reducible rfl
  rotate_left
  · simp only [Act.put, List.setIfInBounds_toArray, List.set_cons_zero, List.set_cons_succ, i64_w, i32_w]
    rfl
  refine pure_ (i := 9) (N := some 46) (v := ?_) (a' := ?_) #[true, true, true, true, true, true, true, true, true, true, false, false, false, false, false, false, false, false] rfl rfl (any_of HT_.out (by kernel_rfl)) (fun _ _ _ h => h) (Or.inl ⟨by rfl, ?_⟩) ?_ ?_
  rotate_left
  · intro w'
    go_simp
    with_reducible rfl
  rotate_left
  · simp only [Act.put, List.setIfInBounds_toArray, List.set_cons_zero, List.set_cons_succ, i64_w, i32_w]
    rfl
  refine take_ (i := 10) (N := some 47) (v := ?_) (a' := ?_) #[true, true, true, true, true, true, true, true, true, true, true, false, false, false, false, false, false, false] rfl rfl (take_ofW HT_.out HW_.out (by kernel_rfl)) (fun _ _ _ h => h) (Or.inl ⟨by rfl, ?_⟩) hHeld ?_ ?_
  rotate_left
  · rintro w' ⟨s0, s1, s2, s3, s4, s5, s6, s7⟩
    go_simp
    with_reducible rfl
  rotate_left
  · simp only [Act.put, List.setIfInBounds_toArray, List.set_cons_zero, List.set_cons_succ, i64_w, i32_w]
    rfl
  refine pure_ (i := 12) (N := some 49) (v := ?_) (a' := ?_) #[true, true, true, true, true, true, true, true, true, true, true, false, true, false, false, false, false, false] rfl rfl (any_of HT_.out (by kernel_rfl)) (fun _ _ _ h => h) (Or.inl ⟨by rfl, ?_⟩) ?_ ?_
  rotate_left
  · intro w'
    go_simp
    with_reducible rfl
  rotate_left
  · simp only [Act.put, List.setIfInBounds_toArray, List.set_cons_zero, List.set_cons_succ, i64_w, i32_w]
    rfl
  refine pure_ (i := 13) (N := some 50) (v := ?_) (a' := ?_) #[true, true, true, true, true, true, true, true, true, true, true, false, true, true, false, false, false, false] rfl rfl (any_of HT_.out (by kernel_rfl)) (fun _ _ _ h => h) (Or.inl ⟨by rfl, ?_⟩) ?_ ?_
  rotate_left
  · intro w'
    go_simp
    with_reducible rfl
  rotate_left
  · simp only [Act.put, List.setIfInBounds_toArray, List.set_cons_zero, List.set_cons_succ, i64_w, i32_w]
    rfl
  refine take_ (i := 14) (N := some 51) (v := ?_) (a' := ?_) #[true, true, true, true, true, true, true, true, true, true, true, false, true, true, true, false, false, false] rfl rfl (take_ofW HT_.out HW_.out (by kernel_rfl)) (fun _ _ _ h => h) (Or.inl ⟨by rfl, ?_⟩) hHeld ?_ ?_
  rotate_left
  · rintro w' ⟨s0, s1, s2, s3, s4, s5, s6, s7⟩
    go_simp
    with_reducible rfl
  rotate_left
  · simp only [Act.put, List.setIfInBounds_toArray, List.set_cons_zero, List.set_cons_succ, i64_w, i32_w]
    rfl
  refine pure_ (i := 15) (N := some 52) (v := ?_) (a' := ?_) #[true, true, true, true, true, true, true, true, true, true, true, false, true, true, true, true, false, false] rfl rfl (any_of HT_.out (by kernel_rfl)) (fun _ _ _ h => h) (Or.inl ⟨by rfl, ?_⟩) ?_ ?_
  rotate_left
  · intro w'
    go_simp
    with_reducible rfl
  rotate_left
  · simp only [Act.put, List.setIfInBounds_toArray, List.set_cons_zero, List.set_cons_succ, i64_w, i32_w]
    rfl
  refine one_ (i := 11) (N := some 48) #[true, true, true, true, true, true, true, true, true, true, true, true, true, true, true, true, false, false] rfl rfl (one_of HT_.out (by kernel_rfl)) (by decide) (fun K hK => ?_)
  refine goes_ Tryd.func30 (by kernel_rfl) rfl #[.agg #[.int .i64 o.f0, .slice AR o.f1.length cR, .int .i64 o.f2, .int .i64 o.f3, .slice AN o.f4.length cN, .int .i64 o.f5, .string o.f6, .string o.f7]] (by rfl) rfl rfl (by (try simp only [List.map_toArray, List.map_cons, List.map_nil]); first | done | rfl | (simp only [List.length_drop, List.length_take]; rfl)) ?_
  refine (HNEED.out _ (Kd.C_below HR.out HB5.below) (Kd.C_below HN.out HB5.below)).mono ?_
  rintro e w6 ⟨rfl, hb⟩
  have HB6 := HB5.on hb
  have HRB6 := Aside0.mk (blk_on HRB5.out hb)
  have HKF6 := Aside0.mk (Kd.F_below HKF5.out hb)
  clear hb HB5 HRB5 HKF5 hHeld
  refine ⟨_, rfl, ?_⟩
  refine hK.out _ _ ⟨blk_cell HB6.snd 0, blk_cell HB6.snd 1, blk_cell HB6.snd 2, blk_cell HB6.snd 3, blk_cell HB6.snd 4, blk_cell HB6.snd 5, blk_cell HB6.snd 6, blk_cell HB6.snd 7⟩ (fun hHeld => ?_)
  clear hK K
  refine norm_ (a' := ?_) ?_ ?_
  rotate_left
  · show Act.put _ (some 48) _ = _
    simp only [Act.put, List.setIfInBounds_toArray, List.set_cons_zero, List.set_cons_succ, i64_w, i32_w]
    rfl
  refine pure_ (i := 16) (N := some 53) (v := ?_) (a' := ?_) #[true, true, true, true, true, true, true, true, true, true, true, true, true, true, true, true, true, false] rfl rfl (any_of HT_.out (by kernel_rfl)) (fun _ _ _ h => h) (Or.inl ⟨by rfl, ?_⟩) ?_ ?_
  rotate_left
  · intro w'
    go_simp
    with_reducible rfl
  rotate_left
  · simp only [Act.put, List.setIfInBounds_toArray, List.set_cons_zero, List.set_cons_succ, i64_w, i32_w]
    rfl
  refine pure_ (i := 17) (N := some 54) (v := ?_) (a' := ?_) #[true, true, true, true, true, true, true, true, true, true, true, true, true, true, true, true, true, true] rfl rfl (any_of HT_.out (by kernel_rfl)) (fun _ _ _ h => h) (Or.inl ⟨by rfl, ?_⟩) ?_ ?_
  rotate_left
  · intro w'
    go_simp
    with_reducible rfl
  rotate_left
  · simp only [Act.put, List.setIfInBounds_toArray, List.set_cons_zero, List.set_cons_succ, i64_w, i32_w]
    rfl
  refine done_ (done_of HT_.out (by kernel_rfl)) ?_
  try go_wp2
  refine start_ (n := 6) (S := fun w' => w'.cell? ⟨w.heap.size + 1, 0, none⟩ = some (.int .i64 o.f0) ∧ w'.cell? ⟨w.heap.size + 1, 1, none⟩ = some (.slice AR o.f1.length cR) ∧ w'.cell? ⟨w.heap.size + 1, 2, none⟩ = some (.int .i64 o.f2) ∧ w'.cell? ⟨w.heap.size + 1, 3, none⟩ = some (.int .i64 o.f3) ∧ w'.cell? ⟨w.heap.size + 1, 4, none⟩ = some (.slice AN o.f4.length cN) ∧ w'.cell? ⟨w.heap.size + 1, 5, none⟩ = some (.int .i64 o.f5) ∧ w'.cell? ⟨w.heap.size + 1, 6, none⟩ = some (.string o.f6) ∧ w'.cell? ⟨w.heap.size + 1, 7, none⟩ = some (.string o.f7)) (ds := []) #[false, false, false, false, false, false] (by kernel_rfl) rfl rfl ⟨blk_cell HB6.drew.snd 0, blk_cell HB6.drew.snd 1, blk_cell HB6.drew.snd 2, blk_cell HB6.drew.snd 3, blk_cell HB6.drew.snd 4, blk_cell HB6.drew.snd 5, blk_cell HB6.drew.snd 6, blk_cell HB6.drew.snd 7⟩ (fun hHeld => ?_); refine with_tabW apply11.tab apply11.bits (fun HT_ HW_ => ?_)
  have HB7 := HB6.drew
  have HRB7 : Aside0 (w6.drew.heap[g6]? = _) := ⟨HRB6.out⟩
  have HKF7 := Aside0.mk (Kd.F_drew HKF6.out)
  clear HB6 HRB6 HKF6
  generalize w6.drew = w7 at HB7 HRB7 HKF7 hHeld ⊢
  refine pure_ (i := 0) (N := some 56) (v := ?_) (a' := ?_) #[true, false, false, false, false, false] rfl rfl (any_of HT_.out (by kernel_rfl)) (fun _ _ _ h => h) (Or.inl ⟨by rfl, ?_⟩) ?_ ?_
  rotate_left
  · intro w'
    go_simp
    with_reducible rfl
  rotate_left
  · simp only [Act.put, List.setIfInBounds_toArray, List.set_cons_zero, List.set_cons_succ, i64_w, i32_w]
    rfl
  refine take_ (i := 1) (N := some 57) (v := ?_) (a' := ?_) #[true, true, false, false, false, false] rfl rfl (take_ofW HT_.out HW_.out (by kernel_rfl)) (fun _ _ _ h => h) (Or.inl ⟨by rfl, ?_⟩) hHeld ?_ ?_
  rotate_left
  · rintro w' ⟨s0, s1, s2, s3, s4, s5, s6, s7⟩
    go_simp
    with_reducible rfl
  rotate_left
  · simp only [Act.put, List.setIfInBounds_toArray, List.set_cons_zero, List.set_cons_succ, i64_w, i32_w]
    rfl
  refine take_ (i := 2) (N := some 58) (v := ?_) (a' := ?_) #[true, true, true, false, false, false] rfl rfl (take_ofW HT_.out HW_.out (by kernel_rfl)) (fun _ _ _ h => h) (Or.inl ⟨by rfl, ?_⟩) hHeld ?_ ?_
  rotate_left
  · rintro w' ⟨s0, s1, s2, s3, s4, s5, s6, s7⟩
    go_simp
    with_reducible rfl
  rotate_left
  · simp only [Act.put, List.setIfInBounds_toArray, List.set_cons_zero, List.set_cons_succ, i64_w, i32_w]
    rfl
  refine one_ (i := 3) (N := some 59) #[true, true, true, true, false, false] rfl rfl (one_of HT_.out (by kernel_rfl)) (by decide) (fun K hK => ?_)
  refine goes_ Tryd.func30 (by kernel_rfl) rfl #[.agg #[.int .i64 o.f0, .slice AR o.f1.length cR, .int .i64 o.f2, .int .i64 o.f3, .slice AN o.f4.length cN, .int .i64 o.f5, .string o.f6, .string o.f7]] (by rfl) rfl rfl (by (try simp only [List.map_toArray, List.map_cons, List.map_nil]); first | done | rfl | (simp only [List.length_drop, List.length_take]; rfl)) ?_
  refine (HNEED.out _ (Kd.C_below HR.out HB7.below) (Kd.C_below HN.out HB7.below)).mono ?_
  rintro e w8 ⟨rfl, hb⟩
  have HB8 := HB7.on hb
  have HRB8 := Aside0.mk (blk_on HRB7.out hb)
  have HKF8 := Aside0.mk (Kd.F_below HKF7.out hb)
  clear hb HB7 HRB7 HKF7 hHeld
  refine ⟨_, rfl, ?_⟩
  refine hK.out _ _ ⟨blk_cell HB8.snd 0, blk_cell HB8.snd 1, blk_cell HB8.snd 2, blk_cell HB8.snd 3, blk_cell HB8.snd 4, blk_cell HB8.snd 5, blk_cell HB8.snd 6, blk_cell HB8.snd 7⟩ (fun hHeld => ?_)
  clear hK K
  refine norm_ (a' := ?_) ?_ ?_
  rotate_left
  · show Act.put _ (some 59) _ = _
    simp only [Act.put, List.setIfInBounds_toArray, List.set_cons_zero, List.set_cons_succ, i64_w, i32_w]
    rfl
  refine pure_ (i := 4) (N := some 60) (v := ?_) (a' := ?_) #[true, true, true, true, true, false] rfl rfl (any_of HT_.out (by kernel_rfl)) (fun _ _ _ h => h) (Or.inl ⟨by rfl, ?_⟩) ?_ ?_
  rotate_left
  · intro w'
    go_simp
    with_reducible rfl
  rotate_left
  · simp only [Act.put, List.setIfInBounds_toArray, List.set_cons_zero, List.set_cons_succ, i64_w, i32_w]
    rfl
  refine pure_ (i := 5) (N := some 9) (v := ?_) (a' := ?_) #[true, true, true, true, true, true] rfl rfl (any_of HT_.out (by kernel_rfl)) (fun _ _ _ h => h) (Or.inl ⟨by rfl, ?_⟩) ?_ ?_
  rotate_left
  · intro w'
    go_simp
    with_reducible rfl
  rotate_left
  · simp only [Act.put, List.setIfInBounds_toArray, List.set_cons_zero, List.set_cons_succ, i64_w, i32_w]
    rfl
  refine done_ (done_of HT_.out (by kernel_rfl)) ?_
  try go_wp2
  obtain ⟨ii, hii, _, hsz, _⟩ := info_parts infoN
  have hcut := cut_mid (P := Tryd.prog) 22 24 .i64 .i64 Tryd.underlying22 hii 4 hsz A1 r.f3.length c1 o.f2 en h0 h1 h2 HCR.out
  have hlo : old.length = en.toNat - o.f2.toNat := by rw [← Hold.out, List.length_drop, List.length_take]; omega
  have hro := Kd.F_mid (lo := o.f2.toNat) (hi := en.toNat) (c := c1) HKF8.out (by omega) (by omega) HCR.out
  rw [Hold.out] at hro
  obtain ⟨A2, hA2⟩ : ∃ A2, A2 = (if c1 = o.f2.toNat then A1 else A1.map (·.add (o.f2.toNat * 4))) := ⟨_, rfl⟩
  obtain ⟨c2, hc2⟩ : ∃ c2, c2 = c1 - o.f2.toNat := ⟨_, rfl⟩
  replace hro : Kd.F k24 w8 (fun k => k ≠ g6) A2 old.length old := by rw [hA2]; exact hro
  rw [← hlo, ← hA2, ← hc2] at hcut
  have hle2 : Aside0 (old.length ≤ c2) := ⟨by have := HCR.out; rw [hlo, hc2]; omega⟩
  have HO8 := Aside0.mk hro
  clear hro hA2 hc2 hlo hii hsz
  refine start_ (n := 14) (S := fun w' => w'.cell? ⟨w.heap.size + 1, 0, none⟩ = some (.int .i64 o.f0) ∧ w'.cell? ⟨w.heap.size + 1, 1, none⟩ = some (.slice AR o.f1.length cR) ∧ w'.cell? ⟨w.heap.size + 1, 2, none⟩ = some (.int .i64 o.f2) ∧ w'.cell? ⟨w.heap.size + 1, 3, none⟩ = some (.int .i64 o.f3) ∧ w'.cell? ⟨w.heap.size + 1, 4, none⟩ = some (.slice AN o.f4.length cN) ∧ w'.cell? ⟨w.heap.size + 1, 5, none⟩ = some (.int .i64 o.f5) ∧ w'.cell? ⟨w.heap.size + 1, 6, none⟩ = some (.string o.f6) ∧ w'.cell? ⟨w.heap.size + 1, 7, none⟩ = some (.string o.f7) ∧ w'.cell? ⟨g6, 0, none⟩ = some (.int .i64 r.f0) ∧ w'.cell? ⟨g6, 1, none⟩ = some (.string r.f1) ∧ w'.cell? ⟨g6, 2, none⟩ = some (.int .i64 r.f2) ∧ w'.cell? ⟨g6, 3, none⟩ = some (.slice A1 r.f3.length c1)) (ds := []) #[false, false, false, false, false, false, false, false, false, false, false, false, false, false] (by kernel_rfl) rfl rfl ⟨blk_cell HB8.drew.snd 0, blk_cell HB8.drew.snd 1, blk_cell HB8.drew.snd 2, blk_cell HB8.drew.snd 3, blk_cell HB8.drew.snd 4, blk_cell HB8.drew.snd 5, blk_cell HB8.drew.snd 6, blk_cell HB8.drew.snd 7, blk_cell HRB8.out 0, blk_cell HRB8.out 1, blk_cell HRB8.out 2, blk_cell HRB8.out 3⟩ (fun hHeld => ?_); refine with_tabW apply12.tab apply12.bits (fun HT_ HW_ => ?_)
  have HB9 := HB8.drew
  have HRB9 : Aside0 (w8.drew.heap[g6]? = _) := ⟨HRB8.out⟩
  have HKF9 := Aside0.mk (Kd.F_drew HKF8.out)
  have HO9 := Aside0.mk (Kd.F_drew HO8.out)
  clear HB8 HRB8 HKF8 HO8
  generalize w8.drew = w9 at HB9 HRB9 HKF9 HO9 hHeld ⊢
  refine pure_ (i := 2) (N := some 64) (v := ?_) (a' := ?_) #[false, false, true, false, false, false, false, false, false, false, false, false, false, false] rfl rfl (any_of HT_.out (by kernel_rfl)) (fun _ _ _ h => h) (Or.inl ⟨by rfl, ?_⟩) ?_ ?_
  rotate_left
  · intro w'
    go_simp
    with_reducible rfl
  rotate_left
  · simp only [Act.put, List.setIfInBounds_toArray, List.set_cons_zero, List.set_cons_succ, i64_w, i32_w]
    rfl
  refine pure_ (i := 4) (N := some 66) (v := ?_) (a' := ?_) #[false, false, true, false, true, false, false, false, false, false, false, false, false, false] rfl rfl (any_of HT_.out (by kernel_rfl)) (fun _ _ _ h => h) (Or.inl ⟨by rfl, ?_⟩) ?_ ?_
  rotate_left
  · intro w'
    go_simp
    with_reducible rfl
  rotate_left
  · simp only [Act.put, List.setIfInBounds_toArray, List.set_cons_zero, List.set_cons_succ, i64_w, i32_w]
    rfl
  refine pure_ (i := 6) (N := some 68) (v := ?_) (a' := ?_) #[false, false, true, false, true, false, true, false, false, false, false, false, false, false] rfl rfl (any_of HT_.out (by kernel_rfl)) (fun _ _ _ h => h) (Or.inl ⟨by rfl, ?_⟩) ?_ ?_
  rotate_left
  · intro w'
    go_simp
    with_reducible rfl
  rotate_left
  · simp only [Act.put, List.setIfInBounds_toArray, List.set_cons_zero, List.set_cons_succ, i64_w, i32_w]
    rfl
  refine take_ (i := 0) (N := some 62) (v := ?_) (a' := ?_) #[true, false, true, false, true, false, true, false, false, false, false, false, false, false] rfl rfl (take_ofW HT_.out HW_.out (by kernel_rfl)) (fun _ _ _ h => h) (Or.inl ⟨by rfl, ?_⟩) hHeld ?_ ?_
  rotate_left
  · rintro w' ⟨s0, s1, s2, s3, s4, s5, s6, s7, s8, s9, s10, s11⟩
    go_simp
    with_reducible rfl
  rotate_left
  · simp only [Act.put, List.setIfInBounds_toArray, List.set_cons_zero, List.set_cons_succ, i64_w, i32_w]
    rfl
  refine take_ (i := 3) (N := some 65) (v := ?_) (a' := ?_) #[true, false, true, true, true, false, true, false, false, false, false, false, false, false] rfl rfl (take_ofW HT_.out HW_.out (by kernel_rfl)) (fun _ _ _ h => h) (Or.inl ⟨by rfl, ?_⟩) hHeld ?_ ?_
  rotate_left
  · rintro w' ⟨s0, s1, s2, s3, s4, s5, s6, s7, s8, s9, s10, s11⟩
    go_simp
    with_reducible rfl
  rotate_left
  · simp only [Act.put, List.setIfInBounds_toArray, List.set_cons_zero, List.set_cons_succ, i64_w, i32_w]
    rfl
  refine take_ (i := 5) (N := some 67) (v := ?_) (a' := ?_) #[true, false, true, true, true, true, true, false, false, false, false, false, false, false] rfl rfl (take_ofW HT_.out HW_.out (by kernel_rfl)) (fun _ _ _ h => h) (Or.inl ⟨by rfl, ?_⟩) hHeld ?_ ?_
  rotate_left
  · rintro w' ⟨s0, s1, s2, s3, s4, s5, s6, s7, s8, s9, s10, s11⟩
    go_simp
    with_reducible rfl
  rotate_left
  · simp only [Act.put, List.setIfInBounds_toArray, List.set_cons_zero, List.set_cons_succ, i64_w, i32_w]
    rfl
  refine pure_ (i := 7) (N := some 69) (v := ?_) (a' := ?_) #[true, false, true, true, true, true, true, true, false, false, false, false, false, false] rfl rfl (any_of HT_.out (by kernel_rfl)) (fun _ _ _ h => h) (Or.inl ⟨by rfl, ?_⟩) ?_ ?_
  rotate_left
  · intro w'
    go_simp
    with_reducible rfl
  rotate_left
  · simp only [Act.put, List.setIfInBounds_toArray, List.set_cons_zero, List.set_cons_succ, i64_w, i32_w]
    rfl
  refine one_ (i := 1) (N := some 63) #[true, true, true, true, true, true, true, true, false, false, false, false, false, false] rfl rfl (one_of HT_.out (by kernel_rfl)) (by decide) (fun K hK => ?_)
  refine goes_ Tryd.func32 (by kernel_rfl) rfl #[.agg #[.int .i64 o.f0, .slice AR o.f1.length cR, .int .i64 o.f2, .int .i64 o.f3, .slice AN o.f4.length cN, .int .i64 o.f5, .string o.f6, .string o.f7]] (by rfl) rfl rfl (by (try simp only [List.map_toArray, List.map_cons, List.map_nil]); first | done | rfl | (simp only [List.length_drop, List.length_take]; rfl)) ?_
  refine (HCOPY.out (fun k => k ≠ g6) _ (Kd.C_below HR.out HB9.below) (Kd.F_mono (Kd.F_below (Kd.C_F k24_heap HN.out) HB9.below) (fun k hk => by have := HG.out; omega))).mono ?_
  rintro e w10 ⟨v1, v4, rfl, hR1, hN4, hb⟩
  obtain ⟨AR2, cR2, rfl⟩ := Kd.R_slice hR1
  obtain ⟨AN2, cN2, rfl⟩ := Kd.N_slice hN4
  have HGL := blk_lt HRB9.out
  have HCN := Aside0.mk (Kd.N_reads' hN4).2.1
  have HN10 : Aside0 (Kd.F k24 w10 (fun k => k ≠ g6) AN2 o.f4.length o.f4) := ⟨Kd.F_mono (Kd.N_F hN4) (fun k hk => by rcases hk.1 with h | h; exact h; omega)⟩
  have HO10 := Aside0.mk (Kd.F_below HO9.out hb)
  have HB10 := HB9.on hb
  have HRB10 := Aside0.mk (blk_on HRB9.out hb)
  have HKF10 := Aside0.mk (Kd.F_below HKF9.out hb)
  clear hb hN4 hR1 HGL HB9 HRB9 HKF9 HO9 hHeld
  refine ⟨_, rfl, ?_⟩
  refine hK.out _ _ ⟨blk_cell HB10.snd 0, blk_cell HB10.snd 1, blk_cell HB10.snd 2, blk_cell HB10.snd 3, blk_cell HB10.snd 4, blk_cell HB10.snd 5, blk_cell HB10.snd 6, blk_cell HB10.snd 7, blk_cell HRB10.out 0, blk_cell HRB10.out 1, blk_cell HRB10.out 2, blk_cell HRB10.out 3⟩ (fun hHeld => ?_)
  clear hK K
  refine norm_ (a' := ?_) ?_ ?_
  rotate_left
  · show Act.put _ (some 63) _ = _
    simp only [Act.put, List.setIfInBounds_toArray, List.set_cons_zero, List.set_cons_succ, i64_w, i32_w]
    rfl
  refine one_ (i := 8) (N := some 70) #[true, true, true, true, true, true, true, true, true, false, false, false, false, false] rfl rfl (one_of HT_.out (by kernel_rfl)) (by decide) (fun K hK => ?_)
  refine goes_ Tryd.func31 (by kernel_rfl) rfl #[.agg #[.int .i64 o.f0, .slice AR2 o.f1.length cR2, .int .i64 o.f2, .int .i64 o.f3, .slice AN2 o.f4.length cN2, .int .i64 o.f5, .string o.f6, .string o.f7], .slice A2 old.length c2] (by rfl) rfl rfl (by (try simp only [List.map_toArray, List.map_cons, List.map_nil]); first | done | rfl | (simp only [List.length_drop, List.length_take]; rfl)) ?_
  refine (HCH.out A2 AR2 AN2 c2 cR2 cN2 (fun k => k ≠ g6) _ hle2.out HCN.out HO10.out HN10.out).mono ?_
  rintro e w11 ⟨A3, c3, rfl, hl3, hF3, hb⟩
  have HGL := blk_lt HRB10.out
  have HC11 : Aside0 (Kd.F k24 w11 (fun k => k ≠ g6) A3 ch.length ch) := ⟨Kd.F_mono hF3 (fun k hk => by rcases hk with h | h; exact h; omega)⟩
  have HL3 := Aside0.mk hl3
  have HB11 := HB10.on hb
  have HRB11 := Aside0.mk (blk_on HRB10.out hb)
  have HKF11 := Aside0.mk (Kd.F_below HKF10.out hb)
  clear hb hF3 hl3 HGL HB10 HRB10 HKF10 HO10 HN10 hHeld
  refine ⟨_, rfl, ?_⟩
  refine hK.out _ _ ⟨blk_cell HB11.snd 0, blk_cell HB11.snd 1, blk_cell HB11.snd 2, blk_cell HB11.snd 3, blk_cell HB11.snd 4, blk_cell HB11.snd 5, blk_cell HB11.snd 6, blk_cell HB11.snd 7, blk_cell HRB11.out 0, blk_cell HRB11.out 1, blk_cell HRB11.out 2, blk_cell HRB11.out 3⟩ (fun hHeld => ?_)
  clear hK K
  refine norm_ (a' := ?_) ?_ ?_
  rotate_left
  · show Act.put _ (some 70) _ = _
    simp only [Act.put, List.setIfInBounds_toArray, List.set_cons_zero, List.set_cons_succ, i64_w, i32_w]
    rfl
  refine pure_ (i := 9) (N := some 61) (v := ?_) (a' := ?_) #[true, true, true, true, true, true, true, true, true, true, false, false, false, false] rfl rfl (any_of HT_.out (by kernel_rfl)) (fun _ _ _ h => h) (Or.inl ⟨by rfl, ?_⟩) ?_ ?_
  rotate_left
  · intro w'
    go_simp
    with_reducible rfl
  rotate_left
  · simp only [Act.put, List.setIfInBounds_toArray, List.set_cons_zero, List.set_cons_succ, i64_w, i32_w]
    rfl
  refine pure_ (i := 10) (N := some 71) (v := ?_) (a' := ?_) #[true, true, true, true, true, true, true, true, true, true, true, false, false, false] rfl rfl (any_of HT_.out (by kernel_rfl)) (fun _ _ _ h => h) (Or.inl ⟨by rfl, ?_⟩) ?_ ?_
  rotate_left
  · intro w'
    go_simp
    with_reducible rfl
  rotate_left
  · simp only [Act.put, List.setIfInBounds_toArray, List.set_cons_zero, List.set_cons_succ, i64_w, i32_w]
    rfl
  refine pure_ (i := 11) (N := some 72) (v := ?_) (a' := ?_) #[true, true, true, true, true, true, true, true, true, true, true, true, false, false] rfl rfl (any_of HT_.out (by kernel_rfl)) (fun _ _ _ h => h) (Or.inl ⟨by rfl, ?_⟩) ?_ ?_
  rotate_left
  · intro w'
    go_simp
    with_reducible rfl
  rotate_left
  · simp only [Act.put, List.setIfInBounds_toArray, List.set_cons_zero, List.set_cons_succ, i64_w, i32_w]
    rfl
  refine pure_ (i := 12) (N := some 10) (v := ?_) (a' := ?_) #[true, true, true, true, true, true, true, true, true, true, true, true, true, false] rfl rfl (any_of HT_.out (by kernel_rfl)) (fun _ _ _ h => h) (Or.inl ⟨by rfl, ?_⟩) ?_ ?_
  rotate_left
  · intro w'
    go_simp
    with_reducible rfl
  rotate_left
  · simp only [Act.put, List.setIfInBounds_toArray, List.set_cons_zero, List.set_cons_succ, i64_w, i32_w]
    rfl
  refine pure_ (i := 13) (N := some 11) (v := ?_) (a' := ?_) #[true, true, true, true, true, true, true, true, true, true, true, true, true, true] rfl rfl (any_of HT_.out (by kernel_rfl)) (fun _ _ _ h => h) (Or.inl ⟨by rfl, ?_⟩) ?_ ?_
  rotate_left
  · intro w'
    go_simp
    with_reducible rfl
  rotate_left
  · simp only [Act.put, List.setIfInBounds_toArray, List.set_cons_zero, List.set_cons_succ, i64_w, i32_w]
    rfl
  refine done_ (done_of HT_.out (by kernel_rfl)) ?_
  try go_wp2
  obtain ⟨ii, hii, _, hsz, _⟩ := info_parts infoN
  have hcut1 := cut_to (P := Tryd.prog) 22 24 .i64 Tryd.underlying22 hii A1 r.f3.length c1 o.f2 h0 (by omega) HCR.out
  have hlp : pre.length = o.f2.toNat := by rw [← Hpre.out, List.length_take]; omega
  have hrp := Kd.F_take (m := o.f2.toNat) HKF11.out (by omega)
  rw [Hpre.out] at hrp
  rw [← hlp] at hcut1
  have HP11 := Aside0.mk hrp
  have hlep : Aside0 (pre.length ≤ c1) := ⟨by have := HCR.out; omega⟩
  have hcut2 := cut_from (P := Tryd.prog) 22 24 .i64 Tryd.underlying22 hii 4 hsz A1 r.f3.length c1 en (by omega) h2
  have hlq : post.length = r.f3.length - en.toNat := by rw [← Hpost.out, List.length_drop]
  have hrq := Kd.F_cut (m := en.toNat) (c := c1) HKF11.out (by omega) HCR.out
  rw [Hpost.out] at hrq
  obtain ⟨A5, hA5⟩ : ∃ A5, A5 = (if c1 = en.toNat then A1 else A1.map (·.add (en.toNat * 4))) := ⟨_, rfl⟩
  obtain ⟨c5, hc5⟩ : ∃ c5, c5 = c1 - en.toNat := ⟨_, rfl⟩
  replace hrq : Kd.F k24 w11 (fun k => k ≠ g6) A5 post.length post := by rw [hA5]; exact hrq
  rw [← hlq, ← hA5, ← hc5] at hcut2
  have hleq : Aside0 (post.length ≤ c5) := ⟨by have := HCR.out; rw [hlq, hc5]; omega⟩
  have HQ11 := Aside0.mk hrq
  clear hrp hrq hA5 hc5 hlp hlq hii hsz
  refine start_ (n := 14) (S := fun w' => w'.cell? ⟨w.heap.size + 1, 0, none⟩ = some (.int .i64 o.f0) ∧ w'.cell? ⟨w.heap.size + 1, 1, none⟩ = some (.slice AR o.f1.length cR) ∧ w'.cell? ⟨w.heap.size + 1, 2, none⟩ = some (.int .i64 o.f2) ∧ w'.cell? ⟨w.heap.size + 1, 3, none⟩ = some (.int .i64 o.f3) ∧ w'.cell? ⟨w.heap.size + 1, 4, none⟩ = some (.slice AN o.f4.length cN) ∧ w'.cell? ⟨w.heap.size + 1, 5, none⟩ = some (.int .i64 o.f5) ∧ w'.cell? ⟨w.heap.size + 1, 6, none⟩ = some (.string o.f6) ∧ w'.cell? ⟨w.heap.size + 1, 7, none⟩ = some (.string o.f7) ∧ w'.cell? ⟨g6, 0, none⟩ = some (.int .i64 r.f0) ∧ w'.cell? ⟨g6, 1, none⟩ = some (.string r.f1) ∧ w'.cell? ⟨g6, 2, none⟩ = some (.int .i64 r.f2) ∧ w'.cell? ⟨g6, 3, none⟩ = some (.slice A1 r.f3.length c1)) (ds := [13]) #[false, false, false, false, false, false, false, false, false, false, false, false, false, false] (by kernel_rfl) rfl rfl ⟨blk_cell HB11.drew.snd 0, blk_cell HB11.drew.snd 1, blk_cell HB11.drew.snd 2, blk_cell HB11.drew.snd 3, blk_cell HB11.drew.snd 4, blk_cell HB11.drew.snd 5, blk_cell HB11.drew.snd 6, blk_cell HB11.drew.snd 7, blk_cell HRB11.out 0, blk_cell HRB11.out 1, blk_cell HRB11.out 2, blk_cell HRB11.out 3⟩ (fun hHeld => ?_); refine with_tabW apply15.tab apply15.bits (fun HT_ HW_ => ?_)
  have HB12 := HB11.drew
  have HRB12 : Aside0 (w11.drew.heap[g6]? = _) := ⟨HRB11.out⟩
  have HKF12 := Aside0.mk (Kd.F_drew HKF11.out)
  have HP12 := Aside0.mk (Kd.F_drew HP11.out)
  have HQ12 := Aside0.mk (Kd.F_drew HQ11.out)
  have HC12 := Aside0.mk (Kd.F_drew HC11.out)
  clear HB11 HRB11 HKF11 HP11 HQ11 HC11
  generalize w11.drew = w12 at HB12 HRB12 HKF12 HP12 HQ12 HC12 hHeld ⊢
  refine pure_ (i := 0) (N := some 76) (v := ?_) (a' := ?_) #[true, false, false, false, false, false, false, false, false, false, false, false, false, false] rfl rfl (any_of HT_.out (by kernel_rfl)) (fun _ _ _ h => h) (Or.inl ⟨by rfl, ?_⟩) ?_ ?_
  rotate_left
  · intro w'
    go_simp
    with_reducible rfl
  rotate_left
  · simp only [Act.put, List.setIfInBounds_toArray, List.set_cons_zero, List.set_cons_succ, i64_w, i32_w]
    rfl
  refine pure_ (i := 2) (N := some 78) (v := ?_) (a' := ?_) #[true, false, true, false, false, false, false, false, false, false, false, false, false, false] rfl rfl (any_of HT_.out (by kernel_rfl)) (fun _ _ _ h => h) (Or.inl ⟨by rfl, ?_⟩) ?_ ?_
  rotate_left
  · intro w'
    go_simp
    with_reducible rfl
  rotate_left
  · simp only [Act.put, List.setIfInBounds_toArray, List.set_cons_zero, List.set_cons_succ, i64_w, i32_w]
    rfl
  refine pure_ (i := 5) (N := some 81) (v := ?_) (a' := ?_) #[true, false, true, false, false, true, false, false, false, false, false, false, false, false] rfl rfl (any_of HT_.out (by kernel_rfl)) (fun _ _ _ h => h) (Or.inl ⟨by rfl, ?_⟩) ?_ ?_
  rotate_left
  · intro w'
    go_simp
    with_reducible rfl
  rotate_left
  · simp only [Act.put, List.setIfInBounds_toArray, List.set_cons_zero, List.set_cons_succ, i64_w, i32_w]
    rfl
  refine pure_ (i := 6) (N := some 82) (v := ?_) (a' := ?_) #[true, false, true, false, false, true, true, false, false, false, false, false, false, false] rfl rfl (any_of HT_.out (by kernel_rfl)) (fun _ _ _ h => h) (Or.inl ⟨by rfl, ?_⟩) ?_ ?_
  rotate_left
  · intro w'
    go_simp
    with_reducible rfl
  rotate_left
  · simp only [Act.put, List.setIfInBounds_toArray, List.set_cons_zero, List.set_cons_succ, i64_w, i32_w]
    rfl
  refine pure_ (i := 8) (N := some 84) (v := ?_) (a' := ?_) #[true, false, true, false, false, true, true, false, true, false, false, false, false, false] rfl rfl (any_of HT_.out (by kernel_rfl)) (fun _ _ _ h => h) (Or.inl ⟨by rfl, ?_⟩) ?_ ?_
  rotate_left
  · intro w'
    go_simp
    with_reducible rfl
  rotate_left
  · simp only [Act.put, List.setIfInBounds_toArray, List.set_cons_zero, List.set_cons_succ, i64_w, i32_w]
    rfl
  refine take_ (i := 1) (N := some 77) (v := ?_) (a' := ?_) #[true, true, true, false, false, true, true, false, true, false, false, false, false, false] rfl rfl (take_ofW HT_.out HW_.out (by kernel_rfl)) (fun _ _ _ h => h) (Or.inl ⟨by rfl, ?_⟩) hHeld ?_ ?_
  rotate_left
  · rintro w' ⟨s0, s1, s2, s3, s4, s5, s6, s7, s8, s9, s10, s11⟩
    go_simp
    with_reducible rfl
  rotate_left
  · simp only [Act.put, List.setIfInBounds_toArray, List.set_cons_zero, List.set_cons_succ, i64_w, i32_w]
    rfl
  refine take_ (i := 3) (N := some 79) (v := ?_) (a' := ?_) #[true, true, true, true, false, true, true, false, true, false, false, false, false, false] rfl rfl (take_ofW HT_.out HW_.out (by kernel_rfl)) (fun _ _ _ h => h) (Or.inl ⟨by rfl, ?_⟩) hHeld ?_ ?_
  rotate_left
  · rintro w' ⟨s0, s1, s2, s3, s4, s5, s6, s7, s8, s9, s10, s11⟩
    go_simp
    with_reducible rfl
  rotate_left
  · simp only [Act.put, List.setIfInBounds_toArray, List.set_cons_zero, List.set_cons_succ, i64_w, i32_w]
    rfl
  refine pure_ (i := 4) (N := some 80) (v := ?_) (a' := ?_) #[true, true, true, true, true, true, true, false, true, false, false, false, false, false] rfl rfl (any_of HT_.out (by kernel_rfl)) (fun _ _ _ h => h) (Or.inl ⟨by rfl, ?_⟩) ?_ ?_
  rotate_left
  · intro w'
    go_simp
    with_reducible rfl
  rotate_left
  · simp only [Act.put, List.setIfInBounds_toArray, List.set_cons_zero, List.set_cons_succ, i64_w, i32_w]
    rfl
  refine take_ (i := 7) (N := some 83) (v := ?_) (a' := ?_) #[true, true, true, true, true, true, true, true, true, false, false, false, false, false] rfl rfl (take_ofW HT_.out HW_.out (by kernel_rfl)) (fun _ _ _ h => h) (Or.inl ⟨by rfl, ?_⟩) hHeld ?_ ?_
  rotate_left
  · rintro w' ⟨s0, s1, s2, s3, s4, s5, s6, s7, s8, s9, s10, s11⟩
    go_simp
    with_reducible rfl
  rotate_left
  · simp only [Act.put, List.setIfInBounds_toArray, List.set_cons_zero, List.set_cons_succ, i64_w, i32_w]
    rfl
  refine pure_ (i := 9) (N := some 85) (v := ?_) (a' := ?_) #[true, true, true, true, true, true, true, true, true, true, false, false, false, false] rfl rfl (any_of HT_.out (by kernel_rfl)) (fun _ _ _ h => h) (Or.inl ⟨by rfl, ?_⟩) ?_ ?_
  rotate_left
  · intro w'
    go_simp
    with_reducible rfl
  rotate_left
  · simp only [Act.put, List.setIfInBounds_toArray, List.set_cons_zero, List.set_cons_succ, i64_w, i32_w]
    rfl
  refine one_ (i := 10) (N := some 86) #[true, true, true, true, true, true, true, true, true, true, true, false, false, false] rfl rfl (one_of HT_.out (by kernel_rfl)) (by decide) (fun K hK => ?_)
  refine value_ (v := .slice (some ⟨w12.heap.size, 0, none⟩) 3 3) (w1 := (w12.alloc (.cells #[.slice A1 pre.length c1, .slice A3 ch.length c3, .slice A5 post.length c5] 22))) (by rfl) rfl ?_ ?_
  · go_simp
  refine hK.out _ _ ⟨blk_cell (HB12.alloc (.cells #[.slice A1 pre.length c1, .slice A3 ch.length c3, .slice A5 post.length c5] 22)).snd 0, blk_cell (HB12.alloc (.cells #[.slice A1 pre.length c1, .slice A3 ch.length c3, .slice A5 post.length c5] 22)).snd 1, blk_cell (HB12.alloc (.cells #[.slice A1 pre.length c1, .slice A3 ch.length c3, .slice A5 post.length c5] 22)).snd 2, blk_cell (HB12.alloc (.cells #[.slice A1 pre.length c1, .slice A3 ch.length c3, .slice A5 post.length c5] 22)).snd 3, blk_cell (HB12.alloc (.cells #[.slice A1 pre.length c1, .slice A3 ch.length c3, .slice A5 post.length c5] 22)).snd 4, blk_cell (HB12.alloc (.cells #[.slice A1 pre.length c1, .slice A3 ch.length c3, .slice A5 post.length c5] 22)).snd 5, blk_cell (HB12.alloc (.cells #[.slice A1 pre.length c1, .slice A3 ch.length c3, .slice A5 post.length c5] 22)).snd 6, blk_cell (HB12.alloc (.cells #[.slice A1 pre.length c1, .slice A3 ch.length c3, .slice A5 post.length c5] 22)).snd 7, blk_cell (blk_allocO HRB12.out (.cells #[.slice A1 pre.length c1, .slice A3 ch.length c3, .slice A5 post.length c5] 22)) 0, blk_cell (blk_allocO HRB12.out (.cells #[.slice A1 pre.length c1, .slice A3 ch.length c3, .slice A5 post.length c5] 22)) 1, blk_cell (blk_allocO HRB12.out (.cells #[.slice A1 pre.length c1, .slice A3 ch.length c3, .slice A5 post.length c5] 22)) 2, blk_cell (blk_allocO HRB12.out (.cells #[.slice A1 pre.length c1, .slice A3 ch.length c3, .slice A5 post.length c5] 22)) 3⟩ (fun hHeld => ?_)
  clear hK K
  refine norm_ (a' := ?_) ?_ ?_
  rotate_left
  · show Act.put _ (some 86) _ = _
    simp only [Act.put, List.setIfInBounds_toArray, List.set_cons_zero, List.set_cons_succ, i64_w, i32_w]
    rfl
  have H3 : Aside0 (Kd.F (Kd.slice 24 k24) (w12.alloc (.cells #[.slice A1 pre.length c1, .slice A3 ch.length c3, .slice A5 post.length c5] 22)) (fun k => k ≠ g6) (some ⟨w12.heap.size, 0, none⟩) 3 [pre, ch, post]) := ⟨Kd.F_mono (threeF hlep.out HL3.out hleq.out HP12.out HC12.out HQ12.out) (fun k hk => by have := blk_lt HRB12.out; rcases hk with h | h; exact h; omega)⟩
  have HB13 := HB12.alloc (.cells #[.slice A1 pre.length c1, .slice A3 ch.length c3, .slice A5 post.length c5] 22)
  have HRB13 := Aside0.mk (blk_allocO HRB12.out (.cells #[.slice A1 pre.length c1, .slice A3 ch.length c3, .slice A5 post.length c5] 22))
  clear HB12 HRB12 HKF12 HP12 HQ12 HC12
  generalize w12.heap.size = g13 at H3 ⊢
  generalize (w12.alloc (.cells #[.slice A1 pre.length c1, .slice A3 ch.length c3, .slice A5 post.length c5] 22)) = w13 at HB13 HRB13 H3 hHeld ⊢
  refine one_ (i := 11) (N := some 87) #[true, true, true, true, true, true, true, true, true, true, true, true, false, false] rfl rfl (one_of HT_.out (by kernel_rfl)) (by decide) (fun K hK => ?_)
  refine goes_ Tryd.func33 (by kernel_rfl) rfl #[.slice (some ⟨g13, 0, none⟩) 3 3] (by rfl) rfl rfl (by (try simp only [List.map_toArray, List.map_cons, List.map_nil]); first | done | rfl | (simp only [List.length_drop, List.length_take]; rfl)) ?_
  refine (HCAT.out _ _ _ _ H3.out).mono ?_
  rintro e w14 ⟨v, rfl, hNv, hb⟩
  obtain ⟨A6, c6, rfl⟩ := Kd.N_slice hNv
  have HGL := blk_lt HRB13.out
  have HL6 := Aside0.mk (Kd.N_reads' hNv).2.1
  have HK14 : Aside0 (Kd.F k24 w14 (fun k => k ≠ g6) A6 kids.length kids) := ⟨Kd.F_mono (Kd.N_F hNv) (fun k hk => by rcases hk with h | h; exact h; omega)⟩
  have HB14 := HB13.on hb
  have HRB14 := Aside0.mk (blk_on HRB13.out hb)
  clear hb hNv HGL HB13 HRB13 H3 hHeld
  refine ⟨_, rfl, ?_⟩
  refine hK.out _ _ ⟨blk_cell HB14.snd 0, blk_cell HB14.snd 1, blk_cell HB14.snd 2, blk_cell HB14.snd 3, blk_cell HB14.snd 4, blk_cell HB14.snd 5, blk_cell HB14.snd 6, blk_cell HB14.snd 7, blk_cell HRB14.out 0, blk_cell HRB14.out 1, blk_cell HRB14.out 2, blk_cell HRB14.out 3⟩ (fun hHeld => ?_)
  clear hK K
  refine norm_ (a' := ?_) ?_ ?_
  rotate_left
  · show Act.put _ (some 87) _ = _
    simp only [Act.put, List.setIfInBounds_toArray, List.set_cons_zero, List.set_cons_succ, i64_w, i32_w]
    rfl
  have g3 := (blk_cell HRB14.out 3 : w14.cell? ⟨g6, 3, none⟩ = _)
  have gf := (blk_frozen HRB14.out 3 : w14.frozen? ⟨g6, 3, none⟩ = false)
  refine pure_ (i := 12) (N := some 88) (v := ?_) (a' := ?_) #[true, true, true, true, true, true, true, true, true, true, true, true, true, false] rfl rfl (any_of HT_.out (by kernel_rfl)) (fun _ _ _ h => h) (Or.inl ⟨by rfl, ?_⟩) ?_ ?_
  rotate_left
  · intro w'
    go_simp
    with_reducible rfl
  rotate_left
  · simp only [Act.put, List.setIfInBounds_toArray, List.set_cons_zero, List.set_cons_succ, i64_w, i32_w]
    rfl
  refine last_ (i := 13) (N := none) #[true, true, true, true, true, true, true, true, true, true, true, true, true, true] rfl rfl (one_of HT_.out (by kernel_rfl)) (by decide) (fun K hK => ?_)
  refine skip_ (w1 := ?_) (by rfl) rfl ?_ ?_
  rotate_left
  · go_simp
    rfl
  refine hK.out _ _ ?_
  clear hK K
  refine done_ (done_of HT_.out (by kernel_rfl)) ?_
  have HB15 := HB14.put (g := g6) (i := 3) HG.out (.slice A6 kids.length c6)
  have HRB15 := Aside0.mk (blk_put HRB14.out 3 (.slice A6 kids.length c6) rfl)
  have HK15 := Aside0.mk (Kd.F_far (p := ⟨g6, 3, none⟩) HK14.out (fun k hk => hk) (.slice A6 kids.length c6))
  clear HB14 HRB14 HK14 g3 gf
  generalize w14.setCell ⟨g6, 3, none⟩ (.slice A6 kids.length c6) = w15 at HB15 HRB15 HK15 ⊢
  have x0 := (blk_cell HB15.fst 0 : w15.cell? ⟨w.heap.size, 0, none⟩ = _)
  have x1 := (blk_cell HB15.fst 1 : w15.cell? ⟨w.heap.size, 1, none⟩ = _)
  have x2 := (blk_cell HB15.fst 2 : w15.cell? ⟨w.heap.size, 2, none⟩ = _)
  have x3 := (blk_cell HB15.fst 3 : w15.cell? ⟨w.heap.size, 3, none⟩ = _)
  have o0 := (blk_cell HB15.snd 0 : w15.cell? ⟨w.heap.size + 1, 0, none⟩ = _)
  have o1 := (blk_cell HB15.snd 1 : w15.cell? ⟨w.heap.size + 1, 1, none⟩ = _)
  have o2 := (blk_cell HB15.snd 2 : w15.cell? ⟨w.heap.size + 1, 2, none⟩ = _)
  have o3 := (blk_cell HB15.snd 3 : w15.cell? ⟨w.heap.size + 1, 3, none⟩ = _)
  have o4 := (blk_cell HB15.snd 4 : w15.cell? ⟨w.heap.size + 1, 4, none⟩ = _)
  have o5 := (blk_cell HB15.snd 5 : w15.cell? ⟨w.heap.size + 1, 5, none⟩ = _)
  have o6 := (blk_cell HB15.snd 6 : w15.cell? ⟨w.heap.size + 1, 6, none⟩ = _)
  have o7 := (blk_cell HB15.snd 7 : w15.cell? ⟨w.heap.size + 1, 7, none⟩ = _)
  have r0 := (blk_cell HRB15.out 0 : w15.cell? ⟨g6, 0, none⟩ = _)
  have r1 := (blk_cell HRB15.out 1 : w15.cell? ⟨g6, 1, none⟩ = _)
  have r2 := (blk_cell HRB15.out 2 : w15.cell? ⟨g6, 2, none⟩ = _)
  have r3 := (blk_cell HRB15.out 3 : w15.cell? ⟨g6, 3, none⟩ = _)
  go_wp2_with (go_at_call 34; go_loud (refine (HWITH.out A6 c6 _ HL6.out (Kd.C_below HA.out HB15.below) (Kd.C_below HR.out HB15.below) (Kd.F_now HK15.out)).mono ?_; rintro e w16 ⟨A7, c7, rfl, hl7, hF7, hb⟩; have HF7 := Aside0.mk hF7; have HB16 := HB15.on hb; have hsz15 := Aside0.mk HB15.big; clear hF7 hb HB15 HRB15 HK15; clear x0 x1 x2 x3 o0 o1 o2 o3 o4 o5 o6 o7 r0 r1 r2 r3; have z0 := fun o => (blk_cell (blk_allocO HB16.trd o) 0 : (w16.alloc o).cell? ⟨w.heap.size + 1 + 1, 0, none⟩ = _); have z1 := fun o => (blk_cell (blk_allocO HB16.trd o) 1 : (w16.alloc o).cell? ⟨w.heap.size + 1 + 1, 1, none⟩ = _); have z2 := fun o => (blk_cell (blk_allocO HB16.trd o) 2 : (w16.alloc o).cell? ⟨w.heap.size + 1 + 1, 2, none⟩ = _); have z3 := fun o => (blk_cell (blk_allocO HB16.trd o) 3 : (w16.alloc o).cell? ⟨w.heap.size + 1 + 1, 3, none⟩ = _); have y0 := fun o => (blk_frozen (blk_allocO HB16.trd o) 0 : (w16.alloc o).frozen? ⟨w.heap.size + 1 + 1, 0, none⟩ = false); have y1 := fun o => (blk_frozen (blk_allocO HB16.trd o) 1 : (w16.alloc o).frozen? ⟨w.heap.size + 1 + 1, 1, none⟩ = false); have y2 := fun o => (blk_frozen (blk_allocO HB16.trd o) 2 : (w16.alloc o).frozen? ⟨w.heap.size + 1 + 1, 2, none⟩ = false); have y3 := fun o => (blk_frozen (blk_allocO HB16.trd o) 3 : (w16.alloc o).frozen? ⟨w.heap.size + 1 + 1, 3, none⟩ = false)))
  refine bodyPost_ret (results_ct rfl _ _ (w.heap.size + 1 + 1) 24 #[.int .i64 0, .string ⟨#[]⟩, .int .i64 0, .slice none 0 0] (0, 0) _ rfl (blk_put4 (HB16.alloc _).trd) Tryd.underlying24 rfl (by kernel_rfl)) rfl ?_
  exact ⟨rfl, below_set4 (HB16.alloc _).below (by omega)⟩
end Go.Proofs.YtgcpfelccfnnbaaDoor.X
namespace Go.Proofs.YtgcpfelccfnnbaaDoor.X
open Go.RowKit Go.Proofs.YtgcpfelccfnnbaaDoorW.PrintWords Go.Proofs.YtgcpfelccfnnbaaDoorW.PrintLast Go.Proofs.YtgcpfelccfnnbaaDoorW.PrintMore
attribute [local go_sem] max2_int min2_int max_two min_two max_three min_three max_four min_four   -- for this text's walks alone
set_option linter.unusedVariables false
set_option linter.unusedSimpArgs false
set_option maxRecDepth 100000 in
set_option maxHeartbeats 4000000 in
theorem apply_ok (u : S24) (pre old post ch kids : List S24) (en : Int) (r : S24) (nn : Int) (x : S24) (o : S27) (A AR AN : Option Addr) (c cR cN : Nat) (w : World) (HA : Aside0 (Kd.C k24 w A x.f3.length x.f3)) (HR : Aside0 (Kd.C (Kd.int .i64) w AR o.f1.length o.f1)) (HN : Aside0 (Kd.C k24 w AN o.f4.length o.f4)) (HV : Aside0 (∀ W : World, Kd.C k24 W A x.f3.length x.f3 → Calls Tryd.prog 27 #[.agg #[.int .i64 x.f0, .string x.f1, .int .i64 x.f2, .slice A x.f3.length c]] W fun e w' => e = .returned (.bool true) ∧ Below W.heap.size W w')) (HF : Aside0 (∀ W : World, Kd.C (Kd.int .i64) W AR o.f1.length o.f1 → Kd.C k24 W AN o.f4.length o.f4 → Calls Tryd.prog 28 #[.agg #[.int .i64 o.f0, .slice AR o.f1.length cR, .int .i64 o.f2, .int .i64 o.f3, .slice AN o.f4.length cN, .int .i64 o.f5, .string o.f6, .string o.f7]] W fun e w' => e = .returned (.bool true) ∧ Below W.heap.size W w')) (HROW : Aside0 (∀ W : World, Kd.C k24 W A x.f3.length x.f3 → Kd.C (Kd.int .i64) W AR o.f1.length o.f1 → Calls Tryd.prog 29 #[.agg #[.int .i64 x.f0, .string x.f1, .int .i64 x.f2, .slice A x.f3.length c], .slice AR o.f1.length cR] W fun e w' => ∃ v : Value, e = .returned (.tuple #[.agg #[.int .i64 r.f0, .string r.f1, .int .i64 r.f2, v], .int .i64 0]) ∧ Kd.R k24 24 w' W.heap.size (fun _ => True) v r.f3 ∧ Below W.heap.size W w')) (HNEED : Aside0 (∀ W : World, Kd.C (Kd.int .i64) W AR o.f1.length o.f1 → Kd.C k24 W AN o.f4.length o.f4 → Calls Tryd.prog 30 #[.agg #[.int .i64 o.f0, .slice AR o.f1.length cR, .int .i64 o.f2, .int .i64 o.f3, .slice AN o.f4.length cN, .int .i64 o.f5, .string o.f6, .string o.f7]] W fun e w' => e = .returned (.int .i64 nn) ∧ Below W.heap.size W w')) (h39 : decide (o.f2 < 0) = false) (h44 : decide ((r.f3.length : Int) < o.f2) = false) (h53 : decide (wrap64 ((r.f3.length : Int) - o.f2) < nn) = false) (hen : wrap64 (o.f2 + nn) = en) (h0 : 0 ≤ o.f2) (h1 : o.f2 ≤ en) (h2 : en ≤ r.f3.length) (Hold : Aside0 ((r.f3.take en.toNat).drop o.f2.toNat = old)) (HCOPY : Aside0 (∀ (P : Nat → Prop) (W : World), Kd.C (Kd.int .i64) W AR o.f1.length o.f1 → Kd.F k24 W P AN o.f4.length o.f4 → Calls Tryd.prog 32 #[.agg #[.int .i64 o.f0, .slice AR o.f1.length cR, .int .i64 o.f2, .int .i64 o.f3, .slice AN o.f4.length cN, .int .i64 o.f5, .string o.f6, .string o.f7]] W fun e w' => ∃ v1 v4 : Value, e = .returned (.agg #[.int .i64 o.f0, v1, .int .i64 o.f2, .int .i64 o.f3, v4, .int .i64 o.f5, .string o.f6, .string o.f7]) ∧ (Kd.int .i64).R 3 w' W.heap.size (fun k => W.heap.size ≤ k) v1 o.f1 ∧ Kd.N k24 24 w' W.heap.size (fun k => (P k ∨ W.heap.size ≤ k) ∧ some k ≠ v1.ownBlock) v4 o.f4 ∧ Below W.heap.size W w')) (HCH : Aside0 (∀ (A2 AR2 AN2 : Option Addr) (c2 cR2 cN2 : Nat) (P : Nat → Prop) (W : World), old.length ≤ c2 → o.f4.length ≤ cN2 → Kd.F k24 W P A2 old.length old → Kd.F k24 W P AN2 o.f4.length o.f4 → Calls Tryd.prog 31 #[.agg #[.int .i64 o.f0, .slice AR2 o.f1.length cR2, .int .i64 o.f2, .int .i64 o.f3, .slice AN2 o.f4.length cN2, .int .i64 o.f5, .string o.f6, .string o.f7], .slice A2 old.length c2] W fun e w' => ∃ (A' : Option Addr) (c' : Nat), e = .returned (.tuple #[.slice A' ch.length c', .bool true]) ∧ ch.length ≤ c' ∧ Kd.F k24 w' (fun j => P j ∨ W.heap.size ≤ j) A' ch.length ch ∧ Below W.heap.size W w')) (Hpre : Aside0 (r.f3.take o.f2.toNat = pre)) (Hpost : Aside0 (r.f3.drop en.toNat = post)) (HCAT : Aside0 (∀ (A2 : Option Addr) (c2 : Nat) (P : Nat → Prop) (W : World), Kd.F (Kd.slice 24 k24) W P A2 3 [pre, ch, post] → Calls Tryd.prog 33 #[.slice A2 3 c2] W fun e w' => ∃ v : Value, e = .returned v ∧ Kd.N k24 24 w' W.heap.size (fun k => P k ∨ W.heap.size ≤ k) v kids ∧ Below W.heap.size W w')) (HWITH : Aside0 (∀ (A2 : Option Addr) (c2 : Nat) (W : World), kids.length ≤ c2 → Kd.C k24 W A x.f3.length x.f3 → Kd.C (Kd.int .i64) W AR o.f1.length o.f1 → Kd.C k24 W A2 kids.length kids → Calls Tryd.prog 34 #[.agg #[.int .i64 x.f0, .string x.f1, .int .i64 x.f2, .slice A x.f3.length c], .slice AR o.f1.length cR, .agg #[.int .i64 r.f0, .string r.f1, .int .i64 r.f2, .slice A2 kids.length c2]] W fun e w' => ∃ (A' : Option Addr) (c' : Nat), e = .returned (.tuple #[.agg #[.int .i64 u.f0, .string u.f1, .int .i64 u.f2, .slice A' u.f3.length c'], .int .i64 0]) ∧ u.f3.length ≤ c' ∧ Kd.F k24 w' (fun k => W.heap.size ≤ k) A' u.f3.length u.f3 ∧ Below W.heap.size W w')) :
    Calls Tryd.prog 11 #[.agg #[.int .i64 x.f0, .string x.f1, .int .i64 x.f2, .slice A x.f3.length c], .agg #[.int .i64 o.f0, .slice AR o.f1.length cR, .int .i64 o.f2, .int .i64 o.f3, .slice AN o.f4.length cN, .int .i64 o.f5, .string o.f6, .string o.f7]] w fun e w' => ∃ (A' : Option Addr) (c' : Nat), e = .returned (.tuple #[.agg #[.int .i64 u.f0, .string u.f1, .int .i64 u.f2, .slice A' u.f3.length c'], .int .i64 0]) ∧ u.f3.length ≤ c' ∧ Kd.F k24 w' (fun k => w.heap.size ≤ k) A' u.f3.length u.f3 ∧ Below w.heap.size w w' := by
  go_enter Tryd.func11, Tryd.ntmps11
  go_wp2_with (first | (go_at_call 27; go_loud (refine (HV.out _ (Kd.C_below HA.out (Boxes.new w _ _ _).below)).mono ?_; rintro e w1 ⟨rfl, hB1⟩; have HB1 := (Boxes.new w _ _ _).on hB1; clear hB1; have o0 := (blk_cell HB1.snd 0 : w1.cell? ⟨w.heap.size + 1, 0, none⟩ = _); have o1 := (blk_cell HB1.snd 1 : w1.cell? ⟨w.heap.size + 1, 1, none⟩ = _); have o2 := (blk_cell HB1.snd 2 : w1.cell? ⟨w.heap.size + 1, 2, none⟩ = _); have o3 := (blk_cell HB1.snd 3 : w1.cell? ⟨w.heap.size + 1, 3, none⟩ = _); have o4 := (blk_cell HB1.snd 4 : w1.cell? ⟨w.heap.size + 1, 4, none⟩ = _); have o5 := (blk_cell HB1.snd 5 : w1.cell? ⟨w.heap.size + 1, 5, none⟩ = _); have o6 := (blk_cell HB1.snd 6 : w1.cell? ⟨w.heap.size + 1, 6, none⟩ = _); have o7 := (blk_cell HB1.snd 7 : w1.cell? ⟨w.heap.size + 1, 7, none⟩ = _))) | (go_at_call 28; go_loud (refine (HF.out _ (Kd.C_below HR.out HB1.below) (Kd.C_below HN.out HB1.below)).mono ?_; rintro e w2 ⟨rfl, hB2⟩; have HB2 := HB1.on hB2; clear hB2 HB1; clear o0 o1 o2 o3 o4 o5 o6 o7; have x0 := (blk_cell HB2.fst 0 : w2.cell? ⟨w.heap.size, 0, none⟩ = _); have x1 := (blk_cell HB2.fst 1 : w2.cell? ⟨w.heap.size, 1, none⟩ = _); have x2 := (blk_cell HB2.fst 2 : w2.cell? ⟨w.heap.size, 2, none⟩ = _); have x3 := (blk_cell HB2.fst 3 : w2.cell? ⟨w.heap.size, 3, none⟩ = _); have o0 := (blk_cell HB2.snd 0 : w2.cell? ⟨w.heap.size + 1, 0, none⟩ = _); have o1 := (blk_cell HB2.snd 1 : w2.cell? ⟨w.heap.size + 1, 1, none⟩ = _); have o2 := (blk_cell HB2.snd 2 : w2.cell? ⟨w.heap.size + 1, 2, none⟩ = _); have o3 := (blk_cell HB2.snd 3 : w2.cell? ⟨w.heap.size + 1, 3, none⟩ = _); have o4 := (blk_cell HB2.snd 4 : w2.cell? ⟨w.heap.size + 1, 4, none⟩ = _); have o5 := (blk_cell HB2.snd 5 : w2.cell? ⟨w.heap.size + 1, 5, none⟩ = _); have o6 := (blk_cell HB2.snd 6 : w2.cell? ⟨w.heap.size + 1, 6, none⟩ = _); have o7 := (blk_cell HB2.snd 7 : w2.cell? ⟨w.heap.size + 1, 7, none⟩ = _))) | (go_at_call 29; go_loud (refine (HROW.out _ (Kd.C_below HA.out HB2.below) (Kd.C_below HR.out HB2.below)).mono ?_; rintro e w3 ⟨v, rfl, hRR, hB3⟩; obtain ⟨A1, c1, rfl⟩ := Kd.R_slice hRR; have HB3 := HB2.on hB3; clear hB3 HB2; clear x0 x1 x2 x3 o0 o1 o2 o3 o4 o5 o6 o7; have HRR := Aside0.mk hRR; clear hRR; skip)))
  have HG := Aside0.mk HB3.big
  have HCR := Aside0.mk (Kd.R_reads' HRR.out).2.1
  have HKF : Aside0 (Kd.F k24 (w3.alloc (.cells #[.int .i64 r.f0, .string r.f1, .int .i64 r.f2, .slice A1 r.f3.length c1] 24)) (fun k => k ≠ w3.heap.size) A1 r.f3.length r.f3) := ⟨Kd.F_mono (Kd.F_alloc (Kd.F_bound (Kd.R_F HRR.out)) _) (fun k hk => by have := hk.2; omega)⟩
  have HRB4 := Aside0.mk (heap_alloc_new w3 (.cells #[.int .i64 r.f0, .string r.f1, .int .i64 r.f2, .slice A1 r.f3.length c1] 24))
  have HB4 := HB3.alloc (.cells #[.int .i64 r.f0, .string r.f1, .int .i64 r.f2, .slice A1 r.f3.length c1] 24)
  clear HB3 HRR
  refine start_ (n := 18) (S := fun w' => w'.cell? ⟨w.heap.size + 1, 0, none⟩ = some (.int .i64 o.f0) ∧ w'.cell? ⟨w.heap.size + 1, 1, none⟩ = some (.slice AR o.f1.length cR) ∧ w'.cell? ⟨w.heap.size + 1, 2, none⟩ = some (.int .i64 o.f2) ∧ w'.cell? ⟨w.heap.size + 1, 3, none⟩ = some (.int .i64 o.f3) ∧ w'.cell? ⟨w.heap.size + 1, 4, none⟩ = some (.slice AN o.f4.length cN) ∧ w'.cell? ⟨w.heap.size + 1, 5, none⟩ = some (.int .i64 o.f5) ∧ w'.cell? ⟨w.heap.size + 1, 6, none⟩ = some (.string o.f6) ∧ w'.cell? ⟨w.heap.size + 1, 7, none⟩ = some (.string o.f7)) (ds := []) #[false, false, false, false, false, false, false, false, false, false, false, false, false, false, false, false, false, false] (by kernel_rfl) rfl rfl ⟨blk_cell HB4.drew.snd 0, blk_cell HB4.drew.snd 1, blk_cell HB4.drew.snd 2, blk_cell HB4.drew.snd 3, blk_cell HB4.drew.snd 4, blk_cell HB4.drew.snd 5, blk_cell HB4.drew.snd 6, blk_cell HB4.drew.snd 7⟩ (fun hHeld => ?_); refine with_tabW apply9.tab apply9.bits (fun HT_ HW_ => ?_)
  have HB5 := HB4.drew
  have HRB5 : Aside0 ((w3.alloc (.cells #[.int .i64 r.f0, .string r.f1, .int .i64 r.f2, .slice A1 r.f3.length c1] 24)).drew.heap[w3.heap.size]? = some (.cells #[.int .i64 r.f0, .string r.f1, .int .i64 r.f2, .slice A1 r.f3.length c1] 24)) := ⟨HRB4.out⟩
  have HKF5 := Aside0.mk (Kd.F_drew HKF.out)
  clear HB4 HRB4 HKF
  generalize (w3.alloc (.cells #[.int .i64 r.f0, .string r.f1, .int .i64 r.f2, .slice A1 r.f3.length c1] 24)).drew = W5 at HB5 HRB5 HKF5 hHeld ⊢
  generalize w3.heap.size = g6 at HG HRB5 HKF5 ⊢
  refine pure_ (i := 0) (N := some 37) (v := ?_) (a' := ?_) #[true, false, false, false, false, false, false, false, false, false, false, false, false, false, false, false, false, false] rfl rfl (any_of HT_.out (by kernel_rfl)) (fun _ _ _ h => h) (Or.inl ⟨by rfl, ?_⟩) ?_ ?_
  rotate_left
  · intro w'
    go_simp
    with_reducible rfl
  rotate_left
  · simp only [Act.put, List.setIfInBounds_toArray, List.set_cons_zero, List.set_cons_succ, i64_w, i32_w]
    rfl
  refine take_ (i := 1) (N := some 38) (v := ?_) (a' := ?_) #[true, true, false, false, false, false, false, false, false, false, false, false, false, false, false, false, false, false] rfl rfl (take_ofW HT_.out HW_.out (by kernel_rfl)) (fun _ _ _ h => h) (Or.inl ⟨by rfl, ?_⟩) hHeld ?_ ?_
  rotate_left
  · rintro w' ⟨s0, s1, s2, s3, s4, s5, s6, s7⟩
    go_simp
    with_reducible rfl
  rotate_left
  · simp only [Act.put, List.setIfInBounds_toArray, List.set_cons_zero, List.set_cons_succ, i64_w, i32_w]
    rfl
  refine pure_ (i := 2) (N := some 39) (v := ?_) (a' := ?_) #[true, true, true, false, false, false, false, false, false, false, false, false, false, false, false, false, false, false] rfl rfl (any_of HT_.out (by kernel_rfl)) (fun _ _ _ h => h) (Or.inl ⟨by rfl, ?_⟩) ?_ ?_
  rotate_left
  · intro w'
    go_simp
    with_reducible rfl
  rotate_left
  · simp only [Act.put, List.setIfInBounds_toArray, List.set_cons_zero, List.set_cons_succ, i64_w, i32_w]
    rfl
  refine pure_ (i := 3) (N := some 40) (v := ?_) (a' := ?_) #[true, true, true, true, false, false, false, false, false, false, false, false, false, false, false, false, false, false] rfl rfl (any_of HT_.out (by kernel_rfl)) (fun _ _ _ h => h) (Or.inl ⟨by rfl, ?_⟩) ?_ ?_
  rotate_left
  · intro w'
    go_simp
    with_reducible rfl
  rotate_left
  · simp only [Act.put, List.setIfInBounds_toArray, List.set_cons_zero, List.set_cons_succ, i64_w, i32_w]
    rfl
  refine pure_ (i := 4) (N := some 41) (v := ?_) (a' := ?_) #[true, true, true, true, true, false, false, false, false, false, false, false, false, false, false, false, false, false] rfl rfl (any_of HT_.out (by kernel_rfl)) (fun _ _ _ h => h) (Or.inl ⟨by rfl, ?_⟩) ?_ ?_
  rotate_left
  · intro w'
    go_simp
    with_reducible rfl
  rotate_left
  · simp only [Act.put, List.setIfInBounds_toArray, List.set_cons_zero, List.set_cons_succ, i64_w, i32_w]
    rfl
  refine take_ (i := 5) (N := some 42) (v := ?_) (a' := ?_) #[true, true, true, true, true, true, false, false, false, false, false, false, false, false, false, false, false, false] rfl rfl (take_ofW HT_.out HW_.out (by kernel_rfl)) (fun _ _ _ h => h) (Or.inl ⟨by rfl, ?_⟩) hHeld ?_ ?_
  rotate_left
  · rintro w' ⟨s0, s1, s2, s3, s4, s5, s6, s7⟩
    go_simp
    with_reducible rfl
  rotate_left
  · simp only [Act.put, List.setIfInBounds_toArray, List.set_cons_zero, List.set_cons_succ, i64_w, i32_w]
    rfl
  refine pure_ (i := 6) (N := some 43) (v := ?_) (a' := ?_) #[true, true, true, true, true, true, true, false, false, false, false, false, false, false, false, false, false, false] rfl rfl (any_of HT_.out (by kernel_rfl)) (fun _ _ _ h => h) (Or.inl ⟨by rfl, ?_⟩) ?_ ?_
  rotate_left
  · intro w'
    go_simp
    with_reducible rfl
  rotate_left
  · simp only [Act.put, List.setIfInBounds_toArray, List.set_cons_zero, List.set_cons_succ, i64_w, i32_w]
    rfl
  refine pure_ (i := 7) (N := some 44) (v := ?_) (a' := ?_) #[true, true, true, true, true, true, true, true, false, false, false, false, false, false, false, false, false, false] rfl rfl (any_of HT_.out (by kernel_rfl)) (fun _ _ _ h => h) (Or.inl ⟨by rfl, ?_⟩) ?_ ?_
  rotate_left
  · intro w'
    go_simp
    with_reducible rfl
  rotate_left
  · simp only [Act.put, List.setIfInBounds_toArray, List.set_cons_zero, List.set_cons_succ, i64_w, i32_w]
    rfl
  refine pure_ (i := 8) (N := some 45) (v := ?_) (a' := ?_) #[true, true, true, true, true, true, true, true, true, false, false, false, false, false, false, false, false, false] rfl rfl (any_of HT_.out (by kernel_rfl)) (fun _ _ _ h => h) (Or.inl ⟨by rfl, ?_⟩) ?_ ?_
  rotate_left
  · intro w'
    go_simp
    with_reducible rfl
  rotate_left
  · simp only [Act.put, List.setIfInBounds_toArray, List.set_cons_zero, List.set_cons_succ, i64_w, i32_w]
    rfl
  refine pure_ (i := 9) (N := some 46) (v := ?_) (a' := ?_) #[true, true, true, true, true, true, true, true, true, true, false, false, false, false, false, false, false, false] rfl rfl (any_of HT_.out (by kernel_rfl)) (fun _ _ _ h => h) (Or.inl ⟨by rfl, ?_⟩) ?_ ?_
  rotate_left
  · intro w'
    go_simp
    with_reducible rfl
  rotate_left
  · simp only [Act.put, List.setIfInBounds_toArray, List.set_cons_zero, List.set_cons_succ, i64_w, i32_w]
    rfl
  refine take_ (i := 10) (N := some 47) (v := ?_) (a' := ?_) #[true, true, true, true, true, true, true, true, true, true, true, false, false, false, false, false, false, false] rfl rfl (take_ofW HT_.out HW_.out (by kernel_rfl)) (fun _ _ _ h => h) (Or.inl ⟨by rfl, ?_⟩) hHeld ?_ ?_
  rotate_left
  · rintro w' ⟨s0, s1, s2, s3, s4, s5, s6, s7⟩
    go_simp
    with_reducible rfl
  rotate_left
  · simp only [Act.put, List.setIfInBounds_toArray, List.set_cons_zero, List.set_cons_succ, i64_w, i32_w]
    rfl
  refine pure_ (i := 12) (N := some 49) (v := ?_) (a' := ?_) #[true, true, true, true, true, true, true, true, true, true, true, false, true, false, false, false, false, false] rfl rfl (any_of HT_.out (by kernel_rfl)) (fun _ _ _ h => h) (Or.inl ⟨by rfl, ?_⟩) ?_ ?_
  rotate_left
  · intro w'
    go_simp
    with_reducible rfl
  rotate_left
  · simp only [Act.put, List.setIfInBounds_toArray, List.set_cons_zero, List.set_cons_succ, i64_w, i32_w]
    rfl
  refine pure_ (i := 13) (N := some 50) (v := ?_) (a' := ?_) #[true, true, true, true, true, true, true, true, true, true, true, false, true, true, false, false, false, false] rfl rfl (any_of HT_.out (by kernel_rfl)) (fun _ _ _ h => h) (Or.inl ⟨by rfl, ?_⟩) ?_ ?_
  rotate_left
  · intro w'
    go_simp
    with_reducible rfl
  rotate_left
  · simp only [Act.put, List.setIfInBounds_toArray, List.set_cons_zero, List.set_cons_succ, i64_w, i32_w]
    rfl
  refine take_ (i := 14) (N := some 51) (v := ?_) (a' := ?_) #[true, true, true, true, true, true, true, true, true, true, true, false, true, true, true, false, false, false] rfl rfl (take_ofW HT_.out HW_.out (by kernel_rfl)) (fun _ _ _ h => h) (Or.inl ⟨by rfl, ?_⟩) hHeld ?_ ?_
  rotate_left
  · rintro w' ⟨s0, s1, s2, s3, s4, s5, s6, s7⟩
    go_simp
    with_reducible rfl
  rotate_left
  · simp only [Act.put, List.setIfInBounds_toArray, List.set_cons_zero, List.set_cons_succ, i64_w, i32_w]
    rfl
  refine pure_ (i := 15) (N := some 52) (v := ?_) (a' := ?_) #[true, true, true, true, true, true, true, true, true, true, true, false, true, true, true, true, false, false] rfl rfl (any_of HT_.out (by kernel_rfl)) (fun _ _ _ h => h) (Or.inl ⟨by rfl, ?_⟩) ?_ ?_
  rotate_left
  · intro w'
    go_simp
    with_reducible rfl
  rotate_left
  · simp only [Act.put, List.setIfInBounds_toArray, List.set_cons_zero, List.set_cons_succ, i64_w, i32_w]
    rfl
  refine one_ (i := 11) (N := some 48) #[true, true, true, true, true, true, true, true, true, true, true, true, true, true, true, true, false, false] rfl rfl (one_of HT_.out (by kernel_rfl)) (by decide) (fun K hK => ?_)
  refine goes_ Tryd.func30 (by kernel_rfl) rfl #[.agg #[.int .i64 o.f0, .slice AR o.f1.length cR, .int .i64 o.f2, .int .i64 o.f3, .slice AN o.f4.length cN, .int .i64 o.f5, .string o.f6, .string o.f7]] (by rfl) rfl rfl (by (try simp only [List.map_toArray, List.map_cons, List.map_nil]); first | done | rfl | (simp only [List.length_drop, List.length_take]; rfl)) ?_
  refine (HNEED.out _ (Kd.C_below HR.out HB5.below) (Kd.C_below HN.out HB5.below)).mono ?_
  rintro e w6 ⟨rfl, hb⟩
  have HB6 := HB5.on hb
  have HRB6 := Aside0.mk (blk_on HRB5.out hb)
  have HKF6 := Aside0.mk (Kd.F_below HKF5.out hb)
  clear hb HB5 HRB5 HKF5 hHeld
  refine ⟨_, rfl, ?_⟩
  refine hK.out _ _ ⟨blk_cell HB6.snd 0, blk_cell HB6.snd 1, blk_cell HB6.snd 2, blk_cell HB6.snd 3, blk_cell HB6.snd 4, blk_cell HB6.snd 5, blk_cell HB6.snd 6, blk_cell HB6.snd 7⟩ (fun hHeld => ?_)
  clear hK K
  refine norm_ (a' := ?_) ?_ ?_
  rotate_left
  · show Act.put _ (some 48) _ = _
    simp only [Act.put, List.setIfInBounds_toArray, List.set_cons_zero, List.set_cons_succ, i64_w, i32_w]
    rfl
  refine pure_ (i := 16) (N := some 53) (v := ?_) (a' := ?_) #[true, true, true, true, true, true, true, true, true, true, true, true, true, true, true, true, true, false] rfl rfl (any_of HT_.out (by kernel_rfl)) (fun _ _ _ h => h) (Or.inl ⟨by rfl, ?_⟩) ?_ ?_
  rotate_left
  · intro w'
    go_simp
    with_reducible rfl
  rotate_left
  · simp only [Act.put, List.setIfInBounds_toArray, List.set_cons_zero, List.set_cons_succ, i64_w, i32_w]
    rfl
  refine pure_ (i := 17) (N := some 54) (v := ?_) (a' := ?_) #[true, true, true, true, true, true, true, true, true, true, true, true, true, true, true, true, true, true] rfl rfl (any_of HT_.out (by kernel_rfl)) (fun _ _ _ h => h) (Or.inl ⟨by rfl, ?_⟩) ?_ ?_
  rotate_left
  · intro w'
    go_simp
    with_reducible rfl
  rotate_left
  · simp only [Act.put, List.setIfInBounds_toArray, List.set_cons_zero, List.set_cons_succ, i64_w, i32_w]
    rfl
  refine done_ (done_of HT_.out (by kernel_rfl)) ?_
  try go_wp2
  refine start_ (n := 6) (S := fun w' => w'.cell? ⟨w.heap.size + 1, 0, none⟩ = some (.int .i64 o.f0) ∧ w'.cell? ⟨w.heap.size + 1, 1, none⟩ = some (.slice AR o.f1.length cR) ∧ w'.cell? ⟨w.heap.size + 1, 2, none⟩ = some (.int .i64 o.f2) ∧ w'.cell? ⟨w.heap.size + 1, 3, none⟩ = some (.int .i64 o.f3) ∧ w'.cell? ⟨w.heap.size + 1, 4, none⟩ = some (.slice AN o.f4.length cN) ∧ w'.cell? ⟨w.heap.size + 1, 5, none⟩ = some (.int .i64 o.f5) ∧ w'.cell? ⟨w.heap.size + 1, 6, none⟩ = some (.string o.f6) ∧ w'.cell? ⟨w.heap.size + 1, 7, none⟩ = some (.string o.f7)) (ds := []) #[false, false, false, false, false, false] (by kernel_rfl) rfl rfl ⟨blk_cell HB6.drew.snd 0, blk_cell HB6.drew.snd 1, blk_cell HB6.drew.snd 2, blk_cell HB6.drew.snd 3, blk_cell HB6.drew.snd 4, blk_cell HB6.drew.snd 5, blk_cell HB6.drew.snd 6, blk_cell HB6.drew.snd 7⟩ (fun hHeld => ?_); refine with_tabW apply11.tab apply11.bits (fun HT_ HW_ => ?_)
  have HB7 := HB6.drew
  have HRB7 : Aside0 (w6.drew.heap[g6]? = _) := ⟨HRB6.out⟩
  have HKF7 := Aside0.mk (Kd.F_drew HKF6.out)
  clear HB6 HRB6 HKF6
  generalize w6.drew = w7 at HB7 HRB7 HKF7 hHeld ⊢
  refine pure_ (i := 0) (N := some 56) (v := ?_) (a' := ?_) #[true, false, false, false, false, false] rfl rfl (any_of HT_.out (by kernel_rfl)) (fun _ _ _ h => h) (Or.inl ⟨by rfl, ?_⟩) ?_ ?_
  rotate_left
  · intro w'
    go_simp
    with_reducible rfl
  rotate_left
  · simp only [Act.put, List.setIfInBounds_toArray, List.set_cons_zero, List.set_cons_succ, i64_w, i32_w]
    rfl
  refine take_ (i := 1) (N := some 57) (v := ?_) (a' := ?_) #[true, true, false, false, false, false] rfl rfl (take_ofW HT_.out HW_.out (by kernel_rfl)) (fun _ _ _ h => h) (Or.inl ⟨by rfl, ?_⟩) hHeld ?_ ?_
  rotate_left
  · rintro w' ⟨s0, s1, s2, s3, s4, s5, s6, s7⟩
    go_simp
    with_reducible rfl
  rotate_left
  · simp only [Act.put, List.setIfInBounds_toArray, List.set_cons_zero, List.set_cons_succ, i64_w, i32_w]
    rfl
  refine take_ (i := 2) (N := some 58) (v := ?_) (a' := ?_) #[true, true, true, false, false, false] rfl rfl (take_ofW HT_.out HW_.out (by kernel_rfl)) (fun _ _ _ h => h) (Or.inl ⟨by rfl, ?_⟩) hHeld ?_ ?_
  rotate_left
  · rintro w' ⟨s0, s1, s2, s3, s4, s5, s6, s7⟩
    go_simp
    with_reducible rfl
  rotate_left
  · simp only [Act.put, List.setIfInBounds_toArray, List.set_cons_zero, List.set_cons_succ, i64_w, i32_w]
    rfl
  refine one_ (i := 3) (N := some 59) #[true, true, true, true, false, false] rfl rfl (one_of HT_.out (by kernel_rfl)) (by decide) (fun K hK => ?_)
  refine goes_ Tryd.func30 (by kernel_rfl) rfl #[.agg #[.int .i64 o.f0, .slice AR o.f1.length cR, .int .i64 o.f2, .int .i64 o.f3, .slice AN o.f4.length cN, .int .i64 o.f5, .string o.f6, .string o.f7]] (by rfl) rfl rfl (by (try simp only [List.map_toArray, List.map_cons, List.map_nil]); first | done | rfl | (simp only [List.length_drop, List.length_take]; rfl)) ?_
  refine (HNEED.out _ (Kd.C_below HR.out HB7.below) (Kd.C_below HN.out HB7.below)).mono ?_
  rintro e w8 ⟨rfl, hb⟩
  have HB8 := HB7.on hb
  have HRB8 := Aside0.mk (blk_on HRB7.out hb)
  have HKF8 := Aside0.mk (Kd.F_below HKF7.out hb)
  clear hb HB7 HRB7 HKF7 hHeld
  refine ⟨_, rfl, ?_⟩
  refine hK.out _ _ ⟨blk_cell HB8.snd 0, blk_cell HB8.snd 1, blk_cell HB8.snd 2, blk_cell HB8.snd 3, blk_cell HB8.snd 4, blk_cell HB8.snd 5, blk_cell HB8.snd 6, blk_cell HB8.snd 7⟩ (fun hHeld => ?_)
  clear hK K
  refine norm_ (a' := ?_) ?_ ?_
  rotate_left
  · show Act.put _ (some 59) _ = _
    simp only [Act.put, List.setIfInBounds_toArray, List.set_cons_zero, List.set_cons_succ, i64_w, i32_w]
    rfl
  refine pure_ (i := 4) (N := some 60) (v := ?_) (a' := ?_) #[true, true, true, true, true, false] rfl rfl (any_of HT_.out (by kernel_rfl)) (fun _ _ _ h => h) (Or.inl ⟨by rfl, ?_⟩) ?_ ?_
  rotate_left
  · intro w'
    go_simp
    with_reducible rfl
  rotate_left
  · simp only [Act.put, List.setIfInBounds_toArray, List.set_cons_zero, List.set_cons_succ, i64_w, i32_w]
    rfl
  refine pure_ (i := 5) (N := some 9) (v := ?_) (a' := ?_) #[true, true, true, true, true, true] rfl rfl (any_of HT_.out (by kernel_rfl)) (fun _ _ _ h => h) (Or.inl ⟨by rfl, ?_⟩) ?_ ?_
  rotate_left
  · intro w'
    go_simp
    with_reducible rfl
  rotate_left
  · simp only [Act.put, List.setIfInBounds_toArray, List.set_cons_zero, List.set_cons_succ, i64_w, i32_w]
    rfl
  refine done_ (done_of HT_.out (by kernel_rfl)) ?_
  try go_wp2
  obtain ⟨ii, hii, _, hsz, _⟩ := info_parts infoN
  have hcut := cut_mid (P := Tryd.prog) 22 24 .i64 .i64 Tryd.underlying22 hii 4 hsz A1 r.f3.length c1 o.f2 en h0 h1 h2 HCR.out
  have hlo : old.length = en.toNat - o.f2.toNat := by rw [← Hold.out, List.length_drop, List.length_take]; omega
  have hro := Kd.F_mid (lo := o.f2.toNat) (hi := en.toNat) (c := c1) HKF8.out (by omega) (by omega) HCR.out
  rw [Hold.out] at hro
  obtain ⟨A2, hA2⟩ : ∃ A2, A2 = (if c1 = o.f2.toNat then A1 else A1.map (·.add (o.f2.toNat * 4))) := ⟨_, rfl⟩
  obtain ⟨c2, hc2⟩ : ∃ c2, c2 = c1 - o.f2.toNat := ⟨_, rfl⟩
  replace hro : Kd.F k24 w8 (fun k => k ≠ g6) A2 old.length old := by rw [hA2]; exact hro
  rw [← hlo, ← hA2, ← hc2] at hcut
  have hle2 : Aside0 (old.length ≤ c2) := ⟨by have := HCR.out; rw [hlo, hc2]; omega⟩
  have HO8 := Aside0.mk hro
  clear hro hA2 hc2 hlo hii hsz
  refine start_ (n := 14) (S := fun w' => w'.cell? ⟨w.heap.size + 1, 0, none⟩ = some (.int .i64 o.f0) ∧ w'.cell? ⟨w.heap.size + 1, 1, none⟩ = some (.slice AR o.f1.length cR) ∧ w'.cell? ⟨w.heap.size + 1, 2, none⟩ = some (.int .i64 o.f2) ∧ w'.cell? ⟨w.heap.size + 1, 3, none⟩ = some (.int .i64 o.f3) ∧ w'.cell? ⟨w.heap.size + 1, 4, none⟩ = some (.slice AN o.f4.length cN) ∧ w'.cell? ⟨w.heap.size + 1, 5, none⟩ = some (.int .i64 o.f5) ∧ w'.cell? ⟨w.heap.size + 1, 6, none⟩ = some (.string o.f6) ∧ w'.cell? ⟨w.heap.size + 1, 7, none⟩ = some (.string o.f7) ∧ w'.cell? ⟨g6, 0, none⟩ = some (.int .i64 r.f0) ∧ w'.cell? ⟨g6, 1, none⟩ = some (.string r.f1) ∧ w'.cell? ⟨g6, 2, none⟩ = some (.int .i64 r.f2) ∧ w'.cell? ⟨g6, 3, none⟩ = some (.slice A1 r.f3.length c1)) (ds := []) #[false, false, false, false, false, false, false, false, false, false, false, false, false, false] (by kernel_rfl) rfl rfl ⟨blk_cell HB8.drew.snd 0, blk_cell HB8.drew.snd 1, blk_cell HB8.drew.snd 2, blk_cell HB8.drew.snd 3, blk_cell HB8.drew.snd 4, blk_cell HB8.drew.snd 5, blk_cell HB8.drew.snd 6, blk_cell HB8.drew.snd 7, blk_cell HRB8.out 0, blk_cell HRB8.out 1, blk_cell HRB8.out 2, blk_cell HRB8.out 3⟩ (fun hHeld => ?_); refine with_tabW apply12.tab apply12.bits (fun HT_ HW_ => ?_)
  have HB9 := HB8.drew
  have HRB9 : Aside0 (w8.drew.heap[g6]? = _) := ⟨HRB8.out⟩
  have HKF9 := Aside0.mk (Kd.F_drew HKF8.out)
  have HO9 := Aside0.mk (Kd.F_drew HO8.out)
  clear HB8 HRB8 HKF8 HO8
  generalize w8.drew = w9 at HB9 HRB9 HKF9 HO9 hHeld ⊢
  refine pure_ (i := 2) (N := some 64) (v := ?_) (a' := ?_) #[false, false, true, false, false, false, false, false, false, false, false, false, false, false] rfl rfl (any_of HT_.out (by kernel_rfl)) (fun _ _ _ h => h) (Or.inl ⟨by rfl, ?_⟩) ?_ ?_
  rotate_left
  · intro w'
    go_simp
    with_reducible rfl
  rotate_left
  · simp only [Act.put, List.setIfInBounds_toArray, List.set_cons_zero, List.set_cons_succ, i64_w, i32_w]
    rfl
  refine pure_ (i := 4) (N := some 66) (v := ?_) (a' := ?_) #[false, false, true, false, true, false, false, false, false, false, false, false, false, false] rfl rfl (any_of HT_.out (by kernel_rfl)) (fun _ _ _ h => h) (Or.inl ⟨by rfl, ?_⟩) ?_ ?_
  rotate_left
  · intro w'
    go_simp
    with_reducible rfl
  rotate_left
  · simp only [Act.put, List.setIfInBounds_toArray, List.set_cons_zero, List.set_cons_succ, i64_w, i32_w]
    rfl
  refine pure_ (i := 6) (N := some 68) (v := ?_) (a' := ?_) #[false, false, true, false, true, false, true, false, false, false, false, false, false, false] rfl rfl (any_of HT_.out (by kernel_rfl)) (fun _ _ _ h => h) (Or.inl ⟨by rfl, ?_⟩) ?_ ?_
  rotate_left
  · intro w'
    go_simp
    with_reducible rfl
  rotate_left
  · simp only [Act.put, List.setIfInBounds_toArray, List.set_cons_zero, List.set_cons_succ, i64_w, i32_w]
    rfl
  refine take_ (i := 0) (N := some 62) (v := ?_) (a' := ?_) #[true, false, true, false, true, false, true, false, false, false, false, false, false, false] rfl rfl (take_ofW HT_.out HW_.out (by kernel_rfl)) (fun _ _ _ h => h) (Or.inl ⟨by rfl, ?_⟩) hHeld ?_ ?_
  rotate_left
  · rintro w' ⟨s0, s1, s2, s3, s4, s5, s6, s7, s8, s9, s10, s11⟩
    go_simp
    with_reducible rfl
  rotate_left
  · simp only [Act.put, List.setIfInBounds_toArray, List.set_cons_zero, List.set_cons_succ, i64_w, i32_w]
    rfl
  refine take_ (i := 3) (N := some 65) (v := ?_) (a' := ?_) #[true, false, true, true, true, false, true, false, false, false, false, false, false, false] rfl rfl (take_ofW HT_.out HW_.out (by kernel_rfl)) (fun _ _ _ h => h) (Or.inl ⟨by rfl, ?_⟩) hHeld ?_ ?_
  rotate_left
  · rintro w' ⟨s0, s1, s2, s3, s4, s5, s6, s7, s8, s9, s10, s11⟩
    go_simp
    with_reducible rfl
  rotate_left
  · simp only [Act.put, List.setIfInBounds_toArray, List.set_cons_zero, List.set_cons_succ, i64_w, i32_w]
    rfl
  refine take_ (i := 5) (N := some 67) (v := ?_) (a' := ?_) #[true, false, true, true, true, true, true, false, false, false, false, false, false, false] rfl rfl (take_ofW HT_.out HW_.out (by kernel_rfl)) (fun _ _ _ h => h) (Or.inl ⟨by rfl, ?_⟩) hHeld ?_ ?_
  rotate_left
  · rintro w' ⟨s0, s1, s2, s3, s4, s5, s6, s7, s8, s9, s10, s11⟩
    go_simp
    with_reducible rfl
  rotate_left
  · simp only [Act.put, List.setIfInBounds_toArray, List.set_cons_zero, List.set_cons_succ, i64_w, i32_w]
    rfl
  refine pure_ (i := 7) (N := some 69) (v := ?_) (a' := ?_) #[true, false, true, true, true, true, true, true, false, false, false, false, false, false] rfl rfl (any_of HT_.out (by kernel_rfl)) (fun _ _ _ h => h) (Or.inl ⟨by rfl, ?_⟩) ?_ ?_
  rotate_left
  · intro w'
    go_simp
    with_reducible rfl
  rotate_left
  · simp only [Act.put, List.setIfInBounds_toArray, List.set_cons_zero, List.set_cons_succ, i64_w, i32_w]
    rfl
  refine one_ (i := 1) (N := some 63) #[true, true, true, true, true, true, true, true, false, false, false, false, false, false] rfl rfl (one_of HT_.out (by kernel_rfl)) (by decide) (fun K hK => ?_)
  refine goes_ Tryd.func32 (by kernel_rfl) rfl #[.agg #[.int .i64 o.f0, .slice AR o.f1.length cR, .int .i64 o.f2, .int .i64 o.f3, .slice AN o.f4.length cN, .int .i64 o.f5, .string o.f6, .string o.f7]] (by rfl) rfl rfl (by (try simp only [List.map_toArray, List.map_cons, List.map_nil]); first | done | rfl | (simp only [List.length_drop, List.length_take]; rfl)) ?_
  refine (HCOPY.out (fun k => k ≠ g6) _ (Kd.C_below HR.out HB9.below) (Kd.F_mono (Kd.F_below (Kd.C_F k24_heap HN.out) HB9.below) (fun k hk => by have := HG.out; omega))).mono ?_
  rintro e w10 ⟨v1, v4, rfl, hR1, hN4, hb⟩
  obtain ⟨AR2, cR2, rfl⟩ := Kd.R_slice hR1
  obtain ⟨AN2, cN2, rfl⟩ := Kd.N_slice hN4
  have HGL := blk_lt HRB9.out
  have HCN := Aside0.mk (Kd.N_reads' hN4).2.1
  have HN10 : Aside0 (Kd.F k24 w10 (fun k => k ≠ g6) AN2 o.f4.length o.f4) := ⟨Kd.F_mono (Kd.N_F hN4) (fun k hk => by rcases hk.1 with h | h; exact h; omega)⟩
  have HO10 := Aside0.mk (Kd.F_below HO9.out hb)
  have HB10 := HB9.on hb
  have HRB10 := Aside0.mk (blk_on HRB9.out hb)
  have HKF10 := Aside0.mk (Kd.F_below HKF9.out hb)
  clear hb hN4 hR1 HGL HB9 HRB9 HKF9 HO9 hHeld
  refine ⟨_, rfl, ?_⟩
  refine hK.out _ _ ⟨blk_cell HB10.snd 0, blk_cell HB10.snd 1, blk_cell HB10.snd 2, blk_cell HB10.snd 3, blk_cell HB10.snd 4, blk_cell HB10.snd 5, blk_cell HB10.snd 6, blk_cell HB10.snd 7, blk_cell HRB10.out 0, blk_cell HRB10.out 1, blk_cell HRB10.out 2, blk_cell HRB10.out 3⟩ (fun hHeld => ?_)
  clear hK K
  refine norm_ (a' := ?_) ?_ ?_
  rotate_left
  · show Act.put _ (some 63) _ = _
    simp only [Act.put, List.setIfInBounds_toArray, List.set_cons_zero, List.set_cons_succ, i64_w, i32_w]
    rfl
  refine one_ (i := 8) (N := some 70) #[true, true, true, true, true, true, true, true, true, false, false, false, false, false] rfl rfl (one_of HT_.out (by kernel_rfl)) (by decide) (fun K hK => ?_)
  refine goes_ Tryd.func31 (by kernel_rfl) rfl #[.agg #[.int .i64 o.f0, .slice AR2 o.f1.length cR2, .int .i64 o.f2, .int .i64 o.f3, .slice AN2 o.f4.length cN2, .int .i64 o.f5, .string o.f6, .string o.f7], .slice A2 old.length c2] (by rfl) rfl rfl (by (try simp only [List.map_toArray, List.map_cons, List.map_nil]); first | done | rfl | (simp only [List.length_drop, List.length_take]; rfl)) ?_
  refine (HCH.out A2 AR2 AN2 c2 cR2 cN2 (fun k => k ≠ g6) _ hle2.out HCN.out HO10.out HN10.out).mono ?_
  rintro e w11 ⟨A3, c3, rfl, hl3, hF3, hb⟩
  have HGL := blk_lt HRB10.out
  have HC11 : Aside0 (Kd.F k24 w11 (fun k => k ≠ g6) A3 ch.length ch) := ⟨Kd.F_mono hF3 (fun k hk => by rcases hk with h | h; exact h; omega)⟩
  have HL3 := Aside0.mk hl3
  have HB11 := HB10.on hb
  have HRB11 := Aside0.mk (blk_on HRB10.out hb)
  have HKF11 := Aside0.mk (Kd.F_below HKF10.out hb)
  clear hb hF3 hl3 HGL HB10 HRB10 HKF10 HO10 HN10 hHeld
  refine ⟨_, rfl, ?_⟩
  refine hK.out _ _ ⟨blk_cell HB11.snd 0, blk_cell HB11.snd 1, blk_cell HB11.snd 2, blk_cell HB11.snd 3, blk_cell HB11.snd 4, blk_cell HB11.snd 5, blk_cell HB11.snd 6, blk_cell HB11.snd 7, blk_cell HRB11.out 0, blk_cell HRB11.out 1, blk_cell HRB11.out 2, blk_cell HRB11.out 3⟩ (fun hHeld => ?_)
  clear hK K
  refine norm_ (a' := ?_) ?_ ?_
  rotate_left
  · show Act.put _ (some 70) _ = _
    simp only [Act.put, List.setIfInBounds_toArray, List.set_cons_zero, List.set_cons_succ, i64_w, i32_w]
    rfl
  refine pure_ (i := 9) (N := some 61) (v := ?_) (a' := ?_) #[true, true, true, true, true, true, true, true, true, true, false, false, false, false] rfl rfl (any_of HT_.out (by kernel_rfl)) (fun _ _ _ h => h) (Or.inl ⟨by rfl, ?_⟩) ?_ ?_
  rotate_left
  · intro w'
    go_simp
    with_reducible rfl
  rotate_left
  · simp only [Act.put, List.setIfInBounds_toArray, List.set_cons_zero, List.set_cons_succ, i64_w, i32_w]
    rfl
  refine pure_ (i := 10) (N := some 71) (v := ?_) (a' := ?_) #[true, true, true, true, true, true, true, true, true, true, true, false, false, false] rfl rfl (any_of HT_.out (by kernel_rfl)) (fun _ _ _ h => h) (Or.inl ⟨by rfl, ?_⟩) ?_ ?_
  rotate_left
  · intro w'
    go_simp
    with_reducible rfl
  rotate_left
  · simp only [Act.put, List.setIfInBounds_toArray, List.set_cons_zero, List.set_cons_succ, i64_w, i32_w]
    rfl
  refine pure_ (i := 11) (N := some 72) (v := ?_) (a' := ?_) #[true, true, true, true, true, true, true, true, true, true, true, true, false, false] rfl rfl (any_of HT_.out (by kernel_rfl)) (fun _ _ _ h => h) (Or.inl ⟨by rfl, ?_⟩) ?_ ?_
  rotate_left
  · intro w'
    go_simp
    with_reducible rfl
  rotate_left
  · simp only [Act.put, List.setIfInBounds_toArray, List.set_cons_zero, List.set_cons_succ, i64_w, i32_w]
    rfl
  refine pure_ (i := 12) (N := some 10) (v := ?_) (a' := ?_) #[true, true, true, true, true, true, true, true, true, true, true, true, true, false] rfl rfl (any_of HT_.out (by kernel_rfl)) (fun _ _ _ h => h) (Or.inl ⟨by rfl, ?_⟩) ?_ ?_
  rotate_left
  · intro w'
    go_simp
    with_reducible rfl
  rotate_left
  · simp only [Act.put, List.setIfInBounds_toArray, List.set_cons_zero, List.set_cons_succ, i64_w, i32_w]
    rfl
  refine pure_ (i := 13) (N := some 11) (v := ?_) (a' := ?_) #[true, true, true, true, true, true, true, true, true, true, true, true, true, true] rfl rfl (any_of HT_.out (by kernel_rfl)) (fun _ _ _ h => h) (Or.inl ⟨by rfl, ?_⟩) ?_ ?_
  rotate_left
  · intro w'
    go_simp
    with_reducible rfl
  rotate_left
  · simp only [Act.put, List.setIfInBounds_toArray, List.set_cons_zero, List.set_cons_succ, i64_w, i32_w]
    rfl
  refine done_ (done_of HT_.out (by kernel_rfl)) ?_
  try go_wp2
  obtain ⟨ii, hii, _, hsz, _⟩ := info_parts infoN
  have hcut1 := cut_to (P := Tryd.prog) 22 24 .i64 Tryd.underlying22 hii A1 r.f3.length c1 o.f2 h0 (by omega) HCR.out
  have hlp : pre.length = o.f2.toNat := by rw [← Hpre.out, List.length_take]; omega
  have hrp := Kd.F_take (m := o.f2.toNat) HKF11.out (by omega)
  rw [Hpre.out] at hrp
  rw [← hlp] at hcut1
  have HP11 := Aside0.mk hrp
  have hlep : Aside0 (pre.length ≤ c1) := ⟨by have := HCR.out; omega⟩
  have hcut2 := cut_from (P := Tryd.prog) 22 24 .i64 Tryd.underlying22 hii 4 hsz A1 r.f3.length c1 en (by omega) h2
  have hlq : post.length = r.f3.length - en.toNat := by rw [← Hpost.out, List.length_drop]
  have hrq := Kd.F_cut (m := en.toNat) (c := c1) HKF11.out (by omega) HCR.out
  rw [Hpost.out] at hrq
  obtain ⟨A5, hA5⟩ : ∃ A5, A5 = (if c1 = en.toNat then A1 else A1.map (·.add (en.toNat * 4))) := ⟨_, rfl⟩
  obtain ⟨c5, hc5⟩ : ∃ c5, c5 = c1 - en.toNat := ⟨_, rfl⟩
  replace hrq : Kd.F k24 w11 (fun k => k ≠ g6) A5 post.length post := by rw [hA5]; exact hrq
  rw [← hlq, ← hA5, ← hc5] at hcut2
  have hleq : Aside0 (post.length ≤ c5) := ⟨by have := HCR.out; rw [hlq, hc5]; omega⟩
  have HQ11 := Aside0.mk hrq
  clear hrp hrq hA5 hc5 hlp hlq hii hsz
  refine start_ (n := 14) (S := fun w' => w'.cell? ⟨w.heap.size + 1, 0, none⟩ = some (.int .i64 o.f0) ∧ w'.cell? ⟨w.heap.size + 1, 1, none⟩ = some (.slice AR o.f1.length cR) ∧ w'.cell? ⟨w.heap.size + 1, 2, none⟩ = some (.int .i64 o.f2) ∧ w'.cell? ⟨w.heap.size + 1, 3, none⟩ = some (.int .i64 o.f3) ∧ w'.cell? ⟨w.heap.size + 1, 4, none⟩ = some (.slice AN o.f4.length cN) ∧ w'.cell? ⟨w.heap.size + 1, 5, none⟩ = some (.int .i64 o.f5) ∧ w'.cell? ⟨w.heap.size + 1, 6, none⟩ = some (.string o.f6) ∧ w'.cell? ⟨w.heap.size + 1, 7, none⟩ = some (.string o.f7) ∧ w'.cell? ⟨g6, 0, none⟩ = some (.int .i64 r.f0) ∧ w'.cell? ⟨g6, 1, none⟩ = some (.string r.f1) ∧ w'.cell? ⟨g6, 2, none⟩ = some (.int .i64 r.f2) ∧ w'.cell? ⟨g6, 3, none⟩ = some (.slice A1 r.f3.length c1)) (ds := [13]) #[false, false, false, false, false, false, false, false, false, false, false, false, false, false] (by kernel_rfl) rfl rfl ⟨blk_cell HB11.drew.snd 0, blk_cell HB11.drew.snd 1, blk_cell HB11.drew.snd 2, blk_cell HB11.drew.snd 3, blk_cell HB11.drew.snd 4, blk_cell HB11.drew.snd 5, blk_cell HB11.drew.snd 6, blk_cell HB11.drew.snd 7, blk_cell HRB11.out 0, blk_cell HRB11.out 1, blk_cell HRB11.out 2, blk_cell HRB11.out 3⟩ (fun hHeld => ?_); refine with_tabW apply15.tab apply15.bits (fun HT_ HW_ => ?_)
  have HB12 := HB11.drew
  have HRB12 : Aside0 (w11.drew.heap[g6]? = _) := ⟨HRB11.out⟩
  have HKF12 := Aside0.mk (Kd.F_drew HKF11.out)
  have HP12 := Aside0.mk (Kd.F_drew HP11.out)
  have HQ12 := Aside0.mk (Kd.F_drew HQ11.out)
  have HC12 := Aside0.mk (Kd.F_drew HC11.out)
  clear HB11 HRB11 HKF11 HP11 HQ11 HC11
  generalize w11.drew = w12 at HB12 HRB12 HKF12 HP12 HQ12 HC12 hHeld ⊢
  refine pure_ (i := 0) (N := some 76) (v := ?_) (a' := ?_) #[true, false, false, false, false, false, false, false, false, false, false, false, false, false] rfl rfl (any_of HT_.out (by kernel_rfl)) (fun _ _ _ h => h) (Or.inl ⟨by rfl, ?_⟩) ?_ ?_
  rotate_left
  · intro w'
    go_simp
    with_reducible rfl
  rotate_left
  · simp only [Act.put, List.setIfInBounds_toArray, List.set_cons_zero, List.set_cons_succ, i64_w, i32_w]
    rfl
  refine pure_ (i := 2) (N := some 78) (v := ?_) (a' := ?_) #[true, false, true, false, false, false, false, false, false, false, false, false, false, false] rfl rfl (any_of HT_.out (by kernel_rfl)) (fun _ _ _ h => h) (Or.inl ⟨by rfl, ?_⟩) ?_ ?_
  rotate_left
  · intro w'
    go_simp
    with_reducible rfl
  rotate_left
  · simp only [Act.put, List.setIfInBounds_toArray, List.set_cons_zero, List.set_cons_succ, i64_w, i32_w]
    rfl
  refine pure_ (i := 5) (N := some 81) (v := ?_) (a' := ?_) #[true, false, true, false, false, true, false, false, false, false, false, false, false, false] rfl rfl (any_of HT_.out (by kernel_rfl)) (fun _ _ _ h => h) (Or.inl ⟨by rfl, ?_⟩) ?_ ?_
  rotate_left
  · intro w'
    go_simp
    with_reducible rfl
  rotate_left
  · simp only [Act.put, List.setIfInBounds_toArray, List.set_cons_zero, List.set_cons_succ, i64_w, i32_w]
    rfl
  refine pure_ (i := 6) (N := some 82) (v := ?_) (a' := ?_) #[true, false, true, false, false, true, true, false, false, false, false, false, false, false] rfl rfl (any_of HT_.out (by kernel_rfl)) (fun _ _ _ h => h) (Or.inl ⟨by rfl, ?_⟩) ?_ ?_
  rotate_left
  · intro w'
    go_simp
    with_reducible rfl
  rotate_left
  · simp only [Act.put, List.setIfInBounds_toArray, List.set_cons_zero, List.set_cons_succ, i64_w, i32_w]
    rfl
  refine pure_ (i := 8) (N := some 84) (v := ?_) (a' := ?_) #[true, false, true, false, false, true, true, false, true, false, false, false, false, false] rfl rfl (any_of HT_.out (by kernel_rfl)) (fun _ _ _ h => h) (Or.inl ⟨by rfl, ?_⟩) ?_ ?_
  rotate_left
  · intro w'
    go_simp
    with_reducible rfl
  rotate_left
  · simp only [Act.put, List.setIfInBounds_toArray, List.set_cons_zero, List.set_cons_succ, i64_w, i32_w]
    rfl
  refine take_ (i := 1) (N := some 77) (v := ?_) (a' := ?_) #[true, true, true, false, false, true, true, false, true, false, false, false, false, false] rfl rfl (take_ofW HT_.out HW_.out (by kernel_rfl)) (fun _ _ _ h => h) (Or.inl ⟨by rfl, ?_⟩) hHeld ?_ ?_
  rotate_left
  · rintro w' ⟨s0, s1, s2, s3, s4, s5, s6, s7, s8, s9, s10, s11⟩
    go_simp
    with_reducible rfl
  rotate_left
  · simp only [Act.put, List.setIfInBounds_toArray, List.set_cons_zero, List.set_cons_succ, i64_w, i32_w]
    rfl
  refine take_ (i := 3) (N := some 79) (v := ?_) (a' := ?_) #[true, true, true, true, false, true, true, false, true, false, false, false, false, false] rfl rfl (take_ofW HT_.out HW_.out (by kernel_rfl)) (fun _ _ _ h => h) (Or.inl ⟨by rfl, ?_⟩) hHeld ?_ ?_
  rotate_left
  · rintro w' ⟨s0, s1, s2, s3, s4, s5, s6, s7, s8, s9, s10, s11⟩
    go_simp
    with_reducible rfl
  rotate_left
  · simp only [Act.put, List.setIfInBounds_toArray, List.set_cons_zero, List.set_cons_succ, i64_w, i32_w]
    rfl
  refine pure_ (i := 4) (N := some 80) (v := ?_) (a' := ?_) #[true, true, true, true, true, true, true, false, true, false, false, false, false, false] rfl rfl (any_of HT_.out (by kernel_rfl)) (fun _ _ _ h => h) (Or.inl ⟨by rfl, ?_⟩) ?_ ?_
  rotate_left
  · intro w'
    go_simp
    with_reducible rfl
  rotate_left
  · simp only [Act.put, List.setIfInBounds_toArray, List.set_cons_zero, List.set_cons_succ, i64_w, i32_w]
    rfl
  refine take_ (i := 7) (N := some 83) (v := ?_) (a' := ?_) #[true, true, true, true, true, true, true, true, true, false, false, false, false, false] rfl rfl (take_ofW HT_.out HW_.out (by kernel_rfl)) (fun _ _ _ h => h) (Or.inl ⟨by rfl, ?_⟩) hHeld ?_ ?_
  rotate_left
  · rintro w' ⟨s0, s1, s2, s3, s4, s5, s6, s7, s8, s9, s10, s11⟩
    go_simp
    with_reducible rfl
  rotate_left
  · simp only [Act.put, List.setIfInBounds_toArray, List.set_cons_zero, List.set_cons_succ, i64_w, i32_w]
    rfl
  refine pure_ (i := 9) (N := some 85) (v := ?_) (a' := ?_) #[true, true, true, true, true, true, true, true, true, true, false, false, false, false] rfl rfl (any_of HT_.out (by kernel_rfl)) (fun _ _ _ h => h) (Or.inl ⟨by rfl, ?_⟩) ?_ ?_
  rotate_left
  · intro w'
    go_simp
    with_reducible rfl
  rotate_left
  · simp only [Act.put, List.setIfInBounds_toArray, List.set_cons_zero, List.set_cons_succ, i64_w, i32_w]
    rfl
  refine one_ (i := 10) (N := some 86) #[true, true, true, true, true, true, true, true, true, true, true, false, false, false] rfl rfl (one_of HT_.out (by kernel_rfl)) (by decide) (fun K hK => ?_)
  refine value_ (v := .slice (some ⟨w12.heap.size, 0, none⟩) 3 3) (w1 := (w12.alloc (.cells #[.slice A1 pre.length c1, .slice A3 ch.length c3, .slice A5 post.length c5] 22))) (by rfl) rfl ?_ ?_
  · go_simp
  refine hK.out _ _ ⟨blk_cell (HB12.alloc (.cells #[.slice A1 pre.length c1, .slice A3 ch.length c3, .slice A5 post.length c5] 22)).snd 0, blk_cell (HB12.alloc (.cells #[.slice A1 pre.length c1, .slice A3 ch.length c3, .slice A5 post.length c5] 22)).snd 1, blk_cell (HB12.alloc (.cells #[.slice A1 pre.length c1, .slice A3 ch.length c3, .slice A5 post.length c5] 22)).snd 2, blk_cell (HB12.alloc (.cells #[.slice A1 pre.length c1, .slice A3 ch.length c3, .slice A5 post.length c5] 22)).snd 3, blk_cell (HB12.alloc (.cells #[.slice A1 pre.length c1, .slice A3 ch.length c3, .slice A5 post.length c5] 22)).snd 4, blk_cell (HB12.alloc (.cells #[.slice A1 pre.length c1, .slice A3 ch.length c3, .slice A5 post.length c5] 22)).snd 5, blk_cell (HB12.alloc (.cells #[.slice A1 pre.length c1, .slice A3 ch.length c3, .slice A5 post.length c5] 22)).snd 6, blk_cell (HB12.alloc (.cells #[.slice A1 pre.length c1, .slice A3 ch.length c3, .slice A5 post.length c5] 22)).snd 7, blk_cell (blk_allocO HRB12.out (.cells #[.slice A1 pre.length c1, .slice A3 ch.length c3, .slice A5 post.length c5] 22)) 0, blk_cell (blk_allocO HRB12.out (.cells #[.slice A1 pre.length c1, .slice A3 ch.length c3, .slice A5 post.length c5] 22)) 1, blk_cell (blk_allocO HRB12.out (.cells #[.slice A1 pre.length c1, .slice A3 ch.length c3, .slice A5 post.length c5] 22)) 2, blk_cell (blk_allocO HRB12.out (.cells #[.slice A1 pre.length c1, .slice A3 ch.length c3, .slice A5 post.length c5] 22)) 3⟩ (fun hHeld => ?_)
  clear hK K
  refine norm_ (a' := ?_) ?_ ?_
  rotate_left
  · show Act.put _ (some 86) _ = _
    simp only [Act.put, List.setIfInBounds_toArray, List.set_cons_zero, List.set_cons_succ, i64_w, i32_w]
    rfl
  have H3 : Aside0 (Kd.F (Kd.slice 24 k24) (w12.alloc (.cells #[.slice A1 pre.length c1, .slice A3 ch.length c3, .slice A5 post.length c5] 22)) (fun k => k ≠ g6) (some ⟨w12.heap.size, 0, none⟩) 3 [pre, ch, post]) := ⟨Kd.F_mono (threeF hlep.out HL3.out hleq.out HP12.out HC12.out HQ12.out) (fun k hk => by have := blk_lt HRB12.out; rcases hk with h | h; exact h; omega)⟩
  have HB13 := HB12.alloc (.cells #[.slice A1 pre.length c1, .slice A3 ch.length c3, .slice A5 post.length c5] 22)
  have HRB13 := Aside0.mk (blk_allocO HRB12.out (.cells #[.slice A1 pre.length c1, .slice A3 ch.length c3, .slice A5 post.length c5] 22))
  clear HB12 HRB12 HKF12 HP12 HQ12 HC12
  generalize w12.heap.size = g13 at H3 ⊢
  generalize (w12.alloc (.cells #[.slice A1 pre.length c1, .slice A3 ch.length c3, .slice A5 post.length c5] 22)) = w13 at HB13 HRB13 H3 hHeld ⊢
  refine one_ (i := 11) (N := some 87) #[true, true, true, true, true, true, true, true, true, true, true, true, false, false] rfl rfl (one_of HT_.out (by kernel_rfl)) (by decide) (fun K hK => ?_)
  refine goes_ Tryd.func33 (by kernel_rfl) rfl #[.slice (some ⟨g13, 0, none⟩) 3 3] (by rfl) rfl rfl (by (try simp only [List.map_toArray, List.map_cons, List.map_nil]); first | done | rfl | (simp only [List.length_drop, List.length_take]; rfl)) ?_
  refine (HCAT.out _ _ _ _ H3.out).mono ?_
  rintro e w14 ⟨v, rfl, hNv, hb⟩
  obtain ⟨A6, c6, rfl⟩ := Kd.N_slice hNv
  have HGL := blk_lt HRB13.out
  have HL6 := Aside0.mk (Kd.N_reads' hNv).2.1
  have HK14 : Aside0 (Kd.F k24 w14 (fun k => k ≠ g6) A6 kids.length kids) := ⟨Kd.F_mono (Kd.N_F hNv) (fun k hk => by rcases hk with h | h; exact h; omega)⟩
  have HB14 := HB13.on hb
  have HRB14 := Aside0.mk (blk_on HRB13.out hb)
  clear hb hNv HGL HB13 HRB13 H3 hHeld
  refine ⟨_, rfl, ?_⟩
  refine hK.out _ _ ⟨blk_cell HB14.snd 0, blk_cell HB14.snd 1, blk_cell HB14.snd 2, blk_cell HB14.snd 3, blk_cell HB14.snd 4, blk_cell HB14.snd 5, blk_cell HB14.snd 6, blk_cell HB14.snd 7, blk_cell HRB14.out 0, blk_cell HRB14.out 1, blk_cell HRB14.out 2, blk_cell HRB14.out 3⟩ (fun hHeld => ?_)
  clear hK K
  refine norm_ (a' := ?_) ?_ ?_
  rotate_left
  · show Act.put _ (some 87) _ = _
    simp only [Act.put, List.setIfInBounds_toArray, List.set_cons_zero, List.set_cons_succ, i64_w, i32_w]
    rfl
  have g3 := (blk_cell HRB14.out 3 : w14.cell? ⟨g6, 3, none⟩ = _)
  have gf := (blk_frozen HRB14.out 3 : w14.frozen? ⟨g6, 3, none⟩ = false)
  refine pure_ (i := 12) (N := some 88) (v := ?_) (a' := ?_) #[true, true, true, true, true, true, true, true, true, true, true, true, true, false] rfl rfl (any_of HT_.out (by kernel_rfl)) (fun _ _ _ h => h) (Or.inl ⟨by rfl, ?_⟩) ?_ ?_
  rotate_left
  · intro w'
    go_simp
    with_reducible rfl
  rotate_left
  · simp only [Act.put, List.setIfInBounds_toArray, List.set_cons_zero, List.set_cons_succ, i64_w, i32_w]
    rfl
  refine last_ (i := 13) (N := none) #[true, true, true, true, true, true, true, true, true, true, true, true, true, true] rfl rfl (one_of HT_.out (by kernel_rfl)) (by decide) (fun K hK => ?_)
  refine skip_ (w1 := ?_) (by rfl) rfl ?_ ?_
  rotate_left
  · go_simp
    rfl
  refine hK.out _ _ ?_
  clear hK K
  refine done_ (done_of HT_.out (by kernel_rfl)) ?_
  have HB15 := HB14.put (g := g6) (i := 3) HG.out (.slice A6 kids.length c6)
  have HRB15 := Aside0.mk (blk_put HRB14.out 3 (.slice A6 kids.length c6) rfl)
  have HK15 := Aside0.mk (Kd.F_far (p := ⟨g6, 3, none⟩) HK14.out (fun k hk => hk) (.slice A6 kids.length c6))
  clear HB14 HRB14 HK14 g3 gf
  generalize w14.setCell ⟨g6, 3, none⟩ (.slice A6 kids.length c6) = w15 at HB15 HRB15 HK15 ⊢
  have x0 := (blk_cell HB15.fst 0 : w15.cell? ⟨w.heap.size, 0, none⟩ = _)
  have x1 := (blk_cell HB15.fst 1 : w15.cell? ⟨w.heap.size, 1, none⟩ = _)
  have x2 := (blk_cell HB15.fst 2 : w15.cell? ⟨w.heap.size, 2, none⟩ = _)
  have x3 := (blk_cell HB15.fst 3 : w15.cell? ⟨w.heap.size, 3, none⟩ = _)
  have o0 := (blk_cell HB15.snd 0 : w15.cell? ⟨w.heap.size + 1, 0, none⟩ = _)
  have o1 := (blk_cell HB15.snd 1 : w15.cell? ⟨w.heap.size + 1, 1, none⟩ = _)
  have o2 := (blk_cell HB15.snd 2 : w15.cell? ⟨w.heap.size + 1, 2, none⟩ = _)
  have o3 := (blk_cell HB15.snd 3 : w15.cell? ⟨w.heap.size + 1, 3, none⟩ = _)
  have o4 := (blk_cell HB15.snd 4 : w15.cell? ⟨w.heap.size + 1, 4, none⟩ = _)
  have o5 := (blk_cell HB15.snd 5 : w15.cell? ⟨w.heap.size + 1, 5, none⟩ = _)
  have o6 := (blk_cell HB15.snd 6 : w15.cell? ⟨w.heap.size + 1, 6, none⟩ = _)
  have o7 := (blk_cell HB15.snd 7 : w15.cell? ⟨w.heap.size + 1, 7, none⟩ = _)
  have r0 := (blk_cell HRB15.out 0 : w15.cell? ⟨g6, 0, none⟩ = _)
  have r1 := (blk_cell HRB15.out 1 : w15.cell? ⟨g6, 1, none⟩ = _)
  have r2 := (blk_cell HRB15.out 2 : w15.cell? ⟨g6, 2, none⟩ = _)
  have r3 := (blk_cell HRB15.out 3 : w15.cell? ⟨g6, 3, none⟩ = _)
  go_wp2_with (go_at_call 34; go_loud (refine (HWITH.out A6 c6 _ HL6.out (Kd.C_below HA.out HB15.below) (Kd.C_below HR.out HB15.below) (Kd.F_now HK15.out)).mono ?_; rintro e w16 ⟨A7, c7, rfl, hl7, hF7, hb⟩; have HF7 := Aside0.mk hF7; have HB16 := HB15.on hb; have hsz15 := Aside0.mk HB15.big; clear hF7 hb HB15 HRB15 HK15; clear x0 x1 x2 x3 o0 o1 o2 o3 o4 o5 o6 o7 r0 r1 r2 r3; have z0 := fun o => (blk_cell (blk_allocO HB16.trd o) 0 : (w16.alloc o).cell? ⟨w.heap.size + 1 + 1, 0, none⟩ = _); have z1 := fun o => (blk_cell (blk_allocO HB16.trd o) 1 : (w16.alloc o).cell? ⟨w.heap.size + 1 + 1, 1, none⟩ = _); have z2 := fun o => (blk_cell (blk_allocO HB16.trd o) 2 : (w16.alloc o).cell? ⟨w.heap.size + 1 + 1, 2, none⟩ = _); have z3 := fun o => (blk_cell (blk_allocO HB16.trd o) 3 : (w16.alloc o).cell? ⟨w.heap.size + 1 + 1, 3, none⟩ = _); have y0 := fun o => (blk_frozen (blk_allocO HB16.trd o) 0 : (w16.alloc o).frozen? ⟨w.heap.size + 1 + 1, 0, none⟩ = false); have y1 := fun o => (blk_frozen (blk_allocO HB16.trd o) 1 : (w16.alloc o).frozen? ⟨w.heap.size + 1 + 1, 1, none⟩ = false); have y2 := fun o => (blk_frozen (blk_allocO HB16.trd o) 2 : (w16.alloc o).frozen? ⟨w.heap.size + 1 + 1, 2, none⟩ = false); have y3 := fun o => (blk_frozen (blk_allocO HB16.trd o) 3 : (w16.alloc o).frozen? ⟨w.heap.size + 1 + 1, 3, none⟩ = false)))
  refine bodyPost_ret (results_ct rfl _ _ (w.heap.size + 1 + 1) 24 #[.int .i64 u.f0, .string u.f1, .int .i64 u.f2, .slice A7 u.f3.length c7] (0, 0) _ rfl (blk_put4 (HB16.alloc _).trd) Tryd.underlying24 rfl (by kernel_rfl)) rfl ?_
  exact ⟨A7, c7, rfl, hl7, Kd.F_mono (F_set4 (Kd.F_alloc HF7.out _) (fun k hk => by have := hsz15.out; omega)) (fun k hk => by have := hsz15.out; omega), below_set4 (HB16.alloc _).below (by omega)⟩
end Go.Proofs.YtgcpfelccfnnbaaDoor.X
namespace Go.Proofs.YtgcpfelccfnnbaaDoor.X
open Go.RowKit Go.Proofs.YtgcpfelccfnnbaaDoorW.PrintWords Go.Proofs.YtgcpfelccfnnbaaDoorW.PrintLast Go.Proofs.YtgcpfelccfnnbaaDoorW.PrintMore
attribute [local go_sem] max2_int min2_int max_two min_two max_three min_three max_four min_four   -- for this text's walks alone
set_option linter.unusedVariables false
set_option linter.unusedSimpArgs false
theorem items_f (l : List S24) (hf : fineL l = true) : node_ValidItems.f l = some (itemsB l) := by
  unfold node_ValidItems.f node_Valid.f itemsB
  rw [if_pos (by rw [fine_eq, hf]; simp)]
  rfl
theorem bare_f (o : S27) : edit_bare.f o.f0 o.f1 o.f2 o.f3 o.f4 o.f5 o.f6 o.f7 = some (bareB o) := by
  unfold edit_bare.f bareB
  rw [ba_toList, ba_toList]
  by_cases h : o.f6.data.toList = []
  · rw [if_pos h, h]
    cases o.f7.data.toList <;> rfl
  · rw [if_neg h]
    cases h2 : o.f6.data.toList with
    | nil => exact absurd h2 h
    | cons a t => rfl
theorem formed_f (o : S27) (hf : fineL o.f4 = true) : edit_Formed.f 3 o.f0 o.f1 o.f2 o.f3 o.f4 o.f5 o.f6 o.f7 = some (formedB o) := by
  have hi := items_f o.f4 hf
  have hb := bare_f o
  have rd0 : rd_T24 o.f4 0 = nth o.f4 0 := rfl
  have rd1 : ∀ (l : List S24) (i : Int), rd_T24 l i = nth l i.toNat := fun _ _ => rfl
  unfold edit_Formed.f
  have hj : ∀ b : Bool, (b = true ↔ (o.f0 = 1 ∨ o.f0 = 2)) → edit_Formed.j0 3 o.f0 b o.f0 o.f1 o.f2 o.f3 o.f4 o.f5 o.f6 o.f7 = some (formedB o) := by
    intro b hb12
    rw [edit_Formed.j0]
    unfold formedB
    by_cases h12 : o.f0 = 1 ∨ o.f0 = 2
    · rw [if_pos (hb12.2 h12), if_pos h12, hi, hb]
      by_cases h3 : o.f3 = 0 <;> by_cases h5 : o.f5 = 0 <;> cases hbb : bareB o <;> by_cases h4 : 0 < o.f4.length <;> simp [h3, h5, h4]
      all_goals omega
    · rw [if_neg (fun h => h12 (hb12.1 h)), if_neg h12]
      have hj1 : ∀ b' : Bool, (b' = true ↔ (o.f0 = 3 ∨ o.f0 = 4)) → edit_Formed.j1 2 o.f0 b' o.f0 o.f1 o.f2 o.f3 o.f4 o.f5 o.f6 o.f7 = some (if o.f0 = 3 ∨ o.f0 = 4 then bareB o && (decide (0 ≤ o.f3) && (decide (o.f4.length = 1) && (itemsB o.f4 && (decide (0 ≤ o.f5) && (decide (o.f5 < (nth o.f4 0).f3.length) && decide ((nth (nth o.f4 0).f3 o.f5.toNat).f3 = []))))))
          else if o.f0 = 5 then decide (o.f3 = 0) && (decide (o.f5 = 0) && (decide (o.f4 = []) && decide (¬ o.f6.data.toList = o.f7.data.toList)))
          else false) := by
        intro b' hb34
        rw [edit_Formed.j1]
        by_cases h34 : o.f0 = 3 ∨ o.f0 = 4
        · rw [if_pos (hb34.2 h34), if_pos h34, hi, hb]
          simp only [Option.bind_some, rd0, rd1]
          by_cases hbb : bareB o = true
          · rw [if_pos hbb, hbb]
            by_cases h3 : o.f3 < 0
            · rw [if_pos h3]; simp; omega
            · rw [if_neg h3, decide_eq_true (show 0 ≤ o.f3 by omega)]
              by_cases h4 : (o.f4.length : Int) = 1
              · rw [if_pos h4, decide_eq_true (show o.f4.length = 1 by omega)]
                by_cases h6 : itemsB o.f4 = true
                · rw [if_pos h6, h6, if_pos (by omega)]
                  by_cases h7 : o.f5 ≥ 0
                  · rw [if_pos h7, decide_eq_true (show 0 ≤ o.f5 from h7)]
                    by_cases h8 : o.f5 < ((nth o.f4 0).f3.length : Int)
                    · rw [if_pos h8, if_pos h7, decide_eq_true h8]
                      simp only [Bool.true_and, Option.some.injEq]
                      rw [Bool.eq_iff_iff]
                      simp
                    · rw [if_neg h8, decide_eq_false h8]; rfl
                  · rw [if_neg h7, decide_eq_false (show ¬ 0 ≤ o.f5 from h7)]; rfl
                · rw [if_neg h6]; simp [h6]
              · rw [if_neg h4, decide_eq_false (show ¬ o.f4.length = 1 by omega)]; rfl
          · rw [if_neg hbb]; simp [hbb]
        · rw [if_neg (fun h => h34 (hb34.1 h)), if_neg h34]
          by_cases h5 : o.f0 = 5
          · rw [if_pos h5, if_pos h5]
            by_cases h3 : o.f3 = 0
            · rw [if_pos h3, decide_eq_true h3]
              by_cases h6 : o.f5 = 0
              · rw [if_pos h6, decide_eq_true h6]
                by_cases h4 : o.f4 = []
                · rw [if_pos (by rw [h4]; rfl), decide_eq_true h4, ba_toList, ba_toList]
                  simp only [Bool.true_and, Option.some.injEq]
                  rw [Bool.eq_iff_iff]
                  simp
                · rw [if_neg (fun h => h4 (List.eq_nil_of_length_eq_zero (by omega))), decide_eq_false h4]; rfl
              · rw [if_neg h6, decide_eq_false h6]; rfl
            · rw [if_neg h3, decide_eq_false h3]; rfl
          · rw [if_neg h5, if_neg h5]
      by_cases h3 : o.f0 = 3
      · rw [if_pos h3, hj1 _ (by simp [h3])]
      · rw [if_neg h3, hj1 _ (by simp [h3])]
  by_cases h1 : o.f0 = 1
  · rw [if_pos h1, hj _ (by simp [h1])]
  · rw [if_neg h1, hj _ (by simp [h1])]
theorem needs_f (o : S27) : edit_needs.f o.f0 o.f1 o.f2 o.f3 o.f4 o.f5 o.f6 o.f7 = some (needsI o) := by
  unfold edit_needs.f needsI
  split
  · rfl
  split
  · rfl
  split
  · rfl
  · rfl
theorem path_len : ∀ (p : List Int) (x : S24), WithOk x p → p.length ≤ 2 * cnt x := by
  refine pairs ?_ ?_ ?_
  · intro x _; simp
  · intro i x h; exact h.elim
  · intro i s p ih x h
    obtain ⟨a, b, c, d, e⟩ := h
    have h1 := ih _ e
    have c1 := cntL_get (nth_some (l := x.f3) (i := i.toNat) (by omega))
    have c2 := cntL_get (nth_some (l := (nth x.f3 i.toNat).f3) (i := s.toNat) (by omega))
    have e1 := cnt_eq (nth x.f3 i.toNat)
    have e2 := cnt_eq x
    simp only [List.length_cons]
    omega
theorem items_cnt {l : List S24} (h : itemsB l = true) : cntL l < 1000 := by
  have := valid_cnt h
  simp only [cnt] at this
  omega
theorem formed_cnt {o : S27} (h : formedB o = true) : cntL o.f4 < 1000 := by
  unfold formedB at h
  split at h
  · simp only [Bool.and_eq_true] at h; exact items_cnt h.2.2.2.2
  split at h
  · simp only [Bool.and_eq_true] at h; exact items_cnt h.2.2.2.1
  split at h
  · simp only [Bool.and_eq_true, decide_eq_true_eq] at h
    rw [h.2.2.1, cntL]
    omega
  · cases h
theorem fineL_app (a b : List S24) : fineL (a ++ b) = (fineL a && fineL b) := by
  induction a with
  | nil => simp [fineL]
  | cons x a ih => simp [fineL, ih, Bool.and_assoc]
theorem fineL_sub {l m : List S24} (h : m.Sublist l) (hl : fineL l = true) : fineL m = true := by
  induction h with
  | slnil => exact hl
  | cons x _ ih => simp only [fineL, Bool.and_eq_true] at hl; exact ih hl.2
  | cons_cons x _ ih => simp only [fineL, Bool.and_eq_true] at hl ⊢; exact ⟨hl.1, ih hl.2⟩
theorem nth_fine {l : List S24} (h : fineL l = true) (i : Nat) : fine (nth l i) = true := by
  by_cases hi : i < l.length
  · exact fineL_get (nth_some hi) h
  · unfold nth
    rw [List.getD_eq_getElem?_getD, List.getElem?_eq_none (by omega)]
    exact fine_z
theorem change_fine (o : S27) (l : List S24) (h4 : fineL o.f4 = true) (h7 : o.f7.data.toList.length ≤ 9223372036854775807) (hl : fineL l = true) : fineL (changeG o l).1 = true := by
  unfold changeG
  have ht := nth_fine h4 0
  have hx := nth_fine hl 0
  rw [fine_eq, Bool.and_eq_true] at ht hx
  split
  · exact h4
  split
  · rfl
  split
  · show fineL [⟨_, _, _, _⟩] = true
    rw [fineL, fineL, Bool.and_true, fine_eq, Bool.and_eq_true]
    refine ⟨ht.1, fineL_set _ _ _ ht.2 ?_⟩
    have hs := nth_fine ht.2 o.f5.toNat
    rw [fine_eq, Bool.and_eq_true] at hs ⊢
    exact ⟨hs.1, hl⟩
  split
  · unfold unwrappedG
    split
    · rfl
    · have hs := nth_fine hx.2 o.f5.toNat
      rw [fine_eq, Bool.and_eq_true] at hs
      exact hs.2
  · show fineL [⟨_, _, _, _⟩] = true
    rw [fineL, fineL, Bool.and_true, fine_eq, Bool.and_eq_true]
    exact ⟨decide_eq_true h7, hx.2⟩
theorem new_fine (r : S24) (o : S27) (h4 : fineL o.f4 = true) (h7 : o.f7.data.toList.length ≤ 9223372036854775807) (hr : fine r = true) : fine (newRow r o) = true := by
  rw [fine_eq, Bool.and_eq_true] at hr
  show fine ⟨_, _, _, newL _ _⟩ = true
  rw [fine_eq, Bool.and_eq_true]
  refine ⟨hr.1, ?_⟩
  show fineL (newL _ _) = true
  unfold newL
  rw [fineL_app, fineL_app, Bool.and_eq_true, Bool.and_eq_true]
  exact ⟨fineL_sub (List.take_sublist _ _) hr.2, change_fine o _ h4 h7 (fineL_sub ((List.drop_sublist _ _).trans (List.take_sublist _ _)) hr.2), fineL_sub (List.drop_sublist _ _) hr.2⟩
theorem ErrPost.ok {w : World} {ev : Int} {e : Ending} {w' : World} (h : ErrPost w ev e w') : ∃ (A' : Option Addr) (c' : Nat), e = .returned (.tuple #[.agg #[.int .i64 (z24, ev).1.f0, .string (z24, ev).1.f1, .int .i64 (z24, ev).1.f2, .slice A' (z24, ev).1.f3.length c'], .int .i64 (z24, ev).2]) ∧ (z24, ev).1.f3.length ≤ c' ∧ Kd.F k24 w' (fun k => w.heap.size ≤ k) A' (z24, ev).1.f3.length (z24, ev).1.f3 ∧ Below w.heap.size w w' :=
  ⟨none, 0, h.1, Nat.le_refl _, Kd.F_nil _ _ _, h.2⟩
set_option maxHeartbeats 2000000 in
theorem apply_any (x : S24) (o : S27) (A AR AN : Option Addr) (c cR cN : Nat) (w : World) (hfx : fine x = true) (h4 : fineL o.f4 = true) (h7 : o.f7.data.toList.length ≤ 9223372036854775807) (hc : x.f3.length ≤ c) (hcR : o.f1.length ≤ cR) (hcN : o.f4.length ≤ cN) (hA : Kd.C k24 w A x.f3.length x.f3) (hR : Kd.C (Kd.int .i64) w AR o.f1.length o.f1) (hN : Kd.C k24 w AN o.f4.length o.f4) :
    Calls Tryd.prog 11 #[.agg #[.int .i64 x.f0, .string x.f1, .int .i64 x.f2, .slice A x.f3.length c], .agg #[.int .i64 o.f0, .slice AR o.f1.length cR, .int .i64 o.f2, .int .i64 o.f3, .slice AN o.f4.length cN, .int .i64 o.f5, .string o.f6, .string o.f7]] w fun e w' => ∃ (A' : Option Addr) (c' : Nat), e = .returned (.tuple #[.agg #[.int .i64 (applyE x o).1.f0, .string (applyE x o).1.f1, .int .i64 (applyE x o).1.f2, .slice A' (applyE x o).1.f3.length c'], .int .i64 (applyE x o).2]) ∧ (applyE x o).1.f3.length ≤ c' ∧ Kd.F k24 w' (fun k => w.heap.size ≤ k) A' (applyE x o).1.f3.length (applyE x o).1.f3 ∧ Below w.heap.size w w' := by
  have HVA := fun W h => valid_any x A c W hfx hc h
  by_cases hv : validB x = true
  case neg =>
    have hR2 : applyE x o = (z24, 1) := by unfold applyE; rw [if_neg hv]
    rw [hR2]
    have hv2 : validB x = false := by simpa using hv
    rw [hv2] at HVA
    exact (apply_e1 x o A AR AN c cR cN w ⟨hA⟩ ⟨hR⟩ ⟨hN⟩ ⟨HVA⟩).mono (fun _ _ h => h.ok)
  rw [hv] at HVA
  have HFA := fun W h1 h2 => edit_Formed.calls 3 o.f0 AR cR o.f1 o.f2 o.f3 AN cN o.f4 o.f5 o.f6 o.f7 _ W h1 hcR h2 hcN (formed_f o h4)
  by_cases hf : formedB o = true
  case neg =>
    have hR2 : applyE x o = (z24, 4) := by unfold applyE; rw [if_pos hv, if_neg hf]
    rw [hR2]
    have hf2 : formedB o = false := by simpa using hf
    rw [hf2] at HFA
    exact (apply_e2 x o A AR AN c cR cN w ⟨hA⟩ ⟨hR⟩ ⟨hN⟩ ⟨HVA⟩ ⟨HFA⟩).mono (fun _ _ h => h.ok)
  rw [hf] at HFA
  have HRW := fun W h1 h2 => rowE_any x o.f1 A AR c cR W hfx hc hcR h1 h2
  by_cases hr : (rowG x o.f1).2 = true
  case neg =>
    have hR2 : applyE x o = (z24, 8) := by unfold applyE; rw [if_pos hv, if_pos hf, if_neg hr]
    rw [hR2]
    have hre : rowE x o.f1 = (z24, 8) := by unfold rowE; rw [if_pos hv, if_neg hr]
    rw [hre] at HRW
    exact (apply_e3 z24 8 (by decide) x o A AR AN c cR cN w ⟨hA⟩ ⟨hR⟩ ⟨hN⟩ ⟨HVA⟩ ⟨HFA⟩ ⟨HRW⟩).mono (fun _ _ h => h.ok)
  have hre : rowE x o.f1 = ((rowG x o.f1).1, 0) := by unfold rowE; rw [if_pos hv, if_pos hr]
  rw [hre] at HRW
  have hok := row_withOk hr
  have hvx := valid_cnt hv
  have hrc := (row_sub o.f1.length x o.f1 (Nat.le_refl _)).2
  have hrf := (row_sub o.f1.length x o.f1 (Nat.le_refl _)).1 hfx
  have hxe := cnt_eq x
  have hE : applyE x o = if o.f2 < 0 ∨ ((rowG x o.f1).1.f3.length : Int) < o.f2 ∨ ((rowG x o.f1).1.f3.length : Int) - o.f2 < needsI o then (z24, 2)
        else if (changeG o (oldL (rowG x o.f1).1.f3 o)).2 = true then
          if validB (newRow (rowG x o.f1).1 o) = true ∧ validB (withG x o.f1 (newRow (rowG x o.f1).1 o)) = true then (withG x o.f1 (newRow (rowG x o.f1).1 o), 0) else (z24, 6)
        else (z24, 7) := by unfold applyE; rw [if_pos hv, if_pos hf, if_pos hr]
  rw [hE]
  have hgW : ∀ rr, WithOk x o.f1 → withE x o.f1 rr = (if validB rr = true then (if validB (withG x o.f1 rr) = true then (withG x o.f1 rr, 0) else (z24, 6)) else (z24, 4)) := fun rr _ => by unfold withE; rw [if_pos hv, if_pos hr]
  have HWA := fun (A2 : Option Addr) (c2 : Nat) (W : World) hl h1 h2 h3 => withE_any x (newRow (rowG x o.f1).1 o) o.f1 A AR A2 c cR c2 W hfx (new_fine _ o h4 h7 hrf) hc hcR hl h1 h2 h3
  rw [hgW _ hok] at HWA
  have hchf := change_cnt o (oldL (rowG x o.f1).1.f3 o) hf
  have hol := @old_len (rowG x o.f1).1.f3 o
  have hsp := @old_split (rowG x o.f1).1.f3 o
  have hnw : newRow (rowG x o.f1).1 o = ⟨(rowG x o.f1).1.f0, (rowG x o.f1).1.f1, (rowG x o.f1).1.f2, newL (rowG x o.f1).1.f3 o⟩ := rfl
  generalize rowG x o.f1 = RG at *
  obtain ⟨r, rb⟩ := RG
  simp only at HRW hrc hrf hE HWA hchf hol hsp hnw ⊢
  have HNE := fun W h1 h2 => edit_needs.calls o.f0 AR cR o.f1 o.f2 o.f3 AN cN o.f4 o.f5 o.f6 o.f7 _ W h1 hcR h2 hcN (needs_f o)
  have hnn := needs_nonneg hf
  have hlr := cntL_len r.f3
  by_cases h39 : o.f2 < 0
  · rw [if_pos (.inl h39)]
    exact (apply_e4a r x o A AR AN c cR cN w ⟨hA⟩ ⟨hR⟩ ⟨hN⟩ ⟨HVA⟩ ⟨HFA⟩ ⟨HRW⟩ (decide_eq_true h39)).mono (fun _ _ h => h.ok)
  by_cases h44 : (r.f3.length : Int) < o.f2
  · rw [if_pos (.inr (.inl h44))]
    exact (apply_e4b r x o A AR AN c cR cN w ⟨hA⟩ ⟨hR⟩ ⟨hN⟩ ⟨HVA⟩ ⟨HFA⟩ ⟨HRW⟩ (decide_eq_false h39) (decide_eq_true h44)).mono (fun _ _ h => h.ok)
  have hw1 : wrap64 ((r.f3.length : Int) - o.f2) = (r.f3.length : Int) - o.f2 := by unfold wrap64; omega
  by_cases h53 : (r.f3.length : Int) - o.f2 < needsI o
  · rw [if_pos (.inr (.inr h53))]
    exact (apply_e4c r (needsI o) x o A AR AN c cR cN w ⟨hA⟩ ⟨hR⟩ ⟨hN⟩ ⟨HVA⟩ ⟨HFA⟩ ⟨HRW⟩ ⟨HNE⟩ (decide_eq_false h39) (decide_eq_false h44) (decide_eq_true (by rw [hw1]; exact h53))).mono (fun _ _ h => h.ok)
  rw [if_neg (by omega)]
  have hw2 : wrap64 (o.f2 + needsI o) = o.f2 + needsI o := by unfold wrap64; omega
  have hpl := path_len o.f1 x hok
  have hfc := formed_cnt hf
  have HCO := fun (P : Nat → Prop) (W : World) h1 h2 => copied_any o AR AN cR cN P W (by omega) (by omega) h1 h2
  have hol' := hol (by omega) hnn (by omega)
  have hsp' := congrArg cntL (hsp (by omega) hnn)
  rw [cntL_append, cntL_append] at hsp'
  have hco : ChangeOk o (oldL r.f3 o) := by
    have hx0 : ∀ l : List S24, 0 < l.length → cntL (nth l 0).f3 < cntL l := fun l hl => by
      have := cntL_get (nth_some hl)
      have := cnt_eq (nth l 0)
      omega
    unfold ChangeOk
    rcases kinds hf with hk | hk | hk | hk | hk
    · rw [if_pos hk]; trivial
    · rw [if_neg (by omega), if_pos hk]; trivial
    · rw [if_neg (by omega), if_neg (by omega), if_pos hk]
      obtain ⟨_, ⟨t, ht⟩, _, hs0, hs, _⟩ := wrap_parts hf (.inl hk)
      have hl4 : 0 < o.f4.length := by rw [ht]; simp
      have := hx0 o.f4 hl4
      exact ⟨hl4, hs0, hs, by omega⟩
    · rw [if_neg (by omega), if_neg (by omega), if_neg (by omega), if_pos hk]
      obtain ⟨_, ⟨t, ht⟩, _, hs0, hs, _⟩ := wrap_parts hf (.inr hk)
      have hl4 : 0 < o.f4.length := by rw [ht]; simp
      have hn1 : needsI o = 1 := by unfold needsI; rw [if_neg (by omega), if_neg (by omega), if_neg (by omega)]
      have hlo : 0 < (oldL r.f3 o).length := by omega
      have := hx0 _ hlo
      exact ⟨hl4, hs0, hlo, by omega⟩
    · rw [if_neg (by omega), if_neg (by omega), if_neg (by omega), if_neg (by omega)]
      have hn1 : needsI o = 1 := by unfold needsI; rw [if_neg (by omega), if_neg (by omega), if_neg (by omega)]
      omega
  have HCHA := fun (A2 AR2 AN2 : Option Addr) (c2 cR2 cN2 : Nat) (P : Nat → Prop) (W : World) h1 h2 h3 h4 => change_any o (oldL r.f3 o) A2 AR2 AN2 c2 cR2 cN2 P W hco h1 h2 h3 h4
  by_cases hch : (changeG o (oldL r.f3 o)).2 = true
  case neg =>
    rw [if_neg hch]
    have hch2 : (changeG o (oldL r.f3 o)).2 = false := by simpa using hch
    rw [hch2] at HCHA
    exact (apply_e5 (r.f3.take o.f2.toNat) (oldL r.f3 o) (r.f3.drop (o.f2 + needsI o).toNat) (changeG o (oldL r.f3 o)).1 (newL r.f3 o) (o.f2 + needsI o) r (needsI o) x o A AR AN c cR cN w ⟨hA⟩ ⟨hR⟩ ⟨hN⟩ ⟨HVA⟩ ⟨HFA⟩ ⟨HRW⟩ ⟨HNE⟩ (decide_eq_false h39) (decide_eq_false h44) (decide_eq_false (by rw [hw1]; exact h53)) hw2 (by omega) (by omega) (by omega) ⟨rfl⟩ ⟨HCO⟩ ⟨HCHA⟩).mono (fun _ _ h => h.ok)
  rw [if_pos hch]
  have hchc := hchf hol' hch
  rw [hch] at HCHA
  have hfl : [r.f3.take o.f2.toNat, (changeG o (oldL r.f3 o)).1, r.f3.drop (o.f2 + needsI o).toNat].flatten = newL r.f3 o := by simp [newL]
  have hnl : (newL r.f3 o).length ≤ 3000 := by
    have h9 := cntL_len (newL r.f3 o)
    unfold newL at h9 ⊢
    rw [cntL_append, cntL_append] at h9
    split at hchc <;> omega
  have HCA := fun (A2 : Option Addr) (c2 : Nat) (P : Nat → Prop) (W : World) h => concat_any [r.f3.take o.f2.toNat, (changeG o (oldL r.f3 o)).1, r.f3.drop (o.f2 + needsI o).toNat] A2 c2 P W h (by rw [hfl]; omega)
  rw [hfl] at HCA
  rw [hnw] at HWA ⊢
  simp only at HWA
  by_cases hvr : validB ⟨r.f0, r.f1, r.f2, newL r.f3 o⟩ = true
  case neg =>
    rw [if_neg (fun h => hvr h.1)]
    rw [if_neg hvr] at HWA
    exact (apply_e6 z24 4 (by decide) (r.f3.take o.f2.toNat) (oldL r.f3 o) (r.f3.drop (o.f2 + needsI o).toNat) (changeG o (oldL r.f3 o)).1 (newL r.f3 o) (o.f2 + needsI o) r (needsI o) x o A AR AN c cR cN w ⟨hA⟩ ⟨hR⟩ ⟨hN⟩ ⟨HVA⟩ ⟨HFA⟩ ⟨HRW⟩ ⟨HNE⟩ (decide_eq_false h39) (decide_eq_false h44) (decide_eq_false (by rw [hw1]; exact h53)) hw2 (by omega) (by omega) (by omega) ⟨rfl⟩ ⟨HCO⟩ ⟨HCHA⟩ ⟨rfl⟩ ⟨rfl⟩ ⟨HCA⟩ ⟨HWA⟩).mono (fun _ _ h => h.ok)
  rw [if_pos hvr] at HWA
  by_cases hva : validB (withG x o.f1 ⟨r.f0, r.f1, r.f2, newL r.f3 o⟩) = true
  case neg =>
    rw [if_neg (fun h => hva h.2)]
    rw [if_neg hva] at HWA
    exact (apply_e6 z24 6 (by decide) (r.f3.take o.f2.toNat) (oldL r.f3 o) (r.f3.drop (o.f2 + needsI o).toNat) (changeG o (oldL r.f3 o)).1 (newL r.f3 o) (o.f2 + needsI o) r (needsI o) x o A AR AN c cR cN w ⟨hA⟩ ⟨hR⟩ ⟨hN⟩ ⟨HVA⟩ ⟨HFA⟩ ⟨HRW⟩ ⟨HNE⟩ (decide_eq_false h39) (decide_eq_false h44) (decide_eq_false (by rw [hw1]; exact h53)) hw2 (by omega) (by omega) (by omega) ⟨rfl⟩ ⟨HCO⟩ ⟨HCHA⟩ ⟨rfl⟩ ⟨rfl⟩ ⟨HCA⟩ ⟨HWA⟩).mono (fun _ _ h => h.ok)
  rw [if_pos ⟨hvr, hva⟩]
  rw [if_pos hva] at HWA
  exact apply_ok (withG x o.f1 ⟨r.f0, r.f1, r.f2, newL r.f3 o⟩) (r.f3.take o.f2.toNat) (oldL r.f3 o) (r.f3.drop (o.f2 + needsI o).toNat) (changeG o (oldL r.f3 o)).1 (newL r.f3 o) (o.f2 + needsI o) r (needsI o) x o A AR AN c cR cN w ⟨hA⟩ ⟨hR⟩ ⟨hN⟩ ⟨HVA⟩ ⟨HFA⟩ ⟨HRW⟩ ⟨HNE⟩ (decide_eq_false h39) (decide_eq_false h44) (decide_eq_false (by rw [hw1]; exact h53)) hw2 (by omega) (by omega) (by omega) ⟨rfl⟩ ⟨HCO⟩ ⟨HCHA⟩ ⟨rfl⟩ ⟨rfl⟩ ⟨HCA⟩ ⟨HWA⟩
/-- What edit.Apply needs of the size of texts. -/
def fineO (o : S27) : Bool := fineL o.f4 && (decide (o.f6.data.toList.length ≤ 9223372036854775807) && decide (o.f7.data.toList.length ≤ 9223372036854775807))
def edit_Apply.f (a0_0 : Int) (a0_1 : ByteArray) (a0_2 : Int) (l0_3 : List S24) (a1_0 : Int) (l1_1 : List Int) (a1_2 : Int) (a1_3 : Int) (l1_4 : List S24) (a1_5 : Int) (a1_6 : ByteArray) (a1_7 : ByteArray) : Option (Int × ByteArray × Int × List S24 × Int) :=
  if fine ⟨a0_0, a0_1, a0_2, l0_3⟩ = true ∧ fineO ⟨a1_0, l1_1, a1_2, a1_3, l1_4, a1_5, a1_6, a1_7⟩ = true then some ((applyE ⟨a0_0, a0_1, a0_2, l0_3⟩ ⟨a1_0, l1_1, a1_2, a1_3, l1_4, a1_5, a1_6, a1_7⟩).1.f0, (applyE ⟨a0_0, a0_1, a0_2, l0_3⟩ ⟨a1_0, l1_1, a1_2, a1_3, l1_4, a1_5, a1_6, a1_7⟩).1.f1, (applyE ⟨a0_0, a0_1, a0_2, l0_3⟩ ⟨a1_0, l1_1, a1_2, a1_3, l1_4, a1_5, a1_6, a1_7⟩).1.f2, (applyE ⟨a0_0, a0_1, a0_2, l0_3⟩ ⟨a1_0, l1_1, a1_2, a1_3, l1_4, a1_5, a1_6, a1_7⟩).1.f3, (applyE ⟨a0_0, a0_1, a0_2, l0_3⟩ ⟨a1_0, l1_1, a1_2, a1_3, l1_4, a1_5, a1_6, a1_7⟩).2) else none
theorem edit_Apply.calls (a0_0 : Int) (a0_1 : ByteArray) (a0_2 : Int) (A0_3 : Option Addr) (c0_3 : Nat) (l0_3 : List S24) (a1_0 : Int) (A1_1 : Option Addr) (c1_1 : Nat) (l1_1 : List Int) (a1_2 : Int) (a1_3 : Int) (A1_4 : Option Addr) (c1_4 : Nat) (l1_4 : List S24) (a1_5 : Int) (a1_6 : ByteArray) (a1_7 : ByteArray) (r1 : Int) (r2 : ByteArray) (r3 : Int) (r4 : List S24) (r5 : Int) (w : World) (hr0_3 : Kd.C k24 w A0_3 l0_3.length l0_3) (hc0_3 : l0_3.length ≤ c0_3) (hr1_1 : Kd.C (Kd.int .i64) w A1_1 l1_1.length l1_1) (hc1_1 : l1_1.length ≤ c1_1) (hr1_4 : Kd.C k24 w A1_4 l1_4.length l1_4) (hc1_4 : l1_4.length ≤ c1_4) (h : edit_Apply.f a0_0 a0_1 a0_2 l0_3 a1_0 l1_1 a1_2 a1_3 l1_4 a1_5 a1_6 a1_7 = some (r1, r2, r3, r4, r5)) :
    Calls Tryd.prog 11 #[.agg #[.int .i64 a0_0, .string a0_1, .int .i64 a0_2, .slice A0_3 l0_3.length c0_3], .agg #[.int .i64 a1_0, .slice A1_1 l1_1.length c1_1, .int .i64 a1_2, .int .i64 a1_3, .slice A1_4 l1_4.length c1_4, .int .i64 a1_5, .string a1_6, .string a1_7]] w fun e w' => ∃ v3_ : Value, e = .returned (.tuple #[.agg #[.int .i64 r1, .string r2, .int .i64 r3, v3_], .int .i64 r5]) ∧ Kd.V k24 24 w' w.heap.size (fun k_ => w.heap.size ≤ k_) v3_ r4 ∧ Below w.heap.size w w' := by
  unfold edit_Apply.f at h
  split at h
  · rename_i hh
    have ho := hh.2
    unfold fineO at ho
    simp only [Bool.and_eq_true, decide_eq_true_eq] at ho
    simp only [Option.some.injEq, Prod.mk.injEq] at h
    obtain ⟨rfl, rfl, rfl, rfl, rfl⟩ := h
    refine (apply_any ⟨a0_0, a0_1, a0_2, l0_3⟩ ⟨a1_0, l1_1, a1_2, a1_3, l1_4, a1_5, a1_6, a1_7⟩ A0_3 A1_1 A1_4 c0_3 c1_1 c1_4 w hh.1 ho.1 ho.2.2 hc0_3 hc1_1 hc1_4 hr0_3 hr1_1 hr1_4).mono ?_
    rintro e w' ⟨A', c', rfl, hl, hF, hb⟩
    exact ⟨_, rfl, ⟨A', c', rfl, hl, hF⟩, hb⟩
  · cases h
end Go.Proofs.YtgcpfelccfnnbaaDoor.X
namespace Go.Proofs.YtgcpfelccfnnbaaDoor
namespace X
open Go.RowKit Go.Proofs.YtgcpfelccfnnbaaDoorW.PrintWords Go.Proofs.YtgcpfelccfnnbaaDoorW.PrintLast Go.Proofs.YtgcpfelccfnnbaaDoorW.PrintMore
set_option linter.unusedVariables false
set_option linter.unusedSimpArgs false
open Go.ChangeShapes Go.WideShapes Go.Deep
section
variable {H : Type} {enc : TypeId × Value → H} {W : World} {sp : Nat → Bool}
theorem open_rows {α : Type} (k : Kd α) (ok : α → Prop) {t e fuel : Nat} {c : Value} {x : DataW H × List MemPlace} (ht : Tryd.prog.underlying t = some (.slice e)) (hsz : Tryd.prog.cellsOf e = k.sz)
    (hel : ∀ (n : Nat) (cs : List Value) (x : DataW H × List MemPlace), n < fuel → DataW.trod enc Tryd.prog W 0 sp true n e cs = some x → ∃ y, k.K W y cs ∧ ok y)
    (h : DataW.trod enc Tryd.prog W 0 sp true fuel t [c] = some x) : ∃ (A : Option Addr) (ys : List α) (cap : Nat), c = .slice A ys.length cap ∧ ys.length ≤ cap ∧ k.C W A ys.length ys ∧ ∀ y, y ∈ ys → ok y := by
  rcases DataW.trod_slice ht h with ⟨hc, _⟩ | ⟨a, len, cap, elems, rest, n, hfu, hc, _, _, hl, hm, hlen, hel2, _, _⟩
  · injection hc with hc _
    subst hc
    exact ⟨none, [], 0, rfl, Nat.le_refl _, Kd.C_nil _ _, fun y hy => by simp at hy⟩
  · injection hc with hc _
    subst hc
    have hq : ∀ i : Fin len, ∃ y : α, (∃ cs' : List Value, cs'.length = k.sz ∧ k.K W y cs' ∧ ∀ j u, cs'[j]? = some u → W.cell? (a.add (i.val * k.sz + j)) = some u) ∧ ok y := by
      intro i
      have h1 := hel2 i.val i.isLt
      rw [List.getElem?_eq_getElem (by omega)] at h1
      obtain ⟨cs', h2, h3⟩ := Option.bind_eq_some_iff.1 h1
      obtain ⟨y, hK, hy⟩ := hel n cs' _ (by omega) h3
      rw [hsz] at h2
      obtain ⟨_, h4, h5⟩ := World.cells?_some h2
      refine ⟨y, ⟨cs', h4, hK, fun j u hu => ?_⟩, hy⟩
      have hj : j < k.sz := by rw [← h4]; exact (List.getElem?_eq_some_iff.1 hu).1
      have h6 := h5 j hj
      rw [Go.Deep.add_add] at h6
      rw [h6, hu]
    let f : Fin len → α := fun i => Classical.choose (hq i)
    have hf : ∀ i : Fin len, (∃ cs' : List Value, cs'.length = k.sz ∧ k.K W (f i) cs' ∧ ∀ j u, cs'[j]? = some u → W.cell? (a.add (i.val * k.sz + j)) = some u) ∧ ok (f i) := fun i => Classical.choose_spec (hq i)
    have hlf : (List.ofFn f).length = len := List.length_ofFn
    have hmx : len ≤ 9223372036854775807 := Nat.le_trans hl (Nat.le_trans hm (by decide))
    refine ⟨some a, List.ofFn f, cap, by rw [hlf], by rw [hlf]; exact hl, ⟨rfl, by rw [hlf]; exact hmx, fun _ => ⟨a, rfl, fun j p hj => ?_⟩⟩, fun y hy => ?_⟩
    · rw [List.getElem?_ofFn] at hj
      split at hj
      · rename_i hjl
        injection hj with hj
        subst hj
        obtain ⟨⟨cs', h1, h2, h3⟩, _⟩ := hf ⟨j, hjl⟩
        exact ⟨cs', h1, h2, h3⟩
      · cases hj
    · obtain ⟨i, hi⟩ := List.mem_ofFn.1 hy
      rw [← hi]
      exact (hf i).2
theorem one_cell {fs : Array Field} (hone : oneCellFields Tryd.prog fs = true) {j : Nat} {f : Field} (hj : fs[j]? = some f) {n : Nat} {cs : List Value} {c : Value} {y : Option (DataW H × List MemPlace)} (hc : cs[j]? = some c)
    (h : DataW.trod enc Tryd.prog W 0 sp true n f.type ((cs.drop f.offset).take (Tryd.prog.cellsOf f.type)) = y) : DataW.trod enc Tryd.prog W 0 sp true n f.type [c] = y := by
  obtain ⟨h1, h2⟩ := hone_of hone j f hj
  obtain ⟨hl, hg⟩ := List.getElem?_eq_some_iff.1 hc
  rw [h1, h2] at h
  have h3 : (cs.drop j).take 1 = [c] := by
    rw [List.drop_eq_getElem_cons hl, hg]
    rfl
  rw [h3] at h
  exact h
theorem four {cs : List Value} (h : cs.length = 4) : ∃ a b c d, cs = [a, b, c, d] := by
  match cs, h with
  | [a, b, c, d], _ => exact ⟨a, b, c, d, rfl⟩
theorem eight {cs : List Value} (h : cs.length = 8) : ∃ a b c d e f g i, cs = [a, b, c, d, e, f, g, i] := by
  match cs, h with
  | [a, b, c, d, e, f, g, i], _ => exact ⟨a, b, c, d, e, f, g, i, rfl⟩
theorem some_at {β : Type} {xs : List β} {n i : Nat} (h : xs.length = n) (hi : i < n) : ∃ y, xs[i]? = some y := ⟨_, List.getElem?_eq_getElem (by omega)⟩
theorem fineL_all {l : List S24} (h : ∀ y, y ∈ l → fine y = true) : fineL l = true := by
  induction l with
  | nil => rfl
  | cons x l ih => rw [fineL, h x (by simp), ih (fun y hy => h y (by simp [hy]))]; rfl
set_option maxRecDepth 100000 in
theorem open_node (fuel : Nat) : ∀ (cs : List Value) (x : DataW H × List MemPlace), DataW.trod enc Tryd.prog W 0 sp true fuel 24 cs = some x → ∃ y : S24, k24.K W y cs ∧ fine y = true := by
  induction fuel using Nat.strongRecOn with
  | ind fuel ih =>
    intro cs x h
    obtain ⟨xs, n, hn, _, hlen, hxl, hf⟩ := DataW.trod_struct Tryd.underlying24 h
    subst hn
    obtain ⟨c0, c1, c2, c3, rfl⟩ := four (hlen.trans (by kernel_rfl))
    have hone : oneCellFields Tryd.prog _ = true := (by kernel_rfl : oneCellFields Tryd.prog (match Tryd.prog.underlying 24 with | some (.struct fs) => fs | _ => #[]) = true)
    have e0 := one_cell (c := c0) hone (j := 0) rfl rfl (hf 0 _ rfl)
    have e1 := one_cell (c := c1) hone (j := 1) rfl rfl (hf 1 _ rfl)
    have e2 := one_cell (c := c2) hone (j := 2) rfl rfl (hf 2 _ rfl)
    have e3 := one_cell (c := c3) hone (j := 3) rfl rfl (hf 3 _ rfl)
    obtain ⟨y0, hy0⟩ := some_at hxl (i := 0) (by decide)
    obtain ⟨y1, hy1⟩ := some_at hxl (i := 1) (by decide)
    obtain ⟨y2, hy2⟩ := some_at hxl (i := 2) (by decide)
    obtain ⟨y3, hy3⟩ := some_at hxl (i := 3) (by decide)
    rw [hy0] at e0; rw [hy1] at e1; rw [hy2] at e2; rw [hy3] at e3
    obtain ⟨f0, h0, _, _⟩ := DataW.trod_int Tryd.underlying3 e0
    obtain ⟨f1, h1, _, hs1⟩ := DataW.trod_string Tryd.underlying9 e1
    obtain ⟨f2, h2, _, _⟩ := DataW.trod_int Tryd.underlying3 e2
    obtain ⟨A3, ys, c, rfl, hl, hC, hys⟩ := open_rows k24 (fun y => fine y = true) Tryd.underlying22 (by kernel_rfl) (fun m cs x hm => ih m (by omega) cs x) e3
    injection h0 with h0 _; injection h1 with h1 _; injection h2 with h2 _
    subst h0; subst h1; subst h2
    refine ⟨⟨f0, f1, f2, ys⟩, k24_mk W ⟨f0, f1, f2, ys⟩ hl hC, ?_⟩
    rw [fine_eq, fineL_all hys, Bool.and_true]
    refine decide_eq_true ?_
    have : f1.size = f1.data.toList.length := ba_size f1
    simp only
    rw [← this]
    exact Nat.le_trans hs1 (by decide)
set_option maxRecDepth 100000 in
theorem open_op (fuel : Nat) (cs : List Value) (x : DataW H × List MemPlace) (h : DataW.trod enc Tryd.prog W 0 sp true fuel 27 cs = some x) : ∃ y : S27, k27.K W y cs ∧ fineO y = true := by
  obtain ⟨xs, n, hn, _, hlen, hxl, hf⟩ := DataW.trod_struct Tryd.underlying27 h
  subst hn
  obtain ⟨c0, c1, c2, c3, c4, c5, c6, c7, rfl⟩ := eight (hlen.trans (by kernel_rfl))
  have hone : oneCellFields Tryd.prog _ = true := (by kernel_rfl : oneCellFields Tryd.prog (match Tryd.prog.underlying 27 with | some (.struct fs) => fs | _ => #[]) = true)
  have e0 := one_cell (c := c0) hone (j := 0) rfl rfl (hf 0 _ rfl)
  have e1 := one_cell (c := c1) hone (j := 1) rfl rfl (hf 1 _ rfl)
  have e2 := one_cell (c := c2) hone (j := 2) rfl rfl (hf 2 _ rfl)
  have e3 := one_cell (c := c3) hone (j := 3) rfl rfl (hf 3 _ rfl)
  have e4 := one_cell (c := c4) hone (j := 4) rfl rfl (hf 4 _ rfl)
  have e5 := one_cell (c := c5) hone (j := 5) rfl rfl (hf 5 _ rfl)
  have e6 := one_cell (c := c6) hone (j := 6) rfl rfl (hf 6 _ rfl)
  have e7 := one_cell (c := c7) hone (j := 7) rfl rfl (hf 7 _ rfl)
  obtain ⟨y0, hy0⟩ := some_at hxl (i := 0) (by decide)
  obtain ⟨y1, hy1⟩ := some_at hxl (i := 1) (by decide)
  obtain ⟨y2, hy2⟩ := some_at hxl (i := 2) (by decide)
  obtain ⟨y3, hy3⟩ := some_at hxl (i := 3) (by decide)
  obtain ⟨y4, hy4⟩ := some_at hxl (i := 4) (by decide)
  obtain ⟨y5, hy5⟩ := some_at hxl (i := 5) (by decide)
  obtain ⟨y6, hy6⟩ := some_at hxl (i := 6) (by decide)
  obtain ⟨y7, hy7⟩ := some_at hxl (i := 7) (by decide)
  rw [hy0] at e0; rw [hy1] at e1; rw [hy2] at e2; rw [hy3] at e3; rw [hy4] at e4; rw [hy5] at e5; rw [hy6] at e6; rw [hy7] at e7
  obtain ⟨f0, h0, _, _⟩ := DataW.trod_int Tryd.underlying3 e0
  obtain ⟨f2, h2, _, _⟩ := DataW.trod_int Tryd.underlying3 e2
  obtain ⟨f3, h3, _, _⟩ := DataW.trod_int Tryd.underlying3 e3
  obtain ⟨f5, h5, _, _⟩ := DataW.trod_int Tryd.underlying3 e5
  obtain ⟨f6, h6, _, hs6⟩ := DataW.trod_string Tryd.underlying9 e6
  obtain ⟨f7, h7, _, hs7⟩ := DataW.trod_string Tryd.underlying9 e7
  obtain ⟨A1, l1, d1, rfl, hl1, hC1, _⟩ := open_rows (Kd.int .i64) (fun _ => True) Tryd.underlying25 (by kernel_rfl) (fun m cs x _ hx => by
    obtain ⟨z, hz, _, _⟩ := DataW.trod_int Tryd.underlying3 hx
    subst hz
    exact ⟨z, rfl, trivial⟩) e1
  obtain ⟨A4, l4, d4, rfl, hl4, hC4, hfy⟩ := open_rows k24 (fun y => fine y = true) Tryd.underlying22 (by kernel_rfl) (fun m cs x _ => open_node m cs x) e4
  injection h0 with h0 _; injection h2 with h2 _; injection h3 with h3 _; injection h5 with h5 _; injection h6 with h6 _; injection h7 with h7 _
  subst h0; subst h2; subst h3; subst h5; subst h6; subst h7
  refine ⟨⟨f0, l1, f2, f3, l4, f5, f6, f7⟩, k27_mk W ⟨f0, l1, f2, f3, l4, f5, f6, f7⟩ hl1 hC1 hl4 hC4, ?_⟩
  unfold fineO
  have z6 : f6.size = f6.data.toList.length := ba_size f6
  have z7 : f7.size = f7.data.toList.length := ba_size f7
  simp only
  rw [fineL_all hfy, ← z6, ← z7, decide_eq_true (Nat.le_trans hs6 (by decide)), decide_eq_true (Nat.le_trans hs7 (by decide))]
  rfl
set_option maxRecDepth 100000 in
/-- A tree that came in as an argument. -/
theorem arg_node {r : Reach} {b0 : Nat} {v : Value} {d : DataW H} {p : List MemPlace} (hv : Value.okWide Tryd.prog W r b0 24 v) (h : DataW.Trod enc Tryd.prog W 0 sp true 24 v d p) :
    ∃ (x : S24) (A : Option Addr) (c : Nat), v = .agg #[.int .i64 x.f0, .string x.f1, .int .i64 x.f2, .slice A x.f3.length c] ∧ x.f3.length ≤ c ∧ k24.C W A x.f3.length x.f3 ∧ fine x = true := by
  obtain ⟨cs, rfl, _⟩ := okWide_struct Tryd.underlying24 hv
  obtain ⟨fuel, hf⟩ := h
  obtain ⟨y, hK, hy⟩ := open_node fuel _ _ hf
  obtain ⟨A, c, he, hl, hC⟩ := k24_open hK
  obtain ⟨l⟩ := cs
  have he2 : l = [.int .i64 y.f0, .string y.f1, .int .i64 y.f2, .slice A y.f3.length c] := he
  subst he2
  exact ⟨y, A, c, rfl, hl, hC, hy⟩
set_option maxRecDepth 100000 in
theorem arg_op {r : Reach} {b0 : Nat} {v : Value} {d : DataW H} {p : List MemPlace} (hv : Value.okWide Tryd.prog W r b0 27 v) (h : DataW.Trod enc Tryd.prog W 0 sp true 27 v d p) :
    ∃ (o : S27) (A1 A4 : Option Addr) (c1 c4 : Nat), v = .agg #[.int .i64 o.f0, .slice A1 o.f1.length c1, .int .i64 o.f2, .int .i64 o.f3, .slice A4 o.f4.length c4, .int .i64 o.f5, .string o.f6, .string o.f7] ∧ o.f1.length ≤ c1 ∧ (Kd.int .i64).C W A1 o.f1.length o.f1 ∧ o.f4.length ≤ c4 ∧ k24.C W A4 o.f4.length o.f4 ∧ fineO o = true := by
  obtain ⟨cs, rfl, _⟩ := okWide_struct Tryd.underlying27 hv
  obtain ⟨fuel, hf⟩ := h
  obtain ⟨y, hK, hy⟩ := open_op fuel _ _ hf
  obtain ⟨A1, c1, A4, c4, he, hl1, hC1, hl4, hC4⟩ := k27_open hK
  obtain ⟨l⟩ := cs
  have he2 : l = [.int .i64 y.f0, .slice A1 y.f1.length c1, .int .i64 y.f2, .int .i64 y.f3, .slice A4 y.f4.length c4, .int .i64 y.f5, .string y.f6, .string y.f7] := he
  subst he2
  exact ⟨y, A1, A4, c1, c4, rfl, hl1, hC1, hl4, hC4, hy⟩
end
end X
end Go.Proofs.YtgcpfelccfnnbaaDoor
namespace Go.Proofs.YtgcpfelccfnnbaaDoor
namespace X
open Go.RowKit Go.Proofs.YtgcpfelccfnnbaaDoorW.PrintWords Go.Proofs.YtgcpfelccfnnbaaDoorW.PrintLast Go.Proofs.YtgcpfelccfnnbaaDoorW.PrintMore
set_option linter.unusedVariables false
set_option linter.unusedSimpArgs false
open Go.ChangeShapes Go.WideShapes Go.ChangeAt
theorem own : ownKnob Tryd.prog.godebug = none := by kernel_rfl
theorem laidOut : laidOutB Tryd.prog = true := by kernel_rfl
def LAID : List (String × DataW Unit) := [("unicode/utf8.acceptRanges", Rows.laid_unicode_utf8_acceptRanges), ("unicode/utf8.first", Rows.laid_unicode_utf8_first)]
theorem laid_world (os : Os) (args : Array Value) : laidMetH Tryd.prog LAID ((World.laidAll Tryd.prog os LAID).forCall (fun _ _ => 0) ⟨#[], args, []⟩).memory := by
  rw [MakeChecks.laidMetH_plain _ _ _ (by kernel_rfl)]
  exact laidMet_laidAll _ (by kernel_rfl) (by kernel_rfl)
theorem readable_node : Tryd.prog.readableRec 24 = true := by kernel_rfl
theorem readable_op : Tryd.prog.readableRec 27 = true := by kernel_rfl
theorem node_lt : 24 < Tryd.prog.types.size := of_decide_eq_true (by kernel_rfl)
theorem op_lt : 27 < Tryd.prog.types.size := of_decide_eq_true (by kernel_rfl)
end X
end Go.Proofs.YtgcpfelccfnnbaaDoor
namespace Go.Proofs.YtgcpfelccfnnbaaDoor.X
open Go.RowKit Go.Proofs.YtgcpfelccfnnbaaDoorW.PrintWords Go.Proofs.YtgcpfelccfnnbaaDoorW.PrintLast Go.Proofs.YtgcpfelccfnnbaaDoorW.PrintMore
attribute [local go_sem] max2_int min2_int max_two min_two max_three min_three max_four min_four   -- for this text's walks alone
set_option linter.unusedVariables false
set_option linter.unusedSimpArgs false
mutual
def vinculumref09_left.l0 : Nat → Int → Int → Int → ByteArray → Int → List (S24) → Option (Int)
  | 0, _, _, _, _, _, _ => none
  | k + 1, x1, x5, x167000, x167001, x167002, x167003 => if x5 < (x167003.length : Int) then (if x1 ≥ 0 then (if 0 ≤ x5 then ((vinculumref09_left.f k ((rd_T24 x167003 x5).f0) ((rd_T24 x167003 x5).f1) ((rd_T24 x167003 x5).f2) ((rd_T24 x167003 x5).f3) x1).bind fun t168 => (vinculumref09_left.l0 k t168 (wrap64 (x5 + 1)) x167000 x167001 x167002 x167003)) else (none)) else (some x1)) else (some x1)
def vinculumref09_left.f : Nat → Int → ByteArray → Int → List (S24) → Int → Option (Int)
  | 0, _, _, _, _, _ => none
  | k + 1, a0_0, a0_1, a0_2, l0_3, a1 => vinculumref09_left.l0 k (wrap64 (a1 - 1)) 0 a0_0 a0_1 a0_2 l0_3
end
theorem vinculumref09_left.mono_l : ∀ k, (∀ y0 y1 y2 y3 y4, LeO (vinculumref09_left.f k y0 y1 y2 y3 y4) (vinculumref09_left.f (k + 1) y0 y1 y2 y3 y4)) ∧ (∀ y0 y1 y2 y3 y4 y5, LeO (vinculumref09_left.l0 k y0 y1 y2 y3 y4 y5) (vinculumref09_left.l0 (k + 1) y0 y1 y2 y3 y4 y5))
  | 0 => ⟨fun _ _ _ _ _ r h => by simp [vinculumref09_left.f] at h, fun _ _ _ _ _ _ r h => by simp [vinculumref09_left.l0] at h⟩
  | k + 1 => by
    obtain ⟨ih0, ih1⟩ := vinculumref09_left.mono_l k
    refine ⟨?_, ?_⟩
    · intro y0 y1 y2 y3 y4
      unfold vinculumref09_left.f
      repeat' first
      | (with_reducible exact ih0 _ _ _ _ _)
      | (with_reducible exact ih1 _ _ _ _ _ _)
      | (with_reducible exact LeO.refl _)
      | (with_reducible exact LeO.none _)
      | (with_reducible refine LeO.ite ?_ ?_)
      | (with_reducible refine LeO.bind ?_ (fun _ => ?_))
      | exact ih0 _ _ _ _ _
      | exact ih1 _ _ _ _ _ _
      | exact LeO.none _
      | refine LeO.ite ?_ ?_
      | refine LeO.bind ?_ (fun _ => ?_)
    · intro y0 y1 y2 y3 y4 y5
      unfold vinculumref09_left.l0
      repeat' first
      | (with_reducible exact ih0 _ _ _ _ _)
      | (with_reducible exact ih1 _ _ _ _ _ _)
      | (with_reducible exact LeO.refl _)
      | (with_reducible exact LeO.none _)
      | (with_reducible refine LeO.ite ?_ ?_)
      | (with_reducible refine LeO.bind ?_ (fun _ => ?_))
      | exact ih0 _ _ _ _ _
      | exact ih1 _ _ _ _ _ _
      | exact LeO.none _
      | refine LeO.ite ?_ ?_
      | refine LeO.bind ?_ (fun _ => ?_)
theorem vinculumref09_left.mono : ∀ a0 a1 a2 a3 a4 k, LeO (vinculumref09_left.f k a0 a1 a2 a3 a4) (vinculumref09_left.f (k + 1) a0 a1 a2 a3 a4) := by
  intro a0 a1 a2 a3 a4 k
  obtain ⟨ih0, ih1⟩ := vinculumref09_left.mono_l k
  exact ih0 a0 a1 a2 a3 a4
set_option maxHeartbeats 8000000 in
set_option maxRecDepth 100000 in
theorem vinculumref09_left.calls (k : Nat) : ∀ (a0_0 : Int) (a0_1 : ByteArray) (a0_2 : Int) (A0_3 : Option Addr) (c0_3 : Nat) (l0_3 : List (S24)) (a1 : Int) (r : Int) (w : World) (hr0_3 : Kd.C k24 w A0_3 l0_3.length l0_3) (hc0_3 : l0_3.length ≤ c0_3) (h : vinculumref09_left.f k a0_0 a0_1 a0_2 l0_3 a1 = some r),
    Calls Tryd.prog 41 #[.agg #[.int .i64 a0_0, .string a0_1, .int .i64 a0_2, .slice A0_3 l0_3.length c0_3], .int .i64 a1] w fun e w' => e = .returned (.int .i64 r) ∧ Below w.heap.size w w' := by
  induction k using Nat.strongRecOn with
  | _ k ih =>
  intro a0_0 a0_1 a0_2 A0_3 c0_3 l0_3 a1 r w hr0_3 hc0_3 h
  cases k with
  | zero => exact absurd h (by simp [vinculumref09_left.f])
  | succ k =>
  simp only [vinculumref09_left.f] at h
  have hu24 := Tryd.underlying24
  have HR0_3 := Aside0.mk hr0_3
  have HC0_3 := Aside0.mk hc0_3
  clear hr0_3 hc0_3
  have HB := Aside0.mk (Below.refl w.heap.size w)
  have H : (vinculumref09_left.l0 k (wrap64 (a1 - 1)) 0 a0_0 a0_1 a0_2 l0_3) = some r := h
  clear h
  have H' := Aside0.mk H
  clear H
  go_enter Tryd.func41, Tryd.ntmps41
  go_wp2_with (first | ((with_reducible refine gate_dst (N := 2) rfl ?_); refine box_event ?hg (N := 2) ?hd (cs := #[.int .i64 a0_0, .string a0_1, .int .i64 a0_2, .slice A0_3 l0_3.length c0_3]) (t := 24) ?hr ?_; (case hd => rfl); (case hg => rfl); (case hr => first | (go_simp; done) | (go_simp; rfl)); intro gb166 hg w3 hbox hb; have n0_ := Aside0.mk (below_step (by repeat (first | (with_reducible first | exact HB.out | apply below_alloc | apply pw_below_drewN | apply below_drew1) | exact HB.out)) hb); have n1_ := Aside0.mk (hbox); have n2_ := Aside0.mk ((by rw [hg]; exact (below_size (by repeat (first | (with_reducible first | exact HB.out | apply below_alloc | apply pw_below_drewN | apply below_drew1) | exact HB.out))) : w.heap.size ≤ gb166)); have n3_ := Aside0.mk ((by rw [hg]; exact (below_size (by repeat (first | (with_reducible first | exact HB.out | apply below_alloc | apply pw_below_drewN | apply below_drew1) | exact HB.out))) : w.heap.size ≤ gb166)); clear HB; have HB := n0_; have BK166 := n1_; have GW166 := n2_; have GE166 := n3_; clear n0_ n1_ n2_ n3_; clear hb hbox hg))
  go_loopg [1, 5] k (fun kq v1 v5 w' => ∃ (x1_1 : Int) (x5_1 : Int), v1 = .int .i64 x1_1 ∧ v5 = .int .i64 x5_1 ∧ Aside0 (vinculumref09_left.l0 kq x1_1 x5_1 a0_0 a0_1 a0_2 l0_3 = some r) ∧ Aside0 (kq ≤ k) ∧ Aside0 (w'.heap[gb166]? = some (.cells #[.int .i64 a0_0, .string a0_1, .int .i64 a0_2, (.slice A0_3 l0_3.length c0_3)] 24 (0, 0))) ∧ Aside0 (Below w.heap.size w w'))
  case atStart => exact ⟨(wrap64 (a1 - 1)), (0), (by first | rfl | (simp; done) | (simp [*]; done)), (by first | rfl | (simp; done) | (simp [*]; done)), H', ⟨Nat.le_refl _⟩, ⟨by (with_reducible repeat (first | refine blk_drewN ?_ _ | refine blk_drew ?_ | refine blk_alloc ?_ _)); exact BK166.out⟩, ⟨by repeat (first | (with_reducible first | exact HB.out | apply below_alloc | apply pw_below_drewN | apply below_drew1 | refine below_set ?_ GE166.out) | exact HB.out)⟩⟩
  case round =>
    clear H'
    try clear p2
    obtain ⟨x1_1, x5_1, rfl, rfl, HA, HK1, BK166, HB⟩ := hrel
    cases gk with
    | zero => exact absurd HA.out (by simp [vinculumref09_left.l0])
    | succ k1 =>
      have H := HA.out
      clear HA
      simp only [vinculumref09_left.l0] at H
      by_cases c4 : x5_1 < (l0_3.length : Int)
      · rw [if_pos c4] at H
        have c4b0 : decide (x5_1 < (l0_3.length : Int)) = true := decide_eq_true c4
        clear c4
        by_cases c5 : x1_1 ≥ 0
        · rw [if_pos c5] at H
          have c5b0 : decide (0 ≤ x1_1) = true := decide_eq_true c5
          clear c5
          by_cases c6 : 0 ≤ x5_1
          · rw [if_pos c6] at H
            have c6b0 : decide (0 ≤ x5_1) = true := decide_eq_true c6
            clear c6
            replace H := Option.bind_eq_some_iff.mp H
            obtain ⟨t168, A70, H⟩ := H
            replace H : (vinculumref09_left.l0 k1 t168 (wrap64 (x5_1 + 1)) a0_0 a0_1 a0_2 l0_3) = some r := H
            have A7 := Aside0.mk A70
            clear A70
            have H' := Aside0.mk H
            clear H
            have hcz8_0 : wr.cell? ⟨gb166, 0, none⟩ = some (.int .i64 a0_0) := (blk_cell BK166.out 0).trans rfl
            have hcz8_1 : wr.cell? ⟨gb166, 1, none⟩ = some (.string a0_1) := (blk_cell BK166.out 1).trans rfl
            have hcz8_2 : wr.cell? ⟨gb166, 2, none⟩ = some (.int .i64 a0_2) := (blk_cell BK166.out 2).trans rfl
            have hcz8_3 : wr.cell? ⟨gb166, 3, none⟩ = some (.slice A0_3 l0_3.length c0_3) := (blk_cell BK166.out 3).trans rfl
            have hfz8_0 := blk_frozen BK166.out 0
            have hfz8_1 := blk_frozen BK166.out 1
            have hfz8_2 := blk_frozen BK166.out 2
            have hfz8_3 := blk_frozen BK166.out 3
            have p167 : 0 ≤ (x5_1 : Int) := of_decide_eq_true (by first | (with_reducible assumption) | assumption)
            have q167 : x5_1 < (l0_3.length : Int) := of_decide_eq_true (by first | (with_reducible assumption) | assumption)
            obtain ⟨ad167, A167_3, c167_3, e167, hx167_0, hx167_1, hx167_2, hx167_3, hl167_3, hi167_3⟩ := at_T24 HR0_3.out x5_1 p167 q167
            cases e167
            replace hx167_0 := (HB.out.cell (World.block_lt_of_cell? w _ hx167_0)).trans hx167_0
            replace hx167_1 := (HB.out.cell (World.block_lt_of_cell? w _ hx167_1)).trans hx167_1
            replace hx167_2 := (HB.out.cell (World.block_lt_of_cell? w _ hx167_2)).trans hx167_2
            replace hx167_3 := (HB.out.cell (World.block_lt_of_cell? w _ hx167_3)).trans hx167_3
            have HR167_3 := Aside0.mk hi167_3
            have HC167_3 := Aside0.mk hl167_3
            clear hi167_3 hl167_3
            replace p167 := eq_true p167
            replace q167 := eq_true q167
            go_wp2_with (first | ((with_reducible refine gate_callee (f := 41) rfl ?_); refine goesL_ (some 25) rfl rfl Tryd.func41 (by kernel_rfl) rfl #[.agg #[.int .i64 ((rd_T24 l0_3 x5_1).f0), .string ((rd_T24 l0_3 x5_1).f1), .int .i64 ((rd_T24 l0_3 x5_1).f2), .slice A167_3 ((rd_T24 l0_3 x5_1).f3).length c167_3], .int .i64 x1_1] rfl (by (try simp only [List.map_toArray, List.map_cons, List.map_nil]); first | done | rfl | (simp only [List.length_drop, List.length_take]; rfl)) ?_; (with_reducible refine (ih k1 (by have := HK1.out; omega) ((rd_T24 l0_3 x5_1).f0) ((rd_T24 l0_3 x5_1).f1) ((rd_T24 l0_3 x5_1).f2) _ _ ((rd_T24 l0_3 x5_1).f3) x1_1 t168 _ ?side1 ?side2 A7.out).mono ?_); (case side1 => repeat (first | exact (Kd.C_below HR167_3.out HB.out) | (with_reducible refine Kd.C_alloc ?_ _) | (with_reducible refine Kd.C_drewN ?_ _) | (with_reducible refine Kd.C_drew ?_))); (case side2 => exact HC167_3.out); rintro e w9 ⟨rfl, hb⟩; refine ⟨_, rfl, ?_⟩; have n0_ := Aside0.mk (blk_below (g := gb166) (o := .cells #[.int .i64 a0_0, .string a0_1, .int .i64 a0_2, .slice (some ad167) l0_3.length c0_3] 24 (0, 0)) (by (with_reducible repeat (first | refine blk_drewN ?_ _ | refine blk_drew ?_ | refine blk_alloc ?_ _)); exact BK166.out) hb); have n1_ := Aside0.mk (below_step (by repeat (first | (with_reducible first | exact HB.out | apply below_alloc | apply pw_below_drewN | apply below_drew1 | refine below_set ?_ GE166.out) | exact HB.out)) hb); clear BK166; clear HB; have BK166 := n0_; have HB := n1_; clear n0_ n1_; (try clear hb); (try clear hb2); (try clear hk); (try clear hi)))
            go_roundg k1
            case measure => have := HK1.out; omega
            case rel => exact ⟨(t168), (wrap64 (x5_1 + 1)), (by first | rfl | (simp; done) | (simp [*]; done)), (by first | rfl | (simp; done) | (simp [*]; done)), H', ⟨by have := HK1.out; omega⟩, ⟨by (with_reducible repeat (first | refine blk_drewN ?_ _ | refine blk_drew ?_ | refine blk_alloc ?_ _)); exact BK166.out⟩, ⟨by repeat (first | (with_reducible first | exact HB.out | apply below_alloc | apply pw_below_drewN | apply below_drew1 | refine below_set ?_ GE166.out) | exact HB.out)⟩⟩
          · rw [if_neg c6] at H
            exact absurd H (by simp)
        · rw [if_neg c5] at H
          have c5b0 : decide (0 ≤ x1_1) = false := decide_eq_false c5
          clear c5
          obtain rfl := Option.some.inj H
          have hcz10_0 : wr.cell? ⟨gb166, 0, none⟩ = some (.int .i64 a0_0) := (blk_cell BK166.out 0).trans rfl
          have hcz10_1 : wr.cell? ⟨gb166, 1, none⟩ = some (.string a0_1) := (blk_cell BK166.out 1).trans rfl
          have hcz10_2 : wr.cell? ⟨gb166, 2, none⟩ = some (.int .i64 a0_2) := (blk_cell BK166.out 2).trans rfl
          have hcz10_3 : wr.cell? ⟨gb166, 3, none⟩ = some (.slice A0_3 l0_3.length c0_3) := (blk_cell BK166.out 3).trans rfl
          have hfz10_0 := blk_frozen BK166.out 0
          have hfz10_1 := blk_frozen BK166.out 1
          have hfz10_2 := blk_frozen BK166.out 2
          have hfz10_3 := blk_frozen BK166.out 3
          go_wp2
          go_ret
          exact ⟨by first | rfl | (simp [errW_none, errW_some] <;> rfl) | (simp [*, errW_none, errW_some] <;> rfl), by repeat (first | (with_reducible first | exact HB.out | apply below_alloc | apply pw_below_drewN | apply below_drew1 | refine below_set ?_ GE166.out) | exact HB.out)⟩
      · rw [if_neg c4] at H
        have c4b0 : decide (x5_1 < (l0_3.length : Int)) = false := decide_eq_false c4
        clear c4
        obtain rfl := Option.some.inj H
        have hcz11_0 : wr.cell? ⟨gb166, 0, none⟩ = some (.int .i64 a0_0) := (blk_cell BK166.out 0).trans rfl
        have hcz11_1 : wr.cell? ⟨gb166, 1, none⟩ = some (.string a0_1) := (blk_cell BK166.out 1).trans rfl
        have hcz11_2 : wr.cell? ⟨gb166, 2, none⟩ = some (.int .i64 a0_2) := (blk_cell BK166.out 2).trans rfl
        have hcz11_3 : wr.cell? ⟨gb166, 3, none⟩ = some (.slice A0_3 l0_3.length c0_3) := (blk_cell BK166.out 3).trans rfl
        have hfz11_0 := blk_frozen BK166.out 0
        have hfz11_1 := blk_frozen BK166.out 1
        have hfz11_2 := blk_frozen BK166.out 2
        have hfz11_3 := blk_frozen BK166.out 3
        go_wp2
        go_ret
        exact ⟨by first | rfl | (simp [errW_none, errW_some] <;> rfl) | (simp [*, errW_none, errW_some] <;> rfl), by repeat (first | (with_reducible first | exact HB.out | apply below_alloc | apply pw_below_drewN | apply below_drew1 | refine below_set ?_ GE166.out) | exact HB.out)⟩
end Go.Proofs.YtgcpfelccfnnbaaDoor.X
namespace Go.Proofs.YtgcpfelccfnnbaaDoor.X
open Go.RowKit Go.Proofs.YtgcpfelccfnnbaaDoorW.PrintWords Go.Proofs.YtgcpfelccfnnbaaDoorW.PrintLast Go.Proofs.YtgcpfelccfnnbaaDoorW.PrintMore
attribute [local go_sem] max2_int min2_int max_two min_two max_three min_three max_four min_four   -- for this text's walks alone
set_option linter.unusedVariables false
set_option linter.unusedSimpArgs false
def vinculumref09_Few.f (k : Nat) (a0_0 : Int) (a0_1 : ByteArray) (a0_2 : Int) (l0_3 : List (S24)) (a1 : Int) : Option (Bool) := (vinculumref09_left.f k a0_0 a0_1 a0_2 l0_3 a1).bind fun t170 => (some (decide (t170 ≥ 0)))
theorem vinculumref09_Few.mono : ∀ a0 a1 a2 a3 a4 k, LeO (vinculumref09_Few.f k a0 a1 a2 a3 a4) (vinculumref09_Few.f (k + 1) a0 a1 a2 a3 a4) := by
  intro a0 a1 a2 a3 a4 k
  unfold vinculumref09_Few.f
  repeat' first
      | (with_reducible exact vinculumref09_left.mono _ _ _ _ _ _)
      | (with_reducible exact LeO.refl _)
      | (with_reducible exact LeO.none _)
      | (with_reducible refine LeO.ite ?_ ?_)
      | (with_reducible refine LeO.bind ?_ (fun _ => ?_))
      | exact vinculumref09_left.mono _ _ _ _ _ _
      | exact LeO.none _
      | refine LeO.ite ?_ ?_
      | refine LeO.bind ?_ (fun _ => ?_)
set_option maxHeartbeats 8000000 in
set_option maxRecDepth 100000 in
theorem vinculumref09_Few.calls (k : Nat) (a0_0 : Int) (a0_1 : ByteArray) (a0_2 : Int) (A0_3 : Option Addr) (c0_3 : Nat) (l0_3 : List (S24)) (a1 : Int) (r : Bool) (w : World) (hr0_3 : Kd.C k24 w A0_3 l0_3.length l0_3) (hc0_3 : l0_3.length ≤ c0_3) (h : vinculumref09_Few.f k a0_0 a0_1 a0_2 l0_3 a1 = some r) :
    Calls Tryd.prog 26 #[.agg #[.int .i64 a0_0, .string a0_1, .int .i64 a0_2, .slice A0_3 l0_3.length c0_3], .int .i64 a1] w fun e w' => e = .returned (.bool r) ∧ Below w.heap.size w w' := by
  have hu24 := Tryd.underlying24
  have HR0_3 := Aside0.mk hr0_3
  have HC0_3 := Aside0.mk hc0_3
  clear hr0_3 hc0_3
  have HB := Aside0.mk (Below.refl w.heap.size w)
  have H : ((vinculumref09_left.f k a0_0 a0_1 a0_2 l0_3 a1).bind fun t170 => (some (decide (t170 ≥ 0)))) = some r := h
  clear h
  replace H := Option.bind_eq_some_iff.mp H
  obtain ⟨t170, A30, H⟩ := H
  replace H : (some (decide (t170 ≥ 0))) = some r := H
  have A3 := Aside0.mk A30
  clear A30
  obtain rfl := Option.some.inj H
  go_enter Tryd.func26, Tryd.ntmps26
  go_wp2_with (first | ((with_reducible refine gate_dst (N := 2) rfl ?_); refine box_event ?hg (N := 2) ?hd (cs := #[.int .i64 a0_0, .string a0_1, .int .i64 a0_2, .slice A0_3 l0_3.length c0_3]) (t := 24) ?hr ?_; (case hd => rfl); (case hg => rfl); (case hr => first | (go_simp; done) | (go_simp; rfl)); intro gb169 hg w4 hbox hb; have n0_ := Aside0.mk (below_step (by repeat (first | (with_reducible first | exact HB.out | apply below_alloc | apply pw_below_drewN | apply below_drew1) | exact HB.out)) hb); have n1_ := Aside0.mk (hbox); have n2_ := Aside0.mk ((by rw [hg]; exact (below_size (by repeat (first | (with_reducible first | exact HB.out | apply below_alloc | apply pw_below_drewN | apply below_drew1) | exact HB.out))) : w.heap.size ≤ gb169)); have n3_ := Aside0.mk ((by rw [hg]; exact (below_size (by repeat (first | (with_reducible first | exact HB.out | apply below_alloc | apply pw_below_drewN | apply below_drew1) | exact HB.out))) : w.heap.size ≤ gb169)); clear HB; have HB := n0_; have BK169 := n1_; have GW169 := n2_; have GE169 := n3_; clear n0_ n1_ n2_ n3_; clear hb hbox hg; have hcz5_0 : w4.cell? ⟨gb169, 0, none⟩ = some (.int .i64 a0_0) := (blk_cell BK169.out 0).trans rfl; have hcz5_1 : w4.cell? ⟨gb169, 1, none⟩ = some (.string a0_1) := (blk_cell BK169.out 1).trans rfl; have hcz5_2 : w4.cell? ⟨gb169, 2, none⟩ = some (.int .i64 a0_2) := (blk_cell BK169.out 2).trans rfl; have hcz5_3 : w4.cell? ⟨gb169, 3, none⟩ = some (.slice A0_3 l0_3.length c0_3) := (blk_cell BK169.out 3).trans rfl; have hfz5_0 := blk_frozen BK169.out 0; have hfz5_1 := blk_frozen BK169.out 1; have hfz5_2 := blk_frozen BK169.out 2; have hfz5_3 := blk_frozen BK169.out 3) | ((with_reducible refine gate_callee (f := 41) rfl ?_); refine goesL_ (some 7) rfl rfl Tryd.func41 (by kernel_rfl) rfl #[.agg #[.int .i64 a0_0, .string a0_1, .int .i64 a0_2, .slice A0_3 l0_3.length c0_3], .int .i64 a1] rfl (by (try simp only [List.map_toArray, List.map_cons, List.map_nil]); first | done | rfl | (simp only [List.length_drop, List.length_take]; rfl)) ?_; (with_reducible refine (vinculumref09_left.calls k a0_0 a0_1 a0_2 _ _ l0_3 a1 t170 _ ?side1 ?side2 A3.out).mono ?_); (case side1 => repeat (first | exact (Kd.C_below HR0_3.out HB.out) | (with_reducible refine Kd.C_alloc ?_ _) | (with_reducible refine Kd.C_drewN ?_ _) | (with_reducible refine Kd.C_drew ?_))); (case side2 => exact HC0_3.out); rintro e w6 ⟨rfl, hb⟩; refine ⟨_, rfl, ?_⟩; have n0_ := Aside0.mk (blk_below (g := gb169) (o := .cells #[.int .i64 a0_0, .string a0_1, .int .i64 a0_2, .slice A0_3 l0_3.length c0_3] 24 (0, 0)) (by (with_reducible repeat (first | refine blk_drewN ?_ _ | refine blk_drew ?_ | refine blk_alloc ?_ _)); exact BK169.out) hb); have n1_ := Aside0.mk (below_step (by repeat (first | (with_reducible first | exact HB.out | apply below_alloc | apply pw_below_drewN | apply below_drew1 | refine below_set ?_ GE169.out) | exact HB.out)) hb); clear BK169; clear HB; have BK169 := n0_; have HB := n1_; clear n0_ n1_; (try clear hb); (try clear hb2); (try clear hk); (try clear hi)))
  go_ret
  exact ⟨by first | rfl | (simp [errW_none, errW_some] <;> rfl) | (simp [*, errW_none, errW_some] <;> rfl), by repeat (first | (with_reducible first | exact HB.out | apply below_alloc | apply pw_below_drewN | apply below_drew1 | refine below_set ?_ GE169.out) | exact HB.out)⟩
end Go.Proofs.YtgcpfelccfnnbaaDoor.X
namespace Go.Proofs.YtgcpfelccfnnbaaDoor.X
open Go.RowKit Go.Proofs.YtgcpfelccfnnbaaDoorW.PrintWords Go.Proofs.YtgcpfelccfnnbaaDoorW.PrintLast Go.Proofs.YtgcpfelccfnnbaaDoorW.PrintMore
attribute [local go_sem] max2_int min2_int max_two min_two max_three min_three max_four min_four   -- for this text's walks alone
set_option linter.unusedVariables false
set_option linter.unusedSimpArgs false
def vinculumref09_ToRow.f (l0 : List (S24)) : Option (Int × ByteArray × Int × (List (S24))) := some (1, (⟨#[]⟩ : ByteArray), 0, l0)
set_option maxHeartbeats 8000000 in
set_option maxRecDepth 100000 in
theorem vinculumref09_ToRow.calls (P0_ : Nat → Prop) (A0 : Option Addr) (c0 : Nat) (l0 : List (S24)) (r1 : Int) (r2 : ByteArray) (r3 : Int) (r4 : List (S24)) (w : World) (hs0 : Kd.V k24 24 w w.heap.size (fun k_ => P0_ k_) (.slice A0 l0.length c0) l0) (h : vinculumref09_ToRow.f l0 = some (r1, r2, r3, r4)) :
    Calls Tryd.prog 40 #[.slice A0 l0.length c0] w fun e w' => ∃ v3_ : Value, e = .returned (.agg #[.int .i64 r1, .string r2, .int .i64 r3, v3_]) ∧ Kd.V k24 24 w' w.heap.size (fun k_ => (P0_ k_ ∨ w.heap.size ≤ k_)) v3_ r4 ∧ Below w.heap.size w w' := by
  have hu24 := Tryd.underlying24
  have HO0 := Aside0.mk (show Kd.V k24 24 w w.heap.size (fun k_ => (P0_ k_ ∨ w.heap.size ≤ k_)) (.slice A0 l0.length c0) l0 from Kd.V_mono hs0 (fun k_ hk => .inl hk))
  have HB := Aside0.mk (Below.refl w.heap.size w)
  have H : (some (1, (⟨#[]⟩ : ByteArray), 0, l0)) = some (r1, r2, r3, r4) := h
  clear h
  simp only [Option.some.injEq, Prod.mk.injEq] at H
  obtain ⟨rfl, rfl, rfl, rfl⟩ := H
  go_enter Tryd.func40, Tryd.ntmps40
  go_wp2_with (first | ((with_reducible refine gate_dst (N := 2) rfl ?_); refine box_event ?hg (N := 2) ?hd (cs := #[.int .i64 0, .string (⟨#[]⟩ : ByteArray), .int .i64 0, .slice none 0 0]) (t := 24) ?hr ?_; (case hd => rfl); (case hg => rfl); (case hr => first | (go_simp; done) | (go_simp; rfl)); intro gb171 hg w2 hbox hb; have n0_ := Aside0.mk (Kd.V_below (Kd.V_elderB (by (with_reducible repeat (first | apply Kd.V_alloc | apply Kd.V_drewN | apply Kd.V_drew)); exact HO0.out) gb171 (Nat.le_of_eq hg.symm)) hb); have n1_ := Aside0.mk (below_step (by repeat (first | (with_reducible first | exact HB.out | apply below_alloc | apply pw_below_drewN | apply below_drew1) | exact HB.out)) hb); have n2_ := Aside0.mk (hbox); have n3_ := Aside0.mk ((by rw [hg]; exact (below_size (by repeat (first | (with_reducible first | exact HB.out | apply below_alloc | apply pw_below_drewN | apply below_drew1) | exact HB.out))) : w.heap.size ≤ gb171)); have n4_ := Aside0.mk ((by rw [hg]; exact (below_size (by repeat (first | (with_reducible first | exact HB.out | apply below_alloc | apply pw_below_drewN | apply below_drew1) | exact HB.out))) : w.heap.size ≤ gb171)); clear HO0; clear HB; have HO0 := n0_; have HB := n1_; have BK171 := n2_; have GW171 := n3_; have GE171 := n4_; clear n0_ n1_ n2_ n3_ n4_; clear hb hbox hg; have hcz3_0 : w2.cell? ⟨gb171, 0, none⟩ = some (.int .i64 0) := (blk_cell BK171.out 0).trans rfl; have hcz3_1 : w2.cell? ⟨gb171, 1, none⟩ = some (.string (⟨#[]⟩ : ByteArray)) := (blk_cell BK171.out 1).trans rfl; have hcz3_2 : w2.cell? ⟨gb171, 2, none⟩ = some (.int .i64 0) := (blk_cell BK171.out 2).trans rfl; have hcz3_3 : w2.cell? ⟨gb171, 3, none⟩ = some (.slice none 0 0) := (blk_cell BK171.out 3).trans rfl; have hfz3_0 := blk_frozen BK171.out 0; have hfz3_1 := blk_frozen BK171.out 1; have hfz3_2 := blk_frozen BK171.out 2; have hfz3_3 := blk_frozen BK171.out 3))
  refine bodyPost_ret (results_cell_row rfl _ _ gb171 24 #[.int .i64 1, .string (⟨#[]⟩ : ByteArray), .int .i64 0, .slice A0 l0.length c0] (0, 0) _ rfl (by (with_reducible repeat (first | refine blk_drewN ?_ _ | refine blk_drew ?_ | refine blk_alloc ?_ _)); refine blk_put (cs := #[.int .i64 1, .string (⟨#[]⟩ : ByteArray), .int .i64 0, .slice none 0 0]) ?_ 3 _ rfl; (with_reducible repeat (first | refine blk_drewN ?_ _ | refine blk_drew ?_ | refine blk_alloc ?_ _)); refine blk_put (cs := #[.int .i64 1, .string (⟨#[]⟩ : ByteArray), .int .i64 0, .slice none 0 0]) ?_ 2 _ rfl; (with_reducible repeat (first | refine blk_drewN ?_ _ | refine blk_drew ?_ | refine blk_alloc ?_ _)); refine blk_put (cs := #[.int .i64 1, .string (⟨#[]⟩ : ByteArray), .int .i64 0, .slice none 0 0]) ?_ 1 _ rfl; (with_reducible repeat (first | refine blk_drewN ?_ _ | refine blk_drew ?_ | refine blk_alloc ?_ _)); refine blk_put (cs := #[.int .i64 0, .string (⟨#[]⟩ : ByteArray), .int .i64 0, .slice none 0 0]) ?_ 0 _ rfl; (with_reducible repeat (first | refine blk_drewN ?_ _ | refine blk_drew ?_ | refine blk_alloc ?_ _)); exact BK171.out) Tryd.underlying24 rfl (by kernel_rfl)) rfl ?_
  exact ⟨_, by first | rfl | (simp [errW_none, errW_some] <;> rfl) | (simp [*, errW_none, errW_some] <;> rfl), by (with_reducible repeat (first | apply Kd.V_alloc | apply Kd.V_drewN | apply Kd.V_drew)); exact Kd.V_mono (Kd.V_far (p := ⟨gb171, 3, none⟩) (Kd.V_far (p := ⟨gb171, 2, none⟩) (Kd.V_far (p := ⟨gb171, 1, none⟩) (Kd.V_far (p := ⟨gb171, 0, none⟩) (Kd.V_mono HO0.out (fun k_ hk => (⟨hk, hk.2⟩ : _ ∧ k_ ≠ gb171))) (fun _ hk => hk.2) (.int .i64 1)) (fun _ hk => hk.2) (.string (⟨#[]⟩ : ByteArray))) (fun _ hk => hk.2) (.int .i64 0)) (fun _ hk => hk.2) (.slice A0 l0.length c0)) (fun _ hk => hk.1.1), by repeat (first | (with_reducible first | exact HB.out | apply below_alloc | apply pw_below_drewN | apply below_drew1 | refine below_set ?_ GE171.out) | exact HB.out)⟩
end Go.Proofs.YtgcpfelccfnnbaaDoor.X
