/-
Part 35 of the texts of this proof: the walks through the program's functions.
-/
import Derived.Test.YtgcpfelccfnnbaaDoorMCounts2
import Derived.Test.YtgcpfelccfnnbaaDoorMCounts14
import Derived.Test.YtgcpfelccfnnbaaDoorMCounts15
import Derived.Test.YtgcpfelccfnnbaaDoorMCounts19
import Derived.Test.YtgcpfelccfnnbaaDoorMCounts20
import Derived.Test.YtgcpfelccfnnbaaDoorMCounts23
import Derived.Test.YtgcpfelccfnnbaaDoorMCounts24
import Derived.Test.YtgcpfelccfnnbaaDoorMCounts26
import Derived.Test.YtgcpfelccfnnbaaDoorMCounts31
import Derived.Test.YtgcpfelccfnnbaaDoorMCounts33
namespace Go.Proofs.YtgcpfelccfnnbaaDoor.X
open Go.RowKit Go.Proofs.YtgcpfelccfnnbaaDoorW.PrintWords Go.Proofs.YtgcpfelccfnnbaaDoorW.PrintLast Go.Proofs.YtgcpfelccfnnbaaDoorW.PrintMore
attribute [local go_sem] max2_int min2_int max_two min_two max_three min_three max_four min_four   -- for this text's walks alone
set_option linter.unusedVariables false
set_option linter.unusedSimpArgs false
theorem cntL_set : ∀ (l : List S24) (i : Nat) (y : S24), i < l.length → cntL (l.set i y) + cnt (nth l i) = cntL l + cnt y
  | x :: l, 0, y, _ => by simp only [List.set_cons_zero, cntL]; show cnt y + cntL l + cnt x = _; omega
  | x :: l, i + 1, y, h => by
    have := cntL_set l i y (by simpa using h)
    simp only [List.set_cons_succ, cntL]
    show cnt x + cntL (l.set i y) + cnt (nth l i) = _
    omega
/-- Paths by pairs. -/
theorem pairs {P : List Int → Prop} (h0 : P []) (h1 : ∀ i, P [i]) (h2 : ∀ i s p, P p → P (i :: s :: p)) : ∀ p, P p
  | [] => h0
  | [i] => h1 i
  | i :: s :: p => h2 i s p (pairs h0 h1 h2 p)
theorem rowG_cons {x : S24} {i s : Int} {p : List Int} (h : 0 ≤ i ∧ i < x.f3.length ∧ 0 ≤ s ∧ s < (nth x.f3 i.toNat).f3.length) : rowG x (i :: s :: p) = rowG (nth (nth x.f3 i.toNat).f3 s.toNat) p := by rw [rowG, if_pos h]
theorem withG_nil (x r : S24) : withG x [] r = r := by unfold withG; rfl
theorem withG_cons (x r : S24) (i s : Int) (p : List Int) : withG x (i :: s :: p) r = ⟨x.f0, x.f1, x.f2, x.f3.set i.toNat ⟨(nth x.f3 i.toNat).f0, (nth x.f3 i.toNat).f1, (nth x.f3 i.toNat).f2, (nth x.f3 i.toNat).f3.set s.toNat (withG (nth (nth x.f3 i.toNat).f3 s.toNat) p r)⟩⟩ := by
  conv => lhs; unfold withG
theorem ok_row : ∀ (p : List Int) (x : S24), WithOk x p → (rowG x p).2 = true := by
  refine pairs ?_ ?_ ?_
  · intro x _; rw [rowG]
  · intro i x h; exact h.elim
  · intro i s p ih x h
    obtain ⟨a, b, c, d, e⟩ := h
    rw [rowG_cons ⟨a, b, c, d⟩]
    exact ih _ e
theorem row_withOk {x : S24} {p : List Int} (h : (rowG x p).2 = true) : WithOk x p := row_ok p.length x p (Nat.le_refl _) h
theorem cnt_with : ∀ (p : List Int) (x r : S24), WithOk x p → cnt (withG x p r) + cnt (rowG x p).1 = cnt x + cnt r := by
  refine pairs ?_ ?_ ?_
  · intro x r _; rw [withG_nil, rowG]; simp only; omega
  · intro i x r h; exact h.elim
  · intro i j p ih x r h
    obtain ⟨a, b, c, d, e⟩ := h
    have hi : i.toNat < x.f3.length := by omega
    have hs : j.toNat < (nth x.f3 i.toNat).f3.length := by omega
    have h1 := ih _ r e
    rw [withG_cons, rowG_cons ⟨a, b, c, d⟩]
    have h2 := cntL_set (nth x.f3 i.toNat).f3 j.toNat (withG (nth (nth x.f3 i.toNat).f3 j.toNat) p r) hs
    have h3 := cntL_set x.f3 i.toNat ⟨(nth x.f3 i.toNat).f0, (nth x.f3 i.toNat).f1, (nth x.f3 i.toNat).f2, (nth x.f3 i.toNat).f3.set j.toNat (withG (nth (nth x.f3 i.toNat).f3 j.toNat) p r)⟩ hi
    have h4 := cnt_eq (nth x.f3 i.toNat)
    have h5 := cnt_eq x
    simp only [cnt] at h3 ⊢
    omega
mutual
theorem eqN_iff : ∀ (x y : S24), eqN x y = true ↔ x = y
  | ⟨k, t, c, l⟩, ⟨k', t', c', l'⟩ => by
    rw [eqN]
    simp only [Bool.and_eq_true, decide_eq_true_eq]
    rw [eqL_iff l l']
    constructor
    · rintro ⟨rfl, h, rfl, rfl⟩
      have h2 : t = t' := by
        cases t; cases t'
        simp only [ByteArray.mk.injEq]
        exact Array.toList_inj.1 h
      rw [h2]
    · intro h
      injection h with h1 h2 h3 h4
      exact ⟨h1, by rw [h2], h3, h4⟩
theorem eqL_iff : ∀ (l m : List S24), eqL l m = true ↔ l = m
  | [], m => by
    rw [eqL]
    cases m <;> simp
  | x :: l, [] => by
    rw [eqL]
    simp
  | x :: l, y :: m => by
    rw [eqL, Bool.and_eq_true, eqN_iff x y, eqL_iff l m]
    simp
end
def bareB (o : S27) : Bool := o.f6.data.toList.isEmpty && o.f7.data.toList.isEmpty
def itemsB (l : List S24) : Bool := validB ⟨1, ⟨#[]⟩, 0, l⟩
/-- The operation is well formed. -/
def formedB (o : S27) : Bool :=
  if o.f0 = 1 ∨ o.f0 = 2 then decide (o.f3 = 0) && (decide (o.f5 = 0) && (bareB o && (decide (0 < o.f4.length) && itemsB o.f4)))
  else if o.f0 = 3 ∨ o.f0 = 4 then bareB o && (decide (0 ≤ o.f3) && (decide (o.f4.length = 1) && (itemsB o.f4 && (decide (0 ≤ o.f5) && (decide (o.f5 < (nth o.f4 0).f3.length) && decide ((nth (nth o.f4 0).f3 o.f5.toNat).f3 = []))))))
  else if o.f0 = 5 then decide (o.f3 = 0) && (decide (o.f5 = 0) && (decide (o.f4 = []) && decide (¬ o.f6.data.toList = o.f7.data.toList)))
  else false
def needsI (o : S27) : Int := if o.f0 = 1 then 0 else if o.f0 = 2 then (o.f4.length : Int) else if o.f0 = 3 then o.f3 else 1
def oldL (l : List S24) (o : S27) : List S24 := (l.take (o.f2 + needsI o).toNat).drop o.f2.toNat
def newL (l : List S24) (o : S27) : List S24 := l.take o.f2.toNat ++ ((changeG o (oldL l o)).1 ++ l.drop (o.f2 + needsI o).toNat)
def newRow (r : S24) (o : S27) : S24 := ⟨r.f0, r.f1, r.f2, newL r.f3 o⟩
/-- The tree behind an operation, or why there is none. -/
def applyE (x : S24) (o : S27) : S24 × Int :=
  if validB x = true then
    if formedB o = true then
      if (rowG x o.f1).2 = true then
        if o.f2 < 0 ∨ ((rowG x o.f1).1.f3.length : Int) < o.f2 ∨ ((rowG x o.f1).1.f3.length : Int) - o.f2 < needsI o then (z24, 2)
        else if (changeG o (oldL (rowG x o.f1).1.f3 o)).2 = true then
          if validB (newRow (rowG x o.f1).1 o) = true ∧ validB (withG x o.f1 (newRow (rowG x o.f1).1 o)) = true then (withG x o.f1 (newRow (rowG x o.f1).1 o), 0) else (z24, 6)
        else (z24, 7)
      else (z24, 8)
    else (z24, 4)
  else (z24, 1)
/-- What it takes for an operation to be done. -/
structure Does (x : S24) (o : S27) : Prop where
  valid : validB x = true
  formed : formedB o = true
  row : WithOk x o.f1
  at0 : 0 ≤ o.f2
  room : o.f2 + needsI o ≤ (rowG x o.f1).1.f3.length
  need : 0 ≤ needsI o
  change : (changeG o (oldL (rowG x o.f1).1.f3 o)).2 = true
  vrow : validB (newRow (rowG x o.f1).1 o) = true
  vall : validB (withG x o.f1 (newRow (rowG x o.f1).1 o)) = true
theorem needs_nonneg {o : S27} (h : formedB o = true) : 0 ≤ needsI o := by
  unfold needsI
  by_cases h1 : o.f0 = 1
  · rw [if_pos h1]; exact Int.le_refl _
  rw [if_neg h1]
  by_cases h2 : o.f0 = 2
  · rw [if_pos h2]; omega
  rw [if_neg h2]
  by_cases h3 : o.f0 = 3
  · rw [if_pos h3]
    unfold formedB at h
    rw [if_neg (by omega), if_pos (.inl h3)] at h
    simp only [Bool.and_eq_true, decide_eq_true_eq] at h
    exact h.2.1
  · rw [if_neg h3]; omega
theorem does_of {x a : S24} {o : S27} {e : Int} (h : applyE x o = (a, e)) (he : e = 0) : Does x o ∧ a = withG x o.f1 (newRow (rowG x o.f1).1 o) := by
  subst he
  unfold applyE at h
  by_cases h1 : validB x = true
  · rw [if_pos h1] at h
    by_cases h2 : formedB o = true
    · rw [if_pos h2] at h
      by_cases h3 : (rowG x o.f1).2 = true
      · rw [if_pos h3] at h
        by_cases h4 : o.f2 < 0 ∨ ((rowG x o.f1).1.f3.length : Int) < o.f2 ∨ ((rowG x o.f1).1.f3.length : Int) - o.f2 < needsI o
        · rw [if_pos h4] at h; simp at h
        · rw [if_neg h4] at h
          by_cases h5 : (changeG o (oldL (rowG x o.f1).1.f3 o)).2 = true
          · rw [if_pos h5] at h
            by_cases h6 : validB (newRow (rowG x o.f1).1 o) = true ∧ validB (withG x o.f1 (newRow (rowG x o.f1).1 o)) = true
            · rw [if_pos h6] at h
              injection h with h7 h8
              exact ⟨⟨h1, h2, row_withOk h3, by omega, by omega, needs_nonneg h2, h5, h6.1, h6.2⟩, h7.symm⟩
            · rw [if_neg h6] at h; simp at h
          · rw [if_neg h5] at h; simp at h
      · rw [if_neg h3] at h; simp at h
    · rw [if_neg h2] at h; simp at h
  · rw [if_neg h1] at h; simp at h
theorem apply_does {x : S24} {o : S27} (h : Does x o) : applyE x o = (withG x o.f1 (newRow (rowG x o.f1).1 o), 0) := by
  unfold applyE
  rw [if_pos h.valid, if_pos h.formed, if_pos (ok_row _ _ h.row), if_neg (by have := h.at0; have := h.room; have := h.need; omega), if_pos h.change, if_pos ⟨h.vrow, h.vall⟩]
theorem kinds {o : S27} (h : formedB o = true) : o.f0 = 1 ∨ o.f0 = 2 ∨ o.f0 = 3 ∨ o.f0 = 4 ∨ o.f0 = 5 := by
  unfold formedB at h
  by_cases h1 : o.f0 = 1 ∨ o.f0 = 2
  · omega
  rw [if_neg h1] at h
  by_cases h2 : o.f0 = 3 ∨ o.f0 = 4
  · omega
  rw [if_neg h2] at h
  by_cases h3 : o.f0 = 5
  · omega
  · rw [if_neg h3] at h; cases h
theorem wrap_parts {o : S27} (h : formedB o = true) (hk : o.f0 = 3 ∨ o.f0 = 4) : 0 ≤ o.f3 ∧ (∃ t, o.f4 = [t]) ∧ itemsB o.f4 = true ∧ 0 ≤ o.f5 ∧ o.f5 < (nth o.f4 0).f3.length ∧ (nth (nth o.f4 0).f3 o.f5.toNat).f3 = [] := by
  unfold formedB at h
  rw [if_neg (by omega), if_pos hk] at h
  simp only [Bool.and_eq_true, decide_eq_true_eq] at h
  exact ⟨h.2.1, List.length_eq_one_iff.1 h.2.2.1, h.2.2.2⟩
theorem cntL_append (l m : List S24) : cntL (l ++ m) = cntL l + cntL m := by
  induction l with
  | nil => simp [cntL]
  | cons x l ih => simp only [List.cons_append, cntL, ih]; omega
theorem cntL_fill {l k : List S24} {i : Nat} (hi : i < l.length) : cntL (filledL l i k) + cntL (nth l i).f3 = cntL l + cntL k := by
  unfold filledL
  have h1 := cntL_set l i ⟨(nth l i).f0, (nth l i).f1, (nth l i).f2, k⟩ hi
  have h2 := cnt_eq (nth l i)
  simp only [cnt] at h1
  omega
/-- What a change does to the number of nodes. -/
theorem change_cnt (o : S27) (l : List S24) (hf : formedB o = true) (hl : (l.length : Int) = needsI o) (hc : (changeG o l).2 = true) :
    (cntL (changeG o l).1 : Int) = cntL l + (if o.f0 = 2 ∨ o.f0 = 4 then -(cntL o.f4 : Int) else (cntL o.f4 : Int)) := by
  obtain ⟨o0, o1, o2, o3, o4, o5, o6, o7⟩ := o
  rcases kinds hf with hk | hk | hk | hk | hk <;> simp only at hk <;> subst hk
  · have hl0 : l = [] := List.eq_nil_of_length_eq_zero (by simp [needsI] at hl; simp [hl])
    subst hl0
    simp [changeG, cntL]
  · simp only [changeG] at hc
    simp only [if_pos, reduceIte] at hc
    have := (eqL_iff l o4).1 (by simpa using hc)
    subst this
    simp [changeG, cntL]
    omega
  · obtain ⟨h0, ⟨t, ht⟩, hi, hs0, hs, he⟩ := wrap_parts hf (.inl rfl)
    simp only at h0 ht hi hs0 hs he
    subst ht
    have hn0 : nth [t] 0 = t := rfl
    rw [hn0] at hs he
    have hs' : o5.toNat < t.f3.length := by omega
    have e1 : (changeG ⟨3, o1, o2, o3, [t], o5, o6, o7⟩ l).1 = [⟨t.f0, t.f1, t.f2, filledL t.f3 o5.toNat l⟩] := rfl
    rw [e1]
    have h1 := cntL_fill (k := l) hs'
    have h2 := cnt_eq t
    rw [he] at h1
    simp only [cntL, cnt] at h1 ⊢
    simp
    omega
  · obtain ⟨h0, ⟨t, ht⟩, hi, hs0, hs, he⟩ := wrap_parts hf (.inr rfl)
    simp only at h0 ht hi hs0 hs he
    subst ht
    have hn0 : nth [t] 0 = t := rfl
    have hl1 : l.length = 1 := by have : (l.length : Int) = 1 := by simpa [needsI] using hl
                                  omega
    obtain ⟨x, rfl⟩ := List.length_eq_one_iff.1 hl1
    have e1 : changeG ⟨4, o1, o2, o3, [t], o5, o6, o7⟩ [x] = unwrappedG x ⟨4, o1, o2, o3, [t], o5, o6, o7⟩ := rfl
    rw [e1] at hc ⊢
    unfold unwrappedG at hc ⊢
    simp only [hn0] at hc ⊢
    by_cases hh : (x.f3.length : Int) ≤ o5 ∨ ((nth x.f3 o5.toNat).f3.length : Int) ≠ o3
    · rw [if_pos hh] at hc; cases hc
    · rw [if_neg hh] at hc ⊢
      simp only at hc ⊢
      have hx := (eqN_iff _ _).1 hc
      have hs' : o5.toNat < x.f3.length := by omega
      have h1 := cntL_fill (k := []) hs'
      have h2 := cnt_eq x
      simp only [← hx, cntL, cnt] at h1 ⊢
      simp
      omega
  · have hl1 : l.length = 1 := by have : (l.length : Int) = 1 := by simpa [needsI] using hl
                                  omega
    obtain ⟨x, rfl⟩ := List.length_eq_one_iff.1 hl1
    have e1 : (changeG ⟨5, o1, o2, o3, o4, o5, o6, o7⟩ [x]).1 = [⟨x.f0, o7, x.f2, x.f3⟩] := rfl
    rw [e1]
    have h4 : o4 = [] := by
      unfold formedB at hf
      simp at hf
      exact hf.2.2.1
    subst h4
    have h2 := cnt_eq x
    simp only [cntL, cnt]
    simp
    omega
theorem old_len {l : List S24} {o : S27} (h0 : 0 ≤ o.f2) (hn : 0 ≤ needsI o) (hr : o.f2 + needsI o ≤ l.length) : ((oldL l o).length : Int) = needsI o := by
  unfold oldL
  rw [List.length_drop, List.length_take]
  omega
theorem old_split {l : List S24} {o : S27} (h0 : 0 ≤ o.f2) (hn : 0 ≤ needsI o) : l = l.take o.f2.toNat ++ (oldL l o ++ l.drop (o.f2 + needsI o).toNat) := by
  unfold oldL
  have h1 : l.take o.f2.toNat = (l.take (o.f2 + needsI o).toNat).take o.f2.toNat := by rw [List.take_take]; congr 1; omega
  rw [h1, ← List.append_assoc, List.take_append_drop, List.take_append_drop]
theorem new_cnt {x : S24} {o : S27} (h : Does x o) : (cnt (newRow (rowG x o.f1).1 o) : Int) = cnt (rowG x o.f1).1 + (if o.f0 = 2 ∨ o.f0 = 4 then -(cntL o.f4 : Int) else (cntL o.f4 : Int)) := by
  have h1 := change_cnt o (oldL (rowG x o.f1).1.f3 o) h.formed (old_len h.at0 h.need h.room) h.change
  have h2 := congrArg cntL (old_split (l := (rowG x o.f1).1.f3) h.at0 h.need)
  have h3 := cnt_eq (rowG x o.f1).1
  rw [cntL_append, cntL_append] at h2
  show (cnt ⟨_, _, _, newL _ _⟩ : Int) = _
  rw [cnt]
  unfold newL
  rw [cntL_append, cntL_append]
  omega
/-- The number of nodes behind an operation. -/
theorem apply_cnt {x : S24} {o : S27} (h : Does x o) : (cnt (applyE x o).1 : Int) = cnt x + (if o.f0 = 2 ∨ o.f0 = 4 then -(cntL o.f4 : Int) else (cntL o.f4 : Int)) := by
  rw [apply_does h]
  have h1 := new_cnt h
  have h2 := cnt_with o.f1 x (newRow (rowG x o.f1).1 o) h.row
  simp only
  omega
end Go.Proofs.YtgcpfelccfnnbaaDoor.X
