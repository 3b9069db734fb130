/-
Part 50 of the texts of this proof: the walks through the program's functions.
-/
import Derived.Test.YtgcpfelccfnnbaaDoorMCounts46
import Derived.Test.YtgcpfelccfnnbaaDoorMCounts49
namespace Go.Proofs.YtgcpfelccfnnbaaDoor
namespace X
open Go.RowKit Go.Proofs.YtgcpfelccfnnbaaDoorW.PrintWords Go.Proofs.YtgcpfelccfnnbaaDoorW.PrintLast Go.Proofs.YtgcpfelccfnnbaaDoorW.PrintMore
set_option linter.unusedVariables false
set_option linter.unusedSimpArgs false
/-- The nodes of a list are counted, one after the other. -/
theorem by_loop (cn : S24 → Nat) (tl : List S24 → Nat → Nat) (hcn : cn = cnt) (H2 : ∀ l j, j < l.length → tl l j = cn (nth l j) + tl l (j + 1)) (H3 : ∀ l j, l.length ≤ j → tl l j = 0)
    (l : List S24) (hlen : l.length ≤ 1000) (a0 : Int) (a1 : ByteArray) (a2 : Int) (a3 : List S24) (b0 : Int) (b1 : List Int) (b2 b3 : Int) (b4 : List S24) (b5 : Int) (b6 b7 : ByteArray) (c0 : Int) (c1 : ByteArray) (c2 : Int) (c3 : List S24) (K : Nat) :
    ∀ (d j : Nat) (s : Int) (k : Nat), j + d = l.length → 0 ≤ s → s + tl l j ≤ 1000000 → 2 * tl l j + d + 1 + K ≤ k →
      ∃ k', K ≤ k' ∧ vinculumlaw12_EditCounts.l0 k s l (l.length : Int) (j : Int) a0 a1 a2 a3 b0 b1 b2 b3 b4 b5 b6 b7 c0 c1 c2 c3 = vinculumlaw12_EditCounts.j2 k' (s + tl l j) (decide (b0 = 2 ∨ b0 = 4)) a0 a1 a2 a3 c0 c1 c2 c3 := by
  intro d
  induction d with
  | zero =>
    intro j s k hj h1 h2 hk
    obtain ⟨k, rfl⟩ : ∃ q, k = q + 1 := ⟨k - 1, by omega⟩
    have h3 := H3 l j (by omega)
    refine ⟨k, by omega, ?_⟩
    rw [vinculumlaw12_EditCounts.l0, if_neg (by omega), h3, show s + ((0 : Nat) : Int) = s by omega]
    by_cases hb : b0 = 2
    · rw [if_pos hb, decide_eq_true (.inl hb)]
    · rw [if_neg hb]
      congr 1
      rw [Bool.eq_iff_iff]
      simp [hb]
  | succ d ih =>
    intro j s k hj h1 h2 hk
    have hjl : j < l.length := by omega
    have hc := H2 l j hjl
    obtain ⟨k, rfl⟩ : ∃ q, k = q + 1 := ⟨k - 1, by omega⟩
    have hC : vinculumref09_Count.f k (nth l j).f0 (nth l j).f1 (nth l j).f2 (nth l j).f3 = some (cn (nth l j) : Int) := by
      have h5 : cn (nth l j) ≤ 1000000 := by omega
      have h6 : 2 * cn (nth l j) ≤ k := by omega
      rw [hcn] at h5 h6 ⊢
      exact Count_spec (nth l j) k h5 h6
    rw [vinculumlaw12_EditCounts.l0, if_pos (by omega), if_pos (by omega), if_pos (by omega), rd_nth, hC, Option.bind_some,
      show wrap64 ((j : Int) + 1) = ((j + 1 : Nat) : Int) from wrap_id (by omega) (by omega), show wrap64 (s + (cn (nth l j) : Int)) = s + cn (nth l j) from wrap_id (by omega) (by omega)]
    obtain ⟨k', h5, h6⟩ := ih (j + 1) (s + cn (nth l j)) k (by omega) (by omega) (by omega) (by omega)
    refine ⟨k', h5, ?_⟩
    rw [h6, hc]
    congr 1
    omega
theorem counts_f (x : S24) (o : S27) (hfx : fine x = true) (hfo : fineO o = true) : ∃ k, vinculumlaw12_EditCounts.f k x.f0 x.f1 x.f2 x.f3 o.f0 o.f1 o.f2 o.f3 o.f4 o.f5 o.f6 o.f7 = some true := by
  obtain ⟨x0, x1, x2, x3⟩ := x
  obtain ⟨o0, o1, o2, o3, o4, o5, o6, o7⟩ := o
  have hA : edit_Apply.f x0 x1 x2 x3 o0 o1 o2 o3 o4 o5 o6 o7 = some ((applyE ⟨x0, x1, x2, x3⟩ ⟨o0, o1, o2, o3, o4, o5, o6, o7⟩).1.f0, (applyE ⟨x0, x1, x2, x3⟩ ⟨o0, o1, o2, o3, o4, o5, o6, o7⟩).1.f1, (applyE ⟨x0, x1, x2, x3⟩ ⟨o0, o1, o2, o3, o4, o5, o6, o7⟩).1.f2, (applyE ⟨x0, x1, x2, x3⟩ ⟨o0, o1, o2, o3, o4, o5, o6, o7⟩).1.f3, (applyE ⟨x0, x1, x2, x3⟩ ⟨o0, o1, o2, o3, o4, o5, o6, o7⟩).2) := by
    unfold edit_Apply.f; rw [if_pos ⟨hfx, hfo⟩]
  generalize hK : fewK ⟨x0, x1, x2, x3⟩ [⟨o0, o1, o2, o3, o4, o5, o6, o7⟩] + 10000 = K
  have hF := few_spec ⟨x0, x1, x2, x3⟩ [⟨o0, o1, o2, o3, o4, o5, o6, o7⟩] (by simp) (K + 1) (by omega)
  refine ⟨K + 1, ?_⟩
  unfold vinculumlaw12_EditCounts.f vinculumlaw12_awake.f
  simp only at hF ⊢
  rw [Option.bind_some, if_pos rfl, hF, Option.bind_some]
  cases hb : fewB ⟨x0, x1, x2, x3⟩ [⟨o0, o1, o2, o3, o4, o5, o6, o7⟩]
  · rw [vinculumlaw12_EditCounts.j0]; rfl
  · rw [vinculumlaw12_EditCounts.j0, if_neg (by decide), hA, Option.bind_some]
    simp only
    have hx3 := (fewB_tree hb).1
    have ho4 := (fewB_op hb (List.mem_singleton.2 rfl)).1
    simp only at ho4
    by_cases he : (applyE ⟨x0, x1, x2, x3⟩ ⟨o0, o1, o2, o3, o4, o5, o6, o7⟩).2 = 0
    · rw [if_pos he]
      have hd := (does_of (a := (applyE ⟨x0, x1, x2, x3⟩ ⟨o0, o1, o2, o3, o4, o5, o6, o7⟩).1) rfl he).1
      have hc := apply_cnt hd
      simp only at hc
      have ho := cntL_len o4
      obtain ⟨k', h1, h2⟩ := by_loop cnt (fun l j => cntL (l.drop j)) rfl tl_two tl_end o4 (by omega) x0 x1 x2 x3 o0 o1 o2 o3 o4 o5 o6 o7 (applyE ⟨x0, x1, x2, x3⟩ ⟨o0, o1, o2, o3, o4, o5, o6, o7⟩).1.f0 (applyE ⟨x0, x1, x2, x3⟩ ⟨o0, o1, o2, o3, o4, o5, o6, o7⟩).1.f1 (applyE ⟨x0, x1, x2, x3⟩ ⟨o0, o1, o2, o3, o4, o5, o6, o7⟩).1.f2 (applyE ⟨x0, x1, x2, x3⟩ ⟨o0, o1, o2, o3, o4, o5, o6, o7⟩).1.f3 2000 o4.length 0 0 K (by omega) (by omega) (by simp only [List.drop_zero]; omega) (by simp only [List.drop_zero]; omega)
      simp only [List.drop_zero] at h2
      rw [show ((0 : Nat) : Int) = 0 from rfl, Int.zero_add] at h2
      rw [h2]
      obtain ⟨k', rfl⟩ : ∃ q, k' = q + 1 := ⟨k' - 1, by omega⟩
      have hca : cnt (applyE ⟨x0, x1, x2, x3⟩ ⟨o0, o1, o2, o3, o4, o5, o6, o7⟩).1 ≤ 500 := by split at hc <;> omega
      have hC1 := Count_spec (applyE ⟨x0, x1, x2, x3⟩ ⟨o0, o1, o2, o3, o4, o5, o6, o7⟩).1 k' (by omega) (by omega)
      have hC2 := Count_spec ⟨x0, x1, x2, x3⟩ k' (by omega) (by omega)
      simp only at hC2
      rw [vinculumlaw12_EditCounts.j2, hC1, hC2]
      simp only [Option.bind_some]
      by_cases hk : o0 = 2 ∨ o0 = 4
      · rw [if_pos (decide_eq_true hk)]
        rw [if_pos hk] at hc
        rw [show wrap64 (-(cntL o4 : Int)) = -(cntL o4 : Int) from wrap_id (by omega) (by omega), wrap_id (by omega) (by omega), hc]
        simp
      · rw [if_neg (by simpa using hk)]
        rw [if_neg hk] at hc
        rw [wrap_id (by omega) (by omega), hc]
        simp
    · rw [if_neg he]
end X
end Go.Proofs.YtgcpfelccfnnbaaDoor
