/-
Part 41 of the texts of this proof: the walks through the program's functions.
-/
import Derived.Test.YtgcpfelccfnnbaaDoorMCounts2
import Derived.Test.YtgcpfelccfnnbaaDoorMCounts8
import Derived.Test.YtgcpfelccfnnbaaDoorMCounts15
import Derived.Test.YtgcpfelccfnnbaaDoorMCounts16
import Derived.Test.YtgcpfelccfnnbaaDoorMCounts17
import Derived.Test.YtgcpfelccfnnbaaDoorMCounts19
import Derived.Test.YtgcpfelccfnnbaaDoorMCounts20
import Derived.Test.YtgcpfelccfnnbaaDoorMCounts24
import Derived.Test.YtgcpfelccfnnbaaDoorMCounts26
import Derived.Test.YtgcpfelccfnnbaaDoorMCounts28
import Derived.Test.YtgcpfelccfnnbaaDoorMCounts29
import Derived.Test.YtgcpfelccfnnbaaDoorMCounts31
import Derived.Test.YtgcpfelccfnnbaaDoorMCounts33
import Derived.Test.YtgcpfelccfnnbaaDoorMCounts34
import Derived.Test.YtgcpfelccfnnbaaDoorMCounts35
import Derived.Test.YtgcpfelccfnnbaaDoorMCounts36
import Derived.Test.YtgcpfelccfnnbaaDoorMCounts37
import Derived.Test.YtgcpfelccfnnbaaDoorMCounts38
import Derived.Test.YtgcpfelccfnnbaaDoorMCounts39
import Derived.Test.YtgcpfelccfnnbaaDoorMCounts40
namespace Go.Proofs.YtgcpfelccfnnbaaDoor.X
open Go.RowKit Go.Proofs.YtgcpfelccfnnbaaDoorW.PrintWords Go.Proofs.YtgcpfelccfnnbaaDoorW.PrintLast Go.Proofs.YtgcpfelccfnnbaaDoorW.PrintMore
attribute [local go_sem] max2_int min2_int max_two min_two max_three min_three max_four min_four   -- for this text's walks alone
set_option linter.unusedVariables false
set_option linter.unusedSimpArgs false
theorem items_f (l : List S24) (hf : fineL l = true) : node_ValidItems.f l = some (itemsB l) := by
  unfold node_ValidItems.f node_Valid.f itemsB
  rw [if_pos (by rw [fine_eq, hf]; simp)]
  rfl
theorem bare_f (o : S27) : edit_bare.f o.f0 o.f1 o.f2 o.f3 o.f4 o.f5 o.f6 o.f7 = some (bareB o) := by
  unfold edit_bare.f bareB
  rw [ba_toList, ba_toList]
  by_cases h : o.f6.data.toList = []
  · rw [if_pos h, h]
    cases o.f7.data.toList <;> rfl
  · rw [if_neg h]
    cases h2 : o.f6.data.toList with
    | nil => exact absurd h2 h
    | cons a t => rfl
theorem formed_f (o : S27) (hf : fineL o.f4 = true) : edit_Formed.f 3 o.f0 o.f1 o.f2 o.f3 o.f4 o.f5 o.f6 o.f7 = some (formedB o) := by
  have hi := items_f o.f4 hf
  have hb := bare_f o
  have rd0 : rd_T24 o.f4 0 = nth o.f4 0 := rfl
  have rd1 : ∀ (l : List S24) (i : Int), rd_T24 l i = nth l i.toNat := fun _ _ => rfl
  unfold edit_Formed.f
  have hj : ∀ b : Bool, (b = true ↔ (o.f0 = 1 ∨ o.f0 = 2)) → edit_Formed.j0 3 o.f0 b o.f0 o.f1 o.f2 o.f3 o.f4 o.f5 o.f6 o.f7 = some (formedB o) := by
    intro b hb12
    rw [edit_Formed.j0]
    unfold formedB
    by_cases h12 : o.f0 = 1 ∨ o.f0 = 2
    · rw [if_pos (hb12.2 h12), if_pos h12, hi, hb]
      by_cases h3 : o.f3 = 0 <;> by_cases h5 : o.f5 = 0 <;> cases hbb : bareB o <;> by_cases h4 : 0 < o.f4.length <;> simp [h3, h5, h4]
      all_goals omega
    · rw [if_neg (fun h => h12 (hb12.1 h)), if_neg h12]
      have hj1 : ∀ b' : Bool, (b' = true ↔ (o.f0 = 3 ∨ o.f0 = 4)) → edit_Formed.j1 2 o.f0 b' o.f0 o.f1 o.f2 o.f3 o.f4 o.f5 o.f6 o.f7 = some (if o.f0 = 3 ∨ o.f0 = 4 then bareB o && (decide (0 ≤ o.f3) && (decide (o.f4.length = 1) && (itemsB o.f4 && (decide (0 ≤ o.f5) && (decide (o.f5 < (nth o.f4 0).f3.length) && decide ((nth (nth o.f4 0).f3 o.f5.toNat).f3 = []))))))
          else if o.f0 = 5 then decide (o.f3 = 0) && (decide (o.f5 = 0) && (decide (o.f4 = []) && decide (¬ o.f6.data.toList = o.f7.data.toList)))
          else false) := by
        intro b' hb34
        rw [edit_Formed.j1]
        by_cases h34 : o.f0 = 3 ∨ o.f0 = 4
        · rw [if_pos (hb34.2 h34), if_pos h34, hi, hb]
          simp only [Option.bind_some, rd0, rd1]
          by_cases hbb : bareB o = true
          · rw [if_pos hbb, hbb]
            by_cases h3 : o.f3 < 0
            · rw [if_pos h3]; simp; omega
            · rw [if_neg h3, decide_eq_true (show 0 ≤ o.f3 by omega)]
              by_cases h4 : (o.f4.length : Int) = 1
              · rw [if_pos h4, decide_eq_true (show o.f4.length = 1 by omega)]
                by_cases h6 : itemsB o.f4 = true
                · rw [if_pos h6, h6, if_pos (by omega)]
                  by_cases h7 : o.f5 ≥ 0
                  · rw [if_pos h7, decide_eq_true (show 0 ≤ o.f5 from h7)]
                    by_cases h8 : o.f5 < ((nth o.f4 0).f3.length : Int)
                    · rw [if_pos h8, if_pos h7, decide_eq_true h8]
                      simp only [Bool.true_and, Option.some.injEq]
                      rw [Bool.eq_iff_iff]
                      simp
                    · rw [if_neg h8, decide_eq_false h8]; rfl
                  · rw [if_neg h7, decide_eq_false (show ¬ 0 ≤ o.f5 from h7)]; rfl
                · rw [if_neg h6]; simp [h6]
              · rw [if_neg h4, decide_eq_false (show ¬ o.f4.length = 1 by omega)]; rfl
          · rw [if_neg hbb]; simp [hbb]
        · rw [if_neg (fun h => h34 (hb34.1 h)), if_neg h34]
          by_cases h5 : o.f0 = 5
          · rw [if_pos h5, if_pos h5]
            by_cases h3 : o.f3 = 0
            · rw [if_pos h3, decide_eq_true h3]
              by_cases h6 : o.f5 = 0
              · rw [if_pos h6, decide_eq_true h6]
                by_cases h4 : o.f4 = []
                · rw [if_pos (by rw [h4]; rfl), decide_eq_true h4, ba_toList, ba_toList]
                  simp only [Bool.true_and, Option.some.injEq]
                  rw [Bool.eq_iff_iff]
                  simp
                · rw [if_neg (fun h => h4 (List.eq_nil_of_length_eq_zero (by omega))), decide_eq_false h4]; rfl
              · rw [if_neg h6, decide_eq_false h6]; rfl
            · rw [if_neg h3, decide_eq_false h3]; rfl
          · rw [if_neg h5, if_neg h5]
      by_cases h3 : o.f0 = 3
      · rw [if_pos h3, hj1 _ (by simp [h3])]
      · rw [if_neg h3, hj1 _ (by simp [h3])]
  by_cases h1 : o.f0 = 1
  · rw [if_pos h1, hj _ (by simp [h1])]
  · rw [if_neg h1, hj _ (by simp [h1])]
theorem needs_f (o : S27) : edit_needs.f o.f0 o.f1 o.f2 o.f3 o.f4 o.f5 o.f6 o.f7 = some (needsI o) := by
  unfold edit_needs.f needsI
  split
  · rfl
  split
  · rfl
  split
  · rfl
  · rfl
theorem path_len : ∀ (p : List Int) (x : S24), WithOk x p → p.length ≤ 2 * cnt x := by
  refine pairs ?_ ?_ ?_
  · intro x _; simp
  · intro i x h; exact h.elim
  · intro i s p ih x h
    obtain ⟨a, b, c, d, e⟩ := h
    have h1 := ih _ e
    have c1 := cntL_get (nth_some (l := x.f3) (i := i.toNat) (by omega))
    have c2 := cntL_get (nth_some (l := (nth x.f3 i.toNat).f3) (i := s.toNat) (by omega))
    have e1 := cnt_eq (nth x.f3 i.toNat)
    have e2 := cnt_eq x
    simp only [List.length_cons]
    omega
theorem items_cnt {l : List S24} (h : itemsB l = true) : cntL l < 1000 := by
  have := valid_cnt h
  simp only [cnt] at this
  omega
theorem formed_cnt {o : S27} (h : formedB o = true) : cntL o.f4 < 1000 := by
  unfold formedB at h
  split at h
  · simp only [Bool.and_eq_true] at h; exact items_cnt h.2.2.2.2
  split at h
  · simp only [Bool.and_eq_true] at h; exact items_cnt h.2.2.2.1
  split at h
  · simp only [Bool.and_eq_true, decide_eq_true_eq] at h
    rw [h.2.2.1, cntL]
    omega
  · cases h
theorem fineL_app (a b : List S24) : fineL (a ++ b) = (fineL a && fineL b) := by
  induction a with
  | nil => simp [fineL]
  | cons x a ih => simp [fineL, ih, Bool.and_assoc]
theorem fineL_sub {l m : List S24} (h : m.Sublist l) (hl : fineL l = true) : fineL m = true := by
  induction h with
  | slnil => exact hl
  | cons x _ ih => simp only [fineL, Bool.and_eq_true] at hl; exact ih hl.2
  | cons_cons x _ ih => simp only [fineL, Bool.and_eq_true] at hl ⊢; exact ⟨hl.1, ih hl.2⟩
theorem nth_fine {l : List S24} (h : fineL l = true) (i : Nat) : fine (nth l i) = true := by
  by_cases hi : i < l.length
  · exact fineL_get (nth_some hi) h
  · unfold nth
    rw [List.getD_eq_getElem?_getD, List.getElem?_eq_none (by omega)]
    exact fine_z
theorem change_fine (o : S27) (l : List S24) (h4 : fineL o.f4 = true) (h7 : o.f7.data.toList.length ≤ 9223372036854775807) (hl : fineL l = true) : fineL (changeG o l).1 = true := by
  unfold changeG
  have ht := nth_fine h4 0
  have hx := nth_fine hl 0
  rw [fine_eq, Bool.and_eq_true] at ht hx
  split
  · exact h4
  split
  · rfl
  split
  · show fineL [⟨_, _, _, _⟩] = true
    rw [fineL, fineL, Bool.and_true, fine_eq, Bool.and_eq_true]
    refine ⟨ht.1, fineL_set _ _ _ ht.2 ?_⟩
    have hs := nth_fine ht.2 o.f5.toNat
    rw [fine_eq, Bool.and_eq_true] at hs ⊢
    exact ⟨hs.1, hl⟩
  split
  · unfold unwrappedG
    split
    · rfl
    · have hs := nth_fine hx.2 o.f5.toNat
      rw [fine_eq, Bool.and_eq_true] at hs
      exact hs.2
  · show fineL [⟨_, _, _, _⟩] = true
    rw [fineL, fineL, Bool.and_true, fine_eq, Bool.and_eq_true]
    exact ⟨decide_eq_true h7, hx.2⟩
theorem new_fine (r : S24) (o : S27) (h4 : fineL o.f4 = true) (h7 : o.f7.data.toList.length ≤ 9223372036854775807) (hr : fine r = true) : fine (newRow r o) = true := by
  rw [fine_eq, Bool.and_eq_true] at hr
  show fine ⟨_, _, _, newL _ _⟩ = true
  rw [fine_eq, Bool.and_eq_true]
  refine ⟨hr.1, ?_⟩
  show fineL (newL _ _) = true
  unfold newL
  rw [fineL_app, fineL_app, Bool.and_eq_true, Bool.and_eq_true]
  exact ⟨fineL_sub (List.take_sublist _ _) hr.2, change_fine o _ h4 h7 (fineL_sub ((List.drop_sublist _ _).trans (List.take_sublist _ _)) hr.2), fineL_sub (List.drop_sublist _ _) hr.2⟩
theorem ErrPost.ok {w : World} {ev : Int} {e : Ending} {w' : World} (h : ErrPost w ev e w') : ∃ (A' : Option Addr) (c' : Nat), e = .returned (.tuple #[.agg #[.int .i64 (z24, ev).1.f0, .string (z24, ev).1.f1, .int .i64 (z24, ev).1.f2, .slice A' (z24, ev).1.f3.length c'], .int .i64 (z24, ev).2]) ∧ (z24, ev).1.f3.length ≤ c' ∧ Kd.F k24 w' (fun k => w.heap.size ≤ k) A' (z24, ev).1.f3.length (z24, ev).1.f3 ∧ Below w.heap.size w w' :=
  ⟨none, 0, h.1, Nat.le_refl _, Kd.F_nil _ _ _, h.2⟩
set_option maxHeartbeats 2000000 in
theorem apply_any (x : S24) (o : S27) (A AR AN : Option Addr) (c cR cN : Nat) (w : World) (hfx : fine x = true) (h4 : fineL o.f4 = true) (h7 : o.f7.data.toList.length ≤ 9223372036854775807) (hc : x.f3.length ≤ c) (hcR : o.f1.length ≤ cR) (hcN : o.f4.length ≤ cN) (hA : Kd.C k24 w A x.f3.length x.f3) (hR : Kd.C (Kd.int .i64) w AR o.f1.length o.f1) (hN : Kd.C k24 w AN o.f4.length o.f4) :
    Calls Tryd.prog 11 #[.agg #[.int .i64 x.f0, .string x.f1, .int .i64 x.f2, .slice A x.f3.length c], .agg #[.int .i64 o.f0, .slice AR o.f1.length cR, .int .i64 o.f2, .int .i64 o.f3, .slice AN o.f4.length cN, .int .i64 o.f5, .string o.f6, .string o.f7]] w fun e w' => ∃ (A' : Option Addr) (c' : Nat), e = .returned (.tuple #[.agg #[.int .i64 (applyE x o).1.f0, .string (applyE x o).1.f1, .int .i64 (applyE x o).1.f2, .slice A' (applyE x o).1.f3.length c'], .int .i64 (applyE x o).2]) ∧ (applyE x o).1.f3.length ≤ c' ∧ Kd.F k24 w' (fun k => w.heap.size ≤ k) A' (applyE x o).1.f3.length (applyE x o).1.f3 ∧ Below w.heap.size w w' := by
  have HVA := fun W h => valid_any x A c W hfx hc h
  by_cases hv : validB x = true
  case neg =>
    have hR2 : applyE x o = (z24, 1) := by unfold applyE; rw [if_neg hv]
    rw [hR2]
    have hv2 : validB x = false := by simpa using hv
    rw [hv2] at HVA
    exact (apply_e1 x o A AR AN c cR cN w ⟨hA⟩ ⟨hR⟩ ⟨hN⟩ ⟨HVA⟩).mono (fun _ _ h => h.ok)
  rw [hv] at HVA
  have HFA := fun W h1 h2 => edit_Formed.calls 3 o.f0 AR cR o.f1 o.f2 o.f3 AN cN o.f4 o.f5 o.f6 o.f7 _ W h1 hcR h2 hcN (formed_f o h4)
  by_cases hf : formedB o = true
  case neg =>
    have hR2 : applyE x o = (z24, 4) := by unfold applyE; rw [if_pos hv, if_neg hf]
    rw [hR2]
    have hf2 : formedB o = false := by simpa using hf
    rw [hf2] at HFA
    exact (apply_e2 x o A AR AN c cR cN w ⟨hA⟩ ⟨hR⟩ ⟨hN⟩ ⟨HVA⟩ ⟨HFA⟩).mono (fun _ _ h => h.ok)
  rw [hf] at HFA
  have HRW := fun W h1 h2 => rowE_any x o.f1 A AR c cR W hfx hc hcR h1 h2
  by_cases hr : (rowG x o.f1).2 = true
  case neg =>
    have hR2 : applyE x o = (z24, 8) := by unfold applyE; rw [if_pos hv, if_pos hf, if_neg hr]
    rw [hR2]
    have hre : rowE x o.f1 = (z24, 8) := by unfold rowE; rw [if_pos hv, if_neg hr]
    rw [hre] at HRW
    exact (apply_e3 z24 8 (by decide) x o A AR AN c cR cN w ⟨hA⟩ ⟨hR⟩ ⟨hN⟩ ⟨HVA⟩ ⟨HFA⟩ ⟨HRW⟩).mono (fun _ _ h => h.ok)
  have hre : rowE x o.f1 = ((rowG x o.f1).1, 0) := by unfold rowE; rw [if_pos hv, if_pos hr]
  rw [hre] at HRW
  have hok := row_withOk hr
  have hvx := valid_cnt hv
  have hrc := (row_sub o.f1.length x o.f1 (Nat.le_refl _)).2
  have hrf := (row_sub o.f1.length x o.f1 (Nat.le_refl _)).1 hfx
  have hxe := cnt_eq x
  have hE : applyE x o = if o.f2 < 0 ∨ ((rowG x o.f1).1.f3.length : Int) < o.f2 ∨ ((rowG x o.f1).1.f3.length : Int) - o.f2 < needsI o then (z24, 2)
        else if (changeG o (oldL (rowG x o.f1).1.f3 o)).2 = true then
          if validB (newRow (rowG x o.f1).1 o) = true ∧ validB (withG x o.f1 (newRow (rowG x o.f1).1 o)) = true then (withG x o.f1 (newRow (rowG x o.f1).1 o), 0) else (z24, 6)
        else (z24, 7) := by unfold applyE; rw [if_pos hv, if_pos hf, if_pos hr]
  rw [hE]
  have hgW : ∀ rr, WithOk x o.f1 → withE x o.f1 rr = (if validB rr = true then (if validB (withG x o.f1 rr) = true then (withG x o.f1 rr, 0) else (z24, 6)) else (z24, 4)) := fun rr _ => by unfold withE; rw [if_pos hv, if_pos hr]
  have HWA := fun (A2 : Option Addr) (c2 : Nat) (W : World) hl h1 h2 h3 => withE_any x (newRow (rowG x o.f1).1 o) o.f1 A AR A2 c cR c2 W hfx (new_fine _ o h4 h7 hrf) hc hcR hl h1 h2 h3
  rw [hgW _ hok] at HWA
  have hchf := change_cnt o (oldL (rowG x o.f1).1.f3 o) hf
  have hol := @old_len (rowG x o.f1).1.f3 o
  have hsp := @old_split (rowG x o.f1).1.f3 o
  have hnw : newRow (rowG x o.f1).1 o = ⟨(rowG x o.f1).1.f0, (rowG x o.f1).1.f1, (rowG x o.f1).1.f2, newL (rowG x o.f1).1.f3 o⟩ := rfl
  generalize rowG x o.f1 = RG at *
  obtain ⟨r, rb⟩ := RG
  simp only at HRW hrc hrf hE HWA hchf hol hsp hnw ⊢
  have HNE := fun W h1 h2 => edit_needs.calls o.f0 AR cR o.f1 o.f2 o.f3 AN cN o.f4 o.f5 o.f6 o.f7 _ W h1 hcR h2 hcN (needs_f o)
  have hnn := needs_nonneg hf
  have hlr := cntL_len r.f3
  by_cases h39 : o.f2 < 0
  · rw [if_pos (.inl h39)]
    exact (apply_e4a r x o A AR AN c cR cN w ⟨hA⟩ ⟨hR⟩ ⟨hN⟩ ⟨HVA⟩ ⟨HFA⟩ ⟨HRW⟩ (decide_eq_true h39)).mono (fun _ _ h => h.ok)
  by_cases h44 : (r.f3.length : Int) < o.f2
  · rw [if_pos (.inr (.inl h44))]
    exact (apply_e4b r x o A AR AN c cR cN w ⟨hA⟩ ⟨hR⟩ ⟨hN⟩ ⟨HVA⟩ ⟨HFA⟩ ⟨HRW⟩ (decide_eq_false h39) (decide_eq_true h44)).mono (fun _ _ h => h.ok)
  have hw1 : wrap64 ((r.f3.length : Int) - o.f2) = (r.f3.length : Int) - o.f2 := by unfold wrap64; omega
  by_cases h53 : (r.f3.length : Int) - o.f2 < needsI o
  · rw [if_pos (.inr (.inr h53))]
    exact (apply_e4c r (needsI o) x o A AR AN c cR cN w ⟨hA⟩ ⟨hR⟩ ⟨hN⟩ ⟨HVA⟩ ⟨HFA⟩ ⟨HRW⟩ ⟨HNE⟩ (decide_eq_false h39) (decide_eq_false h44) (decide_eq_true (by rw [hw1]; exact h53))).mono (fun _ _ h => h.ok)
  rw [if_neg (by omega)]
  have hw2 : wrap64 (o.f2 + needsI o) = o.f2 + needsI o := by unfold wrap64; omega
  have hpl := path_len o.f1 x hok
  have hfc := formed_cnt hf
  have HCO := fun (P : Nat → Prop) (W : World) h1 h2 => copied_any o AR AN cR cN P W (by omega) (by omega) h1 h2
  have hol' := hol (by omega) hnn (by omega)
  have hsp' := congrArg cntL (hsp (by omega) hnn)
  rw [cntL_append, cntL_append] at hsp'
  have hco : ChangeOk o (oldL r.f3 o) := by
    have hx0 : ∀ l : List S24, 0 < l.length → cntL (nth l 0).f3 < cntL l := fun l hl => by
      have := cntL_get (nth_some hl)
      have := cnt_eq (nth l 0)
      omega
    unfold ChangeOk
    rcases kinds hf with hk | hk | hk | hk | hk
    · rw [if_pos hk]; trivial
    · rw [if_neg (by omega), if_pos hk]; trivial
    · rw [if_neg (by omega), if_neg (by omega), if_pos hk]
      obtain ⟨_, ⟨t, ht⟩, _, hs0, hs, _⟩ := wrap_parts hf (.inl hk)
      have hl4 : 0 < o.f4.length := by rw [ht]; simp
      have := hx0 o.f4 hl4
      exact ⟨hl4, hs0, hs, by omega⟩
    · rw [if_neg (by omega), if_neg (by omega), if_neg (by omega), if_pos hk]
      obtain ⟨_, ⟨t, ht⟩, _, hs0, hs, _⟩ := wrap_parts hf (.inr hk)
      have hl4 : 0 < o.f4.length := by rw [ht]; simp
      have hn1 : needsI o = 1 := by unfold needsI; rw [if_neg (by omega), if_neg (by omega), if_neg (by omega)]
      have hlo : 0 < (oldL r.f3 o).length := by omega
      have := hx0 _ hlo
      exact ⟨hl4, hs0, hlo, by omega⟩
    · rw [if_neg (by omega), if_neg (by omega), if_neg (by omega), if_neg (by omega)]
      have hn1 : needsI o = 1 := by unfold needsI; rw [if_neg (by omega), if_neg (by omega), if_neg (by omega)]
      omega
  have HCHA := fun (A2 AR2 AN2 : Option Addr) (c2 cR2 cN2 : Nat) (P : Nat → Prop) (W : World) h1 h2 h3 h4 => change_any o (oldL r.f3 o) A2 AR2 AN2 c2 cR2 cN2 P W hco h1 h2 h3 h4
  by_cases hch : (changeG o (oldL r.f3 o)).2 = true
  case neg =>
    rw [if_neg hch]
    have hch2 : (changeG o (oldL r.f3 o)).2 = false := by simpa using hch
    rw [hch2] at HCHA
    exact (apply_e5 (r.f3.take o.f2.toNat) (oldL r.f3 o) (r.f3.drop (o.f2 + needsI o).toNat) (changeG o (oldL r.f3 o)).1 (newL r.f3 o) (o.f2 + needsI o) r (needsI o) x o A AR AN c cR cN w ⟨hA⟩ ⟨hR⟩ ⟨hN⟩ ⟨HVA⟩ ⟨HFA⟩ ⟨HRW⟩ ⟨HNE⟩ (decide_eq_false h39) (decide_eq_false h44) (decide_eq_false (by rw [hw1]; exact h53)) hw2 (by omega) (by omega) (by omega) ⟨rfl⟩ ⟨HCO⟩ ⟨HCHA⟩).mono (fun _ _ h => h.ok)
  rw [if_pos hch]
  have hchc := hchf hol' hch
  rw [hch] at HCHA
  have hfl : [r.f3.take o.f2.toNat, (changeG o (oldL r.f3 o)).1, r.f3.drop (o.f2 + needsI o).toNat].flatten = newL r.f3 o := by simp [newL]
  have hnl : (newL r.f3 o).length ≤ 3000 := by
    have h9 := cntL_len (newL r.f3 o)
    unfold newL at h9 ⊢
    rw [cntL_append, cntL_append] at h9
    split at hchc <;> omega
  have HCA := fun (A2 : Option Addr) (c2 : Nat) (P : Nat → Prop) (W : World) h => concat_any [r.f3.take o.f2.toNat, (changeG o (oldL r.f3 o)).1, r.f3.drop (o.f2 + needsI o).toNat] A2 c2 P W h (by rw [hfl]; omega)
  rw [hfl] at HCA
  rw [hnw] at HWA ⊢
  simp only at HWA
  by_cases hvr : validB ⟨r.f0, r.f1, r.f2, newL r.f3 o⟩ = true
  case neg =>
    rw [if_neg (fun h => hvr h.1)]
    rw [if_neg hvr] at HWA
    exact (apply_e6 z24 4 (by decide) (r.f3.take o.f2.toNat) (oldL r.f3 o) (r.f3.drop (o.f2 + needsI o).toNat) (changeG o (oldL r.f3 o)).1 (newL r.f3 o) (o.f2 + needsI o) r (needsI o) x o A AR AN c cR cN w ⟨hA⟩ ⟨hR⟩ ⟨hN⟩ ⟨HVA⟩ ⟨HFA⟩ ⟨HRW⟩ ⟨HNE⟩ (decide_eq_false h39) (decide_eq_false h44) (decide_eq_false (by rw [hw1]; exact h53)) hw2 (by omega) (by omega) (by omega) ⟨rfl⟩ ⟨HCO⟩ ⟨HCHA⟩ ⟨rfl⟩ ⟨rfl⟩ ⟨HCA⟩ ⟨HWA⟩).mono (fun _ _ h => h.ok)
  rw [if_pos hvr] at HWA
  by_cases hva : validB (withG x o.f1 ⟨r.f0, r.f1, r.f2, newL r.f3 o⟩) = true
  case neg =>
    rw [if_neg (fun h => hva h.2)]
    rw [if_neg hva] at HWA
    exact (apply_e6 z24 6 (by decide) (r.f3.take o.f2.toNat) (oldL r.f3 o) (r.f3.drop (o.f2 + needsI o).toNat) (changeG o (oldL r.f3 o)).1 (newL r.f3 o) (o.f2 + needsI o) r (needsI o) x o A AR AN c cR cN w ⟨hA⟩ ⟨hR⟩ ⟨hN⟩ ⟨HVA⟩ ⟨HFA⟩ ⟨HRW⟩ ⟨HNE⟩ (decide_eq_false h39) (decide_eq_false h44) (decide_eq_false (by rw [hw1]; exact h53)) hw2 (by omega) (by omega) (by omega) ⟨rfl⟩ ⟨HCO⟩ ⟨HCHA⟩ ⟨rfl⟩ ⟨rfl⟩ ⟨HCA⟩ ⟨HWA⟩).mono (fun _ _ h => h.ok)
  rw [if_pos ⟨hvr, hva⟩]
  rw [if_pos hva] at HWA
  exact apply_ok (withG x o.f1 ⟨r.f0, r.f1, r.f2, newL r.f3 o⟩) (r.f3.take o.f2.toNat) (oldL r.f3 o) (r.f3.drop (o.f2 + needsI o).toNat) (changeG o (oldL r.f3 o)).1 (newL r.f3 o) (o.f2 + needsI o) r (needsI o) x o A AR AN c cR cN w ⟨hA⟩ ⟨hR⟩ ⟨hN⟩ ⟨HVA⟩ ⟨HFA⟩ ⟨HRW⟩ ⟨HNE⟩ (decide_eq_false h39) (decide_eq_false h44) (decide_eq_false (by rw [hw1]; exact h53)) hw2 (by omega) (by omega) (by omega) ⟨rfl⟩ ⟨HCO⟩ ⟨HCHA⟩ ⟨rfl⟩ ⟨rfl⟩ ⟨HCA⟩ ⟨HWA⟩
/-- What edit.Apply needs of the size of texts. -/
def fineO (o : S27) : Bool := fineL o.f4 && (decide (o.f6.data.toList.length ≤ 9223372036854775807) && decide (o.f7.data.toList.length ≤ 9223372036854775807))
def edit_Apply.f (a0_0 : Int) (a0_1 : ByteArray) (a0_2 : Int) (l0_3 : List S24) (a1_0 : Int) (l1_1 : List Int) (a1_2 : Int) (a1_3 : Int) (l1_4 : List S24) (a1_5 : Int) (a1_6 : ByteArray) (a1_7 : ByteArray) : Option (Int × ByteArray × Int × List S24 × Int) :=
  if fine ⟨a0_0, a0_1, a0_2, l0_3⟩ = true ∧ fineO ⟨a1_0, l1_1, a1_2, a1_3, l1_4, a1_5, a1_6, a1_7⟩ = true then some ((applyE ⟨a0_0, a0_1, a0_2, l0_3⟩ ⟨a1_0, l1_1, a1_2, a1_3, l1_4, a1_5, a1_6, a1_7⟩).1.f0, (applyE ⟨a0_0, a0_1, a0_2, l0_3⟩ ⟨a1_0, l1_1, a1_2, a1_3, l1_4, a1_5, a1_6, a1_7⟩).1.f1, (applyE ⟨a0_0, a0_1, a0_2, l0_3⟩ ⟨a1_0, l1_1, a1_2, a1_3, l1_4, a1_5, a1_6, a1_7⟩).1.f2, (applyE ⟨a0_0, a0_1, a0_2, l0_3⟩ ⟨a1_0, l1_1, a1_2, a1_3, l1_4, a1_5, a1_6, a1_7⟩).1.f3, (applyE ⟨a0_0, a0_1, a0_2, l0_3⟩ ⟨a1_0, l1_1, a1_2, a1_3, l1_4, a1_5, a1_6, a1_7⟩).2) else none
theorem edit_Apply.calls (a0_0 : Int) (a0_1 : ByteArray) (a0_2 : Int) (A0_3 : Option Addr) (c0_3 : Nat) (l0_3 : List S24) (a1_0 : Int) (A1_1 : Option Addr) (c1_1 : Nat) (l1_1 : List Int) (a1_2 : Int) (a1_3 : Int) (A1_4 : Option Addr) (c1_4 : Nat) (l1_4 : List S24) (a1_5 : Int) (a1_6 : ByteArray) (a1_7 : ByteArray) (r1 : Int) (r2 : ByteArray) (r3 : Int) (r4 : List S24) (r5 : Int) (w : World) (hr0_3 : Kd.C k24 w A0_3 l0_3.length l0_3) (hc0_3 : l0_3.length ≤ c0_3) (hr1_1 : Kd.C (Kd.int .i64) w A1_1 l1_1.length l1_1) (hc1_1 : l1_1.length ≤ c1_1) (hr1_4 : Kd.C k24 w A1_4 l1_4.length l1_4) (hc1_4 : l1_4.length ≤ c1_4) (h : edit_Apply.f a0_0 a0_1 a0_2 l0_3 a1_0 l1_1 a1_2 a1_3 l1_4 a1_5 a1_6 a1_7 = some (r1, r2, r3, r4, r5)) :
    Calls Tryd.prog 11 #[.agg #[.int .i64 a0_0, .string a0_1, .int .i64 a0_2, .slice A0_3 l0_3.length c0_3], .agg #[.int .i64 a1_0, .slice A1_1 l1_1.length c1_1, .int .i64 a1_2, .int .i64 a1_3, .slice A1_4 l1_4.length c1_4, .int .i64 a1_5, .string a1_6, .string a1_7]] w fun e w' => ∃ v3_ : Value, e = .returned (.tuple #[.agg #[.int .i64 r1, .string r2, .int .i64 r3, v3_], .int .i64 r5]) ∧ Kd.V k24 24 w' w.heap.size (fun k_ => w.heap.size ≤ k_) v3_ r4 ∧ Below w.heap.size w w' := by
  unfold edit_Apply.f at h
  split at h
  · rename_i hh
    have ho := hh.2
    unfold fineO at ho
    simp only [Bool.and_eq_true, decide_eq_true_eq] at ho
    simp only [Option.some.injEq, Prod.mk.injEq] at h
    obtain ⟨rfl, rfl, rfl, rfl, rfl⟩ := h
    refine (apply_any ⟨a0_0, a0_1, a0_2, l0_3⟩ ⟨a1_0, l1_1, a1_2, a1_3, l1_4, a1_5, a1_6, a1_7⟩ A0_3 A1_1 A1_4 c0_3 c1_1 c1_4 w hh.1 ho.1 ho.2.2 hc0_3 hc1_1 hc1_4 hr0_3 hr1_1 hr1_4).mono ?_
    rintro e w' ⟨A', c', rfl, hl, hF, hb⟩
    exact ⟨_, rfl, ⟨A', c', rfl, hl, hF⟩, hb⟩
  · cases h
end Go.Proofs.YtgcpfelccfnnbaaDoor.X
