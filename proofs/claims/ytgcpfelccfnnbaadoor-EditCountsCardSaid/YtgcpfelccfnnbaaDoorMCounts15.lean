/-
Part 15 of the texts of this proof: the walks through the program's functions.
-/
import Derived.Test.YtgcpfelccfnnbaaDoorMCounts2
import Derived.Test.YtgcpfelccfnnbaaDoorMCounts8
import Derived.Test.YtgcpfelccfnnbaaDoorMCounts14
namespace Go.Proofs.YtgcpfelccfnnbaaDoor.X
open Go.RowKit Go.Proofs.YtgcpfelccfnnbaaDoorW.PrintWords Go.Proofs.YtgcpfelccfnnbaaDoorW.PrintLast Go.Proofs.YtgcpfelccfnnbaaDoorW.PrintMore
attribute [local go_sem] max2_int min2_int max_two min_two max_three min_three max_four min_four   -- for this text's walks alone
set_option linter.unusedVariables false
set_option linter.unusedSimpArgs false
mutual
def chk : S24 → Nat → Nat → Option Nat
  | ⟨k, t, c, l⟩, left, depth => if left = 0 then none else if depth = 0 then none else if shapeB k t.data.toList c l.length = true then chkL l k (left - 1) (depth - 1) else none
def chkL : List S24 → Int → Nat → Nat → Option Nat
  | [], _, left, _ => some left
  | x :: l, k, left, depth => if decide (x.f0 = 1) = decide (k = 1) then none else (chk x left depth).bind fun left' => chkL l k left' depth
end
def CheckPost (gC gF : Nat) (w : World) (r : Option Nat) (e : Ending) (w' : World) : Prop :=
  w.grownBy w' (some gC) ∧ match r with
  | none => e = .returned (.bool false) ∧ ∃ z : Int, w'.heap[gC]? = some (.cells #[.slice (some ⟨gF, 0, none⟩) 13 13, .int .i64 z] 67 (0, 0))
  | some lf => e = .returned (.bool true) ∧ w'.heap[gC]? = some (.cells #[.slice (some ⟨gF, 0, none⟩) 13 13, .int .i64 (lf : Int)] 67 (0, 0))
mutual
theorem chk_le : ∀ {x : S24} {left depth lf : Nat}, chk x left depth = some lf → lf ≤ left
  | ⟨k, t, c, l⟩, left, depth, lf, h => by
    rw [chk] at h
    split at h
    · cases h
    · split at h
      · cases h
      · split at h
        · have := chkL_le h; omega
        · cases h
theorem chkL_le : ∀ {l : List S24} {k : Int} {left depth lf : Nat}, chkL l k left depth = some lf → lf ≤ left
  | [], k, left, depth, lf, h => by
    rw [chkL] at h
    injection h with h
    omega
  | x :: l, k, left, depth, lf, h => by
    rw [chkL] at h
    split at h
    · cases h
    · obtain ⟨l1, h1, h2⟩ := Option.bind_eq_some_iff.1 h
      have := chk_le h1
      have := chkL_le h2
      omega
end
set_option maxRecDepth 100000 in
set_option maxHeartbeats 2000000 in
theorem check_any (gC gF : Nat) (hne : gC ≠ gF) (N : Nat) : ∀ (x : S24) (A : Option Addr) (c left depth : Nat) (P : Nat → Prop) (w : World), cnt x ≤ N → fine x = true → left ≤ 1000 → depth ≤ 24 → x.f3.length ≤ c → Kd.F k24 w P A x.f3.length x.f3 → (∀ k, P k → k ≠ gC) →
    w.heap[gC]? = some (.cells #[.slice (some ⟨gF, 0, none⟩) 13 13, .int .i64 (left : Int)] 67 (0, 0)) → w.heap[gF]? = some (.cells FORMS 79 (0, 0)) →
    Calls Tryd.prog 43 #[.pointer (some ⟨gC, 0, none⟩), .agg #[.int .i64 x.f0, .string x.f1, .int .i64 x.f2, .slice A x.f3.length c], .int .i64 depth] w (CheckPost gC gF w (chk x left depth)) := by
  induction N with
  | zero => intro x A c left depth P w h; have := cnt_pos x; omega
  | succ N ih =>
  intro x A c left depth P w hN hfine hleft hdepth hc hF hP hC hFo
  have hsub : ∀ i, i < x.f3.length → cnt (nth x.f3 i) ≤ N ∧ fine (nth x.f3 i) = true := fun i hi => by
    have h1 := cntL_get (nth_some hi)
    have h2 := cnt_eq x
    rw [fine_eq, Bool.and_eq_true] at hfine
    exact ⟨by omega, fineL_get (nth_some hi) hfine.2⟩
  have htxt : x.f1.data.toList.length ≤ 9223372036854775807 := by
    rw [fine_eq, Bool.and_eq_true] at hfine
    exact of_decide_eq_true hfine.1
  have hlen := Kd.F_max hF
  obtain ⟨f0, f1, f2, l⟩ := x
  simp only at hsub htxt hlen hF hc ⊢
  have HS := Aside0.mk hsub
  clear hsub hfine hN
  have HFO := Aside0.mk hFo
  have HC := Aside0.mk hC
  have HP := Aside0.mk hP
  have hgC := blk_lt hC
  have hgF := blk_lt hFo
  have c1 := blk_cell hC 1
  have c0 := blk_cell hC 0
  have z1 := blk_frozen hC 1
  clear hC hFo hP
  have HG : ∀ z : Value, Aside0 ((((w.setCell ⟨gC, 1, none⟩ z).alloc (.cells #[.int .i64 f0, .string f1, .int .i64 f2, .slice A l.length c] 24))).heap[gC]? = some (.cells #[.slice (some ⟨gF, 0, none⟩) 13 13, z] 67 (0, 0))) := fun z => ⟨blk_alloc (blk_put HC.out 1 z rfl) _⟩
  have HW : ∀ z : Value, Aside0 (w.grownBy ((w.setCell ⟨gC, 1, none⟩ z).alloc (.cells #[.int .i64 f0, .string f1, .int .i64 f2, .slice A l.length c] 24)) (some gC)) := fun z => ⟨by
    refine ⟨rfl, rfl, rfl, by simp, fun i hi hne => ?_⟩
    rw [Below.heap_alloc _ _ _ (by simpa using hi), Below.heap_setCell _ _ _ _ (fun e => hne (by rw [e]))]⟩
  by_cases hl0 : left = 0
  · subst hl0
    have HR : Aside0 (chk ⟨f0, f1, f2, l⟩ 0 depth = none) := ⟨by simp [chk]⟩
    go_enter Tryd.func43, Tryd.ntmps43
    go_wp2
    go_ret
    rw [HR.out]
    exact ⟨(HW _).out, rfl, _, (HG _).out⟩
  · obtain ⟨m, rfl⟩ : ∃ m, left = m + 1 := ⟨left - 1, by omega⟩
    have hm : m ≤ 999 := by omega
    clear hl0 hleft
    have ec : ((m + 1 : Nat) : Int) = (m : Int) + 1 := by omega
    rw [ec] at c1
    clear ec
    by_cases hd0 : depth = 0
    · subst hd0
      have HR : Aside0 (chk ⟨f0, f1, f2, l⟩ (m + 1) 0 = none) := ⟨by simp [chk]⟩
      go_enter Tryd.func43, Tryd.ntmps43
      go_wp2
      go_ret
      rw [HR.out]
      exact ⟨(HW _).out, rfl, _, (HG _).out⟩
    · obtain ⟨d, rfl⟩ : ∃ d, depth = d + 1 := ⟨depth - 1, by omega⟩
      clear hd0
      have hd0b : (((d + 1 : Nat) : Int) == 0) = false := beq_eq_false_iff_ne.2 (by omega)
      have hd0c : ((d : Int) + 1 == 0) = false := beq_eq_false_iff_ne.2 (by omega)
      have hd : d ≤ 23 := by omega
      have hm0 : decide ((m : Int) < 0) = false := decide_eq_false (by omega)
      clear hdepth
      have HS1 := shape_any f0 f1 f2 A l.length c gC gF ((w.setCell ⟨gC, 1, none⟩ (.int .i64 (m : Int))).alloc (.cells #[.int .i64 f0, .string f1, .int .i64 f2, .slice A l.length c] 24)) htxt hlen (blk_cell (HG _).out 0) (blk_alloc (blk_far HFO.out (fun e => hne e.symm) _) _)
      have HSH := Aside0.mk HS1
      clear HS1
      cases hs : shapeB f0 f1.data.toList f2 l.length with
      | false =>
        have HR : Aside0 (chk ⟨f0, f1, f2, l⟩ (m + 1) (d + 1) = none) := ⟨by simp [chk, hs]⟩
        rw [hs] at HSH
        clear hs
        go_enter Tryd.func43, Tryd.ntmps43
        go_wp2_with (go_at_call 65; refine HSH.out.mono ?_; rintro e w1 ⟨rfl, hb⟩)
        go_ret
        rw [HR.out]
        refine ⟨World.grownBy.trans (HW _).out (grown_of_below hb _), rfl, _, (hb.block _ (blk_lt (HG _).out)).trans (HG _).out⟩
      | true =>
        have HR : Aside0 (chk ⟨f0, f1, f2, l⟩ (m + 1) (d + 1) = chkL l f0 m d) := ⟨by simp [chk, hs]⟩
        rw [hs] at HSH
        clear hs
        go_enter Tryd.func43, Tryd.ntmps43
        go_wp2_with (go_at_call 65; go_loud (refine HSH.out.mono ?_; rintro e w1 ⟨rfl, hb⟩; have HB1 : w1.heap[w.heap.size]? = some (.cells #[.int .i64 f0, .string f1, .int .i64 f2, .slice A l.length c] 24 (0, 0)) := (hb.block w.heap.size (by simp)).trans (by have h := heap_alloc_new (w.setCell ⟨gC, 1, none⟩ (.int .i64 (m : Int))) (.cells #[.int .i64 f0, .string f1, .int .i64 f2, .slice A l.length c] 24); simpa using h); have b0 := blk_cell HB1 0; have b3 := blk_cell HB1 3; have HBB := Aside0.mk HB1; clear HB1))
        have HW1 := Aside0.mk (World.grownBy.trans (HW (.int .i64 (m : Int))).out (grown_of_below hb (some gC)))
        have HG1 := Aside0.mk ((hb.block _ (blk_lt (HG (.int .i64 (m : Int))).out)).trans (HG (.int .i64 (m : Int))).out)
        have HFd := Aside0.mk hF
        clear hb b0 b3 HW HG HSH hF c0 c1 z1 hm0
        go_loopg [34] l.length (fun kq v34 wr => ∃ i lf : Nat, v34 = .int .i64 i ∧ Aside0 (i + kq = l.length) ∧ Aside0 (w.grownBy wr (some gC)) ∧ Aside0 (wr.heap[gC]? = some (.cells #[.slice (some ⟨gF, 0, none⟩) 13 13, .int .i64 (lf : Int)] 67 (0, 0))) ∧ Aside0 (wr.heap[w.heap.size]? = some (.cells #[.int .i64 f0, .string f1, .int .i64 f2, .slice A l.length c] 24 (0, 0))) ∧ Aside0 (lf ≤ 1000) ∧ Aside0 (chkL (l.drop i) f0 lf d = chkL l f0 m d))
        case atStart => exact ⟨0, m, rfl, ⟨by omega⟩, HW1, HG1, HBB, ⟨by omega⟩, ⟨by rw [List.drop_zero]⟩⟩
        case round =>
          clear HW1 HG1 HBB
          obtain ⟨i, lf, rfl, HK, HW, HG, HBB, HL, HE⟩ := hrel
          by_cases hlt : i < l.length
          · have hFr := Kd.F_grown HFd.out HW.out (fun k hk he => HP.out k hk (by injection he))
            obtain ⟨ad, cs, rfl, hcl, hFK, hcc, _⟩ := Kd.F_get hFr z24 (i : Int) (by omega) (by omega)
            simp only [Int.toNat_natCast] at hFK hcc
            obtain ⟨A3, c3, rfl, hl3, hF3⟩ := k24_openF hFK
            have hx := nth_some hlt
            have hnx : l.getD i z24 = nth l i := rfl
            rw [hnx] at hcc hl3 hF3
            have HF3 := Aside0.mk hF3
            have HX := Aside0.mk hx
            have e0 : wr.cell? (ad.add (i * 4)) = some (.int .i64 (nth l i).f0) := hcc 0 _ rfl
            have e1 : wr.cell? ⟨(ad.add (i * 4)).block, (ad.add (i * 4)).off + 1, none⟩ = some (.string (nth l i).f1) := by rw [← add_field _ _ 1 (by omega)]; exact hcc 1 _ rfl
            have e2 : wr.cell? ⟨(ad.add (i * 4)).block, (ad.add (i * 4)).off + 2, none⟩ = some (.int .i64 (nth l i).f2) := by rw [← add_field _ _ 2 (by omega)]; exact hcc 2 _ rfl
            have e3 : wr.cell? ⟨(ad.add (i * 4)).block, (ad.add (i * 4)).off + 3, none⟩ = some (.slice A3 (nth l i).f3.length c3) := by rw [← add_field _ _ 3 (by omega)]; exact hcc 3 _ rfl
            have b0 := blk_cell HBB.out 0
            have hBlt := blk_lt HBB.out
            clear hFK hcc hF3 hFr hcl hnx hx
            have hdrop : l.drop i = nth l i :: l.drop (i + 1) := by
              rw [List.drop_eq_getElem_cons hlt]
              congr 1
              have h2 := HX.out
              rw [List.getElem?_eq_getElem hlt] at h2
              injection h2
            have HE2 : Aside0 ((if decide ((nth l i).f0 = 1) = decide (f0 = 1) then none else (chk (nth l i) lf d).bind fun left' => chkL (l.drop (i + 1)) f0 left' d) = chkL l f0 m d) := ⟨by have h2 := HE.out; rw [hdrop] at h2; rw [chkL] at h2; exact h2⟩
            clear hdrop HE
            by_cases hx1 : (nth l i).f0 = 1
            · by_cases hf1 : f0 = 1
              · skip
                have q1 : ((nth l i).f0 == 1) = true := beq_iff_eq.2 hx1
                have q2 : (f0 == 1) = true := beq_iff_eq.2 hf1
                have HI : Aside0 (decide ((nth l i).f0 = 1) = decide (f0 = 1)) := ⟨by rw [decide_eq_true hx1, decide_eq_true hf1]⟩
                clear hx1 hf1
                go_wp2
                go_ret
                rw [HR.out, ← HE2.out, if_pos HI.out]
                exact ⟨World.grownBy.trans HW.out (grown_of_below (below_alloc (Below.refl _ _) _) _), rfl, _, blk_alloc HG.out _⟩
              · skip
                have q1 : ((nth l i).f0 == 1) = true := beq_iff_eq.2 hx1
                have q2 : (f0 == 1) = false := beq_eq_false_iff_ne.2 hf1
                have HI : Aside0 (¬ decide ((nth l i).f0 = 1) = decide (f0 = 1)) := ⟨by rw [decide_eq_true hx1, decide_eq_false hf1]; decide⟩
                clear hx1 hf1
                have hih := ih (nth l i) A3 c3 lf d P (wr.alloc (.cells #[.int .i64 (nth l i).f0, .string (nth l i).f1, .int .i64 (nth l i).f2, .slice A3 (nth l i).f3.length c3] 24)) (HS.out i hlt).1 (HS.out i hlt).2 HL.out (by omega) hl3 (Kd.F_alloc HF3.out _) HP.out (blk_alloc HG.out _) (blk_alloc ((HW.out.block gF hgF (fun e => hne (by injection e with e; exact e.symm))).trans HFO.out) _)
                have HIH := Aside0.mk hih
                clear hih
                cases hck : chk (nth l i) lf d with
                | none =>
                  have HCK := Aside0.mk hck
                  rw [hck] at HIH
                  clear hck
                  go_wp2_with (go_at_call 43; go_loud (refine HIH.out.mono ?_; rintro e w3 ⟨hg3, rfl, z3, hz3⟩))
                  go_ret
                  rw [HR.out, ← HE2.out, if_neg HI.out, HCK.out]
                  exact ⟨World.grownBy.trans (World.grownBy.trans HW.out (grown_of_below (below_alloc (Below.refl _ _) _) _)) hg3, rfl, _, hz3⟩
                | some lf' =>
                  have HCK := Aside0.mk hck
                  rw [hck] at HIH
                  have hle := chk_le hck
                  clear hck
                  go_wp2_with (go_at_call 43; go_loud (refine HIH.out.mono ?_; rintro e w3 ⟨hg3, rfl, hz3⟩))
                  obtain ⟨k', rfl⟩ : ∃ k', gk = k' + 1 := ⟨gk - 1, by have := HK.out; omega⟩
                  have hbb : w3.heap[w.heap.size]? = some (.cells #[.int .i64 f0, .string f1, .int .i64 f2, .slice (some ad) l.length c] 24 (0, 0)) := (hg3.block _ (by simp; omega) (fun e => by injection e with e; omega)).trans (blk_alloc HBB.out _)
                  go_roundg k'
                  case measure => omega
                  case rel => exact ⟨i + 1, lf', by go_num, ⟨by have := HK.out; omega⟩, ⟨World.grownBy.trans (World.grownBy.trans HW.out (grown_of_below (below_alloc (Below.refl _ _) _) _)) hg3⟩, ⟨hz3⟩, ⟨hbb⟩, ⟨by have := HL.out; omega⟩, ⟨by rw [← HE2.out, if_neg HI.out, HCK.out]; rfl⟩⟩
            · by_cases hf1 : f0 = 1
              · skip
                have q1 : ((nth l i).f0 == 1) = false := beq_eq_false_iff_ne.2 hx1
                have q2 : (f0 == 1) = true := beq_iff_eq.2 hf1
                have HI : Aside0 (¬ decide ((nth l i).f0 = 1) = decide (f0 = 1)) := ⟨by rw [decide_eq_false hx1, decide_eq_true hf1]; decide⟩
                clear hx1 hf1
                have hih := ih (nth l i) A3 c3 lf d P (wr.alloc (.cells #[.int .i64 (nth l i).f0, .string (nth l i).f1, .int .i64 (nth l i).f2, .slice A3 (nth l i).f3.length c3] 24)) (HS.out i hlt).1 (HS.out i hlt).2 HL.out (by omega) hl3 (Kd.F_alloc HF3.out _) HP.out (blk_alloc HG.out _) (blk_alloc ((HW.out.block gF hgF (fun e => hne (by injection e with e; exact e.symm))).trans HFO.out) _)
                have HIH := Aside0.mk hih
                clear hih
                cases hck : chk (nth l i) lf d with
                | none =>
                  have HCK := Aside0.mk hck
                  rw [hck] at HIH
                  clear hck
                  go_wp2_with (go_at_call 43; go_loud (refine HIH.out.mono ?_; rintro e w3 ⟨hg3, rfl, z3, hz3⟩))
                  go_ret
                  rw [HR.out, ← HE2.out, if_neg HI.out, HCK.out]
                  exact ⟨World.grownBy.trans (World.grownBy.trans HW.out (grown_of_below (below_alloc (Below.refl _ _) _) _)) hg3, rfl, _, hz3⟩
                | some lf' =>
                  have HCK := Aside0.mk hck
                  rw [hck] at HIH
                  have hle := chk_le hck
                  clear hck
                  go_wp2_with (go_at_call 43; go_loud (refine HIH.out.mono ?_; rintro e w3 ⟨hg3, rfl, hz3⟩))
                  obtain ⟨k', rfl⟩ : ∃ k', gk = k' + 1 := ⟨gk - 1, by have := HK.out; omega⟩
                  have hbb : w3.heap[w.heap.size]? = some (.cells #[.int .i64 f0, .string f1, .int .i64 f2, .slice (some ad) l.length c] 24 (0, 0)) := (hg3.block _ (by simp; omega) (fun e => by injection e with e; omega)).trans (blk_alloc HBB.out _)
                  go_roundg k'
                  case measure => omega
                  case rel => exact ⟨i + 1, lf', by go_num, ⟨by have := HK.out; omega⟩, ⟨World.grownBy.trans (World.grownBy.trans HW.out (grown_of_below (below_alloc (Below.refl _ _) _) _)) hg3⟩, ⟨hz3⟩, ⟨hbb⟩, ⟨by have := HL.out; omega⟩, ⟨by rw [← HE2.out, if_neg HI.out, HCK.out]; rfl⟩⟩
              · skip
                have q1 : ((nth l i).f0 == 1) = false := beq_eq_false_iff_ne.2 hx1
                have q2 : (f0 == 1) = false := beq_eq_false_iff_ne.2 hf1
                have HI : Aside0 (decide ((nth l i).f0 = 1) = decide (f0 = 1)) := ⟨by rw [decide_eq_false hx1, decide_eq_false hf1]⟩
                clear hx1 hf1
                go_wp2
                go_ret
                rw [HR.out, ← HE2.out, if_pos HI.out]
                exact ⟨World.grownBy.trans HW.out (grown_of_below (below_alloc (Below.refl _ _) _) _), rfl, _, blk_alloc HG.out _⟩
          · have hil : i = l.length := by have := HK.out; omega
            have HRR : Aside0 (chkL l f0 m d = some lf) := ⟨by rw [← HE.out, hil, List.drop_eq_nil_of_le (Nat.le_refl _)]; rfl⟩
            have b0 := blk_cell HBB.out 0
            clear hil HE
            go_wp2
            go_ret
            rw [HR.out, HRR.out]
            exact ⟨HW.out, rfl, HG.out⟩
end Go.Proofs.YtgcpfelccfnnbaaDoor.X
namespace Go.Proofs.YtgcpfelccfnnbaaDoor.X
open Go.RowKit Go.Proofs.YtgcpfelccfnnbaaDoorW.PrintWords Go.Proofs.YtgcpfelccfnnbaaDoorW.PrintLast Go.Proofs.YtgcpfelccfnnbaaDoorW.PrintMore
attribute [local go_sem] max2_int min2_int max_two min_two max_three min_three max_four min_four   -- for this text's walks alone
set_option linter.unusedVariables false
set_option linter.unusedSimpArgs false
def validB (x : S24) : Bool := decide (x.f0 = 1) && (chk x 1000 24).isSome
set_option maxRecDepth 100000 in
set_option maxHeartbeats 1000000 in
theorem valid_any (x : S24) (A : Option Addr) (c : Nat) (w : World) (hfine : fine x = true) (hc : x.f3.length ≤ c) (hr : Kd.C k24 w A x.f3.length x.f3) :
    Calls Tryd.prog 27 #[.agg #[.int .i64 x.f0, .string x.f1, .int .i64 x.f2, .slice A x.f3.length c]] w fun e w' => e = .returned (.bool (validB x)) ∧ Below w.heap.size w w' := by
  have HF := Aside0.mk (Kd.C_F k24_heap hr)
  have HFI := Aside0.mk hfine
  obtain ⟨f0, f1, f2, l⟩ := x
  simp only at HF hc ⊢
  clear hfine hr
  by_cases h1 : f0 = 1
  · subst h1
    have hst : ∀ o1 o2 o3 : Obj, Aside0 (Below w.heap.size w (((w.alloc o1).alloc o2).alloc o3)) := fun o1 o2 o3 => ⟨below_alloc (below_alloc (below_alloc (Below.refl _ _) _) _) _⟩
    have hchk := check_any (w.heap.size + 2) (w.heap.size + 1) (by omega) (cnt ⟨1, f1, f2, l⟩) ⟨1, f1, f2, l⟩ A c 1000 24 (fun k => k < w.heap.size) (((w.alloc (.cells #[.int .i64 1, .string f1, .int .i64 f2, .slice A l.length c] 24)).alloc (.cells FORMS 79)).alloc (.cells #[.slice (some ⟨w.heap.size + 1, 0, none⟩) 13 13, .int .i64 (1000 : Int)] 67)) (Nat.le_refl _) HFI.out (by omega) (by omega) hc (Kd.F_below (Kd.F_below (Kd.F_below HF.out (below_alloc (Below.refl _ _) _)) (below_alloc (Below.refl _ _) _)) (below_alloc (Below.refl _ _) _)) (fun k hk => by omega) (by have h := heap_alloc_new ((w.alloc (.cells #[.int .i64 1, .string f1, .int .i64 f2, .slice A l.length c] 24)).alloc (.cells FORMS 79)) (.cells #[.slice (some ⟨w.heap.size + 1, 0, none⟩) 13 13, .int .i64 (1000 : Int)] 67); simpa using h) (blk_alloc (by have h := heap_alloc_new (w.alloc (.cells #[.int .i64 1, .string f1, .int .i64 f2, .slice A l.length c] 24)) (.cells FORMS 79); simpa using h) _)
    have HCH := Aside0.mk hchk
    clear hchk
    cases hck : chk ⟨1, f1, f2, l⟩ 1000 24 with
    | none =>
      rw [hck] at HCH
      have HV : Aside0 (validB ⟨1, f1, f2, l⟩ = false) := ⟨by unfold validB; rw [hck]; rfl⟩
      clear hck
      go_enter Tryd.func27, Tryd.ntmps27
      go_wp2_with (first | (go_at_call 42; go_loud (refine (forms_any _).mono ?_; rintro e w1 ⟨rfl, rfl⟩)) | (go_at_call 43; go_loud (refine HCH.out.mono ?_; rintro e w3 ⟨hg3, rfl, z3, hz3⟩)))
      go_ret
      exact ⟨by rw [HV.out]; rfl, (hst _ _ _).out.grown hg3 (by simp; omega) (fun k hk => by injection hk with hk; omega)⟩
    | some lf =>
      rw [hck] at HCH
      have HV : Aside0 (validB ⟨1, f1, f2, l⟩ = true) := ⟨by unfold validB; rw [hck]; rfl⟩
      clear hck
      go_enter Tryd.func27, Tryd.ntmps27
      go_wp2_with (first | (go_at_call 42; go_loud (refine (forms_any _).mono ?_; rintro e w1 ⟨rfl, rfl⟩)) | (go_at_call 43; go_loud (refine HCH.out.mono ?_; rintro e w3 ⟨hg3, rfl, hz3⟩)))
      go_ret
      exact ⟨by rw [HV.out]; rfl, (hst _ _ _).out.grown hg3 (by simp; omega) (fun k hk => by injection hk with hk; omega)⟩
  · have q1 : (f0 == 1) = false := beq_eq_false_iff_ne.2 h1
    have HV : Aside0 (validB ⟨f0, f1, f2, l⟩ = false) := ⟨by unfold validB; rw [decide_eq_false h1]; rfl⟩
    clear h1
    have hst : ∀ o1 o2 o3 : Obj, Aside0 (Below w.heap.size w (((w.alloc o1).alloc o2).alloc o3)) := fun o1 o2 o3 => ⟨below_alloc (below_alloc (below_alloc (Below.refl _ _) _) _) _⟩
    go_enter Tryd.func27, Tryd.ntmps27
    go_wp2_with (go_at_call 42; go_loud (refine (forms_any _).mono ?_; rintro e w1 ⟨rfl, rfl⟩))
    go_ret
    exact ⟨by rw [HV.out]; rfl, (hst _ _ _).out⟩
def node_Valid.f (a0_0 : Int) (a0_1 : ByteArray) (a0_2 : Int) (l0_3 : List S24) : Option Bool := if fine ⟨a0_0, a0_1, a0_2, l0_3⟩ = true then some (validB ⟨a0_0, a0_1, a0_2, l0_3⟩) else none
theorem node_Valid.calls (a0_0 : Int) (a0_1 : ByteArray) (a0_2 : Int) (A0_3 : Option Addr) (c0_3 : Nat) (l0_3 : List S24) (r : Bool) (w : World) (hr0_3 : Kd.C k24 w A0_3 l0_3.length l0_3) (hc0_3 : l0_3.length ≤ c0_3) (h : node_Valid.f a0_0 a0_1 a0_2 l0_3 = some r) :
    Calls Tryd.prog 27 #[.agg #[.int .i64 a0_0, .string a0_1, .int .i64 a0_2, .slice A0_3 l0_3.length c0_3]] w fun e w' => e = .returned (.bool r) ∧ Below w.heap.size w w' := by
  unfold node_Valid.f at h
  split at h
  · rename_i hf
    injection h with h
    subst h
    exact valid_any ⟨a0_0, a0_1, a0_2, l0_3⟩ A0_3 c0_3 w hf hc0_3 hr0_3
  · cases h
end Go.Proofs.YtgcpfelccfnnbaaDoor.X
