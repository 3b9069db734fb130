/-
Part 19 of the texts of this proof: the walks through the program's functions.
-/
import Derived.StillTailTactics
import Derived.Test.YtgcpfelccfnnbaaDoorMCounts2
import Derived.Test.YtgcpfelccfnnbaaDoorMCounts18
namespace Go.Proofs.YtgcpfelccfnnbaaDoor.X
open Go.RowKit Go.Proofs.YtgcpfelccfnnbaaDoorW.PrintWords Go.Proofs.YtgcpfelccfnnbaaDoorW.PrintLast Go.Proofs.YtgcpfelccfnnbaaDoorW.PrintMore
attribute [local go_sem] max2_int min2_int max_two min_two max_three min_three max_four min_four   -- for this text's walks alone
set_option linter.unusedVariables false
set_option linter.unusedSimpArgs false
/-- The row with a path; false: there is none. -/
def rowG : S24 → List Int → S24 × Bool
  | n, i :: s :: path => if 0 ≤ i ∧ i < n.f3.length ∧ 0 ≤ s ∧ s < (nth n.f3 i.toNat).f3.length then rowG (nth (nth n.f3 i.toNat).f3 s.toNat) path else (z24, false)
  | n, [_] => (n, false)
  | n, [] => (n, true)
theorem add_zero_ (a : Addr) : a.add 0 = a := by unfold Addr.add; simp
theorem elemF {wr : World} {l : List S24} {A : Option Addr} {P : Nat → Prop} {i : Nat} (h : Kd.F k24 wr P A l.length l) (hi : i < l.length) :
    ∃ ad A3 c3, A = some ad ∧ (nth l i).f3.length ≤ c3 ∧ Aside0 (Kd.F k24 wr P A3 (nth l i).f3.length (nth l i).f3) ∧
    wr.cell? (ad.add (i * 4)) = some (.int .i64 (nth l i).f0) ∧ wr.cell? ⟨(ad.add (i * 4)).block, (ad.add (i * 4)).off + 1, none⟩ = some (.string (nth l i).f1) ∧ wr.cell? ⟨(ad.add (i * 4)).block, (ad.add (i * 4)).off + 2, none⟩ = some (.int .i64 (nth l i).f2) ∧ wr.cell? ⟨(ad.add (i * 4)).block, (ad.add (i * 4)).off + 3, none⟩ = some (.slice A3 (nth l i).f3.length c3) := by
  obtain ⟨ad, cs, rfl, hcl, hK, hcc, _⟩ := Kd.F_get h z24 (i : Int) (by omega) (by omega)
  simp only [Int.toNat_natCast] at hK hcc
  obtain ⟨A3, c3, rfl, hl3, hF3⟩ := k24_openF hK
  have hnx : l.getD i z24 = nth l i := rfl
  rw [hnx] at hcc hl3 hF3
  exact ⟨ad, A3, c3, rfl, hl3, ⟨hF3⟩, hcc 0 _ rfl, by rw [← add_field _ _ 1 (by omega)]; exact hcc 1 _ rfl, by rw [← add_field _ _ 2 (by omega)]; exact hcc 2 _ rfl, by rw [← add_field _ _ 3 (by omega)]; exact hcc 3 _ rfl⟩
set_option maxRecDepth 100000 in
set_option maxHeartbeats 2000000 in
theorem row_any (x : S24) (p : List Int) (A B : Option Addr) (c d : Nat) (P : Nat → Prop) (w : World) (hc : x.f3.length ≤ c) (hd : p.length ≤ d) (hF : Kd.F k24 w P A x.f3.length x.f3) (hp : Kd.C (Kd.int .i64) w B p.length p) :
    Calls Tryd.prog 46 #[.agg #[.int .i64 x.f0, .string x.f1, .int .i64 x.f2, .slice A x.f3.length c], .slice B p.length d] w fun e w' => ∃ (A' : Option Addr) (c' : Nat), e = .returned (.tuple #[.agg #[.int .i64 (rowG x p).1.f0, .string (rowG x p).1.f1, .int .i64 (rowG x p).1.f2, .slice A' (rowG x p).1.f3.length c'], .bool (rowG x p).2]) ∧ (rowG x p).1.f3.length ≤ c' ∧ Kd.F k24 w' P A' (rowG x p).1.f3.length (rowG x p).1.f3 ∧ Below w.heap.size w w' := by
  have HF := Aside0.mk (Kd.F_bound hF)
  have HPA := Aside0.mk hp
  have hpl := hp.2.1
  go_enter Tryd.func46, Tryd.ntmps46
  go_wp2_with fail
  have HB0 : Aside0 (Below w.heap.size w ((w.alloc (.cells #[.int .i64 x.f0, .string x.f1, .int .i64 x.f2, .slice A x.f3.length c] 24)).alloc (.cells #[.int .i64 0, .string ⟨#[]⟩, .int .i64 0, .slice none 0 0] 24))) := ⟨below_alloc (below_alloc (Below.refl _ _) _) _⟩
  clear hF hp
  go_loopg [1] p.length (fun kq v1 wr => ∃ (y : S24) (q : List Int) (A' B' : Option Addr) (c' d' : Nat), v1 = .slice B' q.length d' ∧ Aside0 (q.length ≤ kq) ∧ Aside0 (q.length ≤ 9223372036854775807) ∧ Aside0 (q.length ≤ d') ∧ Aside0 (y.f3.length ≤ c') ∧ Aside0 (rowG y q = rowG x p) ∧ Aside0 (Kd.C (Kd.int .i64) w B' q.length q) ∧ Aside0 (Kd.F k24 w (fun k => P k ∧ k < w.heap.size) A' y.f3.length y.f3) ∧ Aside0 (wr.heap[w.heap.size]? = some (.cells #[.int .i64 y.f0, .string y.f1, .int .i64 y.f2, .slice A' y.f3.length c'] 24 (0, 0))) ∧ Aside0 (wr.heap[w.heap.size + 1]? = some (.cells #[.int .i64 0, .string ⟨#[]⟩, .int .i64 0, .slice none 0 0] 24 (0, 0))) ∧ Aside0 (Below w.heap.size w wr))
  case atStart => exact ⟨x, p, A, B, c, d, rfl, ⟨Nat.le_refl _⟩, ⟨hpl⟩, ⟨hd⟩, ⟨hc⟩, ⟨rfl⟩, HPA, HF, ⟨alloc2_fst _ _ _⟩, ⟨alloc2_snd _ _ _⟩, HB0⟩
  case round =>
    clear HB0 HPA HF hc hd hpl
    obtain ⟨y, q, A', B', c', d', rfl, HK, HM, HD, HC, HE, HQ, HFy, HBk, HRk, HB⟩ := hrel
    have b0 := blk_cell HBk.out 0
    have b1 := blk_cell HBk.out 1
    have b2 := blk_cell HBk.out 2
    have b3 := blk_cell HBk.out 3
    have r0 := blk_cell HRk.out 0
    have r1 := blk_cell HRk.out 1
    have r2 := blk_cell HRk.out 2
    have r3 := blk_cell HRk.out 3
    have z0 := blk_frozen HRk.out 0
    have z1 := blk_frozen HRk.out 1
    have z2 := blk_frozen HRk.out 2
    have z3 := blk_frozen HRk.out 3
    match q, HK, HM, HD, HE, HQ with
    | [], HK, HM, HD, HE, HQ =>
      have HR : Aside0 (rowG x p = (y, true)) := ⟨by rw [← HE.out, rowG]⟩
      go_wp2
      refine bodyPost_ret (results_ct rfl _ _ (w.heap.size + 1) 24 #[.int .i64 y.f0, .string y.f1, .int .i64 y.f2, .slice A' y.f3.length c'] (0, 0) _ rfl (blk_put4 HRk.out) Tryd.underlying24 rfl (by kernel_rfl)) rfl ?_
      refine ⟨A', c', by rw [HR.out]; rfl, by rw [HR.out]; exact HC.out, ?_, below_set4 HB.out (by omega)⟩
      rw [HR.out]
      exact Kd.F_mono (F_set4 (Kd.F_step HFy.out (fun k hk _ => HB.out.block k hk.2)) (fun j hj => by have := hj.2; omega)) (fun k hk => hk.1)
    | [i], HK, HM, HD, HE, HQ =>
      have HR : Aside0 (rowG x p = (y, false)) := ⟨by rw [← HE.out, rowG]⟩
      go_wp2
      refine bodyPost_ret (results_ct rfl _ _ (w.heap.size + 1) 24 #[.int .i64 y.f0, .string y.f1, .int .i64 y.f2, .slice A' y.f3.length c'] (0, 0) _ rfl (blk_put4 HRk.out) Tryd.underlying24 rfl (by kernel_rfl)) rfl ?_
      refine ⟨A', c', by rw [HR.out]; rfl, by rw [HR.out]; exact HC.out, ?_, below_set4 HB.out (by omega)⟩
      rw [HR.out]
      exact Kd.F_mono (F_set4 (Kd.F_step HFy.out (fun k hk _ => HB.out.block k hk.2)) (fun j hj => by have := hj.2; omega)) (fun k hk => hk.1)
    | i :: s :: q', HK, HM, HD, HE, HQ =>
      obtain ⟨bd, rfl, hp0⟩ := Kd.at_int (Kd.C_below HQ.out HB.out) 0 (by omega) (by simp; omega)
      obtain ⟨bd', hbd, hp1⟩ := Kd.at_int (Kd.C_below HQ.out HB.out) 1 (by omega) (by simp; omega)
      injection hbd with hbd
      subst hbd
      have e0 : wr.cell? (bd.add 0) = some (.int .i64 i) := hp0
      have e0' : wr.cell? bd = some (.int .i64 i) := by have h := e0; rw [add_zero_] at h; exact h
      have e1 : wr.cell? (bd.add 1) = some (.int .i64 s) := hp1
      have e1' : wr.cell? ⟨bd.block, bd.off + 1, none⟩ = some (.int .i64 s) := hp1
      clear hp0 hp1
      have hq2 : q'.length + 2 ≤ 9223372036854775807 := HM.out
      go_wp2
      by_cases hi0 : i < 0
      · have HR : Aside0 (rowG x p = (z24, false)) := ⟨by rw [← HE.out, rowG, if_neg (by omega)]⟩
        clear HE
        go_region
        go_wp2
        refine bodyPost_ret (results_ct rfl _ _ (w.heap.size + 1) 24 #[.int .i64 0, .string ⟨#[]⟩, .int .i64 0, .slice none 0 0] (0, 0) _ rfl (blk_put4 HRk.out) Tryd.underlying24 rfl (by kernel_rfl)) rfl ?_
        refine ⟨none, 0, by rw [HR.out]; rfl, by rw [HR.out]; exact Nat.le_refl _, ?_, Below.drew (below_set4 HB.out (by omega))⟩
        rw [HR.out]
        exact Kd.F_nil _ _ _
      · by_cases hi1 : i < y.f3.length
        · obtain ⟨j, rfl⟩ : ∃ j : Nat, i = j := ⟨i.toNat, by omega⟩
          have hj : j < y.f3.length := by omega
          obtain ⟨ad, A3, c3, rfl, HC3, HF3, g0, g1, g2, g3⟩ := elemF (Kd.F_step HFy.out (fun k hk _ => HB.out.block k hk.2)) hj
          have HC3 := Aside0.mk HC3
          by_cases hs0 : s < 0
          · have HR : Aside0 (rowG x p = (z24, false)) := ⟨by rw [← HE.out, rowG]; simp only [Int.toNat_natCast]; rw [if_neg (by omega)]⟩
            clear HE
            go_region
            go_wp2
            refine bodyPost_ret (results_ct rfl _ _ (w.heap.size + 1) 24 #[.int .i64 0, .string ⟨#[]⟩, .int .i64 0, .slice none 0 0] (0, 0) _ rfl (blk_put4 HRk.out) Tryd.underlying24 rfl (by kernel_rfl)) rfl ?_
            refine ⟨none, 0, by rw [HR.out]; rfl, by rw [HR.out]; exact Nat.le_refl _, ?_, Below.drew (below_set4 HB.out (by omega))⟩
            rw [HR.out]
            exact Kd.F_nil _ _ _
          by_cases hs1 : s < (nth y.f3 j).f3.length
          · obtain ⟨r, rfl⟩ : ∃ r : Nat, s = r := ⟨s.toNat, by omega⟩
            have hr : r < (nth y.f3 j).f3.length := by omega
            obtain ⟨ad3, A4, c4, rfl, HC4, HF4, m0, m1, m2, m3⟩ := elemF HF3.out hr
            have HC4 := Aside0.mk HC4
            have HN : Aside0 (rowG (nth (nth y.f3 j).f3 r) q' = rowG x p) := ⟨by rw [← HE.out, rowG]; simp only [Int.toNat_natCast]; rw [if_pos (by omega)]⟩
            clear HE
            have y0 := blk_frozen HBk.out 0
            have y1 := blk_frozen HBk.out 1
            have y2 := blk_frozen HBk.out 2
            have y3 := blk_frozen HBk.out 3
            go_region
            go_wp2
            go_region
            have HQ2 : Aside0 (Kd.C (Kd.int .i64) w (if d' = 2 then some bd else some ⟨bd.block, bd.off + 2, none⟩) q'.length q') := ⟨Kd.C_drop (m := 2) HQ.out (by simp) HD.out⟩
            generalize (if d' = 2 then some bd else some ⟨bd.block, bd.off + 2, none⟩) = AA at HQ2 ⊢
            go_wp2
            have hkp : ∃ k', gk = k' + 1 := ⟨gk - 1, by have h := HK.out; simp only [List.length_cons] at h; omega⟩
            obtain ⟨k', rfl⟩ := hkp
            go_roundg k'
            case measure => omega
            case rel =>
              have HKo := HK.out
              have HDo := HD.out
              simp only [List.length_cons] at HKo HDo
              refine ⟨nth (nth y.f3 j).f3 r, q', A4, AA, c4, d' - 2, rfl, ⟨by omega⟩, ⟨by omega⟩, ⟨by omega⟩, HC4, HN, HQ2, ⟨?_⟩, ⟨?_⟩, ⟨?_⟩, ⟨?_⟩⟩
              · exact Kd.F_step HF4.out (fun k hk _ => (HB.out.block k hk.2).symm)
              · exact blk_put4 HBk.out
              · exact (heap_set4 (by omega)).trans HRk.out
              · exact Below.drew (Below.drew (below_set4 HB.out (Nat.le_refl _)))
          · have HR : Aside0 (rowG x p = (z24, false)) := ⟨by rw [← HE.out, rowG]; simp only [Int.toNat_natCast]; rw [if_neg (by omega)]⟩
            clear HE
            go_region
            go_wp2
            refine bodyPost_ret (results_ct rfl _ _ (w.heap.size + 1) 24 #[.int .i64 0, .string ⟨#[]⟩, .int .i64 0, .slice none 0 0] (0, 0) _ rfl (blk_put4 HRk.out) Tryd.underlying24 rfl (by kernel_rfl)) rfl ?_
            refine ⟨none, 0, by rw [HR.out]; rfl, by rw [HR.out]; exact Nat.le_refl _, ?_, Below.drew (below_set4 HB.out (by omega))⟩
            rw [HR.out]
            exact Kd.F_nil _ _ _
        · have HR : Aside0 (rowG x p = (z24, false)) := ⟨by rw [← HE.out, rowG, if_neg (by omega)]⟩
          clear HE
          go_region
          go_wp2
          refine bodyPost_ret (results_ct rfl _ _ (w.heap.size + 1) 24 #[.int .i64 0, .string ⟨#[]⟩, .int .i64 0, .slice none 0 0] (0, 0) _ rfl (blk_put4 HRk.out) Tryd.underlying24 rfl (by kernel_rfl)) rfl ?_
          refine ⟨none, 0, by rw [HR.out]; rfl, by rw [HR.out]; exact Nat.le_refl _, ?_, Below.drew (below_set4 HB.out (by omega))⟩
          rw [HR.out]
          exact Kd.F_nil _ _ _
def node_row.f (a0_0 : Int) (a0_1 : ByteArray) (a0_2 : Int) (l0_3 : List S24) (l1 : List Int) : Option (Int × ByteArray × Int × List S24 × Bool) := some ((rowG ⟨a0_0, a0_1, a0_2, l0_3⟩ l1).1.f0, (rowG ⟨a0_0, a0_1, a0_2, l0_3⟩ l1).1.f1, (rowG ⟨a0_0, a0_1, a0_2, l0_3⟩ l1).1.f2, (rowG ⟨a0_0, a0_1, a0_2, l0_3⟩ l1).1.f3, (rowG ⟨a0_0, a0_1, a0_2, l0_3⟩ l1).2)
theorem node_row.calls (a0_0 : Int) (a0_1 : ByteArray) (a0_2 : Int) (P0_3 : Nat → Prop) (A0_3 : Option Addr) (c0_3 : Nat) (l0_3 : List S24) (P1 : Nat → Prop) (A1 : Option Addr) (c1 : Nat) (l1 : List Int) (r1 : Int) (r2 : ByteArray) (r3 : Int) (r4 : List S24) (r5 : Bool) (w : World) (hs0_3 : Kd.V k24 24 w w.heap.size (fun k_ => P0_3 k_) (.slice A0_3 l0_3.length c0_3) l0_3) (hs1 : Kd.V (Kd.int .i64) 2 w w.heap.size (fun k_ => P1 k_) (.slice A1 l1.length c1) l1) (h : node_row.f a0_0 a0_1 a0_2 l0_3 l1 = some (r1, r2, r3, r4, r5)) :
    Calls Tryd.prog 46 #[.agg #[.int .i64 a0_0, .string a0_1, .int .i64 a0_2, .slice A0_3 l0_3.length c0_3], .slice A1 l1.length c1] w fun e w' => ∃ v3_ : Value, e = .returned (.tuple #[.agg #[.int .i64 r1, .string r2, .int .i64 r3, v3_], .bool r5]) ∧ Kd.V k24 24 w' w.heap.size (fun k_ => (P0_3 k_ ∨ P1 k_) ∨ w.heap.size ≤ k_) v3_ r4 ∧ Below w.heap.size w w' := by
  unfold node_row.f at h
  simp only [Option.some.injEq, Prod.mk.injEq] at h
  obtain ⟨rfl, rfl, rfl, rfl, rfl⟩ := h
  obtain ⟨A0, c0, h0, hl0, hF0⟩ := hs0_3
  obtain ⟨A2, c2, h1, hl1, hF1⟩ := hs1
  injection h0 with h0a h0b h0c
  injection h1 with h1a h1b h1c
  subst h0a
  subst h0c
  subst h1a
  subst h1c
  refine (row_any ⟨a0_0, a0_1, a0_2, l0_3⟩ l1 A0_3 A1 c0_3 c1 P0_3 w hl0 hl1 hF0 (Kd.F_now hF1)).mono ?_
  rintro e w' ⟨A', c', rfl, hl, hF, hb⟩
  exact ⟨_, rfl, ⟨A', c', rfl, hl, Kd.F_mono hF (fun k hk => .inl (.inl hk))⟩, hb⟩
end Go.Proofs.YtgcpfelccfnnbaaDoor.X
