/-
Part 29 of the texts of this proof: the walks through the program's functions.
-/
import Derived.Test.YtgcpfelccfnnbaaDoorMCounts2
namespace Go.Proofs.YtgcpfelccfnnbaaDoor.X
open Go.RowKit Go.Proofs.YtgcpfelccfnnbaaDoorW.PrintWords Go.Proofs.YtgcpfelccfnnbaaDoorW.PrintLast Go.Proofs.YtgcpfelccfnnbaaDoorW.PrintMore
attribute [local go_sem] max2_int min2_int max_two min_two max_three min_three max_four min_four   -- for this text's walks alone
set_option linter.unusedVariables false
set_option linter.unusedSimpArgs false
set_option maxRecDepth 100000 in
set_option maxHeartbeats 1000000 in
theorem grow_any (n : Nat) (w : World) (hn : n * 56 ≤ 140737488355328) :
    Calls Tryd.prog 55 #[.slice none 0 0, .int .i64 n] w fun e w' => ∃ (A' : Option Addr) (c' : Nat), e = .returned (.slice A' 0 c') ∧ Kd.N k24 24 w' w.heap.size (fun k => w.heap.size ≤ k) (.slice A' 0 c') [] ∧ Below w.heap.size w w' := by
  have hu := Tryd.underlying22
  have hzero : ∀ W : World, Kd.FK k24 W (fun _ => False) z24 [.int .i64 0, .string ⟨#[]⟩, .int .i64 0, .slice none 0 0] := fun W => k24_mkF W (fun _ => False) z24 (A3 := none) (c3 := 0) (Nat.le_refl _) (Kd.F_nil _ _ _)
  by_cases h0 : n = 0
  · subst h0
    go_enter Tryd.func55, Tryd.ntmps55
    go_wp2_with fail
    go_ret
    exact ⟨none, 0, rfl, Kd.N_nil _ _ _ _ _, Below.refl _ _⟩
  · have hp : 0 < n := by omega
    go_enter Tryd.func55, Tryd.ntmps55
    go_wp2_with (at_builtin; go_loud (refine Kd.N_append_zeros k24 (w0 := w) w.heap.size rfl (.tmp 20) (.tmp 21) 22 3 24 _ 56 rfl Tryd.underlying22 Tryd.underlying3 infoN rfl (show 0 < 4 from by decide) (by omega) (.slice none 0 0) [] z24 n (fun k => w.heap.size ≤ k) rfl rfl ?aZ (fun k hk => hk) (Kd.N_nil _ _ _ _ _) (by omega) (Below.refl _ _) (Nat.le_refl _) ?aL ?_; (case aZ => exact hzero _); (case aL => simpa using hn); intro v1 w1 HN HB HG HA; obtain ⟨A1, c1, rfl⟩ := Kd.N_slice HN; have hNl := (Kd.N_reads' HN).2.1; simp only [List.nil_append, List.length_replicate, Int.toNat_natCast] at HN hNl; have HT := Aside0.mk (Kd.N_take (m := 0) HN (Nat.zero_le _)); clear HN; have HB' := Aside0.mk HB; clear HB))
    go_ret
    exact ⟨A1, c1, rfl, HT.out, HB'.out⟩
end Go.Proofs.YtgcpfelccfnnbaaDoor.X
namespace Go.Proofs.YtgcpfelccfnnbaaDoor.X
open Go.RowKit Go.Proofs.YtgcpfelccfnnbaaDoorW.PrintWords Go.Proofs.YtgcpfelccfnnbaaDoorW.PrintLast Go.Proofs.YtgcpfelccfnnbaaDoorW.PrintMore
attribute [local go_sem] max2_int min2_int max_two min_two max_three min_three max_four min_four   -- for this text's walks alone
set_option linter.unusedVariables false
set_option linter.unusedSimpArgs false
theorem flat_succ {α : Type} (ls : List (List α)) (i : Nat) (hi : i < ls.length) : (ls.take (i + 1)).flatten = (ls.take i).flatten ++ ls.getD i [] := by
  rw [List.take_succ_eq_append_getElem hi, List.flatten_append, List.flatten_singleton, List.getD_eq_getElem?_getD, List.getElem?_eq_getElem hi]
  rfl
theorem flat_le {α : Type} (ls : List (List α)) (i : Nat) : (ls.take i).flatten.length ≤ ls.flatten.length := by
  have h : ls.flatten = (ls.take i).flatten ++ (ls.drop i).flatten := by rw [← List.flatten_append, List.take_append_drop]
  rw [h, List.length_append]; omega
def rowL (ls : List (List S24)) (i : Nat) : List S24 := ls.getD i []
def flN (ls : List (List S24)) (i : Nat) : Nat := (ls.take i).flatten.length
def flL (ls : List (List S24)) (i : Nat) : List S24 := (ls.take i).flatten
theorem flL_succ (ls : List (List S24)) (i : Nat) (hi : i < ls.length) : flL ls (i + 1) = flL ls i ++ rowL ls i := by unfold flL rowL; exact flat_succ ls i hi
theorem flN_succ (ls : List (List S24)) (i : Nat) (hi : i < ls.length) : flN ls (i + 1) = flN ls i + (rowL ls i).length := by unfold flN rowL; rw [flat_succ ls i hi, List.length_append]
theorem elemL {wr : World} {ls : List (List S24)} {A : Option Addr} {P : Nat → Prop} {i : Nat} (h : Kd.F (Kd.slice 24 k24) wr P A ls.length ls) (hi : i < ls.length) :
    ∃ ad A3 c3, A = some ad ∧ (rowL ls i).length ≤ c3 ∧ Aside0 (Kd.F k24 wr P A3 (rowL ls i).length (rowL ls i)) ∧ wr.cell? (ad.add i) = some (.slice A3 (rowL ls i).length c3) := by
  obtain ⟨ad, cs, rfl, hcl, hK, hcc, _⟩ := Kd.F_get h [] (i : Int) (by omega) (by omega)
  simp only [Int.toNat_natCast] at hK hcc
  rw [show ls.getD i [] = rowL ls i from rfl] at hK
  obtain ⟨A3, c3, rfl, hl3, hF3⟩ := Kd.FK_slice_open hK
  have h0 := hcc 0 _ rfl
  have hz : i * (Kd.slice 24 k24).sz + 0 = i := Nat.mul_one i
  rw [hz] at h0
  exact ⟨ad, A3, c3, rfl, hl3, ⟨hF3⟩, h0⟩
set_option maxRecDepth 100000 in
set_option maxHeartbeats 2000000 in
theorem concat_any (ls : List (List S24)) (A : Option Addr) (c : Nat) (P : Nat → Prop) (w : World) (hF : Kd.F (Kd.slice 24 k24) w P A ls.length ls) (hsum : ls.flatten.length * 56 ≤ 140737488355328) :
    Calls Tryd.prog 33 #[.slice A ls.length c] w fun e w' => ∃ v : Value, e = .returned v ∧ Kd.N k24 24 w' w.heap.size (fun k => P k ∨ w.heap.size ≤ k) v ls.flatten ∧ Below w.heap.size w w' := by
  have hu := Tryd.underlying22
  have HF := Aside0.mk (Kd.F_bound hF)
  have hlm := Kd.F_max hF
  clear hF
  go_enter Tryd.func33, Tryd.ntmps33
  go_wp2_with fail
  go_loopg [3, 11] ls.length (fun kq v3 v11 wr => ∃ i : Nat, v3 = .int .i64 (flN ls i) ∧ v11 = .int .i64 i ∧ Aside0 (i + kq = ls.length) ∧ Aside0 (wr = w))
  case atStart => exact ⟨0, rfl, rfl, ⟨by omega⟩, ⟨rfl⟩⟩
  case round =>
    obtain ⟨i, rfl, rfl, HK, HW⟩ := hrel
    have hW := HW.out.symm
    subst hW
    clear HW
    by_cases hlt : i < ls.length
    · obtain ⟨ad, A3, c3, rfl, HC3, HF3, e0⟩ := elemL HF.out hlt
      have hs1 := flN_succ ls i hlt
      have hs2 : flN ls (i + 1) ≤ ls.flatten.length := flat_le ls (i + 1)
      have hs3 : flN ls i + (rowL ls i).length ≤ 2513169434916 := by omega
      have HS1 := Aside0.mk hs1
      clear hs1 hs2
      go_wp2
      have hkp : ∃ k', gk = k' + 1 := ⟨gk - 1, by have := HK.out; omega⟩
      obtain ⟨k', rfl⟩ := hkp
      go_roundg k'
      case measure => omega
      case rel => exact ⟨i + 1, by rw [HS1.out]; go_num, by go_num, ⟨by have := HK.out; omega⟩, ⟨rfl⟩⟩
    · have hil : i = ls.length := by have := HK.out; omega
      have hfl : flN ls i = ls.flatten.length := by unfold flN; rw [hil, List.take_length]
      rw [hfl]
      have hsz : ls.flatten.length ≤ 2513169434916 := by omega
      generalize hNN : ls.flatten.length = NN at hsum hsz ⊢
      have HNN := Aside0.mk hNN
      clear hNN
      go_wp2_with (go_at_call 55; go_loud (refine (grow_any NN w hsum).mono ?_; rintro e w1 ⟨A6, c6, rfl, hN, hB⟩; have HN := Aside0.mk hN; have HB := Aside0.mk hB; clear hN hB))
      clear hfl hil hlt
      go_loopg [6, 27] ls.length (fun kq v6 v27 wr => ∃ i : Nat, v27 = .int .i64 i ∧ Aside0 (i + kq = ls.length) ∧ Aside0 (Kd.N k24 24 wr w.heap.size (fun k => (P k ∧ k < w.heap.size) ∨ w.heap.size ≤ k) v6 (flL ls i)) ∧ Aside0 (Below w.heap.size w wr))
      case atStart => exact ⟨0, rfl, ⟨by omega⟩, ⟨Kd.N_mono HN.out (fun k hk => .inr hk)⟩, HB⟩
      case round =>
        clear HN HB HK
        obtain ⟨j, rfl, HK, HN, HB⟩ := hrel
        obtain ⟨A7, c7, rfl⟩ := Kd.N_slice HN.out
        by_cases hlt : j < ls.length
        · obtain ⟨ad, A3, c3, rfl, HC3, HF3, e0⟩ := elemL (Kd.F_step HF.out (fun k hk _ => HB.out.block k hk.2)) hlt
          have hs1 := flL_succ ls j hlt
          have hs2 : (flL ls (j + 1)).length ≤ NN := by rw [← HNN.out]; exact flat_le ls (j + 1)
          have hs3 : (flL ls j).length + (rowL ls j).length ≤ 2513169434916 := by rw [hs1, List.length_append] at hs2; omega
          have HS1 := Aside0.mk hs1
          clear hs1 hs2
          go_wp2_with (at_builtin; go_loud (refine Kd.N_append_rows k24 (w0 := w) w.heap.size rfl (.tmp 31) (.tmp 32) 22 24 _ 56 rfl Tryd.underlying22 infoN rfl (show 0 < 4 from by decide) (by omega) (.slice A7 (flL ls j).length c7) (flL ls j) (rowL ls j) A3 (rowL ls j).length c3 (fun k => (P k ∧ k < w.heap.size) ∨ w.heap.size ≤ k) (fun k => P k ∧ k < w.heap.size) rfl rfl HN.out HF3.out ?aO (fun k hk => .inr (Nat.le_trans HB.out.size hk)) HB.out HB.out.size (by omega) ?_; (case aO => exact fun k hk => ⟨.inl hk, fun he => by have h9 := Kd.N_base HN.out k he.symm; have := hk.2; omega⟩); intro v1 w1 HN1 HB1 HG HA; have HN1 := Aside0.mk HN1; have HB1 := Aside0.mk HB1; clear HG HA))
          have hkp : ∃ k', gk = k' + 1 := ⟨gk - 1, by have := HK.out; omega⟩
          obtain ⟨k', rfl⟩ := hkp
          go_roundg k'
          case measure => omega
          case rel => exact ⟨j + 1, by go_num, ⟨by have := HK.out; omega⟩, ⟨by rw [HS1.out]; exact HN1.out⟩, HB1⟩
        · have hil : j = ls.length := by have := HK.out; omega
          have HE : Aside0 (flL ls j = ls.flatten) := ⟨by unfold flL; rw [hil, List.take_length]⟩
          clear hil
          go_wp2
          go_ret
          exact ⟨_, rfl, by rw [← HE.out]; exact Kd.N_mono HN.out (fun k hk => by rcases hk with hk | hk; exact .inl hk.1; exact .inr hk), HB.out⟩
end Go.Proofs.YtgcpfelccfnnbaaDoor.X
