/-
Part 8 of the texts of this proof: the walks through the program's functions.
-/
import Derived.Test.YtgcpfelccfnnbaaDoorMCounts2
import Derived.Test.YtgcpfelccfnnbaaDoorMCounts3
import Derived.Test.YtgcpfelccfnnbaaDoorMCounts4
import Derived.Test.YtgcpfelccfnnbaaDoorMCounts5
import Derived.Test.YtgcpfelccfnnbaaDoorMCounts6
import Derived.Test.YtgcpfelccfnnbaaDoorMCounts7
namespace Go.Proofs.YtgcpfelccfnnbaaDoor.X
open Go.RowKit Go.Proofs.YtgcpfelccfnnbaaDoorW.PrintWords Go.Proofs.YtgcpfelccfnnbaaDoorW.PrintLast Go.Proofs.YtgcpfelccfnnbaaDoorW.PrintMore
attribute [local go_sem] max2_int min2_int max_two min_two max_three min_three max_four min_four   -- for this text's walks alone
set_option linter.unusedVariables false
set_option linter.unusedSimpArgs false
theorem ba_toList (s : ByteArray) : s.toList = s.data.toList := by
  obtain ⟨⟨l⟩⟩ := s
  exact ByteArray.toList_mk l
theorem ba_size (s : ByteArray) : s.size = s.data.toList.length := by simp
theorem bt_get {s : ByteArray} {i : Nat} (h : i < s.size) (h' : i < s.data.toList.length) : bt s (i : Int) = ((s.data.toList[i]).toNat : Int) := by
  unfold bt
  rw [dif_pos (by simpa using h)]
  simp only [Int.toNat_natCast]
  congr 2
def letterB (c : UInt8) : Bool := decide (97 ≤ c.toNat ∧ c.toNat ≤ 122) || decide (65 ≤ c.toNat ∧ c.toNat ≤ 90)
theorem letter_f (c : UInt8) : node_letter.f (c.toNat : Int) = some (letterB c) := by
  unfold node_letter.f letterB
  by_cases h1 : (c.toNat : Int) ≥ 97
  · rw [if_pos h1]
    by_cases h2 : (c.toNat : Int) ≤ 122
    · rw [if_pos h2, decide_eq_true (p := 97 ≤ c.toNat ∧ c.toNat ≤ 122) (by omega)]; rfl
    · rw [if_neg h2, if_pos (by omega), decide_eq_false (p := 97 ≤ c.toNat ∧ c.toNat ≤ 122) (by omega), decide_eq_false (p := 65 ≤ c.toNat ∧ c.toNat ≤ 90) (by omega), decide_eq_false (by omega)]; rfl
  · rw [if_neg h1, decide_eq_false (p := 97 ≤ c.toNat ∧ c.toNat ≤ 122) (by omega)]
    by_cases h2 : (c.toNat : Int) ≥ 65
    · rw [if_pos h2]
      by_cases h3 : c.toNat ≤ 90
      · rw [decide_eq_true (p := 65 ≤ c.toNat ∧ c.toNat ≤ 90) (by omega), decide_eq_true (by omega)]; rfl
      · rw [decide_eq_false (p := 65 ≤ c.toNat ∧ c.toNat ≤ 90) (by omega), decide_eq_false (by omega)]; rfl
    · rw [if_neg h2, decide_eq_false (p := 65 ≤ c.toNat ∧ c.toNat ≤ 90) (by omega)]; rfl
theorem indexB_contains (l : List UInt8) (c : UInt8) : decide (Lib.indexByte l c ≥ 0) = l.contains c := by
  have hg := Lib.indexByte_ge l c
  by_cases h : Lib.indexByte l c = -1
  · have h2 := Lib.indexByte_none h
    rw [h]
    have : ¬ c ∈ l := fun hm => by
      obtain ⟨k, hk⟩ := List.mem_iff_getElem?.1 hm
      exact h2 k hk
    simp [this]
  · obtain ⟨o, ho⟩ : ∃ o : Nat, Lib.indexByte l c = o := ⟨(Lib.indexByte l c).toNat, by omega⟩
    have h2 := (Lib.indexByte_some ho).1
    rw [ho]
    have : c ∈ l := List.mem_iff_getElem?.2 ⟨o, h2⟩
    simp [this]
theorem contains_f (a : ByteArray) (c : UInt8) : strings_Contains.f a ⟨#[c]⟩ = some (a.data.toList.contains c) := by
  unfold strings_Contains.f strings_Index.f stringslite_Index.f
  simp only [Option.bind_some]
  rw [← indexB_contains]
theorem contains_f' (a s : ByteArray) (c : UInt8) (h : s.data.toList = [c]) : strings_Contains.f a s = some (a.data.toList.contains c) := by
  have : s = ⟨#[c]⟩ := by
    obtain ⟨⟨l⟩⟩ := s
    simp at h
    subst h
    rfl
  rw [this, contains_f]
theorem among_l (l : List ByteArray) (a : ByteArray) (hl : l.length ≤ 1000) (d : Nat) : ∀ (k i : Nat), d < k → i + d = l.length → ∃ r : Int, slices_Index_string_string.l0 k l a (l.length : Int) (i : Int) = some r ∧ (decide (r ≥ 0) = (l.drop i).any fun x => a.data.toList == x.data.toList) := by
  induction d with
  | zero =>
    intro k i hk h
    obtain ⟨k, rfl⟩ : ∃ m, k = m + 1 := ⟨k - 1, by omega⟩
    refine ⟨-1, ?_, ?_⟩
    · simp only [slices_Index_string_string.l0]
      rw [if_neg (by omega)]
    · rw [List.drop_eq_nil_of_le (by omega)]
      rfl
  | succ d ih =>
    intro k i hk h
    obtain ⟨k, rfl⟩ : ∃ m, k = m + 1 := ⟨k - 1, by omega⟩
    have hi : i < l.length := by omega
    obtain ⟨r, hr, hd⟩ := ih k (i + 1) (by omega) (by omega)
    have hw : wrap64 ((i : Int) + 1) = ((i + 1 : Nat) : Int) := by unfold wrap64; omega
    have hrd : rdOf ByteArray.empty l (i : Int) = l[i] := by simp [rdOf, List.getD_eq_getElem?_getD, List.getElem?_eq_getElem hi]
    have hdrop : l.drop i = l[i] :: l.drop (i + 1) := List.drop_eq_getElem_cons hi
    by_cases he : a.data.toList = l[i].data.toList
    · refine ⟨(i : Int), ?_, ?_⟩
      · simp only [slices_Index_string_string.l0]
        rw [if_pos (by omega), if_pos (by omega), if_pos (by omega), if_pos (by rw [ba_toList, ba_toList, hrd]; exact he)]
      · rw [hdrop, List.any_cons, he]
        simp
    · refine ⟨r, ?_, ?_⟩
      · rw [slices_Index_string_string.l0]
        rw [if_pos (by omega), if_pos (by omega), if_pos (by omega), if_neg (by rw [ba_toList, ba_toList, hrd]; exact he), hw]
        exact hr
      · rw [hdrop, List.any_cons, hd]
        have : (a.data.toList == l[i].data.toList) = false := by simpa using he
        rw [this, Bool.false_or]
theorem among_f (l : List ByteArray) (a : ByteArray) (hl : l.length ≤ 1000) (k : Nat) (hk : l.length < k) : slices_Contains_string_string.f k l a = some (l.any fun x => a.data.toList == x.data.toList) := by
  obtain ⟨r, hr, hd⟩ := among_l l a hl l.length k 0 hk (by omega)
  unfold slices_Contains_string_string.f slices_Index_string_string.f
  rw [show ((0 : Nat) : Int) = 0 from rfl] at hr
  rw [hr]
  simp only [Option.bind_some]
  rw [hd, List.drop_zero]
def accL (l : List UInt8) : Bool := [[104, 97, 116], [98, 97, 114], [118, 101, 99], [100, 111, 116], [116, 105, 108, 100, 101], [99, 104, 101, 99, 107]].any fun x => l == x
def keyL (l : List UInt8) : Bool := [[102, 114, 97, 99], [114, 111, 111, 116], [109, 97, 116, 114, 105, 120], [102, 101, 110, 99, 101]].any fun x => l == x
theorem accent_f (s : ByteArray) (k : Nat) (hk : 6 < k) : node_accent.f k s = some (accL s.data.toList) := by
  unfold node_accent.f
  rw [among_f _ _ (by decide) k (by exact hk)]
  rfl
def charsL : List UInt8 := [43, 45, 42, 47, 61, 60, 62, 44, 59, 58, 33, 124, 39, 63, 126, 64]
def symL (l : List UInt8) : Bool := if l.length = 1 then letterB (l.headD 0) || charsL.contains (l.headD 0) else decide (2 ≤ l.length) && (decide (l.length ≤ 16) && (!accL l && (!keyL l && l.all letterB)))
theorem sym_l (s : ByteArray) (hs : s.data.toList.length ≤ 16) (d : Nat) : ∀ (k i : Nat), d < k → i + d = s.data.toList.length → node_Symbol.l0 k s (s.size : Int) (i : Int) = some ((s.data.toList.drop i).all letterB) := by
  have hsz := ba_size s
  induction d with
  | zero =>
    intro k i hk h
    obtain ⟨k, rfl⟩ : ∃ m, k = m + 1 := ⟨k - 1, by omega⟩
    rw [node_Symbol.l0, if_neg (by omega), List.drop_eq_nil_of_le (by omega)]
    rfl
  | succ d ih =>
    intro k i hk h
    obtain ⟨k, rfl⟩ : ∃ m, k = m + 1 := ⟨k - 1, by omega⟩
    have hi : i < s.data.toList.length := by omega
    have hw : wrap64 ((i : Int) + 1) = ((i + 1 : Nat) : Int) := by unfold wrap64; omega
    have hr := ih k (i + 1) (by omega) (by omega)
    rw [node_Symbol.l0, if_pos (by omega), if_pos (by omega), if_pos (by omega), bt_get (by omega) hi, letter_f, List.drop_eq_getElem_cons hi, List.all_cons, hw, hr]
    simp only [Option.bind_some]
    cases letterB s.data.toList[i] <;> rfl
theorem symbol_f (s : ByteArray) (k : Nat) (hk : 20 < k) : node_Symbol.f k s = some (symL s.data.toList) := by
  have hsz := ba_size s
  obtain ⟨k, rfl⟩ : ∃ m, k = m + 1 := ⟨k - 1, by omega⟩
  unfold node_Symbol.f symL
  by_cases h1 : s.data.toList.length = 1
  · rw [if_pos (by omega), if_pos (by omega), if_pos h1]
    obtain ⟨c, hc⟩ := List.length_eq_one_iff.1 h1
    have hb := bt_get (s := s) (i := 0) (by omega) (by omega)
    rw [show ((0 : Nat) : Int) = 0 from rfl] at hb
    rw [hb, letter_f, contains_f' _ _ c hc]
    simp only [hc, List.getElem_cons_zero, Option.bind_some, List.headD_cons]
    cases letterB c <;> rfl
  · rw [if_neg (by omega), if_neg h1]
    have hj : ∀ b : Bool, node_Symbol.j0 (k + 1) s b = if b = true then some false else node_Symbol.l0 k s (s.size : Int) 0 := fun b => by rw [node_Symbol.j0]
    by_cases h2 : s.data.toList.length < 2
    · rw [if_pos (by omega), hj, if_pos rfl, decide_eq_false (by omega), Bool.false_and]
    · rw [if_neg (by omega), decide_eq_true (by omega), Bool.true_and]
      by_cases h3 : s.data.toList.length ≤ 16
      · rw [if_neg (by omega), accent_f s _ (by omega), decide_eq_true h3, Bool.true_and]
        simp only [Option.bind_some]
        cases ha : accL s.data.toList with
        | true => rw [if_pos rfl, hj, if_pos rfl]; rfl
        | false =>
          rw [if_neg (by decide), among_f _ _ (by decide) _ (by show 4 < k + 1; omega)]
          simp only [Option.bind_some]
          rw [hj]
          have hkey : ([(⟨#[102, 114, 97, 99]⟩ : ByteArray), (⟨#[114, 111, 111, 116]⟩ : ByteArray), (⟨#[109, 97, 116, 114, 105, 120]⟩ : ByteArray), (⟨#[102, 101, 110, 99, 101]⟩ : ByteArray)].any fun x => s.data.toList == x.data.toList) = keyL s.data.toList := rfl
          rw [hkey]
          cases keyL s.data.toList with
          | true => rfl
          | false =>
            have hl := sym_l s h3 s.data.toList.length k 0 (by omega) (by omega)
            rw [show ((0 : Nat) : Int) = 0 from rfl] at hl
            rw [if_neg (by decide), hl]
            rfl
      · rw [if_pos (by omega), hj, if_pos rfl, decide_eq_false h3, Bool.false_and]
def digitB (c : UInt8) : Bool := decide (48 ≤ c.toNat ∧ c.toNat ≤ 57)
def digitsL (l : List UInt8) : Bool := !l.isEmpty && l.all digitB
theorem digit_mem (c : UInt8) : ([48, 49, 50, 51, 52, 53, 54, 55, 56, 57] : List UInt8).contains c = digitB c := by
  obtain ⟨n, hn, rfl⟩ : ∃ n, ∃ h : n < 256, c = UInt8.ofNat n := ⟨c.toNat, c.toNat_lt, by simp⟩
  revert n
  decide +kernel
theorem dropW_nil {α : Type} (p : α → Bool) (l : List α) : l.dropWhile p = [] ↔ ∀ x, x ∈ l → p x = true := by
  induction l with
  | nil => simp
  | cons a t ih =>
    rw [List.dropWhile_cons]
    cases h : p a <;> simp [h, ih]
theorem trim_nil (l cs : List UInt8) : Lib.trimS l cs = [] ↔ l.all (cs.contains ·) = true := by
  unfold Lib.trimS Lib.trimLeftS Lib.trimRightS
  constructor
  · intro h
    rw [dropW_nil] at h
    have h2 : (l.reverse.dropWhile (cs.contains ·)) = [] := by
      cases hd : l.reverse.dropWhile (cs.contains ·) with
      | nil => rfl
      | cons a t =>
        have h3 := h a (by rw [hd]; simp)
        have h4 := List.head_dropWhile_not (cs.contains ·) (l := l.reverse) (by rw [hd]; simp)
        simp only [hd, List.head_cons] at h4
        rw [h3] at h4
        cases h4
    rw [dropW_nil] at h2
    rw [List.all_eq_true]
    intro x hx
    exact h2 x (by simpa using hx)
  · intro h
    rw [List.all_eq_true] at h
    have h2 : l.reverse.dropWhile (cs.contains ·) = [] := by
      rw [dropW_nil]
      intro x hx
      exact h x (by simpa using hx)
    rw [h2]
    rfl
theorem digits_f (s : ByteArray) (hs : s.data.toList.length ≤ 1000) : node_digits.f s = some (digitsL s.data.toList) := by
  have hsz := ba_size s
  unfold node_digits.f digitsL
  rw [ba_toList]
  by_cases h : s.data.toList = []
  · rw [if_pos h, h]; rfl
  · rw [if_neg h]
    unfold strings_Trim.f
    rw [if_pos ⟨by decide, by omega, by decide⟩]
    simp only [Option.bind_some]
    rw [ba_toList]
    have he : s.data.toList.isEmpty = false := by simpa using h
    have ha : s.data.toList.all (([48, 49, 50, 51, 52, 53, 54, 55, 56, 57] : List UInt8).contains ·) = s.data.toList.all digitB := by
      congr 1
      funext c
      exact digit_mem c
    have h2 := trim_nil s.data.toList [48, 49, 50, 51, 52, 53, 54, 55, 56, 57]
    rw [ha] at h2
    rw [he]
    simp only [Bool.not_false, Bool.true_and]
    congr 1
    cases hb : s.data.toList.all digitB with
    | true => rw [h2.2 hb]; rfl
    | false =>
      have : ¬ Lib.trimS s.data.toList [48, 49, 50, 51, 52, 53, 54, 55, 56, 57] = [] := fun e => by rw [h2.1 e] at hb; cases hb
      simpa using this
/-- What lies ahead of the first point and behind it; is there one? -/
def cutL : List UInt8 → List UInt8 × List UInt8 × Bool
  | [] => ([], [], false)
  | c :: l => if c = 46 then ([], l, true) else ((c :: (cutL l).1), (cutL l).2.1, (cutL l).2.2)
theorem cut_idx (l : List UInt8) : if Lib.indexByte l 46 = -1 then cutL l = (l, [], false) else cutL l = (l.take (Lib.indexByte l 46).toNat, l.drop ((Lib.indexByte l 46).toNat + 1), true) := by
  induction l with
  | nil => simp [Lib.indexByte, cutL]
  | cons c l ih =>
    have hg := Lib.indexByte_ge l 46
    by_cases h : c = 46
    · subst h
      simp [Lib.indexByte, cutL]
    · have hb : (c == 46) = false := by simpa using h
      rw [Lib.indexByte, cutL, if_neg h, hb]
      simp only [Bool.false_eq_true, if_false]
      by_cases h2 : Lib.indexByte l 46 = -1
      · rw [if_pos h2] at ih
        simp [h2, ih]
      · rw [if_neg h2] at ih
        have hb2 : (Lib.indexByte l 46 == -1) = false := by simpa using h2
        rw [hb2]
        simp only [Bool.false_eq_true, if_false]
        rw [if_neg (by omega), ih]
        have : (Lib.indexByte l 46 + 1).toNat = (Lib.indexByte l 46).toNat + 1 := by omega
        rw [this]
        simp
def numL (l : List UInt8) : Bool := decide (l.length ≤ 20) && (digitsL (cutL l).1 && (!(cutL l).2.2 || digitsL (cutL l).2.1))
theorem ext_take (s : ByteArray) (n : Nat) : (s.extract 0 n).data.toList = s.data.toList.take n := by
  rw [Lib.extract_data]; simp
theorem ext_drop (s : ByteArray) (n : Nat) : (s.extract n s.size).data.toList = s.data.toList.drop n := by
  rw [Lib.extract_data, List.take_of_length_le (by rw [List.length_drop, ba_size]; omega)]
theorem number_f (s : ByteArray) : node_Number.f s = some (numL s.data.toList) := by
  have hsz := ba_size s
  unfold node_Number.f numL
  by_cases h : s.data.toList.length ≤ 20
  · rw [if_neg (by omega), decide_eq_true h, Bool.true_and]
    have hi := Lib.indexByte_ge s.data.toList 46
    have hcut := cut_idx s.data.toList
    unfold strings_Cut.f stringslite_Cut.f stringslite_Index.f
    simp only [Option.bind_some]
    by_cases h2 : Lib.indexByte s.data.toList 46 = -1
    · rw [if_pos h2] at hcut
      rw [h2, if_neg (by decide), hcut]
      simp only [Option.bind_some]
      rw [digits_f s (by omega)]
      simp only [Option.bind_some]
      cases digitsL s.data.toList <;> rfl
    · rw [if_neg h2] at hcut
      obtain ⟨o, ho⟩ : ∃ o : Nat, Lib.indexByte s.data.toList 46 = o := ⟨(Lib.indexByte s.data.toList 46).toNat, by omega⟩
      have hlt : o < s.data.toList.length := by
        have h3 := (Lib.indexByte_some ho).1
        exact (List.getElem?_eq_some_iff.1 h3).1
      rw [ho] at hcut ⊢
      have hw : wrap64 ((o : Int) + (((⟨#[46]⟩ : ByteArray).size : Nat) : Int)) = ((o + 1 : Nat) : Int) := by
        show wrap64 ((o : Int) + 1) = _
        unfold wrap64; omega
      rw [if_pos (by omega), if_pos (by omega), if_pos (by omega), hw, if_pos (by omega), if_pos (by omega), hcut]
      simp only [Option.bind_some, Int.toNat_natCast]
      rw [digits_f _ (by rw [ext_take]; simp; omega), digits_f _ (by rw [ext_drop]; simp; omega), ext_take, ext_drop]
      simp only [Option.bind_some]
      cases digitsL (s.data.toList.take o) <;> cases digitsL (s.data.toList.drop (o + 1)) <;> rfl
  · rw [if_pos (by omega), decide_eq_false h, Bool.false_and]
def printB (c : UInt8) : Bool := decide (32 ≤ c.toNat) && decide (c.toNat ≤ 126)
def printL (l : List UInt8) : Bool := l.all printB && decide (l.length ≤ 200)
theorem print_l (s : ByteArray) (hs : s.data.toList.length ≤ 9223372036854775807) (d : Nat) : ∀ (k i : Nat), d < k → i + d = s.data.toList.length → node_printable.l0 k s (s.size : Int) (i : Int) = some ((s.data.toList.drop i).all printB && decide (s.data.toList.length ≤ 200)) := by
  have hsz := ba_size s
  induction d with
  | zero =>
    intro k i hk h
    obtain ⟨k, rfl⟩ : ∃ m, k = m + 1 := ⟨k - 1, by omega⟩
    rw [node_printable.l0, if_neg (by omega), List.drop_eq_nil_of_le (by omega)]
    simp only [List.all_nil, Bool.true_and]
    congr 1
    by_cases h2 : s.data.toList.length ≤ 200
    · rw [decide_eq_true h2, decide_eq_true (by omega)]
    · rw [decide_eq_false h2, decide_eq_false (by omega)]
  | succ d ih =>
    intro k i hk h
    obtain ⟨k, rfl⟩ : ∃ m, k = m + 1 := ⟨k - 1, by omega⟩
    have hi : i < s.data.toList.length := by omega
    have hw : wrap64 ((i : Int) + 1) = ((i + 1 : Nat) : Int) := by unfold wrap64; omega
    have hr := ih k (i + 1) (by omega) (by omega)
    rw [node_printable.l0, if_pos (by omega), if_pos (by omega), if_pos (by omega), bt_get (by omega) hi, List.drop_eq_getElem_cons hi, List.all_cons, hw, hr]
    unfold printB
    by_cases h1 : 32 ≤ (s.data.toList[i]).toNat
    · rw [if_neg (by omega), decide_eq_true h1]
      by_cases h2 : (s.data.toList[i]).toNat ≤ 126
      · rw [if_neg (by omega), decide_eq_true h2]; rfl
      · rw [if_pos (by omega), decide_eq_false h2]; rfl
    · rw [if_pos (by omega), decide_eq_false h1]; rfl
theorem printable_f (s : ByteArray) (hs : s.data.toList.length ≤ 9223372036854775807) (k : Nat) (hk : s.data.toList.length < k) : node_printable.f k s = some (printL s.data.toList) := by
  have hl := print_l s hs s.data.toList.length k 0 hk (by omega)
  rw [show ((0 : Nat) : Int) = 0 from rfl] at hl
  unfold node_printable.f printL
  rw [hl, List.drop_zero]
def delimsL : List UInt8 := [40, 41, 91, 93, 123, 125, 60, 62, 47, 124, 46]
def fenceL (l : List UInt8) : Bool := match l with
  | [a, b] => delimsL.contains a && delimsL.contains b
  | _ => false
theorem fence_f (s : ByteArray) : node_fence.f s = some (fenceL s.data.toList) := by
  have hsz := ba_size s
  unfold node_fence.f
  by_cases h : s.data.toList.length = 2
  · obtain ⟨a, b, hab⟩ : ∃ a b, s.data.toList = [a, b] := by
      generalize s.data.toList = l at h
      match l, h with
      | [a, b], _ => exact ⟨a, b, rfl⟩
    rw [if_pos (by omega), if_pos (by omega), if_pos (by omega), contains_f' _ _ a (by have h1 := ext_take s 1; rw [hab] at h1; exact h1), contains_f' _ _ b (by have h1 := ext_drop s 1; rw [hab] at h1; exact h1), hab]
    simp only [Option.bind_some, fenceL]
    show (if (delimsL.contains a) = true then some (delimsL.contains b) else some false) = _
    cases delimsL.contains a <;> rfl
  · rw [if_neg (by omega)]
    have : fenceL s.data.toList = false := by
      unfold fenceL
      split
      · rename_i hab; rw [hab] at h; exact absurd rfl h
      · rfl
    rw [this]
theorem empty_f (s : ByteArray) : node_empty.f s = some s.data.toList.isEmpty := by
  unfold node_empty.f
  rw [ba_toList]
  cases s.data.toList <;> rfl
def FORMS : Array Value := #[.string ⟨#[]⟩, .nilFunc, .int .i64 0, .string ⟨#[114, 111, 119]⟩, .func (.func 59) #[] #[], .int .i64 (-1), .string ⟨#[115, 121, 109]⟩, .func (.func 60) #[] #[], .int .i64 0, .string ⟨#[110, 117, 109]⟩, .func (.func 61) #[] #[], .int .i64 0, .string ⟨#[116, 101, 120, 116]⟩, .func (.func 62) #[] #[], .int .i64 0,
  .string ⟨#[102, 114, 97, 99]⟩, .func (.func 59) #[] #[], .int .i64 2, .string ⟨#[114, 111, 111, 116]⟩, .func (.func 59) #[] #[], .int .i64 2, .string ⟨#[115, 117, 98]⟩, .func (.func 59) #[] #[], .int .i64 2, .string ⟨#[115, 117, 112]⟩, .func (.func 59) #[] #[], .int .i64 2, .string ⟨#[98, 111, 116, 104]⟩, .func (.func 59) #[] #[], .int .i64 3,
  .string ⟨#[97, 99, 99, 101, 110, 116]⟩, .func (.func 63) #[] #[], .int .i64 1, .string ⟨#[102, 101, 110, 99, 101]⟩, .func (.func 64) #[] #[], .int .i64 1, .string ⟨#[109, 97, 116, 114, 105, 120]⟩, .func (.func 59) #[] #[], .int .i64 (-1)]
set_option maxRecDepth 100000 in
set_option maxHeartbeats 1000000 in
theorem forms_any (w : World) : Calls Tryd.prog 42 #[] w fun e w' => e = .returned (.slice (some ⟨w.heap.size, 0, none⟩) 13 13) ∧ w.alloc (.cells FORMS 79) = w' := by
  go_enter Tryd.func42, Tryd.ntmps42
  go_wp2
  go_ret
  exact ⟨rfl, rfl⟩
end Go.Proofs.YtgcpfelccfnnbaaDoor.X
