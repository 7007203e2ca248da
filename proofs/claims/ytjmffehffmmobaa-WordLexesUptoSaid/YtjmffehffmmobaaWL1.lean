/-
  word's laws in plain Lean: the scanner on lists; the reference's answer is the same.
-/
import Derived.Test.YtjmffehffmmobaaWW6
import Derived.Test.YtjmffehffmmobaaPWordLexesx3
set_option linter.unusedVariables false
set_option linter.unusedSimpArgs false
namespace Go.Proofs.Ytjmffehffmmobaa.WW
open Go.Proofs Go.RowKit Go.Proofs.Ytjmffehffmmobaa.WP Go.Proofs.YtjmffehffmmobaaW.PrintWords Go.Proofs.Ytjmffehffmmobaa.PWordLexes

theorem toL_extract (a : ByteArray) (i j : Nat) : (a.extract i j).data.toList = (a.data.toList.drop i).take (j - i) := by
  rw [ByteArray.data_extract, Array.toList_extract]
theorem toL_rest (a : ByteArray) (i : Nat) : (a.extract i a.size).data.toList = a.data.toList.drop i := by
  rw [toL_extract, List.take_of_length_le]
  rw [List.length_drop]
  simp
def mkB (l : List UInt8) : ByteArray := ⟨l.toArray⟩
theorem mkB_toL (s : ByteArray) : mkB s.data.toList = s := rfl
theorem toL_mkB (l : List UInt8) : (mkB l).data.toList = l := rfl
theorem toL_inj {a b : ByteArray} (h : a.data.toList = b.data.toList) : a = b := Go.WideShapes.bytes_inj h
theorem empty_iff (s : ByteArray) : s = ⟨#[]⟩ ↔ s.data.toList = [] := ⟨fun h => by rw [h], fun h => toL_inj (by rw [h])⟩

/-- The scanner on lists. -/
def lexL : Nat → List UInt8 → Nat × Nat → Sum (Nat × Nat) (List S31)
  | 0, _, _ => .inr []
  | k + 1, l, p =>
    if l.drop (runL isB l) = [] then .inr [] else
    if (kindL (l.drop (runL isB l))).2 = 0 then .inl (advP p (l.take (runL isB l))) else
    match lexL k ((l.drop (runL isB l)).drop (kindL (l.drop (runL isB l))).2) (advP (advP p (l.take (runL isB l))) ((l.drop (runL isB l)).take (kindL (l.drop (runL isB l))).2)) with
    | .inl q => .inl q
    | .inr ts => .inr (⟨(kindL (l.drop (runL isB l))).1, mkB ((l.drop (runL isB l)).take (kindL (l.drop (runL isB l))).2), (advP p (l.take (runL isB l))).1, (advP p (l.take (runL isB l))).2⟩ :: ts)

theorem lexB_list (k : Nat) (s : ByteArray) (p : Nat × Nat) : lexB k s p = lexL k s.data.toList p := by
  induction k generalizing s p with
  | zero => rfl
  | succ k ih =>
    rw [lexB.eq_2, lexL.eq_2]
    have e1 := toL_rest s (runL isB s.data.toList)
    simp only [ih, empty_iff, e1, toL_rest]
    have e2 : ∀ n, (s.extract (runL isB s.data.toList) s.size).extract 0 n = mkB ((s.data.toList.drop (runL isB s.data.toList)).take n) := by
      intro n
      apply toL_inj
      rw [toL_extract, e1, toL_mkB]
      rfl
    simp only [e2]
    rfl

/-- A blank at the begin is passed over. -/
theorem lexL_blank (k : Nat) (c : UInt8) (l : List UInt8) (p : Nat × Nat) (h : isB c.toNat = true) : lexL (k + 1) (c :: l) p = lexL (k + 1) l (stepP p c) := by
  have hr : runL isB (c :: l) = runL isB l + 1 := if_pos h
  rw [lexL.eq_2, lexL.eq_2, hr]
  rfl
/-- What is no blank: no byte is passed over. -/
theorem runL_none (p : Nat → Bool) (c : UInt8) (l : List UInt8) (h : p c.toNat = false) : runL p (c :: l) = 0 := by
  show (if p c.toNat = true then _ else 0) = 0
  rw [h]
  rfl
theorem lexL_tok (k : Nat) (c : UInt8) (l : List UInt8) (p : Nat × Nat) (h : isB c.toNat = false) : lexL (k + 1) (c :: l) p =
    if (kindL (c :: l)).2 = 0 then .inl p else
    match lexL k ((c :: l).drop (kindL (c :: l)).2) (advP p ((c :: l).take (kindL (c :: l)).2)) with
    | .inl q => .inl q
    | .inr ts => .inr (⟨(kindL (c :: l)).1, mkB ((c :: l).take (kindL (c :: l)).2), p.1, p.2⟩ :: ts) := by
  rw [lexL.eq_2, runL_none isB c l h]
  rfl
theorem lexL_nil (k : Nat) (p : Nat × Nat) : lexL k [] p = .inr [] := by
  cases k with
  | zero => rfl
  | succ k => rw [lexL.eq_2]; rfl

/-! The reference. -/
theorem bt_at (s : ByteArray) (i : Nat) (h : i < s.size) : bt s (i : Int) = ((s.data.toList[i]'(by simpa using h)).toNat : Int) := by
  unfold bt
  rw [dif_pos (by simpa using h)]
  rfl
theorem wrap_id (a : Int) (h1 : -9223372036854775808 ≤ a) (h2 : a ≤ 9223372036854775807) : wrap64 a = a := by
  unfold wrap64
  omega
theorem ref_digit (c : Nat) : debentureref09_digit.f c = some (isD c) := by
  unfold debentureref09_digit.f isD
  split
  · congr 1; rw [decide_eq_decide]; omega
  · rename_i h; congr 1; symm; rw [decide_eq_false_iff_not]; omega
theorem ref_letter (c : Nat) : debentureref09_letter.f c = some (isL c) := by
  unfold debentureref09_letter.f isL
  split
  · congr 1; rw [decide_eq_decide]; omega
  · rename_i h; congr 1; symm; rw [decide_eq_false_iff_not]; omega
theorem ref_sign (c : Nat) : debentureref09_sign.f c = some (isS c) := by
  unfold debentureref09_sign.f isS
  repeat' split
  all_goals first
    | (congr 1; symm; rw [decide_eq_true_iff]; omega)
    | (congr 1; rw [Bool.eq_iff_iff, decide_eq_true_iff, beq_iff_eq]; omega)
theorem ref_digits (s : ByteArray) (hs : s.size ≤ 1000000) (k i : Nat) (h : i ≤ s.size) (hk : s.size - i < k) : debentureref09_digits.l0 k s i = some ((i + runL isD (s.data.toList.drop i) : Nat) : Int) := by
  induction k generalizing i with
  | zero => omega
  | succ k ih =>
    rw [debentureref09_digits.l0]
    by_cases hlt : i < s.size
    · have hl : i < s.data.toList.length := by simpa using hlt
      rw [if_pos (by omega), if_pos (by omega), bt_at s i hlt, ref_digit, Option.bind_some, List.drop_eq_getElem_cons hl]
      have hrun : runL isD (s.data.toList[i] :: s.data.toList.drop (i + 1)) = if isD (s.data.toList[i].toNat) = true then runL isD (s.data.toList.drop (i + 1)) + 1 else 0 := rfl
      rw [hrun]
      by_cases hd : isD (s.data.toList[i].toNat) = true
      · rw [if_pos hd, if_pos hd, wrap_id _ (by omega) (by omega)]
        have := ih (i + 1) (by omega) (by omega)
        rw [show ((i : Int) + 1) = ((i + 1 : Nat) : Int) by omega, this]
        congr 1
        omega
      · rw [if_neg hd, if_neg hd]
        rfl
    · rw [if_neg (by omega), List.drop_eq_nil_of_le (by simp; omega)]
      rfl
theorem ref_name (s : ByteArray) (hs : s.size ≤ 1000000) (k i : Nat) (h : i ≤ s.size) (hk : s.size - i < k) : debentureref09_name.l0 k s i = some ((i + runL isLD (s.data.toList.drop i) : Nat) : Int) := by
  induction k generalizing i with
  | zero => omega
  | succ k ih =>
    rw [debentureref09_name.l0]
    by_cases hlt : i < s.size
    · have hl : i < s.data.toList.length := by simpa using hlt
      rw [if_pos (by omega), if_pos (by omega), bt_at s i hlt, ref_letter, Option.bind_some, List.drop_eq_getElem_cons hl]
      have hrun : runL isLD (s.data.toList[i] :: s.data.toList.drop (i + 1)) = if (isL (s.data.toList[i].toNat) || isD (s.data.toList[i].toNat)) = true then runL isLD (s.data.toList.drop (i + 1)) + 1 else 0 := rfl
      rw [hrun]
      have hgo := ih (i + 1) (by omega)
      by_cases hd : isL (s.data.toList[i].toNat) = true
      · rw [if_pos hd, hd, wrap_id _ (by omega) (by omega), show ((i : Int) + 1) = ((i + 1 : Nat) : Int) by omega, hgo (by omega)]
        simp only [Bool.true_or, if_true]
        congr 1
        omega
      · rw [if_neg hd, ref_digit, Option.bind_some]
        have hd0 : isL (s.data.toList[i].toNat) = false := by simpa using hd
        rw [hd0]
        by_cases he : isD (s.data.toList[i].toNat) = true
        · rw [if_pos he, he, wrap_id _ (by omega) (by omega), show ((i : Int) + 1) = ((i + 1 : Nat) : Int) by omega, hgo (by omega)]
          simp only [Bool.or_true, if_true]
          congr 1
          omega
        · rw [if_neg he]
          have he0 : isD (s.data.toList[i].toNat) = false := by simpa using he
          rw [he0]
          rfl
    · rw [if_neg (by omega), List.drop_eq_nil_of_le (by simp; omega)]
      rfl

theorem runL_all (p : Nat → Bool) (l : List UInt8) (j : Nat) (x : UInt8) (h : j < runL p l) (hx : l[j]? = some x) : p x.toNat = true := by
  induction l generalizing j with
  | nil => cases hx
  | cons c l ih =>
    have hr : runL p (c :: l) = if p c.toNat = true then runL p l + 1 else 0 := rfl
    rw [hr] at h
    by_cases hc : p c.toNat = true
    · rw [if_pos hc] at h
      cases j with
      | zero => simp at hx; rw [← hx]; exact hc
      | succ j => exact ih j (by omega) (by simpa using hx)
    · rw [if_neg hc] at h; omega
theorem no10 (l : List UInt8) (j : Nat) (x : UInt8) (h : j < (kindL l).2) (hx : l[j]? = some x) : x.toNat ≠ 10 := by
  have hD : ∀ c : Nat, isD c = true → c ≠ 10 := by intro c hc e; rw [e] at hc; exact absurd hc (by decide)
  have hLD : ∀ c : Nat, isLD c = true → c ≠ 10 := by intro c hc e; rw [e] at hc; exact absurd hc (by decide)
  unfold kindL at h
  split at h
  · split at h
    · exact absurd h (Nat.not_lt_zero _)
    · exact hLD _ (runL_all isLD l j x h hx)
  · split at h
    · split at h
      · exact absurd h (Nat.not_lt_zero _)
      · have h : j < numL l := h
        unfold numL at h
        split at h
        · rename_i hh
          by_cases h1 : j < runL isD l
          · exact hD _ (runL_all isD l j x h1 hx)
          · by_cases h2 : j = runL isD l
            · have h46 := hh.1
              unfold peekL at h46
              rw [← h2, hx] at h46
              intro e
              simp [e] at h46
            · have hx2 : (l.drop (runL isD l + 1))[j - (runL isD l + 1)]? = some x := by
                rw [List.getElem?_drop, show runL isD l + 1 + (j - (runL isD l + 1)) = j by omega]
                exact hx
              exact hD _ (runL_all isD _ _ x (by omega) hx2)
        · exact hD _ (runL_all isD l j x h hx)
    · split at h
      · rename_i hS
        have h : j < 1 := h
        obtain rfl : j = 0 := by omega
        unfold peekL at hS
        rw [hx] at hS
        intro e
        simp [e] at hS
        exact absurd hS (by decide)
      · exact absurd h (Nat.not_lt_zero _)
theorem advP_no10 (q : Nat × Nat) (l : List UInt8) (h : ∀ x ∈ l, x.toNat ≠ 10) : advP q l = (q.1, q.2 + l.length) := by
  induction l generalizing q with
  | nil => rfl
  | cons c l ih =>
    show advP (stepP q c) l = _
    have hs : stepP q c = (q.1, q.2 + 1) := if_neg (h c (by simp))
    rw [ih _ (fun x hx => h x (by simp [hx])), hs]
    simp
    omega
theorem advP_tok (q : Nat × Nat) (l : List UInt8) (hl : l ≠ []) : advP q (l.take (kindL l).2) = (q.1, q.2 + (kindL l).2) := by
  have hle := kindL_le l hl
  rw [advP_no10]
  · rw [List.length_take, Nat.min_eq_left hle]
  · intro x hx
    obtain ⟨j, hj, e⟩ := List.mem_iff_getElem.1 hx
    rw [List.length_take] at hj
    refine no10 l j x (by omega) ?_
    rw [← e, List.getElem_take, List.getElem?_eq_getElem]
theorem peek_bt (s : ByteArray) (i j : Nat) (h : i + j < s.size) : bt s ((i + j : Nat) : Int) = (peekL (s.data.toList.drop i) j : Int) := by
  rw [bt_at s (i + j) h]
  unfold peekL
  rw [List.getElem?_drop, List.getElem?_eq_getElem (by simpa using h)]
  rfl
theorem peek_out (s : ByteArray) (i j : Nat) (h : s.size ≤ i + j) : peekL (s.data.toList.drop i) j = 0 := by
  unfold peekL
  rw [List.getElem?_drop, List.getElem?_eq_none (by simpa using h)]
  rfl
theorem ref_number (s : ByteArray) (hs : s.size ≤ 1000000) (k i : Nat) (h : i ≤ s.size) (hk : s.size - i < k) : debentureref09_number.f k s i = some ((i + numL (s.data.toList.drop i) : Nat) : Int) := by
  have hle := runL_le isD (s.data.toList.drop i)
  rw [List.length_drop] at hle
  have hsz : s.data.toList.length = s.size := by simp
  rw [hsz] at hle
  unfold debentureref09_number.f debentureref09_digits.f
  rw [ref_digits s hs k i h hk, Option.bind_some]
  unfold numL
  generalize hn : runL isD (s.data.toList.drop i) = n at *
  rw [wrap_id _ (by omega) (by omega)]
  by_cases h1 : i + n + 1 < s.size
  · rw [if_pos (by omega), if_pos (by omega), if_pos (by omega), peek_bt s i n (by omega)]
    by_cases h46 : peekL (s.data.toList.drop i) n = 46
    · rw [if_pos (by rw [h46]; rfl), if_pos (by omega), show (((i + n : Nat) : Int) + 1) = ((i + (n + 1) : Nat) : Int) by omega, peek_bt s i (n + 1) (by omega), ref_digit, Option.bind_some]
      by_cases hd : isD (peekL (s.data.toList.drop i) (n + 1)) = true
      · rw [if_pos hd, if_pos ⟨h46, hd⟩, ref_digits s hs k (i + (n + 1)) (by omega) (by omega), Option.bind_some, List.drop_drop]
        congr 1
        omega
      · rw [if_neg hd, if_neg (fun h => hd h.2)]
    · rw [if_neg (by omega), if_neg (fun h => h46 h.1)]
  · rw [if_neg (by omega)]
    have hno : ¬ (peekL (s.data.toList.drop i) n = 46 ∧ isD (peekL (s.data.toList.drop i) (n + 1)) = true) := by
      intro hh
      rw [peek_out s i (n + 1) (by omega)] at hh
      exact absurd hh.2 (by decide)
    rw [if_neg hno]
theorem ref_token (s : ByteArray) (hs : s.size ≤ 1000000) (k i : Nat) (h : i < s.size) (hk : s.size - i < k) : debentureref09_token.f k s i = some (if (kindL (s.data.toList.drop i)).2 = 0 then ((0 : Int), (-1 : Int)) else (((kindL (s.data.toList.drop i)).1 : Int), ((i + (kindL (s.data.toList.drop i)).2 : Nat) : Int))) := by
  have hl : i < s.data.toList.length := by simpa using h
  have hsz : s.data.toList.length = s.size := by simp
  have hle1 := runL_le isLD (s.data.toList.drop i)
  have hle2 : numL (s.data.toList.drop i) ≤ s.size - i := by
    have hle := runL_le isD (s.data.toList.drop i)
    rw [List.length_drop, hsz] at hle
    unfold numL
    split
    · rename_i hh
      have h4 := peekL_inside _ _ hh.2
      have h5 := runL_le isD ((s.data.toList.drop i).drop (runL isD (s.data.toList.drop i) + 1))
      rw [List.length_drop, List.length_drop, hsz] at h5
      rw [List.length_drop, hsz] at h4
      omega
    · exact hle
  rw [List.length_drop, hsz] at hle1
  have hp : peekL (s.data.toList.drop i) 0 = s.data.toList[i].toNat := by
    unfold peekL
    rw [List.getElem?_drop, List.getElem?_eq_getElem (by simpa using h)]
    rfl
  unfold debentureref09_token.f kindL
  rw [if_pos (by omega), if_pos (by omega), bt_at s i h, ref_letter, Option.bind_some, hp]
  by_cases hL : isL (s.data.toList[i].toNat) = true
  · rw [if_pos hL, if_pos hL]
    unfold debentureref09_name.f
    rw [ref_name s hs k i (by omega) hk, Option.bind_some, wrap_id _ (by omega) (by omega)]
    have hpos : 0 < runL isLD (s.data.toList.drop i) := by
      rw [List.drop_eq_getElem_cons hl]
      show 0 < if (isL (s.data.toList[i].toNat) || isD (s.data.toList[i].toNat)) = true then runL isLD (s.data.toList.drop (i + 1)) + 1 else 0
      rw [hL]
      simp
    by_cases h20 : 20 < runL isLD (s.data.toList.drop i)
    · rw [if_pos (by omega), if_pos h20]; rfl
    · rw [if_neg (by omega), if_neg h20, if_neg (by simp; omega)]; rfl
  · rw [if_neg hL, if_neg hL, ref_digit, Option.bind_some]
    by_cases hD : isD (s.data.toList[i].toNat) = true
    · rw [if_pos hD, if_pos hD, ref_number s hs k i (by omega) hk, Option.bind_some, wrap_id _ (by omega) (by omega)]
      have hpos : 0 < numL (s.data.toList.drop i) := by
        have : 0 < runL isD (s.data.toList.drop i) := by
          rw [List.drop_eq_getElem_cons hl]
          show 0 < if isD (s.data.toList[i].toNat) = true then runL isD (s.data.toList.drop (i + 1)) + 1 else 0
          rw [hD]
          simp
        unfold numL
        split <;> omega
      by_cases h20 : 100 < numL (s.data.toList.drop i)
      · rw [if_pos (by omega), if_pos h20]; rfl
      · rw [if_neg (by omega), if_neg h20, if_neg (by simp; omega)]; rfl
    · rw [if_neg hD, if_neg hD, ref_sign, Option.bind_some]
      by_cases hS : isS (s.data.toList[i].toNat) = true
      · rw [if_pos hS, if_pos hS, wrap_id _ (by omega) (by omega)]; rfl
      · rw [if_neg hS, if_neg hS]; rfl

/-- The reference's loop, from a place on. -/
theorem ref_loop (s : ByteArray) (hs : s.size ≤ 20000) (m : Nat) : ∀ (i line begin_ k K : Nat) (acc : List S31), i ≤ s.size → s.size - i ≤ m → begin_ ≤ i → line + (s.size - i) ≤ 100000 → acc.length ≤ i → 3 * (s.size - i) + s.size + 3 < k → s.size - i < K →
    debentureref09_Lex.l0 k s acc line begin_ i = some (comb acc (lexL K (s.data.toList.drop i) (line, i - begin_ + 1))) := by
  have hsz : s.data.toList.length = s.size := by simp
  induction m with
  | zero =>
    intro i line begin_ k K acc h1 h2 h3 h4 h5 h6 h7
    obtain ⟨k, rfl⟩ : ∃ k', k = k' + 1 := ⟨k - 1, by omega⟩
    rw [debentureref09_Lex.l0, if_neg (by omega), List.drop_eq_nil_of_le (by omega), lexL_nil]
    simp [comb]
  | succ m ih =>
    intro i line begin_ k K acc h1 h2 h3 h4 h5 h6 h7
    by_cases hlt : i < s.size
    · obtain ⟨k, rfl⟩ : ∃ k', k = k' + 3 := ⟨k - 3, by omega⟩
      obtain ⟨K, rfl⟩ : ∃ K', K = K' + 1 := ⟨K - 1, by omega⟩
      have hl : i < s.data.toList.length := by omega
      have hdrop := List.drop_eq_getElem_cons hl
      have hne : s.data.toList.drop i ≠ [] := by rw [hdrop]; simp
      rw [debentureref09_Lex.l0, if_pos (by omega), if_pos (by omega), bt_at s i hlt]
      by_cases h10 : s.data.toList[i].toNat = 10
      · rw [if_pos (by omega), debentureref09_Lex.j1, if_pos (by omega), if_pos (by omega), bt_at s i hlt, if_neg (by omega), debentureref09_Lex.j2, if_pos (by rw [h10]; rfl)]
        rw [wrap_id _ (by omega) (by omega), wrap_id _ (by omega) (by omega), show ((line : Int) + 1) = ((line + 1 : Nat) : Int) by omega, show ((i : Int) + 1) = ((i + 1 : Nat) : Int) by omega]
        rw [ih (i + 1) (line + 1) (i + 1) k (K + 1) acc (by omega) (by omega) (by omega) (by omega) (by omega) (by omega) (by omega), hdrop, lexL_blank K _ _ _ (by rw [h10]; rfl)]
        have hst : stepP (line, i - begin_ + 1) s.data.toList[i] = (line + 1, 1) := if_pos h10
        rw [hst, Nat.sub_self]
      · rw [if_neg (by omega), debentureref09_Lex.j1, if_pos (by omega), if_pos (by omega), bt_at s i hlt]
        have hst : stepP (line, i - begin_ + 1) s.data.toList[i] = (line, i - begin_ + 1 + 1) := if_neg h10
        by_cases h32 : s.data.toList[i].toNat = 32
        · rw [if_pos (by omega), debentureref09_Lex.j2, if_pos rfl, wrap_id _ (by omega) (by omega), show ((i : Int) + 1) = ((i + 1 : Nat) : Int) by omega]
          rw [ih (i + 1) line begin_ k (K + 1) acc (by omega) (by omega) (by omega) (by omega) (by omega) (by omega) (by omega), hdrop, lexL_blank K _ _ _ (by rw [h32]; rfl), hst, show i + 1 - begin_ + 1 = i - begin_ + 1 + 1 by omega]
        · have hb : isB (s.data.toList[i].toNat) = false := by unfold isB; rw [decide_eq_false_iff_not]; omega
          have hbe : (((s.data.toList[i].toNat : Int) == 10) = true) = False := by rw [beq_iff_eq]; exact eq_false (by omega)
          rw [if_neg (by omega), debentureref09_Lex.j2, if_neg (by rw [hbe]; exact id), ref_token s (by omega) k i hlt (by omega), Option.bind_some]
          have ht := lexL_tok K s.data.toList[i] (s.data.toList.drop (i + 1)) (line, i - begin_ + 1) hb
          rw [← hdrop] at ht
          rw [ht]
          have hk := kindL_le _ hne
          rw [List.length_drop, hsz] at hk
          have hadv := advP_tok (line, i - begin_ + 1) _ hne
          rw [hadv]
          obtain ⟨⟨kd, n⟩, hkn⟩ : ∃ x, kindL (s.data.toList.drop i) = x := ⟨_, rfl⟩
          rw [hkn] at hk ⊢
          simp only [] at hk ⊢
          rw [wrap_id ((i : Int) - begin_) (by omega) (by omega), wrap_id _ (by omega) (by omega)]
          by_cases hn0 : n = 0
          · rw [if_pos hn0, if_pos hn0, if_pos (by decide)]
            simp only [comb]
            rw [show ((i - begin_ + 1 : Nat) : Int) = (i : Int) - begin_ + 1 by omega]
          · rw [if_neg hn0, if_neg hn0]
            simp only []
            rw [if_neg (by omega), if_pos (by omega), if_pos (by omega), if_pos (by omega), if_pos (by omega)]
            rw [ih (i + n) line begin_ k K _ (by omega) (by omega) (by omega) (by omega) (by rw [List.length_append]; simp; omega) (by omega) (by omega)]
            rw [List.drop_drop, show i + n - begin_ + 1 = i - begin_ + 1 + n by omega]
            have he : s.extract i (i + n) = mkB ((s.data.toList.drop i).take n) := by
              apply toL_inj
              rw [toL_extract, toL_mkB, show i + n - i = n by omega]
            rw [Int.toNat_natCast, Int.toNat_natCast, he, show ((i - begin_ + 1 : Nat) : Int) = (i : Int) - begin_ + 1 by omega]
            generalize lexL K (List.drop (i + n) s.data.toList) (line, i - begin_ + 1 + n) = R
            cases R <;> simp [comb]
    · exact ih i line begin_ k K acc h1 (by omega) h3 h4 h5 h6 h7

theorem ref_lex (s : ByteArray) (hs : s.size ≤ 20000) : debentureref09_Lex.f 100000 s = some (lexD s) := by
  unfold debentureref09_Lex.f
  rw [if_neg (by omega)]
  have h := ref_loop s hs s.size 0 1 0 100000 (s.size + 1) [] (by omega) (by omega) (by omega) (by omega) (by simp) (by omega) (by omega)
  rw [List.drop_zero, ← lexB_list] at h
  exact h

end Go.Proofs.Ytjmffehffmmobaa.WW
