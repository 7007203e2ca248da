/-
  word's laws in plain Lean: Alike and Same of what is alike; tokens without places; two texts joined.
-/
import Derived.Test.YtjmffehffmmobaaWL1
import Derived.Test.YtjmffehffmmobaaWAl
set_option linter.unusedVariables false
set_option linter.unusedSimpArgs false
namespace Go.Proofs.Ytjmffehffmmobaa.WW
open Go.Proofs Go.RowKit Go.Proofs.Ytjmffehffmmobaa.WP Go.Proofs.YtjmffehffmmobaaW.PrintWords Go.Proofs.Ytjmffehffmmobaa.PWordLexes

def tk (t : S31) : Int × ByteArray := (t.f0, t.f1)
theorem rd_at (l : List S31) (i : Nat) (h : i < l.length) : rd_T31 l (i : Int) = l[i] := by
  unfold rd_T31
  simp [h]
theorem alike_loop (a b : List S31) (h : a.map tk = b.map tk) (hl : a.length ≤ 1000000) (k : Nat) : ∀ i, i ≤ a.length → a.length - i < k → debentureref09_Alike.l0 k a b i = some true := by
  have hlen : a.length = b.length := by have := congrArg List.length h; simpa using this
  induction k with
  | zero => intro i _ h2; omega
  | succ k ih =>
    intro i h1 h2
    rw [debentureref09_Alike.l0]
    by_cases hi : i < a.length
    · have hb : i < b.length := by omega
      have ht : tk a[i] = tk b[i] := by
        have h3 : (a.map tk)[i]? = (b.map tk)[i]? := by rw [h]
        simpa [hi, hb] using h3
      have e0 : a[i].f0 = b[i].f0 := congrArg Prod.fst ht
      have e1 : a[i].f1 = b[i].f1 := congrArg Prod.snd ht
      rw [if_pos (by omega), if_pos (by omega), if_pos (by omega), rd_at a i hi, rd_at b i hb, if_pos e0, if_pos (by rw [e1]), wrap_id _ (by omega) (by omega)]
      exact ih (i + 1) (by omega) (by omega)
    · rw [if_neg (by omega)]
theorem alike_true (a b : List S31) (h : a.map tk = b.map tk) (hl : a.length ≤ 1000000) : debentureref09_Alike.f 1000001 a b = some true := by
  have hlen : a.length = b.length := by have := congrArg List.length h; simpa using this
  unfold debentureref09_Alike.f
  rw [if_pos (by omega)]
  exact alike_loop a b h hl 1000001 0 (by omega) (by omega)
theorem same_loop (a : List S31) (hl : a.length ≤ 1000000) (k : Nat) : ∀ i, i ≤ a.length → a.length - i < k → debentureref09_Same.l0 k a a i = some true := by
  induction k with
  | zero => intro i _ h2; omega
  | succ k ih =>
    intro i h1 h2
    rw [debentureref09_Same.l0]
    by_cases hi : i < a.length
    · rw [if_pos (by omega), if_pos (by omega), if_pos (by omega), if_neg (by simp), wrap_id _ (by omega) (by omega)]
      exact ih (i + 1) (by omega) (by omega)
    · rw [if_neg (by omega)]
theorem same_true (a : List S31) (hl : a.length ≤ 1000000) : debentureref09_Same.f 1000001 a a = some true := by
  unfold debentureref09_Same.f
  rw [if_pos rfl]
  exact same_loop a hl 1000001 0 (by omega) (by omega)

/-- The tokens' kinds and texts; none: there is no such row. -/
def lexT : Nat → List UInt8 → Option (List (Int × ByteArray))
  | 0, _ => some []
  | k + 1, l =>
    if l.drop (runL isB l) = [] then some [] else
    if (kindL (l.drop (runL isB l))).2 = 0 then none else
    (lexT k ((l.drop (runL isB l)).drop (kindL (l.drop (runL isB l))).2)).map fun ts => (((kindL (l.drop (runL isB l))).1 : Int), mkB ((l.drop (runL isB l)).take (kindL (l.drop (runL isB l))).2)) :: ts
/-- A row of tokens, its places put aside. -/
def bare : Sum (Nat × Nat) (List S31) → Option (List (Int × ByteArray))
  | .inl _ => none
  | .inr ts => some (ts.map tk)
theorem bare_lexL (k : Nat) (l : List UInt8) (p : Nat × Nat) : bare (lexL k l p) = lexT k l := by
  induction k generalizing l p with
  | zero => rfl
  | succ k ih =>
    rw [lexL.eq_2, lexT.eq_2]
    split
    · rfl
    · split
      · rfl
      · rw [← ih _ (advP (advP p (l.take (runL isB l))) ((l.drop (runL isB l)).take (kindL (l.drop (runL isB l))).2))]
        generalize lexL k _ _ = R
        cases R <;> rfl
theorem lexT_blank (k : Nat) (c : UInt8) (l : List UInt8) (h : isB c.toNat = true) : lexT (k + 1) (c :: l) = lexT (k + 1) l := by
  rw [← bare_lexL (k + 1) (c :: l) (1, 1), lexL_blank k c l _ h, bare_lexL]
theorem lexT_nil (k : Nat) : lexT k [] = some [] := by
  rw [← bare_lexL k [] (1, 1), lexL_nil]
  rfl
theorem lexT_tok (k : Nat) (c : UInt8) (l : List UInt8) (h : isB c.toNat = false) : lexT (k + 1) (c :: l) =
    if (kindL (c :: l)).2 = 0 then none else (lexT k ((c :: l).drop (kindL (c :: l)).2)).map fun ts => (((kindL (c :: l)).1 : Int), mkB ((c :: l).take (kindL (c :: l)).2)) :: ts := by
  rw [lexT.eq_2, runL_none isB c l h]
  rfl
/-- However much fuel there is, if it is enough. -/
theorem lexT_fuel (m : Nat) : ∀ (k k' : Nat) (l : List UInt8), l.length ≤ m → l.length < k → l.length < k' → lexT k l = lexT k' l := by
  induction m with
  | zero =>
    intro k k' l h1 _ _
    obtain rfl : l = [] := List.length_eq_zero_iff.1 (by omega)
    rw [lexT_nil, lexT_nil]
  | succ m ih =>
    intro k k' l h1 h2 h3
    obtain ⟨k, rfl⟩ : ∃ j, k = j + 1 := ⟨k - 1, by omega⟩
    obtain ⟨k', rfl⟩ : ∃ j, k' = j + 1 := ⟨k' - 1, by omega⟩
    cases l with
    | nil => rw [lexT_nil, lexT_nil]
    | cons c l =>
      rw [List.length_cons] at h1 h2 h3
      cases hb : isB c.toNat
      · rw [lexT_tok k c l hb, lexT_tok k' c l hb]
        by_cases h0 : (kindL (c :: l)).2 = 0
        · rw [if_pos h0, if_pos h0]
        · rw [if_neg h0, if_neg h0]
          have hd : ((c :: l).drop (kindL (c :: l)).2).length ≤ l.length := by rw [List.length_drop, List.length_cons]; omega
          rw [ih k k' _ (by omega) (by omega) (by omega)]
      · rw [lexT_blank k c l hb, lexT_blank k' c l hb]
        exact ih (k + 1) (k' + 1) l (by omega) (by omega) (by omega)

/-! A blank behind a text changes nothing of its tokens. -/
theorem runL_sep (p : Nat → Bool) (hp : p 32 = false) (l r : List UInt8) : runL p (l ++ 32 :: r) = runL p l := by
  induction l with
  | nil => show (if p (32 : UInt8).toNat = true then _ else 0) = 0; rw [show (32 : UInt8).toNat = 32 from rfl, hp]; rfl
  | cons c l ih =>
    show (if p c.toNat = true then runL p (l ++ 32 :: r) + 1 else 0) = if p c.toNat = true then runL p l + 1 else 0
    rw [ih]
theorem peekL_sep (l r : List UInt8) (n : Nat) (h : n ≤ l.length) : peekL (l ++ 32 :: r) n = if n < l.length then peekL l n else 32 := by
  unfold peekL
  by_cases hn : n < l.length
  · rw [if_pos hn, List.getElem?_append_left hn]
  · rw [if_neg hn, List.getElem?_append_right (by omega), show n - l.length = 0 by omega]
    rfl
theorem numL_sep (l r : List UInt8) : numL (l ++ 32 :: r) = numL l := by
  have hle := runL_le isD l
  unfold numL
  rw [runL_sep isD (by decide), peekL_sep l r _ hle]
  by_cases h1 : runL isD l < l.length
  · rw [if_pos h1, peekL_sep l r _ (by omega)]
    by_cases h2 : runL isD l + 1 < l.length
    · rw [if_pos h2, List.drop_append_of_le_length (by omega), runL_sep isD (by decide)]
    · rw [if_neg h2]
      have e : peekL l (runL isD l + 1) = 0 := by unfold peekL; rw [List.getElem?_eq_none (by omega)]; rfl
      rw [e, if_neg (by rintro ⟨_, h⟩; exact absurd h (by decide)), if_neg (by rintro ⟨_, h⟩; exact absurd h (by decide))]
  · rw [if_neg h1]
    have e : peekL l (runL isD l) = 0 := by unfold peekL; rw [List.getElem?_eq_none (by omega)]; rfl
    rw [e, if_neg (by rintro ⟨h, _⟩; exact absurd h (by decide)), if_neg (by rintro ⟨h, _⟩; exact absurd h (by decide))]
theorem kindL_sep (l r : List UInt8) (h : l ≠ []) : kindL (l ++ 32 :: r) = kindL l := by
  have hp : 0 < l.length := List.length_pos_iff.mpr h
  unfold kindL
  rw [peekL_sep l r 0 (by omega), if_pos hp, runL_sep isLD (by decide), numL_sep]

/-- Of two texts, parted by a blank, the tokens are those of both. -/
theorem lexT_join (r : List UInt8) (m : Nat) : ∀ (l : List UInt8) (K : Nat), l.length ≤ m → l.length + 1 + r.length < K →
    lexT K (l ++ 32 :: r) = (lexT K l).bind fun a => (lexT K r).map fun b => a ++ b := by
  induction m with
  | zero =>
    intro l K h1 h2
    obtain rfl : l = [] := List.length_eq_zero_iff.1 (by omega)
    obtain ⟨k, rfl⟩ : ∃ j, K = j + 1 := ⟨K - 1, by omega⟩
    rw [List.nil_append, lexT_blank k 32 r (by decide), lexT_nil]
    cases lexT (k + 1) r <;> rfl
  | succ m ih =>
    intro l K h1 h2
    obtain ⟨k, rfl⟩ : ∃ j, K = j + 1 := ⟨K - 1, by omega⟩
    cases l with
    | nil =>
      rw [List.nil_append, lexT_blank k 32 r (by decide), lexT_nil]
      cases lexT (k + 1) r <;> rfl
    | cons c l =>
      rw [List.length_cons] at h1 h2
      cases hb : isB c.toNat
      · have hne : (c :: l) ≠ [] := by simp
        have hks := kindL_sep (c :: l) r hne
        have hle := kindL_le (c :: l) hne
        have hlen : (c :: l).length = l.length + 1 := rfl
        rw [List.cons_append] at hks ⊢
        rw [lexT_tok k c _ hb, lexT_tok k c l hb, hks]
        by_cases h0 : (kindL (c :: l)).2 = 0
        · rw [if_pos h0, if_pos h0]; rfl
        · rw [if_neg h0, if_neg h0, ← List.cons_append, List.drop_append_of_le_length hle, List.take_append_of_le_length hle]
          have hd : ((c :: l).drop (kindL (c :: l)).2).length = l.length + 1 - (kindL (c :: l)).2 := by rw [List.length_drop, hlen]
          rw [ih _ k (by omega) (by omega), lexT_fuel r.length (k + 1) k r (Nat.le_refl _) (by omega) (by omega)]
          cases lexT k ((c :: l).drop (kindL (c :: l)).2) with
          | none => rfl
          | some a => cases lexT k r <;> rfl
      · rw [List.cons_append, lexT_blank k c _ hb, lexT_blank k c l hb]
        exact ih l (k + 1) (by omega) (by omega)

/-- What Lex answers, in two ways. -/
theorem lexD_cases (s : ByteArray) : (∃ q : Nat × Nat, lexD s = ([], 90, (q.1 : Int), (q.2 : Int)) ∧ lexT (s.size + 1) s.data.toList = none) ∨ (∃ ts : List S31, lexD s = (ts, 0, 0, 0) ∧ lexT (s.size + 1) s.data.toList = some (ts.map tk)) := by
  have hb := bare_lexL (s.size + 1) s.data.toList (1, 1)
  unfold lexD
  rw [lexB_list]
  cases hR : lexL (s.size + 1) s.data.toList (1, 1) with
  | inl q => rw [hR] at hb; exact Or.inl ⟨q, rfl, hb.symm⟩
  | inr ts => rw [hR] at hb; exact Or.inr ⟨ts, rfl, hb.symm⟩
theorem lexT_len (k : Nat) : ∀ (l : List UInt8) (a : List (Int × ByteArray)), lexT k l = some a → a.length ≤ k := by
  induction k with
  | zero => intro l a h; injection h with h; subst h; exact Nat.le_refl _
  | succ k ih =>
    intro l a h
    rw [lexT.eq_2] at h
    split at h
    · injection h with h; subst h; exact Nat.zero_le _
    · split at h
      · cases h
      · obtain ⟨b, hb, rfl⟩ := Option.map_eq_some_iff.1 h
        have := ih _ b hb
        rw [List.length_cons]
        omega

end Go.Proofs.Ytjmffehffmmobaa.WW
