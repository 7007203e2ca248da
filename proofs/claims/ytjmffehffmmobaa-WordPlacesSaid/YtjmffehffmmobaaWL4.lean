/-
  word's laws in plain Lean: blanks and lines ahead move places, and nothing else.
-/
import Derived.Test.YtjmffehffmmobaaWL3
set_option linter.unusedVariables false
set_option linter.unusedSimpArgs false
namespace Go.Proofs.Ytjmffehffmmobaa.WW
open Go.Proofs Go.RowKit Go.Proofs.Ytjmffehffmmobaa.WP Go.Proofs.YtjmffehffmmobaaW.PrintWords Go.Proofs.Ytjmffehffmmobaa.PWordLexes

/-- Where a place goes, lines and blanks being ahead. -/
def sh (L B : Nat) (q : Nat × Nat) : Nat × Nat := (q.1 + L, if q.1 = 1 then q.2 + B else q.2)
theorem sh_step (L B : Nat) (q : Nat × Nat) (c : UInt8) (h : 1 ≤ q.1) : stepP (sh L B q) c = sh L B (stepP q c) := by
  unfold stepP sh
  split
  · refine Prod.ext ?_ ?_
    · show q.1 + L + 1 = q.1 + 1 + L; omega
    · show 1 = if q.1 + 1 = 1 then 1 + B else 1
      rw [if_neg (by omega)]
  · refine Prod.ext rfl ?_
    show (if q.1 = 1 then q.2 + B else q.2) + 1 = if q.1 = 1 then q.2 + 1 + B else q.2 + 1
    split <;> omega
theorem sh_adv (L B : Nat) (l : List UInt8) : ∀ q : Nat × Nat, 1 ≤ q.1 → advP (sh L B q) l = sh L B (advP q l) := by
  induction l with
  | nil => intro q _; rfl
  | cons c l ih =>
    intro q h
    show advP (stepP (sh L B q) c) l = sh L B (advP (stepP q c) l)
    rw [sh_step L B q c h]
    refine ih _ ?_
    unfold stepP
    split
    · show 1 ≤ q.1 + 1; omega
    · exact h
theorem adv_pos (l : List UInt8) : ∀ q : Nat × Nat, 1 ≤ q.1 → 1 ≤ (advP q l).1 := fun q h => Nat.le_trans h (advP_mono q l).1
/-- A token, its place moved. -/
def shT (L B : Nat) (t : S31) : S31 := ⟨t.f0, t.f1, t.f2 + L, if t.f2 = 1 then t.f3 + B else t.f3⟩
def shR (L B : Nat) : Sum (Nat × Nat) (List S31) → Sum (Nat × Nat) (List S31)
  | .inl q => .inl (sh L B q)
  | .inr ts => .inr (ts.map (shT L B))
theorem lexL_sh (L B k : Nat) : ∀ (l : List UInt8) (p : Nat × Nat), 1 ≤ p.1 → lexL k l (sh L B p) = shR L B (lexL k l p) := by
  induction k with
  | zero => intro l p _; rfl
  | succ k ih =>
    intro l p h
    rw [lexL.eq_2, lexL.eq_2, sh_adv L B _ p h]
    have hq := adv_pos (l.take (runL isB l)) p h
    generalize advP p (l.take (runL isB l)) = q at *
    generalize l.drop (runL isB l) = l1 at *
    split
    · rfl
    · split
      · rfl
      · rw [sh_adv L B _ q hq, ih _ _ (adv_pos _ q hq)]
        generalize lexL k _ _ = R
        cases R with
        | inl x => rfl
        | inr ts =>
          show Sum.inr _ = Sum.inr _
          refine congrArg Sum.inr (congrArg (· :: _) ?_)
          unfold shT sh
          simp only [S31.mk.injEq, true_and]
          refine ⟨by omega, ?_⟩
          by_cases h1 : q.1 = 1
          · rw [if_pos h1, if_pos (by omega)]; omega
          · rw [if_neg h1, if_neg (by omega)]

theorem lexL_fuel (m : Nat) : ∀ (k k' : Nat) (l : List UInt8) (p : Nat × Nat), l.length ≤ m → l.length < k → l.length < k' → lexL k l p = lexL k' l p := by
  induction m with
  | zero =>
    intro k k' l p h1 _ _
    obtain rfl : l = [] := List.length_eq_zero_iff.1 (by omega)
    rw [lexL_nil, lexL_nil]
  | succ m ih =>
    intro k k' l p h1 h2 h3
    obtain ⟨k, rfl⟩ : ∃ j, k = j + 1 := ⟨k - 1, by omega⟩
    obtain ⟨k', rfl⟩ : ∃ j, k' = j + 1 := ⟨k' - 1, by omega⟩
    cases l with
    | nil => rw [lexL_nil, lexL_nil]
    | cons c l =>
      rw [List.length_cons] at h1 h2 h3
      cases hb : isB c.toNat
      · rw [lexL_tok k c l p hb, lexL_tok k' c l p hb]
        by_cases h0 : (kindL (c :: l)).2 = 0
        · rw [if_pos h0, if_pos h0]
        · rw [if_neg h0, if_neg h0]
          have hd : ((c :: l).drop (kindL (c :: l)).2).length ≤ l.length := by rw [List.length_drop, List.length_cons]; omega
          rw [ih k k' _ _ (by omega) (by omega) (by omega)]
      · rw [lexL_blank k c l p hb, lexL_blank k' c l p hb]
        exact ih (k + 1) (k' + 1) l _ (by omega) (by omega) (by omega)
theorem lexL_spaces (K n : Nat) (l : List UInt8) : ∀ p : Nat × Nat, lexL (K + 1) (List.replicate n 32 ++ l) p = lexL (K + 1) l (p.1, p.2 + n) := by
  induction n with
  | zero => intro p; rfl
  | succ n ih =>
    intro p
    rw [List.replicate_succ, List.cons_append, lexL_blank K 32 _ p (by decide), ih]
    have hs : stepP p 32 = (p.1, p.2 + 1) := if_neg (by decide)
    rw [hs]
    show lexL (K + 1) l (p.1, p.2 + 1 + n) = lexL (K + 1) l (p.1, p.2 + (n + 1))
    rw [show p.2 + 1 + n = p.2 + (n + 1) by omega]
theorem lexL_lines (K n : Nat) (l : List UInt8) : ∀ a : Nat, lexL (K + 1) (List.replicate n 10 ++ l) (a, 1) = lexL (K + 1) l (a + n, 1) := by
  induction n with
  | zero => intro a; rfl
  | succ n ih =>
    intro a
    rw [List.replicate_succ, List.cons_append, lexL_blank K 10 _ _ (by decide)]
    have hs : stepP (a, 1) 10 = (a + 1, 1) := if_pos (by decide)
    rw [hs, ih, show a + 1 + n = a + (n + 1) by omega]
/-- Lines and blanks ahead of a text. -/
def pad (c : UInt8) (n : Nat) (s : ByteArray) : ByteArray := mkB (List.replicate n c ++ s.data.toList)
theorem pad_zero (c : UInt8) (s : ByteArray) : pad c 0 s = s := rfl
theorem pad_succ (c : UInt8) (n : Nat) (s : ByteArray) : (⟨#[c]⟩ : ByteArray) ++ pad c n s = pad c (n + 1) s := by
  apply toL_inj
  rw [ByteArray.data_append]
  show (#[c] ++ (List.replicate n c ++ s.data.toList).toArray).toList = List.replicate (n + 1) c ++ s.data.toList
  rw [List.replicate_succ]
  simp
theorem pad_size (c : UInt8) (n : Nat) (s : ByteArray) : (pad c n s).size = n + s.size := by
  show (List.replicate n c ++ s.data.toList).toArray.size = _
  simp
theorem lexD_pad (L B : Nat) (s : ByteArray) : lexD (pad 10 L (pad 32 B s)) = comb [] (shR L B (lexL (s.size + 1) s.data.toList (1, 1))) := by
  have hsz : s.data.toList.length = s.size := by simp
  unfold lexD
  rw [lexB_list, pad_size, pad_size]
  have e1 : (pad 10 L (pad 32 B s)).data.toList = List.replicate L 10 ++ (List.replicate B 32 ++ s.data.toList) := rfl
  rw [e1, lexL_lines, lexL_spaces, lexL_fuel s.size _ (s.size + 1) s.data.toList _ (by omega) (by omega) (by omega)]
  have e2 : ((1 + L, 1 + B) : Nat × Nat) = sh L B (1, 1) := rfl
  rw [show ((1 + L, 1).1, (1 + L, 1).2 + B) = ((1 + L, 1 + B) : Nat × Nat) from rfl, e2, lexL_sh L B _ _ _ (Nat.le_refl _)]

end Go.Proofs.Ytjmffehffmmobaa.WW
