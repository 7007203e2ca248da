/-
  WordPlaces, walked.
-/
import Derived.Test.YtjmffehffmmobaaWL4
import Derived.Test.YtjmffehffmmobaaWBack
set_option linter.unusedVariables false
set_option linter.unusedSimpArgs false
namespace Go.Proofs.Ytjmffehffmmobaa.WW
open Go.Proofs Go.RowKit Go.Proofs.Ytjmffehffmmobaa.WP Go.Proofs.YtjmffehffmmobaaW.PrintWords Go.Proofs.Ytjmffehffmmobaa.PWordLexes

theorem lexL_errBound (k : Nat) : ∀ (l : List UInt8) (p q : Nat × Nat), lexL k l p = .inl q → 1 ≤ p.2 → q.1 ≤ p.1 + l.length ∧ q.2 ≤ p.2 + l.length := by
  induction k with
  | zero => intro l p q h; cases h
  | succ k ih =>
    intro l p q h h2
    rw [lexL.eq_2] at h
    split at h
    · cases h
    · have ha := advP_le p (l.take (runL isB l)) h2
      have hr := runL_le isB l
      rw [List.length_take] at ha
      have hd : (l.drop (runL isB l)).length = l.length - runL isB l := List.length_drop ..
      split at h
      · injection h with h
        rw [← h]
        exact ⟨by omega, by omega⟩
      · generalize advP p (l.take (runL isB l)) = p1 at *
        generalize l.drop (runL isB l) = l1 at *
        have hb := advP_le p1 (l1.take (kindL l1).2) (by omega)
        rw [List.length_take] at hb
        cases hR : lexL k (l1.drop (kindL l1).2) (advP p1 (l1.take (kindL l1).2)) with
        | inl x =>
          rw [hR] at h
          injection h with h
          subst h
          have := ih _ _ _ hR (by omega)
          rw [List.length_drop] at this
          exact ⟨by omega, by omega⟩
        | inr tr => rw [hR] at h; cases h
theorem lexL_lineBound (k : Nat) : ∀ (l : List UInt8) (p : Nat × Nat) (ts : List S31), lexL k l p = .inr ts → 1 ≤ p.1 → 1 ≤ p.2 → ∀ t ∈ ts, 1 ≤ t.f2 ∧ t.f2 ≤ p.1 + l.length := by
  induction k with
  | zero => intro l p ts h _ _; injection h with h; subst h; simp
  | succ k ih =>
    intro l p ts h hp0 hp
    rw [lexL.eq_2] at h
    split at h
    · injection h with h; subst h; simp
    · rename_i hne
      split at h
      · cases h
      · have ha := advP_le p (l.take (runL isB l)) hp
        have hr := runL_le isB l
        rw [List.length_take] at ha
        have hd : (l.drop (runL isB l)).length = l.length - runL isB l := List.length_drop ..
        generalize advP p (l.take (runL isB l)) = q at *
        generalize l.drop (runL isB l) = l1 at *
        have hadv := advP_tok q l1 hne
        rw [hadv] at h
        cases hR : lexL k (l1.drop (kindL l1).2) (q.1, q.2 + (kindL l1).2) with
        | inl x => rw [hR] at h; cases h
        | inr tr =>
          rw [hR] at h
          injection h with h
          subst h
          have hi := ih _ _ tr hR (by simp only []; omega) (by simp only []; omega)
          intro t ht
          rcases List.mem_cons.1 ht with rfl | ht
          · exact ⟨by simp only []; omega, by simp only []; omega⟩
          · have := hi t ht
            rw [List.length_drop] at this
            simp only [] at this
            omega
theorem shT_tk (L B : Nat) (ts : List S31) : (ts.map (shT L B)).map tk = ts.map tk := by
  rw [List.map_map]
  rfl
/-- What Lex answers of a text, and of it with lines and blanks ahead. -/
theorem places_facts (L B : Nat) (s : ByteArray) (hs : s.size ≤ 3000) :
    (∃ q : Nat × Nat, lexD s = ([], 90, (q.1 : Int), (q.2 : Int)) ∧ lexD (pad 10 L (pad 32 B s)) = ([], 90, ((q.1 + L : Nat) : Int), ((if q.1 = 1 then q.2 + B else q.2 : Nat) : Int)) ∧ 1 ≤ q.1 ∧ 1 ≤ q.2 ∧ q.1 ≤ 10000 ∧ q.2 ≤ 10000) ∨
    (∃ ts : List S31, lexD s = (ts, 0, 0, 0) ∧ lexD (pad 10 L (pad 32 B s)) = (ts.map (shT L B), 0, 0, 0) ∧ ts.length ≤ 3001 ∧ ∀ t ∈ ts, 1 ≤ t.f2 ∧ t.f2 ≤ 10000 ∧ 1 ≤ t.f3 ∧ t.f3 ≤ 10000) := by
  have hsz : s.data.toList.length = s.size := by simp
  have hp := lexD_pad L B s
  have hl := lexB_list (s.size + 1) s (1, 1)
  cases hR : lexL (s.size + 1) s.data.toList (1, 1) with
  | inl q =>
    left
    have b1 := lexL_err _ _ _ _ hR (Nat.le_refl _) (Nat.le_refl _)
    have b2 := lexL_errBound _ _ _ _ hR (Nat.le_refl _)
    rw [hsz] at b2
    simp only [] at b2
    rw [hR] at hp hl
    refine ⟨q, ?_, hp, b1.1, b1.2, by omega, by omega⟩
    unfold lexD
    rw [hl]
    rfl
  | inr ts =>
    right
    have b1 := lexL_lineBound _ _ _ _ hR (Nat.le_refl _) (Nat.le_refl _)
    have b2 := lexL_bound _ _ _ _ hR (Nat.le_refl _)
    have b3 := bare_lexL (s.size + 1) s.data.toList (1, 1)
    rw [hR] at hp hl b3
    have b4 := lexT_len _ _ _ b3.symm
    rw [List.length_map] at b4
    refine ⟨ts, ?_, hp, by omega, ?_⟩
    · unfold lexD
      rw [hl]
      rfl
    · intro t ht
      have c1 := b1 t ht
      have c2 := b2 t ht
      rw [hsz] at c1 c2
      simp only [] at c1 c2
      exact ⟨by omega, by omega, by omega, by omega⟩

end Go.Proofs.Ytjmffehffmmobaa.WW
