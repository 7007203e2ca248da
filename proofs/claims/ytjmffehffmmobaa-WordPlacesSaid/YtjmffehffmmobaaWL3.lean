/-
  word's laws in plain Lean: what is printed is read as the same tokens; places rise.
-/
import Derived.Test.YtjmffehffmmobaaWL2
set_option linter.unusedVariables false
set_option linter.unusedSimpArgs false
namespace Go.Proofs.Ytjmffehffmmobaa.WW
open Go.Proofs Go.RowKit Go.Proofs.Ytjmffehffmmobaa.WP Go.Proofs.YtjmffehffmmobaaW.PrintWords Go.Proofs.Ytjmffehffmmobaa.PWordLexes

theorem runL_take (p : Nat → Bool) (l : List UInt8) (n : Nat) : runL p (l.take n) = min (runL p l) n := by
  induction l generalizing n with
  | nil => simp [runL]
  | cons c l ih =>
    cases n with
    | zero => simp [runL]
    | succ n =>
      show (if p c.toNat = true then runL p (l.take n) + 1 else 0) = min (if p c.toNat = true then runL p l + 1 else 0) (n + 1)
      split
      · rw [ih]; omega
      · simp
theorem peekL_take (l : List UInt8) (n j : Nat) : peekL (l.take n) j = if j < n then peekL l j else 0 := by
  unfold peekL
  rw [List.getElem?_take]
  split <;> rfl
theorem numL_take (l : List UInt8) : numL (l.take (numL l)) = numL l := by
  obtain ⟨n, hn⟩ : ∃ n, runL isD l = n := ⟨_, rfl⟩
  obtain ⟨m, hm⟩ : ∃ m, runL isD (l.drop (n + 1)) = m := ⟨_, rfl⟩
  by_cases h : peekL l n = 46 ∧ isD (peekL l (n + 1)) = true
  · have e : numL l = n + (1 + m) := by unfold numL; rw [hn, if_pos h, hm]
    have hm1 : 0 < m := by
      have hin := peekL_inside l (n + 1) h.2
      rw [← hm, List.drop_eq_getElem_cons hin]
      have hd : isD (l[n + 1].toNat) = true := by
        have := h.2
        unfold peekL at this
        rw [List.getElem?_eq_getElem hin] at this
        exact this
      show 0 < if isD (l[n + 1].toNat) = true then runL isD (l.drop (n + 1 + 1)) + 1 else 0
      rw [if_pos hd]
      omega
    rw [e]
    unfold numL
    have r1 : runL isD (l.take (n + (1 + m))) = n := by rw [runL_take, hn]; omega
    have q1 : peekL (l.take (n + (1 + m))) n = 46 := by rw [peekL_take, if_pos (by omega)]; exact h.1
    have q2 : peekL (l.take (n + (1 + m))) (n + 1) = peekL l (n + 1) := by rw [peekL_take, if_pos (by omega)]
    rw [r1, if_pos ⟨q1, by rw [q2]; exact h.2⟩, List.drop_take, runL_take, hm]
    omega
  · have e : numL l = n := by unfold numL; rw [hn, if_neg h]
    rw [e]
    unfold numL
    have r1 : runL isD (l.take n) = n := by rw [runL_take, hn]; omega
    have q1 : peekL (l.take n) n = 0 := by rw [peekL_take, if_neg (by omega)]
    rw [r1, if_neg (by rw [q1]; rintro ⟨h1, _⟩; exact absurd h1 (by decide))]
theorem kindL_take (l : List UInt8) (h : (kindL l).2 ≠ 0) : kindL (l.take (kindL l).2) = kindL l := by
  have hp : ∀ n, 0 < n → peekL (l.take n) 0 = peekL l 0 := fun n hn => by rw [peekL_take, if_pos hn]
  by_cases hL : isL (peekL l 0) = true
  · by_cases h2 : 20 < runL isLD l
    · have e : kindL l = (0, 0) := by unfold kindL; rw [if_pos hL, if_pos h2]
      rw [e] at h; exact absurd rfl h
    · have e : kindL l = (0, runL isLD l) := by unfold kindL; rw [if_pos hL, if_neg h2]
      rw [e] at h ⊢
      show kindL (l.take (runL isLD l)) = _
      unfold kindL
      rw [hp _ (Nat.pos_of_ne_zero h), if_pos hL, runL_take, Nat.min_self, if_neg h2]
  · by_cases hD : isD (peekL l 0) = true
    · by_cases h2 : 100 < numL l
      · have e : kindL l = (0, 0) := by unfold kindL; rw [if_neg hL, if_pos hD, if_pos h2]
        rw [e] at h; exact absurd rfl h
      · have e : kindL l = (1, numL l) := by unfold kindL; rw [if_neg hL, if_pos hD, if_neg h2]
        rw [e] at h ⊢
        show kindL (l.take (numL l)) = _
        unfold kindL
        rw [hp _ (Nat.pos_of_ne_zero h), if_neg hL, if_pos hD, numL_take, if_neg h2]
    · by_cases hS : isS (peekL l 0) = true
      · have e : kindL l = (2, 1) := by unfold kindL; rw [if_neg hL, if_neg hD, if_pos hS]
        rw [e]
        show kindL (l.take 1) = _
        unfold kindL
        rw [hp _ (by omega), if_neg hL, if_neg hD, if_pos hS]
      · have e : kindL l = (0, 0) := by unfold kindL; rw [if_neg hL, if_neg hD, if_neg hS]
        rw [e] at h; exact absurd rfl h

/-- A text that is one token. -/
def whole (x : Int × ByteArray) : Prop := ∃ c l, x.2 = mkB (c :: l) ∧ isB c.toNat = false ∧ kindL (c :: l) = (x.1.toNat, (c :: l).length) ∧ 0 ≤ x.1
theorem drop_head (l : List UInt8) (h : l.drop (runL isB l) ≠ []) : ∃ c r, l.drop (runL isB l) = c :: r ∧ isB c.toNat = false := by
  induction l with
  | nil => simp at h
  | cons c l ih =>
    have hr : runL isB (c :: l) = if isB c.toNat = true then runL isB l + 1 else 0 := rfl
    cases hb : isB c.toNat
    · rw [hr, hb]
      exact ⟨c, l, rfl, hb⟩
    · rw [hr, hb] at h ⊢
      exact ih h
theorem lexT_whole (k : Nat) : ∀ (l : List UInt8) (a : List (Int × ByteArray)), lexT k l = some a → (∀ x ∈ a, whole x) ∧ (a.map (·.2.size)).sum ≤ l.length ∧ a.length ≤ l.length := by
  induction k with
  | zero => intro l a h; injection h with h; subst h; simp
  | succ k ih =>
    intro l a h
    rw [lexT.eq_2] at h
    split at h
    · injection h with h; subst h; simp
    · rename_i hne
      split at h
      · cases h
      · rename_i hn0
        obtain ⟨b, hb, rfl⟩ := Option.map_eq_some_iff.1 h
        obtain ⟨i1, i2, i3⟩ := ih _ b hb
        obtain ⟨c, r, e, hc⟩ := drop_head l hne
        have hlen : (l.drop (runL isB l)).length = l.length - runL isB l := List.length_drop ..
        rw [e] at hn0 hb i2 i3 hlen ⊢
        have hle := kindL_le (c :: r) (by simp)
        rw [List.length_drop] at i2 i3
        have ht := kindL_take (c :: r) hn0
        obtain ⟨m, hm⟩ : ∃ m, (kindL (c :: r)).2 = m + 1 := ⟨(kindL (c :: r)).2 - 1, by omega⟩
        refine ⟨?_, ?_, ?_⟩
        · intro x hx
          rcases List.mem_cons.1 hx with rfl | hx
          · refine ⟨c, r.take m, by rw [hm]; rfl, hc, ?_, Int.natCast_nonneg _⟩
            have h1 : (c :: r).take (kindL (c :: r)).2 = c :: r.take m := by rw [hm]; rfl
            rw [h1] at ht
            rw [ht]
            refine Prod.ext (by simp) ?_
            show (kindL (c :: r)).2 = (c :: r.take m).length
            rw [← h1, List.length_take]
            omega
          · exact i1 x hx
        · rw [List.map_cons, List.sum_cons]
          have hs : (mkB ((c :: r).take (kindL (c :: r)).2)).size = (kindL (c :: r)).2 := by
            show ((c :: r).take (kindL (c :: r)).2).toArray.size = _
            rw [List.size_toArray, List.length_take]
            omega
          show (mkB _).size + _ ≤ _
          rw [hs]
          omega
        · rw [List.length_cons]
          omega

theorem lexT_one (x : Int × ByteArray) (h : whole x) (K : Nat) (hK : x.2.size < K) : lexT K x.2.data.toList = some [x] := by
  obtain ⟨c, l, e, hc, hk, h0⟩ := h
  obtain ⟨k, rfl⟩ : ∃ j, K = j + 1 := ⟨K - 1, by omega⟩
  have e2 : x.2.data.toList = c :: l := by rw [e]; rfl
  rw [e2, lexT_tok k c l hc, hk, if_neg (by simp), List.drop_of_length_le (Nat.le_refl _), lexT_nil, List.take_of_length_le (Nat.le_refl _)]
  show some [(((x.1.toNat : Nat) : Int), mkB (c :: l))] = some [x]
  rw [Int.toNat_of_nonneg h0, ← e]
theorem lexT_print (a : List (Int × ByteArray)) (h : ∀ x ∈ a, whole x) (K : Nat) (hK : (Lib.join (a.map (·.2.data.toList)) [32]).length < K) : lexT K (Lib.join (a.map (·.2.data.toList)) [32]) = some a := by
  induction a with
  | nil => exact lexT_nil K
  | cons x r ih =>
    have hx := h x (by simp)
    cases r with
    | nil =>
      rw [List.map_cons, List.map_nil, Lib.join_one] at hK ⊢
      exact lexT_one x hx K (by simpa using hK)
    | cons y r =>
      have hj : Lib.join ((x :: y :: r).map (·.2.data.toList)) [32] = x.2.data.toList ++ 32 :: Lib.join ((y :: r).map (·.2.data.toList)) [32] := by
        rw [List.map_cons, Lib.join_cons, List.map_cons, Lib.join_cons]
        simp [Lib.joinTail]
      rw [hj] at hK ⊢
      rw [List.length_append, List.length_cons] at hK
      have hsz : x.2.data.toList.length = x.2.size := by simp
      rw [lexT_join _ x.2.size _ K (by omega) (by omega), lexT_one x hx K (by omega), ih (fun z hz => h z (by simp [hz])) (by omega)]
      rfl
theorem join_len (a : List (Int × ByteArray)) : (Lib.join (a.map (·.2.data.toList)) [32]).length ≤ a.length + (a.map (·.2.size)).sum := by
  induction a with
  | nil => simp [Lib.join_nil]
  | cons x r ih =>
    cases r with
    | nil => rw [List.map_cons, List.map_nil, Lib.join_one]; simp
    | cons y r =>
      have hj : Lib.join ((x :: y :: r).map (·.2.data.toList)) [32] = x.2.data.toList ++ 32 :: Lib.join ((y :: r).map (·.2.data.toList)) [32] := by
        rw [List.map_cons, Lib.join_cons, List.map_cons, Lib.join_cons]
        simp [Lib.joinTail]
      have hsz : x.2.data.toList.length = x.2.size := by simp
      have hs : ((x :: y :: r).map (·.2.size)).sum = x.2.size + ((y :: r).map (·.2.size)).sum := by rw [List.map_cons, List.sum_cons]
      have hl : (x :: y :: r).length = (y :: r).length + 1 := rfl
      rw [hj, List.length_append, List.length_cons, hs, hl, hsz]
      omega

/-! Places. -/
theorem advP_mono (q : Nat × Nat) (l : List UInt8) : q.1 ≤ (advP q l).1 ∧ ((advP q l).1 = q.1 → q.2 ≤ (advP q l).2) := by
  induction l generalizing q with
  | nil => exact ⟨Nat.le_refl _, fun _ => Nat.le_refl _⟩
  | cons c l ih =>
    obtain ⟨h1, h2⟩ := ih (stepP q c)
    show q.1 ≤ (advP (stepP q c) l).1 ∧ ((advP (stepP q c) l).1 = q.1 → q.2 ≤ (advP (stepP q c) l).2)
    have hs : q.1 ≤ (stepP q c).1 ∧ ((stepP q c).1 = q.1 → q.2 ≤ (stepP q c).2) := by
      unfold stepP
      split
      · exact ⟨by simp, fun h => by simp at h⟩
      · exact ⟨by simp, fun _ => by simp⟩
    refine ⟨by omega, fun h => ?_⟩
    have e1 : (stepP q c).1 = q.1 := by omega
    have e2 := h2 (by omega)
    have e3 := hs.2 e1
    omega
/-- Each token stands behind the one ahead. -/
def chain : Int × Int → List S31 → Prop
  | _, [] => True
  | p, t :: r => (p.1 ≤ t.f2 ∧ (t.f2 = p.1 → p.2 ≤ t.f3)) ∧ chain (t.f2, t.f3 + t.f1.size) r
theorem lexL_chain (k : Nat) : ∀ (l : List UInt8) (p : Nat × Nat) (ts : List S31), lexL k l p = .inr ts → chain (p.1, p.2) ts := by
  induction k with
  | zero => intro l p ts h; injection h with h; subst h; exact trivial
  | succ k ih =>
    intro l p ts h
    rw [lexL.eq_2] at h
    split at h
    · injection h with h; subst h; exact trivial
    · rename_i hne
      split at h
      · cases h
      · obtain ⟨m1, m2⟩ := advP_mono p (l.take (runL isB l))
        generalize advP p (l.take (runL isB l)) = q at *
        generalize l.drop (runL isB l) = l1 at *
        have hadv := advP_tok q l1 hne
        have hle := kindL_le l1 hne
        rw [hadv] at h
        cases hR : lexL k (l1.drop (kindL l1).2) (q.1, q.2 + (kindL l1).2) with
        | inl x => rw [hR] at h; cases h
        | inr tr =>
          rw [hR] at h
          injection h with h
          subst h
          have hi := ih _ _ tr hR
          refine ⟨⟨by simp only []; omega, fun he => by simp only [] at he ⊢; have := m2 (by omega); omega⟩, ?_⟩
          have hs : (mkB (l1.take (kindL l1).2)).size = (kindL l1).2 := by
            show (l1.take (kindL l1).2).toArray.size = _
            rw [List.size_toArray, List.length_take]
            omega
          simp only [hs]
          simpa using hi
theorem chain_at (ts : List S31) : ∀ (p : Int × Int) (i : Nat) (h1 : i + 1 < ts.length), chain p ts → ts[i].f2 ≤ ts[i + 1].f2 ∧ (ts[i + 1].f2 = ts[i].f2 → ts[i].f3 + ts[i].f1.size ≤ ts[i + 1].f3) := by
  induction ts with
  | nil => intro p i h1; simp at h1
  | cons t r ih =>
    intro p i h1 hc
    cases i with
    | zero =>
      cases r with
      | nil => simp at h1
      | cons t2 r => exact hc.2.1
    | succ i => exact ih _ i (by simpa using h1) hc.2
theorem lexL_err (k : Nat) : ∀ (l : List UInt8) (p q : Nat × Nat), lexL k l p = .inl q → 1 ≤ p.1 → 1 ≤ p.2 → 1 ≤ q.1 ∧ 1 ≤ q.2 := by
  induction k with
  | zero => intro l p q h; cases h
  | succ k ih =>
    intro l p q h h1 h2
    rw [lexL.eq_2] at h
    split at h
    · cases h
    · have ha := advP_le p (l.take (runL isB l)) h2
      split at h
      · injection h with h
        rw [← h]
        exact ⟨by omega, by omega⟩
      · generalize advP p (l.take (runL isB l)) = p1 at *
        generalize l.drop (runL isB l) = l1 at *
        have hb := advP_le p1 (l1.take (kindL l1).2) (by omega)
        cases hR : lexL k (l1.drop (kindL l1).2) (advP p1 (l1.take (kindL l1).2)) with
        | inl x =>
          rw [hR] at h
          injection h with h
          subst h
          exact ih _ _ _ hR (by omega) (by omega)
        | inr tr => rw [hR] at h; cases h

end Go.Proofs.Ytjmffehffmmobaa.WW
