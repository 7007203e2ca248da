/-
  The journal's laws in plain Lean: what is told, and encoded.
-/
import Derived.Test.YtgfiiccajellnaaJW7
set_option linter.unusedVariables false
namespace Go.Proofs.Ytgfiiccajellnaa.JW
open Go.RowKit Go.Proofs.Ytgfiiccajellnaa.JP Go.Proofs.YtgfiiccajellnaaW.PrintWords

theorem ba_ext {a b : ByteArray} (h : a.toList = b.toList) : a = b := by
  rw [ByteArray.toList_eq, ByteArray.toList_eq] at h
  exact Go.WideShapes.bytes_inj h

/-- What is right begins with the record of its text. -/
theorem oneB_rec {s : ByteArray} (h : (oneB s).2.2 = 0) : s.extract 0 (oneB s).2.1 = recB (oneB s).1 := by
  unfold oneB at h ⊢
  split at h
  · simp at h
  · rename_i h1
    split at h
    · simp at h
    · rename_i h2
      split at h
      · simp at h
      · rename_i h3
        split at h
        · rename_i h4
          rw [if_neg h1, if_neg h2, if_neg h3, if_pos h4]
          exact ba_ext h4
        · simp at h

def cat (acc : ByteArray) (l : List ByteArray) : ByteArray := l.foldl (fun a s => a ++ recB s) acc

theorem extract_append (s : ByteArray) (p q r : Nat) (h1 : p ≤ q) (h2 : q ≤ r) (h3 : r ≤ s.size) : s.extract p q ++ s.extract q r = s.extract p r := by
  apply Go.WideShapes.bytes_inj
  simp only [ByteArray.data_append, ByteArray.data_extract, Array.toList_append, Array.toList_extract, List.extract_eq_take_drop]
  have e : List.drop q s.data.toList = List.drop (q - p) (List.drop p s.data.toList) := by
    rw [List.drop_drop]; congr 1; omega
  rw [e, show r - p = (q - p) + (r - q) from by omega, List.take_add]

theorem decB_told (k : Nat) (s : ByteArray) (p : Nat) (hp : p ≤ s.size) (hk : s.size - p < k) :
    p ≤ (decB k s p).2.1 ∧ (decB k s p).2.1 ≤ s.size ∧ ((decB k s p).2.2 = 0 ↔ (decB k s p).2.1 = s.size) ∧ (∀ x ∈ (decB k s p).1, x.size ≤ 30000) ∧
      ((decB k s p).2.2 = 0 ∨ (decB k s p).2.2 = 250 ∨ (decB k s p).2.2 = 251) ∧ (decB k s p).1.length ≤ s.size - p ∧
      ∀ acc, cat acc (decB k s p).1 = acc ++ s.extract p (decB k s p).2.1 := by
  induction k generalizing p with
  | zero => omega
  | succ k ih =>
    by_cases hlt : p < s.size
    · simp only [decB]
      rw [if_pos hlt]
      by_cases h0 : (oneB (s.extract p s.size)).2.2 = 0
      · rw [if_pos h0]
        obtain ⟨k1, k2, k3, k4⟩ := oneB_ok h0
        have hr := oneB_rec h0
        have e1 : (s.extract p s.size).size = s.size - p := by simp
        rw [e1] at k2
        rw [ext_ext s p 0 _ (by omega)] at hr
        generalize oneB (s.extract p s.size) = o at *
        obtain ⟨i1, i2, i3, i4, i5, i6, i7⟩ := ih (p + o.2.1) (by omega) (by omega)
        refine ⟨by simp only; omega, i2, i3, ?_, i5, by simp only [List.length_cons]; omega, ?_⟩
        · intro x hx
          rcases List.mem_cons.1 hx with rfl | hx
          · exact k4
          · exact i4 x hx
        · intro acc
          show cat (acc ++ recB o.1) _ = _
          rw [i7, ← hr, ByteArray.append_assoc, Nat.add_zero]
          congr 1
          exact extract_append s p (p + o.2.1) _ (by omega) i1 i2
      · rw [if_neg h0]
        have hc := oneB_cases (s.extract p s.size)
        refine ⟨Nat.le_refl _, by simp only; omega, ?_, by simp, hc, by simp, ?_⟩
        · simp only
          constructor
          · intro h; exact absurd h h0
          · intro h; omega
        · intro acc
          show acc = acc ++ s.extract p p
          have : s.extract p p = ByteArray.empty := by
            apply Go.WideShapes.bytes_inj
            simp
          rw [this]
          simp
    · simp only [decB]
      rw [if_neg hlt]
      have : p = s.size := by omega
      subst this
      refine ⟨Nat.le_refl _, Nat.le_refl _, by simp, by simp, Or.inl rfl, by simp, ?_⟩
      intro acc
      show acc = acc ++ s.extract s.size s.size
      have : s.extract s.size s.size = ByteArray.empty := by
        apply Go.WideShapes.bytes_inj
        simp
      rw [this]
      simp

theorem encB_cat (l : List ByteArray) (h : ∀ x ∈ l, x.size ≤ 30000) : encB l = cat ⟨#[]⟩ l := by unfold encB cat; rw [if_pos h]

end Go.Proofs.Ytgfiiccajellnaa.JW
