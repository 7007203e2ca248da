/-
  The reference's Print of tokens, in plain Lean: the texts joined by blanks.
-/
import Derived.Test.YtjmffehffmmobaaPWordLexesx3
import Derived.Test.YtjmffehffmmobaaWW5
import Derived.Test.YtjmffehffmmobaaWL1
set_option linter.unusedVariables false
set_option linter.unusedSimpArgs false
namespace Go.Proofs.Ytjmffehffmmobaa.WW
open Go.Proofs Go.RowKit Go.Proofs.Ytjmffehffmmobaa.WP Go.Proofs.YtjmffehffmmobaaW.PrintWords Go.Proofs.Ytjmffehffmmobaa.PWordLexes

/-- The texts of the tokens behind the first, each with a blank ahead. -/
def tailT : List S31 → List UInt8
  | [] => []
  | t :: r => 32 :: (t.f1.data.toList ++ tailT r)
theorem tailT_len (l : List S31) : (tailT l).length = (l.map (·.f1.size)).sum + l.length := by
  induction l with
  | nil => rfl
  | cons t r ih =>
    have : t.f1.data.toList.length = t.f1.size := rfl
    simp only [tailT, List.length_cons, List.length_append, ih, List.map_cons, List.sum_cons, this]
    omega
theorem join_cons (t : S31) (r : List S31) : Lib.join (((t :: r).map (·.f1)).map (·.data.toList)) [32] = t.f1.data.toList ++ tailT r := by
  unfold Lib.join
  induction r generalizing t with
  | nil => simp [tailT]
  | cons u r ih =>
    have h := ih u
    simp only [List.map_cons] at h ⊢
    rw [List.intercalate_cons_cons, h]
    simp [tailT]
theorem printB_cons (t : S31) (r : List S31) : printB (t :: r) = ⟨(t.f1.data.toList ++ tailT r).toArray⟩ := by
  unfold printB
  rw [join_cons]
theorem rd_drop (l : List S31) (i : Nat) (t : S31) (r : List S31) (h : l.drop i = t :: r) : rd_T31 l (i : Int) = t ∧ i < l.length ∧ l.drop (i + 1) = r := by
  have hl : i < l.length := by
    apply Classical.byContradiction
    intro hn
    rw [List.drop_eq_nil_of_le (by omega)] at h
    cases h
  rw [List.drop_eq_getElem_cons hl] at h
  injection h with h1 h2
  refine ⟨?_, hl, h2⟩
  unfold rd_T31
  rw [Int.toNat_natCast, List.getD_eq_getElem?_getD, List.getElem?_eq_getElem hl]
  exact h1
theorem bytes_step (s : ByteArray) (t : ByteArray) (r : List UInt8) : (⟨(((s ++ (⟨#[32]⟩ : ByteArray)) ++ t).data.toList ++ r).toArray⟩ : ByteArray) = ⟨(s.data.toList ++ 32 :: (t.data.toList ++ r)).toArray⟩ := by
  simp [ByteArray.data_append]
theorem size_add (a b : ByteArray) : (a ++ b).size = a.size + b.size := by simp
theorem print_loop (l : List S31) (hl : l.length ≤ 1000000) : ∀ (r : List S31) (i k : Nat) (s : ByteArray), 0 < i → l.drop i = r → r.length < k → s.size + (tailT r).length ≤ 1000000000000 →
    debentureref09_Print.l0 k l s (i : Int) = some ⟨(s.data.toList ++ tailT r).toArray⟩ := by
  intro r
  induction r with
  | nil =>
    intro i k s h0 hd hk hs
    obtain ⟨k, rfl⟩ : ∃ k', k = k' + 1 := ⟨k - 1, by simp at hk; omega⟩
    have hl : l.length ≤ i := List.drop_eq_nil_iff.1 hd
    unfold debentureref09_Print.l0
    rw [if_neg (by omega)]
    simp [tailT]
  | cons t r ih =>
    intro i k s h0 hd hk hs
    obtain ⟨k, rfl⟩ : ∃ k', k = k' + 1 := ⟨k - 1, by simp at hk; omega⟩
    obtain ⟨e, hi, hd'⟩ := rd_drop l i t r hd
    have hlen : (tailT (t :: r)).length = 1 + (t.f1.size + (tailT r).length) := by
      have : t.f1.data.toList.length = t.f1.size := rfl
      simp only [tailT, List.length_cons, List.length_append, this]
      omega
    unfold debentureref09_Print.l0
    have hs1 : (s ++ (⟨#[32]⟩ : ByteArray)).size = s.size + 1 := by rw [size_add]; rfl
    rw [if_pos (by omega), if_pos (by omega), if_pos (by omega), if_pos (by omega), e, if_pos (by omega)]
    have hw : wrap64 ((i : Int) + 1) = ((i + 1 : Nat) : Int) := wrap_id _ (by omega) (by omega)
    rw [hw, ih (i + 1) k _ (by omega) hd' (by simp at hk; omega) (by rw [size_add, hs1]; omega)]
    rw [bytes_step]
    rfl
theorem ref_print (l : List S31) (hl : l.length ≤ 1000000) (hs : (l.map (·.f1.size)).sum ≤ 100000000000) : debentureref09_Print.f 1000002 l = some (printB l) := by
  unfold debentureref09_Print.f
  cases l with
  | nil => rfl
  | cons t r =>
    have hlen := tailT_len r
    simp only [List.map_cons, List.sum_cons, List.length_cons] at hs hl
    obtain ⟨e, hi, hd'⟩ := rd_drop (t :: r) 0 t r rfl
    rw [show (1000002 : Nat) = 1000001 + 1 from rfl]
    unfold debentureref09_Print.l0
    have e' : rd_T31 (t :: r) 0 = t := e
    have h0 : (⟨#[]⟩ : ByteArray).size = 0 := rfl
    rw [if_pos (by simp only [List.length_cons]; omega), if_neg (by omega), if_pos (by omega), e', if_pos (by omega)]
    have hw : wrap64 ((0 : Int) + 1) = ((1 : Nat) : Int) := wrap_id _ (by omega) (by omega)
    rw [hw, print_loop (t :: r) (by simp only [List.length_cons]; omega) r 1 1000001 _ (by omega) hd' (by omega) (by rw [size_add, h0]; omega), printB_cons]
    simp [ByteArray.data_append]
end Go.Proofs.Ytjmffehffmmobaa.WW
