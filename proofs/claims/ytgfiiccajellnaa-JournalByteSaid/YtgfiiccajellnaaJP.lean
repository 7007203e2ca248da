/-
  The journal in plain Lean: checks, records, what bytes tell. No program in sight.
-/
import Derived.RowKit
namespace Go.Proofs.Ytgfiiccajellnaa.JP

/-- A text's check. -/
def adl (p : Nat × Nat) (c : UInt8) : Nat × Nat := ((p.1 + c.toNat) % 65521, (p.2 + (p.1 + c.toNat) % 65521) % 65521)
def chk (l : List UInt8) : Nat × Nat := l.foldl adl (1, 0)

theorem chk_snoc (l : List UInt8) (c : UInt8) : chk (l ++ [c]) = adl (chk l) c := by simp [chk]
theorem adl_lt (p : Nat × Nat) (c : UInt8) : (adl p c).1 < 65521 ∧ (adl p c).2 < 65521 := by
  unfold adl; exact ⟨Nat.mod_lt _ (by decide), Nat.mod_lt _ (by decide)⟩
theorem chk_lt (l : List UInt8) : (chk l).1 < 65521 ∧ (chk l).2 < 65521 := by
  rcases List.eq_nil_or_concat l with rfl | ⟨l', c, rfl⟩
  · simp [chk]
  · rw [List.concat_eq_append, chk_snoc]; exact adl_lt _ _

theorem take_snoc (s : ByteArray) (k : Nat) (h : k < s.size) : s.data.toList.take (k + 1) = s.data.toList.take k ++ [s[k]] := by
  rw [List.take_succ_eq_append_getElem (by simpa using h)]; rfl
theorem take_all (s : ByteArray) : s.data.toList.take s.size = s.data.toList := by
  rw [List.take_of_length_le]; simp

theorem chk_take (s : ByteArray) (k : Nat) (h : k < s.size) : chk (s.data.toList.take (k + 1)) = adl (chk (s.data.toList.take k)) s[k] := by
  rw [take_snoc s k h, chk_snoc]

/-- A number's lowest bytes, the highest one first. -/
def be : Nat → Int → List Int
  | 0, _ => []
  | m + 1, n => (n / 2 ^ (8 * m) % 256) :: be m n
theorem be_length (m : Nat) (n : Int) : (be m n).length = m := by
  induction m with
  | zero => rfl
  | succ m ih => simp [be, ih]

/-- What lies in the row behind j rounds. -/
def beRow (m j : Nat) (n : Int) : List Int := List.replicate (m - j) 0 ++ be j n
theorem beRow_length (m j : Nat) (n : Int) (h : j ≤ m) : (beRow m j n).length = m := by
  simp [beRow, be_length]; omega
theorem beRow_set (m j : Nat) (n : Int) (h : j < m) : (beRow m j n).set (m - 1 - j) (n / 2 ^ (8 * j) % 256) = beRow m (j + 1) n := by
  unfold beRow
  obtain ⟨d, rfl⟩ : ∃ d, m = j + 1 + d := ⟨m - (j + 1), by omega⟩
  rw [show j + 1 + d - j = d + 1 from by omega, show j + 1 + d - 1 - j = d from by omega, show j + 1 + d - (j + 1) = d from by omega]
  rw [List.set_append_left _ _ (by simp), List.replicate_succ', List.set_append_right _ _ (by simp)]
  simp [be]
theorem beRow_zero (m : Nat) (n : Int) : beRow m 0 n = List.replicate m 0 := by simp [beRow, be]
theorem beRow_full (m : Nat) (n : Int) : beRow m m n = be m n := by simp [beRow]

/-- The number of bytes, the highest one first. -/
def num (l : List UInt8) : Nat := l.foldl (fun n c => n * 256 + c.toNat) 0
theorem num_snoc (l : List UInt8) (c : UInt8) : num (l ++ [c]) = num l * 256 + c.toNat := by simp [num]
theorem num_lt (l : List UInt8) : num l < 256 ^ l.length := by
  induction h : l.length generalizing l with
  | zero => rw [List.length_eq_zero_iff] at h; subst h; decide
  | succ m ih =>
    rcases List.eq_nil_or_concat l with rfl | ⟨l', c, rfl⟩
    · simp at h
    · rw [List.concat_eq_append] at h ⊢
      have := ih l' (by simpa using h)
      have hc := c.toNat_lt
      rw [num_snoc, Nat.pow_succ]
      omega

theorem ext_ext (s : ByteArray) (p a b : Nat) (hb : p + b ≤ s.size) : (s.extract p s.size).extract a b = s.extract (p + a) (p + b) := by
  rw [ByteArray.extract_extract]
  congr 1
  omega
theorem ext4 (s : ByteArray) (p : Nat) (h : p + 4 ≤ s.size) : ((s.extract p s.size).extract 0 4).data.toList = [s[p], s[p+1], s[p+2], s[p+3]] := by
  rw [ext_ext s p 0 4 h]
  apply List.ext_getElem
  · simp; omega
  · intro i h1 h2
    simp at h2
    have h3 : i < 4 := by omega
    match i, h3 with
    | 0, _ => simp; rfl
    | 1, _ => simp; rfl
    | 2, _ => simp; rfl
    | 3, _ => simp; rfl
theorem num4 (s : ByteArray) (p : Nat) (h : p + 4 ≤ s.size) : num ((s.extract p s.size).extract 0 4).data.toList = ((s[p].toNat * 256 + s[p+1].toNat) * 256 + s[p+2].toNat) * 256 + s[p+3].toNat := by
  rw [ext4 s p h]; simp [num]

end Go.Proofs.Ytgfiiccajellnaa.JP
