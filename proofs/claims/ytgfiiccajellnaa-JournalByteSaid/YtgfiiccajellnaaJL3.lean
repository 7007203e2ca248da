/-
  The journal's laws in plain Lean: a byte that is turned is noticed.
-/
import Derived.Test.YtgfiiccajellnaaJL2
set_option linter.unusedVariables false
namespace Go.Proofs.Ytgfiiccajellnaa.JW
open Go.RowKit Go.Proofs.Ytgfiiccajellnaa.JP Go.Proofs.YtgfiiccajellnaaW.PrintWords

def sum8 (l : List UInt8) : Nat := l.foldl (fun n c => n + c.toNat) 0
theorem sum8_acc (l : List UInt8) (a : Nat) : l.foldl (fun n c => n + c.toNat) a = a + sum8 l := by
  induction l generalizing a with
  | nil => rfl
  | cons c l ih =>
    show List.foldl _ (a + c.toNat) l = a + List.foldl _ (0 + c.toNat) l
    rw [ih, ih (0 + c.toNat)]; omega
theorem sum8_append (l m : List UInt8) : sum8 (l ++ m) = sum8 l + sum8 m := by
  unfold sum8
  rw [List.foldl_append, sum8_acc]
  rfl
theorem sum8_cons (c : UInt8) (l : List UInt8) : sum8 (c :: l) = c.toNat + sum8 l := by
  show List.foldl _ (0 + c.toNat) l = _
  rw [sum8_acc]; omega
theorem chk_sum (l : List UInt8) : (chk l).1 = (1 + sum8 l) % 65521 := by
  induction h : l.length generalizing l with
  | zero => rw [List.length_eq_zero_iff] at h; subst h; decide
  | succ m ih =>
    rcases List.eq_nil_or_concat l with rfl | ⟨l', c, rfl⟩
    · simp at h
    · rw [List.concat_eq_append] at h ⊢
      have := ih l' (by simpa using h)
      rw [chk_snoc, adl, this, sum8_append, sum8_cons]
      show ((1 + sum8 l') % 65521 + c.toNat) % 65521 = (1 + (sum8 l' + (c.toNat + 0))) % 65521
      omega
theorem set_parts (l : List UInt8) (i : Nat) (c : UInt8) (h : i < l.length) : l.set i c = l.take i ++ c :: l.drop (i + 1) := by
  rw [List.set_eq_take_append_cons_drop, if_pos h]
theorem sum8_set (l : List UInt8) (i : Nat) (c : UInt8) (h : i < l.length) : sum8 (l.set i c) + l[i].toNat = sum8 l + c.toNat := by
  have e : l = l.take i ++ l[i] :: l.drop (i + 1) := by
    rw [← List.drop_eq_getElem_cons h, List.take_append_drop]
  have h2 : sum8 l = sum8 (l.take i) + (l[i].toNat + sum8 (l.drop (i + 1))) := by
    conv => lhs; rw [e]
    rw [sum8_append, sum8_cons]
  rw [set_parts l i c h, sum8_append, sum8_cons, h2]
  omega
theorem chk_set (l : List UInt8) (i : Nat) (c : UInt8) (h : i < l.length) (hc : l[i] ≠ c) : (chk (l.set i c)).1 ≠ (chk l).1 := by
  rw [chk_sum, chk_sum]
  have hs := sum8_set l i c h
  have h1 := l[i].toNat_lt
  have h2 := c.toNat_lt
  have h3 : l[i].toNat ≠ c.toNat := fun e => hc (UInt8.toNat_inj.1 e)
  omega

theorem toL_append (a b : ByteArray) : (a ++ b).data.toList = a.data.toList ++ b.data.toList := by
  rw [ByteArray.data_append, Array.toList_append]
theorem toL_extract (a : ByteArray) (i j : Nat) : (a.extract i j).data.toList = (a.data.toList.drop i).take (j - i) := by
  rw [ByteArray.data_extract, Array.toList_extract, List.extract_eq_take_drop]

/-- A record in which a byte behind the length is turned is wrong. -/
theorem oneB_turned (b u : ByteArray) (i : Nat) (c : UInt8) (hb : b.size ≤ 30000) (h4 : 4 ≤ i) (hi : i < (recB b).data.toList.length) (hu : u.data.toList = (recB b).data.toList.set i c) (hc : (recB b).data.toList[i] ≠ c) :
    oneB u = (⟨#[]⟩, 0, 251) := by
  have hs := recB_size b hb
  have hp := recB_parts b hb
  have hlen : (recB b).data.toList.length = b.size + 8 := by rw [← hs]; simp
  have hus : u.size = b.size + 8 := by
    have := congrArg List.length hu
    rw [List.length_set, hlen] at this
    simpa using this
  have l4 : (strOfNums (be 4 b.size)).data.toList.length = 4 := by rw [strOfNums_data, List.length_map, be_length]
  have lb : b.data.toList.length = b.size := by simp
  have hpl : (recB b).data.toList = (strOfNums (be 4 b.size)).data.toList ++ (b.data.toList ++ ((strOfNums (be 2 (chk b.data.toList).2)).data.toList ++ (strOfNums (be 2 (chk b.data.toList).1)).data.toList)) := by
    rw [hp, toL_append, toL_append, toL_append]
  have e4 : num (u.extract 0 4).data.toList = b.size := by
    rw [toL_extract, hu, List.drop_zero, Nat.sub_zero, List.take_set_of_le h4, hpl, List.take_append_of_le_length (by omega), List.take_of_length_le (by omega)]
    exact be_bytes 4 b.size (by omega)
  have hw : u.extract 0 (4 + b.size + 4) = u := by
    rw [show 4 + b.size + 4 = u.size from by omega, extract_whole]
  unfold oneB
  rw [e4, hus, if_neg (by omega), if_neg (by omega), if_neg (by omega), hw, if_neg]
  intro he
  have he := ba_ext he
  have ht : (u.extract 4 (4 + b.size)).data.toList = ((recB b).data.toList.set i c |>.drop 4).take b.size := by
    rw [toL_extract, hu, show 4 + b.size - 4 = b.size from by omega]
  have hd4 : (recB b).data.toList.drop 4 = b.data.toList ++ ((strOfNums (be 2 (chk b.data.toList).2)).data.toList ++ (strOfNums (be 2 (chk b.data.toList).1)).data.toList) := by
    rw [hpl, List.drop_left' l4]
  by_cases hin : i < 4 + b.size
  · -- in the text: its check is another one
    have ht2 : (u.extract 4 (4 + b.size)).data.toList = b.data.toList.set (i - 4) c := by
      rw [ht, List.drop_set, if_neg (by omega), hd4, List.set_append_left _ _ (by omega), ← lb]
      rw [List.take_append_of_le_length (by simp), List.take_of_length_le (by simp)]
    have hti : b.data.toList[i - 4]'(by omega) ≠ c := by
      intro hbc
      apply hc
      rw [← hbc]
      have : (recB b).data.toList[i]? = b.data.toList[i - 4]? := by
        have e : (recB b).data.toList[i]? = ((recB b).data.toList.drop 4)[i - 4]? := by
          rw [List.getElem?_drop]; congr 1; omega
        rw [e, hd4, List.getElem?_append_left (by omega)]
      rw [List.getElem?_eq_getElem hi, List.getElem?_eq_getElem (by omega)] at this
      exact Option.some.inj this
    have hne := chk_set b.data.toList (i - 4) c (by omega) hti
    rw [← ht2] at hne
    apply hne
    have hts : (u.extract 4 (4 + b.size)).size = b.size := by simp; omega
    have hq := recB_parts (u.extract 4 (4 + b.size)) (by omega)
    generalize u.extract 4 (4 + b.size) = t' at *
    have hul : u.data.toList.drop (6 + b.size) = (strOfNums (be 2 (chk b.data.toList).1)).data.toList := by
      rw [hu, List.drop_set, if_pos (by omega), show 6 + b.size = 4 + (b.size + 2) from by omega, ← List.drop_drop, hd4, ← List.append_assoc]
      rw [List.drop_left' (by rw [List.length_append, lb, strOfNums_data, List.length_map, be_length])]
    have hul2 : u.data.toList.drop (6 + b.size) = (strOfNums (be 2 (chk t'.data.toList).1)).data.toList := by
      rw [he, hq, toL_append, toL_append, toL_append, ← List.append_assoc, ← List.append_assoc]
      rw [List.drop_left' (by rw [List.length_append, List.length_append, strOfNums_data, strOfNums_data, List.length_map, List.length_map, be_length, be_length]; simp; omega)]
    have h1 := be_bytes 2 (chk b.data.toList).1 (by have := (chk_lt b.data.toList).1; omega)
    have h2 := be_bytes 2 (chk t'.data.toList).1 (by have := (chk_lt t'.data.toList).1; omega)
    rw [← hul2, hul, h1] at h2
    exact h2.symm
  · -- in the check: the text's own is there
    have ht2 : u.extract 4 (4 + b.size) = b := by
      apply Go.WideShapes.bytes_inj
      rw [ht, List.drop_set, if_neg (by omega), hd4, List.set_append_right _ _ (by omega), ← lb, List.take_left]
    rw [ht2] at he
    rw [he] at hu
    have := congrArg (fun l : List UInt8 => l[i]?) hu
    rw [List.getElem?_set_self hi, List.getElem?_eq_getElem hi] at this
    exact hc (Option.some.inj this)

/-- What stands ahead is told; there it is noticed. -/
theorem dec_turned (a b u : ByteArray) (i : Nat) (c : UInt8) (ha : a.size ≤ 30000) (hb : b.size ≤ 30000) (h4 : 4 ≤ i) (hi : i < (recB b).data.toList.length) (hu : u.data.toList = (recB b).data.toList.set i c) (hc : (recB b).data.toList[i] ≠ c) :
    decB ((recB a ++ u).size + 1) (recB a ++ u) 0 = ([a], (recB a).size, 251) := by
  have ho := oneB_turned b u i c hb h4 hi hu hc
  have hus : 0 < u.size := by
    have := congrArg List.length hu
    rw [List.length_set] at this
    have e : u.data.toList.length = u.size := by simp
    omega
  have hcat : cat ⟨#[]⟩ [a] = recB a := by rw [cat_cons]; exact ByteArray.append_empty
  obtain ⟨k, hk0, hk⟩ := decB_front [a] (by simpa using ha) u
  rw [hcat] at hk
  rcases hk0 with rfl | hk0
  · exact absurd hus (by decide)
  obtain ⟨k, rfl⟩ : ∃ j, k = j + 1 := ⟨k - 1, by omega⟩
  have e2 : (recB a ++ u).extract (recB a).size (recB a ++ u).size = u := by
    have := extract_right (recB a) u 0 u.size
    rw [Nat.add_zero, ← ByteArray.size_append, extract_whole] at this
    exact this
  rw [hk]
  simp only [decB]
  rw [if_pos (by rw [ByteArray.size_append]; omega), e2, ho, if_neg (by simp), List.append_nil]

end Go.Proofs.Ytgfiiccajellnaa.JW
