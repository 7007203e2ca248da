/-
  The journal's laws in plain Lean: what is encoded is decoded; cut off; a byte turned.
-/
import Derived.Test.YtgfiiccajellnaaJL1
set_option linter.unusedVariables false
namespace Go.Proofs.Ytgfiiccajellnaa.JW
open Go.RowKit Go.Proofs.Ytgfiiccajellnaa.JP Go.Proofs.YtgfiiccajellnaaW.PrintWords

theorem cat_acc (acc : ByteArray) (l : List ByteArray) : cat acc l = acc ++ cat ⟨#[]⟩ l := by
  induction l generalizing acc with
  | nil => exact ByteArray.append_empty.symm
  | cons x l ih =>
    show cat (acc ++ recB x) l = acc ++ cat (⟨#[]⟩ ++ recB x) l
    rw [ih, ih (⟨#[]⟩ ++ recB x), show (⟨#[]⟩ : ByteArray) ++ recB x = recB x from ByteArray.empty_append, ByteArray.append_assoc]
theorem cat_cons (x : ByteArray) (l : List ByteArray) : cat ⟨#[]⟩ (x :: l) = recB x ++ cat ⟨#[]⟩ l := by
  show cat (⟨#[]⟩ ++ recB x) l = _
  rw [cat_acc, show (⟨#[]⟩ : ByteArray) ++ recB x = recB x from ByteArray.empty_append]
theorem cat_append (l m : List ByteArray) : cat ⟨#[]⟩ (l ++ m) = cat ⟨#[]⟩ l ++ cat ⟨#[]⟩ m := by
  rw [← cat_acc]; simp [cat]

theorem be_bytes (m : Nat) (n : Nat) (h : n < 256 ^ m) : num (strOfNums (be m n)).data.toList = n := by
  have key : ∀ (m : Nat) (a : Nat) (n : Nat), (List.foldl (fun n (c : UInt8) => n * 256 + c.toNat) a ((be m (n : Int)).map fun x => UInt8.ofNat x.toNat)) = a * 256 ^ m + n % 256 ^ m := by
    intro m
    induction m with
    | zero => intro a n; simp [be, Nat.mod_one]
    | succ m ih =>
      intro a n
      simp only [be, List.map_cons, List.foldl_cons]
      rw [ih]
      have e1 : ((n : Int) / 2 ^ (8 * m) % 256).toNat = n / 256 ^ m % 256 := by
        have : ((2 : Int) ^ (8 * m)) = ((256 ^ m : Nat) : Int) := by
          rw [Int.pow_mul, Int.natCast_pow]; rfl
        rw [this, ← Int.natCast_ediv]
        omega
      rw [e1]
      have e2 : (UInt8.ofNat (n / 256 ^ m % 256)).toNat = n / 256 ^ m % 256 := by
        rw [UInt8.toNat_ofNat']
        exact Nat.mod_eq_of_lt (Nat.mod_lt _ (by decide))
      rw [e2]
      have e3 : n % 256 ^ (m + 1) = 256 ^ m * (n / 256 ^ m % 256) + n % 256 ^ m := by
        rw [Nat.pow_succ, Nat.mod_mul]; omega
      rw [e3, Nat.pow_succ, Nat.add_mul, Nat.mul_assoc, Nat.mul_comm 256 (256 ^ m), Nat.mul_comm (n / 256 ^ m % 256)]
      omega
  have := key m 0 n
  rw [strOfNums_data]
  show List.foldl _ 0 _ = _
  rw [this, Nat.mod_eq_of_lt h]
  omega

/-- What lies in a record. -/
theorem recB_parts (x : ByteArray) (h : x.size ≤ 30000) : recB x = strOfNums (be 4 x.size) ++ (x ++ (strOfNums (be 2 (chk x.data.toList).2) ++ strOfNums (be 2 (chk x.data.toList).1))) := by
  unfold recB
  rw [if_neg (by omega), ByteArray.append_assoc, ByteArray.append_assoc]

theorem extract_left (a b : ByteArray) (i j : Nat) (h : j ≤ a.size) : (a ++ b).extract i j = a.extract i j := by
  apply Go.WideShapes.bytes_inj
  simp only [ByteArray.data_extract, ByteArray.data_append, Array.toList_extract, Array.toList_append, List.extract_eq_take_drop]
  have hl : a.data.toList.length = a.size := by simp
  by_cases hi : i ≤ a.size
  · rw [List.drop_append_of_le_length (by omega), List.take_append_of_le_length (by simp; omega)]
  · rw [show j - i = 0 from by omega]; simp
theorem extract_right (a b : ByteArray) (i j : Nat) : (a ++ b).extract (a.size + i) (a.size + j) = b.extract i j := by
  apply Go.WideShapes.bytes_inj
  simp only [ByteArray.data_extract, ByteArray.data_append, Array.toList_extract, Array.toList_append, List.extract_eq_take_drop]
  have hl : a.data.toList.length = a.size := by simp
  rw [← hl, List.drop_append, List.drop_eq_nil_of_le (by omega), show a.data.toList.length + j - (a.data.toList.length + i) = j - i from by omega]
  simp
theorem extract_whole (a : ByteArray) : a.extract 0 a.size = a := by
  apply Go.WideShapes.bytes_inj
  simp

/-- A record, whatever stands behind it, is read. -/
theorem oneB_app (x r : ByteArray) (h : x.size ≤ 30000) : oneB (recB x ++ r) = (x, x.size + 8, 0) := by
  have hs := recB_size x h
  have hp := recB_parts x h
  have l4 : (strOfNums (be 4 x.size)).size = 4 := by rw [strOfNums_size, be_length]
  have e4 : (recB x ++ r).extract 0 4 = strOfNums (be 4 x.size) := by
    have := extract_whole (strOfNums (be 4 x.size))
    rw [l4] at this
    rw [extract_left _ _ _ _ (by omega), hp, extract_left _ _ _ _ (by omega), this]
  have en : num ((recB x ++ r).extract 0 4).data.toList = x.size := by
    rw [e4]; exact be_bytes 4 x.size (by omega)
  have ex : (recB x ++ r).extract 4 (4 + x.size) = x := by
    rw [extract_left _ _ _ _ (by omega), hp]
    have := extract_right (strOfNums (be 4 x.size)) (x ++ (strOfNums (be 2 (chk x.data.toList).2) ++ strOfNums (be 2 (chk x.data.toList).1))) 0 x.size
    rw [l4] at this
    rw [show (4 : Nat) = 4 + 0 from rfl, this, extract_left _ _ _ _ (Nat.le_refl _), extract_whole]
  have er : (recB x ++ r).extract 0 (4 + x.size + 4) = recB x := by
    rw [extract_left _ _ _ _ (by omega), show 4 + x.size + 4 = (recB x).size from by omega, extract_whole]
  unfold oneB
  rw [en, ex, er, ByteArray.size_append, if_neg (by omega), if_neg (by omega), if_neg (by omega), if_pos rfl]
  congr 2
  omega

/-- Texts that are encoded, whatever stands behind them, are read. -/
theorem decB_cat (l : List ByteArray) (h : ∀ x ∈ l, x.size ≤ 30000) (k : Nat) (a r : ByteArray) :
    decB (k + l.length) (a ++ (cat ⟨#[]⟩ l ++ r)) a.size =
      (l ++ (decB k (a ++ (cat ⟨#[]⟩ l ++ r)) (a.size + (cat ⟨#[]⟩ l).size)).1, (decB k (a ++ (cat ⟨#[]⟩ l ++ r)) (a.size + (cat ⟨#[]⟩ l).size)).2) := by
  induction l generalizing a with
  | nil => simp [cat]; rfl
  | cons x l ih =>
    have hx := h x List.mem_cons_self
    have hs := recB_size x hx
    rw [cat_cons]
    have e1 : a ++ (recB x ++ cat ⟨#[]⟩ l ++ r) = (a ++ recB x) ++ (cat ⟨#[]⟩ l ++ r) := by simp only [ByteArray.append_assoc]
    have e2 : (a ++ (recB x ++ cat ⟨#[]⟩ l ++ r)).extract a.size (a ++ (recB x ++ cat ⟨#[]⟩ l ++ r)).size = recB x ++ (cat ⟨#[]⟩ l ++ r) := by
      have := extract_right a (recB x ++ cat ⟨#[]⟩ l ++ r) 0 (recB x ++ cat ⟨#[]⟩ l ++ r).size
      rw [Nat.add_zero, ← ByteArray.size_append, extract_whole] at this
      rw [this, ByteArray.append_assoc]
    have ho := oneB_app x (cat ⟨#[]⟩ l ++ r) hx
    rw [← e2] at ho
    have ih2 := ih (fun y hy => h y (List.mem_cons_of_mem _ hy)) (a ++ recB x)
    rw [← e1, ByteArray.size_append, hs] at ih2
    rw [show k + (x :: l).length = (k + l.length) + 1 from by simp; omega]
    simp only [decB]
    rw [if_pos (by simp only [ByteArray.size_append]; omega), ho, if_pos rfl]
    simp only
    rw [ih2, ByteArray.size_append, hs]
    simp only [Nat.add_assoc, List.cons_append]

theorem cat_size_ge (l : List ByteArray) (h : ∀ x ∈ l, x.size ≤ 30000) : 8 * l.length ≤ (cat ⟨#[]⟩ l).size := by
  induction l with
  | nil => simp
  | cons x l ih =>
    have := ih (fun y hy => h y (List.mem_cons_of_mem _ hy))
    rw [cat_cons, ByteArray.size_append, recB_size x (h x List.mem_cons_self), List.length_cons]
    omega

theorem decB_end (k : Nat) (s : ByteArray) : decB k s s.size = ([], s.size, 0) := by
  cases k with
  | zero => rfl
  | succ k => simp only [decB]; rw [if_neg (by omega)]

/-- What is told of texts' records, and r behind them. -/
theorem decB_front (l : List ByteArray) (h : ∀ x ∈ l, x.size ≤ 30000) (r : ByteArray) :
    ∃ k, (r = ⟨#[]⟩ ∨ 0 < k) ∧ decB ((cat ⟨#[]⟩ l ++ r).size + 1) (cat ⟨#[]⟩ l ++ r) 0 = (l ++ (decB k (cat ⟨#[]⟩ l ++ r) (cat ⟨#[]⟩ l).size).1, (decB k (cat ⟨#[]⟩ l ++ r) (cat ⟨#[]⟩ l).size).2) := by
  have h8 := cat_size_ge l h
  refine ⟨(cat ⟨#[]⟩ l ++ r).size + 1 - l.length, Or.inr (by rw [ByteArray.size_append]; omega), ?_⟩
  have := decB_cat l h ((cat ⟨#[]⟩ l ++ r).size + 1 - l.length) ⟨#[]⟩ r
  rw [show (⟨#[]⟩ : ByteArray) ++ (cat ⟨#[]⟩ l ++ r) = cat ⟨#[]⟩ l ++ r from ByteArray.empty_append, show (⟨#[]⟩ : ByteArray).size = 0 from rfl, Nat.zero_add] at this
  rw [← this]
  congr 1
  rw [ByteArray.size_append]
  omega

/-- What is encoded is decoded as it was. -/
theorem dec_enc (l : List ByteArray) (h : ∀ x ∈ l, x.size ≤ 30000) : decB ((encB l).size + 1) (encB l) 0 = (l, (encB l).size, 0) := by
  rw [encB_cat l h]
  obtain ⟨k, _, hk⟩ := decB_front l h ⟨#[]⟩
  rw [show cat ⟨#[]⟩ l ++ (⟨#[]⟩ : ByteArray) = cat ⟨#[]⟩ l from ByteArray.append_empty, decB_end] at hk
  rw [hk, List.append_nil]

theorem oneB_part (x : ByteArray) (m : Nat) (h : x.size ≤ 30000) (h0 : m < x.size + 8) : oneB ((recB x).extract 0 m) = (⟨#[]⟩, 0, 250) := by
  have hs := recB_size x h
  have hz : ((recB x).extract 0 m).size = m := by simp; omega
  unfold oneB
  rw [hz]
  by_cases h4 : m < 4
  · rw [if_pos h4]
  · rw [if_neg h4]
    have e4 : ((recB x).extract 0 m).extract 0 4 = (recB x ++ ⟨#[]⟩).extract 0 4 := by
      rw [ByteArray.extract_extract, show (recB x ++ (⟨#[]⟩ : ByteArray)) = recB x from ByteArray.append_empty]
      congr 1
      omega
    have l4 : (strOfNums (be 4 x.size)).size = 4 := by rw [strOfNums_size, be_length]
    have hw := extract_whole (strOfNums (be 4 x.size))
    rw [l4] at hw
    have en : num (((recB x).extract 0 m).extract 0 4).data.toList = x.size := by
      rw [e4, extract_left _ _ _ _ (by omega), recB_parts x h, extract_left _ _ _ _ (by omega), hw]
      exact be_bytes 4 x.size (by omega)
    rw [en, if_neg (by omega), if_pos (by omega)]

theorem extract_none (s : ByteArray) (i : Nat) : s.extract i i = ⟨#[]⟩ := by
  apply Go.WideShapes.bytes_inj
  simp

/-- Cut off anywhere, just those are told that lie wholly ahead of the cut. -/
theorem dec_cut (l : List ByteArray) (h : ∀ x ∈ l, x.size ≤ 30000) (n c : Nat) (hn : n ≤ l.length) (he : (cat ⟨#[]⟩ (l.take n)).size ≤ c) (hc : c ≤ (encB l).size)
    (hx : ∀ x, l[n]? = some x → c < (cat ⟨#[]⟩ (l.take n)).size + x.size + 8) :
    decB (((encB l).extract 0 c).size + 1) ((encB l).extract 0 c) 0 = (l.take n, (cat ⟨#[]⟩ (l.take n)).size, if (cat ⟨#[]⟩ (l.take n)).size = c then 0 else 250) := by
  have ht : ∀ x ∈ l.take n, x.size ≤ 30000 := fun x hx => h x (List.mem_of_mem_take hx)
  have hsplit : encB l = cat ⟨#[]⟩ (l.take n) ++ cat ⟨#[]⟩ (l.drop n) := by
    rw [encB_cat l h, ← cat_append, List.take_append_drop]
  have hsz : (encB l).size = (cat ⟨#[]⟩ (l.take n)).size + (cat ⟨#[]⟩ (l.drop n)).size := by rw [hsplit, ByteArray.size_append]
  have hfront : (encB l).extract 0 c = cat ⟨#[]⟩ (l.take n) ++ (cat ⟨#[]⟩ (l.drop n)).extract 0 (c - (cat ⟨#[]⟩ (l.take n)).size) := by
    rw [← extract_append (encB l) 0 (cat ⟨#[]⟩ (l.take n)).size c (Nat.zero_le _) he hc, hsplit, extract_left _ _ _ _ (Nat.le_refl _), extract_whole]
    congr 1
    have := extract_right (cat ⟨#[]⟩ (l.take n)) (cat ⟨#[]⟩ (l.drop n)) 0 (c - (cat ⟨#[]⟩ (l.take n)).size)
    rw [Nat.add_zero, show (cat ⟨#[]⟩ (l.take n)).size + (c - (cat ⟨#[]⟩ (l.take n)).size) = c from by omega] at this
    exact this
  rw [hfront]
  generalize hE : (cat ⟨#[]⟩ (l.take n)).size = E at *
  by_cases hend : E = c
  · subst hend
    rw [Nat.sub_self, extract_none, if_pos rfl]
    obtain ⟨k, _, hk⟩ := decB_front (l.take n) ht ⟨#[]⟩
    rw [show cat ⟨#[]⟩ (l.take n) ++ (⟨#[]⟩ : ByteArray) = cat ⟨#[]⟩ (l.take n) from ByteArray.append_empty, decB_end, hE] at hk
    rw [show cat ⟨#[]⟩ (l.take n) ++ (⟨#[]⟩ : ByteArray) = cat ⟨#[]⟩ (l.take n) from ByteArray.append_empty, hE, hk, List.append_nil]
  · rw [if_neg hend]
    have hlt : n < l.length := by
      rcases Nat.lt_or_ge n l.length with h' | h'
      · exact h'
      · rw [List.drop_of_length_le h'] at hsz
        have : (cat ⟨#[]⟩ ([] : List ByteArray)).size = 0 := rfl
        omega
    have hd : l.drop n = l[n] :: l.drop (n + 1) := List.drop_eq_getElem_cons hlt
    have hxs := hx l[n] (List.getElem?_eq_getElem hlt)
    have hx3 := h l[n] (List.getElem_mem hlt)
    generalize l[n] = x at *
    have hs := recB_size x hx3
    have hr : (cat ⟨#[]⟩ (l.drop n)).extract 0 (c - E) = (recB x).extract 0 (c - E) := by
      rw [hd, cat_cons, extract_left _ _ _ _ (by omega)]
    rw [hr]
    have hrs : ((recB x).extract 0 (c - E)).size = c - E := by simp; omega
    have ho := oneB_part x (c - E) hx3 (by omega)
    generalize (recB x).extract 0 (c - E) = r at *
    obtain ⟨k, hk0, hk⟩ := decB_front (l.take n) ht r
    rw [hk, hE]
    rcases hk0 with rfl | hk0
    · have : (⟨#[]⟩ : ByteArray).size = 0 := rfl
      omega
    obtain ⟨k, rfl⟩ : ∃ j, k = j + 1 := ⟨k - 1, by omega⟩
    have e2 : (cat ⟨#[]⟩ (l.take n) ++ r).extract E (cat ⟨#[]⟩ (l.take n) ++ r).size = r := by
      have := extract_right (cat ⟨#[]⟩ (l.take n)) r 0 r.size
      rw [Nat.add_zero, ← ByteArray.size_append, extract_whole, hE] at this
      exact this
    simp only [decB]
    rw [if_pos (by rw [ByteArray.size_append]; omega), e2, ho, if_neg (by simp), List.append_nil]

end Go.Proofs.Ytgfiiccajellnaa.JW
