/-
  WordLong, walked.
-/
import Derived.Test.YtjmffehffmmobaaWW6
set_option linter.unusedVariables false
set_option linter.unusedSimpArgs false
namespace Go.Proofs.Ytjmffehffmmobaa.WW
open Go.Proofs Go.RowKit Go.Proofs.Ytjmffehffmmobaa.WP Go.Proofs.YtjmffehffmmobaaW.PrintWords Go.Proofs.Ytjmffehffmmobaa.PWordLexes
attribute [local go_sem high] eqA31

def rep (c : UInt8) (n : Nat) : ByteArray := ⟨(List.replicate n c).toArray⟩
theorem rep_size (c : UInt8) (n : Nat) : (rep c n).size = n := by
  show (List.replicate n c).toArray.size = n
  simp
theorem rep_list (c : UInt8) (n : Nat) : (rep c n).data.toList = List.replicate n c := rfl
theorem rep_succ (c : UInt8) (n : Nat) : rep c n ++ ⟨#[c]⟩ = rep c (n + 1) := by
  apply Go.WideShapes.bytes_inj
  rw [ByteArray.data_append, rep_list]
  show ((List.replicate n c).toArray ++ #[c]).toList = _
  rw [List.replicate_succ']
  simp
theorem runL_rep (p : Nat → Bool) (c : UInt8) (n : Nat) : runL p (List.replicate n c) = if p c.toNat = true then n else 0 := by
  induction n with
  | zero => split <;> rfl
  | succ n ih =>
    show (if p c.toNat = true then runL p (List.replicate n c) + 1 else 0) = _
    rw [ih]
    split <;> rfl
theorem extract_all (s : ByteArray) : s.extract 0 s.size = s := ByteArray.extract_zero_size ..
theorem extract_none (s : ByteArray) : s.extract s.size s.size = ⟨#[]⟩ := by
  apply Go.WideShapes.bytes_inj
  simp
theorem lexD_one (s : ByteArray) (k : Nat) (h : runL isB s.data.toList = 0) (hk : kindL s.data.toList = (k, s.size)) (hp : 0 < s.size) : lexD s = ([⟨k, s, 1, 1⟩], 0, 0, 0) := by
  have hne : ¬ s = ⟨#[]⟩ := fun e => by rw [e] at hp; exact absurd hp (by decide)
  obtain ⟨m, hm⟩ : ∃ m, s.size = m + 1 := ⟨s.size - 1, by omega⟩
  have h2 : lexB (m + 1) ⟨#[]⟩ (advP (1, 1) (s.data.toList.take s.size)) = .inr [] := by
    rw [lexB.eq_2]
    exact if_pos rfl
  unfold lexD
  rw [lexB.eq_2]
  simp only [h, extract_all]
  rw [if_neg hne]
  simp only [hk]
  rw [if_neg (by omega), extract_none]
  show comb [] (match lexB s.size _ (advP (1, 1) (s.data.toList.take s.size)) with | .inl q => .inl q | .inr ts => .inr (_ :: ts)) = _
  rw [hm] at h2 ⊢
  rw [h2, ← hm, extract_all]
  rfl
theorem lexD_none (s : ByteArray) (k : Nat) (h : runL isB s.data.toList = 0) (hk : kindL s.data.toList = (k, 0)) (hp : 0 < s.size) : lexD s = ([], 90, 1, 1) := by
  have hne : ¬ s = ⟨#[]⟩ := fun e => by rw [e] at hp; exact absurd hp (by decide)
  unfold lexD
  rw [lexB.eq_2]
  simp only [h, extract_all]
  rw [if_neg hne]
  simp only [hk]
  rfl
theorem lex_a (n : Nat) (h : 0 < n) : lexD (rep 97 n) = if n ≤ 20 then ([⟨0, rep 97 n, 1, 1⟩], 0, 0, 0) else ([], 90, 1, 1) := by
  obtain ⟨m, rfl⟩ : ∃ m, n = m + 1 := ⟨n - 1, by omega⟩
  have hb : runL isB (rep 97 (m + 1)).data.toList = 0 := by rw [rep_list, runL_rep]; rfl
  have hk : kindL (rep 97 (m + 1)).data.toList = if 20 < m + 1 then (0, 0) else (0, m + 1) := by
    unfold kindL
    rw [if_pos (by rfl), rep_list, runL_rep]
    rfl
  by_cases h20 : m + 1 ≤ 20
  · rw [if_pos h20]
    rw [if_neg (by omega)] at hk
    exact lexD_one _ 0 hb (by rw [rep_size]; exact hk) (by rw [rep_size]; omega)
  · rw [if_neg h20]
    rw [if_pos (by omega)] at hk
    exact lexD_none _ 0 hb hk (by rw [rep_size]; omega)
theorem lex_1 (n : Nat) (h : 0 < n) : lexD (rep 49 n) = if n ≤ 100 then ([⟨1, rep 49 n, 1, 1⟩], 0, 0, 0) else ([], 90, 1, 1) := by
  obtain ⟨m, rfl⟩ : ∃ m, n = m + 1 := ⟨n - 1, by omega⟩
  have hb : runL isB (rep 49 (m + 1)).data.toList = 0 := by rw [rep_list, runL_rep]; rfl
  have hr : runL isD (rep 49 (m + 1)).data.toList = m + 1 := by rw [rep_list, runL_rep]; rfl
  have hp : peekL (rep 49 (m + 1)).data.toList (m + 1) = 0 := by
    rw [rep_list]
    unfold peekL
    rw [List.getElem?_eq_none (by simp)]
    rfl
  have hk : kindL (rep 49 (m + 1)).data.toList = if 100 < m + 1 then (0, 0) else (1, m + 1) := by
    have hn : numL (rep 49 (m + 1)).data.toList = m + 1 := by
      unfold numL
      rw [hr, if_neg (by rw [hp]; simp)]
    unfold kindL
    have h49 : peekL (rep 49 (m + 1)).data.toList 0 = 49 := rfl
    rw [hn, h49, if_neg (show ¬ (isL 49 = true) by decide), if_pos (show isD 49 = true by decide)]
  by_cases h20 : m + 1 ≤ 100
  · rw [if_pos h20]
    rw [if_neg (by omega)] at hk
    exact lexD_one _ 1 hb (by rw [rep_size]; exact hk) (by rw [rep_size]; omega)
  · rw [if_neg h20]
    rw [if_pos (by omega)] at hk
    exact lexD_none _ 0 hb hk (by rw [rep_size]; omega)

set_option maxHeartbeats 1000000 in
set_option maxRecDepth 100000 in
theorem long_out (a : Int) (W : World) (h : a < 1 ∨ 200 < a) (wa : (Lit.int .i64 a).wf = true) : Calls Try.prog 7 #[.int .i64 a] W fun e W' => e = .returned (.bool true) ∧ Below W.heap.size W W' := by
  have HF := fun w => Lib.hid (fixed w)
  by_cases h1 : a < 1
  · clear h
    go_enter Try.func7, Try.ntmps7
    go_wp2_with fail
    refine (HF _).out.mono ?_
    rintro e w1 ⟨rfl, hb1⟩
    go_wp2_with fail
    refine (HF _).out.mono ?_
    rintro e w2 ⟨rfl, hb2⟩
    go_wp2
    go_ret
    exact ⟨rfl, hb1.trans (hb2.mono hb1.size)⟩
  · have h2 : 200 < a := by omega
    clear h
    go_enter Try.func7, Try.ntmps7
    go_wp2_with fail
    refine (HF _).out.mono ?_
    rintro e w1 ⟨rfl, hb1⟩
    go_wp2_with fail
    refine (HF _).out.mono ?_
    rintro e w2 ⟨rfl, hb2⟩
    go_wp2
    go_ret
    exact ⟨rfl, hb1.trans (hb2.mono hb1.size)⟩

set_option maxHeartbeats 2000000 in
set_option maxRecDepth 100000 in
theorem long_a (n : Nat) (W : World) (h1 : 1 ≤ n) (h2 : n ≤ 200) (h3 : n ≤ 20) : Calls Try.prog 7 #[.int .i64 n] W fun e W' => e = .returned (.bool true) ∧ Below W.heap.size W W' := by
  have HF := fun w => Lib.hid (fixed w)
  have HA := fun w => Lib.hid (lex_at (rep 97 n) w (by rw [rep_size]; omega) _ ((lex_a n (by omega)).trans (if_pos (by omega))))
  have HN := fun w => Lib.hid (lex_at (rep 49 n) w (by rw [rep_size]; omega) _ ((lex_1 n (by omega)).trans (if_pos (by omega))))
  go_enter Try.func7, Try.ntmps7
  go_wp2_with fail
  refine (HF _).out.mono ?_
  rintro e w1 ⟨rfl, hb1⟩
  clear HF
  have HB1 := Aside0.mk hb1
  clear hb1
  go_wp2
  go_loop [3, 4, 5] (fun v3 v4 v5 => ∃ j : Nat, v3 = .string (rep 97 j) ∧ v4 = .string (rep 49 j) ∧ v5 = .int .i64 j ∧ Aside0 (j ≤ n)) (fun _ _ v5 => n - (Lib.intOf v5).toNat)
  case atStart => exact ⟨0, rfl, rfl, rfl, ⟨Nat.zero_le _⟩⟩
  case round =>
    obtain ⟨j, rfl, rfl, rfl, HJ⟩ := hrel
    have hj := HJ.out
    have r1 := rep_succ 97 j
    have r2 := rep_succ 49 j
    have z1 : ¬ 9223372036854775807 < (rep 97 j).size + 1 := by rw [rep_size]; omega
    have z2 : ¬ 9223372036854775807 < (rep 49 j).size + 1 := by rw [rep_size]; omega
    by_cases hlt : j < n
    · go_wp2
      go_round
      case measure => simp [Lib.intOf]; omega
      case rel => exact ⟨j + 1, rfl, rfl, by go_num, ⟨by omega⟩⟩
    · have e : j = n := by omega
      subst e
      clear HJ r1 r2 z1 z2 hj hlt
      go_wp2_with fail
      refine (HA _).out.mono ?_
      rintro e w2 ⟨A2, c2, rfl, hc2, HC2, hb2⟩
      go_wp2_with fail
      refine (HN _).out.mono ?_
      rintro e w3 ⟨A3, c3, rfl, hc3, HC3, hb3⟩
      have HB := Aside0.mk ((HB1.out.trans (hb2.mono HB1.out.size)).trans (hb3.mono (Nat.le_trans HB1.out.size hb2.size)))
      have HC2b := Aside0.mk (Kd.C_below HC2.out hb3)
      clear hb2 hb3 HA HN HC2
      obtain ⟨ad2, e2, x20, x21, x22, x23⟩ := at_T31 HC2b.out 0 (by decide) (by show (0 : Int) < 1; decide)
      cases e2
      replace x21 : w3.cell? ⟨ad2.block, ad2.off + 1, none⟩ = some (.string (rep 97 j)) := x21
      obtain ⟨ad3, e3, x30, x31, x32, x33⟩ := at_T31 HC3.out 0 (by decide) (by show (0 : Int) < 1; decide)
      cases e3
      replace x30 : w3.cell? ad3 = some (.int .i64 1) := x30
      go_wp2
      go_ret
      exact ⟨by first | rfl | (simp; done) | (simp; omega), HB.out⟩

set_option maxHeartbeats 2000000 in
set_option maxRecDepth 100000 in
theorem long_b (n : Nat) (W : World) (h1 : 1 ≤ n) (h2 : n ≤ 200) (h3 : 20 < n) (h4 : n ≤ 100) : Calls Try.prog 7 #[.int .i64 n] W fun e W' => e = .returned (.bool true) ∧ Below W.heap.size W W' := by
  have HF := fun w => Lib.hid (fixed w)
  have HA := fun w => Lib.hid (lex_at (rep 97 n) w (by rw [rep_size]; omega) _ ((lex_a n (by omega)).trans (if_neg (by omega))))
  have HN := fun w => Lib.hid (lex_at (rep 49 n) w (by rw [rep_size]; omega) _ ((lex_1 n (by omega)).trans (if_pos (by omega))))
  go_enter Try.func7, Try.ntmps7
  go_wp2_with fail
  refine (HF _).out.mono ?_
  rintro e w1 ⟨rfl, hb1⟩
  clear HF
  have HB1 := Aside0.mk hb1
  clear hb1
  go_wp2
  go_loop [3, 4, 5] (fun v3 v4 v5 => ∃ j : Nat, v3 = .string (rep 97 j) ∧ v4 = .string (rep 49 j) ∧ v5 = .int .i64 j ∧ Aside0 (j ≤ n)) (fun _ _ v5 => n - (Lib.intOf v5).toNat)
  case atStart => exact ⟨0, rfl, rfl, rfl, ⟨Nat.zero_le _⟩⟩
  case round =>
    obtain ⟨j, rfl, rfl, rfl, HJ⟩ := hrel
    have hj := HJ.out
    have r1 := rep_succ 97 j
    have r2 := rep_succ 49 j
    have z1 : ¬ 9223372036854775807 < (rep 97 j).size + 1 := by rw [rep_size]; omega
    have z2 : ¬ 9223372036854775807 < (rep 49 j).size + 1 := by rw [rep_size]; omega
    by_cases hlt : j < n
    · go_wp2
      go_round
      case measure => simp [Lib.intOf]; omega
      case rel => exact ⟨j + 1, rfl, rfl, by go_num, ⟨by omega⟩⟩
    · have e : j = n := by omega
      subst e
      clear HJ r1 r2 z1 z2 hj hlt
      go_wp2_with fail
      refine (HA _).out.mono ?_
      rintro e w2 ⟨A2, c2, rfl, hc2, HC2, hb2⟩
      go_wp2_with fail
      refine (HN _).out.mono ?_
      rintro e w3 ⟨A3, c3, rfl, hc3, HC3, hb3⟩
      have HB := Aside0.mk ((HB1.out.trans (hb2.mono HB1.out.size)).trans (hb3.mono (Nat.le_trans HB1.out.size hb2.size)))
      have HC2b := Aside0.mk (Kd.C_below HC2.out hb3)
      clear hb2 hb3 HA HN HC2
      obtain ⟨ad3, e3, x30, x31, x32, x33⟩ := at_T31 HC3.out 0 (by decide) (by show (0 : Int) < 1; decide)
      cases e3
      replace x30 : w3.cell? ad3 = some (.int .i64 1) := x30
      go_wp2
      go_ret
      exact ⟨by first | rfl | (simp; done) | (simp; omega), HB.out⟩

set_option maxHeartbeats 2000000 in
set_option maxRecDepth 100000 in
theorem long_c (n : Nat) (W : World) (h1 : 1 ≤ n) (h2 : n ≤ 200) (h3 : 100 < n) : Calls Try.prog 7 #[.int .i64 n] W fun e W' => e = .returned (.bool true) ∧ Below W.heap.size W W' := by
  have HF := fun w => Lib.hid (fixed w)
  have HA := fun w => Lib.hid (lex_at (rep 97 n) w (by rw [rep_size]; omega) _ ((lex_a n (by omega)).trans (if_neg (by omega))))
  have HN := fun w => Lib.hid (lex_at (rep 49 n) w (by rw [rep_size]; omega) _ ((lex_1 n (by omega)).trans (if_neg (by omega))))
  go_enter Try.func7, Try.ntmps7
  go_wp2_with fail
  refine (HF _).out.mono ?_
  rintro e w1 ⟨rfl, hb1⟩
  clear HF
  have HB1 := Aside0.mk hb1
  clear hb1
  go_wp2
  go_loop [3, 4, 5] (fun v3 v4 v5 => ∃ j : Nat, v3 = .string (rep 97 j) ∧ v4 = .string (rep 49 j) ∧ v5 = .int .i64 j ∧ Aside0 (j ≤ n)) (fun _ _ v5 => n - (Lib.intOf v5).toNat)
  case atStart => exact ⟨0, rfl, rfl, rfl, ⟨Nat.zero_le _⟩⟩
  case round =>
    obtain ⟨j, rfl, rfl, rfl, HJ⟩ := hrel
    have hj := HJ.out
    have r1 := rep_succ 97 j
    have r2 := rep_succ 49 j
    have z1 : ¬ 9223372036854775807 < (rep 97 j).size + 1 := by rw [rep_size]; omega
    have z2 : ¬ 9223372036854775807 < (rep 49 j).size + 1 := by rw [rep_size]; omega
    by_cases hlt : j < n
    · go_wp2
      go_round
      case measure => simp [Lib.intOf]; omega
      case rel => exact ⟨j + 1, rfl, rfl, by go_num, ⟨by omega⟩⟩
    · have e : j = n := by omega
      subst e
      clear HJ r1 r2 z1 z2 hj hlt
      go_wp2_with fail
      refine (HA _).out.mono ?_
      rintro e w2 ⟨A2, c2, rfl, hc2, HC2, hb2⟩
      go_wp2_with fail
      refine (HN _).out.mono ?_
      rintro e w3 ⟨A3, c3, rfl, hc3, HC3, hb3⟩
      have HB := Aside0.mk ((HB1.out.trans (hb2.mono HB1.out.size)).trans (hb3.mono (Nat.le_trans HB1.out.size hb2.size)))
      have HC2b := Aside0.mk (Kd.C_below HC2.out hb3)
      clear hb2 hb3 HA HN HC2
      go_wp2
      go_ret
      exact ⟨by first | rfl | (simp; done) | (simp; omega), HB.out⟩

theorem long (W : World) (a : Int) (wa : (Lit.int .i64 a).wf = true) : Calls Try.prog 7 #[.int .i64 a] W fun e W' => e = .returned (.bool true) ∧ Below W.heap.size W W' := by
  by_cases h : a < 1 ∨ 200 < a
  · exact long_out a W h wa
  · obtain ⟨n, rfl⟩ := Int.eq_ofNat_of_zero_le (show 0 ≤ a by omega)
    by_cases h3 : n ≤ 20
    · exact long_a n W (by omega) (by omega) h3
    · by_cases h4 : n ≤ 100
      · exact long_b n W (by omega) (by omega) (by omega) h4
      · exact long_c n W (by omega) (by omega) (by omega)

end Go.Proofs.Ytjmffehffmmobaa.WW
