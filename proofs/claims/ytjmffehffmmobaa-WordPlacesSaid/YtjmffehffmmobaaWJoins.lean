/-
  WordJoins, walked.
-/
import Derived.Test.YtjmffehffmmobaaWL2
set_option linter.unusedVariables false
set_option linter.unusedSimpArgs false
namespace Go.Proofs.Ytjmffehffmmobaa.WW
open Go.Proofs Go.RowKit Go.Proofs.Ytjmffehffmmobaa.WP Go.Proofs.YtjmffehffmmobaaW.PrintWords Go.Proofs.Ytjmffehffmmobaa.PWordLexes

theorem info31b : (Try.prog.info? 31).map (fun i => (i.zero, i.size, i.bytes)) = some (some (.agg #[(.int .i64 0), (.string ⟨#[]⟩), (.int .i64 0), (.int .i64 0)]), 4, 40) := by kernel_rfl

/-- Alike, of what is alike. -/
theorem alike_at (A0 : Option Addr) (c0 : Nat) (l0 : List S31) (A1 : Option Addr) (c1 : Nat) (l1 : List S31) (w : World) (hr0 : Kd.C k31 w A0 l0.length l0) (hc0 : l0.length ≤ c0) (hr1 : Kd.C k31 w A1 l1.length l1) (hc1 : l1.length ≤ c1) (h : l0.map tk = l1.map tk) (hl : l0.length ≤ 1000000) :
    Calls Try.prog 14 #[.slice A0 l0.length c0, .slice A1 l1.length c1] w fun e w' => e = .returned (.bool true) ∧ Below w.heap.size w w' := by
  refine (debentureref09_Alike.calls 1000001 A0 c0 l0 A1 c1 l1 true w hr0 hc0 hr1 hc1 (alike_true l0 l1 h hl)).mono ?_
  rintro e w' ⟨rfl, hd⟩
  exact ⟨rfl, hd.below⟩

/-- What Lex answers of two texts parted by a blank. -/
theorem lexD_join (s t : ByteArray) :
    (∃ q : Nat × Nat, lexD (s ++ ⟨#[32]⟩ ++ t) = ([], 90, (q.1 : Int), (q.2 : Int)) ∧ ((∃ q : Nat × Nat, lexD s = ([], 90, (q.1 : Int), (q.2 : Int))) ∨ (∃ q : Nat × Nat, lexD t = ([], 90, (q.1 : Int), (q.2 : Int))))) ∨
    (∃ a b c, lexD s = (a, 0, 0, 0) ∧ lexD t = (b, 0, 0, 0) ∧ lexD (s ++ ⟨#[32]⟩ ++ t) = (c, 0, 0, 0) ∧ c.map tk = (a ++ b).map tk ∧ a.length ≤ s.size + 1 ∧ b.length ≤ t.size + 1) := by
  have hl : (s ++ ⟨#[32]⟩ ++ t).data.toList = s.data.toList ++ 32 :: t.data.toList := by
    rw [ByteArray.data_append, ByteArray.data_append]
    simp
  have hz : (s ++ ⟨#[32]⟩ ++ t).size = s.size + 1 + t.size := by
    rw [ByteArray.size_append, ByteArray.size_append]
    rfl
  have e1 : s.data.toList.length = s.size := by simp
  have e2 : t.data.toList.length = t.size := by simp
  have hj := lexT_join t.data.toList s.data.toList.length s.data.toList (s.size + 1 + t.size + 1) (Nat.le_refl _) (by omega)
  rw [← hl, lexT_fuel s.size (s.size + 1 + t.size + 1) (s.size + 1) s.data.toList (by omega) (by omega) (by omega), lexT_fuel t.size (s.size + 1 + t.size + 1) (t.size + 1) t.data.toList (by omega) (by omega) (by omega)] at hj
  rcases lexD_cases (s ++ ⟨#[32]⟩ ++ t) with ⟨q, hq, hn⟩ | ⟨c, hc, hs⟩
  · left
    refine ⟨q, hq, ?_⟩
    rw [hz, hj] at hn
    rcases lexD_cases s with ⟨q1, h1, n1⟩ | ⟨a, h1, n1⟩
    · exact Or.inl ⟨q1, h1⟩
    · rcases lexD_cases t with ⟨q2, h2, n2⟩ | ⟨b, h2, n2⟩
      · exact Or.inr ⟨q2, h2⟩
      · rw [n1, n2] at hn; cases hn
  · right
    rw [hz, hj] at hs
    rcases lexD_cases s with ⟨q1, h1, n1⟩ | ⟨a, h1, n1⟩
    · rw [n1] at hs; cases hs
    · rcases lexD_cases t with ⟨q2, h2, n2⟩ | ⟨b, h2, n2⟩
      · rw [n1, n2] at hs; cases hs
      · refine ⟨a, b, c, h1, h2, hc, ?_, ?_, ?_⟩
        · rw [n1, n2] at hs
          injection hs with hs
          rw [← hs, List.map_append]
        · have := lexT_len _ _ _ n1; simpa using this
        · have := lexT_len _ _ _ n2; simpa using this

set_option maxHeartbeats 2000000 in
set_option maxRecDepth 100000 in
theorem joins_ok (s t : ByteArray) (W : World) (hs : s.size ≤ 3000) (ht : t.size ≤ 3000) (a b c : List S31) (ha : lexD s = (a, 0, 0, 0)) (hb : lexD t = (b, 0, 0, 0)) (hc : lexD (s ++ ⟨#[32]⟩ ++ t) = (c, 0, 0, 0)) (hm : c.map tk = (a ++ b).map tk) (hal : a.length ≤ 3001) (hbl : b.length ≤ 3001) :
    Calls Try.prog 6 #[.string s, .string t] W fun e W' => e = .returned (.bool true) ∧ Below W.heap.size W W' := by
  have hz : (s ++ ⟨#[32]⟩).size = s.size + 1 := by rw [ByteArray.size_append]; rfl
  have hz2 : (s ++ ⟨#[32]⟩ ++ t).size = s.size + 1 + t.size := by rw [ByteArray.size_append, hz]
  have HF := fun w => Lib.hid (fixed w)
  have HA := fun w => Lib.hid (lex_at s w (by omega) _ ha)
  have HB := fun w => Lib.hid (lex_at t w (by omega) _ hb)
  have HC := fun w => Lib.hid (lex_at _ w (by rw [hz2]; omega) _ hc)
  have HM := Aside0.mk hm
  have z1 : ¬ 9223372036854775807 < s.size + 1 := by omega
  have z2 : ¬ 9223372036854775807 < (s ++ ⟨#[32]⟩).size + t.size := by omega
  clear ha hb hc hm hz hz2
  go_enter Try.func6, Try.ntmps6
  go_wp2_with fail
  refine (HF _).out.mono ?_
  rintro e w0 ⟨rfl, hb0⟩
  go_wp2_with fail
  refine (HA _).out.mono ?_
  rintro e w1 ⟨A1, c1, rfl, hc1, HC1, hb1⟩
  go_wp2_with fail
  refine (HB _).out.mono ?_
  rintro e w2 ⟨A2, c2, rfl, hc2, HC2, hb2⟩
  go_wp2_with fail
  refine (HC _).out.mono ?_
  rintro e w3 ⟨A3, c3, rfl, hc3, HC3, hb3⟩
  simp only [] at HC1 HC2 HC3 hc1 hc2 hc3 ⊢
  have HBl := Aside0.mk (((hb0.trans (hb1.mono hb0.size)).trans (hb2.mono (Nat.le_trans hb0.size hb1.size))).trans (hb3.mono (Nat.le_trans (Nat.le_trans hb0.size hb1.size) hb2.size)))
  have HC1b := Aside0.mk (Kd.C_below (Kd.C_below HC1.out hb2) hb3)
  have HC2b := Aside0.mk (Kd.C_below HC2.out hb3)
  have Hc1 := Aside0.mk hc1
  have Hc2 := Aside0.mk hc2
  have Hc3 := Aside0.mk hc3
  clear hb0 hb1 hb2 hb3 HC1 HC2 HF HA HB HC z1 z2 hc1 hc2 hc3
  go_wp2_with (first | ((with_reducible refine gate_dst (N := 71) rfl ?_); refine gate_guard (by rfl) ?_; dsimp only; refine Kd.R_lit k31 (w0 := w3) w3.heap.size 31 ?hg (N := 71) ?hd (xs := []) (inner := []) (ok := fun _ => True) (okp := fun _ => False) ?hr (Reps.none _ _) (fun _ hk => hk.elim) trivial (Below.refl _ _) (Nat.le_refl _) (Nat.zero_le _) ?_; (case hd => rfl); (case hg => rfl); (case hr => first | (go_simp; done) | (go_simp; rfl)); intro v4 w4 ho4 hb4 hg4 hn4; clear hg4 hn4; have HO4 := Aside0.mk ho4; have HB4 := Aside0.mk hb4; clear ho4 hb4) | ((with_reducible refine gate_dst (N := 73) rfl ?_); refine gate_guard (by rfl) ?_; dsimp only; at_builtin; refine Kd.R_append_rows k31 (Rr := k31.K w4) (w0 := w3) w3.heap.size rfl (.tmp 71) (.tmp 72) 22 31 (.agg #[(.int .i64 0), (.string ⟨#[]⟩), (.int .i64 0), (.int .i64 0)]) 40 rfl Try.underlying22 info31b rfl (by decide) (by omega) _ [] a A1 _ c1 (fun _ => True) (fun _ => False) rfl rfl ?aO ?aR ?aK (fun _ hk => hk.elim) (fun _ _ => trivial) ?aB ?aS ?aL ?_; (case aO => exact HO4.out); (case aR => exact Kd.C_below HC1b.out HB4.out); (case aK => exact fun x cs h => by rw [k31_open h]; exact k31_mkM _ _ _ x); (case aB => exact HB4.out); (case aS => exact HB4.out.size); (case aL => simp only [List.length_nil]; omega); intro v5 w5 ho5 hb5 hg5 hn5; clear hg5 hn5; have HO5 := Aside0.mk ho5; have HB5 := Aside0.mk hb5; clear ho5 hb5 HO4 HB4) | ((with_reducible refine gate_dst (N := 75) rfl ?_); refine gate_guard (by rfl) ?_; dsimp only; at_builtin; refine Kd.R_append_rows k31 (Rr := k31.K w5) (w0 := w3) w3.heap.size rfl (.tmp 73) (.tmp 74) 22 31 (.agg #[(.int .i64 0), (.string ⟨#[]⟩), (.int .i64 0), (.int .i64 0)]) 40 rfl Try.underlying22 info31b rfl (by decide) (by omega) _ a b A2 _ c2 (fun _ => True) (fun _ => False) rfl rfl ?aO ?aR ?aK (fun _ hk => hk.elim) (fun _ _ => trivial) ?aB ?aS ?aL ?_; (case aO => exact HO5.out); (case aR => exact Kd.C_below HC2b.out HB5.out); (case aK => exact fun x cs h => by rw [k31_open h]; exact k31_mkM _ _ _ x); (case aB => exact HB5.out); (case aS => exact HB5.out.size); (case aL => omega); intro v6 w6 ho6 hb6 hg6 hn6; clear hg6 hn6; have HO6 := Aside0.mk ho6; have HB6 := Aside0.mk hb6; clear ho6 hb6 HO5 HB5))
  obtain ⟨A6, c6, e6, hc6, hC6⟩ := Kd.R_reads HO6.out
  subst e6
  refine (alike_at A3 c3 c A6 c6 (a ++ b) _ (Kd.C_below HC3.out HB6.out) Hc3.out hC6 hc6 HM.out ?_).mono ?_
  · have := congrArg List.length HM.out
    rw [List.length_map, List.length_map, List.length_append] at this
    omega
  rintro e w7 ⟨rfl, hb7⟩
  go_wp2
  go_ret
  exact ⟨rfl, HBl.out.trans ((HB6.out.mono HBl.out.size).trans (hb7.mono (Nat.le_trans HBl.out.size HB6.out.size)))⟩

set_option maxHeartbeats 1000000 in
set_option maxRecDepth 100000 in
theorem joins_e1 (s t : ByteArray) (W : World) (hs : s.size ≤ 3000) (ht : t.size ≤ 3000) (DA DB : List S31 × Int × Int × Int) (q3 : Nat × Nat) (ha : lexD s = DA) (hb : lexD t = DB) (hc : lexD (s ++ ⟨#[32]⟩ ++ t) = ([], 90, (q3.1 : Int), (q3.2 : Int))) (he : (DA.2.1 != 0) = true) :
    Calls Try.prog 6 #[.string s, .string t] W fun e W' => e = .returned (.bool true) ∧ Below W.heap.size W W' := by
  have hz : (s ++ ⟨#[32]⟩).size = s.size + 1 := by rw [ByteArray.size_append]; rfl
  have hz2 : (s ++ ⟨#[32]⟩ ++ t).size = s.size + 1 + t.size := by rw [ByteArray.size_append, hz]
  have HF := fun w => Lib.hid (fixed w)
  have HA := fun w => Lib.hid (lex_at s w (by omega) _ ha)
  have HB := fun w => Lib.hid (lex_at t w (by omega) _ hb)
  have HC := fun w => Lib.hid (lex_at _ w (by rw [hz2]; omega) _ hc)
  have z1 : ¬ 9223372036854775807 < s.size + 1 := by omega
  have z2 : ¬ 9223372036854775807 < (s ++ ⟨#[32]⟩).size + t.size := by omega
  clear ha hb hc hz hz2
  go_enter Try.func6, Try.ntmps6
  go_wp2_with fail
  refine (HF _).out.mono ?_
  rintro e w0 ⟨rfl, hb0⟩
  go_wp2_with fail
  refine (HA _).out.mono ?_
  rintro e w1 ⟨A1, c1, rfl, hc1, HC1, hb1⟩
  go_wp2_with fail
  refine (HB _).out.mono ?_
  rintro e w2 ⟨A2, c2, rfl, hc2, HC2, hb2⟩
  go_wp2_with fail
  refine (HC _).out.mono ?_
  rintro e w3 ⟨A3, c3, rfl, hc3, HC3, hb3⟩
  have HBl := Aside0.mk (((hb0.trans (hb1.mono hb0.size)).trans (hb2.mono (Nat.le_trans hb0.size hb1.size))).trans (hb3.mono (Nat.le_trans (Nat.le_trans hb0.size hb1.size) hb2.size)))
  clear hb0 hb1 hb2 hb3 HC1 HC2 HC3 HF HA HB HC z1 z2 hc1 hc2 hc3
  go_wp2
  go_ret
  exact ⟨by first | rfl | (simp; done), HBl.out⟩

set_option maxHeartbeats 1000000 in
set_option maxRecDepth 100000 in
theorem joins_e2 (s t : ByteArray) (W : World) (hs : s.size ≤ 3000) (ht : t.size ≤ 3000) (DA DB : List S31 × Int × Int × Int) (q3 : Nat × Nat) (ha : lexD s = DA) (hb : lexD t = DB) (hc : lexD (s ++ ⟨#[32]⟩ ++ t) = ([], 90, (q3.1 : Int), (q3.2 : Int))) (he : (DA.2.1 != 0) = false ∧ (DB.2.1 != 0) = true) :
    Calls Try.prog 6 #[.string s, .string t] W fun e W' => e = .returned (.bool true) ∧ Below W.heap.size W W' := by
  have hz : (s ++ ⟨#[32]⟩).size = s.size + 1 := by rw [ByteArray.size_append]; rfl
  have hz2 : (s ++ ⟨#[32]⟩ ++ t).size = s.size + 1 + t.size := by rw [ByteArray.size_append, hz]
  have HF := fun w => Lib.hid (fixed w)
  have HA := fun w => Lib.hid (lex_at s w (by omega) _ ha)
  have HB := fun w => Lib.hid (lex_at t w (by omega) _ hb)
  have HC := fun w => Lib.hid (lex_at _ w (by rw [hz2]; omega) _ hc)
  have z1 : ¬ 9223372036854775807 < s.size + 1 := by omega
  have z2 : ¬ 9223372036854775807 < (s ++ ⟨#[32]⟩).size + t.size := by omega
  obtain ⟨he1, he2⟩ := he
  clear ha hb hc hz hz2
  go_enter Try.func6, Try.ntmps6
  go_wp2_with fail
  refine (HF _).out.mono ?_
  rintro e w0 ⟨rfl, hb0⟩
  go_wp2_with fail
  refine (HA _).out.mono ?_
  rintro e w1 ⟨A1, c1, rfl, hc1, HC1, hb1⟩
  go_wp2_with fail
  refine (HB _).out.mono ?_
  rintro e w2 ⟨A2, c2, rfl, hc2, HC2, hb2⟩
  go_wp2_with fail
  refine (HC _).out.mono ?_
  rintro e w3 ⟨A3, c3, rfl, hc3, HC3, hb3⟩
  have HBl := Aside0.mk (((hb0.trans (hb1.mono hb0.size)).trans (hb2.mono (Nat.le_trans hb0.size hb1.size))).trans (hb3.mono (Nat.le_trans (Nat.le_trans hb0.size hb1.size) hb2.size)))
  clear hb0 hb1 hb2 hb3 HC1 HC2 HC3 HF HA HB HC z1 z2 hc1 hc2 hc3
  go_wp2
  go_ret
  exact ⟨by first | rfl | (simp; done), HBl.out⟩

set_option maxHeartbeats 1000000 in
set_option maxRecDepth 100000 in
theorem joins_o1 (s t : ByteArray) (W : World) (hs : 3000 < s.size) :
    Calls Try.prog 6 #[.string s, .string t] W fun e W' => e = .returned (.bool true) ∧ Below W.heap.size W W' := by
  have HF := fun w => Lib.hid (fixed w)
  go_enter Try.func6, Try.ntmps6
  go_wp2_with fail
  refine (HF _).out.mono ?_
  rintro e w1 ⟨rfl, hb1⟩
  go_wp2_with fail
  refine (HF _).out.mono ?_
  rintro e w2 ⟨rfl, hb2⟩
  go_wp2
  go_ret
  exact ⟨rfl, hb1.trans (hb2.mono hb1.size)⟩

set_option maxHeartbeats 1000000 in
set_option maxRecDepth 100000 in
theorem joins_o2 (s t : ByteArray) (W : World) (hs : s.size ≤ 3000) (ht : 3000 < t.size) :
    Calls Try.prog 6 #[.string s, .string t] W fun e W' => e = .returned (.bool true) ∧ Below W.heap.size W W' := by
  have HF := fun w => Lib.hid (fixed w)
  go_enter Try.func6, Try.ntmps6
  go_wp2_with fail
  refine (HF _).out.mono ?_
  rintro e w1 ⟨rfl, hb1⟩
  go_wp2_with fail
  refine (HF _).out.mono ?_
  rintro e w2 ⟨rfl, hb2⟩
  go_wp2
  go_ret
  exact ⟨rfl, hb1.trans (hb2.mono hb1.size)⟩

theorem joins (W : World) (s : ByteArray) (hs0 : s.size ≤ 140737488351232) (t : ByteArray) (ht0 : t.size ≤ 140737488351232) :
    Calls Try.prog 6 #[.string s, .string t] W fun e W' => e = .returned (.bool true) ∧ Below W.heap.size W W' := by
  by_cases hs : s.size ≤ 3000
  · by_cases ht : t.size ≤ 3000
    · rcases lexD_join s t with ⟨q, hq, h⟩ | ⟨a, b, c, ha, hb, hc, hm, la, lb⟩
      · rcases lexD_cases s with ⟨q1, h1, _⟩ | ⟨a, h1, _⟩
        · exact joins_e1 s t W hs ht _ _ q h1 rfl hq rfl
        · rcases h with ⟨q1, h2⟩ | ⟨q2, h2⟩
          · rw [h1] at h2; injection h2 with _ h3; injection h3 with h3; exact absurd h3 (by decide)
          · exact joins_e2 s t W hs ht _ _ q h1 h2 hq ⟨rfl, rfl⟩
      · exact joins_ok s t W hs ht a b c ha hb hc hm (by omega) (by omega)
    · exact joins_o2 s t W hs (by omega)
  · exact joins_o1 s t W (by omega)

end Go.Proofs.Ytjmffehffmmobaa.WW
