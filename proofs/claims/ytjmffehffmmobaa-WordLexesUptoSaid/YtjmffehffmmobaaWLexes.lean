/-
  WordLexes, walked.
-/
import Derived.Test.YtjmffehffmmobaaWL2
import Derived.Test.YtjmffehffmmobaaWL5
set_option linter.unusedVariables false
set_option linter.unusedSimpArgs false
namespace Go.Proofs.Ytjmffehffmmobaa.WW
open Go.Proofs Go.RowKit Go.Proofs.Ytjmffehffmmobaa.WP Go.Proofs.YtjmffehffmmobaaW.PrintWords Go.Proofs.Ytjmffehffmmobaa.PWordLexes

/-- The reference's Lex, called. -/
theorem refLex_at (s : ByteArray) (w : World) (hs : s.size ≤ 20000) (D : List S31 × Int × Int × Int) (hD : lexD s = D) :
    Calls Try.prog 10 #[.string s] w fun e w' => ∃ A c, e = .returned (.tuple #[.slice A D.1.length c, .int .i64 D.2.1, .int .i64 D.2.2.1, .int .i64 D.2.2.2]) ∧ D.1.length ≤ c ∧ Aside0 (Kd.C k31 w' A D.1.length D.1) ∧ Below w.heap.size w w' := by
  subst hD
  refine (debentureref09_Lex.calls 100000 s _ _ _ _ w (ref_lex s hs)).mono ?_
  rintro e w' ⟨v, rfl, hv, hb⟩
  obtain ⟨A, c, rfl, hc, hC⟩ := Kd.R_reads hv
  exact ⟨A, c, rfl, hc, ⟨hC⟩, hb⟩
/-- The reference's Same, of what is the same. -/
theorem same_at (A0 : Option Addr) (c0 : Nat) (A1 : Option Addr) (c1 : Nat) (l : List S31) (w : World) (hr0 : Kd.C k31 w A0 l.length l) (hc0 : l.length ≤ c0) (hr1 : Kd.C k31 w A1 l.length l) (hc1 : l.length ≤ c1) (hl : l.length ≤ 1000000) :
    Calls Try.prog 11 #[.slice A0 l.length c0, .slice A1 l.length c1] w fun e w' => e = .returned (.bool true) ∧ Below w.heap.size w w' := by
  refine (debentureref09_Same.calls 1000001 A0 c0 l A1 c1 l true w hr0 hc0 hr1 hc1 (same_true l hl)).mono ?_
  rintro e w' ⟨rfl, hd⟩
  exact ⟨rfl, hd.below⟩
/-- The reference's Print. -/
theorem refPrint_at (A : Option Addr) (cap : Nat) (l : List S31) (w : World) (hl : l.length ≤ 1000000) (hc : l.length ≤ cap) (hr : Kd.C k31 w A l.length l) (hs : (l.map (·.f1.size)).sum ≤ 100000000000) :
    Calls Try.prog 13 #[.slice A l.length cap] w fun e w' => e = .returned (.string (printB l)) ∧ Below w.heap.size w w' := by
  refine (debentureref09_Print.calls 1000002 A cap l (printB l) w hr hc (ref_print l hl hs)).mono ?_
  rintro e w' ⟨rfl, hd⟩
  exact ⟨rfl, hd.below⟩
theorem join_len (l : List S31) : (Lib.join ((l.map (·.f1)).map (·.data.toList)) [32]).length ≤ (l.map (·.f1.size)).sum + l.length := by
  cases l with
  | nil => simp [Lib.join]
  | cons t r =>
    have : t.f1.data.toList.length = t.f1.size := rfl
    rw [join_cons, List.length_append, tailT_len, this]
    simp only [List.map_cons, List.sum_cons, List.length_cons]
    omega

set_option maxHeartbeats 2000000 in
set_option maxRecDepth 100000 in
theorem lexes_in (s : ByteArray) (A : Option Addr) (cap : Nat) (l : List S31) (W : World) (hs : s.size ≤ 3000) (hl : l.length ≤ 200) (hc : l.length ≤ cap) (hC : Kd.C k31 W A l.length l) (hsum : (l.map (·.f1.size)).sum ≤ 2000000) (a : List S31) (x y z : Int) (ha : lexD s = (a, x, y, z)) (hal : a.length ≤ 1000000) :
    Calls Try.prog 3 #[.string s, .slice A l.length cap] W fun e W' => e = .returned (.bool true) ∧ Below W.heap.size W W' := by
  have hjl := join_len l
  have HF := fun w => Lib.hid (fixed w)
  have HA := fun w => Lib.hid (lex_at s w (by omega) _ ha)
  have HR := fun w => Lib.hid (refLex_at s w (by omega) _ ha)
  have HP := fun w h => Lib.hid (print A cap l w (by omega) hc h (by omega))
  have HQ := fun w h => Lib.hid (refPrint_at A cap l w (by omega) hc h (by omega))
  have HC := Aside0.mk hC
  have Hal := Aside0.mk hal
  clear ha hC hjl hsum hal
  go_enter Try.func3, Try.ntmps3
  go_wp2_with fail
  refine (HA _).out.mono ?_
  rintro e w1 ⟨A1, c1, rfl, hc1, HC1, hb1⟩
  go_wp2_with fail
  refine (HR _).out.mono ?_
  rintro e w2 ⟨A2, c2, rfl, hc2, HC2, hb2⟩
  go_wp2_with fail
  refine (HF _).out.mono ?_
  rintro e w3 ⟨rfl, hb3⟩
  simp only [] at HC1 HC2 hc1 hc2 ⊢
  have HBl := Aside0.mk ((hb1.trans (hb2.mono hb1.size)).trans (hb3.mono (Nat.le_trans hb1.size hb2.size)))
  have HC1b := Aside0.mk (Kd.C_below (Kd.C_below HC1.out hb2) hb3)
  have HC2b := Aside0.mk (Kd.C_below HC2.out hb3)
  have Hc1 := Aside0.mk hc1
  have Hc2 := Aside0.mk hc2
  clear hb1 hb2 hb3 HC1 HC2 hc1 hc2 HA HR HF
  go_wp2_with fail
  refine (same_at A1 c1 A2 c2 a _ HC1b.out Hc1.out HC2b.out Hc2.out Hal.out).mono ?_
  rintro e w4 ⟨rfl, hb4⟩
  have HB4 := Aside0.mk (HBl.out.trans (hb4.mono HBl.out.size))
  clear hb4 HBl HC1b HC2b Hc1 Hc2 Hal
  go_wp2_with fail
  refine (HP _ (Kd.C_below HC.out HB4.out)).out.mono ?_
  rintro e w5 ⟨rfl, hb5⟩
  have HB5 := Aside0.mk (HB4.out.trans (hb5.mono HB4.out.size))
  clear hb5 HB4
  go_wp2_with fail
  refine (HQ _ (Kd.C_below HC.out HB5.out)).out.mono ?_
  rintro e w6 ⟨rfl, hb6⟩
  have HB6 := Aside0.mk (HB5.out.trans (hb6.mono HB5.out.size))
  clear hb6 HB5
  go_wp2_with fail
  go_ret
  exact ⟨by simp, HB6.out⟩

set_option maxHeartbeats 1000000 in
theorem lexes_o1 (s : ByteArray) (A : Option Addr) (cap n : Nat) (W : World) (hs : 3000 < s.size) (hz : s.size ≤ 140737488351232) (hn : n ≤ 9223372036854775807) :
    Calls Try.prog 3 #[.string s, .slice A n cap] W fun e W' => e = .returned (.bool true) ∧ Below W.heap.size W W' := by
  have HF := fun w => Lib.hid (fixed w)
  go_enter Try.func3, Try.ntmps3
  go_wp2_with fail
  refine (HF _).out.mono ?_
  rintro e w1 ⟨rfl, hb1⟩
  go_wp2_with fail
  go_ret
  exact ⟨rfl, hb1⟩
set_option maxHeartbeats 1000000 in
theorem lexes_o2 (s : ByteArray) (A : Option Addr) (cap n : Nat) (W : World) (hs : s.size ≤ 3000) (hn : n ≤ 9223372036854775807) (hl : 200 < n) :
    Calls Try.prog 3 #[.string s, .slice A n cap] W fun e W' => e = .returned (.bool true) ∧ Below W.heap.size W W' := by
  have HF := fun w => Lib.hid (fixed w)
  go_enter Try.func3, Try.ntmps3
  go_wp2_with fail
  refine (HF _).out.mono ?_
  rintro e w1 ⟨rfl, hb1⟩
  go_wp2_with fail
  go_ret
  exact ⟨rfl, hb1⟩
theorem lexes (W : World) (s : ByteArray) (hz : s.size ≤ 140737488351232) (A : Option Addr) (cap : Nat) (l : List S31) (hc : l.length ≤ cap) (hC : Kd.C k31 W A l.length l) (hsum : (l.map (·.f1.size)).sum ≤ 2000000) :
    Calls Try.prog 3 #[.string s, .slice A l.length cap] W fun e W' => e = .returned (.bool true) ∧ Below W.heap.size W W' := by
  have hn := hC.2.1
  by_cases hs : s.size ≤ 3000
  · by_cases hl : l.length ≤ 200
    · obtain ⟨⟨a, x, y, z⟩, hD⟩ : ∃ D, lexD s = D := ⟨_, rfl⟩
      refine lexes_in s A cap l W hs hl hc hC hsum a x y z hD ?_
      rcases lexD_cases s with ⟨q, h1, _⟩ | ⟨ts, h1, h2⟩
      · rw [h1] at hD; injection hD with hD; subst hD; exact Nat.zero_le _
      · rw [h1] at hD; injection hD with hD; subst hD
        have := lexT_len _ _ _ h2
        simp at this
        omega
    · exact lexes_o2 s A cap _ W hs hn (by omega)
  · exact lexes_o1 s A cap _ W (by omega) hz hn

end Go.Proofs.Ytjmffehffmmobaa.WW
