/-
  The law JournalAny, walked.
-/
import Derived.Test.YtgfiiccajellnaaJL1
import Derived.Test.YtgfiiccajellnaaJW9
set_option linter.unusedVariables false
set_option linter.unusedSimpArgs false
namespace Go.Proofs.Ytgfiiccajellnaa.JW
open Go.RowKit Go.Proofs.Ytgfiiccajellnaa.JP Go.Proofs.YtgfiiccajellnaaW.PrintWords

set_option maxHeartbeats 2000000 in
set_option maxRecDepth 100000 in
theorem any (w : World) (s : ByteArray) (hs : s.size ≤ 140737488351232) :
    Calls Try.prog 5 #[.string s] w fun e w' => e = .returned (.bool true) ∧ Below w.heap.size w w' := by
  by_cases h5 : 5000 < s.size
  · go_enter Try.func5, Try.ntmps5
    go_wp2_with fail
    refine (fixed w).mono ?_
    rintro e w1 ⟨rfl, hb1⟩
    have HB1 := Aside0.mk hb1
    clear hb1
    go_wp2_with fail
    refine (fixed w1).mono ?_
    rintro e w2 ⟨rfl, hb2⟩
    have HB2 := Aside0.mk (HB1.out.trans (hb2.mono HB1.out.size))
    clear HB1 hb2
    go_wp2
    go_ret
    exact ⟨rfl, HB2.out⟩
  · obtain ⟨i1, i2, i3, i4, i5, i6, i7⟩ := decB_told (s.size + 1) s 0 (Nat.zero_le _) (by omega)
    have HE : encB (decB (s.size + 1) s 0).1 = s.extract 0 (decB (s.size + 1) s 0).2.1 := by
      rw [encB_cat _ i4, i7]
      exact ByteArray.empty_append
    have hlen : (decB (s.size + 1) s 0).1.length ≤ 1000000 := by omega
    have T : ∃ b : Bool, (((decB (s.size + 1) s 0).2.2 : Int) == 0) = b ∧ (((decB (s.size + 1) s 0).2.1 : Int) == (s.size : Int)) = b ∧ ((decB (s.size + 1) s 0).2.1 == s.size) = b := by
      by_cases h : (decB (s.size + 1) s 0).2.2 = 0
      · exact ⟨true, by rw [h]; rfl, by rw [i3.1 h]; simp, by rw [i3.1 h]; simp⟩
      · have h' : ¬ (decB (s.size + 1) s 0).2.1 = s.size := fun e => h (i3.2 e)
        exact ⟨false, by simpa using h, by rw [beq_eq_false_iff_ne]; omega, by simpa using h'⟩
    have HEnc : ∀ (w0 : World) (A : Option Addr) (c : Nat), Kd.C Kd.string w0 A (decB (s.size + 1) s 0).1.length (decB (s.size + 1) s 0).1 → (decB (s.size + 1) s 0).1.length ≤ c →
        Calls Try.prog 14 #[.slice A (decB (s.size + 1) s 0).1.length c] w0 fun e w' => e = .returned (.string (s.extract 0 (decB (s.size + 1) s 0).2.1)) ∧ Below w0.heap.size w0 w' := by
      intro w0 A c hC hc
      rw [← HE]
      exact encode A c _ w0 hC hc hlen (fun x hx => by have := i4 x hx; omega)
    have H2 := Aside0.mk i2
    have HENC := Aside0.mk HEnc
    clear HE HEnc hlen i1 i2 i3 i4 i5 i6 i7
    go_enter Try.func5, Try.ntmps5
    go_wp2_with fail
    refine (fixed w).mono ?_
    rintro e w1 ⟨rfl, hb1⟩
    have HB1 := Aside0.mk hb1
    clear hb1
    go_wp2_with fail
    refine (decode s w1 (by omega)).mono ?_
    rintro e w2 ⟨v, rfl, ho, hb2⟩
    have HB2 := Aside0.mk (HB1.out.trans (hb2.mono HB1.out.size))
    obtain ⟨A, c, rfl, hl, hc⟩ := Kd.R_reads ho
    have HC := Aside0.mk hc
    have HL := Aside0.mk hl
    clear HB1 hb2 ho hl hc
    generalize decB (s.size + 1) s 0 = D at *
    obtain ⟨b, t1, t2, t3⟩ := T
    have p1 := H2.out
    obtain ⟨lst, p, ec⟩ := D
    simp only at *
    have p2 : ((p : Int) ≤ (s.size : Int)) := by omega
    cases b
    all_goals
      go_wp2_with fail
      go_region_held3 (fun w' : World => True) (exact trivial) (first | (go_at_call 14; refine (HENC.out _ A c ?_ HL.out).mono ?_; exact Kd.C_below HC.out (Below.drew (Below.refl _ _)); intro e w3 hh; obtain ⟨rfl, hb3⟩ := hh))
      go_wp2
      go_ret
      exact ⟨rfl, HB2.out.trans (((Below.drew (Below.refl _ _)).trans hb3).mono HB2.out.size)⟩

end Go.Proofs.Ytgfiiccajellnaa.JW
