/-
  word's small functions, walked: letter, digit, the classes, places.
-/
import Derived.Test.YtjmffehffmmobaaProg
import Derived.Test.YtjmffehffmmobaaWP
import Derived.Test.YtjmffehffmmobaaFl
import Derived.Test.YtjmffehffmmobaaWWords
import Derived.WalkKit
import Derived.WalkSpells
import Derived.WalkLawsBesides
import Derived.IntWalk
import Derived.LoopTactic
import Derived.Deep.LoopGhost
import Derived.Lib.Hide
import Derived.Lib.Builder
import Derived.Outline
set_option linter.unusedVariables false
set_option linter.unusedSimpArgs false
namespace Go.Proofs.Ytjmffehffmmobaa.WW
open Go.RowKit Go.Proofs.Ytjmffehffmmobaa.WP Go.Proofs.Ytjmffehffmmobaa.Fl Go.Proofs.YtjmffehffmmobaaW.PrintWords

theorem letter (c : Nat) (w : World) (hc : c < 256) :
    Calls Try.prog 24 #[.int .u8 c] w fun e w' => e = .returned (.bool (isL c)) ∧ w = w' := by
  by_cases h1 : 97 ≤ c
  · by_cases h2 : c ≤ 122
    · have H := Lib.hid (show isL c = true by simp [isL, h1, h2])
      rw [H.out]
      go_enter Try.func24, Try.ntmps24
      go_wp2
      go_ret
      exact ⟨by first | rfl | (simp; done) | (simp; omega), rfl⟩
    · have H := Lib.hid (show isL c = false by simp [isL, h1, h2])
      rw [H.out]
      go_enter Try.func24, Try.ntmps24
      go_wp2
      go_ret
      exact ⟨by first | rfl | (simp; done) | (simp; omega), rfl⟩
  · have H := Lib.hid (show isL c = false by simp [isL, h1])
    rw [H.out]
    go_enter Try.func24, Try.ntmps24
    go_wp2
    go_ret
    exact ⟨by first | rfl | (simp; done) | (simp; omega), rfl⟩

theorem digit (c : Nat) (w : World) (hc : c < 256) :
    Calls Try.prog 26 #[.int .u8 c] w fun e w' => e = .returned (.bool (isD c)) ∧ w = w' := by
  by_cases h1 : 48 ≤ c
  · by_cases h2 : c ≤ 57
    · have H := Lib.hid (show isD c = true by simp [isD, h1, h2])
      rw [H.out]
      go_enter Try.func26, Try.ntmps26
      go_wp2
      go_ret
      exact ⟨by first | rfl | (simp; done) | (simp; omega), rfl⟩
    · have H := Lib.hid (show isD c = false by simp [isD, h1, h2])
      rw [H.out]
      go_enter Try.func26, Try.ntmps26
      go_wp2
      go_ret
      exact ⟨by first | rfl | (simp; done) | (simp; omega), rfl⟩
  · have H := Lib.hid (show isD c = false by simp [isD, h1])
    rw [H.out]
    go_enter Try.func26, Try.ntmps26
    go_wp2
    go_ret
    exact ⟨by first | rfl | (simp; done) | (simp; omega), rfl⟩

theorem blank (c : Nat) (w : World) (hc : c < 256) :
    Calls Try.prog 17 #[.int .u8 c] w fun e w' => e = .returned (.bool (isB c)) ∧ w = w' := by
  by_cases h1 : c = 32
  · have H := Lib.hid (show isB c = true by simp [isB, h1])
    have t1 : ((c : Int) == 32) = true := by rw [h1]; rfl
    clear h1
    rw [H.out]
    go_enter Try.func17, Try.ntmps17
    go_wp2
    go_ret
    exact ⟨rfl, rfl⟩
  · have t1 : ((c : Int) == 32) = false := by rw [beq_eq_false_iff_ne]; omega
    by_cases h2 : c = 10
    · have H := Lib.hid (show isB c = true by simp [isB, h2])
      have t2 : ((c : Int) == 10) = true := by rw [h2]; rfl
      clear h1 h2
      rw [H.out]
      go_enter Try.func17, Try.ntmps17
      go_wp2
      go_ret
      exact ⟨rfl, rfl⟩
    · have H := Lib.hid (show isB c = false by simp [isB, h1, h2])
      have t2 : ((c : Int) == 10) = false := by rw [beq_eq_false_iff_ne]; omega
      clear h1 h2
      rw [H.out]
      go_enter Try.func17, Try.ntmps17
      go_wp2
      go_ret
      exact ⟨rfl, rfl⟩

theorem namely (c : Nat) (w : World) (hc : c < 256) :
    Calls Try.prog 25 #[.int .u8 c] w fun e w' => e = .returned (.bool (isLD c)) ∧ w = w' := by
  cases hl : isL c
  · have H := Lib.hid (show isLD c = isD c by simp [isLD, hl])
    have HL := Lib.hid hl
    clear hl
    rw [H.out]
    go_enter Try.func25, Try.ntmps25
    go_wp2_with fail
    refine (letter c w hc).mono ?_
    rw [HL.out]
    rintro e w1 ⟨rfl, rfl⟩
    go_wp2_with fail
    refine (digit c w hc).mono ?_
    rintro e w1 ⟨rfl, rfl⟩
    go_wp2
    go_ret
    exact ⟨rfl, rfl⟩
  · have H := Lib.hid (show isLD c = true by simp [isLD, hl])
    have HL := Lib.hid hl
    clear hl
    rw [H.out]
    go_enter Try.func25, Try.ntmps25
    go_wp2_with fail
    refine (letter c w hc).mono ?_
    rw [HL.out]
    rintro e w1 ⟨rfl, rfl⟩
    go_wp2
    go_ret
    exact ⟨rfl, rfl⟩

theorem one_bits : fb 1 = 4607182418800017408 := by decide +kernel

theorem at_place (l c : Nat) (w : World) (h1 : l ≠ 0) (h2 : l < 1099511627776) (h3 : c ≠ 0) (h4 : c < 1099511627776) :
    Calls Try.prog 18 #[.complex .f64 (fb l) (fb c)] w fun e w' => e = .returned (.tuple #[.int .i64 l, .int .i64 c]) ∧ w = w' := by
  have k1 := fun W => run_convert_float_int (P := Try.prog) W 50 3 .f64 .i64 (fb l) l (by kernel_rfl) Try.underlying3 (fb_int l h1 h2)
  have k2 := fun W => run_convert_float_int (P := Try.prog) W 50 3 .f64 .i64 (fb c) c (by kernel_rfl) Try.underlying3 (fb_int c h3 h4)
  go_enter Try.func18, Try.ntmps18
  go_wp2
  go_ret2
  exact ⟨rfl, rfl⟩

theorem behind (l c b : Nat) (w : World) (hb : b < 256) (h1 : l ≠ 0) (h2 : l < 549755813888) (h3 : c ≠ 0) (h4 : c < 549755813888) :
    Calls Try.prog 22 #[.complex .f64 (fb l) (fb c), .int .u8 b] w fun e w' => e = .returned (if b = 10 then .complex .f64 (fb (l + 1)) (fb 1) else .complex .f64 (fb l) (fb (c + 1))) ∧ w = w' := by
  by_cases hb10 : b = 10
  · rw [if_pos hb10]
    have t1 : ((b : Int) == 10) = true := by rw [hb10]; rfl
    clear hb10
    have f1 := fb_succ l h1 h2
    rw [one_bits] at f1
    have k1 := fun W => run_float_arith (P := Try.prog) W .add 50 .f64 (fb l) 4607182418800017408 (fb (l + 1)) f1
    rw [one_bits]
    go_enter Try.func22, Try.ntmps22
    go_wp2
    go_ret
    exact ⟨rfl, rfl⟩
  · rw [if_neg hb10]
    have t1 : ((b : Int) == 10) = false := by rw [beq_eq_false_iff_ne]; omega
    clear hb10
    have f1 := fb_succ c h3 h4
    rw [one_bits] at f1
    have f0 := fb_zero l h1 (by omega)
    have hs : cSumBits .add .f64 (fb l) (fb c) 0 4607182418800017408 = some (fb l, fb (c + 1)) := by
      unfold cSumBits
      rw [f0, f1]
      rfl
    have k1 := fun W => run_complex_sum (P := Try.prog) W .add (Or.inl rfl) 38 .f64 (fb l) (fb c) 0 4607182418800017408 _ _ hs
    go_enter Try.func22, Try.ntmps22
    go_wp2
    go_ret
    exact ⟨rfl, rfl⟩

/-- A scanner in its own block. -/
def Scan (b : Nat) (s : ByteArray) (p : Nat × Nat) (w : World) : Prop := w.heap[b]? = some (.cells #[.string s, .complex .f64 (fb p.1) (fb p.2)] 40 (0, 0))

theorem Scan.s {b : Nat} {s : ByteArray} {p : Nat × Nat} {w : World} (h : Scan b s p w) : w.cell? ⟨b, 0, none⟩ = some (.string s) := Lib.cell_of_heap h 0
theorem Scan.at {b : Nat} {s : ByteArray} {p : Nat × Nat} {w : World} (h : Scan b s p w) : w.cell? ⟨b, 1, none⟩ = some (.complex .f64 (fb p.1) (fb p.2)) := Lib.cell_of_heap h 1
theorem Scan.free {b : Nat} {s : ByteArray} {p : Nat × Nat} {w : World} (h : Scan b s p w) (j : Nat) : w.frozen? ⟨b, j, none⟩ = false := Lib.frozen_of_heap h j

theorem peek (b : Nat) (s : ByteArray) (p : Nat × Nat) (n : Int) (w : World) (h : Scan b s p w) (hs : s.size ≤ 1000000000) (h0 : 0 ≤ n) (h1 : n ≤ 1000000000) :
    Calls Try.prog 23 #[.pointer (some ⟨b, 0, none⟩), .int .i64 n] w fun e w' => e = .returned (.int .u8 (peekL s.data.toList n.toNat)) ∧ w = w' := by
  have hc := h.s
  obtain ⟨n, rfl⟩ := Int.eq_ofNat_of_zero_le h0
  rw [Int.toNat_natCast]
  by_cases hlt : n < s.size
  · have H : Hid (peekL s.data.toList n = s[n].toNat) := Lib.hid (by
      unfold peekL
      rw [List.getElem?_eq_getElem (by simpa using hlt)]
      rfl)
    rw [H.out]
    go_enter Try.func23, Try.ntmps23
    go_wp2
    go_ret
    exact ⟨rfl, rfl⟩
  · have H : Hid (peekL s.data.toList n = 0) := Lib.hid (by
      unfold peekL
      rw [List.getElem?_eq_none (by simpa using Nat.le_of_not_lt hlt)]
      rfl)
    rw [H.out]
    go_enter Try.func23, Try.ntmps23
    go_wp2
    go_ret
    exact ⟨rfl, rfl⟩

end Go.Proofs.Ytjmffehffmmobaa.WW
