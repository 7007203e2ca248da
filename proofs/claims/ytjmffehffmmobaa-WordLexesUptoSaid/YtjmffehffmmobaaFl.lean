/-
  Small naturals as floats: their bits, their sums, back to integers. No program in sight.
-/
import Derived.Laws.ComplexArith
namespace Go.Proofs.Ytjmffehffmmobaa.Fl
open Go

/-- The bits of a natural as a float64. -/
def fb (n : Nat) : Nat := Ieee.double.nearest false n 0

theorem log2_lt (n : Nat) (h0 : n ≠ 0) (h : n < 2 ^ 40) : n.log2 < 40 := (Nat.log2_lt h0).2 h

theorem shl (a b : Nat) : a <<< b = a * 2 ^ b := Nat.shiftLeft_eq a b

/-- A number that is n times a power of two, written: its rung. -/
theorem near (n k : Nat) (h0 : n ≠ 0) (h : n < 2 ^ 40) :
    Ieee.double.nearest false (n * 2 ^ k) (-(k : Int)) = (n.log2 + 1022) * 2 ^ 52 + n * 2 ^ (52 - n.log2) := by
  have hl := log2_lt n h0 h
  have hlog : (n * 2 ^ k).log2 = n.log2 + k := by
    rw [Nat.log2_eq_iff (by have := Nat.two_pow_pos k; exact Nat.mul_ne_zero h0 (by omega))]
    have h1 := Nat.log2_self_le h0
    have h2 := @Nat.lt_log2_self n
    constructor
    · rw [Nat.pow_add]; exact Nat.mul_le_mul_right _ h1
    · rw [show n.log2 + k + 1 = (n.log2 + 1) + k from by omega, Nat.pow_add]
      exact Nat.mul_lt_mul_of_pos_right h2 (Nat.two_pow_pos k)
  have hne : n * 2 ^ k ≠ 0 := Nat.mul_ne_zero h0 (by have := Nat.two_pow_pos k; omega)
  unfold Ieee.Format.nearest
  rw [if_neg hne, hlog]
  have e1 : max (-(k : Int) + ((n.log2 + k : Nat) : Int) - (Ieee.double.fractionBits : Int)) Ieee.double.leastPlace = (n.log2 : Int) - 52 := by
    have e : (Ieee.double.fractionBits : Int) = 52 := rfl
    have e2 : Ieee.double.leastPlace = -1074 := by decide
    rw [e, e2]
    omega
  simp only [e1]
  have e3 : ((n.log2 : Int) - 52 - Ieee.double.leastPlace).toNat = n.log2 + 1022 := by
    have e2 : Ieee.double.leastPlace = -1074 := by decide
    rw [e2]; omega
  rw [e3]
  have hcut : Ieee.Toward.even.cut false ((n * 2 ^ k) <<< (-(k : Int) - ((n.log2 : Int) - 52)).toNat) ((n.log2 : Int) - 52 - -(k : Int)).toNat = n * 2 ^ (52 - n.log2) := by
    unfold Ieee.Toward.cut
    simp only [shl]
    by_cases hc : k + n.log2 ≤ 52
    · rw [show ((n.log2 : Int) - 52 - -(k : Int)).toNat = 0 from by omega]
      rw [show (-(k : Int) - ((n.log2 : Int) - 52)).toNat = 52 - n.log2 - k from by omega]
      simp only [Nat.zero_min, Nat.pow_zero, Nat.one_mul, Nat.div_one, Nat.mod_one]
      rw [Nat.mul_assoc, ← Nat.pow_add, show k + (52 - n.log2 - k) = 52 - n.log2 from by omega]
      simp
    · obtain ⟨d, hd⟩ : ∃ d, k + n.log2 = 52 + d := ⟨k + n.log2 - 52, by omega⟩
      rw [show ((n.log2 : Int) - 52 - -(k : Int)).toNat = d from by omega]
      rw [show (-(k : Int) - ((n.log2 : Int) - 52)).toNat = 0 from by omega]
      simp only [Nat.pow_zero, Nat.mul_one]
      rw [hlog, show min d (n.log2 + k + 2) = d from by omega, Nat.one_mul]
      have e4 : n * 2 ^ k = n * 2 ^ (52 - n.log2) * 2 ^ d := by
        rw [Nat.mul_assoc, ← Nat.pow_add, show 52 - n.log2 + d = k from by omega]
      have hp := Nat.two_pow_pos d
      rw [e4, Nat.mul_div_cancel _ hp, Nat.mul_mod_left]
      simp
  rw [hcut]
  have hb : Ieee.double.binade = 2 ^ 52 := rfl
  have hi : Ieee.double.infRung = 2047 * 2 ^ 52 := rfl
  have hw : n * 2 ^ (52 - n.log2) < 2 ^ 53 := by
    have h2 := @Nat.lt_log2_self n
    have : n * 2 ^ (52 - n.log2) < 2 ^ (n.log2 + 1) * 2 ^ (52 - n.log2) := Nat.mul_lt_mul_of_pos_right h2 (Nat.two_pow_pos _)
    rw [← Nat.pow_add, show n.log2 + 1 + (52 - n.log2) = 53 from by omega] at this
    exact this
  rw [hb, hi]
  have hm : min ((n.log2 + 1022) * 2 ^ 52 + n * 2 ^ (52 - n.log2)) (2047 * 2 ^ 52) = (n.log2 + 1022) * 2 ^ 52 + n * 2 ^ (52 - n.log2) := by
    apply Nat.min_eq_left
    generalize n * 2 ^ (52 - n.log2) = x at *
    omega
  rw [hm]
  rfl

theorem fb_eq (n : Nat) (h0 : n ≠ 0) (h : n < 2 ^ 40) : fb n = (n.log2 + 1022) * 2 ^ 52 + n * 2 ^ (52 - n.log2) := by
  have := near n 0 h0 h
  simpa [fb] using this

theorem read_fb (n : Nat) (h0 : n ≠ 0) (h : n < 2 ^ 40) : Ieee.double.read (fb n) = .number false (n * 2 ^ (52 - n.log2)) ((n.log2 : Int) - 52) := by
  have hl := log2_lt n h0 h
  have h1 := Nat.log2_self_le h0
  have h2 := @Nat.lt_log2_self n
  have hlo : 2 ^ 52 ≤ n * 2 ^ (52 - n.log2) := by
    have : 2 ^ n.log2 * 2 ^ (52 - n.log2) ≤ n * 2 ^ (52 - n.log2) := Nat.mul_le_mul_right _ h1
    rw [← Nat.pow_add, show n.log2 + (52 - n.log2) = 52 from by omega] at this
    exact this
  have hw : n * 2 ^ (52 - n.log2) < 2 ^ 53 := by
    have : n * 2 ^ (52 - n.log2) < 2 ^ (n.log2 + 1) * 2 ^ (52 - n.log2) := Nat.mul_lt_mul_of_pos_right h2 (Nat.two_pow_pos _)
    rw [← Nat.pow_add, show n.log2 + 1 + (52 - n.log2) = 53 from by omega] at this
    exact this
  rw [fb_eq n h0 h]
  generalize n * 2 ^ (52 - n.log2) = x at *
  unfold Ieee.Format.read
  have hs : Ieee.double.signWeight = 2 ^ 63 := rfl
  have hb : Ieee.double.binade = 2 ^ 52 := rfl
  have hi : Ieee.double.infRung = 2047 * 2 ^ 52 := rfl
  have hp : Ieee.double.leastPlace = -1074 := by decide
  rw [hs, hb, hi, hp]
  have r1 : ((n.log2 + 1022) * 2 ^ 52 + x) / 2 ^ 63 = 0 := by omega
  have r2 : ((n.log2 + 1022) * 2 ^ 52 + x) % 2 ^ 63 = (n.log2 + 1022) * 2 ^ 52 + x := by omega
  simp only [r1, r2]
  rw [if_neg (by omega), if_pos (by omega)]
  congr 1
  · omega
  · omega

theorem near_one : Ieee.double.read (fb 1) = .number false (2 ^ 52) (-52) := by
  have := read_fb 1 (by decide) (by decide)
  have e : Nat.log2 1 = 0 := by decide
  rw [e] at this
  simpa using this

/-- One more. -/
theorem fb_succ (n : Nat) (h0 : n ≠ 0) (h : n < 2 ^ 39) : floatBits .add .f64 (fb n) (fb 1) = some (fb (n + 1)) := by
  have hl := log2_lt n h0 (by omega)
  show Ieee.double.add (fb n) (fb 1) = some (fb (n + 1))
  unfold Ieee.Format.add
  rw [read_fb n h0 (by omega), near_one]
  simp only [Ieee.Datum.sum, Option.map_some]
  have hbase : min ((n.log2 : Int) - 52) (-52) = -52 := by omega
  rw [hbase, show ((n.log2 : Int) - 52 - -52).toNat = n.log2 from by omega, show ((-52 : Int) - -52).toNat = 0 from by omega]
  have htot : Ieee.signed false (n * 2 ^ (52 - n.log2)) n.log2 + Ieee.signed false (2 ^ 52) 0 = (((n + 1) * 2 ^ 52 : Nat) : Int) := by
    simp only [Ieee.signed, Bool.false_eq_true, if_false, shl]
    rw [Nat.mul_assoc, ← Nat.pow_add, show 52 - n.log2 + n.log2 = 52 from by omega]
    omega
  rw [htot]
  have hpos : (((n + 1) * 2 ^ 52 : Nat) : Int) ≠ 0 := by omega
  rw [if_neg hpos]
  have hneg : decide ((((n + 1) * 2 ^ 52 : Nat) : Int) < 0) = false := decide_eq_false (by omega)
  rw [hneg, Int.natAbs_natCast]
  show some (Ieee.double.nearest false ((n + 1) * 2 ^ 52) (-52)) = some (fb (n + 1))
  rw [show (-52 : Int) = -((52 : Nat) : Int) from rfl, near (n + 1) 52 (by omega) (by omega), fb_eq (n + 1) (by omega) (by omega)]

theorem sum_zero (n k : Nat) (m : Nat) (e : Nat) (h : m * 2 ^ e = n * 2 ^ k) (hn : n ≠ 0) (i : Int) (hi : (i - -(k : Int)).toNat = e) (hm : -(k : Int) ≤ i) :
    (Ieee.Datum.number false m i).sum (.number false 0 (-(k : Int))) = some (.number false (n * 2 ^ k) (-(k : Int))) := by
  simp only [Ieee.Datum.sum]
  have hbase : min i (-(k : Int)) = -(k : Int) := by omega
  rw [hbase, hi]
  have htot : Ieee.signed false m e + Ieee.signed false 0 (-(k : Int) - -(k : Int)).toNat = ((n * 2 ^ k : Nat) : Int) := by
    simp only [Ieee.signed, Bool.false_eq_true, if_false, shl, h, Nat.zero_mul]
    simp
  rw [htot]
  have hp := Nat.two_pow_pos k
  have hpos : n * 2 ^ k ≠ 0 := Nat.mul_ne_zero hn (by omega)
  generalize n * 2 ^ k = x at *
  rw [if_neg (by omega), Int.natAbs_natCast, decide_eq_false (by omega)]

/-- Nothing more. -/
theorem fb_zero (n : Nat) (h0 : n ≠ 0) (h : n < 2 ^ 40) : floatBits .add .f64 (fb n) 0 = some (fb n) := by
  have hl := log2_lt n h0 h
  show Ieee.double.add (fb n) 0 = some (fb n)
  unfold Ieee.Format.add
  obtain ⟨k, hk⟩ : ∃ k : Nat, k = 1074 := ⟨_, rfl⟩
  have hz : Ieee.double.read 0 = .number false 0 (-(k : Int)) := by rw [hk]; decide
  rw [read_fb n h0 h, hz, sum_zero n k (n * 2 ^ (52 - n.log2)) (n.log2 + k - 52) (by rw [Nat.mul_assoc, ← Nat.pow_add]; congr 2; omega) h0 _ (by omega) (by omega)]
  show some (Ieee.double.nearest false (n * 2 ^ k) (-(k : Int))) = some (fb n)
  rw [near n k h0 h, fb_eq n h0 h]

/-- And back. -/
theorem fb_int (n : Nat) (h0 : n ≠ 0) (h : n < 2 ^ 40) : floatToIntVal .f64 (fb n) .i64 = some (n : Int) := by
  have hl := log2_lt n h0 h
  have hr : (FloatKind.f64).decode (fb n) = .number false (n * 2 ^ (52 - n.log2)) ((n.log2 : Int) - 52) := read_fb n h0 h
  unfold floatToIntVal
  rw [hr]
  have hne : n * 2 ^ (52 - n.log2) ≠ 0 := Nat.mul_ne_zero h0 (by have := Nat.two_pow_pos (52 - n.log2); omega)
  have hlog : (n * 2 ^ (52 - n.log2)).log2 = 52 := by
    rw [Nat.log2_eq_iff hne]
    have h1 := Nat.log2_self_le h0
    have h2 := @Nat.lt_log2_self n
    constructor
    · have : 2 ^ n.log2 * 2 ^ (52 - n.log2) ≤ n * 2 ^ (52 - n.log2) := Nat.mul_le_mul_right _ h1
      rw [← Nat.pow_add, show n.log2 + (52 - n.log2) = 52 from by omega] at this
      exact this
    · have : n * 2 ^ (52 - n.log2) < 2 ^ (n.log2 + 1) * 2 ^ (52 - n.log2) := Nat.mul_lt_mul_of_pos_right h2 (Nat.two_pow_pos _)
      rw [← Nat.pow_add, show n.log2 + 1 + (52 - n.log2) = 53 from by omega] at this
      exact this
  have hi : (Ieee.Datum.number false (n * 2 ^ (52 - n.log2)) ((n.log2 : Int) - 52)).toInt .zero = some (n : Int) := by
    unfold Ieee.Datum.toInt Ieee.Datum.integral
    simp only
    rw [show ((n.log2 : Int) - 52).toNat = 0 from by omega, show (-((n.log2 : Int) - 52)).toNat = 52 - n.log2 from by omega]
    unfold Ieee.Toward.cut
    simp only [shl, Nat.pow_zero, Nat.mul_one, Nat.one_mul, hlog]
    rw [show min (52 - n.log2) (52 + 2) = 52 - n.log2 from by omega, Nat.mul_div_cancel _ (Nat.two_pow_pos _)]
    simp [Ieee.signed, shl]
  rw [hi]
  simp only
  rw [if_pos]
  have hmin : IntKind.i64.min = -9223372036854775808 := by decide
  have hmax : IntKind.i64.max = 9223372036854775807 := by decide
  rw [hmin, hmax]
  omega

end Go.Proofs.Ytjmffehffmmobaa.Fl
