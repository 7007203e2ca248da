/-
  journal.bytes, journal.number and the reference's two, walked.
-/
import Derived.Test.YtgfiiccajellnaaProg
import Derived.Test.YtgfiiccajellnaaJP
import Derived.Test.YtgfiiccajellnaaWWords
import Derived.WalkKit
import Derived.LoopTactic
import Derived.Deep.LoopGhost
import Derived.Lib.Hide
import Derived.Laws.BitsLemmas
set_option linter.unusedVariables false
set_option linter.unusedSimpArgs false
namespace Go.Proofs.Ytgfiiccajellnaa.JW
open Go.RowKit Go.Proofs.Ytgfiiccajellnaa.JP Go.Proofs.YtgfiiccajellnaaW.PrintWords

theorem infoU8 : (Try.prog.info? 5).map (fun i => (i.zero, i.size, i.bytes)) = some (some (.int .u8 0), 1, 1) := by kernel_rfl

set_option maxHeartbeats 1000000 in
set_option maxRecDepth 100000 in
theorem bytes (n m : Int) (w : World) (hn : 0 ≤ n) (hn2 : n < 4294967296) (hm : 0 ≤ m) (hm2 : m ≤ 8) :
    Calls Try.prog 22 #[.int .i64 n, .int .i64 m] w fun e w' => e = .returned (.string (strOfNums (be m.toNat n))) ∧ Below w.heap.size w w' := by
  have hm3 : m.toNat ≤ 281474976710656 := by omega
  go_enter Try.func22, Try.ntmps22
  go_wp2_with (refine Kd.R_make (Kd.int .u8) w.heap.size 5 rfl (N := 8) rfl 37 _ _ rfl m rfl rfl Try.underlying37 (.int .u8 0) 1 infoU8 rfl (by decide) (by omega) 0 (ok := fun _ => True) (okp := fun _ => True) rfl (fun _ hk => hk) trivial hm (Nat.le_trans (Nat.mul_le_mul_right _ hm3) (by omega)) (Below.refl _ _) (Nat.le_refl _) ?_; intro v w1 ho hb hg hnew; clear hg hnew; have HO := Aside0.mk ho; have HB := Aside0.mk hb; clear ho hb)
  obtain ⟨m, rfl⟩ := Int.eq_ofNat_of_zero_le hm
  simp only [Int.toNat_natCast] at HO hm3 ⊢
  rw [← beRow_zero m n] at HO
  go_loopg [10] m (fun g i w' => ∃ j : Nat, j ≤ m ∧ i = .int .i64 j ∧ Aside0 (g + j = m) ∧ Aside0 (Kd.R (Kd.int .u8) 5 w' w.heap.size (fun _ => True) v (beRow m j n)) ∧ Aside0 (Below w.heap.size w w'))
  case atStart => exact ⟨0, Nat.zero_le _, rfl, ⟨rfl⟩, HO, HB⟩
  case round =>
    clear HO HB
    obtain ⟨j, hj, rfl, HG, HO, HB⟩ := hrel
    by_cases hlt : j < m
    · obtain ⟨go14, co14, eo14, gb14, gl14, cl14, HG14⟩ := Kd.R_form HO.out (by rw [beRow_length m j n hj]; omega)
      rw [beRow_length m j n hj] at eo14
      subst eo14
      obtain ⟨hx, hf⟩ := Kd.R_celln 0 HO.out ((m - 1 - j : Nat) : Int) (by omega) (by omega)
      have HP := Aside0.mk (Kd.R_putg HO.out ((m - 1 - j : Nat) : Int) (n / 2 ^ (8 * j) % 256))
      simp only [Int.toNat_natCast, beRow_set m j n hlt] at hx hf HP
      have HG2 : Aside0 (gk - 1 + (j + 1) = m) := ⟨by have := HG.out; omega⟩
      have HG3 : gk - 1 < gk := by have := HG.out; omega
      clear HG
      go_wp2
      go_roundg (gk - 1)
      case measure => exact HG3
      case rel => exact ⟨j + 1, by omega, by go_num, HG2, ⟨HP.out.1⟩, ⟨below_set HB.out gb14⟩⟩
    · obtain rfl : j = m := by omega
      rw [beRow_full] at HO
      have hcv := own_string (P := Try.prog) Try.underlying37 Try.underlying5 Try.underlying9 (Kd.own_of_R HO.out)
      go_wp2
      go_ret
      exact ⟨rfl, HB.out⟩

theorem wraps_i64 (n : Int) (h0 : 0 ≤ n) (h1 : n < 2 ^ 63) : IntKind.i64.wrap n = n := by rw [IntKind.wrap_i64]; omega
theorem i64_or8 (n c : Nat) (hn : n < 36028797018963968) (hc : c < 256) : bits .or .i64 ((n : Int) * 256) (c : Int) = ((n * 256 + c : Nat) : Int) := by
  rw [bits_join .i64 63 (by decide) wraps_i64 8 ((n : Int) * 256) (c : Int) (by omega) (by omega) (by omega) (by omega) (by omega) (by omega)]
  omega
theorem num_take_lt (s : ByteArray) (k : Nat) (hs : s.size ≤ 7) (h : k < s.size) : num (s.data.toList.take k) < 281474976710656 := by
  have h1 := num_lt (s.data.toList.take k)
  have h2 : (s.data.toList.take k).length ≤ 6 := by rw [List.length_take]; omega
  have h3 : 256 ^ (s.data.toList.take k).length ≤ 256 ^ 6 := Nat.pow_le_pow_right (by decide) h2
  omega

set_option maxHeartbeats 1000000 in
set_option maxRecDepth 100000 in
theorem number (s : ByteArray) (w : World) (hs : s.size ≤ 7) :
    Calls Try.prog 24 #[.string s] w fun e w' => e = .returned (.int .i64 (num s.data.toList)) ∧ w = w' := by
  go_enter Try.func24, Try.ntmps24
  go_wp2
  go_loop [3, 7] (fun n i => ∃ k : Nat, k ≤ s.size ∧ i = .int .i64 k ∧ n = .int .i64 (num (s.data.toList.take k))) (fun _ i => s.size - (intOf i).toNat)
  case atStart => exact ⟨0, Nat.zero_le _, rfl, rfl⟩
  case round =>
    obtain ⟨k, hk, rfl, rfl⟩ := hrel
    by_cases hlt : k < s.size
    · have hb := num_take_lt s k hs hlt
      have H : Hid (num (s.data.toList.take (k + 1)) = num (s.data.toList.take k) * 256 + (s[k]).toNat) := Lib.hid (by rw [take_snoc s k hlt, num_snoc])
      have hc := (s[k]).toNat_lt
      have O := Lib.hid (i64_or8 (num (s.data.toList.take k)) (s[k]).toNat (by omega) (by omega))
      generalize num (s.data.toList.take k) = n at *
      go_wp2
      go_round
      case rel => exact ⟨k + 1, by omega, by go_num, by rw [H.out, O.out]⟩
      case measure => simp [intOf]; omega
    · go_wp2
      go_ret
      have e : List.take k s.data.toList = s.data.toList := List.take_of_length_le (by simp; omega)
      exact ⟨by simp [e], rfl⟩

end Go.Proofs.Ytgfiiccajellnaa.JW
