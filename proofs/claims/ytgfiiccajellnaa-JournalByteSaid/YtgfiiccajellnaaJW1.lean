/-
  journal.Check and the reference's Check, walked.
-/
import Derived.Test.YtgfiiccajellnaaProg
import Derived.Test.YtgfiiccajellnaaJP
import Derived.WalkKit
import Derived.LoopTactic
import Derived.Deep.LoopGhost
import Derived.Lib.Hide
set_option linter.unusedVariables false
set_option linter.unusedSimpArgs false
namespace Go.Proofs.Ytgfiiccajellnaa.JW
open Go.RowKit Go.Proofs.Ytgfiiccajellnaa.JP

set_option maxHeartbeats 400000 in
theorem check (s : ByteArray) (w : World) (hs : s.size ≤ 140737488355328) :
    Calls Try.prog 12 #[.string s] w fun e w' => e = .returned (.tuple #[.int .i64 (chk s.data.toList).1, .int .i64 (chk s.data.toList).2]) ∧ w = w' := by
  go_enter Try.func12, Try.ntmps12
  go_wp2
  go_loop [4, 5, 9] (fun a b i => ∃ k : Nat, k ≤ s.size ∧ i = .int .i64 k ∧ a = .int .i64 (chk (s.data.toList.take k)).1 ∧ b = .int .i64 (chk (s.data.toList.take k)).2) (fun _ _ i => s.size - (intOf i).toNat)
  case atStart => exact ⟨0, Nat.zero_le _, rfl, rfl, rfl⟩
  case round =>
    obtain ⟨k, hk, rfl, rfl, rfl⟩ := hrel
    have hb := chk_lt (s.data.toList.take k)
    have hb1 := hb.1
    have hb2 := hb.2
    clear hb
    by_cases hlt : k < s.size
    · have H := Lib.hid (chk_take s k hlt)
      have hc := (s[k]).toNat_lt
      generalize hp : chk (s.data.toList.take k) = p at *
      have Hp := Lib.hid hp
      clear hp
      go_wp2
      go_round
      case rel => exact ⟨k + 1, by omega, by go_num, by rw [H.out]; simp [adl], by rw [H.out]; simp [adl]⟩
      case measure => simp [intOf]; omega
    · go_wp2
      go_ret2
      have e : List.take k s.data.toList = s.data.toList := List.take_of_length_le (by simp; omega)
      exact ⟨by simp [e], rfl⟩

set_option maxHeartbeats 400000 in
theorem check_ref (s : ByteArray) (w : World) (hs : s.size ≤ 140737488355328) :
    Calls Try.prog 13 #[.string s] w fun e w' => e = .returned (.tuple #[.int .i64 (chk s.data.toList).1, .int .i64 (chk s.data.toList).2]) ∧ w = w' := by
  go_enter Try.func13, Try.ntmps13
  go_wp2
  go_loop [4, 5, 6] (fun a b i => ∃ k : Nat, k ≤ s.size ∧ i = .int .i64 k ∧ a = .int .i64 (chk (s.data.toList.take k)).1 ∧ b = .int .i64 (chk (s.data.toList.take k)).2) (fun _ _ i => s.size - (intOf i).toNat)
  case atStart => exact ⟨0, Nat.zero_le _, rfl, rfl, rfl⟩
  case round =>
    obtain ⟨k, hk, rfl, rfl, rfl⟩ := hrel
    have hb := chk_lt (s.data.toList.take k)
    have hb1 := hb.1
    have hb2 := hb.2
    clear hb
    by_cases hlt : k < s.size
    · have H := Lib.hid (chk_take s k hlt)
      have hc := (s[k]).toNat_lt
      generalize hp : chk (s.data.toList.take k) = p at *
      have Hp := Lib.hid hp
      clear hp
      go_wp2
      go_round
      case rel => exact ⟨k + 1, by omega, by go_num, by rw [H.out]; simp [adl], by rw [H.out]; simp [adl]⟩
      case measure => simp [intOf]; omega
    · go_wp2
      go_ret2
      have e : List.take k s.data.toList = s.data.toList := List.take_of_length_le (by simp; omega)
      exact ⟨by simp [e], rfl⟩

end Go.Proofs.Ytgfiiccajellnaa.JW
