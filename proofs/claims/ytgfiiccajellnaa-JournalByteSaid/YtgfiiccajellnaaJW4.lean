/-
  journal.one and journal.Decode and the reference's Decode, walked.
-/
import Derived.Test.YtgfiiccajellnaaJW3
import Derived.WalkSpells
import Derived.IntWalk
import Derived.Deep.RegionWith
import Derived.Deep.RegionHeld3
set_option linter.unusedVariables false
set_option linter.unusedSimpArgs false
namespace Go.Proofs.Ytgfiiccajellnaa.JW
open Go.RowKit Go.Proofs.Ytgfiiccajellnaa.JP Go.Proofs.YtgfiiccajellnaaW.PrintWords

/-- The first record: its text, how long it is, or what is wrong. -/
def oneB (s : ByteArray) : ByteArray × Nat × Nat :=
  if s.size < 4 then (⟨#[]⟩, 0, 250)
  else if 30000 < num (s.extract 0 4).data.toList then (⟨#[]⟩, 0, 251)
  else if s.size < 4 + num (s.extract 0 4).data.toList + 4 then (⟨#[]⟩, 0, 250)
  else if (s.extract 0 (4 + num (s.extract 0 4).data.toList + 4)).toList = (recB (s.extract 4 (4 + num (s.extract 0 4).data.toList))).toList then
    (s.extract 4 (4 + num (s.extract 0 4).data.toList), 4 + num (s.extract 0 4).data.toList + 4, 0)
  else (⟨#[]⟩, 0, 251)

set_option maxHeartbeats 1000000 in
set_option maxRecDepth 100000 in
theorem one1 (s : ByteArray) (w : World) (hs : s.size ≤ 140737488355328) (h1 : s.size < 4) :
    Calls Try.prog 19 #[.string s] w fun e w' => e = .returned (.tuple #[.string ⟨#[]⟩, .int .i64 0, .int .i64 250]) ∧ Below w.heap.size w w' := by
  go_enter Try.func19, Try.ntmps19
  go_wp2
  go_ret3
  exact ⟨rfl, Below.refl _ _⟩

set_option maxHeartbeats 1000000 in
set_option maxRecDepth 100000 in
theorem one2 (s : ByteArray) (w : World) (hs : s.size ≤ 140737488355328) (h1 : ¬ s.size < 4) (hsz : (s.extract 0 4).size ≤ 7) (h2 : 30000 < num (s.extract 0 4).data.toList) :
    Calls Try.prog 19 #[.string s] w fun e w' => e = .returned (.tuple #[.string ⟨#[]⟩, .int .i64 0, .int .i64 251]) ∧ Below w.heap.size w w' := by
  go_enter Try.func19, Try.ntmps19
  go_wp2_with fail
  refine (number _ _ hsz).mono ?_
  rintro e w1 ⟨rfl, rfl⟩
  generalize num (s.extract 0 4).data.toList = n at *
  go_wp2
  go_ret3
  exact ⟨rfl, Below.refl _ _⟩

set_option maxHeartbeats 1000000 in
set_option maxRecDepth 100000 in
theorem one3 (s : ByteArray) (w : World) (hs : s.size ≤ 140737488355328) (h1 : ¬ s.size < 4) (hsz : (s.extract 0 4).size ≤ 7) (h2 : ¬ 30000 < num (s.extract 0 4).data.toList) (h3 : s.size < 4 + num (s.extract 0 4).data.toList + 4) :
    Calls Try.prog 19 #[.string s] w fun e w' => e = .returned (.tuple #[.string ⟨#[]⟩, .int .i64 0, .int .i64 250]) ∧ Below w.heap.size w w' := by
  go_enter Try.func19, Try.ntmps19
  go_wp2_with fail
  refine (number _ _ hsz).mono ?_
  rintro e w1 ⟨rfl, rfl⟩
  generalize num (s.extract 0 4).data.toList = n at *
  go_wp2
  go_ret3
  exact ⟨rfl, Below.refl _ _⟩

set_option maxHeartbeats 1000000 in
set_option maxRecDepth 100000 in
theorem one4 (s : ByteArray) (w : World) (hs : s.size ≤ 140737488355328) (n : Nat) (hn : num (s.extract 0 4).data.toList = n) (h1 : ¬ s.size < 4) (hsz : (s.extract 0 4).size ≤ 7) (h2 : ¬ 30000 < n) (h3 : ¬ s.size < 4 + n + 4) (h4 : (s.extract 0 (4 + n + 4)).toList = (recB (s.extract 4 (4 + n))).toList) :
    Calls Try.prog 19 #[.string s] w fun e w' => e = .returned (.tuple #[.string (s.extract 4 (4 + n)), .int .i64 (4 + n + 4), .int .i64 0]) ∧ Below w.heap.size w w' := by
  have HN := Lib.hid hn
  have H4 := Lib.hid h4
  clear hn h4
  go_enter Try.func19, Try.ntmps19
  go_wp2_with fail
  refine (number _ _ hsz).mono ?_
  rintro e w1 ⟨rfl, rfl⟩
  rw [HN.out]
  have hs2 : (s.extract 4 (4 + n)).size ≤ 140737488355328 := by simp; omega
  have T : ((s.extract 0 (4 + n + 4)).toList == (recB (s.extract 4 (4 + n))).toList) = true := by rw [H4.out]; simp
  have HT := Lib.hid T
  clear T
  generalize hr : recB (s.extract 4 (4 + n)) = r at *
  have HR := Lib.hid hr
  clear hr
  go_wp2_with fail
  have T := HT.out
  have b1 : (4 + (n : Int) + 4) ≤ (s.size : Int) := by omega
  have b2 : 0 ≤ (4 + (n : Int) + 4) := by omega
  have b3 : (4 + (n : Int) + 4).toNat = 4 + n + 4 := by omega
  have b4 : IntKind.i64.wrap (4 + (n : Int)) = 4 + (n : Int) := IntWalk.i64_in _ (by omega)
  have b5 : IntKind.i64.wrap (4 + (n : Int) + 4) = 4 + (n : Int) + 4 := IntWalk.i64_in _ (by omega)
  go_region_held3 (fun w' : World => True) (exact trivial) (first | (go_at_call 17; refine (record _ _ hs2).mono ?_; rw [HR.out]; intro e w1 hh; obtain ⟨rfl, hb1⟩ := hh))
  clear b1 b2 b3 b4 b5
  go_wp2
  go_ret3
  exact ⟨rfl, (Below.drew (Below.refl _ _)).trans hb1⟩

set_option maxHeartbeats 1000000 in
set_option maxRecDepth 100000 in
theorem one5 (s : ByteArray) (w : World) (hs : s.size ≤ 140737488355328) (n : Nat) (hn : num (s.extract 0 4).data.toList = n) (h1 : ¬ s.size < 4) (hsz : (s.extract 0 4).size ≤ 7) (h2 : ¬ 30000 < n) (h3 : ¬ s.size < 4 + n + 4) (h4 : ¬ (s.extract 0 (4 + n + 4)).toList = (recB (s.extract 4 (4 + n))).toList) :
    Calls Try.prog 19 #[.string s] w fun e w' => e = .returned (.tuple #[.string ⟨#[]⟩, .int .i64 0, .int .i64 251]) ∧ Below w.heap.size w w' := by
  have HN := Lib.hid hn
  have H4 := Lib.hid h4
  clear hn h4
  go_enter Try.func19, Try.ntmps19
  go_wp2_with fail
  refine (number _ _ hsz).mono ?_
  rintro e w1 ⟨rfl, rfl⟩
  rw [HN.out]
  have hs2 : (s.extract 4 (4 + n)).size ≤ 140737488355328 := by simp; omega
  have T : ((s.extract 0 (4 + n + 4)).toList == (recB (s.extract 4 (4 + n))).toList) = false := by simpa using H4.out
  have HT := Lib.hid T
  clear T
  generalize hr : recB (s.extract 4 (4 + n)) = r at *
  have HR := Lib.hid hr
  clear hr
  go_wp2_with fail
  have T := HT.out
  have b1 : (4 + (n : Int) + 4) ≤ (s.size : Int) := by omega
  have b2 : 0 ≤ (4 + (n : Int) + 4) := by omega
  have b3 : (4 + (n : Int) + 4).toNat = 4 + n + 4 := by omega
  have b4 : IntKind.i64.wrap (4 + (n : Int)) = 4 + (n : Int) := IntWalk.i64_in _ (by omega)
  have b5 : IntKind.i64.wrap (4 + (n : Int) + 4) = 4 + (n : Int) + 4 := IntWalk.i64_in _ (by omega)
  go_region_held3 (fun w' : World => True) (exact trivial) (first | (go_at_call 17; refine (record _ _ hs2).mono ?_; rw [HR.out]; intro e w1 hh; obtain ⟨rfl, hb1⟩ := hh))
  clear b1 b2 b3 b4 b5
  go_wp2
  go_ret3
  exact ⟨rfl, (Below.drew (Below.refl _ _)).trans hb1⟩


theorem one (s : ByteArray) (w : World) (hs : s.size ≤ 140737488355328) :
    Calls Try.prog 19 #[.string s] w fun e w' => e = .returned (.tuple #[.string (oneB s).1, .int .i64 (oneB s).2.1, .int .i64 (oneB s).2.2]) ∧ Below w.heap.size w w' := by
  unfold oneB
  by_cases h1 : s.size < 4
  · rw [if_pos h1]; exact one1 s w hs h1
  · have hsz : (s.extract 0 4).size ≤ 7 := by simp; omega
    rw [if_neg h1]
    by_cases h2 : 30000 < num (s.extract 0 4).data.toList
    · rw [if_pos h2]; exact one2 s w hs h1 hsz h2
    · rw [if_neg h2]
      by_cases h3 : s.size < 4 + num (s.extract 0 4).data.toList + 4
      · rw [if_pos h3]; exact one3 s w hs h1 hsz h2 h3
      · rw [if_neg h3]
        by_cases h4 : (s.extract 0 (4 + num (s.extract 0 4).data.toList + 4)).toList = (recB (s.extract 4 (4 + num (s.extract 0 4).data.toList))).toList
        · rw [if_pos h4]; exact one4 s w hs _ rfl h1 hsz h2 h3 h4
        · rw [if_neg h4]; exact one5 s w hs _ rfl h1 hsz h2 h3 h4

end Go.Proofs.Ytgfiiccajellnaa.JW
