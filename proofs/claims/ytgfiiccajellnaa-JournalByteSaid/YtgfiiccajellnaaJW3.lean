/-
  journal.Record and the reference's two and Record, walked.
-/
import Derived.Test.YtgfiiccajellnaaJW1
import Derived.Test.YtgfiiccajellnaaJW2
import Derived.Lib.Builder
set_option linter.unusedVariables false
set_option linter.unusedSimpArgs false
namespace Go.Proofs.Ytgfiiccajellnaa.JW
open Go.RowKit Go.Proofs.Ytgfiiccajellnaa.JP Go.Proofs.YtgfiiccajellnaaW.PrintWords

/-- A record's bytes. -/
def recB (s : ByteArray) : ByteArray :=
  if 30000 < s.size then ⟨#[]⟩ else ((strOfNums (be 4 s.size) ++ s) ++ strOfNums (be 2 (chk s.data.toList).2)) ++ strOfNums (be 2 (chk s.data.toList).1)

theorem strOfNums_size (l : List Int) : (strOfNums l).size = l.length := by
  show ((l.map fun n => UInt8.ofNat n.toNat).toArray).size = l.length
  simp

set_option maxHeartbeats 1000000 in
set_option maxRecDepth 100000 in
theorem record (s : ByteArray) (w : World) (hs : s.size ≤ 140737488355328) :
    Calls Try.prog 17 #[.string s] w fun e w' => e = .returned (.string (recB s)) ∧ Below w.heap.size w w' := by
  by_cases hl : 30000 < s.size
  · have H := Lib.hid (show recB s = ⟨#[]⟩ by unfold recB; rw [if_pos hl])
    go_enter Try.func17, Try.ntmps17
    go_wp2
    go_ret
    rw [H.out]
    exact ⟨rfl, Below.refl _ _⟩
  · have H := Lib.hid (show recB s = _ by unfold recB; rw [if_neg hl])
    have hb := chk_lt s.data.toList
    have hb1 := hb.1
    have hb2 := hb.2
    clear hb
    have L4 := Lib.hid (show (strOfNums (be 4 s.size)).size = 4 by rw [strOfNums_size, be_length])
    have L2 := Lib.hid (show (strOfNums (be 2 (chk s.data.toList).2)).size = 2 by rw [strOfNums_size, be_length])
    have L1 := Lib.hid (show (strOfNums (be 2 (chk s.data.toList).1)).size = 2 by rw [strOfNums_size, be_length])
    go_enter Try.func17, Try.ntmps17
    go_wp2_with fail
    refine (check s w hs).mono ?_
    rintro e w1 ⟨rfl, rfl⟩
    go_wp2_with fail
    have l4 := Nat.le_of_eq L4.out
    have l2 := Nat.le_of_eq L2.out
    have l1 := Nat.le_of_eq L1.out
    refine (bytes s.size 4 _ (by omega) (by omega) (by omega) (by omega)).mono ?_
    rintro e w1 ⟨rfl, hb1⟩
    rw [show (4 : Int).toNat = 4 from rfl]
    generalize strOfNums (be 4 s.size) = x4 at *
    go_wp2_with fail
    refine (bytes _ 2 _ (by omega) (by omega) (by omega) (by omega)).mono ?_
    rintro e w2 ⟨rfl, hb2'⟩
    rw [show (2 : Int).toNat = 2 from rfl]
    generalize strOfNums (be 2 (chk s.data.toList).2) = x2 at *
    go_wp2_with fail
    refine (bytes _ 2 _ (by omega) (by omega) (by omega) (by omega)).mono ?_
    rintro e w3 ⟨rfl, hb3⟩
    rw [show (2 : Int).toNat = 2 from rfl]
    generalize strOfNums (be 2 (chk s.data.toList).1) = x1 at *
    go_wp2_with fail
    go_ret
    rw [H.out]
    exact ⟨rfl, (hb1.trans (hb2'.mono hb1.size)).trans (hb3.mono (Nat.le_trans hb1.size hb2'.size))⟩


set_option maxHeartbeats 1000000 in
set_option maxRecDepth 100000 in
theorem two (n : Int) (w : World) (hn : 0 ≤ n) (hn2 : n < 65536) :
    Calls Try.prog 23 #[.int .i64 n] w fun e w' => e = .returned (.string (strOfNums (be 2 n))) ∧ Below w.heap.size w w' := by
  have H := Lib.hid (show strOfNums (be 2 n) = strOfNums [n / 256, n % 256] by
    congr 1
    simp only [be]
    congr 1
    · omega
    · congr 1; omega)
  rw [H.out]
  have hcv := run_convert_bytes_arg (w.alloc (.cells #[.int .u8 (n / 256), .int .u8 (n % 256)] 5)) 37 5 Try.underlying37 Try.underlying5 w.heap.size 0 2 2 [n / 256, n % 256] rfl (fun i hi => by match i, hi with | 0, _ => exact Lib.cell_of_heap (heap_alloc_new w _) 0 | 1, _ => exact Lib.cell_of_heap (heap_alloc_new w _) 1) 9 Try.underlying9
  go_enter Try.func23, Try.ntmps23
  go_wp2
  go_ret
  exact ⟨rfl, (Below.refl _ _).alloc (Nat.le_refl _) _⟩

theorem be4 (n : Int) (h0 : 0 ≤ n) (h : n < 65536) : strOfNums (be 4 n) = (⟨#[0, 0]⟩ : ByteArray) ++ strOfNums (be 2 n) := by
  have e : be 4 n = [0, 0] ++ be 2 n := by
    simp only [be]
    congr 1
    · omega
    · congr 1; omega
  rw [e]
  simp [strOfNums]
  rfl

set_option maxHeartbeats 1000000 in
set_option maxRecDepth 100000 in
theorem record_ref (s : ByteArray) (w : World) (hs : s.size ≤ 140737488355328) :
    Calls Try.prog 18 #[.string s] w fun e w' => e = .returned (.string (recB s)) ∧ Below w.heap.size w w' := by
  by_cases hl : 30000 < s.size
  · have H := Lib.hid (show recB s = ⟨#[]⟩ by unfold recB; rw [if_pos hl])
    go_enter Try.func18, Try.ntmps18
    go_wp2
    go_ret
    rw [H.out]
    exact ⟨rfl, Below.refl _ _⟩
  · have H := Lib.hid (show recB s = ((((⟨#[0, 0]⟩ : ByteArray) ++ strOfNums (be 2 s.size)) ++ s) ++ strOfNums (be 2 (chk s.data.toList).2)) ++ strOfNums (be 2 (chk s.data.toList).1) by unfold recB; rw [if_neg hl, be4 _ (by omega) (by omega)])
    have hb := chk_lt s.data.toList
    have hb1 := hb.1
    have hb2 := hb.2
    clear hb
    have l4 : (strOfNums (be 2 s.size)).size ≤ 2 := by rw [strOfNums_size, be_length]; omega
    have l2 : (strOfNums (be 2 (chk s.data.toList).2)).size ≤ 2 := by rw [strOfNums_size, be_length]; omega
    have l1 : (strOfNums (be 2 (chk s.data.toList).1)).size ≤ 2 := by rw [strOfNums_size, be_length]; omega
    go_enter Try.func18, Try.ntmps18
    go_wp2_with fail
    refine (check_ref s w hs).mono ?_
    rintro e w1 ⟨rfl, rfl⟩
    go_wp2_with fail
    refine (two s.size _ (by omega) (by omega)).mono ?_
    rintro e w1 ⟨rfl, hb1⟩
    generalize strOfNums (be 2 s.size) = x4 at *
    go_wp2_with fail
    refine (two _ _ (by omega) (by omega)).mono ?_
    rintro e w2 ⟨rfl, hb2'⟩
    generalize strOfNums (be 2 (chk s.data.toList).2) = x2 at *
    go_wp2_with fail
    refine (two _ _ (by omega) (by omega)).mono ?_
    rintro e w3 ⟨rfl, hb3⟩
    generalize strOfNums (be 2 (chk s.data.toList).1) = x1 at *
    go_wp2_with fail
    go_ret
    rw [H.out]
    exact ⟨rfl, (hb1.trans (hb2'.mono hb1.size)).trans (hb3.mono (Nat.le_trans hb1.size hb2'.size))⟩

end Go.Proofs.Ytgfiiccajellnaa.JW
