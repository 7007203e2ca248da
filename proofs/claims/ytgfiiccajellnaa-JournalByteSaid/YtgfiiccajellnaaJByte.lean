/-
  The law JournalByte, walked.
-/
import Derived.Test.YtgfiiccajellnaaJL3
import Derived.Test.YtgfiiccajellnaaJTells
import Derived.OpenShut
set_option linter.unusedVariables false
set_option linter.unusedSimpArgs false
namespace Go.Proofs.Ytgfiiccajellnaa.JW
open Go.RowKit Go.Proofs.Ytgfiiccajellnaa.JP Go.Proofs.YtgfiiccajellnaaW.PrintWords

theorem box_below (w : World) (o o' : Obj) (n : Nat) : Below w.heap.size w (((w.alloc o).alloc o').drewN n) :=
  pw_below_drewN (((Below.refl _ _).alloc (Nat.le_refl _) _).alloc (by simp) _) n
theorem box_cell (w : World) (o : Obj) (x y : Value) (T n : Nat) (w1 : World) (hb : Below (((w.alloc o).alloc (.cells #[x, y] T)).drewN n).heap.size (((w.alloc o).alloc (.cells #[x, y] T)).drewN n) w1) :
    w1.cell? ⟨w.heap.size + 1, 1, none⟩ = some y := by
  have h : (((w.alloc o).alloc (.cells #[x, y] T)).drewN n).cell? ⟨w.heap.size + 1, 1, none⟩ = some y := by
    have e : (((w.alloc o).alloc (.cells #[x, y] T)).drewN n).heap[w.heap.size + 1]? = some (.cells #[x, y] T (0, 0)) := by
      have := heap_alloc_new (w.alloc o) (.cells #[x, y] T)
      simpa using this
    exact Lib.cell_of_heap e 1
  exact (hb.cell (World.block_lt_of_cell? _ _ h)).trans h

set_option maxHeartbeats 2000000 in
set_option maxRecDepth 100000 in
theorem byte0 (a b : ByteArray) (k n : Int) (w : World) (hn : -9223372036854775808 ≤ n ∧ n ≤ 9223372036854775807) (h : 2000 < a.size ∨ ¬ 2000 < a.size ∧ 2000 < b.size ∨ ¬ 2000 < a.size ∧ ¬ 2000 < b.size ∧ n < 0 ∨ ¬ 2000 < a.size ∧ ¬ 2000 < b.size ∧ ¬ n < 0 ∧ 255 < n) :
    Calls Try.prog 7 #[.agg #[.string a, .string b], .agg #[.int .i64 k, .int .i64 n]] w fun e w' => e = .returned (.bool true) ∧ Below w.heap.size w w' := by
  rcases h with h1 | ⟨h1, h2⟩ | ⟨h1, h2, h3⟩ | ⟨h1, h2, h3, h4⟩
  all_goals
    go_enter Try.func7, Try.ntmps7
    go_wp2_with fail
    go_quiet (fail)
    go_wp2_with fail
    refine (fixed _).mono ?_
    rintro e w1 ⟨rfl, hb1⟩
    have hc := box_cell w _ _ _ _ _ w1 hb1
    have HB1 := Aside0.mk ((box_below w _ _ _).trans (hb1.mono (box_below w _ _ _).size))
    clear hb1
    go_wp2_with fail
    refine (fixed _).mono ?_
    rintro e w2 ⟨rfl, hb2⟩
    have HB2 := Aside0.mk (HB1.out.trans (hb2.mono HB1.out.size))
    clear HB1 hb2
    go_wp2
    go_ret
    exact ⟨rfl, HB2.out⟩

theorem turned_list (t : ByteArray) (K : Nat) (n : Int) (hK : K < t.size) :
    (t.extract 0 K ++ strOfNums [n] ++ t.extract (K + 1) t.size).data.toList = t.data.toList.set K (UInt8.ofNat n.toNat) := by
  have hl : t.data.toList.length = t.size := by simp
  rw [set_parts _ _ _ (by omega), toL_append, toL_append, toL_extract, toL_extract, strOfNums_data]
  rw [List.drop_zero, Nat.sub_zero, List.take_of_length_le (l := t.data.toList.drop (K + 1)) (by rw [List.length_drop, hl]; omega)]
  simp
theorem turned_ne (t : ByteArray) (K : Nat) (n : Int) (hK : K < t.size) (h0 : 0 ≤ n) (h1 : n ≤ 255) (hc : ¬ (t[K].toNat : Int) = n) :
    t.data.toList[K]'(by simpa using hK) ≠ UInt8.ofNat n.toNat := by
  intro h
  apply hc
  have e : t[K] = t.data.toList[K]'(by simpa using hK) := rfl
  rw [e, h, UInt8.toNat_ofNat', Nat.mod_eq_of_lt (by omega)]
  omega

set_option maxHeartbeats 4000000 in
set_option maxRecDepth 100000 in
theorem byte1 (a b : ByteArray) (k n : Int) (w : World) (hn1 : 0 ≤ n) (hn2 : n ≤ 255) (h1 : ¬ 2000 < a.size) (h2 : ¬ 2000 < b.size) (hk : -9223372036854775808 ≤ k ∧ k ≤ 9223372036854775807) :
    Calls Try.prog 7 #[.agg #[.string a, .string b], .agg #[.int .i64 k, .int .i64 n]] w fun e w' => e = .returned (.bool true) ∧ Below w.heap.size w w' := by
  have hsa := recB_size a (by omega)
  have hsb := recB_size b (by omega)
  have HSA := Lib.hid hsa
  have HSB := Lib.hid hsb
  have bsa : (recB a).size ≤ 2008 := by omega
  have bsb : (recB b).size ≤ 2008 := by omega
  clear hsa hsb
  go_enter Try.func7, Try.ntmps7
  go_wp2_with fail
  go_quiet (fail)
  go_wp2_with fail
  refine (fixed _).mono ?_
  rintro e w1 ⟨rfl, hb1⟩
  have hc := box_cell w _ _ _ _ _ w1 hb1
  have HB1 := Aside0.mk ((box_below w _ _ _).trans (hb1.mono (box_below w _ _ _).size))
  clear hb1
  go_wp2_with fail
  refine (record a _ (by omega)).mono ?_
  rintro e w2 ⟨rfl, hb2⟩
  have HB2 := Aside0.mk (HB1.out.trans (hb2.mono HB1.out.size))
  clear HB1 hb2 hc
  go_wp2_with fail
  refine (record b _ (by omega)).mono ?_
  rintro e w3 ⟨rfl, hb3⟩
  have HB3 := Aside0.mk (HB2.out.trans (hb3.mono HB2.out.size))
  clear HB2 hb3
  by_cases hk1 : k < 4
  · go_wp2
    go_ret
    exact ⟨rfl, HB3.out⟩
  · by_cases hk2 : ((recB b).size : Int) ≤ k
    · have t1 : decide (k < 4) = false := decide_eq_false hk1
      go_wp2
      go_ret
      exact ⟨rfl, HB3.out⟩
    · obtain ⟨K, rfl⟩ : ∃ K : Nat, k = (K : Int) := ⟨k.toNat, by omega⟩
      have t1 : decide ((K : Int) < 4) = false := decide_eq_false hk1
      have t2 : decide (((recB b).size : Int) ≤ (K : Int)) = false := decide_eq_false hk2
      have t3 : decide ((recB b).size ≤ K) = false := decide_eq_false (by omega)
      have hK : K < (recB b).size := by omega
      have hd : (n : Int) % 256 = n := by omega
      by_cases hcc : ((recB b)[K].toNat : Int) = n
      · have t4 : (((recB b)[K].toNat : Int) == n) = true := by simpa using hcc
        have t5 : (((recB b)[K].toNat : Int) == n % 256) = true := by rw [hd]; exact t4
        clear hcc hd
        go_wp2
        go_ret
        exact ⟨rfl, HB3.out⟩
      · have t4 : (((recB b)[K].toNat : Int) == n) = false := by simpa using hcc
        have t5 : (((recB b)[K].toNat : Int) == n % 256) = false := by rw [hd]; exact t4
        have HCC := Lib.hid hcc
        clear hcc hd
        have q1 : IntKind.i64.wrap ((K : Int) + 1) = (K : Int) + 1 := IntWalk.i64_in _ (by omega)
        have q2 : ((K : Int) + 1).toNat = K + 1 := by omega
        have q3 : (K : Int) + 1 ≤ ((recB b).size : Int) := by omega
        have q4 : (0 : Int) ≤ (K : Int) + 1 := by omega
        have q5 : (K : Int) ≤ ((recB b).size : Int) := by omega
        have hcv := run_convert_bytes_arg ((w3.alloc (.cells #[.int .u8 n] 5)).drew) 37 5 Try.underlying37 Try.underlying5 w3.heap.size 0 1 1 [n] rfl (fun i hi => by match i, hi with | 0, _ => exact Lib.cell_of_heap (heap_alloc_new w3 _) 0) 9 Try.underlying9
        have z1 : (strOfNums [n]).size = 1 := by rw [strOfNums_size]; rfl
        have z2 : min K (recB b).size = K := by omega
        have z3 : ¬ 9223372036854775807 < K + 1 := by omega
        have z4 : ¬ 9223372036854775807 < K + 1 + ((recB b).size - (K + 1)) := by omega
        go_wp2_with fail
        go_region
        have hbc := turned_list (recB b) K n hK
        have hne := turned_ne (recB b) K n hK hn1 hn2 HCC.out
        have hdt := dec_turned a b _ K _ (by omega) (by omega) (by omega) (by simpa using hK) hbc hne
        have HSU : ((recB b).extract 0 K ++ strOfNums [n] ++ (recB b).extract (K + 1) (recB b).size).size ≤ 2008 := by
          simp only [ByteArray.size_append, z1]
          simp
          omega
        clear q1 q2 q3 q4 q5 hcv z1 z2 z3 z4 hbc hne t1 t2 t3 t4 t5
        have HB4 := Aside0.mk (HB3.out.trans (((Below.refl w3.heap.size w3).alloc (Nat.le_refl _) (.cells #[.int .u8 n] 5)).drew.mono HB3.out.size))
        generalize (w3.alloc (Obj.cells #[Value.int IntKind.u8 n] 5)).drew = w4 at *
        generalize (recB b).extract 0 K ++ strOfNums [n] ++ (recB b).extract (K + 1) (recB b).size = u at *
        have HD := Lib.hid hdt
        clear hdt HB3
        go_wp2_with fail
        refine (decode (recB a ++ u) w4 (by rw [ByteArray.size_append]; omega)).mono ?_
        rintro e w5 ⟨v, rfl, ho, hb5⟩
        rw [HD.out] at ho
        rw [HD.out]
        obtain ⟨A5, c5, rfl, hl5, hc5⟩ := Kd.R_reads ho
        obtain ⟨ad, e1, hx⟩ := Kd.at_string hc5 0 (by omega) (by simp)
        cases e1
        have HB5 := Aside0.mk (HB4.out.trans (hb5.mono HB4.out.size))
        clear ho hl5 hc5 hb5 HB4 HD
        rw [show rdOf ByteArray.empty [a] 0 = a from rfl, show (0 : Int).toNat = 0 from rfl] at hx
        have hx2 : w5.cell? ad = some (.string a) := by simpa [Addr.add] using hx
        go_wp2
        go_ret
        exact ⟨rfl, HB5.out⟩

theorem byte (w : World) (a b : ByteArray) (k n : Int) (hk : (Lit.int .i64 k).wf = true) (hn : (Lit.int .i64 n).wf = true) :
    Calls Try.prog 7 #[.agg #[.string a, .string b], .agg #[.int .i64 k, .int .i64 n]] w fun e w' => e = .returned (.bool true) ∧ Below w.heap.size w w' := by
  have bk := bounds_i64 hk
  have bn := bounds_i64 hn
  by_cases h : 2000 < a.size ∨ ¬ 2000 < a.size ∧ 2000 < b.size ∨ ¬ 2000 < a.size ∧ ¬ 2000 < b.size ∧ n < 0 ∨ ¬ 2000 < a.size ∧ ¬ 2000 < b.size ∧ ¬ n < 0 ∧ 255 < n
  · exact byte0 a b k n w bn h
  · exact byte1 a b k n w (by omega) (by omega) (by omega) (by omega) bk

end Go.Proofs.Ytgfiiccajellnaa.JW
