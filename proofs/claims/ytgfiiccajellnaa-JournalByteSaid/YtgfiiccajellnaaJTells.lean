/-
  The law JournalTells, walked.
-/
import Derived.Test.YtgfiiccajellnaaJL1
import Derived.Test.YtgfiiccajellnaaJW9
set_option linter.unusedVariables false
set_option linter.unusedSimpArgs false
namespace Go.Proofs.Ytgfiiccajellnaa.JW
open Go.RowKit Go.Proofs.Ytgfiiccajellnaa.JP Go.Proofs.YtgfiiccajellnaaW.PrintWords

/-- The text at a place, in a later world. -/
theorem text_at {w wr : World} {A : Option Addr} {l : List ByteArray} (h : Kd.C Kd.string w A l.length l) (hb : Below w.heap.size w wr) (j : Nat) (hlt : j < l.length) :
    ∃ ad x, A = some ad ∧ wr.cell? (ad.add j) = some (.string x) ∧ l[j]? = some x := by
  obtain ⟨ad, e1, hx⟩ := Kd.at_string h (j : Int) (by omega) (by omega)
  rw [Int.toNat_natCast] at hx
  refine ⟨ad, _, e1, (hb.cell (World.block_lt_of_cell? w _ hx)).trans hx, ?_⟩
  simp [rdOf, List.getD_eq_getElem?_getD, hlt]

/-- Of at most so many bytes, as far as j. -/
theorem few_succ {l : List ByteArray} {m j : Nat} {x : ByteArray} (h : ∀ y ∈ l.take j, y.size ≤ m) (hx : l[j]? = some x) (hm : x.size ≤ m) : ∀ y ∈ l.take (j + 1), y.size ≤ m := by
  obtain ⟨hlt, hj⟩ := List.getElem?_eq_some_iff.1 hx
  rw [List.take_succ_eq_append_getElem hlt, hj]
  intro y hy
  rcases List.mem_append.1 hy with hy | hy
  · exact h y hy
  · simp at hy; subst hy; exact hm

set_option maxHeartbeats 2000000 in
set_option maxRecDepth 100000 in
theorem tells0 (A : Option Addr) (c : Nat) (l : List ByteArray) (s : ByteArray) (w : World) (h : 40 < l.length ∨ 5000 < s.size) :
    Calls Try.prog 3 #[.slice A l.length c, .string s] w fun e w' => e = .returned (.bool true) ∧ Below w.heap.size w w' := by
  by_cases h1 : 40 < l.length
  all_goals
    have h2 : ¬ 40 < l.length → 5000 < s.size := fun k => h.resolve_left k
    clear h
    go_enter Try.func3, Try.ntmps3
    first | have h3 := h2 h1 | skip
    go_wp2_with fail
    refine (fixed w).mono ?_
    rintro e w1 ⟨rfl, hb1⟩
    go_wp2
    go_ret
    exact ⟨rfl, hb1⟩

set_option maxHeartbeats 4000000 in
set_option maxRecDepth 100000 in
theorem tells1 (A : Option Addr) (c : Nat) (l : List ByteArray) (s : ByteArray) (w : World) (hC : Kd.C Kd.string w A l.length l) (hc : l.length ≤ c) (h1 : l.length ≤ 40) (h2 : s.size ≤ 5000) :
    Calls Try.prog 3 #[.slice A l.length c, .string s] w fun e w' => e = .returned (.bool true) ∧ Below w.heap.size w w' := by
  have HC := Aside0.mk hC
  have Hc := Aside0.mk hc
  clear hC hc
  go_enter Try.func3, Try.ntmps3
  go_wp2
  go_loopg [5] l.length (fun g v w' => ∃ j : Nat, v = .int .i64 j ∧ Aside0 (g + j = l.length) ∧ Aside0 (∀ x ∈ l.take j, x.size ≤ 2000) ∧ Aside0 (w = w'))
  case atStart => exact ⟨0, rfl, ⟨by omega⟩, ⟨by simp⟩, ⟨rfl⟩⟩
  case round =>
    obtain ⟨j, rfl, HG, HK, HW⟩ := hrel
    have hj := HG.out
    obtain rfl := HW.out
    clear HW
    by_cases hlt : j < l.length
    · obtain ⟨ad, x, rfl, hx, hxj⟩ := text_at HC.out (Below.refl _ _) j hlt
      have HX := Aside0.mk hxj
      clear hxj
      by_cases hbig : 2000 < x.size
      · go_wp2_with fail
        refine (fixed w).mono ?_
        rintro e w1 ⟨rfl, hb1⟩
        go_wp2
        go_ret
        exact ⟨rfl, hb1⟩
      · have HK2 := Aside0.mk (few_succ HK.out HX.out (Nat.le_of_not_lt hbig))
        have HG2 : Aside0 (gk - 1 + (j + 1) = l.length) := ⟨by omega⟩
        go_wp2
        go_roundg (gk - 1)
        case measure => omega
        case rel => exact ⟨j + 1, by go_num, HG2, HK2, ⟨rfl⟩⟩
    · have HS : Aside0 (∀ x ∈ l, x.size ≤ 140737488355328) := ⟨fun x hx => by
        have := HK.out x (by rw [List.take_of_length_le (by omega)]; exact hx)
        omega⟩
      clear HK
      have b1 := (decB_told (s.size + 1) s 0 (Nat.zero_le _) (by omega)).2.2.2.2.2.1
      go_wp2_with fail
      refine (decode s w (by omega)).mono ?_
      rintro e w1 ⟨v1, rfl, ho1, hb1⟩
      obtain ⟨A1, c1, rfl, hl1, hc1⟩ := Kd.R_reads ho1
      have HC1 := Aside0.mk hc1
      have HB1 := Aside0.mk hb1
      clear ho1 hl1 hc1 hb1
      go_wp2_with fail
      refine (decode_ref s w1 (by omega)).mono ?_
      rintro e w2 ⟨v2, rfl, ho2, hb2⟩
      obtain ⟨A2, c2, rfl, hl2, hc2⟩ := Kd.R_reads ho2
      have HC2 := Aside0.mk hc2
      have HC12 := Aside0.mk (Kd.C_below HC1.out hb2)
      have HB2 := Aside0.mk (HB1.out.trans (hb2.mono HB1.out.size))
      clear ho2 hl2 hc2 hb2 HB1 HC1
      go_wp2_with fail
      refine (check s w2 (by omega)).mono ?_
      rintro e w3 ⟨rfl, rfl⟩
      go_wp2_with fail
      refine (check_ref s w2 (by omega)).mono ?_
      rintro e w3 ⟨rfl, rfl⟩
      generalize chk s.data.toList = p at *
      go_wp2_with fail
      refine (fixed w2).mono ?_
      rintro e w3 ⟨rfl, hb3⟩
      have HC3 := Aside0.mk (Kd.C_below HC2.out hb3)
      have HC13 := Aside0.mk (Kd.C_below HC12.out hb3)
      have HB3 := Aside0.mk (HB2.out.trans (hb3.mono HB2.out.size))
      clear HC2 HC12 HB2 hb3
      go_wp2_with fail
      refine (encode A c l w3 (Kd.C_below HC.out HB3.out) Hc.out (by omega) HS.out).mono ?_
      rintro e w4 ⟨rfl, hb4⟩
      have HC4 := Aside0.mk (Kd.C_below HC3.out hb4)
      have HC14 := Aside0.mk (Kd.C_below HC13.out hb4)
      have HB4 := Aside0.mk (HB3.out.trans (hb4.mono HB3.out.size))
      clear HC3 HC13 HB3 hb4
      go_wp2_with fail
      refine (encode_ref A c l w4 (Kd.C_below HC.out HB4.out) Hc.out (by omega) HS.out).mono ?_
      rintro e w5 ⟨rfl, hb5⟩
      have HC5 := Aside0.mk (Kd.C_below HC4.out hb5)
      have HC15 := Aside0.mk (Kd.C_below HC14.out hb5)
      have HB5 := Aside0.mk (HB4.out.trans (hb5.mono HB4.out.size))
      clear HC4 HC14 HB4 hb5
      go_wp2_with fail
      refine (texts A1 A2 c1 c2 _ _ w5 HC15.out HC5.out (by omega) (by omega)).mono ?_
      rintro e w6 ⟨rfl, hb6⟩
      have HB6 := Aside0.mk (HB5.out.trans (hb6.mono HB5.out.size))
      clear HC5 HC15 HB5 hb6
      rw [decide_eq_true rfl]
      generalize decB (s.size + 1) s 0 = D at *
      go_wp2_with fail
      refine (record s w6 (by omega)).mono ?_
      rintro e w7 ⟨rfl, hb7⟩
      have HB7 := Aside0.mk (HB6.out.trans (hb7.mono HB6.out.size))
      clear HB6 hb7
      go_wp2_with fail
      refine (record_ref s w7 (by omega)).mono ?_
      rintro e w8 ⟨rfl, hb8⟩
      have HB8 := Aside0.mk (HB7.out.trans (hb8.mono HB7.out.size))
      clear HB7 hb8
      go_wp2
      go_ret
      exact ⟨rfl, HB8.out⟩


theorem tells (w : World) (A : Option Addr) (c : Nat) (l : List ByteArray) (hc : l.length ≤ c) (hC : Kd.C Kd.string w A l.length l) (hz : ∀ x ∈ l, x.size ≤ maxLen) (s : ByteArray) (hs : s.size ≤ 140737488351232) :
    Calls Try.prog 3 #[.slice A l.length c, .string s] w fun e w' => e = .returned (.bool true) ∧ Below w.heap.size w w' := by
  by_cases h : 40 < l.length ∨ 5000 < s.size
  · exact tells0 A c l s w h
  · exact tells1 A c l s w hC hc (by omega) (by omega)

end Go.Proofs.Ytgfiiccajellnaa.JW
