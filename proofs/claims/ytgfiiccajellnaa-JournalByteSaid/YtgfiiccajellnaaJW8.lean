/-
  The reference's Encode and Texts, walked.
-/
import Derived.Test.YtgfiiccajellnaaJW7
set_option linter.unusedVariables false
set_option linter.unusedSimpArgs false
namespace Go.Proofs.Ytgfiiccajellnaa.JW
open Go.RowKit Go.Proofs.Ytgfiiccajellnaa.JP Go.Proofs.YtgfiiccajellnaaW.PrintWords

set_option maxHeartbeats 2000000 in
set_option maxRecDepth 100000 in
theorem encode_ref (A0 : Option Addr) (c0 : Nat) (l : List ByteArray) (w : World) (hr0 : Kd.C Kd.string w A0 l.length l) (hc0 : l.length ≤ c0) (hlen : l.length ≤ 1000000) (hsz : ∀ x ∈ l, x.size ≤ 140737488355328) :
    Calls Try.prog 15 #[.slice A0 l.length c0] w fun e w' => e = .returned (.string (encB l)) ∧ Below w.heap.size w w' := by
  have HR0 := Aside0.mk hr0
  have HS := Aside0.mk hsz
  clear hr0 hc0 hsz
  go_enter Try.func15, Try.ntmps15
  go_wp2
  go_loopg [3, 4] l.length (fun g v3 v9 w' => ∃ j : Nat, v9 = .int .i64 j ∧ v3 = .string (encTo l j) ∧ Aside0 (g + j = l.length) ∧ Aside0 (∀ x ∈ l.take j, x.size ≤ 30000) ∧ Aside0 (Below w.heap.size w w'))
  case atStart => exact ⟨0, rfl, rfl, ⟨by omega⟩, ⟨by simp⟩, ⟨Below.refl _ _⟩⟩
  case round =>
    obtain ⟨j, rfl, rfl, HG, HK, HB⟩ := hrel
    have hj := HG.out
    by_cases hlt : j < l.length
    · obtain ⟨ad, e1, hx⟩ := Kd.at_string HR0.out (j : Int) (by omega) (by omega)
      cases e1
      replace hx := (HB.out.cell (World.block_lt_of_cell? w _ hx)).trans hx
      rw [Int.toNat_natCast] at hx
      have hmem : rdOf ByteArray.empty l (j : Int) ∈ l := by simp [rdOf, List.getD_eq_getElem?_getD, hlt]
      have hsx := HS.out _ hmem
      have HE := Aside0.mk (encTo_succ l j hlt)
      have HL := Aside0.mk (encB_long l j hlt)
      have HZ := encTo_size l j (by omega)
      have HK2 : 30000 < (rdOf ByteArray.empty l (j : Int)).size ∨ (rdOf ByteArray.empty l (j : Int)).size ≤ 30000 ∧ Aside0 (∀ x ∈ l.take (j + 1), x.size ≤ 30000) := by
        rcases Nat.lt_or_ge 30000 (rdOf ByteArray.empty l (j : Int)).size with h | h
        · exact .inl h
        · refine .inr ⟨h, ⟨fun x hx => ?_⟩⟩
          rw [List.take_succ_eq_append_getElem hlt, List.mem_append] at hx
          rcases hx with hx | hx
          · exact HK.out x hx
          · simp at hx
            subst hx
            simpa [rdOf, List.getD_eq_getElem?_getD, hlt] using h
      obtain ⟨x, hxx⟩ : ∃ x, rdOf ByteArray.empty l (j : Int) = x := ⟨_, rfl⟩
      rw [hxx] at hx hsx HE HL HK2
      clear hxx hmem
      rcases HK2 with hbig | ⟨hsm, HK2⟩
      · have HL2 := Aside0.mk (HL.out hbig)
        go_wp2
        go_ret
        rw [HL2.out]
        exact ⟨rfl, HB.out⟩
      · have hrs := recB_size_le x
        have HG2 : Aside0 (gk - 1 + (j + 1) = l.length) := ⟨by omega⟩
        go_wp2_with fail
        refine (record_ref x _ (by omega)).mono ?_
        rintro e w1 ⟨rfl, hb1⟩
        have HB2 := Aside0.mk (HB.out.trans (hb1.mono HB.out.size))
        clear HB hb1
        generalize recB x = r at *
        generalize encTo l j = acc at *
        have hsum : acc.size + r.size ≤ 9223372036854775807 := by omega
        go_wp2
        go_roundg (gk - 1)
        case measure => omega
        case rel => exact ⟨j + 1, by go_num, by rw [HE.out], HG2, HK2, HB2⟩
    · have hjl : j = l.length := by omega
      have HE : Aside0 (encTo l j = encB l) := ⟨by rw [hjl]; exact encTo_full l (by have := HK.out; rw [hjl, List.take_length] at this; exact this)⟩
      rw [HE.out]
      clear HE HK hjl
      go_wp2
      go_ret
      exact ⟨rfl, HB.out⟩

theorem take_agree (l m : List ByteArray) (j : Nat) (h : j < l.length) (h2 : j < m.length) (he : l.take j = m.take j) (hx : (rdOf ByteArray.empty l (j : Int)).toList = (rdOf ByteArray.empty m (j : Int)).toList) : l.take (j + 1) = m.take (j + 1) := by
  rw [List.take_succ_eq_append_getElem h, List.take_succ_eq_append_getElem h2, he]
  simp only [rdOf, List.getD_eq_getElem?_getD, Int.toNat_natCast, List.getElem?_eq_getElem h, List.getElem?_eq_getElem h2, Option.getD_some] at hx
  rw [ByteArray.toList_eq, ByteArray.toList_eq] at hx
  rw [Go.WideShapes.bytes_inj hx]
theorem not_agree (l m : List ByteArray) (j : Nat) (h : j < l.length) (h2 : j < m.length) (hx : ¬ (rdOf ByteArray.empty l (j : Int)).toList = (rdOf ByteArray.empty m (j : Int)).toList) : l ≠ m := by
  rintro rfl
  exact hx rfl

set_option maxHeartbeats 2000000 in
set_option maxRecDepth 100000 in
theorem texts (A0 A1 : Option Addr) (c0 c1 : Nat) (l m : List ByteArray) (w : World) (hr0 : Kd.C Kd.string w A0 l.length l) (hr1 : Kd.C Kd.string w A1 m.length m) (hlen : l.length ≤ 1000000000) (hlen1 : m.length ≤ 1000000000) :
    Calls Try.prog 16 #[.slice A0 l.length c0, .slice A1 m.length c1] w fun e w' => e = .returned (.bool (decide (l = m))) ∧ Below w.heap.size w w' := by
  have HR0 := Aside0.mk hr0
  have HR1 := Aside0.mk hr1
  clear hr0 hr1
  by_cases hll : l.length = m.length
  · have t0 : ((l.length : Int) != (m.length : Int)) = false := by simp [hll]
    have t1 : (l.length != m.length) = false := by simp [hll]
    have HLL := Aside0.mk hll
    clear hll
    go_enter Try.func16, Try.ntmps16
    go_wp2
    go_loopg [5] l.length (fun g v w' => ∃ j : Nat, v = .int .i64 j ∧ Aside0 (g + j = l.length) ∧ Aside0 (l.take j = m.take j) ∧ Aside0 (Below w.heap.size w w'))
    case atStart => exact ⟨0, rfl, ⟨by omega⟩, ⟨by simp⟩, ⟨Below.refl _ _⟩⟩
    case round =>
      obtain ⟨j, rfl, HG, HE, HB⟩ := hrel
      have hj := HG.out
      have hll := HLL.out
      by_cases hlt : j < l.length
      · have h2 : j < m.length := by omega
        obtain ⟨ad, e1, hx⟩ := Kd.at_string HR0.out (j : Int) (by omega) (by omega)
        cases e1
        obtain ⟨ad1, e2, hy⟩ := Kd.at_string HR1.out (j : Int) (by omega) (by omega)
        cases e2
        replace hx := (HB.out.cell (World.block_lt_of_cell? w _ hx)).trans hx
        replace hy := (HB.out.cell (World.block_lt_of_cell? w _ hy)).trans hy
        rw [Int.toNat_natCast] at hx hy
        clear hll
        have HG2 : Aside0 (gk - 1 + (j + 1) = l.length) := ⟨by omega⟩
        have b0 : (0 : Int) ≤ (j : Int) := by omega
        have b1 : (j : Int) < (l.length : Int) := by omega
        have b2 : (j : Int) < (m.length : Int) := by omega
        by_cases hc : (rdOf ByteArray.empty l (j : Int)).toList = (rdOf ByteArray.empty m (j : Int)).toList
        · have HE2 := Aside0.mk (take_agree l m j hlt h2 HE.out hc)
          have t2 : ((rdOf ByteArray.empty l (j : Int)).toList == (rdOf ByteArray.empty m (j : Int)).toList) = true := by simpa using hc
          clear hc
          generalize rdOf ByteArray.empty l (j : Int) = x at *
          generalize rdOf ByteArray.empty m (j : Int) = y at *
          go_wp2
          go_quiet (fail)
          go_wp2
          go_roundg (gk - 1)
          case measure => omega
          case rel => exact ⟨j + 1, by go_num, HG2, HE2, ⟨pw_below_drewN HB.out _⟩⟩
        · have HN := Aside0.mk (not_agree l m j hlt h2 hc)
          have t2 : ((rdOf ByteArray.empty l (j : Int)).toList == (rdOf ByteArray.empty m (j : Int)).toList) = false := by simpa using hc
          clear hc
          generalize rdOf ByteArray.empty l (j : Int) = x at *
          generalize rdOf ByteArray.empty m (j : Int) = y at *
          go_wp2
          go_quiet (fail)
          go_wp2
          go_ret
          exact ⟨by rw [decide_eq_false HN.out]; rfl, pw_below_drewN HB.out _⟩
      · have hjl : j = l.length := by omega
        have HN : Aside0 (l = m) := ⟨by have := HE.out; rw [hjl, List.take_length, hll, List.take_length] at this; exact this⟩
        clear hll hjl
        go_wp2
        go_ret
        exact ⟨by rw [decide_eq_true HN.out]; rfl, HB.out⟩
  · have t0 : ((l.length : Int) != (m.length : Int)) = true := by rw [bne_iff_ne]; omega
    have t1 : (l.length != m.length) = true := by simpa using hll
    have HN : Aside0 (l ≠ m) := ⟨fun e => hll (by rw [e])⟩
    clear hll
    go_enter Try.func16, Try.ntmps16
    go_wp2
    go_ret
    exact ⟨by rw [decide_eq_false HN.out]; rfl, Below.refl _ _⟩

end Go.Proofs.Ytgfiiccajellnaa.JW
