/-
  journal.Encode, the reference's Encode and Texts, walked.
-/
import Derived.Test.YtgfiiccajellnaaJW6
import Derived.Test.YtgfiiccajellnaaBld
set_option linter.unusedVariables false
set_option linter.unusedSimpArgs false
namespace Go.Proofs.Ytgfiiccajellnaa.JW
open Go.RowKit Go.Proofs.Ytgfiiccajellnaa.JP Go.Proofs.YtgfiiccajellnaaW.PrintWords

/-- All records, one behind the other; nothing, if a text is too long. -/
def encB (l : List ByteArray) : ByteArray := if ∀ x ∈ l, x.size ≤ 30000 then l.foldl (fun a s => a ++ recB s) ⟨#[]⟩ else ⟨#[]⟩
/-- .. of the first j. -/
def encTo (l : List ByteArray) (j : Nat) : ByteArray := (l.take j).foldl (fun a s => a ++ recB s) ⟨#[]⟩

theorem encTo_succ (l : List ByteArray) (j : Nat) (h : j < l.length) : encTo l (j + 1) = encTo l j ++ recB (rdOf ByteArray.empty l (j : Int)) := by
  unfold encTo
  rw [List.take_succ_eq_append_getElem h, List.foldl_append]
  simp [rdOf, List.getD_eq_getElem?_getD, h]
theorem encTo_full (l : List ByteArray) (h : ∀ x ∈ l, x.size ≤ 30000) : encTo l l.length = encB l := by
  unfold encTo encB
  rw [List.take_length, if_pos h]
theorem encB_long (l : List ByteArray) (j : Nat) (h : j < l.length) (hl : 30000 < (rdOf ByteArray.empty l (j : Int)).size) : encB l = ⟨#[]⟩ := by
  unfold encB
  rw [if_neg]
  intro H
  have := H _ (List.getElem_mem h)
  simp [rdOf, List.getD_eq_getElem?_getD, h] at hl
  omega
theorem recB_size (s : ByteArray) (h : s.size ≤ 30000) : (recB s).size = s.size + 8 := by
  unfold recB
  rw [if_neg (by omega)]
  simp only [ByteArray.size_append, strOfNums_size, be_length]
  omega
theorem recB_size_le (s : ByteArray) : (recB s).size ≤ 30008 := by
  by_cases h : s.size ≤ 30000
  · rw [recB_size s h]; omega
  · unfold recB; rw [if_pos (by omega)]; exact Nat.zero_le _
theorem recB_ne (s : ByteArray) (h : s.size ≤ 30000) : ((recB s).toList.isEmpty) = false := by
  have := recB_size s h
  cases hl : (recB s).toList with
  | nil =>
    rw [ByteArray.toList_eq] at hl
    rw [ByteArray.size, ← Array.length_toList, hl] at this
    simp at this
  | cons x r => rfl
theorem encTo_size (l : List ByteArray) (j : Nat) (h : j ≤ l.length) : (encTo l j).size ≤ j * 30008 := by
  induction j with
  | zero => simp [encTo]; rfl
  | succ j ih =>
    rw [encTo_succ l j (by omega), ByteArray.size_append]
    have := recB_size_le (rdOf ByteArray.empty l (j : Int))
    have := ih (by omega)
    omega

theorem cells_append (a b : ByteArray) : Lib.strCells a ++ Lib.strCells b = Lib.strCells (a ++ b) := by
  simp [Lib.strCells]

theorem bld_at_below {T e : TypeId} {B b : Nat} {p : Value} {bs : List Value} {w w' : World} (h : Lib.BuilderAt T e B b p bs w) (hb : Below w.heap.size w w') : Lib.BuilderAt T e B b p bs w' := by
  have hlt := h.lt
  obtain ⟨hB, v, hk, hown, hne⟩ := h
  exact ⟨hB, v, (hb.block b hlt).trans hk, pw_own_below hown hb, hne⟩
theorem bld_below {T e : TypeId} {B b : Nat} {bs : List Value} {w w' : World} (h : Lib.IsBuilder T e B b bs w) (hb : Below w.heap.size w w') : Lib.IsBuilder T e B b bs w' :=
  h.imp (fun h => bld_at_below h hb) (fun h => bld_at_below h hb)

set_option maxHeartbeats 2000000 in
set_option maxRecDepth 100000 in
theorem encode (A0 : Option Addr) (c0 : Nat) (l : List ByteArray) (w : World) (hr0 : Kd.C Kd.string w A0 l.length l) (hc0 : l.length ≤ c0) (hlen : l.length ≤ 1000000) (hsz : ∀ x ∈ l, x.size ≤ 140737488355328) :
    Calls Try.prog 14 #[.slice A0 l.length c0] w fun e w' => e = .returned (.string (encB l)) ∧ Below w.heap.size w w' := by
  have HR0 := Aside0.mk hr0
  have HS := Aside0.mk hsz
  clear hr0 hc0 hsz
  go_enter Try.func14, Try.ntmps14
  go_wp2
  go_loopg [9] l.length (fun g v9 w' => ∃ j : Nat, v9 = .int .i64 j ∧ Aside0 (g + j = l.length) ∧ Aside0 (∀ x ∈ l.take j, x.size ≤ 30000) ∧ Aside0 (Lib.IsBuilder 43 5 w.heap.size w.heap.size (Lib.strCells (encTo l j)) w') ∧ Aside0 (Below w.heap.size w w'))
  case atStart => exact ⟨0, rfl, ⟨by omega⟩, ⟨by simp⟩, ⟨Lib.fresh_isBuilder _ _ w⟩, ⟨(Below.refl _ _).alloc (Nat.le_refl _) _⟩⟩
  case round =>
    obtain ⟨j, rfl, HG, HK, HI, HB⟩ := hrel
    have hj := HG.out
    by_cases hlt : j < l.length
    · obtain ⟨ad, e1, hx⟩ := Kd.at_string HR0.out (j : Int) (by omega) (by omega)
      cases e1
      replace hx := (HB.out.cell (World.block_lt_of_cell? w _ hx)).trans hx
      rw [Int.toNat_natCast] at hx
      have hmem : rdOf ByteArray.empty l (j : Int) ∈ l := by simp [rdOf, List.getD_eq_getElem?_getD, hlt]
      have hsx := HS.out _ hmem
      have HE := Aside0.mk (encTo_succ l j hlt)
      have HL := Aside0.mk (encB_long l j hlt)
      have HZ := encTo_size l j (by omega)
      have HK2 : 30000 < (rdOf ByteArray.empty l (j : Int)).size ∨ (rdOf ByteArray.empty l (j : Int)).size ≤ 30000 ∧ Aside0 (∀ x ∈ l.take (j + 1), x.size ≤ 30000) := by
        rcases Nat.lt_or_ge 30000 (rdOf ByteArray.empty l (j : Int)).size with h | h
        · exact .inl h
        · refine .inr ⟨h, ⟨fun x hx => ?_⟩⟩
          rw [List.take_succ_eq_append_getElem hlt, List.mem_append] at hx
          rcases hx with hx | hx
          · exact HK.out x hx
          · simp at hx
            subst hx
            simpa [rdOf, List.getD_eq_getElem?_getD, hlt] using h
      obtain ⟨x, hxx⟩ : ∃ x, rdOf ByteArray.empty l (j : Int) = x := ⟨_, rfl⟩
      rw [hxx] at hx hsx HE HL HK2
      clear hxx hmem
      rcases HK2 with hbig | ⟨hsm, HK2⟩
      · have HL2 := Aside0.mk (HL.out hbig)
        have hr : recB x = ⟨#[]⟩ := by unfold recB; rw [if_pos hbig]
        have HR := Lib.hid hr
        clear hr hbig
        go_wp2_with fail
        refine (record x _ (by omega)).mono ?_
        rw [HR.out]
        rintro e w1 ⟨rfl, hb1⟩
        go_wp2
        go_ret
        rw [HL2.out]
        exact ⟨rfl, HB.out.trans (hb1.mono HB.out.size)⟩
      · go_wp2_with fail
        refine (record x _ (by omega)).mono ?_
        rintro e w1 ⟨rfl, hb1⟩
        have hne := recB_ne x hsm
        have hrs := recB_size_le x
        have HI2 := Aside0.mk (bld_below HI.out hb1)
        have HB2 := Aside0.mk (HB.out.trans (hb1.mono HB.out.size))
        clear HI HB hb1
        generalize recB x = r at *
        have HJ : Aside0 ((encTo l j).size ≤ 140737488355328 - r.size) := ⟨by omega⟩
        go_wp2_with (go_at_call 20; refine (Bld.write w.heap.size w.heap.size _ r _ HI2.out (by have := HJ.out; rw [Lib.strCells_length]; omega) HB2.out.size).mono ?_; rintro e w2 ⟨rfl, hi3, hb3⟩)
        have HI3 := Aside0.mk hi3
        have HB3 := Aside0.mk (HB2.out.trans hb3)
        clear HI2 HB2 hi3 hb3
        have HG2 : Aside0 (gk - 1 + (j + 1) = l.length) := ⟨by omega⟩
        go_wp2
        go_roundg (gk - 1)
        case measure => omega
        case rel => exact ⟨j + 1, by go_num, HG2, HK2, ⟨by rw [HE.out, ← cells_append]; exact Or.inr HI3.out⟩, HB3⟩
    · have hjl : j = l.length := by omega
      have HE : Aside0 (encTo l j = encB l) := ⟨by rw [hjl]; exact encTo_full l (by have := HK.out; rw [hjl, List.take_length] at this; exact this)⟩
      rw [HE.out] at HI
      clear HE HK hjl
      go_wp2_with (go_at_call 21; refine (Bld.str w.heap.size w.heap.size (encB l).data.toList _ HI.out HB.out.size).mono ?_; rintro e w1 ⟨rfl, hb1⟩)
      go_ret
      exact ⟨rfl, HB.out.trans hb1⟩

end Go.Proofs.Ytgfiiccajellnaa.JW
