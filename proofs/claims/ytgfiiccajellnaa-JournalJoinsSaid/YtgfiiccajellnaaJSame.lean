/-
  The law JournalSame, walked.
-/
import Derived.Test.YtgfiiccajellnaaJL2
import Derived.Test.YtgfiiccajellnaaJTells
set_option linter.unusedVariables false
set_option linter.unusedSimpArgs false
namespace Go.Proofs.Ytgfiiccajellnaa.JW
open Go.RowKit Go.Proofs.Ytgfiiccajellnaa.JP Go.Proofs.YtgfiiccajellnaaW.PrintWords

theorem encB_inj (l m : List ByteArray) (hl : ∀ x ∈ l, x.size ≤ 30000) (hm : ∀ x ∈ m, x.size ≤ 30000) : encB l = encB m ↔ l = m := by
  constructor
  · intro h
    have h1 := dec_enc l hl
    have h2 := dec_enc m hm
    rw [h, h2] at h1
    exact (Prod.mk.inj h1).1.symm
  · rintro rfl; rfl

set_option maxHeartbeats 2000000 in
set_option maxRecDepth 100000 in
theorem same0 (A A' : Option Addr) (c c' : Nat) (l m : List ByteArray) (w : World) (h : 40 < l.length ∨ 40 < m.length) :
    Calls Try.prog 8 #[.slice A l.length c, .slice A' m.length c'] w fun e w' => e = .returned (.bool true) ∧ Below w.heap.size w w' := by
  by_cases h1 : 40 < l.length
  all_goals
    have h2 : ¬ 40 < l.length → 40 < m.length := fun k => h.resolve_left k
    clear h
    go_enter Try.func8, Try.ntmps8
    first | have h3 := h2 h1 | skip
    clear h2
    go_wp2_with fail
    refine (fixed w).mono ?_
    rintro e w1 ⟨rfl, hb1⟩
    have HB1 := Aside0.mk hb1
    clear hb1
    go_wp2_with fail
    refine (fixed w1).mono ?_
    rintro e w2 ⟨rfl, hb2⟩
    have HB2 := Aside0.mk (HB1.out.trans (hb2.mono HB1.out.size))
    clear HB1 hb2
    go_wp2
    go_ret
    exact ⟨rfl, HB2.out⟩

set_option maxHeartbeats 4000000 in
set_option maxRecDepth 100000 in
theorem same1 (A A' : Option Addr) (c c' : Nat) (l m : List ByteArray) (w : World) (hC : Kd.C Kd.string w A l.length l) (hc : l.length ≤ c) (hC' : Kd.C Kd.string w A' m.length m) (hc' : m.length ≤ c') (h1 : l.length ≤ 40) (h2 : m.length ≤ 40) :
    Calls Try.prog 8 #[.slice A l.length c, .slice A' m.length c'] w fun e w' => e = .returned (.bool true) ∧ Below w.heap.size w w' := by
  have HC := Aside0.mk hC
  have Hc := Aside0.mk hc
  have HC' := Aside0.mk hC'
  have Hc' := Aside0.mk hc'
  clear hC hc hC' hc'
  go_enter Try.func8, Try.ntmps8
  go_wp2_with fail
  refine (fixed w).mono ?_
  rintro e w1 ⟨rfl, hb1⟩
  have HB1 := Aside0.mk hb1
  clear hb1
  go_wp2
  go_loopg [5, 6] l.length (fun g u v w' => ∃ j : Nat, v = .int .i64 j ∧ u = .int .i64 (encTo l j).size ∧ Aside0 (g + j = l.length) ∧ Aside0 (∀ x ∈ l.take j, x.size ≤ 2000) ∧ Aside0 (Below w.heap.size w w'))
  case atStart => exact ⟨0, rfl, rfl, ⟨by omega⟩, ⟨by simp⟩, HB1⟩
  case round =>
    clear HB1
    obtain ⟨j, rfl, rfl, HG, HK, HB⟩ := hrel
    have hj := HG.out
    have hz := encTo_size l j (by omega)
    by_cases hlt : j < l.length
    · obtain ⟨ad, x, rfl, hx, hxj⟩ := text_at HC.out HB.out j hlt
      have HX := Aside0.mk hxj
      by_cases hbig : 2000 < x.size
      · go_wp2
        go_ret
        exact ⟨rfl, HB.out⟩
      · have HK2 := Aside0.mk (few_succ HK.out HX.out (Nat.le_of_not_lt hbig))
        have HG2 : Aside0 (gk - 1 + (j + 1) = l.length) := ⟨by omega⟩
        have hrs := recB_size x (by omega)
        have HEN : Aside0 ((encTo l (j + 1)).size = (encTo l j).size + (x.size + 8)) := ⟨by
          rw [encTo_succ l j hlt, ByteArray.size_append]
          have e : rdOf ByteArray.empty l (j : Int) = x := by simp [rdOf, List.getD_eq_getElem?_getD, hxj]
          rw [e, hrs]⟩
        have HR := Lib.hid hrs
        clear hxj hrs
        generalize (encTo l j).size = z at *
        go_wp2_with fail
        refine (record x _ (by omega)).mono ?_
        rintro e w2 ⟨rfl, hb2⟩
        have hx2 := (hb2.cell (World.block_lt_of_cell? _ _ hx)).trans hx
        have HB2 := Aside0.mk (HB.out.trans (hb2.mono HB.out.size))
        clear HB hb2 hx
        have q0 : ((recB x).size : Int) = (x.size : Int) + 8 := by rw [HR.out]; omega
        have q1 : IntKind.i64.wrap ((x.size : Int) + 8) = (x.size : Int) + 8 := IntWalk.i64_in _ (by omega)
        have q2 : (((x.size : Int) + 8) != ((x.size : Int) + 8)) = false := by simp
        go_wp2_with fail
        go_region_held3 (fun w' : World => w'.cell? (ad.add j) = some (.string x)) (first | exact hx3 | exact hx2) (first | (go_at_call 17; refine (record x _ (by omega)).mono ?_; intro e w3 hh; obtain ⟨rfl, hb3⟩ := hh; have hx3 : w3.cell? (ad.add j) = some (.string x) := (hb3.cell (World.block_lt_of_cell? _ _ hx2)).trans hx2))
        clear q0 q1
        have HB3 := Aside0.mk (HB2.out.trans (((Below.drew (Below.refl _ _)).trans hb3).mono HB2.out.size))
        clear HB2 hb3 hx2
        go_wp2
        go_roundg (gk - 1)
        case measure => omega
        case rel => exact ⟨j + 1, by go_num, by rw [HEN.out]; go_num, HG2, HK2, HB3⟩
    · have HS : Aside0 (∀ x ∈ l, x.size ≤ 2000) := ⟨fun x hx => HK.out x (by rw [List.take_of_length_le (by omega)]; exact hx)⟩
      have HE : Aside0 ((encTo l j).size = (encB l).size) := ⟨by rw [show j = l.length from by omega, encTo_full l (fun x hx => by have := HS.out x hx; omega)]⟩
      rw [HE.out] at hz
      rw [HE.out]
      clear HK HE
      go_wp2
      go_loopg [7] m.length (fun g v w' => ∃ n : Nat, v = .int .i64 n ∧ Aside0 (g + n = m.length) ∧ Aside0 (∀ x ∈ m.take n, x.size ≤ 2000) ∧ Aside0 (Below w.heap.size w w'))
      case atStart => exact ⟨0, rfl, ⟨by omega⟩, ⟨by simp⟩, HB⟩
      case round =>
        clear HB
        obtain ⟨n, rfl, HGn, HK, HB⟩ := hrel
        have hjn := HGn.out
        by_cases hltn : n < m.length
        · obtain ⟨ad, x, rfl, hx, hxj⟩ := text_at HC'.out HB.out n hltn
          have HX := Aside0.mk hxj
          clear hxj
          by_cases hbig : 2000 < x.size
          · go_wp2
            go_ret
            exact ⟨rfl, HB.out⟩
          · have HK2 := Aside0.mk (few_succ HK.out HX.out (Nat.le_of_not_lt hbig))
            have HG2 : Aside0 (gk - 1 + (n + 1) = m.length) := ⟨by omega⟩
            go_wp2
            go_roundg (gk - 1)
            case measure => omega
            case rel => exact ⟨n + 1, by go_num, HG2, HK2, HB⟩
        · have HS' : Aside0 (∀ x ∈ m, x.size ≤ 2000) := ⟨fun x hx => HK.out x (by rw [List.take_of_length_le (by omega)]; exact hx)⟩
          have HIN := Aside0.mk (encB_inj l m (fun x hx => by have := HS.out x hx; omega) (fun x hx => by have := HS'.out x hx; omega))
          clear HK
          go_wp2_with fail
          refine (encode A c l _ (Kd.C_below HC.out HB.out) Hc.out (by omega) (fun x hx => by have := HS.out x hx; omega)).mono ?_
          rintro e w2 ⟨rfl, hb2⟩
          have HB2 := Aside0.mk (HB.out.trans (hb2.mono HB.out.size))
          clear HB hb2
          go_wp2_with fail
          refine (encode A c l _ (Kd.C_below HC.out HB2.out) Hc.out (by omega) (fun x hx => by have := HS.out x hx; omega)).mono ?_
          rintro e w3 ⟨rfl, hb3⟩
          have HB3 := Aside0.mk (HB2.out.trans (hb3.mono HB2.out.size))
          clear HB2 hb3
          go_wp2_with fail
          refine (encode A' c' m _ (Kd.C_below HC'.out HB3.out) Hc'.out (by omega) (fun x hx => by have := HS'.out x hx; omega)).mono ?_
          rintro e w4 ⟨rfl, hb4⟩
          have HB4 := Aside0.mk (HB3.out.trans (hb4.mono HB3.out.size))
          clear HB3 hb4
          go_wp2_with fail
          refine (texts A A' c c' l m w4 (Kd.C_below HC.out HB4.out) (Kd.C_below HC'.out HB4.out) (by omega) (by omega)).mono ?_
          rintro e w5 ⟨rfl, hb5⟩
          have HB5 := Aside0.mk (HB4.out.trans (hb5.mono HB4.out.size))
          clear HB4 hb5
          by_cases hlm : l = m
          · have t1 : ((encB l).toList == (encB m).toList) = true := by rw [hlm]; simp
            rw [decide_eq_true hlm]
            clear hlm
            go_wp2
            go_ret
            exact ⟨rfl, HB5.out⟩
          · have t1 : ((encB l).toList == (encB m).toList) = false := by
              rw [beq_eq_false_iff_ne]
              intro h
              exact hlm (HIN.out.1 (ba_ext h))
            rw [decide_eq_false hlm]
            clear hlm
            go_wp2
            go_ret
            exact ⟨rfl, HB5.out⟩

theorem same (w : World) (A : Option Addr) (c : Nat) (l : List ByteArray) (hc : l.length ≤ c) (hC : Kd.C Kd.string w A l.length l) (hz : ∀ x ∈ l, x.size ≤ maxLen)
    (A' : Option Addr) (c' : Nat) (m : List ByteArray) (hc' : m.length ≤ c') (hC' : Kd.C Kd.string w A' m.length m) (hz' : ∀ x ∈ m, x.size ≤ maxLen) :
    Calls Try.prog 8 #[.slice A l.length c, .slice A' m.length c'] w fun e w' => e = .returned (.bool true) ∧ Below w.heap.size w w' := by
  by_cases h : 40 < l.length ∨ 40 < m.length
  · exact same0 A A' c c' l m w h
  · exact same1 A A' c c' l m w hC hc hC' hc' (by omega) (by omega)

end Go.Proofs.Ytgfiiccajellnaa.JW
