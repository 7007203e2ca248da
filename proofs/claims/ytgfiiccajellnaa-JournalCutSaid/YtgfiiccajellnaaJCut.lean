/-
  The law JournalCut, walked.
-/
import Derived.Test.YtgfiiccajellnaaJL2
import Derived.Test.YtgfiiccajellnaaJTells
import Derived.OpenShut
set_option linter.unusedVariables false
set_option linter.unusedSimpArgs false
namespace Go.Proofs.Ytgfiiccajellnaa.JW
open Go.RowKit Go.Proofs.Ytgfiiccajellnaa.JP Go.Proofs.YtgfiiccajellnaaW.PrintWords

theorem C_take {w : World} {A : Option Addr} {l : List ByteArray} (h : Kd.C Kd.string w A l.length l) (n : Nat) (hn : n ≤ l.length) : Kd.C Kd.string w A n (l.take n) := by
  refine ⟨by rw [List.length_take]; omega, by have := h.2.1; omega, fun h0 => ?_⟩
  obtain ⟨ad, e, hc⟩ := h.2.2 (by omega)
  refine ⟨ad, e, fun j p hj => hc j p ?_⟩
  rw [List.getElem?_take] at hj
  split at hj
  · exact hj
  · simp at hj

theorem encTo_cat (l : List ByteArray) (n : Nat) : encTo l n = cat ⟨#[]⟩ (l.take n) := rfl

set_option maxHeartbeats 2000000 in
set_option maxRecDepth 100000 in
theorem cut0 (A : Option Addr) (c : Nat) (l : List ByteArray) (cut : Int) (w : World) (h : 40 < l.length) :
    Calls Try.prog 4 #[.slice A l.length c, .int .i64 cut] w fun e w' => e = .returned (.bool true) ∧ Below w.heap.size w w' := by
  go_enter Try.func4, Try.ntmps4
  go_wp2_with fail
  refine (fixed w).mono ?_
  rintro e w1 ⟨rfl, hb1⟩
  have HB1 := Aside0.mk hb1
  clear hb1
  go_wp2_with fail
  refine (fixed w1).mono ?_
  rintro e w2 ⟨rfl, hb2⟩
  have HB2 := Aside0.mk (HB1.out.trans (hb2.mono HB1.out.size))
  clear HB1 hb2
  go_wp2
  go_ret
  exact ⟨rfl, HB2.out⟩

set_option maxHeartbeats 4000000 in
set_option maxRecDepth 100000 in
theorem cut1 (A : Option Addr) (c : Nat) (l : List ByteArray) (cut : Int) (w : World) (hC : Kd.C Kd.string w A l.length l) (hc : l.length ≤ c) (h1 : l.length ≤ 40) (hcut1 : -9223372036854775808 ≤ cut) (hcut2 : cut ≤ 9223372036854775807) :
    Calls Try.prog 4 #[.slice A l.length c, .int .i64 cut] w fun e w' => e = .returned (.bool true) ∧ Below w.heap.size w w' := by
  have HC := Aside0.mk hC
  have Hc := Aside0.mk hc
  have HCUT := Aside0.mk (And.intro hcut1 hcut2)
  clear hC hc hcut1 hcut2
  go_enter Try.func4, Try.ntmps4
  go_wp2_with fail
  refine (fixed w).mono ?_
  rintro e w1 ⟨rfl, hb1⟩
  have HB1 := Aside0.mk hb1
  clear hb1
  go_wp2
  go_loopg [5] l.length (fun g v w' => ∃ j : Nat, v = .int .i64 j ∧ Aside0 (g + j = l.length) ∧ Aside0 (∀ x ∈ l.take j, x.size ≤ 2000) ∧ Aside0 (w1 = w'))
  case atStart => exact ⟨0, rfl, ⟨by omega⟩, ⟨by simp⟩, ⟨rfl⟩⟩
  case round =>
    obtain ⟨j, rfl, HG, HK, HW⟩ := hrel
    have hj := HG.out
    obtain rfl := HW.out
    clear HW
    by_cases hlt : j < l.length
    · obtain ⟨ad, x, rfl, hx, hxj⟩ := text_at HC.out HB1.out j hlt
      have HX := Aside0.mk hxj
      clear hxj
      by_cases hbig : 2000 < x.size
      · go_wp2
        go_ret
        exact ⟨rfl, HB1.out⟩
      · have HK2 := Aside0.mk (few_succ HK.out HX.out (Nat.le_of_not_lt hbig))
        have HG2 : Aside0 (gk - 1 + (j + 1) = l.length) := ⟨by omega⟩
        go_wp2
        go_roundg (gk - 1)
        case measure => omega
        case rel => exact ⟨j + 1, by go_num, HG2, HK2, ⟨rfl⟩⟩
    · have hsm : ∀ x ∈ l, x.size ≤ 2000 := fun x hx => HK.out x (by rw [List.take_of_length_le (by omega)]; exact hx)
      have HS := Aside0.mk hsm
      have hd := dec_enc l (fun x hx => by have := hsm x hx; omega)
      have hez : (encB l).size ≤ 10000000 := by
        have := encTo_size l l.length (Nat.le_refl _)
        rw [encTo_full l (fun x hx => by have := hsm x hx; omega)] at this
        omega
      clear HK hsm
      go_wp2_with fail
      refine (encode A c l w1 (Kd.C_below HC.out HB1.out) Hc.out (by omega) (fun x hx => by have := HS.out x hx; omega)).mono ?_
      rintro e w2 ⟨rfl, hb2⟩
      have HB2 := Aside0.mk (HB1.out.trans (hb2.mono HB1.out.size))
      clear HB1 hb2
      go_wp2_with fail
      refine (decode (encB l) w2 (by omega)).mono ?_
      rintro e w3 ⟨v, rfl, ho, hb3⟩
      rw [hd] at ho ⊢
      obtain ⟨A1, c1, rfl, hl1, hc1⟩ := Kd.R_reads ho
      have HC1 := Aside0.mk hc1
      have HB3 := Aside0.mk (HB2.out.trans (hb3.mono HB2.out.size))
      clear ho hl1 hc1 hb3 HB2 hd
      go_wp2_with fail
      refine (texts A1 A c1 c l l w3 HC1.out (Kd.C_below HC.out HB3.out) (by omega) (by omega)).mono ?_
      rintro e w4 ⟨rfl, hb4⟩
      rw [decide_eq_true rfl]
      have HC2 := Aside0.mk (Kd.C_below HC1.out hb4)
      have HB4 := Aside0.mk (HB3.out.trans (hb4.mono HB3.out.size))
      clear HC1 HB3 hb4
      obtain ⟨E, hE⟩ : ∃ E, encB l = E := ⟨_, rfl⟩
      have HE := Aside0.mk hE
      rw [hE] at hez
      rw [hE]
      clear hE
      by_cases hc0 : cut < 0 ∨ (E.size : Int) < cut
      · by_cases hc1 : cut < 0
        all_goals
          have hc2 : ¬ cut < 0 → (E.size : Int) < cut := fun k => hc0.resolve_left k
          clear hc0
          first | have hc3 := hc2 hc1 | skip
          clear hc2
          go_wp2_with fail
          refine (texts A1 A c1 c l l w4 HC2.out (Kd.C_below HC.out HB4.out) (by omega) (by omega)).mono ?_
          rintro e w5 ⟨rfl, hb5⟩
          rw [decide_eq_true rfl]
          go_wp2
          go_ret
          exact ⟨rfl, HB4.out.trans (hb5.mono HB4.out.size)⟩
      · obtain ⟨C, rfl⟩ : ∃ C : Nat, cut = (C : Int) := ⟨cut.toNat, by omega⟩
        have hCs : C ≤ E.size := by omega
        clear hc0
        go_wp2
        go_loopg [10, 11] l.length (fun g v u w' => ∃ n : Nat, v = .int .i64 n ∧ u = .int .i64 (encTo l n).size ∧ Aside0 (g + n = l.length) ∧ Aside0 ((encTo l n).size ≤ C) ∧ Aside0 (w4 = w'))
        case atStart => exact ⟨0, rfl, rfl, ⟨by omega⟩, ⟨Nat.zero_le _⟩, ⟨rfl⟩⟩
        case round =>
          obtain ⟨n, rfl, rfl, HG, HN, HW⟩ := hrel
          have hj := HG.out
          have hN := HN.out
          obtain rfl := HW.out
          clear HW
          have hgo : (∃ (hlt : n < l.length) (x : ByteArray), l[n]? = some x ∧ (encTo l n).size + x.size + 8 ≤ C) ∨ (∃ (hlt : n < l.length) (x : ByteArray), l[n]? = some x ∧ C < (encTo l n).size + x.size + 8) ∨ n = l.length := by
            rcases Nat.lt_or_ge n l.length with h | h
            · rcases Nat.lt_or_ge C ((encTo l n).size + l[n].size + 8) with h' | h'
              · exact .inr (.inl ⟨h, _, List.getElem?_eq_getElem h, h'⟩)
              · exact .inl ⟨h, _, List.getElem?_eq_getElem h, h'⟩
            · exact .inr (.inr (by omega))
          rcases hgo with ⟨hlt, y, hy, hle⟩ | hstop
          · obtain ⟨ad, x, rfl, hx, hxj⟩ := text_at HC.out HB4.out n hlt
            rw [hxj] at hy
            obtain rfl := Option.some.inj hy
            have hxs : x.size ≤ 2000 := HS.out x (List.mem_of_getElem? hxj)
            have HEN : Aside0 ((encTo l (n + 1)).size = (encTo l n).size + (x.size + 8)) := ⟨by
              rw [encTo_succ l n hlt, ByteArray.size_append]
              have e : rdOf ByteArray.empty l (n : Int) = x := by simp [rdOf, List.getD_eq_getElem?_getD, hxj]
              rw [e, recB_size x (by omega)]⟩
            have HG2 : Aside0 (gk - 1 + (n + 1) = l.length) := ⟨by omega⟩
            clear hy hxj
            generalize (encTo l n).size = z at *
            go_wp2
            go_roundg (gk - 1)
            case measure => omega
            case rel => exact ⟨n + 1, by go_num, by rw [HEN.out]; go_num, HG2, ⟨by rw [HEN.out]; omega⟩, ⟨rfl⟩⟩
          · have hnl : n ≤ l.length := by omega
            have hcut := dec_cut l (fun x hx => by have := HS.out x hx; omega) n C hnl (by rw [← encTo_cat]; exact hN) (by rw [HE.out]; exact hCs) (fun x hx => by
              rw [← encTo_cat]
              rcases hstop with ⟨hlt, y, hy, hlt2⟩ | rfl
              · rw [hx] at hy
                obtain rfl := Option.some.inj hy
                exact hlt2
              · simp at hx)
            rw [HE.out, ← encTo_cat] at hcut
            have hxs : (E.extract 0 C).size ≤ 1000000000 := by simp; omega
            have HD := Aside0.mk hcut
            have HXS := Aside0.mk hxs
            clear hcut hxs
            have htake : (l.take n).length = n := by rw [List.length_take]; omega
            have HTK := Aside0.mk htake
            clear htake
            have HCL := Aside0.mk (C_take (Kd.C_below HC.out HB4.out) n hnl)
            generalize encTo l n = et at *
            have hcn : (n : Int) ≤ (c : Int) := by have := Hc.out; omega
            have hCs2 : (C : Int) ≤ (E.size : Int) := by omega
            rcases hstop with ⟨hlt, y, hy, hlt2⟩ | hend
            · obtain ⟨ad, x, rfl, hx, hxj⟩ := text_at HC.out HB4.out n hlt
              rw [hxj] at hy
              obtain rfl := Option.some.inj hy
              have hxs : x.size ≤ 2000 := HS.out x (List.mem_of_getElem? hxj)
              clear hy hxj
              go_wp2_with fail
              refine (decode _ w4 HXS.out).mono ?_
              rintro e w5 ⟨v, rfl, ho5, hb5⟩
              rw [HD.out] at ho5 ⊢
              obtain ⟨A5, c5, rfl, hl5, hc5⟩ := Kd.R_reads ho5
              simp only [HTK.out] at hc5 ⊢
              have HC5 := Aside0.mk hc5
              have HCL5 := Aside0.mk (Kd.C_below HCL.out hb5)
              have HB5 := Aside0.mk (HB4.out.trans (hb5.mono HB4.out.size))
              clear ho5 hl5 hc5 hb5 HCL
              have TX := fun w6 => texts A5 (some ad) c5 c (l.take n) (l.take n) w6
              rw [HTK.out] at TX
              have TT := Lib.hid TX
              clear TX
              by_cases hz : et.size = C
              · have k1 : ((if et.size = C then 0 else 250 : Nat)) = 0 := if_pos hz
                rw [k1]
                have k2 : ((et.size : Int) == (C : Int)) = true := by rw [hz]; simp
                have k3 : (et.size == C) = true := by rw [hz]; simp
                clear hz k1 HD
                go_wp2_with fail
                refine (TT.out w5 HC5.out HCL5.out (by omega) (by omega)).mono ?_
                rintro e w6 ⟨rfl, hb6⟩
                simp only [decide_true]
                have HB6 := Aside0.mk (HB5.out.trans (hb6.mono HB5.out.size))
                clear hb6 HB5
                go_wp2
                go_ret
                exact ⟨rfl, HB6.out⟩
              · have k1 : ((if et.size = C then 0 else 250 : Nat)) = 250 := if_neg hz
                rw [k1]
                have k2 : ((et.size : Int) == (C : Int)) = false := by rw [beq_eq_false_iff_ne]; omega
                have k3 : (et.size == C) = false := by rw [beq_eq_false_iff_ne]; omega
                clear hz k1 HD
                go_wp2_with fail
                refine (TT.out w5 HC5.out HCL5.out (by omega) (by omega)).mono ?_
                rintro e w6 ⟨rfl, hb6⟩
                simp only [decide_true]
                have HB6 := Aside0.mk (HB5.out.trans (hb6.mono HB5.out.size))
                clear hb6 HB5
                go_wp2
                go_ret
                exact ⟨rfl, HB6.out⟩
            · have hge : ¬ n < l.length := by omega
              have hge1 : decide (n < l.length) = false := decide_eq_false hge
              have hge2 : decide ((n : Int) < (l.length : Int)) = false := decide_eq_false (by omega)
              clear hend
              go_wp2_with fail
              refine (decode _ w4 HXS.out).mono ?_
              rintro e w5 ⟨v, rfl, ho5, hb5⟩
              rw [HD.out] at ho5 ⊢
              obtain ⟨A5, c5, rfl, hl5, hc5⟩ := Kd.R_reads ho5
              simp only [HTK.out] at hc5 ⊢
              have HC5 := Aside0.mk hc5
              have HCL5 := Aside0.mk (Kd.C_below HCL.out hb5)
              have HB5 := Aside0.mk (HB4.out.trans (hb5.mono HB4.out.size))
              clear ho5 hl5 hc5 hb5 HCL
              have TX := fun w6 => texts A5 A c5 c (l.take n) (l.take n) w6
              rw [HTK.out] at TX
              have TT := Lib.hid TX
              clear TX
              by_cases hz : et.size = C
              · have k1 : ((if et.size = C then 0 else 250 : Nat)) = 0 := if_pos hz
                rw [k1]
                have k2 : ((et.size : Int) == (C : Int)) = true := by rw [hz]; simp
                have k3 : (et.size == C) = true := by rw [hz]; simp
                clear hz k1 HD
                go_wp2_with fail
                refine (TT.out w5 HC5.out HCL5.out (by omega) (by omega)).mono ?_
                rintro e w6 ⟨rfl, hb6⟩
                simp only [decide_true]
                have HB6 := Aside0.mk (HB5.out.trans (hb6.mono HB5.out.size))
                clear hb6 HB5
                go_wp2
                go_ret
                exact ⟨rfl, HB6.out⟩
              · have k1 : ((if et.size = C then 0 else 250 : Nat)) = 250 := if_neg hz
                rw [k1]
                have k2 : ((et.size : Int) == (C : Int)) = false := by rw [beq_eq_false_iff_ne]; omega
                have k3 : (et.size == C) = false := by rw [beq_eq_false_iff_ne]; omega
                clear hz k1 HD
                go_wp2_with fail
                refine (TT.out w5 HC5.out HCL5.out (by omega) (by omega)).mono ?_
                rintro e w6 ⟨rfl, hb6⟩
                simp only [decide_true]
                have HB6 := Aside0.mk (HB5.out.trans (hb6.mono HB5.out.size))
                clear hb6 HB5
                go_wp2
                go_ret
                exact ⟨rfl, HB6.out⟩

theorem cut (w : World) (A : Option Addr) (c : Nat) (l : List ByteArray) (hc : l.length ≤ c) (hC : Kd.C Kd.string w A l.length l) (hz : ∀ x ∈ l, x.size ≤ maxLen) (k : Int) (hk : (Lit.int .i64 k).wf = true) :
    Calls Try.prog 4 #[.slice A l.length c, .int .i64 k] w fun e w' => e = .returned (.bool true) ∧ Below w.heap.size w w' := by
  by_cases h : 40 < l.length
  · exact cut0 A c l k w h
  · have hb := bounds_i64 hk
    exact cut1 A c l k w hC hc (by omega) (by omega) (by omega)

end Go.Proofs.Ytgfiiccajellnaa.JW
