/-
  The law JournalJoins, walked.
-/
import Derived.Test.YtgfiiccajellnaaJSame
set_option linter.unusedVariables false
set_option linter.unusedSimpArgs false
namespace Go.Proofs.Ytgfiiccajellnaa.JW
open Go.RowKit Go.Proofs.Ytgfiiccajellnaa.JP Go.Proofs.YtgfiiccajellnaaW.PrintWords

theorem encB_append (l m : List ByteArray) (hl : ∀ x ∈ l, x.size ≤ 30000) (hm : ∀ x ∈ m, x.size ≤ 30000) : encB l ++ encB m = encB (l ++ m) := by
  rw [encB_cat l hl, encB_cat m hm, encB_cat (l ++ m) (fun x hx => by exact (List.mem_append.1 hx).elim (hl x) (hm x)), cat_append]

set_option maxHeartbeats 2000000 in
set_option maxRecDepth 100000 in
theorem joins0 (A A' : Option Addr) (c c' : Nat) (l m : List ByteArray) (w : World) (h : 40 < l.length ∨ 40 < m.length) :
    Calls Try.prog 6 #[.slice A l.length c, .slice A' m.length c'] w fun e w' => e = .returned (.bool true) ∧ Below w.heap.size w w' := by
  by_cases h1 : 40 < l.length
  all_goals
    have h2 : ¬ 40 < l.length → 40 < m.length := fun k => h.resolve_left k
    clear h
    go_enter Try.func6, Try.ntmps6
    first | have h3 := h2 h1 | skip
    clear h2
    go_wp2_with fail
    refine (fixed w).mono ?_
    rintro e w1 ⟨rfl, hb1⟩
    have HB1 := Aside0.mk hb1
    clear hb1
    go_wp2_with fail
    refine (fixed w1).mono ?_
    rintro e w2 ⟨rfl, hb2⟩
    have HB2 := Aside0.mk (HB1.out.trans (hb2.mono HB1.out.size))
    clear HB1 hb2
    go_wp2
    go_ret
    exact ⟨rfl, HB2.out⟩

set_option maxHeartbeats 4000000 in
set_option maxRecDepth 100000 in
theorem joins1 (A A' : Option Addr) (c c' : Nat) (l m : List ByteArray) (w : World) (hC : Kd.C Kd.string w A l.length l) (hc : l.length ≤ c) (hC' : Kd.C Kd.string w A' m.length m) (hc' : m.length ≤ c') (h1 : l.length ≤ 40) (h2 : m.length ≤ 40) :
    Calls Try.prog 6 #[.slice A l.length c, .slice A' m.length c'] w fun e w' => e = .returned (.bool true) ∧ Below w.heap.size w w' := by
  have HC := Aside0.mk hC
  have Hc := Aside0.mk hc
  have HC' := Aside0.mk hC'
  have Hc' := Aside0.mk hc'
  clear hC hc hC' hc'
  go_enter Try.func6, Try.ntmps6
  go_wp2_with fail
  refine (fixed w).mono ?_
  rintro e w1 ⟨rfl, hb1⟩
  have HB1 := Aside0.mk hb1
  clear hb1
  go_wp2
  go_loopg [5] (l.length + m.length) (fun g v w' => ∃ j : Nat, v = .int .i64 j ∧ Aside0 (g + j = l.length + m.length) ∧ Aside0 (∀ x ∈ (l ++ m).take j, x.size ≤ 2000) ∧ Aside0 (w1 = w'))
  case atStart => exact ⟨0, rfl, ⟨by omega⟩, ⟨by simp⟩, ⟨rfl⟩⟩
  case round =>
    obtain ⟨j, rfl, HG, HK, HW⟩ := hrel
    have hj := HG.out
    obtain rfl := HW.out
    clear HW
    by_cases hlt : j < l.length
    · obtain ⟨ad, x, rfl, hx, hxj⟩ := text_at HC.out HB1.out j hlt
      have HX : Aside0 ((l ++ m)[j]? = some x) := ⟨by rw [List.getElem?_append_left hlt]; exact hxj⟩
      clear hxj
      have t1 : (j : Int) < (l.length : Int) + (m.length : Int) := by omega
      have t2 : decide (l.length ≤ j) = false := decide_eq_false (by omega)
      have t3 : decide ((l.length : Int) ≤ (j : Int)) = false := decide_eq_false (by omega)
      by_cases hbig : 2000 < x.size
      · go_wp2
        go_ret
        exact ⟨rfl, HB1.out⟩
      · have HK2 := Aside0.mk (few_succ HK.out HX.out (Nat.le_of_not_lt hbig))
        have HG2 : Aside0 (gk - 1 + (j + 1) = l.length + m.length) := ⟨by omega⟩
        have t4 : decide (2000 < x.size) = false := decide_eq_false hbig
        have t5 : decide (2000 < (x.size : Int)) = false := decide_eq_false (by omega)
        go_wp2
        go_roundg (gk - 1)
        case measure => omega
        case rel => exact ⟨j + 1, by go_num, HG2, HK2, ⟨rfl⟩⟩
    · have t0 : decide (j < l.length) = false := decide_eq_false hlt
      have t0' : decide ((j : Int) < (l.length : Int)) = false := decide_eq_false (by omega)
      by_cases hlt2 : j < l.length + m.length
      · obtain ⟨d, rfl⟩ : ∃ d, j = l.length + d := ⟨j - l.length, by omega⟩
        obtain ⟨ad, x, rfl, hx, hxj⟩ := text_at HC'.out HB1.out d (by omega)
        have HX : Aside0 ((l ++ m)[l.length + d]? = some x) := ⟨by rw [List.getElem?_append_right (by omega), Nat.add_sub_cancel_left]; exact hxj⟩
        clear hxj
        by_cases hbig : 2000 < x.size
        · go_wp2
          go_ret
          exact ⟨rfl, HB1.out⟩
        · have HK2 := Aside0.mk (few_succ HK.out HX.out (Nat.le_of_not_lt hbig))
          have HG2 : Aside0 (gk - 1 + (l.length + d + 1) = l.length + m.length) := ⟨by omega⟩
          go_wp2
          go_roundg (gk - 1)
          case measure => omega
          case rel => exact ⟨l.length + d + 1, by go_num, HG2, HK2, ⟨rfl⟩⟩
      · have HS : Aside0 (∀ x ∈ l ++ m, x.size ≤ 2000) := ⟨fun x hx => HK.out x (by rw [List.take_of_length_le (by simp; omega)]; exact hx)⟩
        have HSl : Aside0 (∀ x ∈ l, x.size ≤ 2000) := ⟨fun x hx => HS.out x (List.mem_append_left _ hx)⟩
        have HSm : Aside0 (∀ x ∈ m, x.size ≤ 2000) := ⟨fun x hx => HS.out x (List.mem_append_right _ hx)⟩
        have HE := Aside0.mk (encB_append l m (fun x hx => by have := HSl.out x hx; omega) (fun x hx => by have := HSm.out x hx; omega))
        have hd := dec_enc (l ++ m) (fun x hx => by have := HS.out x hx; omega)
        have hel : (encB l).size ≤ 10000000 := by
          have := encTo_size l l.length (Nat.le_refl _)
          rw [encTo_full l (fun x hx => by have := HSl.out x hx; omega)] at this
          omega
        have hem : (encB m).size ≤ 10000000 := by
          have := encTo_size m m.length (Nat.le_refl _)
          rw [encTo_full m (fun x hx => by have := HSm.out x hx; omega)] at this
          omega
        have hes : (encB (l ++ m)).size ≤ 20000000 := by rw [← HE.out, ByteArray.size_append]; omega
        clear HK
        go_wp2_with (first | ((with_reducible refine gate_dst (N := 62) rfl ?_); refine Kd.R_lit Kd.string w.heap.size 9 ?hg (N := 62) ?hd (xs := []) (inner := []) (ok := fun _ => True) (okp := fun _ => False) ?hr (Reps.none _ _) (fun _ hk => hk.elim) trivial HB1.out HB1.out.size (Nat.zero_le _) ?_; (case hd => rfl); (case hg => rfl); (case hr => first | (go_simp; done) | (go_simp; rfl)); intro v2 w2 ho2 hb2 hg2 hn2; clear hg2 hn2; have HO2 := Aside0.mk ho2; have HB2 := Aside0.mk hb2; clear ho2 hb2) | ((with_reducible refine gate_dst (N := 64) rfl ?_); at_builtin; refine Kd.R_append_rows Kd.string (Rr := fun (x : ByteArray) (cs : List Value) => cs = [.string x]) (w0 := w) w.heap.size rfl (.tmp 62) (.tmp 63) 22 9 (.string ⟨#[]⟩) 16 rfl Try.underlying22 infoStr rfl (by decide) (by omega) _ [] l A _ c (fun _ => True) (fun _ => False) rfl rfl ?aO ?aR ?aK (fun _ hk => hk.elim) (fun _ _ => trivial) ?aB ?aS ?aL ?_; (case aO => exact HO2.out); (case aR => exact Kd.C_below HC.out HB2.out); (case aK => exact fun _ _ h => h); (case aB => exact HB2.out); (case aS => exact HB2.out.size); (case aL => first | (simp only [List.length_nil]; omega) | omega); intro v3 w3 ho3 hb3 hg3 hn3; clear hg3 hn3; have HO3 := Aside0.mk ho3; have HB3 := Aside0.mk hb3; clear ho3 hb3 HO2 HB2) | ((with_reducible refine gate_dst (N := 66) rfl ?_); at_builtin; refine Kd.R_append_rows Kd.string (Rr := fun (x : ByteArray) (cs : List Value) => cs = [.string x]) (w0 := w) w.heap.size rfl (.tmp 64) (.tmp 65) 22 9 (.string ⟨#[]⟩) 16 rfl Try.underlying22 infoStr rfl (by decide) (by omega) _ l m A' _ c' (fun _ => True) (fun _ => False) rfl rfl ?aO ?aR ?aK (fun _ hk => hk.elim) (fun _ _ => trivial) ?aB ?aS ?aL ?_; (case aO => exact HO3.out); (case aR => exact Kd.C_below HC'.out HB3.out); (case aK => exact fun _ _ h => h); (case aB => exact HB3.out); (case aS => exact HB3.out.size); (case aL => first | (simp only [List.length_nil]; omega) | omega); intro v3 w3 ho3 hb3 hg3 hn3; clear hg3 hn3; have HO4 := Aside0.mk ho3; have HB4 := Aside0.mk hb3; clear ho3 hb3 HO3 HB3))
        obtain ⟨b, hb⟩ : ∃ b, l ++ m = b := ⟨_, rfl⟩
        have Hb := Aside0.mk hb
        have hbl : b.length ≤ 80 := by rw [← hb]; simp; omega
        rw [hb] at HS HE hd hes
        clear hb
        refine (encode A c l _ (Kd.C_below HC.out HB4.out) Hc.out (by omega) (fun x hx => by have := HSl.out x hx; omega)).mono ?_
        rintro e w5 ⟨rfl, hb5⟩
        have HO5 := Aside0.mk (Kd.R_below HO4.out hb5)
        have HB5 := Aside0.mk (HB4.out.trans (hb5.mono HB4.out.size))
        clear HO4 HB4 hb5
        go_wp2_with fail
        refine (encode A' c' m _ (Kd.C_below HC'.out HB5.out) Hc'.out (by omega) (fun x hx => by have := HSm.out x hx; omega)).mono ?_
        rintro e w6 ⟨rfl, hb6⟩
        have HO6 := Aside0.mk (Kd.R_below HO5.out hb6)
        have HB6 := Aside0.mk (HB5.out.trans (hb6.mono HB5.out.size))
        clear HO5 HB5 hb6
        go_wp2_with fail
        refine (decode (encB l ++ encB m) _ (by rw [HE.out]; omega)).mono ?_
        rintro e w7 ⟨v7, rfl, ho7, hb7⟩
        rw [HE.out, hd] at ho7
        rw [HE.out, hd]
        have HO7 : Aside0 (Kd.R Kd.string 9 w7 w.heap.size (fun _ => True) _ b) := ⟨by rw [← Hb.out]; exact Kd.R_below HO6.out hb7⟩
        have HB7 := Aside0.mk (HB6.out.trans (hb7.mono HB6.out.size))
        obtain ⟨A7, c7, rfl, hl7, hc7⟩ := Kd.R_reads ho7
        obtain ⟨A8, c8, rfl, hl8, hc8⟩ := Kd.R_reads HO7.out
        have HC7 := Aside0.mk hc7
        have HC8 := Aside0.mk hc8
        have HL8 := Aside0.mk hl8
        clear HO6 HB6 hb7 ho7 hl7 hc7 HO7 hc8 hl8
        go_wp2_with fail
        refine (encode A8 c8 b _ HC8.out HL8.out (by omega) (fun x hx => by have := HS.out x hx; omega)).mono ?_
        rintro e w9 ⟨rfl, hb9⟩
        have HC9 := Aside0.mk (Kd.C_below HC7.out hb9)
        have HC10 := Aside0.mk (Kd.C_below HC8.out hb9)
        have HB9 := Aside0.mk (HB7.out.trans (hb9.mono HB7.out.size))
        clear HB7 hb9 HC7 HC8
        go_wp2_with fail
        refine (texts A7 A8 c7 c8 b b w9 HC9.out HC10.out (by omega) (by omega)).mono ?_
        rintro e w10 ⟨rfl, hb10⟩
        rw [decide_eq_true rfl]
        have HB10 := Aside0.mk (HB9.out.trans (hb10.mono HB9.out.size))
        clear HB9 hb10
        go_wp2
        go_ret
        exact ⟨rfl, HB10.out⟩

theorem joins (w : World) (A : Option Addr) (c : Nat) (l : List ByteArray) (hc : l.length ≤ c) (hC : Kd.C Kd.string w A l.length l) (hz : ∀ x ∈ l, x.size ≤ maxLen)
    (A' : Option Addr) (c' : Nat) (m : List ByteArray) (hc' : m.length ≤ c') (hC' : Kd.C Kd.string w A' m.length m) (hz' : ∀ x ∈ m, x.size ≤ maxLen) :
    Calls Try.prog 6 #[.slice A l.length c, .slice A' m.length c'] w fun e w' => e = .returned (.bool true) ∧ Below w.heap.size w w' := by
  by_cases h : 40 < l.length ∨ 40 < m.length
  · exact joins0 A A' c c' l m w h
  · exact joins1 A A' c c' l m w hC hc hC' hc' (by omega) (by omega)

end Go.Proofs.Ytgfiiccajellnaa.JW
