/-
  WordBack, walked.
-/
import Derived.Test.YtjmffehffmmobaaWL3
import Derived.Test.YtjmffehffmmobaaWJoins
set_option linter.unusedVariables false
set_option linter.unusedSimpArgs false
namespace Go.Proofs.Ytjmffehffmmobaa.WW
open Go.Proofs Go.RowKit Go.Proofs.Ytjmffehffmmobaa.WP Go.Proofs.YtjmffehffmmobaaW.PrintWords Go.Proofs.Ytjmffehffmmobaa.PWordLexes

theorem texts_tk (l : List S31) : (l.map (·.f1)).map (·.data.toList) = (l.map tk).map (·.2.data.toList) := by
  rw [List.map_map, List.map_map]
  rfl
theorem lexL_bound (k : Nat) : ∀ (l : List UInt8) (p : Nat × Nat) (ts : List S31), lexL k l p = .inr ts → 1 ≤ p.2 → ∀ t ∈ ts, 1 ≤ t.f3 ∧ t.f3 ≤ p.2 + l.length ∧ t.f1.size ≤ 100 := by
  induction k with
  | zero => intro l p ts h _; injection h with h; subst h; simp
  | succ k ih =>
    intro l p ts h hp
    rw [lexL.eq_2] at h
    split at h
    · injection h with h; subst h; simp
    · rename_i hne
      split at h
      · cases h
      · have ha := advP_le p (l.take (runL isB l)) hp
        have hr := runL_le isB l
        rw [List.length_take] at ha
        have hd : (l.drop (runL isB l)).length = l.length - runL isB l := List.length_drop ..
        generalize advP p (l.take (runL isB l)) = q at *
        generalize l.drop (runL isB l) = l1 at *
        have hadv := advP_tok q l1 hne
        have hle := kindL_le l1 hne
        have h100 := (kindL_le100 l1).1
        rw [hadv] at h
        cases hR : lexL k (l1.drop (kindL l1).2) (q.1, q.2 + (kindL l1).2) with
        | inl x => rw [hR] at h; cases h
        | inr tr =>
          rw [hR] at h
          injection h with h
          subst h
          have hi := ih _ _ tr hR (by simp only []; omega)
          have hs : (mkB (l1.take (kindL l1).2)).size = (kindL l1).2 := by
            show (l1.take (kindL l1).2).toArray.size = _
            rw [List.size_toArray, List.length_take]
            omega
          intro t ht
          rcases List.mem_cons.1 ht with rfl | ht
          · exact ⟨by simp only []; omega, by simp only []; omega, by simp only [hs]; omega⟩
          · have := hi t ht
            rw [List.length_drop] at this
            simp only [] at this
            omega
/-- What a text's tokens come to, printed, and read again. -/
theorem back_facts (s : ByteArray) (hs : s.size ≤ 3000) (l : List S31) (h : lexD s = (l, 0, 0, 0)) :
    ∃ m, lexD (printB l) = (m, 0, 0, 0) ∧ l.map tk = m.map tk ∧ printB m = printB l ∧ (printB l).size ≤ 6000 ∧ l.length ≤ 3000 ∧ (Lib.join ((l.map (·.f1)).map (·.data.toList)) [32]).length ≤ 6000 ∧ chain (1, 1) l ∧ ∀ t ∈ l, 1 ≤ t.f3 ∧ t.f3 ≤ 10000 ∧ t.f1.size ≤ 100 := by
  rcases lexD_cases s with ⟨q, h1, _⟩ | ⟨ts, h1, hT⟩
  · rw [h1] at h; injection h with _ h; injection h with h; exact absurd h (by decide)
  · obtain rfl : ts = l := by rw [h1] at h; injection h
    have hsz : s.data.toList.length = s.size := by simp
    obtain ⟨w1, w2, w3⟩ := lexT_whole _ _ _ hT
    rw [hsz] at w2 w3
    have hj := join_len (ts.map tk)
    have hP : (printB ts).data.toList = Lib.join ((ts.map tk).map (·.2.data.toList)) [32] := by unfold printB; rw [texts_tk]
    have hPs : (printB ts).size = (Lib.join ((ts.map tk).map (·.2.data.toList)) [32]).length := by rw [← hP]; simp
    have hl : (ts.map tk).length = ts.length := List.length_map ..
    have hpr := lexT_print (ts.map tk) w1 ((printB ts).size + 1) (by omega)
    have hR : lexL (s.size + 1) s.data.toList (1, 1) = .inr ts := by
      skip
      have hR : lexL (s.size + 1) s.data.toList (1, 1) = .inr ts := by
        unfold lexD at h1
        rw [lexB_list] at h1
        cases hx : lexL (s.size + 1) s.data.toList (1, 1) with
        | inl q => rw [hx] at h1; injection h1 with _ h1; injection h1 with h1; exact absurd h1 (by decide)
        | inr tr => rw [hx] at h1; injection h1 with h1; rw [← h1]; rfl
      exact hR
    have hch : chain (1, 1) ts := lexL_chain _ _ _ _ hR
    have hbd := lexL_bound _ _ _ _ hR (Nat.le_refl _)
    rcases lexD_cases (printB ts) with ⟨q, h2, hn⟩ | ⟨m, h2, hm⟩
    · rw [hP, hpr] at hn; cases hn
    · rw [hP, hpr] at hm
      injection hm with hm
      have hpm : printB m = printB ts := by unfold printB; rw [texts_tk, texts_tk, hm]
      exact ⟨m, h2, hm, hpm, by omega, by omega, by rw [texts_tk]; omega, hch, fun t ht => by have := hbd t ht; simp only [] at this; rw [hsz] at this; omega⟩

set_option maxHeartbeats 1000000 in
set_option maxRecDepth 100000 in
theorem back_out (s : ByteArray) (W : World) (hs : 3000 < s.size) :
    Calls Try.prog 4 #[.string s] W fun e W' => e = .returned (.bool true) ∧ Below W.heap.size W W' := by
  have HF := fun w => Lib.hid (fixed w)
  go_enter Try.func4, Try.ntmps4
  go_wp2_with fail
  refine (HF _).out.mono ?_
  rintro e w1 ⟨rfl, hb1⟩
  go_wp2_with fail
  refine (HF _).out.mono ?_
  rintro e w2 ⟨rfl, hb2⟩
  go_wp2
  go_ret
  exact ⟨rfl, hb1.trans (hb2.mono hb1.size)⟩

set_option maxHeartbeats 1000000 in
set_option maxRecDepth 100000 in
theorem back_err (s : ByteArray) (W : World) (hs : s.size ≤ 3000) (q : Nat × Nat) (h : lexD s = ([], 90, (q.1 : Int), (q.2 : Int))) :
    Calls Try.prog 4 #[.string s] W fun e W' => e = .returned (.bool true) ∧ Below W.heap.size W W' := by
  have hq : 1 ≤ q.1 ∧ 1 ≤ q.2 := by
    have h1 := h
    unfold lexD at h1
    rw [lexB_list] at h1
    cases hx : lexL (s.size + 1) s.data.toList (1, 1) with
    | inl x =>
      rw [hx] at h1
      have he := lexL_err _ _ _ _ hx (Nat.le_refl _) (Nat.le_refl _)
      injection h1 with _ h1
      injection h1 with _ h1
      injection h1 with a1 a2
      omega
    | inr tr => rw [hx] at h1; injection h1 with _ h1; injection h1 with h1; exact absurd h1 (by decide)
  obtain ⟨q1, q2⟩ := hq
  have HF := fun w => Lib.hid (fixed w)
  have HA := fun w => Lib.hid (lex_at s w (by omega) _ h)
  clear h
  go_enter Try.func4, Try.ntmps4
  go_wp2_with fail
  refine (HF _).out.mono ?_
  rintro e w1 ⟨rfl, hb1⟩
  go_wp2_with fail
  refine (HA _).out.mono ?_
  rintro e w2 ⟨A2, c2, rfl, hc2, HC2, hb2⟩
  go_wp2
  go_ret
  exact ⟨by first | rfl | (simp; done) | (simp; omega), hb1.trans (hb2.mono hb1.size)⟩

set_option maxHeartbeats 2000000 in
set_option maxRecDepth 100000 in
theorem back_ok (s : ByteArray) (W : World) (hs : s.size ≤ 3000) (l m : List S31) (h : lexD s = (l, 0, 0, 0)) (t : ByteArray) (ht : printB l = t) (hm : lexD t = (m, 0, 0, 0)) (htk : l.map tk = m.map tk) (hpm : printB m = t) (hts : t.size ≤ 6000) (hl : l.length ≤ 3000) (hj : (Lib.join ((l.map (·.f1)).map (·.data.toList)) [32]).length ≤ 6000) (hch : chain (1, 1) l) (hbd : ∀ t ∈ l, 1 ≤ t.f3 ∧ t.f3 ≤ 10000 ∧ t.f1.size ≤ 100) :
    Calls Try.prog 4 #[.string s] W fun e W' => e = .returned (.bool true) ∧ Below W.heap.size W W' := by
  have HF := fun w => Lib.hid (fixed w)
  have HA := fun w => Lib.hid (lex_at s w (by omega) _ h)
  have HB := fun w => Lib.hid (lex_at t w (by omega) _ hm)
  have hml : m.length = l.length := by have := congrArg List.length htk; simpa using this.symm
  have hjm : (Lib.join ((m.map (·.f1)).map (·.data.toList)) [32]).length ≤ 6000 := by rw [texts_tk, ← htk, ← texts_tk]; exact hj
  have HT := Aside0.mk htk
  have HCh := Aside0.mk hch
  have HBd := Aside0.mk hbd
  have HP := Aside0.mk ht
  have HPm := Aside0.mk hpm
  have HJ := Aside0.mk (And.intro hj hjm)
  clear h hm htk hch ht hpm hj hjm hbd
  go_enter Try.func4, Try.ntmps4
  go_wp2_with fail
  refine (HF _).out.mono ?_
  rintro e w1 ⟨rfl, hb1⟩
  go_wp2_with fail
  refine (HA _).out.mono ?_
  rintro e w2 ⟨A2, c2, rfl, hc2, HC2, hb2⟩
  simp only [] at HC2 hc2 ⊢
  go_wp2_with fail
  refine (print A2 c2 l w2 (by omega) hc2 HC2.out (by have := HJ.out.1; omega)).mono ?_
  rw [HP.out]
  rintro e w3 ⟨rfl, hb3⟩
  go_wp2_with fail
  refine (HB _).out.mono ?_
  rintro e w4 ⟨A4, c4, rfl, hc4, HC4, hb4⟩
  simp only [] at HC4 hc4 ⊢
  have HBl := Aside0.mk (((hb1.trans (hb2.mono hb1.size)).trans (hb3.mono (Nat.le_trans hb1.size hb2.size))).trans (hb4.mono (Nat.le_trans (Nat.le_trans hb1.size hb2.size) hb3.size)))
  have HC2b := Aside0.mk (Kd.C_below (Kd.C_below HC2.out hb3) hb4)
  clear hb1 hb2 hb3 hb4 HC2 HF HA HB
  go_wp2
  go_loopg [12] (l.length) (fun g v w' => ∃ j : Nat, v = .int .i64 ((j : Int) + 1) ∧ Aside0 (g + j = l.length) ∧ Aside0 (Below w4.heap.size w4 w'))
  case atStart => exact ⟨0, rfl, ⟨by omega⟩, ⟨Below.refl _ _⟩⟩
  case round =>
    obtain ⟨j, rfl, HG, HW⟩ := hrel
    have hg := HG.out
    by_cases hlt : j + 1 < l.length
    · have hch := chain_at l (1, 1) j hlt HCh.out
      obtain ⟨ad, e1, x0, x1, x2, x3⟩ := at_T31 (Kd.C_below HC2b.out HW.out) (j : Int) (by omega) (by omega)
      cases e1
      obtain ⟨ad2, e2, y0, y1, y2, y3⟩ := at_T31 (Kd.C_below HC2b.out HW.out) ((j : Int) + 1) (by omega) (by omega)
      cases e2
      rw [rd_at l j (by omega), Int.toNat_natCast] at x0 x1 x2 x3
      rw [show ((j : Int) + 1) = ((j + 1 : Nat) : Int) by omega, rd_at l (j + 1) hlt, Int.toNat_natCast] at y0 y1 y2 y3
      have hbx := HBd.out l[j] (List.getElem_mem _)
      have hby := HBd.out l[j + 1] (List.getElem_mem _)
      generalize hx : l[j] = X at *
      generalize hy : l[j + 1] = Y at *
      clear hx hy
      have t1 : decide (Y.f2 < X.f2) = false := decide_eq_false (by omega)
      have HN : Aside0 (gk - 1 + (j + 1) = l.length ∧ gk - 1 < gk) := ⟨by omega⟩
      have wr1 : IntKind.i64.wrap (X.f3 + (X.f1.size : Int)) = X.f3 + (X.f1.size : Int) := IntWalk.i64_in _ (by omega)
      by_cases heq : Y.f2 = X.f2
      · have t2 : (Y.f2 == X.f2) = true := beq_iff_eq.mpr heq
        have t3 : decide (Y.f3 < X.f3 + (X.f1.size : Int)) = false := decide_eq_false (by have := hch.2 heq; omega)
        clear heq hch hbx hby
        go_wp2_with fail
        go_quiet (fail)
        go_wp2
        go_roundg (gk - 1)
        case measure => exact HN.out.2
        case rel => exact ⟨j + 1, by go_num, ⟨HN.out.1⟩, ⟨by first | exact HW.out | exact HW.out.drew | exact Below.drew HW.out | exact HW.out.trans ((Drawn0.refl _).step _).below | exact HW.out.trans (((Drawn0.refl _).step _).below.mono HW.out.size)⟩⟩
      · have t2 : (Y.f2 == X.f2) = false := beq_eq_false_iff_ne.mpr heq
        clear heq hch hbx hby
        go_wp2_with fail
        go_quiet (fail)
        go_wp2
        go_roundg (gk - 1)
        case measure => exact HN.out.2
        case rel => exact ⟨j + 1, by go_num, ⟨HN.out.1⟩, ⟨by first | exact HW.out | exact HW.out.drew | exact Below.drew HW.out | exact HW.out.trans ((Drawn0.refl _).step _).below | exact HW.out.trans (((Drawn0.refl _).step _).below.mono HW.out.size)⟩⟩
    · have t0 : decide ((j : Int) + 1 < (l.length : Int)) = false := decide_eq_false (by omega)
      have ea := alike_at A2 c2 l A4 c4 m _ (Kd.C_below HC2b.out HW.out) hc2 (Kd.C_below HC4.out HW.out) hc4 HT.out (by omega)
      rw [hml] at ea
      have EA := Lib.hid ea
      clear ea
      go_wp2_with fail
      refine EA.out.mono ?_
      rintro e w6 ⟨rfl, hb6⟩
      have ep := print A4 c4 m w6 (by omega) hc4 (Kd.C_below (Kd.C_below HC4.out HW.out) hb6) (by have := HJ.out.2; omega)
      rw [HPm.out, hml] at ep
      have EP := Lib.hid ep
      clear ep
      go_wp2_with fail
      refine EP.out.mono ?_
      rintro e w7 ⟨rfl, hb7⟩
      go_wp2
      go_ret
      exact ⟨by first | rfl | (simp; done), HBl.out.trans ((HW.out.mono HBl.out.size).trans ((hb6.mono (Nat.le_trans HBl.out.size HW.out.size)).trans (hb7.mono (Nat.le_trans (Nat.le_trans HBl.out.size HW.out.size) hb6.size))))⟩

theorem back (W : World) (s : ByteArray) (hs0 : s.size ≤ 140737488351232) :
    Calls Try.prog 4 #[.string s] W fun e W' => e = .returned (.bool true) ∧ Below W.heap.size W W' := by
  by_cases hs : s.size ≤ 3000
  · rcases lexD_cases s with ⟨q, h, _⟩ | ⟨l, h, _⟩
    · exact back_err s W hs q h
    · obtain ⟨m, h1, h2, h3, h4, h5, h6, h7, h8⟩ := back_facts s hs l h
      exact back_ok s W hs l m h _ rfl h1 h2 h3 h4 h5 h6 h7 h8
  · exact back_out s W (by omega)

end Go.Proofs.Ytjmffehffmmobaa.WW
