/-
  The reference's Decode, walked.
-/
import Derived.Test.YtgfiiccajellnaaJW5
set_option linter.unusedVariables false
set_option linter.unusedSimpArgs false
namespace Go.Proofs.Ytgfiiccajellnaa.JW
open Go.RowKit Go.Proofs.Ytgfiiccajellnaa.JP Go.Proofs.YtgfiiccajellnaaW.PrintWords

/-- One record from a place on, as the reference looks at it. -/
theorem oneB_at (s : ByteArray) (p : Nat) (b0 b1 b2 b3 : Nat) (h : p + 4 ≤ s.size) (e0 : s[p].toNat = b0) (e1 : s[p+1].toNat = b1) (e2 : s[p+2].toNat = b2) (e3 : s[p+3].toNat = b3) :
    oneB (s.extract p s.size) =
      if b0 ≠ 0 ∨ b1 ≠ 0 ∨ 30000 < b2 * 256 + b3 then (⟨#[]⟩, 0, 251)
      else if s.size - p < b2 * 256 + b3 + 8 then (⟨#[]⟩, 0, 250)
      else if (s.extract p (p + (b2 * 256 + b3) + 8)).toList = (recB (s.extract (p + 4) (p + 4 + (b2 * 256 + b3)))).toList then (s.extract (p + 4) (p + 4 + (b2 * 256 + b3)), b2 * 256 + b3 + 8, 0)
      else (⟨#[]⟩, 0, 251) := by
  have hz : (s.extract p s.size).size = s.size - p := by simp
  have l0 := s[p].toNat_lt
  have l1 := s[p+1].toNat_lt
  have l2 := s[p+2].toNat_lt
  have l3 := s[p+3].toNat_lt
  unfold oneB
  rw [num4 s p h, e0, e1, e2, e3, hz, if_neg (by omega)]
  by_cases c1 : b0 ≠ 0 ∨ b1 ≠ 0 ∨ 30000 < b2 * 256 + b3
  · rw [if_pos c1, if_pos (by omega)]
  · rw [if_neg c1, if_neg (by omega)]
    have z0 : b0 = 0 := by omega
    have z1 : b1 = 0 := by omega
    subst z0 z1
    have ez : ((0 * 256 + 0) * 256 + b2) * 256 + b3 = b2 * 256 + b3 := by omega
    rw [ez]
    obtain ⟨n, hn⟩ : ∃ n, b2 * 256 + b3 = n := ⟨_, rfl⟩
    rw [hn]
    by_cases c2 : s.size - p < n + 8
    · rw [if_pos c2, if_pos (by omega)]
    · rw [if_neg c2, if_neg (by omega), ext_ext s p 0 (4 + n + 4) (by omega), ext_ext s p 4 (4 + n) (by omega)]
      rw [show p + 0 = p from rfl, show p + (4 + n + 4) = p + n + 8 from by omega, show p + (4 + n) = p + 4 + n from by omega, show 4 + n + 4 = n + 8 from by omega]

theorem decB_stop {k : Nat} {s : ByteArray} {p : Nat} {o : ByteArray × Nat × Nat} (acc : List ByteArray) (hlt : p < s.size) (ho : oneB (s.extract p s.size) = o) (hne : o.2.2 ≠ 0) :
    (acc ++ (decB (k + 1) s p).1, (decB (k + 1) s p).2) = (acc, p, o.2.2) := by
  simp only [decB]
  rw [if_pos hlt, ho, if_neg hne]
  simp
theorem decB_go {k : Nat} {s : ByteArray} {p : Nat} {o : ByteArray × Nat × Nat} (acc : List ByteArray) (hlt : p < s.size) (ho : oneB (s.extract p s.size) = o) (h0 : o.2.2 = 0) :
    (acc ++ (decB (k + 1) s p).1, (decB (k + 1) s p).2) = (acc ++ [o.1] ++ (decB k s (p + o.2.1)).1, (decB k s (p + o.2.1)).2) := by
  simp only [decB]
  rw [if_pos hlt, ho, if_pos h0]
  simp

set_option maxHeartbeats 4000000 in
set_option maxRecDepth 100000 in
theorem decode_ref (s : ByteArray) (w : World) (hs : s.size ≤ 1000000000) :
    Calls Try.prog 11 #[.string s] w fun e w' => ∃ v, e = .returned (.tuple #[v, .int .i64 (decB (s.size + 1) s 0).2.1, .int .i64 (decB (s.size + 1) s 0).2.2]) ∧ Kd.R Kd.string 9 w' w.heap.size (fun _ => True) v (decB (s.size + 1) s 0).1 ∧ Below w.heap.size w w' := by
  generalize hD : decB (s.size + 1) s 0 = D
  have HD := Aside0.mk hD
  clear hD
  go_enter Try.func11, Try.ntmps11
  go_wp2_with ((with_reducible refine gate_dst (N := 9) rfl ?_); refine Kd.R_lit Kd.string w.heap.size 9 ?hg (N := 9) ?hd (xs := []) (inner := []) (ok := fun _ => True) (okp := fun _ => False) ?hr (Reps.none _ _) (fun _ hk => hk.elim) trivial (Below.refl _ _) (Nat.le_refl _) (Nat.zero_le _) ?_; (case hd => rfl); (case hg => rfl); (case hr => first | (go_simp; done) | (go_simp; rfl)); intro v1 w1 ho1 hb1 hg1 hn1; clear hg1 hn1; have HO := Aside0.mk ho1; have HB := Aside0.mk hb1; clear ho1 hb1)
  go_loopg [5, 6] (s.size + 1) (fun g v i w' => ∃ (acc : List ByteArray) (p : Nat), i = .int .i64 p ∧ Aside0 (p ≤ s.size) ∧ Aside0 (s.size - p < g) ∧ Aside0 (acc.length ≤ p) ∧ Aside0 ((acc ++ (decB g s p).1, (decB g s p).2) = D) ∧ Aside0 (Kd.R Kd.string 9 w' w.heap.size (fun _ => True) v acc) ∧ Aside0 (Below w.heap.size w w'))
  case atStart => exact ⟨[], 0, rfl, ⟨Nat.zero_le _⟩, ⟨by omega⟩, ⟨Nat.zero_le _⟩, ⟨by rw [← HD.out]; rfl⟩, HO, HB⟩
  case round =>
    clear HD HO HB
    obtain ⟨acc, p, rfl, HP, HG, HL, HD, HO, HB⟩ := hrel
    cases gk with
    | zero => exact absurd HG.out (by omega)
    | succ k =>
      by_cases hlt : p < s.size
      · have hp := HP.out
        by_cases h4 : s.size - p < 4
        · have HD' : Aside0 ((acc, p, 250) = D) := ⟨by
            rw [← HD.out]
            simp only [decB]
            have e : oneB (s.extract p s.size) = (⟨#[]⟩, 0, 250) := by unfold oneB; rw [if_pos (by simp; omega)]
            rw [if_pos hlt, e, if_neg (by simp)]
            simp⟩
          clear HD
          go_wp2
          go_ret3
          rw [← HD'.out]
          exact ⟨_, rfl, HO.out, HB.out⟩
        · have a1 : IntKind.i64.wrap ((p : Int) + 1) = (p : Int) + 1 := IntWalk.i64_in _ (by omega)
          have a2 : IntKind.i64.wrap ((p : Int) + 2) = (p : Int) + 2 := IntWalk.i64_in _ (by omega)
          have a3 : IntKind.i64.wrap ((p : Int) + 3) = (p : Int) + 3 := IntWalk.i64_in _ (by omega)
          have c2 : (p : Int) + 2 < (s.size : Int) := by omega
          have c3 : (p : Int) + 3 < (s.size : Int) := by omega
          have d2 : (0 : Int) ≤ (p : Int) + 2 := by omega
          have d3 : (0 : Int) ≤ (p : Int) + 3 := by omega
          obtain ⟨b0, e0⟩ : ∃ b, s[p].toNat = b := ⟨_, rfl⟩
          obtain ⟨b1, e1⟩ : ∃ b, s[p+1].toNat = b := ⟨_, rfl⟩
          obtain ⟨b2, e2⟩ : ∃ b, s[p+2].toNat = b := ⟨_, rfl⟩
          obtain ⟨b3, e3⟩ : ∃ b, s[p+3].toNat = b := ⟨_, rfl⟩
          have l0 := s[p].toNat_lt
          have l1 := s[p+1].toNat_lt
          have l2 := s[p+2].toNat_lt
          have l3 := s[p+3].toNat_lt
          rw [e0] at l0
          rw [e1] at l1
          rw [e2] at l2
          rw [e3] at l3
          have OB := Aside0.mk (oneB_at s p b0 b1 b2 b3 (by omega) e0 e1 e2 e3)
          go_wp2_with fail
          go_quiet (fail)
          obtain ⟨n, hn⟩ : ∃ n, b2 * 256 + b3 = n := ⟨_, rfl⟩
          have hn2 : n ≤ 65535 := by omega
          have hc : (b2 : Int) * 256 + (b3 : Int) = (n : Int) := by omega
          rw [hn] at OB
          rw [hc]
          clear hn hc e2 e3
          have HO2 := Aside0.mk (Kd.R_drewN HO.out nq)
          have HB2 := Aside0.mk (pw_below_drewN HB.out nq)
          clear HO HB
          generalize wr.drewN nq = wq at *
          have HO := HO2
          have HB := HB2
          clear HO2 HB2
          by_cases z0 : b0 = 0
          · have t0 : ((b0 : Int) != 0) = false := by simpa using z0
            by_cases z1 : b1 = 0
            · have t1 : ((b1 : Int) != 0) = false := by simpa using z1
              by_cases z2 : 30000 < n
              · have HD' := Aside0.mk ((decB_stop (k := k) acc hlt (OB.out.trans (if_pos (Or.inr (Or.inr z2)))) (by simp)).symm.trans HD.out)
                clear HD OB
                go_wp2
                go_ret3
                rw [← HD'.out]
                exact ⟨_, rfl, HO.out, HB.out⟩
              · have hneg : ¬ (b0 ≠ 0 ∨ b1 ≠ 0 ∨ 30000 < n) := by omega
                have OB2 := Aside0.mk (OB.out.trans (if_neg hneg))
                clear OB hneg z0 z1
                by_cases z3 : s.size - p < n + 8
                · have HD' := Aside0.mk ((decB_stop (k := k) acc hlt (OB2.out.trans (if_pos z3)) (by simp)).symm.trans HD.out)
                  clear HD OB2
                  go_wp2
                  go_ret3
                  rw [← HD'.out]
                  exact ⟨_, rfl, HO.out, HB.out⟩
                · have OB3 := Aside0.mk (OB2.out.trans (if_neg z3))
                  clear OB2
                  have hs2 : (s.extract (p + 4) (p + 4 + n)).size ≤ 140737488355328 := by simp; omega
                  have q1 : IntKind.i64.wrap ((p : Int) + (n : Int)) = (p : Int) + (n : Int) := IntWalk.i64_in _ (by omega)
                  have q2 : IntKind.i64.wrap ((p : Int) + (n : Int) + 8) = (p : Int) + (n : Int) + 8 := IntWalk.i64_in _ (by omega)
                  have q3 : (p : Int) + (n : Int) + 8 ≤ (s.size : Int) := by omega
                  have q4 : (p : Int) ≤ (p : Int) + (n : Int) + 8 := by omega
                  have q5 : ((p : Int) + (n : Int) + 8).toNat = p + n + 8 := by omega
                  by_cases hc : (s.extract p (p + n + 8)).toList = (recB (s.extract (p + 4) (p + 4 + n))).toList
                  · have T : Hid (((s.extract p (p + n + 8)).toList == (recB (s.extract (p + 4) (p + 4 + n))).toList) = true) := Lib.hid (by simpa using hc)
                    have HD' := Aside0.mk ((decB_go (k := k) acc hlt (OB3.out.trans (if_pos hc)) (by simp)).symm.trans HD.out)
                    clear HD OB3 hc
                    go_wp2_with fail
                    have T1 := T.out
                    go_region_held3 (fun w' : World => True) (exact trivial) (first | (go_at_call 18; refine (record_ref _ _ hs2).mono ?_; intro e w1 hh; obtain ⟨rfl, hb1⟩ := hh))
                    clear T1 q1 q2 q3 q4 q5 T
                    have hb0 := (Below.drew (Below.refl wq.heap.size wq)).trans hb1
                    have HO2 := Aside0.mk (Kd.R_below HO.out hb0)
                    have HB2 := Aside0.mk (HB.out.trans (hb0.mono HB.out.size))
                    clear HO HB hb1 hb0
                    have HP' : Aside0 (p + (n + 8) ≤ s.size) := ⟨by omega⟩
                    have HG' : Aside0 (s.size - (p + (n + 8)) < k) := ⟨by have := HG.out; omega⟩
                    have HL' : Aside0 ((acc ++ [s.extract (p + 4) (p + 4 + n)]).length ≤ p + (n + 8)) := ⟨by have := HL.out; simp; omega⟩
                    go_wp2_with (at_builtin; refine Kd.R_append Kd.string (w0 := w) w.heap.size rfl (.tmp 79) (.tmp 81) 22 9 (.string ⟨#[]⟩) 16 rfl Try.underlying22 infoStr rfl (by decide) (by omega) _ acc (s.extract (p + 4) (p + 4 + n)) [.string (s.extract (p + 4) (p + 4 + n))] (fun _ => True) (fun _ => False) rfl rfl ?aP (fun _ hk => hk.elim) ?aF ?aO ?aB ?aS ?aL ?_)
                    case aP => exact rfl
                    case aF => exact fun _ _ => trivial
                    case aO => exact HO2.out
                    case aB => exact HB2.out
                    case aS => exact HB2.out.size
                    case aL => have := HL.out; have := HP.out; omega
                    intro v2 w2 ho2 hb2 hg2 hat2
                    have HO := Aside0.mk ho2
                    have HB := Aside0.mk hb2
                    clear ho2 hb2 hg2 hat2 HO2 HB2
                    go_wp2
                    go_roundg k
                    case measure => omega
                    case rel => exact ⟨acc ++ [s.extract (p + 4) (p + 4 + n)], p + (n + 8), by go_num, HP', HG', HL', HD', HO, HB⟩
                  · have T : Hid (((s.extract p (p + n + 8)).toList == (recB (s.extract (p + 4) (p + 4 + n))).toList) = false) := Lib.hid (by simpa using hc)
                    have HD' := Aside0.mk ((decB_stop (k := k) acc hlt (OB3.out.trans (if_neg hc)) (by simp)).symm.trans HD.out)
                    clear HD OB3 hc
                    go_wp2_with fail
                    have T1 := T.out
                    go_region_held3 (fun w' : World => True) (exact trivial) (first | (go_at_call 18; refine (record_ref _ _ hs2).mono ?_; intro e w1 hh; obtain ⟨rfl, hb1⟩ := hh))
                    clear T1 q1 q2 q3 q4 q5 T
                    have hb0 := (Below.drew (Below.refl wq.heap.size wq)).trans hb1
                    have HO2 := Aside0.mk (Kd.R_below HO.out hb0)
                    have HB2 := Aside0.mk (HB.out.trans (hb0.mono HB.out.size))
                    clear HO HB hb1 hb0
                    go_wp2
                    go_ret3
                    rw [← HD'.out]
                    exact ⟨_, rfl, HO2.out, HB2.out⟩
            · have t1 : ((b1 : Int) != 0) = true := by simpa using z1
              have HD' := Aside0.mk ((decB_stop (k := k) acc hlt (OB.out.trans (if_pos (Or.inr (Or.inl z1)))) (by simp)).symm.trans HD.out)
              clear HD OB
              go_wp2
              go_ret3
              rw [← HD'.out]
              exact ⟨_, rfl, HO.out, HB.out⟩
          · have t0 : ((b0 : Int) != 0) = true := by simpa using z0
            have HD' := Aside0.mk ((decB_stop (k := k) acc hlt (OB.out.trans (if_pos (Or.inl z0))) (by simp)).symm.trans HD.out)
            clear HD OB
            go_wp2
            go_ret3
            rw [← HD'.out]
            exact ⟨_, rfl, HO.out, HB.out⟩
      · have HD' : Aside0 ((acc, p, 0) = D) := ⟨by
            rw [← HD.out]
            simp only [decB]
            rw [if_neg hlt]
            simp⟩
        clear HD
        go_wp2
        go_ret3
        rw [← HD'.out]
        exact ⟨_, rfl, HO.out, HB.out⟩

end Go.Proofs.Ytgfiiccajellnaa.JW
