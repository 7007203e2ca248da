/-
  journal.Decode, walked.
-/
import Derived.Test.YtgfiiccajellnaaJW4
import Derived.WalkLawsBesides
set_option linter.unusedVariables false
set_option linter.unusedSimpArgs false
namespace Go.Proofs.Ytgfiiccajellnaa.JW
open Go.RowKit Go.Proofs.Ytgfiiccajellnaa.JP Go.Proofs.YtgfiiccajellnaaW.PrintWords

/-- What bytes tell, from a place on. -/
def decB : Nat → ByteArray → Nat → List ByteArray × Nat × Nat
  | 0, _, p => ([], p, 0)
  | k + 1, s, p =>
    if p < s.size then
      if (oneB (s.extract p s.size)).2.2 = 0 then
        ((oneB (s.extract p s.size)).1 :: (decB k s (p + (oneB (s.extract p s.size)).2.1)).1, (decB k s (p + (oneB (s.extract p s.size)).2.1)).2)
      else ([], p, (oneB (s.extract p s.size)).2.2)
    else ([], p, 0)

theorem oneB_ok {s : ByteArray} (h : (oneB s).2.2 = 0) : 8 ≤ (oneB s).2.1 ∧ (oneB s).2.1 ≤ s.size ∧ (oneB s).1.size + 8 = (oneB s).2.1 ∧ (oneB s).1.size ≤ 30000 := by
  unfold oneB at h ⊢
  split at h
  · simp at h
  · rename_i h1
    split at h
    · simp at h
    · rename_i h2
      split at h
      · simp at h
      · rename_i h3
        split at h
        · rename_i h4
          rw [if_neg h1, if_neg h2, if_neg h3, if_pos h4]
          generalize num (s.extract 0 4).data.toList = n at *
          simp
          omega
        · simp at h

theorem oneB_cases (s : ByteArray) : (oneB s).2.2 = 0 ∨ (oneB s).2.2 = 250 ∨ (oneB s).2.2 = 251 := by
  unfold oneB
  repeat' split
  all_goals simp

theorem infoStr : (Try.prog.info? 9).map (fun i => (i.zero, i.size, i.bytes)) = some (some (.string ⟨#[]⟩), 1, 16) := by kernel_rfl

set_option maxHeartbeats 2000000 in
set_option maxRecDepth 100000 in
theorem decode (s : ByteArray) (w : World) (hs : s.size ≤ 1000000000) :
    Calls Try.prog 10 #[.string s] w fun e w' => ∃ v, e = .returned (.tuple #[v, .int .i64 (decB (s.size + 1) s 0).2.1, .int .i64 (decB (s.size + 1) s 0).2.2]) ∧ Kd.R Kd.string 9 w' w.heap.size (fun _ => True) v (decB (s.size + 1) s 0).1 ∧ Below w.heap.size w w' := by
  generalize hD : decB (s.size + 1) s 0 = D
  have HD := Aside0.mk hD
  clear hD
  go_enter Try.func10, Try.ntmps10
  go_wp2
  go_loopg [5, 6] (s.size + 1) (fun g v i w' => ∃ (acc : List ByteArray) (p : Nat), i = .int .i64 p ∧ Aside0 (p ≤ s.size) ∧ Aside0 (s.size - p < g) ∧ Aside0 (acc.length ≤ p) ∧ Aside0 ((acc ++ (decB g s p).1, (decB g s p).2) = D) ∧ Aside0 (Kd.R Kd.string 9 w' w.heap.size (fun _ => True) v acc) ∧ Aside0 (Below w.heap.size w w'))
  case atStart => exact ⟨[], 0, rfl, ⟨Nat.zero_le _⟩, ⟨by omega⟩, ⟨Nat.zero_le _⟩, ⟨by rw [← HD.out]; rfl⟩, ⟨Kd.R_nil _ _ _ _ _⟩, ⟨Below.refl _ _⟩⟩
  case round =>
    clear HD
    obtain ⟨acc, p, rfl, HP, HG, HL, HD, HO, HB⟩ := hrel
    cases gk with
    | zero => exact absurd HG.out (by omega)
    | succ k =>
      by_cases hlt : p < s.size
      · have hp := HP.out
        have hsz : (s.extract p s.size).size ≤ 140737488355328 := by simp; omega
        obtain ⟨o, ho⟩ : ∃ o, oneB (s.extract p s.size) = o := ⟨_, rfl⟩
        have HO1 := Aside0.mk ho
        by_cases h0 : o.2.2 = 0
        · have hok := oneB_ok (s := s.extract p s.size) (by rw [ho]; exact h0)
          rw [ho] at hok
          have e1 : (s.extract p s.size).size = s.size - p := by simp
          rw [e1] at hok
          have HD' : Aside0 ((acc ++ [o.1] ++ (decB k s (p + o.2.1)).1, (decB k s (p + o.2.1)).2) = D) := ⟨by
            rw [← HD.out]
            simp only [decB]
            rw [if_pos hlt, ho, if_pos h0]
            simp⟩
          have H0 := Aside0.mk h0
          have t0 : ((o.2.2 : Int) == 0) = true := by rw [h0]; rfl
          have t1 : ((o.2.2 : Int) != 0) = false := by rw [h0]; rfl
          obtain ⟨k1, k2, k3, k4⟩ := hok
          clear ho HD h0 e1
          have HK3 := Aside0.mk k3
          have HL' : Aside0 ((acc ++ [o.1]).length ≤ p + o.2.1) := ⟨by have := HL.out; simp; omega⟩
          have HP' : Aside0 (p + o.2.1 ≤ s.size) := ⟨by omega⟩
          have HG' : Aside0 (s.size - (p + o.2.1) < k) := ⟨by have := HG.out; omega⟩
          clear k3
          go_wp2_with fail
          refine (one _ _ hsz).mono ?_
          rw [HO1.out]
          rintro e w1 ⟨rfl, hb1⟩
          have HO2 := Aside0.mk (Kd.R_below HO.out hb1)
          have HB2 := Aside0.mk (HB.out.trans (hb1.mono HB.out.size))
          clear HO HB hb1
          go_wp2_with (at_builtin; refine Kd.R_append Kd.string (w0 := w) w.heap.size rfl (.tmp 27) (.tmp 29) 22 9 (.string ⟨#[]⟩) 16 rfl Try.underlying22 infoStr rfl (by decide) (by omega) _ acc o.1 [.string o.1] (fun _ => True) (fun _ => False) rfl rfl ?aP (fun _ hk => hk.elim) ?aF ?aO ?aB ?aS ?aL ?_)
          case aP => exact rfl
          case aF => exact fun _ _ => trivial
          case aO => exact HO2.out
          case aB => exact HB2.out
          case aS => exact HB2.out.size
          case aL => have := HL.out; have := HP.out; omega
          intro v2 w2 ho2 hb2 hg2 hat2
          have HO := Aside0.mk ho2
          have HB := Aside0.mk hb2
          clear ho2 hb2 hg2 hat2 HO2 HB2
          go_wp2
          go_roundg k
          case measure => omega
          case rel => exact ⟨acc ++ [o.1], p + o.2.1, by go_num, HP', HG', HL', HD', HO, HB⟩
        · have HD' : Aside0 ((acc, p, o.2.2) = D) := ⟨by
            rw [← HD.out]
            simp only [decB]
            rw [if_pos hlt, ho, if_neg h0]
            simp⟩
          have t0 : ((o.2.2 : Int) == 0) = false := by simpa using h0
          have t1 : ((o.2.2 : Int) != 0) = true := by simpa using h0
          clear ho HD h0
          go_wp2_with fail
          refine (one _ _ hsz).mono ?_
          rw [HO1.out]
          rintro e w1 ⟨rfl, hb1⟩
          have HO2 := Aside0.mk (Kd.R_below HO.out hb1)
          have HB2 := Aside0.mk (HB.out.trans (hb1.mono HB.out.size))
          clear HO HB hb1
          go_wp2
          go_ret3
          rw [← HD'.out]
          exact ⟨_, rfl, HO2.out, HB2.out⟩
      · have HD' : Aside0 ((acc, p, 0) = D) := ⟨by
            rw [← HD.out]
            simp only [decB]
            rw [if_neg hlt]
            simp⟩
        clear HD
        go_wp2
        go_ret3
        rw [← HD'.out]
        exact ⟨_, rfl, HO.out, HB.out⟩

end Go.Proofs.Ytgfiiccajellnaa.JW
