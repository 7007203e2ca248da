/-
  word's scanner: run, take, kind, walked.
-/
import Derived.Test.YtjmffehffmmobaaWW1
import Derived.Deep.RegionWith
import Derived.Deep.RegionHeld3
set_option linter.unusedVariables false
set_option linter.unusedSimpArgs false
namespace Go.Proofs.Ytjmffehffmmobaa.WW
open Go.RowKit Go.Proofs.Ytjmffehffmmobaa.WP Go.Proofs.Ytjmffehffmmobaa.Fl Go.Proofs.YtjmffehffmmobaaW.PrintWords

theorem runL_step (p : Nat → Bool) (s : ByteArray) (n : Nat) (h : n < s.size) :
    runL p (s.data.toList.drop n) = if p (s[n].toNat) then runL p (s.data.toList.drop (n + 1)) + 1 else 0 := by
  rw [List.drop_eq_getElem_cons (by simpa using h)]
  rfl

set_option maxHeartbeats 1000000 in
set_option maxRecDepth 100000 in
theorem run (g : FuncId) (p : Nat → Bool) (hg : ∀ (c : Nat) (w : World), c < 256 → Calls Try.prog g #[.int .u8 c] w fun e w' => e = .returned (.bool (p c)) ∧ w = w')
    (hf : ∀ (args : Array Value) (w : World), (callFunc g args).run Try.prog w = .ok (.enter g args) w)
    (b : Nat) (s : ByteArray) (pl : Nat × Nat) (m : Int) (w : World) (h : Scan b s pl w) (hs : s.size ≤ 1000000000) (h0 : 0 ≤ m) (h1 : m ≤ s.size) :
    Calls Try.prog 16 #[.pointer (some ⟨b, 0, none⟩), .int .i64 m, .func (.func g) #[] #[]] w fun e w' => e = .returned (.int .i64 (runL p (s.data.toList.drop m.toNat))) ∧ w = w' := by
  have hc := h.s
  clear h
  obtain ⟨m, rfl⟩ := Int.eq_ofNat_of_zero_le h0
  rw [Int.toNat_natCast]
  have HG := Lib.hid hg
  clear hg
  go_enter Try.func16, Try.ntmps16
  go_wp2
  go_loopg [7] s.size (fun q v w' => ∃ n : Nat, v = .int .i64 n ∧ Aside0 (n ≤ s.size) ∧ Aside0 (m ≤ n) ∧ Aside0 (s.size ≤ q + n) ∧ Aside0 (runL p (s.data.toList.drop m) = n - m + runL p (s.data.toList.drop n)) ∧ Aside0 (w = w'))
  case atStart => exact ⟨m, rfl, ⟨by omega⟩, ⟨Nat.le_refl _⟩, ⟨by omega⟩, ⟨by omega⟩, ⟨rfl⟩⟩
  case round =>
    obtain ⟨n, rfl, HN, HM, HQ, HR, HW⟩ := hrel
    obtain rfl := HW.out
    have hn := HN.out
    have hm := HM.out
    by_cases hlt : n < s.size
    · have hst := runL_step p s n hlt
      have hb := s[n].toNat_lt
      have HP := Lib.hid (HG.out s[n].toNat w (by omega))
      cases hp : p s[n].toNat
      · rw [hp] at hst HP
        have HE : Aside0 (runL p (s.data.toList.drop m) = n - m) := ⟨by rw [HR.out, hst]; rfl⟩
        clear hst hp
        go_wp2_with fail
        refine HP.out.mono ?_
        rintro e w1 ⟨rfl, rfl⟩
        go_wp2
        go_ret
        rw [HE.out]
        exact ⟨by congr 1; simp; omega, rfl⟩
      · rw [hp] at hst HP
        have HE : Aside0 (runL p (s.data.toList.drop m) = n + 1 - m + runL p (s.data.toList.drop (n + 1))) := ⟨by rw [HR.out, hst, if_pos rfl]; omega⟩
        have HQ2 : Aside0 (s.size ≤ gk - 1 + (n + 1)) := ⟨by have := HQ.out; omega⟩
        have hq : gk - 1 < gk := by have := HQ.out; omega
        clear hst hp HR HQ
        go_wp2_with fail
        refine HP.out.mono ?_
        rintro e w1 ⟨rfl, rfl⟩
        go_wp2
        go_roundg (gk - 1)
        case measure => exact hq
        case rel => exact ⟨n + 1, by go_num, ⟨by omega⟩, ⟨by omega⟩, HQ2, HE, ⟨rfl⟩⟩
    · have HE : Aside0 (runL p (s.data.toList.drop m) = n - m) := ⟨by
        rw [HR.out, List.drop_eq_nil_of_le (by simp; omega)]; rfl⟩
      go_wp2
      go_ret
      rw [HE.out]
      exact ⟨by congr 1; simp; omega, rfl⟩

theorem advP_take (p : Nat × Nat) (s : ByteArray) (j : Nat) (h : j < s.size) : advP p (s.data.toList.take (j + 1)) = stepP (advP p (s.data.toList.take j)) s[j] := by
  rw [List.take_succ_eq_append_getElem (by simpa using h)]
  unfold advP
  rw [List.foldl_append]
  rfl
theorem stepP_le (p : Nat × Nat) (c : UInt8) : (stepP p c).1 ≤ p.1 + 1 ∧ (stepP p c).2 ≤ p.2 + 1 ∧ p.1 ≤ (stepP p c).1 ∧ 1 ≤ (stepP p c).2 := by
  unfold stepP
  split <;> simp <;> omega
theorem advP_le (p : Nat × Nat) (l : List UInt8) (h : 1 ≤ p.2) : (advP p l).1 ≤ p.1 + l.length ∧ (advP p l).2 ≤ p.2 + l.length ∧ p.1 ≤ (advP p l).1 ∧ 1 ≤ (advP p l).2 := by
  induction l generalizing p with
  | nil => exact ⟨by simp [advP], by simp [advP], by simp [advP], h⟩
  | cons c l ih =>
    have h1 := stepP_le p c
    have h2 := ih (stepP p c) h1.2.2.2
    show (advP (stepP p c) l).1 ≤ _ ∧ (advP (stepP p c) l).2 ≤ _ ∧ _ ≤ (advP (stepP p c) l).1 ∧ _
    rw [List.length_cons]
    exact ⟨by omega, by omega, by omega, h2.2.2.2⟩

theorem grown_refl (w : World) (r : Option Nat) : w.grownBy w r := ⟨rfl, rfl, rfl, Nat.le_refl _, fun _ _ _ => rfl⟩
theorem grown_trans {w w1 w2 : World} {r : Option Nat} (h : w.grownBy w1 r) (h' : w1.grownBy w2 r) : w.grownBy w2 r :=
  ⟨h'.os.trans h.os, h'.tape.trans h.tape, h'.output.trans h.output, Nat.le_trans h.size h'.size, fun k hk hr => (h'.block k (Nat.lt_of_lt_of_le hk h.size) hr).trans (h.block k hk hr)⟩
theorem grown_drew {w w1 : World} {r : Option Nat} (h : w.grownBy w1 r) : w.grownBy w1.drew r := ⟨h.os, h.tape, h.output, h.size, h.block⟩
theorem grown_set {w w1 : World} {b j : Nat} (h : w.grownBy w1 (some b)) (v : Value) : w.grownBy (w1.setCell ⟨b, j, none⟩ v) (some b) :=
  ⟨h.os, h.tape, h.output, by simpa [World.setCell] using h.size, fun k hk hr => (Below.heap_setCell w1 ⟨b, j, none⟩ v k (fun e => hr (by rw [e]))).trans (h.block k hk hr)⟩

theorem Scan.set_at {b : Nat} {s : ByteArray} {p q : Nat × Nat} {w : World} (h : Scan b s p w) : Scan b s q (w.setCell ⟨b, 1, none⟩ (.complex .f64 (fb q.1) (fb q.2))) := by
  unfold Scan at h ⊢
  simp [World.setCell, Array.getElem?_modify, h]
theorem Scan.set_s {b : Nat} {s t : ByteArray} {p : Nat × Nat} {w : World} (h : Scan b s p w) : Scan b t p (w.setCell ⟨b, 0, none⟩ (.string t)) := by
  unfold Scan at h ⊢
  simp [World.setCell, Array.getElem?_modify, h]
theorem Scan.store {b : Nat} {s : ByteArray} {p : Nat × Nat} {w : World} (h : Scan b s p w) (x y : Nat) : (Go.store ⟨b, 1, none⟩ (.complex .f64 x y)).run Try.prog w = .ok () (w.setCell ⟨b, 1, none⟩ (.complex .f64 x y)) := by
  rw [run_store _ _ _ _ _ rfl, h.at]
  simp [h.free]
theorem Scan.drew {b : Nat} {s : ByteArray} {p : Nat × Nat} {w : World} (h : Scan b s p w) : Scan b s p w.drew := h

theorem behind' (p : Nat × Nat) (b : UInt8) (w : World) (h1 : 1 ≤ p.1) (h2 : p.1 ≤ 500000000000) (h3 : 1 ≤ p.2) (h4 : p.2 ≤ 500000000000) :
    Calls Try.prog 22 #[.complex .f64 (fb p.1) (fb p.2), .int .u8 b.toNat] w fun e w' => e = .returned (.complex .f64 (fb (stepP p b).1) (fb (stepP p b).2)) ∧ w = w' := by
  refine (behind p.1 p.2 b.toNat w b.toNat_lt (by omega) (by omega) (by omega) (by omega)).mono ?_
  intro e w' h
  refine ⟨h.1.trans ?_, h.2⟩
  unfold stepP
  split <;> rfl

set_option maxHeartbeats 1000000 in
set_option maxRecDepth 100000 in
theorem take (b : Nat) (s : ByteArray) (p : Nat × Nat) (n : Int) (w : World) (h : Scan b s p w) (hs : s.size ≤ 1000000000) (h0 : 0 ≤ n) (h1 : n ≤ s.size) (hp1 : 1 ≤ p.1) (hp2 : 1 ≤ p.2) (hp3 : p.1 + s.size ≤ 500000000000) (hp4 : p.2 + s.size ≤ 500000000000) :
    Calls Try.prog 15 #[.pointer (some ⟨b, 0, none⟩), .int .i64 n] w fun e w' => e = .returned (.string (s.extract 0 n.toNat)) ∧ Scan b (s.extract n.toNat s.size) (advP p (s.data.toList.take n.toNat)) w' ∧ w.grownBy w' (some b) := by
  obtain ⟨n, rfl⟩ := Int.eq_ofNat_of_zero_le h0
  rw [Int.toNat_natCast]
  have hc := h.s
  have HS := Aside0.mk h
  clear h
  have hx : (s.extract 0 n).size = n := by simp; omega
  have hxi : ∀ (j : Nat) (h : j < (s.extract 0 n).size) (h' : j < s.size), (s.extract 0 n)[j] = s[j] := by
    intro j h h'
    rw [ByteArray.getElem_extract]
    simp
  obtain ⟨t, ht⟩ : ∃ t, t = s.extract 0 n := ⟨_, rfl⟩
  have HX : Aside0 (∀ (j : Nat) (h : j < t.size) (h' : j < s.size), t[j] = s[j]) := ⟨by subst ht; exact hxi⟩
  rw [← ht] at hx ⊢
  have HT : Aside0 (s.extract 0 n = t) := ⟨ht.symm⟩
  clear ht hxi
  go_enter Try.func15, Try.ntmps15
  go_wp2
  rw [HT.out]
  go_loopg [14] n (fun g v w' => ∃ j : Nat, v = .int .i64 j ∧ Aside0 (j ≤ n) ∧ Aside0 (n ≤ g + j) ∧ Aside0 (Scan b s (advP p (s.data.toList.take j)) w') ∧ Aside0 (w.grownBy w' (some b)))
  case atStart => exact ⟨0, rfl, ⟨Nat.zero_le _⟩, ⟨by omega⟩, ⟨HS.out⟩, ⟨grown_refl _ _⟩⟩
  case round =>
    clear HS hc
    obtain ⟨j, rfl, HJ, HG, HS, HW⟩ := hrel
    have hj := HJ.out
    by_cases hlt : j < n
    · have hle := advP_le p (s.data.toList.take j) hp2
      have hll : (s.data.toList.take j).length ≤ s.size := by simp; omega
      have hn1 : n ≤ gk - 1 + (j + 1) := by have := HG.out; omega
      have hn2 : gk - 1 < gk := by have := HG.out; omega
      have HN := Lib.hid (And.intro hn1 hn2)
      clear hn1 hn2
      have hy := HX.out j (by omega) (by omega)
      have HR := Lib.hid (advP_take p s j (by omega))
      clear HX HG
      generalize hc' : s[j] = c at hy HR
      clear hc'
      obtain ⟨q, hq⟩ : ∃ q, q = advP p (s.data.toList.take j) := ⟨_, rfl⟩
      rw [← hq] at hle HR HS
      clear hq
      have HB := Lib.hid (fun W => behind' q c W (by omega) (by omega) (by omega) (by omega))
      have hat := HS.out.at
      have hf1 := HS.out.free 1
      have hst := HS.out.drew.store
      go_wp2_with fail
      have hat2 := HS.out.drew.at
      have hf2 := HS.out.drew.free 1
      go_region_with (first | (go_at_call 22; refine (HB.out _).mono ?_; intro e w1 hh; obtain ⟨rfl, rfl⟩ := hh))
      all_goals
        go_wp2
        go_roundg (gk - 1)
        case measure => exact HN.out.2
        case rel => exact ⟨j + 1, by go_num, ⟨by omega⟩, ⟨HN.out.1⟩, ⟨by rw [HR.out]; exact HS.out.drew.set_at⟩, ⟨grown_set (grown_drew HW.out) _⟩⟩
    · have e : j = n := by omega
      subst e
      have hc := HS.out.s
      have hf0 := HS.out.free 0
      go_wp2
      go_ret
      exact ⟨rfl, HS.out.set_s, grown_set HW.out _⟩

end Go.Proofs.Ytjmffehffmmobaa.WW
