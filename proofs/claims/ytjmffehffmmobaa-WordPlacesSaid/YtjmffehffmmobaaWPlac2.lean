/-
  WordPlaces, walked: the law itself.
-/
import Derived.Test.YtjmffehffmmobaaWPlaces
set_option linter.unusedVariables false
set_option linter.unusedSimpArgs false
namespace Go.Proofs.Ytjmffehffmmobaa.WW
open Go.Proofs Go.RowKit Go.Proofs.Ytjmffehffmmobaa.WP Go.Proofs.YtjmffehffmmobaaW.PrintWords Go.Proofs.Ytjmffehffmmobaa.PWordLexes

set_option maxHeartbeats 1000000 in
set_option maxRecDepth 100000 in
theorem places_o0 (s : ByteArray) (x y : Int) (W : World) (h1 : 3000 < s.size) :
    Calls Try.prog 5 #[.string s, .int .i64 x, .int .i64 y] W fun e W' => e = .returned (.bool true) ∧ Below W.heap.size W W' := by
  have HF := fun w => Lib.hid (fixed w)
  go_enter Try.func5, Try.ntmps5
  go_wp2_with fail
  refine (HF _).out.mono ?_
  rintro e w1 ⟨rfl, hb1⟩
  go_wp2_with fail
  refine (HF _).out.mono ?_
  rintro e w2 ⟨rfl, hb2⟩
  go_wp2
  go_ret
  exact ⟨rfl, hb1.trans (hb2.mono hb1.size)⟩

set_option maxHeartbeats 1000000 in
set_option maxRecDepth 100000 in
theorem places_o1 (s : ByteArray) (x y : Int) (W : World) (h1 : s.size ≤ 3000) (h2 : x < 0) :
    Calls Try.prog 5 #[.string s, .int .i64 x, .int .i64 y] W fun e W' => e = .returned (.bool true) ∧ Below W.heap.size W W' := by
  have HF := fun w => Lib.hid (fixed w)
  go_enter Try.func5, Try.ntmps5
  go_wp2_with fail
  refine (HF _).out.mono ?_
  rintro e w1 ⟨rfl, hb1⟩
  go_wp2_with fail
  refine (HF _).out.mono ?_
  rintro e w2 ⟨rfl, hb2⟩
  go_wp2
  go_ret
  exact ⟨rfl, hb1.trans (hb2.mono hb1.size)⟩

set_option maxHeartbeats 1000000 in
set_option maxRecDepth 100000 in
theorem places_o2 (s : ByteArray) (x y : Int) (W : World) (h1 : s.size ≤ 3000) (h2 : 0 ≤ x) (h3 : y < 0) :
    Calls Try.prog 5 #[.string s, .int .i64 x, .int .i64 y] W fun e W' => e = .returned (.bool true) ∧ Below W.heap.size W W' := by
  have HF := fun w => Lib.hid (fixed w)
  go_enter Try.func5, Try.ntmps5
  go_wp2_with fail
  refine (HF _).out.mono ?_
  rintro e w1 ⟨rfl, hb1⟩
  go_wp2_with fail
  refine (HF _).out.mono ?_
  rintro e w2 ⟨rfl, hb2⟩
  go_wp2
  go_ret
  exact ⟨rfl, hb1.trans (hb2.mono hb1.size)⟩

set_option maxHeartbeats 1000000 in
set_option maxRecDepth 100000 in
theorem places_o3 (s : ByteArray) (x y : Int) (W : World) (h1 : s.size ≤ 3000) (h2 : 0 ≤ x) (h3 : 0 ≤ y) (h4 : 100 < x) :
    Calls Try.prog 5 #[.string s, .int .i64 x, .int .i64 y] W fun e W' => e = .returned (.bool true) ∧ Below W.heap.size W W' := by
  have HF := fun w => Lib.hid (fixed w)
  go_enter Try.func5, Try.ntmps5
  go_wp2_with fail
  refine (HF _).out.mono ?_
  rintro e w1 ⟨rfl, hb1⟩
  go_wp2_with fail
  refine (HF _).out.mono ?_
  rintro e w2 ⟨rfl, hb2⟩
  go_wp2
  go_ret
  exact ⟨rfl, hb1.trans (hb2.mono hb1.size)⟩

set_option maxHeartbeats 1000000 in
set_option maxRecDepth 100000 in
theorem places_o4 (s : ByteArray) (x y : Int) (W : World) (h1 : s.size ≤ 3000) (h2 : 0 ≤ x) (h3 : 0 ≤ y) (h4 : x ≤ 100) (h5 : 100 < y) :
    Calls Try.prog 5 #[.string s, .int .i64 x, .int .i64 y] W fun e W' => e = .returned (.bool true) ∧ Below W.heap.size W W' := by
  have HF := fun w => Lib.hid (fixed w)
  go_enter Try.func5, Try.ntmps5
  go_wp2_with fail
  refine (HF _).out.mono ?_
  rintro e w1 ⟨rfl, hb1⟩
  go_wp2_with fail
  refine (HF _).out.mono ?_
  rintro e w2 ⟨rfl, hb2⟩
  go_wp2
  go_ret
  exact ⟨rfl, hb1.trans (hb2.mono hb1.size)⟩

set_option maxHeartbeats 2000000 in
set_option maxRecDepth 100000 in
theorem places_err1 (s : ByteArray) (B L : Nat) (W : World) (hs : s.size ≤ 3000) (hB : B ≤ 100) (hL : L ≤ 100) (q2 : Nat) (ha : lexD s = ([], 90, 1, (q2 : Int))) (hb : lexD (pad 10 L (pad 32 B s)) = ([], 90, ((1 + L : Nat) : Int), ((q2 + B : Nat) : Int))) (g2 : q2 ≤ 10000) :
    Calls Try.prog 5 #[.string s, .int .i64 B, .int .i64 L] W fun e W' => e = .returned (.bool true) ∧ Below W.heap.size W W' := by
  have HF := fun w => Lib.hid (fixed w)
  have HA := fun w => Lib.hid (lex_at s w (by omega) _ ha)
  have HN := fun w => Lib.hid (lex_at (pad 10 L (pad 32 B s)) w (by rw [pad_size, pad_size]; omega) _ hb)
  clear ha hb
  go_enter Try.func5, Try.ntmps5
  go_wp2_with fail
  refine (HF _).out.mono ?_
  rintro e w1 ⟨rfl, hb1⟩
  clear HF
  have HB1 := Aside0.mk hb1
  clear hb1
  go_wp2
  go_loop [7, 8] (fun v7 v8 => ∃ j : Nat, v7 = .string (pad 32 j s) ∧ v8 = .int .i64 j ∧ Aside0 (j ≤ B)) (fun _ v8 => B - (Lib.intOf v8).toNat)
  case atStart => exact ⟨0, rfl, rfl, ⟨Nat.zero_le _⟩⟩
  case round =>
    obtain ⟨j, rfl, rfl, HJ⟩ := hrel
    have hj := HJ.out
    by_cases hlt : j < B
    · have r1 := pad_succ 32 j s
      have z1 : ¬ 9223372036854775807 < 1 + (pad 32 j s).size := by rw [pad_size]; omega
      go_wp2
      go_round
      case measure => simp [Lib.intOf]; omega
      case rel => exact ⟨j + 1, rfl, by go_num, ⟨by omega⟩⟩
    · have e : j = B := by omega
      subst e
      clear HJ hj hlt
      go_wp2
      go_loop [7, 9] (fun v7 v9 => ∃ i : Nat, v7 = .string (pad 10 i (pad 32 j s)) ∧ v9 = .int .i64 i ∧ Aside0 (i ≤ L)) (fun _ v9 => L - (Lib.intOf v9).toNat)
      case atStart => exact ⟨0, rfl, rfl, ⟨Nat.zero_le _⟩⟩
      case round =>
        obtain ⟨i, rfl, rfl, HI⟩ := hrel
        have hi := HI.out
        by_cases hlt2 : i < L
        · have r2 := pad_succ 10 i (pad 32 j s)
          have z2 : ¬ 9223372036854775807 < 1 + (pad 10 i (pad 32 j s)).size := by rw [pad_size, pad_size]; omega
          go_wp2
          go_round
          case measure => simp [Lib.intOf]; omega
          case rel => exact ⟨i + 1, rfl, by go_num, ⟨by omega⟩⟩
        · have e : i = L := by omega
          subst e
          clear HI hi hlt2
          go_wp2_with fail
          refine (HA _).out.mono ?_
          rintro e w2 ⟨A2, c2, rfl, hc2, HC2, hb2⟩
          go_wp2_with fail
          refine (HN _).out.mono ?_
          rintro e w3 ⟨A3, c3, rfl, hc3, HC3, hb3⟩
          have HB := Aside0.mk ((HB1.out.trans (hb2.mono HB1.out.size)).trans (hb3.mono (Nat.le_trans HB1.out.size hb2.size)))
          have HC2b := Aside0.mk (Kd.C_below HC2.out hb3)
          clear hb2 hb3 HA HN HC2 HB1
          have ea := alike_at A2 c2 [] A3 c3 [] w3 HC2b.out hc2 HC3.out hc3 rfl (by decide)
          have EA := Lib.hid ea
          clear ea hc2 hc3 HC2b HC3
          go_wp2_with fail
          refine EA.out.mono ?_
          rintro e w4 ⟨rfl, hb4⟩
          go_wp2
          go_ret
          exact ⟨by first | rfl | (simp; done) | (simp; omega), HB.out.trans (hb4.mono HB.out.size)⟩

set_option maxHeartbeats 2000000 in
set_option maxRecDepth 100000 in
theorem places_err2 (s : ByteArray) (B L : Nat) (W : World) (hs : s.size ≤ 3000) (hB : B ≤ 100) (hL : L ≤ 100) (q1 q2 : Nat) (ha : lexD s = ([], 90, (q1 : Int), (q2 : Int))) (hb : lexD (pad 10 L (pad 32 B s)) = ([], 90, ((q1 + L : Nat) : Int), (q2 : Int))) (g1 : 1 < q1) (g2 : q1 ≤ 10000) (g3 : q2 ≤ 10000) :
    Calls Try.prog 5 #[.string s, .int .i64 B, .int .i64 L] W fun e W' => e = .returned (.bool true) ∧ Below W.heap.size W W' := by
  have HF := fun w => Lib.hid (fixed w)
  have HA := fun w => Lib.hid (lex_at s w (by omega) _ ha)
  have HN := fun w => Lib.hid (lex_at (pad 10 L (pad 32 B s)) w (by rw [pad_size, pad_size]; omega) _ hb)
  clear ha hb
  go_enter Try.func5, Try.ntmps5
  go_wp2_with fail
  refine (HF _).out.mono ?_
  rintro e w1 ⟨rfl, hb1⟩
  clear HF
  have HB1 := Aside0.mk hb1
  clear hb1
  go_wp2
  go_loop [7, 8] (fun v7 v8 => ∃ j : Nat, v7 = .string (pad 32 j s) ∧ v8 = .int .i64 j ∧ Aside0 (j ≤ B)) (fun _ v8 => B - (Lib.intOf v8).toNat)
  case atStart => exact ⟨0, rfl, rfl, ⟨Nat.zero_le _⟩⟩
  case round =>
    obtain ⟨j, rfl, rfl, HJ⟩ := hrel
    have hj := HJ.out
    by_cases hlt : j < B
    · have r1 := pad_succ 32 j s
      have z1 : ¬ 9223372036854775807 < 1 + (pad 32 j s).size := by rw [pad_size]; omega
      go_wp2
      go_round
      case measure => simp [Lib.intOf]; omega
      case rel => exact ⟨j + 1, rfl, by go_num, ⟨by omega⟩⟩
    · have e : j = B := by omega
      subst e
      clear HJ hj hlt
      go_wp2
      go_loop [7, 9] (fun v7 v9 => ∃ i : Nat, v7 = .string (pad 10 i (pad 32 j s)) ∧ v9 = .int .i64 i ∧ Aside0 (i ≤ L)) (fun _ v9 => L - (Lib.intOf v9).toNat)
      case atStart => exact ⟨0, rfl, rfl, ⟨Nat.zero_le _⟩⟩
      case round =>
        obtain ⟨i, rfl, rfl, HI⟩ := hrel
        have hi := HI.out
        by_cases hlt2 : i < L
        · have r2 := pad_succ 10 i (pad 32 j s)
          have z2 : ¬ 9223372036854775807 < 1 + (pad 10 i (pad 32 j s)).size := by rw [pad_size, pad_size]; omega
          go_wp2
          go_round
          case measure => simp [Lib.intOf]; omega
          case rel => exact ⟨i + 1, rfl, by go_num, ⟨by omega⟩⟩
        · have e : i = L := by omega
          subst e
          clear HI hi hlt2
          go_wp2_with fail
          refine (HA _).out.mono ?_
          rintro e w2 ⟨A2, c2, rfl, hc2, HC2, hb2⟩
          go_wp2_with fail
          refine (HN _).out.mono ?_
          rintro e w3 ⟨A3, c3, rfl, hc3, HC3, hb3⟩
          have HB := Aside0.mk ((HB1.out.trans (hb2.mono HB1.out.size)).trans (hb3.mono (Nat.le_trans HB1.out.size hb2.size)))
          have HC2b := Aside0.mk (Kd.C_below HC2.out hb3)
          clear hb2 hb3 HA HN HC2 HB1
          have ea := alike_at A2 c2 [] A3 c3 [] w3 HC2b.out hc2 HC3.out hc3 rfl (by decide)
          have EA := Lib.hid ea
          clear ea hc2 hc3 HC2b HC3
          have t1 : ((q1 : Int) == 1) = false := by rw [beq_eq_false_iff_ne]; omega
          have t2 : decide ((1 : Int) < (q1 : Int)) = true := decide_eq_true (by omega)
          have t3 : IntKind.i64.wrap ((q1 : Int) + (i : Int)) = (q1 : Int) + (i : Int) := IntWalk.i64_in _ (by omega)
          have t4 : IntKind.i64.wrap ((q2 : Int) + (j : Int)) = (q2 : Int) + (j : Int) := IntWalk.i64_in _ (by omega)
          rw [show ((q1 + i : Nat) : Int) = (q1 : Int) + (i : Int) by omega]
          clear g1 g2 g3
          go_wp2_with fail
          refine EA.out.mono ?_
          rintro e w4 ⟨rfl, hb4⟩
          by_cases hj0 : j = 0
          · have t5 : ((q2 : Int) == (q2 : Int) + (j : Int)) = true := by rw [beq_iff_eq]; omega
            clear hj0
            go_wp2
            go_ret
            exact ⟨by first | rfl | (simp; done) | (simp; omega), HB.out.trans (hb4.mono HB.out.size)⟩
          · have t5 : ((q2 : Int) == (q2 : Int) + (j : Int)) = false := by rw [beq_eq_false_iff_ne]; omega
            go_wp2
            go_ret
            exact ⟨by first | rfl | (simp; done) | (simp; omega), HB.out.trans (hb4.mono HB.out.size)⟩

set_option maxHeartbeats 2000000 in
set_option maxRecDepth 100000 in
theorem places_ok (s : ByteArray) (B L : Nat) (W : World) (hs : s.size ≤ 3000) (hB : B ≤ 100) (hL : L ≤ 100) (l : List S31) (ha : lexD s = (l, 0, 0, 0)) (hb : lexD (pad 10 L (pad 32 B s)) = (l.map (shT L B), 0, 0, 0)) (hl : l.length ≤ 3001) (hbd : ∀ t ∈ l, 1 ≤ t.f2 ∧ t.f2 ≤ 10000 ∧ 1 ≤ t.f3 ∧ t.f3 ≤ 10000) :
    Calls Try.prog 5 #[.string s, .int .i64 B, .int .i64 L] W fun e W' => e = .returned (.bool true) ∧ Below W.heap.size W W' := by
  have HF := fun w => Lib.hid (fixed w)
  have HA := fun w => Lib.hid (lex_at s w (by omega) _ ha)
  have HN := fun w => Lib.hid (lex_at (pad 10 L (pad 32 B s)) w (by rw [pad_size, pad_size]; omega) _ hb)
  clear ha hb
  go_enter Try.func5, Try.ntmps5
  go_wp2_with fail
  refine (HF _).out.mono ?_
  rintro e w1 ⟨rfl, hb1⟩
  clear HF
  have HB1 := Aside0.mk hb1
  clear hb1
  go_wp2
  go_loop [7, 8] (fun v7 v8 => ∃ j : Nat, v7 = .string (pad 32 j s) ∧ v8 = .int .i64 j ∧ Aside0 (j ≤ B)) (fun _ v8 => B - (Lib.intOf v8).toNat)
  case atStart => exact ⟨0, rfl, rfl, ⟨Nat.zero_le _⟩⟩
  case round =>
    obtain ⟨j, rfl, rfl, HJ⟩ := hrel
    have hj := HJ.out
    by_cases hlt : j < B
    · have r1 := pad_succ 32 j s
      have z1 : ¬ 9223372036854775807 < 1 + (pad 32 j s).size := by rw [pad_size]; omega
      go_wp2
      go_round
      case measure => simp [Lib.intOf]; omega
      case rel => exact ⟨j + 1, rfl, by go_num, ⟨by omega⟩⟩
    · have e : j = B := by omega
      subst e
      clear HJ hj hlt
      go_wp2
      go_loop [7, 9] (fun v7 v9 => ∃ i : Nat, v7 = .string (pad 10 i (pad 32 j s)) ∧ v9 = .int .i64 i ∧ Aside0 (i ≤ L)) (fun _ v9 => L - (Lib.intOf v9).toNat)
      case atStart => exact ⟨0, rfl, rfl, ⟨Nat.zero_le _⟩⟩
      case round =>
        obtain ⟨i, rfl, rfl, HI⟩ := hrel
        have hi := HI.out
        by_cases hlt2 : i < L
        · have r2 := pad_succ 10 i (pad 32 j s)
          have z2 : ¬ 9223372036854775807 < 1 + (pad 10 i (pad 32 j s)).size := by rw [pad_size, pad_size]; omega
          go_wp2
          go_round
          case measure => simp [Lib.intOf]; omega
          case rel => exact ⟨i + 1, rfl, by go_num, ⟨by omega⟩⟩
        · have e : i = L := by omega
          subst e
          clear HI hi hlt2
          go_wp2_with fail
          refine (HA _).out.mono ?_
          rintro e w2 ⟨A2, c2, rfl, hc2, HC2, hb2⟩
          go_wp2_with fail
          refine (HN _).out.mono ?_
          rintro e w3 ⟨A3, c3, rfl, hc3, HC3, hb3⟩
          have HB := Aside0.mk ((HB1.out.trans (hb2.mono HB1.out.size)).trans (hb3.mono (Nat.le_trans HB1.out.size hb2.size)))
          have HC2b := Aside0.mk (Kd.C_below HC2.out hb3)
          clear hb2 hb3 HA HN HC2 HB1
          simp only [List.length_map] at HC2b HC3 hc2 hc3 ⊢
          have HBd := Aside0.mk hbd
          clear hbd
          have ea := alike_at A2 c2 l A3 c3 (l.map (shT i j)) w3 HC2b.out hc2 (by rw [List.length_map]; exact HC3.out) (by rw [List.length_map]; exact hc3) (shT_tk i j l).symm (by omega)
          rw [List.length_map] at ea
          have EA := Lib.hid ea
          clear ea
          go_wp2_with fail
          refine EA.out.mono ?_
          rintro e w4 ⟨rfl, hb4⟩
          have HC2c := Aside0.mk (Kd.C_below HC2b.out hb4)
          have HC3c := Aside0.mk (Kd.C_below HC3.out hb4)
          have HBl := Aside0.mk (HB.out.trans (hb4.mono HB.out.size))
          clear EA hb4 HC2b HC3 HB
          go_wp2
          go_loopg [18] (l.length) (fun g v w' => ∃ a : Nat, v = .int .i64 a ∧ Aside0 (g + a = l.length) ∧ Aside0 (Below w4.heap.size w4 w'))
          case atStart => exact ⟨0, rfl, ⟨by omega⟩, ⟨Below.refl _ _⟩⟩
          case round =>
            obtain ⟨a, rfl, HG, HW⟩ := hrel
            have hg := HG.out
            by_cases hlt3 : a < l.length
            · obtain ⟨ad, e1, x0, x1, x2, x3⟩ := at_T31 (Kd.C_below HC2c.out HW.out) (a : Int) (by omega) (by omega)
              cases e1
              obtain ⟨ad2, e2, y0, y1, y2, y3⟩ := at_T31 (Kd.C_below HC3c.out HW.out) (a : Int) (by omega) (by omega)
              cases e2
              have hrd : rd_T31 (l.map (shT i j)) (a : Int) = shT i j l[a] := by rw [rd_at _ a (by rw [List.length_map]; exact hlt3), List.getElem_map]
              rw [rd_at l a hlt3, Int.toNat_natCast] at x0 x1 x2 x3
              rw [hrd, Int.toNat_natCast] at y0 y1 y2 y3
              have hbx := HBd.out l[a] (List.getElem_mem _)
              have HN : Aside0 (gk - 1 + (a + 1) = l.length ∧ gk - 1 < gk) := ⟨by omega⟩
              generalize hx : l[a] = X at *
              clear hx hrd
              have wr1 : IntKind.i64.wrap (X.f2 + (i : Int)) = X.f2 + (i : Int) := IntWalk.i64_in _ (by omega)
              have wr2 : IntKind.i64.wrap (X.f3 + (j : Int)) = X.f3 + (j : Int) := IntWalk.i64_in _ (by omega)
              by_cases h1 : X.f2 = 1
              · have t2 : (X.f2 == 1) = true := beq_iff_eq.mpr h1
                unfold shT at y0 y1 y2 y3
                simp only [] at y0 y1 y2 y3
                rw [if_pos h1] at y3
                clear h1 hbx
                go_wp2_with fail
                go_quiet (fail)
                go_wp2
                go_roundg (gk - 1)
                case measure => exact HN.out.2
                case rel => exact ⟨a + 1, by go_num, ⟨HN.out.1⟩, ⟨by first | exact HW.out | exact HW.out.drew | exact Below.drew HW.out | exact HW.out.trans (((Drawn0.refl _).step _).below.mono HW.out.size)⟩⟩
              · have t2 : (X.f2 == 1) = false := beq_eq_false_iff_ne.mpr h1
                unfold shT at y0 y1 y2 y3
                simp only [] at y0 y1 y2 y3
                rw [if_neg h1] at y3
                clear h1 hbx
                go_wp2_with fail
                go_quiet (fail)
                go_wp2
                go_roundg (gk - 1)
                case measure => exact HN.out.2
                case rel => exact ⟨a + 1, by go_num, ⟨HN.out.1⟩, ⟨by first | exact HW.out | exact HW.out.drew | exact Below.drew HW.out | exact HW.out.trans (((Drawn0.refl _).step _).below.mono HW.out.size)⟩⟩
            · have t0 : decide ((a : Int) < (l.length : Int)) = false := decide_eq_false (by omega)
              go_wp2
              go_ret
              exact ⟨rfl, HBl.out.trans (HW.out.mono HBl.out.size)⟩

end Go.Proofs.Ytjmffehffmmobaa.WW
