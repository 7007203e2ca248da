/-
  Part 32 of the proof of parseSums_holds: texts of this seat, put together.
-/
import Derived.Test.YtjopepfemhckjaaGreatDoorSu31
set_option linter.unusedVariables false
set_option linter.unusedSimpArgs false
section
set_option maxRecDepth 100000
namespace Go.Proofs.YtjopepfemhckjaaGreatDoor.NW
open Go.Proofs Go.RowKit Go.Shelf Go.Proofs.YtjopepfemhckjaaGreatDoor.PN Go.Proofs.YtjopepfemhckjaaGreatDoorW.PrintWords Go.Proofs.YtjopepfemhckjaaGreatDoor.PParseTells
def txL : List Nat → ByteArray
 | [] => ⟨#[]⟩
 | a :: t => sumS a t
def nxL : List Nat → List Nd
 | [] => []
 | a :: t => .num a 1 :: outL t
set_option maxHeartbeats 2000000 in
theorem sums_at (l : List Int) (A : Option Addr) (c : Nat) (h1 : 1 ≤ l.length) (h2 : l.length ≤ 60) (w : World) (hg : Glob w) (hC : Kd.C (Kd.int .i64) w A l.length l) : Calls Tryz.prog 8 #[.slice A l.length c] w fun e w' => e = .returned (.bool true) ∧ Below w.heap.size w w' := by
 have HG := Aside0.mk hg
 have HC := Aside0.mk hC
 have H0 := fun w hg => Lib.hid (fixed_at w hg)
 have n1 : ¬ (l.length : Int) < 1 := by omega
 have n2 : ¬ 60 < (l.length : Int) := by omega
 clear hg hC
 go_enter Tryz.func8, Tryz.ntmps8
 go_wp2_with fail
 refine (H0 _ HG.out).out.mono ?_
 rintro e w0 ⟨rfl, hb⟩
 have HG1 := Aside0.mk (HG.out.below hb)
 have HC1 := Aside0.mk (Kd.C_below HC.out hb)
 have B0 := Aside0.mk hb
 clear hb H0 HG HC
 go_wp2_with (first | ((with_reducible refine gate_dst (N := 23) rfl ?_); refine Kd.R_lit k37 (w0 := w0) w0.heap.size 37 ?hg (N := 23) ?hd (xs := []) (inner := []) (ok := fun _ => True) (okp := fun _ => False) ?hr (Reps.none _ _) (fun _ hk => hk.elim) trivial (Below.refl _ _) (Nat.le_refl _) (Nat.zero_le _) ?_; (case hd => rfl); (case hg => rfl); (case hr => first | (go_simp; done) | (go_simp; rfl)); intro v4 w4 ho4 hb4 hg4 hn4; have HO4 := Aside0.mk ho4; have HB4 := Aside0.mk hb4; clear ho4 hb4 hg4 hn4))
 go_loopg [3, 4, 5] (l.length + 1) (fun gk v3 v4 v5 w' => ∃ j : Nat, v5 = .int .i64 (j : Int) ∧ v3 = .string (txL ((l.take j).map Int.toNat)) ∧ j + gk = l.length + 1 ∧ j ≤ l.length ∧ Aside0 (∀ x ∈ l.take j, 0 ≤ x ∧ x ≤ 1000) ∧ Aside0 (Kd.R k37 37 w' w0.heap.size (fun _ => True) v4 ((nxL ((l.take j).map Int.toNat)).map nd37)) ∧ Aside0 (Below w0.heap.size w0 w'))
 case atStart => exact ⟨0, rfl, rfl, by omega, by omega, ⟨fun x hx => by simp at hx⟩, HO4, HB4⟩
 case round =>
  obtain ⟨j, rfl, rfl, hj, hjn, HX, HW, HB⟩ := hrel
  by_cases hie : j = l.length
  ·subst hie
   rw [List.take_length] at HX HW
   rw [List.take_length]
   obtain ⟨a, t, hm⟩ : ∃ a t, l.map Int.toNat = a :: t := by
    cases hl : l with
    | nil => rw [hl] at h1; simp at h1
    | cons x y => exact ⟨x.toNat, y.map Int.toNat, by simp⟩
   have hlen : t.length + 1 = l.length := by have := congrArg List.length hm; simp at this; omega
   have hall : ∀ y ∈ a :: t, y ≤ 1000 := fun y hy => by
    rw [← hm] at hy
    obtain ⟨x, hx, rfl⟩ := List.mem_map.1 hy
    have := HX.out x hx
    omega
   rw [hm] at HW ⊢
   have HP := fun w hg => Lib.hid (sum_parse a t (hall a (by simp)) (fun y hy => hall y (by simp [hy])) (by omega) w hg)
   obtain ⟨Aw, cw, rfl, hcw, hCw⟩ := Kd.R_reads HW.out
   rw [List.length_map] at hCw hcw ⊢
   simp only [nxL, txL] at hCw hcw ⊢
   have HCW := Aside0.mk hCw
   have hno := ndOK_out t (fun y hy => hall y (by simp [hy]))
   have hon : (Nd.num (a : Int) 1 :: outL t).length ≤ 2000 := by simp only [List.length_cons, hno.1]; omega
   clear HX hall HW hCw hm hno
   go_wp2_with fail
   refine (HP _ (HG1.out.below HB.out)).out.mono ?_
   rintro e w5 ⟨A5, c5, rfl, hc5, hA5, hC5, hb5⟩
   have HS := Lib.hid (same_at (.num a 1 :: outL t) A5 Aw c5 cw hon w5 hC5.out (Kd.C_below HCW.out hb5))
   have HB5 := Aside0.mk (B0.out.trans ((HB.out.trans (hb5.mono HB.out.size)).mono B0.out.size))
   clear HP hC5 HCW hA5 hb5
   go_wp2_with fail
   refine HS.out.mono ?_
   rintro e w6 ⟨rfl, hb6⟩
   have HB6 := Aside0.mk (HB5.out.trans (hb6.mono HB5.out.size))
   clear HS hb6
   go_wp2_with fail
   go_ret
   exact ⟨by first | rfl | (simp; done) | (simp; omega), HB6.out⟩
  ·have hlt : j < l.length := by omega
   have hilt : (j : Int) < (l.length : Int) := by omega
   obtain ⟨ad, hAd, q0⟩ := Kd.at_int (Kd.C_below HC1.out HB.out) (j : Int) (by omega) (by omega)
   rw [Int.toNat_natCast] at q0
   generalize hx : rd l (j : Int) = x at *
   subst hAd
   by_cases hr0 : x < 0
   ·have BB := B0.out.trans (HB.out.mono B0.out.size)
    clear HX HW HB HC1 HO4 HB4 hx
    go_wp2_with fail
    go_ret
    exact ⟨rfl, BB⟩
   by_cases hr1 : 1000 < x
   ·have BB := B0.out.trans (HB.out.mono B0.out.size)
    clear HX HW HB HC1 HO4 HB4 hx
    go_wp2_with fail
    go_ret
    exact ⟨rfl, BB⟩
   obtain ⟨k, rfl⟩ := Int.eq_ofNat_of_zero_le (show 0 ≤ x by omega)
   have hk : k ≤ 1000 := by omega
   have H1 := fun W => Lib.hid (of1_at k hk W)
   have H3 := fun W => Lib.hid (of3_at k hk W)
   have hnx : (l.take (j + 1)).map Int.toNat = (l.take j).map Int.toNat ++ [k] := by
    have e : rd l (j : Int) = l[j] := by
     unfold rd
     rw [Int.toNat_natCast, List.getD_eq_getElem?_getD, List.getElem?_eq_getElem hlt]
     rfl
    rw [List.take_succ_eq_append_getElem hlt, List.map_append]
    show _ ++ [(l[j]).toNat] = _
    rw [← e, hx, Int.toNat_natCast]
   obtain ⟨L, hL⟩ : ∃ L, (l.take j).map Int.toNat = L := ⟨_, rfl⟩
   have hLj : L.length = j := by rw [← hL]; simp; omega
   have HXS : Aside0 (∀ x ∈ l.take (j + 1), 0 ≤ x ∧ x ≤ 1000) := by
    refine ⟨fun y hy => ?_⟩
    rw [List.take_succ_eq_append_getElem hlt] at hy
    have e : rd l (j : Int) = l[j] := by
     unfold rd
     rw [Int.toNat_natCast, List.getD_eq_getElem?_getD, List.getElem?_eq_getElem hlt]
     rfl
    rcases List.mem_append.1 hy with h | h
    ·exact HX.out y h
    ·simp at h
     rw [h, ← e, hx]
     omega
   have hLall : ∀ y ∈ L, y ≤ 1000 := fun y hy => by
    rw [← hL] at hy
    obtain ⟨x, hx, rfl⟩ := List.mem_map.1 hy
    have := HX.out x hx
    omega
   rw [hL] at HW hnx ⊢
   have hn37 : nd37 (.num (k : Int) 1) = (⟨0, ⟨natS k, ⟨#[49]⟩⟩, ⟨#[]⟩, 0, 0⟩ : S37) := by
    show (⟨0, ⟨intS (k : Int), natS 1⟩, ⟨#[]⟩, 0, 0⟩ : S37) = _
    rw [intS_nat, show natS 1 = ⟨#[49]⟩ by kernel_rfl]
   have hks := (numK k hk).sz
   have HNX := Aside0.mk hnx
   clear HX hnx hx
   by_cases hj0 : j = 0
   ·have d0 : ¬ (0 : Int) < (j : Int) := by omega
    obtain rfl : L = [] := List.length_eq_zero_iff.1 (by omega)
    subst hj0
    rw [show ad.add 0 = ad from by simp [Addr.add]] at q0
    have hQ : ∀ w' : World, Below wr.heap.size wr w' → w'.cell? ad = some (.int .i64 (k : Int)) := fun w' hb => pw_cell_below hb q0
    have HT1 : Aside0 ((⟨#[]⟩ : ByteArray) ++ natS k = txL ([] ++ [k])) := ⟨sumS_nil k⟩
    have HT2 : Aside0 ([] ++ [(⟨0, ⟨natS k, ⟨#[49]⟩⟩, ⟨#[]⟩, 0, 0⟩ : S37)] = (nxL ([] ++ [k])).map nd37) := by
     refine ⟨?_⟩
     rw [← hn37]
     rfl
    have hz1 : ¬ 9223372036854775807 < (natS k).size := by omega
    simp only [txL, nxL, List.map_nil] at HW ⊢
    clear hL hLj hLall hr0 hr1 hn37
    go_wp2_with fail
    refine (H1 _).out.mono ?_
    rintro e w5 ⟨rfl, hb5⟩
    have q5 := hQ w5 hb5
    have HB5 := Aside0.mk hb5
    clear hb5
    go_wp2_with fail
    refine (H3 _).out.mono ?_
    rintro e w6 ⟨rfl, hb6⟩
    have HB6 := Aside0.mk (HB5.out.trans (hb6.mono HB5.out.size))
    have HW6 := Aside0.mk (Kd.R_below HW.out HB6.out)
    have HBw6 := Aside0.mk (HB.out.trans (HB6.out.mono HB.out.size))
    clear hb6 q5 HB5 HB6 HW HB
    go_wp2_with (at_builtin; refine Kd.R_append k37 (w0 := w0) (W := w6) w0.heap.size rfl (.tmp 53) (.tmp 60) 24 37 (.agg #[.int .i64 0, .string ⟨#[]⟩, .string ⟨#[]⟩, .string ⟨#[]⟩, .int .i64 0, .int .i64 0]) 72 rfl Tryz.underlying24 info37 rfl (by decide) (by omega) _ [] (⟨0, ⟨natS k, ⟨#[49]⟩⟩, ⟨#[]⟩, 0, 0⟩ : S37) [.int .i64 0, .string (natS k), .string ⟨#[49]⟩, .string ⟨#[]⟩, .int .i64 0, .int .i64 0] (fun _ => True) (fun _ => False) rfl rfl (k37_mkM _ _ _ (⟨0, ⟨natS k, ⟨#[49]⟩⟩, ⟨#[]⟩, 0, 0⟩ : S37)) (fun _ hk => hk.elim) (fun _ _ => trivial) HW6.out HBw6.out HBw6.out.size ?hll ?_; (case hll => first | (simp; done) | (simp; omega) | omega); intro v7 w7 ho7 hb7 hg7 hn7; have HO7 := Aside0.mk ho7; have HBB7 := Aside0.mk hb7; clear ho7 hb7 hg7 hn7)
    rw [HT1.out, HT2.out] at *
    go_roundg (gk - 1)
    case measure => omega
    case rel => exact ⟨1, rfl, by rw [HNX.out], by omega, by omega, HXS, ⟨by rw [HNX.out]; exact HO7.out⟩, HBB7⟩
   ·have d0 : (0 : Int) < (j : Int) := by omega
    obtain ⟨a, t, rfl⟩ : ∃ a t, L = a :: t := by
     cases L with
     | nil => exact absurd hLj.symm hj0
     | cons a t => exact ⟨a, t, rfl⟩
    have htl : t.length + 1 = j := hLj
    have hsz := sumS_size a t
    have hsz2 := (sumTl_len t (fun y hy => hLall y (by simp [hy]))).2
    have hsz3 := (numK a (hLall a (by simp))).sz
    have hsz4 : (natS a).data.toList.length = (natS a).size := rfl
    have HT1 : Aside0 ((sumS a t ++ (⟨#[32, 45, 32]⟩ : ByteArray)) ++ natS k = txL ((a :: t) ++ [k])) := ⟨sumS_snoc a t k⟩
    have hno := ndOK_out t (fun y hy => hLall y (by simp [hy]))
    have hxl : ((nxL (a :: t)).map nd37).length ≤ 200 := by
     rw [List.length_map]
     show (Nd.num (a : Int) 1 :: outL t).length ≤ 200
     rw [List.length_cons, hno.1]
     omega
    have HT2 : Aside0 (((nxL (a :: t)).map nd37 ++ [(⟨0, ⟨natS k, ⟨#[49]⟩⟩, ⟨#[]⟩, 0, 0⟩ : S37)]) ++ [(⟨7, ⟨⟨#[]⟩, ⟨#[]⟩⟩, ⟨#[]⟩, 0, 0⟩ : S37)] = (nxL ((a :: t) ++ [k])).map nd37) := by
     refine ⟨?_⟩
     rw [← hn37]
     show (((Nd.num (a : Int) 1 :: outL t).map nd37 ++ [nd37 (.num (k : Int) 1)]) ++ [nd37 (.op 7)]) = ((Nd.num (a : Int) 1 :: outL (t ++ [k])).map nd37)
     rw [outL_snoc]
     simp
    have hQ : ∀ w' : World, Below wr.heap.size wr w' → w'.cell? (ad.add j) = some (.int .i64 (k : Int)) := fun w' hb => pw_cell_below hb q0
    have hsS : (sumS a t).size ≤ 430 := by omega
    have htx : txL (a :: t) = sumS a t := rfl
    rw [htx]
    generalize (nxL (a :: t)).map nd37 = X at *
    obtain ⟨S2, hS2⟩ : ∃ S2, txL (a :: t ++ [k]) = S2 := ⟨_, rfl⟩
    obtain ⟨X2, hX2⟩ : ∃ X2, (nxL (a :: t ++ [k])).map nd37 = X2 := ⟨_, rfl⟩
    rw [hS2] at HT1
    rw [hX2] at HT2
    have HS2 := Aside0.mk hS2
    have HX2 := Aside0.mk hX2
    clear hS2 hX2
    generalize sumS a t = S at *
    have hz1 : ¬ 9223372036854775807 < S.size + 3 := by omega
    have hz2 : ¬ 9223372036854775807 < S.size + 3 + (natS k).size := by omega
    clear hL hLj hLall hr0 hr1 hn37 hsz hsz2 hsz3 hsz4 hno htx htl hj0
    go_wp2_with fail
    refine (H1 _).out.mono ?_
    rintro e w5 ⟨rfl, hb5⟩
    have q5 := hQ w5 hb5
    have HB5 := Aside0.mk hb5
    clear hb5
    go_wp2_with fail
    refine (H3 _).out.mono ?_
    rintro e w6 ⟨rfl, hb6⟩
    have HB6 := Aside0.mk (HB5.out.trans (hb6.mono HB5.out.size))
    have HW6 := Aside0.mk (Kd.R_below HW.out HB6.out)
    have HBw6 := Aside0.mk (HB.out.trans (HB6.out.mono HB.out.size))
    clear hb6 q5 HB5 HB6 HW HB
    go_wp2_with (first | (at_builtin; refine Kd.R_append k37 (w0 := w0) (W := w6) w0.heap.size rfl (.tmp 53) (.tmp 60) 24 37 (.agg #[.int .i64 0, .string ⟨#[]⟩, .string ⟨#[]⟩, .string ⟨#[]⟩, .int .i64 0, .int .i64 0]) 72 rfl Tryz.underlying24 info37 rfl (by decide) (by omega) _ X (⟨0, ⟨natS k, ⟨#[49]⟩⟩, ⟨#[]⟩, 0, 0⟩ : S37) [.int .i64 0, .string (natS k), .string ⟨#[49]⟩, .string ⟨#[]⟩, .int .i64 0, .int .i64 0] (fun _ => True) (fun _ => False) rfl rfl (k37_mkM _ _ _ (⟨0, ⟨natS k, ⟨#[49]⟩⟩, ⟨#[]⟩, 0, 0⟩ : S37)) (fun _ hk => hk.elim) (fun _ _ => trivial) HW6.out HBw6.out HBw6.out.size ?hll ?_; (case hll => first | (simp; done) | (simp; omega) | omega); intro v7 w7 ho7 hb7 hg7 hn7; have HO7 := Aside0.mk ho7; have HBB7 := Aside0.mk hb7; clear ho7 hb7 hg7 hn7) | (at_builtin; refine Kd.R_append k37 (w0 := w0) (W := w7) w0.heap.size rfl (.tmp 64) (.tmp 66) 24 37 (.agg #[.int .i64 0, .string ⟨#[]⟩, .string ⟨#[]⟩, .string ⟨#[]⟩, .int .i64 0, .int .i64 0]) 72 rfl Tryz.underlying24 info37 rfl (by decide) (by omega) _ (X ++ [(⟨0, ⟨natS k, ⟨#[49]⟩⟩, ⟨#[]⟩, 0, 0⟩ : S37)]) (⟨7, ⟨⟨#[]⟩, ⟨#[]⟩⟩, ⟨#[]⟩, 0, 0⟩ : S37) [.int .i64 7, .string ⟨#[]⟩, .string ⟨#[]⟩, .string ⟨#[]⟩, .int .i64 0, .int .i64 0] (fun _ => True) (fun _ => False) rfl rfl (k37_mkM _ _ _ (⟨7, ⟨⟨#[]⟩, ⟨#[]⟩⟩, ⟨#[]⟩, 0, 0⟩ : S37)) (fun _ hk => hk.elim) (fun _ _ => trivial) HO7.out HBB7.out HBB7.out.size ?hll ?_; (case hll => first | (simp; done) | (simp; omega) | omega); intro v8 w8 ho8 hb8 hg8 hn8; have HO8 := Aside0.mk ho8; have HBB8 := Aside0.mk hb8; clear ho8 hb8 hg8 hn8))
    rw [HT1.out]
    rw [HT2.out] at HO8
    go_roundg (gk - 1)
    case measure => omega
    case rel => exact ⟨j + 1, by go_num, by rw [HNX.out, HS2.out], by omega, by omega, HXS, ⟨by rw [HNX.out, HX2.out]; exact HO8.out⟩, HBB8⟩
set_option maxHeartbeats 2000000 in
theorem sumsAll_at (l : List Int) (A : Option Addr) (c : Nat) (w : World) (hg : Glob w) (hC : Kd.C (Kd.int .i64) w A l.length l) : Calls Tryz.prog 8 #[.slice A l.length c] w fun e w' => e = .returned (.bool true) ∧ Below w.heap.size w w' := by
 by_cases h1 : 1 ≤ l.length ∧ l.length ≤ 60
 ·exact sums_at l A c h1.1 h1.2 w hg hC
 have HG := Aside0.mk hg
 have H0 := fun w hg => Lib.hid (fixed_at w hg)
 obtain ⟨n, hn⟩ : ∃ n, l.length = n := ⟨_, rfl⟩
 rw [hn] at h1 ⊢
 clear hg hC hn
 rcases Nat.lt_or_ge n 1 with h2 | h2
 ·have n1 : (n : Int) < 1 := by omega
  clear h1
  go_enter Tryz.func8, Tryz.ntmps8
  go_wp2_with fail
  refine (H0 _ HG.out).out.mono ?_
  rintro e w0 ⟨rfl, hb⟩
  have HB := Aside0.mk hb
  clear hb
  go_wp2_with fail
  refine (H0 _ (HG.out.below HB.out)).out.mono ?_
  rintro e w1 ⟨rfl, hb1⟩
  have HB1 := Aside0.mk (HB.out.trans (hb1.mono HB.out.size))
  clear hb1
  go_wp2_with fail
  go_ret
  exact ⟨rfl, HB1.out⟩
 ·have n1 : ¬ (n : Int) < 1 := by omega
  have n2 : 60 < (n : Int) := by omega
  clear h1
  go_enter Tryz.func8, Tryz.ntmps8
  go_wp2_with fail
  refine (H0 _ HG.out).out.mono ?_
  rintro e w0 ⟨rfl, hb⟩
  have HB := Aside0.mk hb
  clear hb
  go_wp2_with fail
  refine (H0 _ (HG.out.below HB.out)).out.mono ?_
  rintro e w1 ⟨rfl, hb1⟩
  have HB1 := Aside0.mk (HB.out.trans (hb1.mono HB.out.size))
  clear hb1
  go_wp2_with fail
  go_ret
  exact ⟨rfl, HB1.out⟩
end Go.Proofs.YtjopepfemhckjaaGreatDoor.NW
end
