/-
  Part 35 of the proof of parseOrder_holds: texts of this seat, put together.
-/
import Derived.Test.YtjopepfemhckjaaGreatDoorOr31
set_option linter.unusedVariables false
set_option linter.unusedSimpArgs false
section
set_option maxRecDepth 100000
namespace Go.Proofs.YtjopepfemhckjaaGreatDoor.NW
open Go.Proofs Go.RowKit Go.Shelf Go.Proofs.YtjopepfemhckjaaGreatDoor.PN Go.Proofs.YtjopepfemhckjaaGreatDoorW.PrintWords Go.Proofs.YtjopepfemhckjaaGreatDoor.PParseTells Go.Proofs.YtjopepfemhckjaaGreatDoor.WP
theorem bxL (s t : ByteArray) (h : s.data.toList = t.data.toList) : s = t := by
 rcases s with ⟨⟨a⟩⟩
 rcases t with ⟨⟨b⟩⟩
 simp only at h
 rw [h]
theorem extract_list (l : List UInt8) (a : Nat) : (⟨l.toArray⟩ : ByteArray).extract a l.length = ⟨(l.drop a).toArray⟩ := by
 apply bxL
 simp [ByteArray.data_extract]
 exact List.take_of_length_le (by simp)
theorem extract_first (c : UInt8) (l : List UInt8) : (⟨(c :: l).toArray⟩ : ByteArray).extract 0 1 = ⟨#[c]⟩ := by
 apply bxL
 simp [ByteArray.data_extract]
theorem lexB_tok1 (k : Nat) (c : UInt8) (l : List UInt8) (p : Nat × Nat) (kd : Nat) (hb : isB c.toNat = false) (h10 : c.toNat ≠ 10) (hk : WW.kindL (c :: l) = (kd, 1)) :
  WW.lexB (k + 1) ⟨(c :: l).toArray⟩ p = match WW.lexB k ⟨l.toArray⟩ (p.1, p.2 + 1) with | .inl q => .inl q | .inr ts => .inr (⟨(kd : Int), ⟨#[c]⟩, (p.1 : Int), (p.2 : Int)⟩ :: ts) := by
 have hr : runL isB (c :: l) = 0 := by unfold runL; rw [hb]; rfl
 have e0 : (⟨(c :: l).toArray⟩ : ByteArray).extract 0 (⟨(c :: l).toArray⟩ : ByteArray).size = ⟨(c :: l).toArray⟩ := by
  have h := extract_list (c :: l) 0
  exact h
 have e1 : (⟨(c :: l).toArray⟩ : ByteArray).extract 1 (⟨(c :: l).toArray⟩ : ByteArray).size = ⟨l.toArray⟩ := extract_list (c :: l) 1
 have hne : ¬ ((⟨(c :: l).toArray⟩ : ByteArray) = ⟨#[]⟩) := fun h => by
  have h2 := congrArg (fun s : ByteArray => s.data.toList.length) h
  simp at h2
 have ha : advP p [c] = (p.1, p.2 + 1) := by simp [advP, stepP, h10]
 rw [WW.lexB]
 simp only [hr, e0, if_neg hne, hk, List.take_zero, e1, extract_first, List.take_succ_cons]
 rw [if_neg Nat.one_ne_zero, show advP p [] = p from rfl, ha]
 cases WW.lexB k ⟨l.toArray⟩ (p.1, p.2 + 1) <;> rfl
def pars (c : UInt8) : Nat → Nat → List S75
 | _, 0 => []
 | col, n + 1 => ⟨2, ⟨#[c]⟩, 1, (col : Int)⟩ :: pars c (col + 1) n
theorem pars_len (c : UInt8) : ∀ (n col : Nat), (pars c col n).length = n
 | 0, _ => rfl
 | n + 1, col => by simp [pars, pars_len c n]
theorem pars_snoc (c : UInt8) : ∀ (n col : Nat), pars c col (n + 1) = pars c col n ++ [⟨2, ⟨#[c]⟩, 1, ((col + n : Nat) : Int)⟩]
 | 0, col => rfl
 | n + 1, col => by
   rw [pars, pars_snoc c n (col + 1), pars, List.cons_append, show col + 1 + n = col + (n + 1) by omega]
theorem pars_add (c : UInt8) : ∀ (n m col : Nat), pars c col (n + m) = pars c col n ++ pars c (col + n) m
 | 0, m, col => by simp [pars]
 | n + 1, m, col => by
   rw [show n + 1 + m = (n + m) + 1 by omega, pars, pars, pars_add c n m (col + 1), List.cons_append, show col + 1 + n = col + (n + 1) by omega]
theorem lexB_pars (c : UInt8) (hc : c = 40 ∨ c = 41) (l : List UInt8) (k : Nat) : ∀ (n col : Nat), WW.lexB (k + n) ⟨(List.replicate n c ++ l).toArray⟩ (1, col) = match WW.lexB k ⟨l.toArray⟩ (1, col + n) with | .inl q => .inl q | .inr ts => .inr (pars c col n ++ ts)
 | 0, col => by
   simp only [Nat.add_zero, List.replicate_zero, List.nil_append, pars]
   cases WW.lexB k ⟨l.toArray⟩ (1, col) <;> rfl
 | n + 1, col => by
   have hk : WW.kindL (c :: (List.replicate n c ++ l)) = (2, 1) := by rcases hc with rfl | rfl <;> rfl
   rw [List.replicate_succ, List.cons_append, show k + (n + 1) = (k + n) + 1 by omega, lexB_tok1 (k + n) c _ (1, col) 2 (by rcases hc with rfl | rfl <;> rfl) (by rcases hc with rfl | rfl <;> decide) hk, lexB_pars c hc l k n (col + 1), show col + 1 + n = col + (n + 1) by omega]
   cases WW.lexB k ⟨l.toArray⟩ (1, col + (n + 1)) <;> rfl
def t7 (n : Nat) : S75 := ⟨1, ⟨#[55]⟩, 1, ((n + 1 : Nat) : Int)⟩
def deepT (n : Nat) : List S75 := pars 40 1 n ++ (t7 n :: pars 41 (n + 2) n)
def deepL (n : Nat) : List UInt8 := List.replicate n 40 ++ (55 :: List.replicate n 41)
theorem kind7 (n : Nat) : WW.kindL (55 :: List.replicate n 41) = (1, 1) := by
 cases n with
 | zero => kernel_rfl
 | succ n => cases n with
   | zero => kernel_rfl
   | succ n => rw [List.replicate_succ, List.replicate_succ]; rfl
theorem lexD_deep (n : Nat) : WW.lexD ⟨(deepL n).toArray⟩ = (deepT n, 0, 0, 0) := by
 have hs : (⟨(deepL n).toArray⟩ : ByteArray).size + 1 = (((0 + 1) + n) + 1) + n := by
  show (deepL n).toArray.size + 1 = _
  simp [deepL]
  omega
 have h1 := lexB_pars 41 (.inr rfl) [] (0 + 1) n (1 + n + 1)
 rw [List.append_nil] at h1
 have h2 : WW.lexB (0 + 1) ⟨([] : List UInt8).toArray⟩ (1, 1 + n + 1 + n) = .inr [] := rfl
 rw [h2] at h1
 have h3 := lexB_tok1 ((0 + 1) + n) 55 (List.replicate n 41) (1, 1 + n) 1 rfl (by decide) (kind7 n)
 simp only [h1] at h3
 have h4 := lexB_pars 40 (.inl rfl) (55 :: List.replicate n 41) (((0 + 1) + n) + 1) n 1
 rw [h3] at h4
 unfold WW.lexD
 rw [hs]
 unfold deepL
 rw [h4]
 simp only [WW.comb, List.append_nil, List.nil_append, deepT, t7, show 1 + n + 1 = n + 2 by omega, show 1 + n = n + 1 by omega]
 rfl
theorem popR_par (r : List S82) (o : List Nd) : popR 1 (⟨-1, 0, 0⟩ :: r) o = (⟨-1, 0, 0⟩ :: r, o) := by
 rw [popR]
 rfl
theorem run_open (last : S75) (k : Nat) (rest : List S75) (o : List Nd) (R : Res) : ∀ (n col : Nat) (r : List S82) (dp : Int), dp + n ≤ 200 → Run last k true rest (List.replicate n ⟨-1, 0, 0⟩ ++ r) o (dp + n) R → Run last (k + n) true (pars 40 col n ++ rest) r o dp R
 | 0, col, r, dp, hd, h => by simpa [pars] using h
 | n + 1, col, r, dp, hd, h => by
   refine Run.oPar (k + n) _ _ _ _ _ _ rfl rfl (by omega) (run_open last k rest o R n (col + 1) _ (dp + 1) (by omega) ?_)
   have e : List.replicate n (⟨-1, 0, 0⟩ : S82) ++ (⟨-1, 0, 0⟩ :: r) = List.replicate (n + 1) ⟨-1, 0, 0⟩ ++ r := by
    rw [List.replicate_succ', List.append_assoc]; rfl
   rw [e, show dp + 1 + (n : Int) = dp + ((n + 1 : Nat) : Int) by omega]
   exact h
theorem run_shut (last : S75) (k : Nat) (rest : List S75) (o : List Nd) (R : Res) (r : List S82) : ∀ (n col : Nat) (dp : Int), Run last k false rest r o dp R → Run last (k + n) false (pars 41 col n ++ rest) (List.replicate n ⟨-1, 0, 0⟩ ++ r) o (dp + n) R
 | 0, col, dp, h => by simpa [pars] using h
 | n + 1, col, dp, h => by
   refine Run.pShutP (k + n) _ _ _ o _ _ ⟨-1, 0, 0⟩ (List.replicate n ⟨-1, 0, 0⟩ ++ r) o rfl rfl ?_ (by decide) (by decide) ?_
   ·rw [List.replicate_succ, List.cons_append]; exact popR_par _ _
   ·rw [show dp + ((n + 1 : Nat) : Int) - 1 = dp + n by omega]
    exact run_shut last k rest o R r n (col + 1) dp h
theorem run_deep (last : S75) (n : Nat) (hn : n ≤ 200) : Run last ((((0 + 1) + n) + 1) + n) true (deepT n) [] [] 0 (.ok [.num 7 1]) := by
 refine run_open last _ _ _ _ n 1 [] 0 (by omega) ?_
 rw [List.append_nil]
 refine Run.oNum _ _ _ _ _ _ _ 7 1 rfl numT7 ?_
 have h := run_shut last (0 + 1) [] [.num 7 1] (.ok [.num 7 1]) [] n (n + 2) 0 (Run.pEnd 0 [] _ _ _ rfl)
 rw [List.append_nil, List.append_nil] at h
 exact h
theorem run_deeper (last : S75) (n : Nat) (hn : 200 < n) : Run last ((0 + 1) + 200) true (deepT n) [] [] 0 (.err 111 1 201) := by
 have e : deepT n = pars 40 1 200 ++ (⟨2, ⟨#[40]⟩, 1, 201⟩ :: (pars 40 202 (n - 201) ++ (t7 n :: pars 41 (n + 2) n))) := by
  unfold deepT
  rw [show n = 200 + (1 + (n - 201)) by omega, pars_add 40 200, pars_add 40 1]
  rw [show 200 + (1 + (n - 201)) = n by omega, List.append_assoc, List.append_assoc]
  rfl
 rw [e]
 refine run_open last _ _ _ _ 200 1 [] 0 (by omega) ?_
 exact Run.oDeep 0 _ _ _ _ _ rfl rfl (by decide)
theorem deepT_last (n : Nat) : ∃ (pre : List S75) (last : S75), deepT n = pre ++ [last] ∧ (0 : Int) ≤ last.f3 ∧ last.f3 + (last.f1.size : Int) ≤ ((2 * n + 3 : Nat) : Int) := by
 cases n with
 | zero => exact ⟨[], t7 0, rfl, by decide, by decide⟩
 | succ n =>
   refine ⟨pars 40 1 (n + 1) ++ (t7 (n + 1) :: pars 41 (n + 1 + 2) n), ⟨2, ⟨#[41]⟩, 1, ((n + 1 + 2 + n : Nat) : Int)⟩, ?_, ?_, ?_⟩
   ·unfold deepT
    rw [pars_snoc 41 n (n + 1 + 2)]
    simp [List.append_assoc]
   ·show (0 : Int) ≤ ((n + 1 + 2 + n : Nat) : Int)
    omega
   ·show ((n + 1 + 2 + n : Nat) : Int) + ((1 : Nat) : Int) ≤ _
    omega
theorem deepT_len (n : Nat) : (deepT n).length = 2 * n + 1 := by
 simp [deepT, pars_len]; omega
end Go.Proofs.YtjopepfemhckjaaGreatDoor.NW
end
section
set_option maxRecDepth 100000
namespace Go.Proofs.YtjopepfemhckjaaGreatDoor.NW
open Go.Proofs Go.RowKit Go.Shelf Go.Proofs.YtjopepfemhckjaaGreatDoor.PN Go.Proofs.YtjopepfemhckjaaGreatDoorW.PrintWords Go.Proofs.YtjopepfemhckjaaGreatDoor.PParseTells
def repB (c : UInt8) (n : Nat) : ByteArray := ⟨(List.replicate n c).toArray⟩
theorem repB_size (c : UInt8) (n : Nat) : (repB c n).size = n := by
 show (List.replicate n c).toArray.size = n
 simp
theorem repB_succ (c : UInt8) (n : Nat) : repB c n ++ ⟨#[c]⟩ = repB c (n + 1) := by
 apply bxL
 rw [ByteArray.data_append]
 show ((List.replicate n c).toArray ++ #[c]).toList = (List.replicate (n + 1) c).toArray.toList
 simp [List.replicate_succ']
theorem deep_S (n : Nat) : (repB 40 n ++ (⟨#[55]⟩ : ByteArray)) ++ repB 41 n = ⟨(deepL n).toArray⟩ := by
 apply bxL
 rw [ByteArray.data_append, ByteArray.data_append]
 show ((List.replicate n (40 : UInt8)).toArray ++ #[(55 : UInt8)] ++ (List.replicate n (41 : UInt8)).toArray).toList = (deepL n).toArray.toList
 simp [deepL]
theorem deepL_size (n : Nat) : (⟨(deepL n).toArray⟩ : ByteArray).size = 2 * n + 1 := by
 show (deepL n).toArray.size = _
 simp [deepL]
 omega
theorem deep_ok (n : Nat) (hn : n ≤ 200) (w : World) (hg : Glob w) : Calls Tryz.prog 10 #[.string ((repB 40 n ++ (⟨#[55]⟩ : ByteArray)) ++ repB 41 n)] w fun ex w' => ∃ A c, ex = .returned (.tuple #[.slice A 1 c, .int .i64 0, .int .i64 0, .int .i64 0]) ∧ 1 ≤ c ∧ (∀ ad, A = some ad → ∃ tb of, ad = ⟨tb, of, none⟩ ∧ tb < w'.heap.size) ∧ Aside0 (Kd.C k37 w' A 1 (([.num 7 1] : List Nd).map nd37)) ∧ Below w.heap.size w w' := by
 rw [deep_S]
 obtain ⟨pre, last, e, h0, h1⟩ := deepT_last n
 exact parseOk_at _ (by rw [deepL_size]; omega) 10000 div_small (by decide) (deepT n) (lexD_deep n) (by rw [deepT_len]; omega) last (.inr ⟨pre, e⟩) ⟨h0, by omega⟩ _ [.num 7 1] (run_deep last n hn) ⟨#[55]⟩ 1
  ⟨fun n hn => by
   simp only [List.mem_cons, List.not_mem_nil, or_false] at hn
   subst hn
   exact ratOK1 7 (sz1 7 55 (by kernel_rfl)), by decide, by kernel_rfl, by kernel_rfl⟩ (by decide) (by decide) (by decide) w hg
theorem deep_err (n : Nat) (hn : 200 < n) (hn2 : n ≤ 300) (w : World) (hg : Glob w) : Calls Tryz.prog 10 #[.string ((repB 40 n ++ (⟨#[55]⟩ : ByteArray)) ++ repB 41 n)] w fun ex w' => ex = .returned (.tuple #[.slice none 0 0, .int .i64 111, .int .i64 1, .int .i64 201]) ∧ Below w.heap.size w w' := by
 rw [deep_S]
 obtain ⟨pre, last, e, h0, h1⟩ := deepT_last n
 exact parseErr_at _ (by rw [deepL_size]; omega) (deepT n) (lexD_deep n) (by rw [deepT_len]; omega) last (.inr ⟨pre, e⟩) ⟨h0, by omega⟩ _ 111 1 201 (by decide) (run_deeper last n hn) w hg
set_option maxHeartbeats 4000000 in
theorem deepA_at (a : Int) (h1 : a < 0) (w : World) (hg : Glob w) : Calls Tryz.prog 5 #[.int .i64 a] w fun e w' => e = .returned (.bool true) ∧ Below w.heap.size w w' := by
 have HG := Aside0.mk hg
 have H0 := fun w hg => Lib.hid (fixed_at w hg)
 clear hg
 go_enter Tryz.func5, Tryz.ntmps5
 go_wp2_with fail
 refine (H0 _ HG.out).out.mono ?_
 rintro e w0 ⟨rfl, hb⟩
 have B0 := Aside0.mk hb
 clear hb
 go_wp2_with fail
 refine (H0 _ (HG.out.below B0.out)).out.mono ?_
 rintro e w1 ⟨rfl, hb⟩
 have B1 := B0.out.trans (hb.mono B0.out.size)
 go_wp2_with fail
 go_ret
 exact ⟨rfl, B1⟩
set_option maxHeartbeats 4000000 in
theorem deepB_at (a : Int) (h1 : ¬ a < 0) (h2 : 300 < a) (w : World) (hg : Glob w) : Calls Tryz.prog 5 #[.int .i64 a] w fun e w' => e = .returned (.bool true) ∧ Below w.heap.size w w' := by
 have HG := Aside0.mk hg
 have H0 := fun w hg => Lib.hid (fixed_at w hg)
 clear hg
 go_enter Tryz.func5, Tryz.ntmps5
 go_wp2_with fail
 refine (H0 _ HG.out).out.mono ?_
 rintro e w0 ⟨rfl, hb⟩
 have B0 := Aside0.mk hb
 clear hb
 go_wp2_with fail
 refine (H0 _ (HG.out.below B0.out)).out.mono ?_
 rintro e w1 ⟨rfl, hb⟩
 have B1 := B0.out.trans (hb.mono B0.out.size)
 go_wp2_with fail
 go_ret
 exact ⟨rfl, B1⟩
set_option maxHeartbeats 4000000 in
theorem deepOk_at (n : Nat) (hn : n ≤ 200) (w : World) (hg : Glob w) : Calls Tryz.prog 5 #[.int .i64 n] w fun e w' => e = .returned (.bool true) ∧ Below w.heap.size w w' := by
 have HG := Aside0.mk hg
 have H0 := fun w hg => Lib.hid (fixed_at w hg)
 have HP := fun w hg => Lib.hid (deep_ok n hn w hg)
 have n1 : ¬ (n : Int) < 0 := by omega
 have n2 : ¬ 300 < (n : Int) := by omega
 clear hg
 go_enter Tryz.func5, Tryz.ntmps5
 go_wp2_with fail
 refine (H0 _ HG.out).out.mono ?_
 rintro e w0 ⟨rfl, hb⟩
 have HG1 := Aside0.mk (HG.out.below hb)
 have B0 := Aside0.mk hb
 clear hb H0 HG
 go_wp2
 go_loop [3, 4, 5] (fun v3 v4 v5 => ∃ j : Nat, v3 = .string (repB 40 j) ∧ v4 = .string (repB 41 j) ∧ v5 = .int .i64 j ∧ Aside0 (j ≤ n)) (fun _ _ v5 => n - (Lib.intOf v5).toNat)
 case atStart => exact ⟨0, rfl, rfl, rfl, ⟨Nat.zero_le _⟩⟩
 case round =>
  obtain ⟨j, rfl, rfl, rfl, HJ⟩ := hrel
  have hj := HJ.out
  have r1 := repB_succ 40 j
  have r2 := repB_succ 41 j
  have z1 : ¬ 9223372036854775807 < (repB 40 j).size + 1 := by rw [repB_size]; omega
  have z2 : ¬ 9223372036854775807 < (repB 41 j).size + 1 := by rw [repB_size]; omega
  by_cases hlt : j < n
  ·go_wp2
   go_round
   case measure => simp [Lib.intOf]; omega
   case rel => exact ⟨j + 1, rfl, rfl, by go_num, ⟨by omega⟩⟩
  ·have e : j = n := by omega
   subst e
   have z3 : ¬ 9223372036854775807 < (repB 40 j ++ (⟨#[55]⟩ : ByteArray)).size + (repB 41 j).size := by
    rw [ByteArray.size_append, repB_size, repB_size]
    show ¬ 9223372036854775807 < j + 1 + j
    omega
   clear HJ r1 r2 hj hlt
   have n3 : ¬ 200 < (j : Int) := by omega
   go_wp2_with fail
   first | skip
   refine (HP _ HG1.out).out.mono ?_
   rintro e w2 ⟨A, c, rfl, hc, hA, hC, hb⟩
   obtain ⟨ad, rfl, q0, q1, q2, q3, q4, q5⟩ := at_T37 hC.out 0 (by decide) (by decide)
   replace q1 : w2.cell? ⟨ad.block, ad.off + 1, none⟩ = some (.string (intS 7)) := q1
   rw [show intS 7 = ⟨#[55]⟩ by kernel_rfl] at q1
   have B1 := Aside0.mk (B0.out.trans (hb.mono B0.out.size))
   clear hb HP B0 hA hC q0 q2 q3 q4 q5
   go_wp2_with fail
   go_ret
   exact ⟨by first | rfl | (simp; done) | (simp; omega), B1.out⟩
set_option maxHeartbeats 4000000 in
theorem deepErr_at (n : Nat) (hn : 200 < n) (hn2 : n ≤ 300) (w : World) (hg : Glob w) : Calls Tryz.prog 5 #[.int .i64 n] w fun e w' => e = .returned (.bool true) ∧ Below w.heap.size w w' := by
 have HG := Aside0.mk hg
 have H0 := fun w hg => Lib.hid (fixed_at w hg)
 have HP := fun w hg => Lib.hid (deep_err n hn hn2 w hg)
 have n1 : ¬ (n : Int) < 0 := by omega
 have n2 : ¬ 300 < (n : Int) := by omega
 clear hg
 go_enter Tryz.func5, Tryz.ntmps5
 go_wp2_with fail
 refine (H0 _ HG.out).out.mono ?_
 rintro e w0 ⟨rfl, hb⟩
 have HG1 := Aside0.mk (HG.out.below hb)
 have B0 := Aside0.mk hb
 clear hb H0 HG
 go_wp2
 go_loop [3, 4, 5] (fun v3 v4 v5 => ∃ j : Nat, v3 = .string (repB 40 j) ∧ v4 = .string (repB 41 j) ∧ v5 = .int .i64 j ∧ Aside0 (j ≤ n)) (fun _ _ v5 => n - (Lib.intOf v5).toNat)
 case atStart => exact ⟨0, rfl, rfl, rfl, ⟨Nat.zero_le _⟩⟩
 case round =>
  obtain ⟨j, rfl, rfl, rfl, HJ⟩ := hrel
  have hj := HJ.out
  have r1 := repB_succ 40 j
  have r2 := repB_succ 41 j
  have z1 : ¬ 9223372036854775807 < (repB 40 j).size + 1 := by rw [repB_size]; omega
  have z2 : ¬ 9223372036854775807 < (repB 41 j).size + 1 := by rw [repB_size]; omega
  by_cases hlt : j < n
  ·go_wp2
   go_round
   case measure => simp [Lib.intOf]; omega
   case rel => exact ⟨j + 1, rfl, rfl, by go_num, ⟨by omega⟩⟩
  ·have e : j = n := by omega
   subst e
   have z3 : ¬ 9223372036854775807 < (repB 40 j ++ (⟨#[55]⟩ : ByteArray)).size + (repB 41 j).size := by
    rw [ByteArray.size_append, repB_size, repB_size]
    show ¬ 9223372036854775807 < j + 1 + j
    omega
   clear HJ r1 r2 hj hlt
   go_wp2_with fail
   first | skip
   refine (HP _ HG1.out).out.mono ?_
   rintro e w2 ⟨rfl, hb⟩
   have B1 := Aside0.mk (B0.out.trans (hb.mono B0.out.size))
   clear hb HP B0
   go_wp2_with fail
   go_ret
   exact ⟨by first | rfl | (simp; done) | (simp; omega), B1.out⟩
theorem deep_at (a : Int) (w : World) (hg : Glob w) : Calls Tryz.prog 5 #[.int .i64 a] w fun e w' => e = .returned (.bool true) ∧ Below w.heap.size w w' := by
 by_cases h1 : a < 0
 ·exact deepA_at a h1 w hg
 by_cases h2 : 300 < a
 ·exact deepB_at a h1 h2 w hg
 obtain ⟨n, rfl⟩ := Int.eq_ofNat_of_zero_le (by omega : 0 ≤ a)
 by_cases h3 : n ≤ 200
 ·exact deepOk_at n h3 w hg
 ·exact deepErr_at n (by omega) (by omega) w hg
end Go.Proofs.YtjopepfemhckjaaGreatDoor.NW
end
