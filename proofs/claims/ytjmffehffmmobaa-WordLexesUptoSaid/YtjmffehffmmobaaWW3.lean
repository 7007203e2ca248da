/-
  word's scanner: kind, walked.
-/
import Derived.Test.YtjmffehffmmobaaWW2
import Derived.Lib.Bytealg
import Derived.Shelf.Abstract
set_option linter.unusedVariables false
set_option linter.unusedSimpArgs false
namespace Go.Proofs.Ytjmffehffmmobaa.WW
open Go.Proofs Go.RowKit Go.Proofs.Ytjmffehffmmobaa.WP Go.Proofs.Ytjmffehffmmobaa.Fl Go.Proofs.YtjmffehffmmobaaW.PrintWords

set_option maxHeartbeats 1000000 in
set_option maxRecDepth 100000 in
theorem slite_index (s : ByteArray) (c : Int) (w : World) :
    Calls Try.prog 36 #[.string s, .int .u8 c] w fun e w' => e = .returned (.int .i64 (Lib.indexByte s.data.toList c.toNat.toUInt8)) ∧ w' = w := by
  go_enter Try.func36, Try.ntmps36
  go_wp2
  rw [run_callFunc_extern Try.func40 (by kernel_rfl) (by kernel_rfl) (by kernel_rfl) (e := Extern.BytealgIndexByte.indexByte) (by kernel_rfl), Lib.run_indexByteString]
  simp only [Result.andThen]
  rw [Oper.upon_value]
  go_wp2
  go_ret
  exact ⟨rfl, rfl⟩

theorem str_index (s : ByteArray) (c : Int) (w : World) :
    Calls Try.prog 27 #[.string s, .int .u8 c] w fun e w' => e = .returned (.int .i64 (Lib.indexByte s.data.toList c.toNat.toUInt8)) ∧ w' = w := by
  go_enter Try.func27, Try.ntmps27
  go_wp2_with fail
  refine (slite_index s c w).mono ?_
  rintro e w' ⟨rfl, rfl⟩
  go_wp2
  go_ret
  exact ⟨rfl, rfl⟩

theorem signs_index : ∀ c : Nat, c < 256 → decide (0 ≤ Lib.indexByte [43, 45, 42, 47, 40, 41, 44] c.toUInt8) = isS c := by decide +kernel

theorem isS_index (c : Nat) (w : World) (h : c < 256) : 
    Calls Try.prog 27 #[.string ⟨#[43, 45, 42, 47, 40, 41, 44]⟩, .int .u8 c] w fun e w' => (∃ v : Int, e = .returned (.int .i64 v) ∧ decide (0 ≤ v) = isS c) ∧ w = w' := by
  refine (str_index _ _ w).mono ?_
  rintro e w' ⟨rfl, rfl⟩
  exact ⟨⟨_, rfl, signs_index c h⟩, rfl⟩

/-- How long the number at the begin is. -/
def numL (l : List UInt8) : Nat :=
  if peekL l (runL isD l) = 46 ∧ isD (peekL l (runL isD l + 1)) = true then runL isD l + (1 + runL isD (l.drop (runL isD l + 1))) else runL isD l
/-- The next token's kind, and how long it is; 0: there is none. -/
def kindL (l : List UInt8) : Nat × Nat :=
  if isL (peekL l 0) = true then (if 20 < runL isLD l then (0, 0) else (0, runL isLD l))
  else if isD (peekL l 0) = true then (if 100 < numL l then (0, 0) else (1, numL l))
  else if isS (peekL l 0) = true then (2, 1) else (0, 0)

theorem peekL_lt (l : List UInt8) (n : Nat) : peekL l n < 256 := by
  unfold peekL
  cases l[n]? with
  | none => simp
  | some c => exact c.toNat_lt

theorem enters_namely : ∀ (args : Array Value) (w : World), (callFunc 25 args).run Try.prog w = .ok (.enter 25 args) w := Go.Proofs.enters_of Try.func25 (by kernel_rfl) rfl
theorem enters_digit : ∀ (args : Array Value) (w : World), (callFunc 26 args).run Try.prog w = .ok (.enter 26 args) w := Go.Proofs.enters_of Try.func26 (by kernel_rfl) rfl
theorem enters_blank : ∀ (args : Array Value) (w : World), (callFunc 17 args).run Try.prog w = .ok (.enter 17 args) w := Go.Proofs.enters_of Try.func17 (by kernel_rfl) rfl

abbrev KindIs (b : Nat) (k : Nat × Nat) (w : World) : Prop :=
  Calls Try.prog 19 #[.pointer (some ⟨b, 0, none⟩)] w fun e w' => e = .returned (.tuple #[.int .i64 k.1, .int .i64 k.2]) ∧ w = w'

set_option maxHeartbeats 1000000 in
set_option maxRecDepth 100000 in
theorem kind_name (b : Nat) (s : ByteArray) (p : Nat × Nat) (w : World) (h : Scan b s p w) (hs : s.size ≤ 1000000000) (c n : Nat) (hc : peekL s.data.toList 0 = c) (hL : isL c = true) (hn : runL isLD s.data.toList = n) (h2 : n ≤ 20) :
    KindIs b (0, n) w := by
  have hp := peek b s p 0 w h hs (by omega) (by omega)
  have hr := run 25 isLD (fun c w h => namely c w h) enters_namely b s p 0 w h hs (by omega) (by omega)
  simp only [Int.toNat_zero, List.drop_zero, hc, hn] at hp hr
  have hk := letter c w (by rw [← hc]; exact peekL_lt _ _)
  rw [hL] at hk
  have HP := Lib.hid hp; have HR := Lib.hid hr; have HK := Lib.hid hk
  clear hp hr hk hc hL hn h
  go_enter Try.func19, Try.ntmps19
  go_wp2_with fail
  refine HP.out.mono ?_
  rintro e w1 ⟨rfl, rfl⟩
  go_wp2_with fail
  refine HK.out.mono ?_
  rintro e w1 ⟨rfl, rfl⟩
  go_wp2_with fail
  refine HR.out.mono ?_
  rintro e w1 ⟨rfl, rfl⟩
  go_wp2
  go_ret2
  exact ⟨rfl, rfl⟩

set_option maxHeartbeats 1000000 in
set_option maxRecDepth 100000 in
theorem kind_long (b : Nat) (s : ByteArray) (p : Nat × Nat) (w : World) (h : Scan b s p w) (hs : s.size ≤ 1000000000) (c n : Nat) (hc : peekL s.data.toList 0 = c) (hL : isL c = true) (hn : runL isLD s.data.toList = n) (h2 : 20 < n) (h3 : n ≤ 1000000000) :
    KindIs b (0, 0) w := by
  have hp := peek b s p 0 w h hs (by omega) (by omega)
  have hr := run 25 isLD (fun c w h => namely c w h) enters_namely b s p 0 w h hs (by omega) (by omega)
  simp only [Int.toNat_zero, List.drop_zero, hc, hn] at hp hr
  have hk := letter c w (by rw [← hc]; exact peekL_lt _ _)
  rw [hL] at hk
  have HP := Lib.hid hp; have HR := Lib.hid hr; have HK := Lib.hid hk
  clear hp hr hk hc hL hn h
  go_enter Try.func19, Try.ntmps19
  go_wp2_with fail
  refine HP.out.mono ?_
  rintro e w1 ⟨rfl, rfl⟩
  go_wp2_with fail
  refine HK.out.mono ?_
  rintro e w1 ⟨rfl, rfl⟩
  go_wp2_with fail
  refine HR.out.mono ?_
  rintro e w1 ⟨rfl, rfl⟩
  go_wp2
  go_ret2
  exact ⟨rfl, rfl⟩

set_option maxHeartbeats 1000000 in
set_option maxRecDepth 100000 in
theorem kind_else (b : Nat) (s : ByteArray) (p : Nat × Nat) (w : World) (h : Scan b s p w) (hs : s.size ≤ 1000000000) (c : Nat) (hc : peekL s.data.toList 0 = c) (hL : isL c = false) (hD : isD c = false) :
    KindIs b (if isS c = true then (2, 1) else (0, 0)) w := by
  have hp := peek b s p 0 w h hs (by omega) (by omega)
  have hc2 : c < 256 := by rw [← hc]; exact peekL_lt _ _
  simp only [Int.toNat_zero, hc] at hp
  have hk := letter c w hc2
  rw [hL] at hk
  have hd := digit c w hc2
  rw [hD] at hd
  have HP := Lib.hid hp; have HD := Lib.hid hd; have HK := Lib.hid hk
  have HX := Lib.hid (isS_index c w hc2)
  clear hp hd hk hc hL hD h
  cases hS : isS c
  · have HS := Lib.hid hS
    clear hS
    go_enter Try.func19, Try.ntmps19
    go_wp2_with fail
    refine HP.out.mono ?_
    rintro e w1 ⟨rfl, rfl⟩
    go_wp2_with fail
    refine HK.out.mono ?_
    rintro e w1 ⟨rfl, rfl⟩
    go_wp2_with fail
    refine HD.out.mono ?_
    rintro e w1 ⟨rfl, rfl⟩
    go_wp2_with fail
    refine HX.out.mono ?_
    rintro e w1 ⟨⟨v, rfl, hv⟩, rfl⟩
    rw [HS.out] at hv
    go_wp2
    go_ret2
    exact ⟨rfl, rfl⟩
  · have HS := Lib.hid hS
    clear hS
    go_enter Try.func19, Try.ntmps19
    go_wp2_with fail
    refine HP.out.mono ?_
    rintro e w1 ⟨rfl, rfl⟩
    go_wp2_with fail
    refine HK.out.mono ?_
    rintro e w1 ⟨rfl, rfl⟩
    go_wp2_with fail
    refine HD.out.mono ?_
    rintro e w1 ⟨rfl, rfl⟩
    go_wp2_with fail
    refine HX.out.mono ?_
    rintro e w1 ⟨⟨v, rfl, hv⟩, rfl⟩
    rw [HS.out] at hv
    go_wp2
    go_ret2
    exact ⟨rfl, rfl⟩

theorem peekL_inside (l : List UInt8) (n : Nat) (h : isD (peekL l n) = true) : n < l.length := by
  apply Classical.byContradiction
  intro hn
  unfold peekL at h
  rw [List.getElem?_eq_none (by omega)] at h
  exact absurd h (by decide)

set_option maxHeartbeats 1000000 in
set_option maxRecDepth 100000 in
theorem kind_numa0 (b : Nat) (s : ByteArray) (p : Nat × Nat) (w : World) (h : Scan b s p w) (hs : s.size ≤ 100000000) (c n : Nat) (hc : peekL s.data.toList 0 = c) (hL : isL c = false) (hD : isD c = true) (hn : runL isD s.data.toList = n) (hn1 : n ≤ s.size) (k : Nat) (hk1 : peekL s.data.toList n = k) (h46 : k ≠ 46) (h2 : n ≤ 100) :
    KindIs b (1, n) w := by
  replace hs : s.size ≤ 1000000000 ∧ s.size ≤ 100000000 := by omega
  obtain ⟨hs, hs3⟩ := hs
  have hp := peek b s p 0 w h hs (by omega) (by omega)
  have hr := run 26 isD (fun c w h => digit c w h) enters_digit b s p 0 w h hs (by omega) (by omega)
  simp only [Int.toNat_zero, List.drop_zero, hc, hn] at hp hr
  have hc2 : c < 256 := by rw [← hc]; exact peekL_lt _ _
  have hk := letter c w hc2
  rw [hL] at hk
  have hd := digit c w hc2
  rw [hD] at hd
  have hp1 := peek b s p n w h hs (by omega) (by omega)
  rw [Int.toNat_natCast] at hp1
  rw [hk1] at hp1
  have t1 : ((k : Int) == 46) = false := by rw [beq_eq_false_iff_ne]; omega
  clear hk1 h46
  have HP := Lib.hid hp; have HR := Lib.hid hr; have HK := Lib.hid hk; have HD := Lib.hid hd; have HP1 := Lib.hid hp1
  clear hp hr hk hd hp1 hc hL hD hn h
  go_enter Try.func19, Try.ntmps19
  go_wp2_with fail
  refine HP.out.mono ?_
  rintro e w1 ⟨rfl, rfl⟩
  go_wp2_with fail
  refine HK.out.mono ?_
  rintro e w1 ⟨rfl, rfl⟩
  go_wp2_with fail
  refine HD.out.mono ?_
  rintro e w1 ⟨rfl, rfl⟩
  go_wp2_with fail
  refine HR.out.mono ?_
  rintro e w1 ⟨rfl, rfl⟩
  go_wp2_with fail
  refine HP1.out.mono ?_
  rintro e w1 ⟨rfl, rfl⟩
  go_wp2
  go_ret2
  exact ⟨rfl, rfl⟩

set_option maxHeartbeats 1000000 in
set_option maxRecDepth 100000 in
theorem kind_numb0 (b : Nat) (s : ByteArray) (p : Nat × Nat) (w : World) (h : Scan b s p w) (hs : s.size ≤ 100000000) (c n d : Nat) (hc : peekL s.data.toList 0 = c) (hL : isL c = false) (hD : isD c = true) (hn : runL isD s.data.toList = n) (hn1 : n ≤ s.size) (hk1 : peekL s.data.toList n = 46) (hk2 : peekL s.data.toList (n + 1) = d) (hd1 : isD d = false) (h2 : n ≤ 100) :
    KindIs b (1, n) w := by
  replace hs : s.size ≤ 1000000000 ∧ s.size ≤ 100000000 := by omega
  obtain ⟨hs, hs3⟩ := hs
  have hp := peek b s p 0 w h hs (by omega) (by omega)
  have hr := run 26 isD (fun c w h => digit c w h) enters_digit b s p 0 w h hs (by omega) (by omega)
  simp only [Int.toNat_zero, List.drop_zero, hc, hn] at hp hr
  have hc2 : c < 256 := by rw [← hc]; exact peekL_lt _ _
  have hk := letter c w hc2
  rw [hL] at hk
  have hd := digit c w hc2
  rw [hD] at hd
  have hp1 := peek b s p n w h hs (by omega) (by omega)
  rw [Int.toNat_natCast] at hp1
  rw [hk1] at hp1
  have hp2 := peek b s p (n + 1) w h hs (by omega) (by omega)
  rw [show ((n : Int) + 1).toNat = n + 1 by omega, hk2] at hp2
  have hd2 := digit d w (by rw [← hk2]; exact peekL_lt _ _)
  rw [hd1] at hd2
  have HP2 := Lib.hid hp2
  have HD2 := Lib.hid hd2
  clear hp2 hd2 hk1
  clear hk2 hd1
  have HP := Lib.hid hp; have HR := Lib.hid hr; have HK := Lib.hid hk; have HD := Lib.hid hd; have HP1 := Lib.hid hp1
  clear hp hr hk hd hp1 hc hL hD hn h
  go_enter Try.func19, Try.ntmps19
  go_wp2_with fail
  refine HP.out.mono ?_
  rintro e w1 ⟨rfl, rfl⟩
  go_wp2_with fail
  refine HK.out.mono ?_
  rintro e w1 ⟨rfl, rfl⟩
  go_wp2_with fail
  refine HD.out.mono ?_
  rintro e w1 ⟨rfl, rfl⟩
  go_wp2_with fail
  refine HR.out.mono ?_
  rintro e w1 ⟨rfl, rfl⟩
  go_wp2_with fail
  refine HP1.out.mono ?_
  rintro e w1 ⟨rfl, rfl⟩
  go_wp2_with fail
  refine HP2.out.mono ?_
  rintro e w1 ⟨rfl, rfl⟩
  go_wp2_with fail
  refine HD2.out.mono ?_
  rintro e w1 ⟨rfl, rfl⟩
  go_wp2
  go_ret2
  exact ⟨rfl, rfl⟩

set_option maxHeartbeats 1000000 in
set_option maxRecDepth 100000 in
theorem kind_numc0 (b : Nat) (s : ByteArray) (p : Nat × Nat) (w : World) (h : Scan b s p w) (hs : s.size ≤ 100000000) (c n d m : Nat) (hc : peekL s.data.toList 0 = c) (hL : isL c = false) (hD : isD c = true) (hn : runL isD s.data.toList = n) (hn1 : n ≤ s.size) (hk1 : peekL s.data.toList n = 46) (hk2 : peekL s.data.toList (n + 1) = d) (hd1 : isD d = true) (hm : runL isD (s.data.toList.drop (n + 1)) = m) (hm1 : m ≤ 1000000000) (h2 : n + (1 + m) ≤ 100) :
    KindIs b (1, n + (1 + m)) w := by
  replace hs : s.size ≤ 1000000000 ∧ s.size ≤ 100000000 := by omega
  obtain ⟨hs, hs3⟩ := hs
  have hp := peek b s p 0 w h hs (by omega) (by omega)
  have hr := run 26 isD (fun c w h => digit c w h) enters_digit b s p 0 w h hs (by omega) (by omega)
  simp only [Int.toNat_zero, List.drop_zero, hc, hn] at hp hr
  have hc2 : c < 256 := by rw [← hc]; exact peekL_lt _ _
  have hk := letter c w hc2
  rw [hL] at hk
  have hd := digit c w hc2
  rw [hD] at hd
  have hp1 := peek b s p n w h hs (by omega) (by omega)
  rw [Int.toNat_natCast] at hp1
  rw [hk1] at hp1
  have hp2 := peek b s p (n + 1) w h hs (by omega) (by omega)
  rw [show ((n : Int) + 1).toNat = n + 1 by omega, hk2] at hp2
  have hd2 := digit d w (by rw [← hk2]; exact peekL_lt _ _)
  rw [hd1] at hd2
  have HP2 := Lib.hid hp2
  have HD2 := Lib.hid hd2
  clear hp2 hd2 hk1
  have hin := peekL_inside s.data.toList (n + 1) (by rw [hk2]; exact hd1)
  have hin2 : n + 1 ≤ s.size := by simp at hin; omega
  have hr2 := run 26 isD (fun c w h => digit c w h) enters_digit b s p (n + 1) w h hs (by omega) (by omega)
  rw [show ((n : Int) + 1).toNat = n + 1 by omega, hm] at hr2
  have HR2 := Lib.hid hr2
  clear hr2 hm hk2 hd1 hin
  have HP := Lib.hid hp; have HR := Lib.hid hr; have HK := Lib.hid hk; have HD := Lib.hid hd; have HP1 := Lib.hid hp1
  clear hp hr hk hd hp1 hc hL hD hn h
  go_enter Try.func19, Try.ntmps19
  go_wp2_with fail
  refine HP.out.mono ?_
  rintro e w1 ⟨rfl, rfl⟩
  go_wp2_with fail
  refine HK.out.mono ?_
  rintro e w1 ⟨rfl, rfl⟩
  go_wp2_with fail
  refine HD.out.mono ?_
  rintro e w1 ⟨rfl, rfl⟩
  go_wp2_with fail
  refine HR.out.mono ?_
  rintro e w1 ⟨rfl, rfl⟩
  go_wp2_with fail
  refine HP1.out.mono ?_
  rintro e w1 ⟨rfl, rfl⟩
  go_wp2_with fail
  refine HP2.out.mono ?_
  rintro e w1 ⟨rfl, rfl⟩
  go_wp2_with fail
  refine HD2.out.mono ?_
  rintro e w1 ⟨rfl, rfl⟩
  go_wp2_with fail
  refine HR2.out.mono ?_
  rintro e w1 ⟨rfl, rfl⟩
  go_wp2
  go_ret2
  exact ⟨rfl, rfl⟩

set_option maxHeartbeats 1000000 in
set_option maxRecDepth 100000 in
theorem kind_numa1 (b : Nat) (s : ByteArray) (p : Nat × Nat) (w : World) (h : Scan b s p w) (hs : s.size ≤ 100000000) (c n : Nat) (hc : peekL s.data.toList 0 = c) (hL : isL c = false) (hD : isD c = true) (hn : runL isD s.data.toList = n) (hn1 : n ≤ s.size) (k : Nat) (hk1 : peekL s.data.toList n = k) (h46 : k ≠ 46) (h2 : 100 < n) :
    KindIs b (0, 0) w := by
  replace hs : s.size ≤ 1000000000 ∧ s.size ≤ 100000000 := by omega
  obtain ⟨hs, hs3⟩ := hs
  have hp := peek b s p 0 w h hs (by omega) (by omega)
  have hr := run 26 isD (fun c w h => digit c w h) enters_digit b s p 0 w h hs (by omega) (by omega)
  simp only [Int.toNat_zero, List.drop_zero, hc, hn] at hp hr
  have hc2 : c < 256 := by rw [← hc]; exact peekL_lt _ _
  have hk := letter c w hc2
  rw [hL] at hk
  have hd := digit c w hc2
  rw [hD] at hd
  have hp1 := peek b s p n w h hs (by omega) (by omega)
  rw [Int.toNat_natCast] at hp1
  rw [hk1] at hp1
  have t1 : ((k : Int) == 46) = false := by rw [beq_eq_false_iff_ne]; omega
  clear hk1 h46
  have HP := Lib.hid hp; have HR := Lib.hid hr; have HK := Lib.hid hk; have HD := Lib.hid hd; have HP1 := Lib.hid hp1
  clear hp hr hk hd hp1 hc hL hD hn h
  go_enter Try.func19, Try.ntmps19
  go_wp2_with fail
  refine HP.out.mono ?_
  rintro e w1 ⟨rfl, rfl⟩
  go_wp2_with fail
  refine HK.out.mono ?_
  rintro e w1 ⟨rfl, rfl⟩
  go_wp2_with fail
  refine HD.out.mono ?_
  rintro e w1 ⟨rfl, rfl⟩
  go_wp2_with fail
  refine HR.out.mono ?_
  rintro e w1 ⟨rfl, rfl⟩
  go_wp2_with fail
  refine HP1.out.mono ?_
  rintro e w1 ⟨rfl, rfl⟩
  go_wp2
  go_ret2
  exact ⟨rfl, rfl⟩

set_option maxHeartbeats 1000000 in
set_option maxRecDepth 100000 in
theorem kind_numb1 (b : Nat) (s : ByteArray) (p : Nat × Nat) (w : World) (h : Scan b s p w) (hs : s.size ≤ 100000000) (c n d : Nat) (hc : peekL s.data.toList 0 = c) (hL : isL c = false) (hD : isD c = true) (hn : runL isD s.data.toList = n) (hn1 : n ≤ s.size) (hk1 : peekL s.data.toList n = 46) (hk2 : peekL s.data.toList (n + 1) = d) (hd1 : isD d = false) (h2 : 100 < n) :
    KindIs b (0, 0) w := by
  replace hs : s.size ≤ 1000000000 ∧ s.size ≤ 100000000 := by omega
  obtain ⟨hs, hs3⟩ := hs
  have hp := peek b s p 0 w h hs (by omega) (by omega)
  have hr := run 26 isD (fun c w h => digit c w h) enters_digit b s p 0 w h hs (by omega) (by omega)
  simp only [Int.toNat_zero, List.drop_zero, hc, hn] at hp hr
  have hc2 : c < 256 := by rw [← hc]; exact peekL_lt _ _
  have hk := letter c w hc2
  rw [hL] at hk
  have hd := digit c w hc2
  rw [hD] at hd
  have hp1 := peek b s p n w h hs (by omega) (by omega)
  rw [Int.toNat_natCast] at hp1
  rw [hk1] at hp1
  have hp2 := peek b s p (n + 1) w h hs (by omega) (by omega)
  rw [show ((n : Int) + 1).toNat = n + 1 by omega, hk2] at hp2
  have hd2 := digit d w (by rw [← hk2]; exact peekL_lt _ _)
  rw [hd1] at hd2
  have HP2 := Lib.hid hp2
  have HD2 := Lib.hid hd2
  clear hp2 hd2 hk1
  clear hk2 hd1
  have HP := Lib.hid hp; have HR := Lib.hid hr; have HK := Lib.hid hk; have HD := Lib.hid hd; have HP1 := Lib.hid hp1
  clear hp hr hk hd hp1 hc hL hD hn h
  go_enter Try.func19, Try.ntmps19
  go_wp2_with fail
  refine HP.out.mono ?_
  rintro e w1 ⟨rfl, rfl⟩
  go_wp2_with fail
  refine HK.out.mono ?_
  rintro e w1 ⟨rfl, rfl⟩
  go_wp2_with fail
  refine HD.out.mono ?_
  rintro e w1 ⟨rfl, rfl⟩
  go_wp2_with fail
  refine HR.out.mono ?_
  rintro e w1 ⟨rfl, rfl⟩
  go_wp2_with fail
  refine HP1.out.mono ?_
  rintro e w1 ⟨rfl, rfl⟩
  go_wp2_with fail
  refine HP2.out.mono ?_
  rintro e w1 ⟨rfl, rfl⟩
  go_wp2_with fail
  refine HD2.out.mono ?_
  rintro e w1 ⟨rfl, rfl⟩
  go_wp2
  go_ret2
  exact ⟨rfl, rfl⟩

set_option maxHeartbeats 1000000 in
set_option maxRecDepth 100000 in
theorem kind_numc1 (b : Nat) (s : ByteArray) (p : Nat × Nat) (w : World) (h : Scan b s p w) (hs : s.size ≤ 100000000) (c n d m : Nat) (hc : peekL s.data.toList 0 = c) (hL : isL c = false) (hD : isD c = true) (hn : runL isD s.data.toList = n) (hn1 : n ≤ s.size) (hk1 : peekL s.data.toList n = 46) (hk2 : peekL s.data.toList (n + 1) = d) (hd1 : isD d = true) (hm : runL isD (s.data.toList.drop (n + 1)) = m) (hm1 : m ≤ 1000000000) (h2 : 100 < n + (1 + m)) :
    KindIs b (0, 0) w := by
  replace hs : s.size ≤ 1000000000 ∧ s.size ≤ 100000000 := by omega
  obtain ⟨hs, hs3⟩ := hs
  have hp := peek b s p 0 w h hs (by omega) (by omega)
  have hr := run 26 isD (fun c w h => digit c w h) enters_digit b s p 0 w h hs (by omega) (by omega)
  simp only [Int.toNat_zero, List.drop_zero, hc, hn] at hp hr
  have hc2 : c < 256 := by rw [← hc]; exact peekL_lt _ _
  have hk := letter c w hc2
  rw [hL] at hk
  have hd := digit c w hc2
  rw [hD] at hd
  have hp1 := peek b s p n w h hs (by omega) (by omega)
  rw [Int.toNat_natCast] at hp1
  rw [hk1] at hp1
  have hp2 := peek b s p (n + 1) w h hs (by omega) (by omega)
  rw [show ((n : Int) + 1).toNat = n + 1 by omega, hk2] at hp2
  have hd2 := digit d w (by rw [← hk2]; exact peekL_lt _ _)
  rw [hd1] at hd2
  have HP2 := Lib.hid hp2
  have HD2 := Lib.hid hd2
  clear hp2 hd2 hk1
  have hin := peekL_inside s.data.toList (n + 1) (by rw [hk2]; exact hd1)
  have hin2 : n + 1 ≤ s.size := by simp at hin; omega
  have hr2 := run 26 isD (fun c w h => digit c w h) enters_digit b s p (n + 1) w h hs (by omega) (by omega)
  rw [show ((n : Int) + 1).toNat = n + 1 by omega, hm] at hr2
  have HR2 := Lib.hid hr2
  clear hr2 hm hk2 hd1 hin
  have HP := Lib.hid hp; have HR := Lib.hid hr; have HK := Lib.hid hk; have HD := Lib.hid hd; have HP1 := Lib.hid hp1
  clear hp hr hk hd hp1 hc hL hD hn h
  go_enter Try.func19, Try.ntmps19
  go_wp2_with fail
  refine HP.out.mono ?_
  rintro e w1 ⟨rfl, rfl⟩
  go_wp2_with fail
  refine HK.out.mono ?_
  rintro e w1 ⟨rfl, rfl⟩
  go_wp2_with fail
  refine HD.out.mono ?_
  rintro e w1 ⟨rfl, rfl⟩
  go_wp2_with fail
  refine HR.out.mono ?_
  rintro e w1 ⟨rfl, rfl⟩
  go_wp2_with fail
  refine HP1.out.mono ?_
  rintro e w1 ⟨rfl, rfl⟩
  go_wp2_with fail
  refine HP2.out.mono ?_
  rintro e w1 ⟨rfl, rfl⟩
  go_wp2_with fail
  refine HD2.out.mono ?_
  rintro e w1 ⟨rfl, rfl⟩
  go_wp2_with fail
  refine HR2.out.mono ?_
  rintro e w1 ⟨rfl, rfl⟩
  go_wp2
  go_ret2
  exact ⟨rfl, rfl⟩

theorem kind (b : Nat) (s : ByteArray) (p : Nat × Nat) (w : World) (h : Scan b s p w) (hs : s.size ≤ 100000000) : KindIs b (kindL s.data.toList) w := by
  have hlen : s.data.toList.length = s.size := by simp
  unfold kindL
  by_cases hL : isL (peekL s.data.toList 0) = true
  · rw [if_pos hL]
    have hle := runL_le isLD s.data.toList
    by_cases h2 : 20 < runL isLD s.data.toList
    · rw [if_pos h2]; exact kind_long b s p w h (by omega) _ _ rfl hL rfl h2 (by omega)
    · rw [if_neg h2]; exact kind_name b s p w h (by omega) _ _ rfl hL rfl (by omega)
  · rw [if_neg hL]
    have hL' : isL (peekL s.data.toList 0) = false := by simpa using hL
    by_cases hD : isD (peekL s.data.toList 0) = true
    · rw [if_pos hD]
      have hle := runL_le isD s.data.toList
      have hle2 := runL_le isD (s.data.toList.drop (runL isD s.data.toList + 1))
      rw [List.length_drop] at hle2
      by_cases h46 : peekL s.data.toList (runL isD s.data.toList) = 46
      · by_cases hd : isD (peekL s.data.toList (runL isD s.data.toList + 1)) = true
        · have e : numL s.data.toList = _ := if_pos ⟨h46, hd⟩
          rw [e]
          by_cases h2 : 100 < runL isD s.data.toList + (1 + runL isD (s.data.toList.drop (runL isD s.data.toList + 1)))
          · rw [if_pos h2]; exact kind_numc1 b s p w h hs _ _ _ _ rfl hL' hD rfl (by omega) h46 rfl hd rfl (by omega) h2
          · rw [if_neg h2]; exact kind_numc0 b s p w h hs _ _ _ _ rfl hL' hD rfl (by omega) h46 rfl hd rfl (by omega) (by omega)
        · have e : numL s.data.toList = _ := if_neg (fun h => hd h.2)
          rw [e]
          by_cases h2 : 100 < runL isD s.data.toList
          · rw [if_pos h2]; exact kind_numb1 b s p w h hs _ _ _ rfl hL' hD rfl (by omega) h46 rfl (by simpa using hd) h2
          · rw [if_neg h2]; exact kind_numb0 b s p w h hs _ _ _ rfl hL' hD rfl (by omega) h46 rfl (by simpa using hd) (by omega)
      · have e : numL s.data.toList = _ := if_neg (fun h => h46 h.1)
        rw [e]
        by_cases h2 : 100 < runL isD s.data.toList
        · rw [if_pos h2]; exact kind_numa1 b s p w h hs _ _ rfl hL' hD rfl (by omega) _ rfl h46 h2
        · rw [if_neg h2]; exact kind_numa0 b s p w h hs _ _ rfl hL' hD rfl (by omega) _ rfl h46 (by omega)
    · rw [if_neg hD]
      exact kind_else b s p w h (by omega) _ rfl hL' (by simpa using hD)

end Go.Proofs.Ytjmffehffmmobaa.WW
