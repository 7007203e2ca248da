/-
  Part 31 of the proof of parseSums_holds: texts of this seat, put together.
-/
import Derived.Test.YtjopepfemhckjaaGreatDoorSu30
set_option linter.unusedVariables false
set_option linter.unusedSimpArgs false
section
set_option maxRecDepth 100000
namespace Go.Proofs.YtjopepfemhckjaaGreatDoor.NW
open Go.Proofs Go.RowKit Go.Shelf Go.Proofs.YtjopepfemhckjaaGreatDoor.PN Go.Proofs.YtjopepfemhckjaaGreatDoorW.PrintWords Go.Proofs.YtjopepfemhckjaaGreatDoor.PParseTells
theorem numT_int (s : ByteArray) (z : Int) (d : Nat) (hd : allD s.data.toList) (hn : s.data.toList ≠ []) (hs : s.size ≤ 1000) (h1 : rnum (dv s.data.toList : Int) 1 = z) (h2 : rden (dv s.data.toList : Int) 1 = d) (hsh : parse_short.f (intS z) (natS d) = some true) : NumT s z d := by
 refine ⟨fun w hg => ?_, hsh⟩
 have h := decInt_at 10000 div_small (by decide) s hd hn hs w hg
 rw [h1, h2] at h
 exact h
theorem numT_frac (a b : List UInt8) (z : Int) (d : Nat) (hM : 10 ^ b.length < 10000) (ha : allD a) (hb : allD b) (hna : a ≠ []) (hnb : b ≠ []) (hs : a.length + b.length ≤ 900) (h1 : rnum (dv (a ++ b) : Int) (10 ^ b.length) = z) (h2 : rden (dv (a ++ b) : Int) (10 ^ b.length) = d) (hsh : parse_short.f (intS z) (natS d) = some true) : NumT ⟨(a ++ 46 :: b).toArray⟩ z d := by
 refine ⟨fun w hg => ?_, hsh⟩
 have h := decFrac_at 10000 div_small a b hM ha hb hna hnb hs w hg
 rw [h1, h2] at h
 exact h
theorem allD1 (c : UInt8) (h : 48 ≤ c.toNat ∧ c.toNat ≤ 57) : allD [c] := fun x hx => by
 obtain rfl := List.mem_singleton.1 hx
 exact h
theorem allD2 (c d : UInt8) (h : 48 ≤ c.toNat ∧ c.toNat ≤ 57) (h2 : 48 ≤ d.toNat ∧ d.toNat ≤ 57) : allD [c, d] := fun x hx => by
 rcases List.mem_cons.1 hx with rfl | hx
 ·exact h
 ·obtain rfl := List.mem_singleton.1 hx
  exact h2
theorem numT1 : NumT ⟨#[49]⟩ 1 1 := numT_int _ _ _ (allD1 _ (by decide)) (by decide) (by decide) (by kernel_rfl) (by kernel_rfl) (by kernel_rfl)
theorem numT2 : NumT ⟨#[50]⟩ 2 1 := numT_int _ _ _ (allD1 _ (by decide)) (by decide) (by decide) (by kernel_rfl) (by kernel_rfl) (by kernel_rfl)
theorem numT32 : NumT ⟨#[49, 46, 53, 48]⟩ 3 2 := numT_frac [49] [53, 48] _ _ (by decide) (allD1 _ (by decide)) (allD2 _ _ (by decide) (by decide)) (by decide) (by decide) (by decide) (by kernel_rfl) (by kernel_rfl) (by kernel_rfl)
theorem bits_of (n k : Nat) (hk : k ≤ 1000000) (h : n < 2 ^ k) : Bits n := ⟨k, hk, h⟩
theorem ratOK1 (n : Nat) (hz : (natS n).size ≤ 60) : NdOK 10000 (.num (n : Int) 1) := by
 have h1 : (natS 1).size = 1 := by rw [show natS 1 = ⟨#[49]⟩ by kernel_rfl]; rfl
 exact ⟨⟨by rw [intS_nat]; omega, by omega, by decide, by decide, bits_of 1 1 (by decide) (by decide), Nat.gcd_one_right _, fun h => by rw [show (pl 1).1 = 0 by kernel_rfl] at h; omega⟩, by show (natS (n : Int).natAbs).size ≤ 60; rw [Int.natAbs_natCast]; exact hz, by omega⟩
theorem ratOK32 : NdOK 10000 (.num 3 2) := by
 have h3 : natS 3 = ⟨#[51]⟩ := by kernel_rfl
 have h2 : natS 2 = ⟨#[50]⟩ := by kernel_rfl
 have h5 : natS 5 = ⟨#[53]⟩ := by kernel_rfl
 refine ⟨⟨by rw [show intS 3 = ⟨#[51]⟩ by kernel_rfl]; decide, by rw [h2]; decide, by decide, by decide, bits_of 2 2 (by decide) (by decide), by decide, fun _ _ _ => ?_⟩, by rw [show (3 : Int).natAbs = 3 from rfl, h3]; decide, by rw [h2]; decide⟩
 rw [show (3 : Int).natAbs = 3 from rfl, show 10 ^ (pl 2).1 / 2 = 5 by kernel_rfl]
 exact mulOK_lit 3 5 (by decide) (by decide) (by decide) (by decide) (by decide) (by decide) (by rw [h3]; decide) (by rw [h5]; decide) 30 (by kernel_rfl)
theorem okpx : NdOK 10000 (.px ⟨#[120]⟩ 5) := ⟨⟨by decide, by decide, by decide, by decide, by decide⟩, by decide, by decide⟩
theorem sz1 (n : Nat) (b : UInt8) (h : natS n = ⟨#[b]⟩) : (natS n).size ≤ 60 := by rw [h]; show 1 ≤ 60; decide
theorem fx0_at (w : World) (hg : Glob w) : Calls Tryz.prog 10 #[.string ⟨#[112, 120, 40, 120, 44, 32, 53, 41, 32, 45, 32, 50, 32, 42, 32, 45, 40, 49, 32, 43, 32, 109, 97, 120, 40, 121, 49, 44, 32, 50, 41, 41]⟩] w fun ex w' => ex = .returned (.tuple #[.slice none 0 0, .int .i64 110, .int .i64 1, .int .i64 26]) ∧ Below w.heap.size w w' :=
 parseErr_at _ (by decide) [⟨0, ⟨#[112, 120]⟩, 1, 1⟩, ⟨2, ⟨#[40]⟩, 1, 3⟩, ⟨0, ⟨#[120]⟩, 1, 4⟩, ⟨2, ⟨#[44]⟩, 1, 5⟩, ⟨1, ⟨#[53]⟩, 1, 7⟩, ⟨2, ⟨#[41]⟩, 1, 8⟩, ⟨2, ⟨#[45]⟩, 1, 10⟩, ⟨1, ⟨#[50]⟩, 1, 12⟩, ⟨2, ⟨#[42]⟩, 1, 14⟩, ⟨2, ⟨#[45]⟩, 1, 16⟩, ⟨2, ⟨#[40]⟩, 1, 17⟩, ⟨1, ⟨#[49]⟩, 1, 18⟩, ⟨2, ⟨#[43]⟩, 1, 20⟩, ⟨0, ⟨#[109, 97, 120]⟩, 1, 22⟩, ⟨2, ⟨#[40]⟩, 1, 25⟩, ⟨0, ⟨#[121, 49]⟩, 1, 26⟩, ⟨2, ⟨#[44]⟩, 1, 28⟩, ⟨1, ⟨#[50]⟩, 1, 30⟩, ⟨2, ⟨#[41]⟩, 1, 31⟩, ⟨2, ⟨#[41]⟩, 1, 32⟩] (by kernel_rfl) (by decide) ⟨2, ⟨#[41]⟩, 1, 32⟩ (.inr ⟨[⟨0, ⟨#[112, 120]⟩, 1, 1⟩, ⟨2, ⟨#[40]⟩, 1, 3⟩, ⟨0, ⟨#[120]⟩, 1, 4⟩, ⟨2, ⟨#[44]⟩, 1, 5⟩, ⟨1, ⟨#[53]⟩, 1, 7⟩, ⟨2, ⟨#[41]⟩, 1, 8⟩, ⟨2, ⟨#[45]⟩, 1, 10⟩, ⟨1, ⟨#[50]⟩, 1, 12⟩, ⟨2, ⟨#[42]⟩, 1, 14⟩, ⟨2, ⟨#[45]⟩, 1, 16⟩, ⟨2, ⟨#[40]⟩, 1, 17⟩, ⟨1, ⟨#[49]⟩, 1, 18⟩, ⟨2, ⟨#[43]⟩, 1, 20⟩, ⟨0, ⟨#[109, 97, 120]⟩, 1, 22⟩, ⟨2, ⟨#[40]⟩, 1, 25⟩, ⟨0, ⟨#[121, 49]⟩, 1, 26⟩, ⟨2, ⟨#[44]⟩, 1, 28⟩, ⟨1, ⟨#[50]⟩, 1, 30⟩, ⟨2, ⟨#[41]⟩, 1, 31⟩], rfl⟩) (by decide) 10 110 1 26 (by decide)
  (Run.oPx 9 _ _ _ _ _ _ _ _ _ _ _ 5 ⟨rfl, rfl⟩ ⟨rfl, rfl⟩ rfl ⟨rfl, rfl⟩ ⟨rfl, by kernel_rfl⟩ (by decide) ⟨rfl, rfl⟩ (Run.pOp 8 _ _ _ _ _ _ 7 1 [] [.px ⟨#[120]⟩ 5] (by kernel_rfl) (by decide) (by decide) (by decide) (by kernel_rfl) (Run.oNum 7 _ _ _ _ _ _ 2 1 rfl numT2 (Run.pOp 6 _ _ _ _ _ _ 8 2 [⟨7, 1, 0⟩] [.px ⟨#[120]⟩ 5, .num 2 1] (by kernel_rfl) (by decide) (by decide) (by decide) (by kernel_rfl) (Run.oNeg 5 _ _ _ _ _ _ rfl rfl (Run.oPar 4 _ _ _ _ _ _ rfl rfl (by decide) (Run.oNum 3 _ _ _ _ _ _ 1 1 rfl numT1 (Run.pOp 2 _ _ _ _ _ _ 6 1 [⟨-1, 0, 0⟩, ⟨5, 3, 0⟩, ⟨8, 2, 0⟩, ⟨7, 1, 0⟩] [.px ⟨#[120]⟩ 5, .num 2 1, .num 1 1] (by kernel_rfl) (by decide) (by decide) (by decide) (by kernel_rfl) (Run.oMax 1 _ _ _ _ _ _ _ ⟨rfl, rfl⟩ rfl rfl (by decide) (Run.oBad 0 _ _ _ _ _ rfl (by kernel_rfl) (by rw [ByteArray.toList_eq]; decide))))))))))) w hg
theorem fx1_at_frm : Frm 10000 [.px ⟨#[120]⟩ 5, .num 2 1, .num 3 2, .op 5, .op 8, .op 7] ⟨#[40, 112, 120, 40, 120, 44, 32, 53, 41, 32, 45, 32, 40, 50, 32, 42, 32, 40, 45, 49, 46, 53, 41, 41, 41]⟩ 4 := ⟨fun n hn => by
 simp only [List.mem_cons, List.not_mem_nil, or_false] at hn
 rcases hn with rfl | rfl | rfl | rfl | rfl | rfl
 ·exact okpx
 ·exact ratOK1 2 (sz1 2 50 (by kernel_rfl))
 ·exact ratOK32
 ·exact ⟨by decide, by decide⟩
 ·exact ⟨by decide, by decide⟩
 ·exact ⟨by decide, by decide⟩, by decide, by kernel_rfl, by kernel_rfl⟩
theorem fx1_at (w : World) (hg : Glob w) : Calls Tryz.prog 10 #[.string ⟨#[112, 120, 40, 120, 44, 32, 53, 41, 32, 45, 32, 50, 32, 42, 32, 45, 49, 46, 53, 48]⟩] w fun ex w' => ∃ A c, ex = .returned (.tuple #[.slice A 6 c, .int .i64 0, .int .i64 0, .int .i64 0]) ∧ 6 ≤ c ∧ (∀ ad, A = some ad → ∃ tb of, ad = ⟨tb, of, none⟩ ∧ tb < w'.heap.size) ∧ Aside0 (Kd.C k37 w' A 6 (([.px ⟨#[120]⟩ 5, .num 2 1, .num 3 2, .op 5, .op 8, .op 7] : List Nd).map nd37)) ∧ Below w.heap.size w w' :=
 parseOk_at _ (by decide) 10000 div_small (by decide) [⟨0, ⟨#[112, 120]⟩, 1, 1⟩, ⟨2, ⟨#[40]⟩, 1, 3⟩, ⟨0, ⟨#[120]⟩, 1, 4⟩, ⟨2, ⟨#[44]⟩, 1, 5⟩, ⟨1, ⟨#[53]⟩, 1, 7⟩, ⟨2, ⟨#[41]⟩, 1, 8⟩, ⟨2, ⟨#[45]⟩, 1, 10⟩, ⟨1, ⟨#[50]⟩, 1, 12⟩, ⟨2, ⟨#[42]⟩, 1, 14⟩, ⟨2, ⟨#[45]⟩, 1, 16⟩, ⟨1, ⟨#[49, 46, 53, 48]⟩, 1, 17⟩] (by kernel_rfl) (by decide) ⟨1, ⟨#[49, 46, 53, 48]⟩, 1, 17⟩ (.inr ⟨[⟨0, ⟨#[112, 120]⟩, 1, 1⟩, ⟨2, ⟨#[40]⟩, 1, 3⟩, ⟨0, ⟨#[120]⟩, 1, 4⟩, ⟨2, ⟨#[44]⟩, 1, 5⟩, ⟨1, ⟨#[53]⟩, 1, 7⟩, ⟨2, ⟨#[41]⟩, 1, 8⟩, ⟨2, ⟨#[45]⟩, 1, 10⟩, ⟨1, ⟨#[50]⟩, 1, 12⟩, ⟨2, ⟨#[42]⟩, 1, 14⟩, ⟨2, ⟨#[45]⟩, 1, 16⟩], rfl⟩) (by decide) 7 [.px ⟨#[120]⟩ 5, .num 2 1, .num 3 2, .op 5, .op 8, .op 7]
  (Run.oPx 6 _ _ _ _ _ _ _ _ _ _ _ 5 ⟨rfl, rfl⟩ ⟨rfl, rfl⟩ rfl ⟨rfl, rfl⟩ ⟨rfl, by kernel_rfl⟩ (by decide) ⟨rfl, rfl⟩ (Run.pOp 5 _ _ _ _ _ _ 7 1 [] [.px ⟨#[120]⟩ 5] (by kernel_rfl) (by decide) (by decide) (by decide) (by kernel_rfl) (Run.oNum 4 _ _ _ _ _ _ 2 1 rfl numT2 (Run.pOp 3 _ _ _ _ _ _ 8 2 [⟨7, 1, 0⟩] [.px ⟨#[120]⟩ 5, .num 2 1] (by kernel_rfl) (by decide) (by decide) (by decide) (by kernel_rfl) (Run.oNeg 2 _ _ _ _ _ _ rfl rfl (Run.oNum 1 _ _ _ _ _ _ 3 2 rfl numT32 (Run.pEnd 0 _ _ _ [.px ⟨#[120]⟩ 5, .num 2 1, .num 3 2, .op 5, .op 8, .op 7] (by kernel_rfl)))))))) ⟨#[40, 112, 120, 40, 120, 44, 32, 53, 41, 32, 45, 32, 40, 50, 32, 42, 32, 40, 45, 49, 46, 53, 41, 41, 41]⟩ 4 fx1_at_frm (by decide) (by decide) (by decide) w hg
theorem fx2_at (w : World) (hg : Glob w) : Calls Tryz.prog 10 #[.string ⟨#[112, 120, 40, 120, 44, 32, 53, 41, 32, 45, 32, 50, 32, 42, 32, 45, 121]⟩] w fun ex w' => ex = .returned (.tuple #[.slice none 0 0, .int .i64 110, .int .i64 1, .int .i64 17]) ∧ Below w.heap.size w w' :=
 parseErr_at _ (by decide) [⟨0, ⟨#[112, 120]⟩, 1, 1⟩, ⟨2, ⟨#[40]⟩, 1, 3⟩, ⟨0, ⟨#[120]⟩, 1, 4⟩, ⟨2, ⟨#[44]⟩, 1, 5⟩, ⟨1, ⟨#[53]⟩, 1, 7⟩, ⟨2, ⟨#[41]⟩, 1, 8⟩, ⟨2, ⟨#[45]⟩, 1, 10⟩, ⟨1, ⟨#[50]⟩, 1, 12⟩, ⟨2, ⟨#[42]⟩, 1, 14⟩, ⟨2, ⟨#[45]⟩, 1, 16⟩, ⟨0, ⟨#[121]⟩, 1, 17⟩] (by kernel_rfl) (by decide) ⟨0, ⟨#[121]⟩, 1, 17⟩ (.inr ⟨[⟨0, ⟨#[112, 120]⟩, 1, 1⟩, ⟨2, ⟨#[40]⟩, 1, 3⟩, ⟨0, ⟨#[120]⟩, 1, 4⟩, ⟨2, ⟨#[44]⟩, 1, 5⟩, ⟨1, ⟨#[53]⟩, 1, 7⟩, ⟨2, ⟨#[41]⟩, 1, 8⟩, ⟨2, ⟨#[45]⟩, 1, 10⟩, ⟨1, ⟨#[50]⟩, 1, 12⟩, ⟨2, ⟨#[42]⟩, 1, 14⟩, ⟨2, ⟨#[45]⟩, 1, 16⟩], rfl⟩) (by decide) 6 110 1 17 (by decide)
  (Run.oPx 5 _ _ _ _ _ _ _ _ _ _ _ 5 ⟨rfl, rfl⟩ ⟨rfl, rfl⟩ rfl ⟨rfl, rfl⟩ ⟨rfl, by kernel_rfl⟩ (by decide) ⟨rfl, rfl⟩ (Run.pOp 4 _ _ _ _ _ _ 7 1 [] [.px ⟨#[120]⟩ 5] (by kernel_rfl) (by decide) (by decide) (by decide) (by kernel_rfl) (Run.oNum 3 _ _ _ _ _ _ 2 1 rfl numT2 (Run.pOp 2 _ _ _ _ _ _ 8 2 [⟨7, 1, 0⟩] [.px ⟨#[120]⟩ 5, .num 2 1] (by kernel_rfl) (by decide) (by decide) (by decide) (by kernel_rfl) (Run.oNeg 1 _ _ _ _ _ _ rfl rfl (Run.oBad 0 _ _ _ _ _ rfl (by kernel_rfl) (by rw [ByteArray.toList_eq]; decide))))))) w hg
theorem fx3_at (w : World) (hg : Glob w) : Calls Tryz.prog 10 #[.string ⟨#[40, 49, 32, 43, 10]⟩] w fun ex w' => ex = .returned (.tuple #[.slice none 0 0, .int .i64 110, .int .i64 1, .int .i64 5]) ∧ Below w.heap.size w w' :=
 parseErr_at _ (by decide) [⟨2, ⟨#[40]⟩, 1, 1⟩, ⟨1, ⟨#[49]⟩, 1, 2⟩, ⟨2, ⟨#[43]⟩, 1, 4⟩] (by kernel_rfl) (by decide) ⟨2, ⟨#[43]⟩, 1, 4⟩ (.inr ⟨[⟨2, ⟨#[40]⟩, 1, 1⟩, ⟨1, ⟨#[49]⟩, 1, 2⟩], rfl⟩) (by decide) 4 110 1 5 (by decide)
  (Run.oPar 3 _ _ _ _ _ _ rfl rfl (by decide) (Run.oNum 2 _ _ _ _ _ _ 1 1 rfl numT1 (Run.pOp 1 _ _ _ _ _ _ 6 1 [⟨-1, 0, 0⟩] [.num 1 1] (by kernel_rfl) (by decide) (by decide) (by decide) (by kernel_rfl) (Run.oEnd 0 _ _ _)))) w hg
theorem fx4_at (w : World) (hg : Glob w) : Calls Tryz.prog 10 #[.string ⟨#[]⟩] w fun ex w' => ex = .returned (.tuple #[.slice none 0 0, .int .i64 110, .int .i64 1, .int .i64 1]) ∧ Below w.heap.size w w' :=
 parseErr_at _ (by decide) [] (by kernel_rfl) (by decide) ⟨0, ⟨#[]⟩, 1, 1⟩ (.inl ⟨rfl, rfl⟩) (by decide) 1 110 1 1 (by decide)
  (Run.oEnd 0 _ _ _) w hg
theorem fxPrint_at (A : Option Addr) (c : Nat) (w : World) (hC : Kd.C k37 w A 6 (([.px ⟨#[120]⟩ 5, .num 2 1, .num 3 2, .op 5, .op 8, .op 7] : List Nd).map nd37)) : Calls Tryz.prog 14 #[.slice A 6 c] w fun e w' => e = .returned (.string ⟨#[40, 112, 120, 40, 120, 44, 32, 53, 41, 32, 45, 32, 40, 50, 32, 42, 32, 40, 45, 49, 46, 53, 41, 41, 41]⟩) ∧ Below w.heap.size w w' :=
 rPrint_at [.px ⟨#[120]⟩ 5, .num 2 1, .num 3 2, .op 5, .op 8, .op 7] (fun n hn => by
  simp only [List.mem_cons, List.not_mem_nil, or_false] at hn
  rcases hn with rfl | rfl | rfl | rfl | rfl | rfl <;> first | trivial | exact ⟨by decide, by decide⟩) (fun n hn => by
  simp only [List.mem_cons, List.not_mem_nil, or_false] at hn
  rcases hn with rfl | rfl | rfl | rfl | rfl | rfl
  ·exact rnpx
  ·exact rn2
  ·exact rn32
  ·exact rn_op 5 (by decide)
  ·exact rn_op 8 (by decide)
  ·exact rn_op 7 (by decide)) (by decide) (by decide) depF 4 (by kernel_rfl) _ (by kernel_rfl) A c w hC
set_option maxHeartbeats 4000000 in
theorem fixed_at (w : World) (hg : Glob w) : Calls Tryz.prog 9 #[] w fun e w' => e = .returned (.bool true) ∧ Below w.heap.size w w' := by
 have HG := Aside0.mk hg
 have H0 := fun w hg => Lib.hid (fx0_at w hg)
 have H1 := fun w hg => Lib.hid (fx1_at w hg)
 have H2 := fun w hg => Lib.hid (fx2_at w hg)
 have H3 := fun w hg => Lib.hid (fx3_at w hg)
 have H4 := fun w hg => Lib.hid (fx4_at w hg)
 clear hg
 go_enter Tryz.func9, Tryz.ntmps9
 go_wp2_with fail
 refine (H0 _ HG.out).out.mono ?_
 rintro e w0 ⟨rfl, hb⟩
 have B0 := Aside0.mk hb
 clear hb H0
 go_wp2_with fail
 refine (H1 _ (HG.out.below B0.out)).out.mono ?_
 rintro e w1 ⟨A, c, rfl, hc, hA, hC, hb⟩
 have B1 := Aside0.mk (B0.out.trans (hb.mono B0.out.size))
 clear hb H1 B0 hA hc
 go_wp2_with fail
 refine (H2 _ (HG.out.below B1.out)).out.mono ?_
 rintro e w2 ⟨rfl, hb⟩
 have B2 := Aside0.mk (B1.out.trans (hb.mono B1.out.size))
 have hC2 := Aside0.mk (Kd.C_below hC.out hb)
 clear hb H2 B1 hC
 go_wp2_with fail
 refine (H3 _ (HG.out.below B2.out)).out.mono ?_
 rintro e w3 ⟨rfl, hb⟩
 have B3 := Aside0.mk (B2.out.trans (hb.mono B2.out.size))
 have hC3 := Aside0.mk (Kd.C_below hC2.out hb)
 clear hb H3 B2 hC2
 go_wp2_with fail
 refine (H4 _ (HG.out.below B3.out)).out.mono ?_
 rintro e w4 ⟨rfl, hb⟩
 have B4 := Aside0.mk (B3.out.trans (hb.mono B3.out.size))
 have HP := Lib.hid (fxPrint_at A c w4 (Kd.C_below hC3.out hb))
 clear hb H4 B3 hC3
 go_wp2_with fail
 refine HP.out.mono ?_
 rintro e w5 ⟨rfl, hb⟩
 have B5 := Aside0.mk (B4.out.trans (hb.mono B4.out.size))
 clear hb HP B4
 go_wp2_with fail
 go_ret
 exact ⟨rfl, B5.out⟩
end Go.Proofs.YtjopepfemhckjaaGreatDoor.NW
end
section
set_option maxRecDepth 100000
namespace Go.Proofs.YtjopepfemhckjaaGreatDoor.NW
open Go.Proofs Go.RowKit Go.Shelf Go.Proofs.YtjopepfemhckjaaGreatDoor.PN Go.Proofs.YtjopepfemhckjaaGreatDoorW.PrintWords Go.Proofs.YtjopepfemhckjaaGreatDoor.PParseTells Go.Proofs.YtjopepfemhckjaaGreatDoor.WP
theorem bxL (s t : ByteArray) (h : s.data.toList = t.data.toList) : s = t := by
 rcases s with ⟨⟨a⟩⟩
 rcases t with ⟨⟨b⟩⟩
 simp only at h
 rw [h]
theorem extract_list (l : List UInt8) (a : Nat) : (⟨l.toArray⟩ : ByteArray).extract a l.length = ⟨(l.drop a).toArray⟩ := by
 apply bxL
 simp [ByteArray.data_extract]
 exact List.take_of_length_le (by simp)
end Go.Proofs.YtjopepfemhckjaaGreatDoor.NW
end
section
set_option maxRecDepth 100000
namespace Go.Proofs.YtjopepfemhckjaaGreatDoor.NW
open Go.Proofs Go.RowKit Go.Shelf Go.Proofs.YtjopepfemhckjaaGreatDoor.PN Go.Proofs.YtjopepfemhckjaaGreatDoorW.PrintWords Go.Proofs.YtjopepfemhckjaaGreatDoor.PParseTells
theorem of1_all : ((List.range 1001).all fun n => decide (dR1_Of.f 60 (n : Int) = some (natS n))) = true := by kernel_rfl
theorem of1_at (n : Nat) (hn : n ≤ 1000) (w : World) : Calls Tryz.prog 16 #[.int .i64 n] w fun e w' => e = .returned (.string (natS n)) ∧ Below w.heap.size w w' := by
 have h := List.all_eq_true.1 of1_all n (List.mem_range.2 (by omega))
 exact below_of (dR1_Of.calls 60 n _ w (of_decide_eq_true h))
set_option maxHeartbeats 4000000 in
theorem of3_at (n : Nat) (hn : n ≤ 1000) (w : World) : Calls Tryz.prog 17 #[.int .i64 n] w fun e w' => e = .returned (.agg #[.string (natS n), .string ⟨#[49]⟩]) ∧ Below w.heap.size w w' := by
 have H2 : ∀ w, RowKit.Hid (Calls Tryz.prog 32 #[.int .i64 n] w fun e w' => e = .returned (.string (natS n)) ∧ Below w.heap.size w w') := by
  intro w
  have H1 := fun w => Lib.hid (of1_at n hn w)
  have hn0 : ¬ (n : Int) < 0 := by omega
  refine Lib.hid ?_
  go_enter Tryz.func32, Tryz.ntmps32
  go_wp2_with fail
  refine (H1 _).out.mono ?_
  rintro e w1 ⟨rfl, hb⟩
  go_wp2_with fail
  go_ret
  exact ⟨rfl, hb⟩
 go_enter Tryz.func17, Tryz.ntmps17
 go_wp2_with fail
 refine (H2 _).out.mono ?_
 rintro e w1 ⟨rfl, hb⟩
 have k1 := keptB hb (World.alloc_heap_new w (.cells #[.string ⟨#[]⟩, .string ⟨#[]⟩] 35))
 have B1 := Aside0.mk (((Below.refl w.heap.size w).alloc (Nat.le_refl _) (.cells #[.string ⟨#[]⟩, .string ⟨#[]⟩] 35)).trans (hb.mono (by simp)))
 have c0 : w1.cell? ⟨w.heap.size, 0, none⟩ = some (.string ⟨#[]⟩) := by rw [Lib.cell_of_heap k1]; rfl
 have c1 : w1.cell? ⟨w.heap.size, 1, none⟩ = some (.string ⟨#[]⟩) := by rw [Lib.cell_of_heap k1]; rfl
 have f0 : w1.frozen? ⟨w.heap.size, 0, none⟩ = false := Lib.frozen_of_heap k1 0
 have f1 : w1.frozen? ⟨w.heap.size, 1, none⟩ = false := Lib.frozen_of_heap k1 1
 clear hb H2
 go_wp2_with fail
 obtain ⟨q1, q2⟩ := put2 k1 (.string (natS n)) (.string ⟨#[49]⟩)
 refine bodyPost_ret (v := .agg #[.string (natS n), .string ⟨#[49]⟩]) ?_ rfl ⟨rfl, (B1.out.setCell (by simp) _).setCell (by simp) _⟩
 simp [results, Tryz.f17, go_sem, q1, q2]
set_option maxHeartbeats 4000000 in
theorem same_at (l : List Nd) (A B : Option Addr) (c d : Nat) (hl : l.length ≤ 2000) (w : World) (hA : Kd.C k37 w A l.length (l.map nd37)) (hB : Kd.C k37 w B l.length (l.map nd37)) : Calls Tryz.prog 12 #[.slice A l.length c, .slice B l.length d] w fun e w' => e = .returned (.bool true) ∧ Below w.heap.size w w' := by
 have HA := Aside0.mk hA
 have HB := Aside0.mk hB
 clear hA hB
 go_enter Tryz.func12, Tryz.ntmps12
 go_wp2_with fail
 go_loopg [5] (l.length + 1) (fun kq v5 w' => ∃ (j : Nat), v5 = .int .i64 (j : Int) ∧ j + kq = l.length + 1 ∧ j ≤ l.length ∧ Aside0 (Below w.heap.size w w'))
 case atStart => exact ⟨0, rfl, by omega, by omega, ⟨Below.refl _ _⟩⟩
 case round =>
  obtain ⟨j, rfl, hj, hjn, HW⟩ := hrel
  by_cases hie : j = l.length
  ·subst hie
   have BB := HW.out
   clear HW HA HB
   go_wp2_with fail
   go_ret
   exact ⟨rfl, BB⟩
  ·have hlt : j < l.length := by omega
   have hilt : (j : Int) < (l.length : Int) := by omega
   obtain ⟨ad, hAd, q0, q1, q2, q3, q4, q5⟩ := at_T37 (Kd.C_below HA.out HW.out) (j : Int) (by omega) (by omega)
   obtain ⟨be, hBe, r0, r1, r2, r3, r4, r5⟩ := at_T37 (Kd.C_below HB.out HW.out) (j : Int) (by omega) (by omega)
   rw [Int.toNat_natCast] at q0 q1 q2 q3 q4 q5 r0 r1 r2 r3 r4 r5
   generalize rd_T37 (l.map nd37) (j : Int) = nn at *
   subst hAd hBe
   go_wp2_with fail
   go_region
   have HW2 := Aside0.mk HW.out.drew
   clear HW q0 q1 q2 q3 q4 q5 r0 r1 r2 r3 r4 r5
   go_wp2_with fail
   go_roundg (gk - 1)
   case measure => omega
   case rel => exact ⟨j + 1, by go_num, by omega, by omega, HW2⟩
end Go.Proofs.YtjopepfemhckjaaGreatDoor.NW
end
section
set_option maxRecDepth 100000
namespace Go.Proofs.YtjopepfemhckjaaGreatDoor.NW
open Go.Proofs Go.RowKit Go.Shelf Go.Proofs.YtjopepfemhckjaaGreatDoor.PN Go.Proofs.YtjopepfemhckjaaGreatDoorW.PrintWords Go.Proofs.YtjopepfemhckjaaGreatDoor.PParseTells Go.Proofs.YtjopepfemhckjaaGreatDoor.WP
def numC (n : Nat) : Bool := (natS n).data.toList.all (fun c => decide (48 ≤ c.toNat ∧ c.toNat ≤ 57)) && decide ((natS n).data.toList ≠ []) && decide ((natS n).size ≤ 4) && decide (rnum (dv (natS n).data.toList : Int) 1 = (n : Int)) && decide (rden (dv (natS n).data.toList : Int) 1 = 1) && decide (parse_short.f (intS (n : Int)) (natS 1) = some true)
theorem num_all : ((List.range 1001).all numC) = true := by kernel_rfl
structure NumK (n : Nat) : Prop where
 dig : allD (natS n).data.toList
 ne : (natS n).data.toList ≠ []
 sz : (natS n).size ≤ 4
 t : NumT (natS n) n 1
theorem numK (n : Nat) (hn : n ≤ 1000) : NumK n := by
 have h := List.all_eq_true.1 num_all n (List.mem_range.2 (by omega))
 simp only [numC, Bool.and_eq_true, decide_eq_true_eq, List.all_eq_true] at h
 obtain ⟨⟨⟨⟨⟨h1, h2⟩, h3⟩, h4⟩, h5⟩, h6⟩ := h
 exact ⟨fun x hx => h1 x hx, h2, h3, numT_int _ _ _ (fun x hx => h1 x hx) h2 (by omega) h4 h5 h6⟩
theorem lexB_tok (k : Nat) (B D l : List UInt8) (p p1 p2 : Nat × Nat) (kd : Nat) (hB : runL isB (B ++ (D ++ l)) = B.length) (hD : D ≠ []) (hk : WW.kindL (D ++ l) = (kd, D.length)) (hp : advP p B = p1) (hq : advP p1 D = p2) :
  WW.lexB (k + 1) ⟨(B ++ (D ++ l)).toArray⟩ p = match WW.lexB k ⟨l.toArray⟩ p2 with | .inl q => .inl q | .inr ts => .inr (⟨(kd : Int), ⟨D.toArray⟩, (p1.1 : Int), (p1.2 : Int)⟩ :: ts) := by
 have hDl : D.length ≠ 0 := fun h => hD (List.length_eq_zero_iff.1 h)
 have e0 : (⟨(B ++ (D ++ l)).toArray⟩ : ByteArray).extract B.length (⟨(B ++ (D ++ l)).toArray⟩ : ByteArray).size = ⟨(D ++ l).toArray⟩ := by
  have h := extract_list (B ++ (D ++ l)) B.length
  rw [List.drop_left] at h
  exact h
 have e1 : (⟨(D ++ l).toArray⟩ : ByteArray).extract D.length (⟨(D ++ l).toArray⟩ : ByteArray).size = ⟨l.toArray⟩ := by
  have h := extract_list (D ++ l) D.length
  rw [List.drop_left] at h
  exact h
 have e2 : (⟨(D ++ l).toArray⟩ : ByteArray).extract 0 D.length = ⟨D.toArray⟩ := by
  apply bxL
  simp [ByteArray.data_extract]
 have hne : ¬ ((⟨(D ++ l).toArray⟩ : ByteArray) = ⟨#[]⟩) := fun h => by
  have h2 := congrArg (fun s : ByteArray => s.data.toList.length) h
  simp at h2
  exact hD h2.1
 have t1 : (B ++ (D ++ l)).take B.length = B := List.take_left
 have t2 : (D ++ l).take D.length = D := List.take_left
 rw [WW.lexB]
 simp only [hB, e0, if_neg hne, hk, t1, e1, e2, t2, hp, hq]
 rw [if_neg hDl]
 cases WW.lexB k ⟨l.toArray⟩ p2 <;> rfl
theorem runL_dig (l : List UInt8) (hl : ∀ c ∈ l.head?, isD c.toNat = false) : ∀ (D : List UInt8), allD D → runL isD (D ++ l) = D.length
 | [], _ => by
   cases l with
   | nil => rfl
   | cons c l =>
     have h := hl c rfl
     show runL isD (c :: l) = 0
     unfold runL
     rw [h]
     rfl
 | c :: D, h => by
   have hc : isD c.toNat = true := by
    have h1 := h c (by simp)
    simp [isD]; exact h1
   rw [List.cons_append]
   unfold runL
   rw [hc, if_pos rfl, runL_dig l hl D (fun x hx => h x (by simp [hx]))]
   rfl
theorem kindL_dig (D l : List UInt8) (hD : D ≠ []) (hd : allD D) (hs : D.length ≤ 100) (hl : l = [] ∨ ∃ m, l = 32 :: m) : WW.kindL (D ++ l) = (1, D.length) := by
 have hh : ∀ c ∈ l.head?, isD c.toNat = false := by
  rcases hl with rfl | ⟨m, rfl⟩
  ·intro c hc; cases hc
  ·intro c hc; cases hc; rfl
 have hr := runL_dig l hh D hd
 have hpk : peekL (D ++ l) D.length ≠ 46 := by
  unfold peekL
  rw [List.getElem?_append_right (Nat.le_refl _), Nat.sub_self]
  rcases hl with rfl | ⟨m, rfl⟩
  ·decide
  ·show (32 : UInt8).toNat ≠ 46; decide
 have hn : WW.numL (D ++ l) = D.length := by
  unfold WW.numL
  rw [hr, if_neg (fun h => hpk h.1)]
 obtain ⟨c, D', rfl⟩ : ∃ c D', D = c :: D' := by cases D with | nil => exact absurd rfl hD | cons c D' => exact ⟨c, D', rfl⟩
 have h1 := hd c (by simp)
 have hp0 : peekL (c :: D' ++ l) 0 = c.toNat := rfl
 unfold WW.kindL
 rw [hp0, hn, if_neg (by simp [Go.Proofs.YtjopepfemhckjaaGreatDoor.WP.isL]; omega), if_pos (by simp [isD]; exact h1), if_neg (by omega)]
theorem advP_dig : ∀ (D : List UInt8) (r c : Nat), allD D → advP (r, c) D = (r, c + D.length)
 | [], r, c, _ => rfl
 | x :: D, r, c, h => by
   have h1 := h x (by simp)
   have e : stepP (r, c) x = (r, c + 1) := by unfold stepP; rw [if_neg (by omega)]
   show advP (stepP (r, c) x) D = _
   rw [e, advP_dig D r (c + 1) (fun y hy => h y (by simp [hy]))]
   simp only [List.length_cons]
   rw [show c + 1 + D.length = c + (D.length + 1) by omega]
theorem natS_list (n : Nat) : (⟨(natS n).data.toList.toArray⟩ : ByteArray) = natS n := by
 apply bxL
 rfl
def sumTl : List Nat → List UInt8
 | [] => []
 | a :: l => [32] ++ ([45] ++ ([32] ++ ((natS a).data.toList ++ sumTl l)))
def sumTk : Nat → List Nat → List S75
 | _, [] => []
 | col, a :: l => ⟨2, ⟨#[45]⟩, 1, ((col + 1 : Nat) : Int)⟩ :: ⟨1, natS a, 1, ((col + 3 : Nat) : Int)⟩ :: sumTk (col + 3 + (natS a).data.toList.length) l
theorem sumTl_head (l : List Nat) : sumTl l = [] ∨ ∃ m, sumTl l = 32 :: m := by
 cases l with
 | nil => exact .inl rfl
 | cons a l => exact .inr ⟨_, rfl⟩
theorem dig_nb (D l : List UInt8) (hD : D ≠ []) (hd : allD D) : runL isB (D ++ l) = 0 := by
 obtain ⟨c, D', rfl⟩ : ∃ c D', D = c :: D' := by cases D with | nil => exact absurd rfl hD | cons c D' => exact ⟨c, D', rfl⟩
 have h1 := hd c (by simp)
 rw [List.cons_append]
 unfold runL
 rw [if_neg (by simp [isB]; omega)]
theorem lexB_sum (j : Nat) : ∀ (l : List Nat) (col : Nat), (∀ a ∈ l, a ≤ 1000) → WW.lexB (2 * l.length + (j + 1)) ⟨(sumTl l).toArray⟩ (1, col) = .inr (sumTk col l)
 | [], col, _ => by simp only [List.length_nil, Nat.mul_zero, Nat.zero_add]; rfl
 | a :: l, col, h => by
   have K := numK a (h a (by simp))
   have hs : (natS a).data.toList.length ≤ 4 := K.sz
   have h2 := lexB_tok (2 * l.length + (j + 1)) [32] (natS a).data.toList (sumTl l) (1, col + 2) (1, col + 3) (1, col + 3 + (natS a).data.toList.length) 1
    (by show runL isB (32 :: ((natS a).data.toList ++ sumTl l)) = 1
        unfold runL
        rw [if_pos (by decide), dig_nb _ _ K.ne K.dig]) K.ne (kindL_dig _ _ K.ne K.dig (by omega) (sumTl_head l)) rfl (advP_dig _ _ _ K.dig)
   rw [lexB_sum j l _ (fun x hx => h x (by simp [hx]))] at h2
   have h1 := lexB_tok (2 * l.length + (j + 1) + 1) [32] [45] ([32] ++ ((natS a).data.toList ++ sumTl l)) (1, col) (1, col + 1) (1, col + 2) 2 rfl (by simp) rfl rfl rfl
   rw [h2] at h1
   rw [List.length_cons, show 2 * (l.length + 1) + (j + 1) = 2 * l.length + (j + 1) + 1 + 1 by omega]
   refine Eq.trans h1 ?_
   simp only [sumTk, natS_list]
   rfl
def outL : List Nat → List Nd
 | [] => []
 | a :: l => .num a 1 :: .op 7 :: outL l
theorem op_minus (x y : Int) : parse_operator.f 2 ⟨#[45]⟩ x y = some (7, 1) := by first | kernel_rfl | rfl | (unfold parse_operator.f; rfl) | (unfold parse_operator.f; decide) | (simp [parse_operator.f]; done)
theorem run_tail (last : S75) : ∀ (l : List Nat) (col : Nat) (r : List S82) (o o' : List Nd), (∀ a ∈ l, a ≤ 1000) → popR 1 r o = ([], o') → Run last (2 * l.length + 1) false (sumTk col l) r o 0 (.ok (o' ++ outL l))
 | [], col, r, o, o', _, hp => by
   have e : o' ++ outL [] = o' := List.append_nil _
   rw [e]
   exact Run.pEnd 0 r o 0 o' hp
 | a :: l, col, r, o, o', h, hp => by
   have K := numK a (h a (by simp))
   have e : o' ++ outL (a :: l) = (o' ++ [.num a 1] ++ [.op 7]) ++ outL l := by simp [outL]
   rw [e]
   refine Run.pOp (2 * l.length + 2) _ _ _ _ _ _ 7 1 [] o' (op_minus _ _) (by decide) (by decide) (by decide) hp ?_
   refine Run.oNum (2 * l.length + 1) _ _ _ _ _ _ a 1 rfl K.t ?_
   exact run_tail last l _ _ _ _ (fun x hx => h x (by simp [hx])) rfl
def accF {α : Type} (f : Nd → List α → α) : List Nat → α → α
 | [], x => x
 | a :: l, x => accF f l (f (.op 7) [x, f (.num a 1) []])
theorem runF_sum {α : Type} (f : Nd → List α → α) : ∀ (l : List Nat) (x : α), runF f (outL l) [x] = some [accF f l x]
 | [], x => rfl
 | a :: l, x => by
   show runF f (outL l) [f (.op 7) [x, f (.num a 1) []]] = _
   exact runF_sum f l _
theorem numP_one (a : Nat) : numP (a : Int) 1 = natS a := by
 have h1 : (pl 1).1 = 0 := by kernel_rfl
 have h2 : (pl 1).2 = 1 := by kernel_rfl
 unfold numP
 rw [if_pos ⟨h2, by omega, by omega⟩, if_pos h1, intS_nat]
theorem acc_size : ∀ (l : List Nat) (x : ByteArray), (∀ a ∈ l, a ≤ 1000) → x.size ≤ (accF ndP l x).size ∧ (accF ndP l x).size ≤ x.size + 10 * l.length
 | [], x, _ => ⟨Nat.le_refl _, Nat.le_refl _⟩
 | a :: l, x, h => by
   have K := (numK a (h a (by simp))).sz
   have e : (ndP (.op 7) [x, ndP (.num a 1) []]).size = 1 + x.size + 1 + 1 + 1 + (natS a).size + 1 := by
    show (opP 7 [x, numP a 1]).size = _
    rw [numP_one]
    unfold opP
    rw [if_neg (by decide), if_pos (by decide)]
    simp only [ByteArray.size_append]
    rfl
   have ih := acc_size l (ndP (.op 7) [x, ndP (.num a 1) []]) (fun y hy => h y (by simp [hy]))
   rw [e] at ih
   simp only [accF, List.length_cons]
   omega
theorem acc_dep : ∀ (l : List Nat) (x : Int), 1 ≤ x → accF depF l x ≤ x + l.length
 | [], x, _ => by simp [accF]
 | a :: l, x, h => by
   have e : depF (.op 7) [x, depF (.num a 1) []] = x + 1 := by
    show max (max 0 x) 1 + 1 = x + 1
    omega
   have ih := acc_dep l (x + 1) (by omega)
   simp only [accF, e, List.length_cons]
   omega
theorem sumTl_len (l : List Nat) (h : ∀ a ∈ l, a ≤ 1000) : 4 * l.length ≤ (sumTl l).length ∧ (sumTl l).length ≤ 7 * l.length := by
 induction l with
 | nil => exact ⟨Nat.le_refl _, Nat.le_refl _⟩
 | cons a l ih =>
   have K := numK a (h a (by simp))
   have h1 : (natS a).data.toList.length ≤ 4 := K.sz
   have h2 : 1 ≤ (natS a).data.toList.length := List.length_pos_iff.2 K.ne
   have ih := ih (fun y hy => h y (by simp [hy]))
   simp only [sumTl, List.length_append, List.length_cons, List.length_nil]
   omega
def sumT (a : Nat) (l : List Nat) : List S75 := ⟨1, natS a, 1, 1⟩ :: sumTk (1 + (natS a).data.toList.length) l
def sumS (a : Nat) (l : List Nat) : ByteArray := ⟨((natS a).data.toList ++ sumTl l).toArray⟩
theorem sumS_size (a : Nat) (l : List Nat) : (sumS a l).size = (natS a).data.toList.length + (sumTl l).length := by
 show ((natS a).data.toList ++ sumTl l).toArray.size = _
 simp
theorem lexD_sum (a : Nat) (l : List Nat) (ha : a ≤ 1000) (h : ∀ x ∈ l, x ≤ 1000) : WW.lexD (sumS a l) = (sumT a l, 0, 0, 0) := by
 have K := numK a ha
 have h1 : (natS a).data.toList.length ≤ 4 := K.sz
 have h2 : 1 ≤ (natS a).data.toList.length := List.length_pos_iff.2 K.ne
 have h3 := sumTl_len l h
 obtain ⟨j, hj⟩ : ∃ j, (sumS a l).size + 1 = 2 * l.length + (j + 1) + 1 := ⟨(sumS a l).size - 2 * l.length - 1, by rw [sumS_size]; omega⟩
 have h4 := lexB_tok (2 * l.length + (j + 1)) [] (natS a).data.toList (sumTl l) (1, 1) (1, 1) (1, 1 + (natS a).data.toList.length) 1 (by show runL isB ((natS a).data.toList ++ sumTl l) = 0; exact dig_nb _ _ K.ne K.dig) K.ne (kindL_dig _ _ K.ne K.dig (by omega) (sumTl_head l)) rfl (advP_dig _ _ _ K.dig)
 rw [lexB_sum j l _ h] at h4
 unfold WW.lexD
 rw [hj]
 have e : sumS a l = ⟨([] ++ ((natS a).data.toList ++ sumTl l)).toArray⟩ := rfl
 rw [e, h4]
 simp only [WW.comb, List.append_nil, List.nil_append, sumT, natS_list]
 rfl
theorem sumTk_all : ∀ (l : List Nat) (col : Nat), (∀ a ∈ l, a ≤ 1000) → (sumTk col l).length = 2 * l.length ∧ ∀ t ∈ sumTk col l, (0 : Int) ≤ t.f3 ∧ t.f3 + (t.f1.size : Int) ≤ ((col + 10 * l.length : Nat) : Int)
 | [], col, _ => ⟨rfl, fun t ht => by cases ht⟩
 | a :: l, col, h => by
   have K := numK a (h a (by simp))
   have h1 : (natS a).data.toList.length ≤ 4 := K.sz
   have h2 := K.sz
   have ih := sumTk_all l (col + 3 + (natS a).data.toList.length) (fun y hy => h y (by simp [hy]))
   refine ⟨by simp only [sumTk, List.length_cons, ih.1]; omega, fun t ht => ?_⟩
   simp only [sumTk, List.mem_cons] at ht
   simp only [List.length_cons]
   rcases ht with rfl | rfl | ht
   ·exact ⟨by show (0 : Int) ≤ ((col + 1 : Nat) : Int); omega, by show ((col + 1 : Nat) : Int) + ((1 : Nat) : Int) ≤ _; omega⟩
   ·exact ⟨by show (0 : Int) ≤ ((col + 3 : Nat) : Int); omega, by show ((col + 3 : Nat) : Int) + ((natS a).size : Int) ≤ _; omega⟩
   ·have := ih.2 t ht
    exact ⟨this.1, by omega⟩
theorem ndOK_out : ∀ (l : List Nat), (∀ a ∈ l, a ≤ 1000) → (outL l).length = 2 * l.length ∧ ∀ n ∈ outL l, NdOK 10000 n
 | [], _ => ⟨rfl, fun n hn => by cases hn⟩
 | a :: l, h => by
   have K := numK a (h a (by simp))
   have h2 := K.sz
   have ih := ndOK_out l (fun y hy => h y (by simp [hy]))
   refine ⟨by simp only [outL, List.length_cons, ih.1]; omega, fun n hn => ?_⟩
   simp only [outL, List.mem_cons] at hn
   rcases hn with rfl | rfl | hn
   ·exact ratOK1 a (by omega)
   ·exact ⟨by decide, by decide⟩
   ·exact ih.2 n hn
theorem sum_parse (a : Nat) (l : List Nat) (ha : a ≤ 1000) (h : ∀ x ∈ l, x ≤ 1000) (hl : l.length ≤ 59) (w : World) (hg : Glob w) : Calls Tryz.prog 10 #[.string (sumS a l)] w fun ex w' => ∃ A c, ex = .returned (.tuple #[.slice A ((.num a 1 :: outL l : List Nd)).length c, .int .i64 0, .int .i64 0, .int .i64 0]) ∧ ((.num a 1 :: outL l : List Nd)).length ≤ c ∧ (∀ ad, A = some ad → ∃ tb of, ad = ⟨tb, of, none⟩ ∧ tb < w'.heap.size) ∧ Aside0 (Kd.C k37 w' A ((.num a 1 :: outL l : List Nd)).length ((.num a 1 :: outL l : List Nd).map nd37)) ∧ Below w.heap.size w w' := by
 have K := numK a ha
 have h1 : (natS a).data.toList.length ≤ 4 := K.sz
 have h2 := K.sz
 have h2' : 1 ≤ (natS a).data.toList.length := List.length_pos_iff.2 K.ne
 have h2'' : 1 ≤ (natS a).size := h2'
 have h3 := sumTl_len l h
 have h4 := sumTk_all l (1 + (natS a).data.toList.length) h
 have h5 := ndOK_out l h
 have h6 := acc_size l (ndP (.num a 1) []) h
 have e6 : ndP (.num a 1) [] = natS a := numP_one a
 rw [e6] at h6
 have h7 := acc_dep l 1 (by decide)
 obtain ⟨pre, last, e, h8⟩ : ∃ (pre : List S75) (last : S75), sumT a l = pre ++ [last] ∧ (0 : Int) ≤ last.f3 ∧ last.f3 + (last.f1.size : Int) ≤ 1000000 := by
  have hne : sumT a l ≠ [] := by simp [sumT]
  refine ⟨(sumT a l).dropLast, (sumT a l).getLast hne, (List.dropLast_concat_getLast hne).symm, ?_⟩
  have hm := List.getLast_mem hne
  generalize (sumT a l).getLast hne = t at hm
  simp only [sumT, List.mem_cons] at hm
  rcases hm with rfl | hm
  ·exact ⟨by show (0 : Int) ≤ 1; decide, by show (1 : Int) + ((natS a).size : Int) ≤ _; omega⟩
  ·have := h4.2 t hm
   exact ⟨this.1, by omega⟩
 exact parseOk_at _ (by rw [sumS_size]; omega) 10000 div_small (by decide) (sumT a l) (lexD_sum a l ha h) (by simp only [sumT, List.length_cons, h4.1]; omega) last (.inr ⟨pre, e⟩) h8 _ (.num a 1 :: outL l)
  (Run.oNum (2 * l.length + 1) _ _ _ _ _ _ a 1 rfl K.t (run_tail last l _ [] [.num a 1] [.num a 1] h rfl)) (accF ndP l (natS a)) (accF depF l 1)
  ⟨fun n hn => by
   rcases List.mem_cons.1 hn with rfl | hn
   ·exact ratOK1 a (by omega)
   ·exact h5.2 n hn, by simp only [List.length_cons, h5.1]; omega, by
   show runF ndP (outL l) [ndP (.num a 1) []] = _
   rw [runF_sum, e6], by
   show runF depF (outL l) [depF (.num a 1) []] = _
   rw [runF_sum]; rfl⟩ (by omega) (by omega) (by omega) w hg
end Go.Proofs.YtjopepfemhckjaaGreatDoor.NW
end
section
namespace Go.Proofs.YtjopepfemhckjaaGreatDoor.NW
open Go.Proofs Go.RowKit Go.Shelf Go.Proofs.YtjopepfemhckjaaGreatDoor.PN Go.Proofs.YtjopepfemhckjaaGreatDoorW.PrintWords Go.Proofs.YtjopepfemhckjaaGreatDoor.PParseTells
theorem outL_snoc : ∀ (l : List Nat) (b : Nat), outL (l ++ [b]) = outL l ++ [.num b 1, .op 7]
 | [], b => rfl
 | a :: l, b => by
   rw [List.cons_append, outL, outL_snoc l b, outL]
   rfl
theorem sumTl_snoc : ∀ (l : List Nat) (b : Nat), sumTl (l ++ [b]) = sumTl l ++ ([32, 45, 32] ++ (natS b).data.toList)
 | [], b => by simp [sumTl]
 | a :: l, b => by
   rw [List.cons_append, sumTl, sumTl_snoc l b, sumTl]
   simp [List.append_assoc]
theorem sumS_nil (a : Nat) : (⟨#[]⟩ : ByteArray) ++ natS a = sumS a [] := by
 apply bxL
 rw [ByteArray.data_append]
 show ((#[] : Array UInt8) ++ (natS a).data).toList = ((natS a).data.toList ++ []).toArray.toList
 simp
theorem sumS_snoc (a : Nat) (l : List Nat) (b : Nat) : (sumS a l ++ (⟨#[32, 45, 32]⟩ : ByteArray)) ++ natS b = sumS a (l ++ [b]) := by
 apply bxL
 rw [ByteArray.data_append, ByteArray.data_append]
 show (((natS a).data.toList ++ sumTl l).toArray ++ #[(32 : UInt8), 45, 32] ++ (natS b).data).toList = ((natS a).data.toList ++ sumTl (l ++ [b])).toArray.toList
 rw [sumTl_snoc]
 simp [List.append_assoc]
end Go.Proofs.YtjopepfemhckjaaGreatDoor.NW
end
