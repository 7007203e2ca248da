/-
  Part 31 of the proof of parseOrder_holds: texts of this seat, put together.
-/
import Derived.Test.YtjopepfemhckjaaGreatDoorOr30
set_option linter.unusedVariables false
set_option linter.unusedSimpArgs false
section
set_option maxRecDepth 100000
namespace Go.Proofs.YtjopepfemhckjaaGreatDoor.NW
open Go.Proofs Go.RowKit Go.Shelf Go.Proofs.YtjopepfemhckjaaGreatDoor.PN Go.Proofs.YtjopepfemhckjaaGreatDoorW.PrintWords Go.Proofs.YtjopepfemhckjaaGreatDoor.PParseTells
theorem numT_int (s : ByteArray) (z : Int) (d : Nat) (hd : allD s.data.toList) (hn : s.data.toList ≠ []) (hs : s.size ≤ 1000) (h1 : rnum (dv s.data.toList : Int) 1 = z) (h2 : rden (dv s.data.toList : Int) 1 = d) (hsh : parse_short.f (intS z) (natS d) = some true) : NumT s z d := by
 refine ⟨fun w hg => ?_, hsh⟩
 have h := decInt_at 10000 div_small (by decide) s hd hn hs w hg
 rw [h1, h2] at h
 exact h
theorem numT_frac (a b : List UInt8) (z : Int) (d : Nat) (hM : 10 ^ b.length < 10000) (ha : allD a) (hb : allD b) (hna : a ≠ []) (hnb : b ≠ []) (hs : a.length + b.length ≤ 900) (h1 : rnum (dv (a ++ b) : Int) (10 ^ b.length) = z) (h2 : rden (dv (a ++ b) : Int) (10 ^ b.length) = d) (hsh : parse_short.f (intS z) (natS d) = some true) : NumT ⟨(a ++ 46 :: b).toArray⟩ z d := by
 refine ⟨fun w hg => ?_, hsh⟩
 have h := decFrac_at 10000 div_small a b hM ha hb hna hnb hs w hg
 rw [h1, h2] at h
 exact h
theorem allD1 (c : UInt8) (h : 48 ≤ c.toNat ∧ c.toNat ≤ 57) : allD [c] := fun x hx => by
 obtain rfl := List.mem_singleton.1 hx
 exact h
theorem allD2 (c d : UInt8) (h : 48 ≤ c.toNat ∧ c.toNat ≤ 57) (h2 : 48 ≤ d.toNat ∧ d.toNat ≤ 57) : allD [c, d] := fun x hx => by
 rcases List.mem_cons.1 hx with rfl | hx
 ·exact h
 ·obtain rfl := List.mem_singleton.1 hx
  exact h2
theorem numT1 : NumT ⟨#[49]⟩ 1 1 := numT_int _ _ _ (allD1 _ (by decide)) (by decide) (by decide) (by kernel_rfl) (by kernel_rfl) (by kernel_rfl)
theorem numT2 : NumT ⟨#[50]⟩ 2 1 := numT_int _ _ _ (allD1 _ (by decide)) (by decide) (by decide) (by kernel_rfl) (by kernel_rfl) (by kernel_rfl)
theorem numT3 : NumT ⟨#[51]⟩ 3 1 := numT_int _ _ _ (allD1 _ (by decide)) (by decide) (by decide) (by kernel_rfl) (by kernel_rfl) (by kernel_rfl)
theorem numT7 : NumT ⟨#[55]⟩ 7 1 := numT_int _ _ _ (allD1 _ (by decide)) (by decide) (by decide) (by kernel_rfl) (by kernel_rfl) (by kernel_rfl)
theorem numT32 : NumT ⟨#[49, 46, 53, 48]⟩ 3 2 := numT_frac [49] [53, 48] _ _ (by decide) (allD1 _ (by decide)) (allD2 _ _ (by decide) (by decide)) (by decide) (by decide) (by decide) (by kernel_rfl) (by kernel_rfl) (by kernel_rfl)
theorem bits_of (n k : Nat) (hk : k ≤ 1000000) (h : n < 2 ^ k) : Bits n := ⟨k, hk, h⟩
theorem ratOK1 (n : Nat) (hz : (natS n).size ≤ 60) : NdOK 10000 (.num (n : Int) 1) := by
 have h1 : (natS 1).size = 1 := by rw [show natS 1 = ⟨#[49]⟩ by kernel_rfl]; rfl
 exact ⟨⟨by rw [intS_nat]; omega, by omega, by decide, by decide, bits_of 1 1 (by decide) (by decide), Nat.gcd_one_right _, fun h => by rw [show (pl 1).1 = 0 by kernel_rfl] at h; omega⟩, by show (natS (n : Int).natAbs).size ≤ 60; rw [Int.natAbs_natCast]; exact hz, by omega⟩
theorem ratOK32 : NdOK 10000 (.num 3 2) := by
 have h3 : natS 3 = ⟨#[51]⟩ := by kernel_rfl
 have h2 : natS 2 = ⟨#[50]⟩ := by kernel_rfl
 have h5 : natS 5 = ⟨#[53]⟩ := by kernel_rfl
 refine ⟨⟨by rw [show intS 3 = ⟨#[51]⟩ by kernel_rfl]; decide, by rw [h2]; decide, by decide, by decide, bits_of 2 2 (by decide) (by decide), by decide, fun _ _ _ => ?_⟩, by rw [show (3 : Int).natAbs = 3 from rfl, h3]; decide, by rw [h2]; decide⟩
 rw [show (3 : Int).natAbs = 3 from rfl, show 10 ^ (pl 2).1 / 2 = 5 by kernel_rfl]
 exact mulOK_lit 3 5 (by decide) (by decide) (by decide) (by decide) (by decide) (by decide) (by rw [h3]; decide) (by rw [h5]; decide) 30 (by kernel_rfl)
theorem okpx : NdOK 10000 (.px ⟨#[120]⟩ 5) := ⟨⟨by decide, by decide, by decide, by decide, by decide⟩, by decide, by decide⟩
theorem sz1 (n : Nat) (b : UInt8) (h : natS n = ⟨#[b]⟩) : (natS n).size ≤ 60 := by rw [h]; show 1 ≤ 60; decide
theorem fx0_at (w : World) (hg : Glob w) : Calls Tryz.prog 10 #[.string ⟨#[112, 120, 40, 120, 44, 32, 53, 41, 32, 45, 32, 50, 32, 42, 32, 45, 40, 49, 32, 43, 32, 109, 97, 120, 40, 121, 49, 44, 32, 50, 41, 41]⟩] w fun ex w' => ex = .returned (.tuple #[.slice none 0 0, .int .i64 110, .int .i64 1, .int .i64 26]) ∧ Below w.heap.size w w' :=
 parseErr_at _ (by decide) [⟨0, ⟨#[112, 120]⟩, 1, 1⟩, ⟨2, ⟨#[40]⟩, 1, 3⟩, ⟨0, ⟨#[120]⟩, 1, 4⟩, ⟨2, ⟨#[44]⟩, 1, 5⟩, ⟨1, ⟨#[53]⟩, 1, 7⟩, ⟨2, ⟨#[41]⟩, 1, 8⟩, ⟨2, ⟨#[45]⟩, 1, 10⟩, ⟨1, ⟨#[50]⟩, 1, 12⟩, ⟨2, ⟨#[42]⟩, 1, 14⟩, ⟨2, ⟨#[45]⟩, 1, 16⟩, ⟨2, ⟨#[40]⟩, 1, 17⟩, ⟨1, ⟨#[49]⟩, 1, 18⟩, ⟨2, ⟨#[43]⟩, 1, 20⟩, ⟨0, ⟨#[109, 97, 120]⟩, 1, 22⟩, ⟨2, ⟨#[40]⟩, 1, 25⟩, ⟨0, ⟨#[121, 49]⟩, 1, 26⟩, ⟨2, ⟨#[44]⟩, 1, 28⟩, ⟨1, ⟨#[50]⟩, 1, 30⟩, ⟨2, ⟨#[41]⟩, 1, 31⟩, ⟨2, ⟨#[41]⟩, 1, 32⟩] (by kernel_rfl) (by decide) ⟨2, ⟨#[41]⟩, 1, 32⟩ (.inr ⟨[⟨0, ⟨#[112, 120]⟩, 1, 1⟩, ⟨2, ⟨#[40]⟩, 1, 3⟩, ⟨0, ⟨#[120]⟩, 1, 4⟩, ⟨2, ⟨#[44]⟩, 1, 5⟩, ⟨1, ⟨#[53]⟩, 1, 7⟩, ⟨2, ⟨#[41]⟩, 1, 8⟩, ⟨2, ⟨#[45]⟩, 1, 10⟩, ⟨1, ⟨#[50]⟩, 1, 12⟩, ⟨2, ⟨#[42]⟩, 1, 14⟩, ⟨2, ⟨#[45]⟩, 1, 16⟩, ⟨2, ⟨#[40]⟩, 1, 17⟩, ⟨1, ⟨#[49]⟩, 1, 18⟩, ⟨2, ⟨#[43]⟩, 1, 20⟩, ⟨0, ⟨#[109, 97, 120]⟩, 1, 22⟩, ⟨2, ⟨#[40]⟩, 1, 25⟩, ⟨0, ⟨#[121, 49]⟩, 1, 26⟩, ⟨2, ⟨#[44]⟩, 1, 28⟩, ⟨1, ⟨#[50]⟩, 1, 30⟩, ⟨2, ⟨#[41]⟩, 1, 31⟩], rfl⟩) (by decide) 10 110 1 26 (by decide)
  (Run.oPx 9 _ _ _ _ _ _ _ _ _ _ _ 5 ⟨rfl, rfl⟩ ⟨rfl, rfl⟩ rfl ⟨rfl, rfl⟩ ⟨rfl, by kernel_rfl⟩ (by decide) ⟨rfl, rfl⟩ (Run.pOp 8 _ _ _ _ _ _ 7 1 [] [.px ⟨#[120]⟩ 5] (by kernel_rfl) (by decide) (by decide) (by decide) (by kernel_rfl) (Run.oNum 7 _ _ _ _ _ _ 2 1 rfl numT2 (Run.pOp 6 _ _ _ _ _ _ 8 2 [⟨7, 1, 0⟩] [.px ⟨#[120]⟩ 5, .num 2 1] (by kernel_rfl) (by decide) (by decide) (by decide) (by kernel_rfl) (Run.oNeg 5 _ _ _ _ _ _ rfl rfl (Run.oPar 4 _ _ _ _ _ _ rfl rfl (by decide) (Run.oNum 3 _ _ _ _ _ _ 1 1 rfl numT1 (Run.pOp 2 _ _ _ _ _ _ 6 1 [⟨-1, 0, 0⟩, ⟨5, 3, 0⟩, ⟨8, 2, 0⟩, ⟨7, 1, 0⟩] [.px ⟨#[120]⟩ 5, .num 2 1, .num 1 1] (by kernel_rfl) (by decide) (by decide) (by decide) (by kernel_rfl) (Run.oMax 1 _ _ _ _ _ _ _ ⟨rfl, rfl⟩ rfl rfl (by decide) (Run.oBad 0 _ _ _ _ _ rfl (by kernel_rfl) (by rw [ByteArray.toList_eq]; decide))))))))))) w hg
theorem fx1_at_frm : Frm 10000 [.px ⟨#[120]⟩ 5, .num 2 1, .num 3 2, .op 5, .op 8, .op 7] ⟨#[40, 112, 120, 40, 120, 44, 32, 53, 41, 32, 45, 32, 40, 50, 32, 42, 32, 40, 45, 49, 46, 53, 41, 41, 41]⟩ 4 := ⟨fun n hn => by
 simp only [List.mem_cons, List.not_mem_nil, or_false] at hn
 rcases hn with rfl | rfl | rfl | rfl | rfl | rfl
 ·exact okpx
 ·exact ratOK1 2 (sz1 2 50 (by kernel_rfl))
 ·exact ratOK32
 ·exact ⟨by decide, by decide⟩
 ·exact ⟨by decide, by decide⟩
 ·exact ⟨by decide, by decide⟩, by decide, by kernel_rfl, by kernel_rfl⟩
theorem fx1_at (w : World) (hg : Glob w) : Calls Tryz.prog 10 #[.string ⟨#[112, 120, 40, 120, 44, 32, 53, 41, 32, 45, 32, 50, 32, 42, 32, 45, 49, 46, 53, 48]⟩] w fun ex w' => ∃ A c, ex = .returned (.tuple #[.slice A 6 c, .int .i64 0, .int .i64 0, .int .i64 0]) ∧ 6 ≤ c ∧ (∀ ad, A = some ad → ∃ tb of, ad = ⟨tb, of, none⟩ ∧ tb < w'.heap.size) ∧ Aside0 (Kd.C k37 w' A 6 (([.px ⟨#[120]⟩ 5, .num 2 1, .num 3 2, .op 5, .op 8, .op 7] : List Nd).map nd37)) ∧ Below w.heap.size w w' :=
 parseOk_at _ (by decide) 10000 div_small (by decide) [⟨0, ⟨#[112, 120]⟩, 1, 1⟩, ⟨2, ⟨#[40]⟩, 1, 3⟩, ⟨0, ⟨#[120]⟩, 1, 4⟩, ⟨2, ⟨#[44]⟩, 1, 5⟩, ⟨1, ⟨#[53]⟩, 1, 7⟩, ⟨2, ⟨#[41]⟩, 1, 8⟩, ⟨2, ⟨#[45]⟩, 1, 10⟩, ⟨1, ⟨#[50]⟩, 1, 12⟩, ⟨2, ⟨#[42]⟩, 1, 14⟩, ⟨2, ⟨#[45]⟩, 1, 16⟩, ⟨1, ⟨#[49, 46, 53, 48]⟩, 1, 17⟩] (by kernel_rfl) (by decide) ⟨1, ⟨#[49, 46, 53, 48]⟩, 1, 17⟩ (.inr ⟨[⟨0, ⟨#[112, 120]⟩, 1, 1⟩, ⟨2, ⟨#[40]⟩, 1, 3⟩, ⟨0, ⟨#[120]⟩, 1, 4⟩, ⟨2, ⟨#[44]⟩, 1, 5⟩, ⟨1, ⟨#[53]⟩, 1, 7⟩, ⟨2, ⟨#[41]⟩, 1, 8⟩, ⟨2, ⟨#[45]⟩, 1, 10⟩, ⟨1, ⟨#[50]⟩, 1, 12⟩, ⟨2, ⟨#[42]⟩, 1, 14⟩, ⟨2, ⟨#[45]⟩, 1, 16⟩], rfl⟩) (by decide) 7 [.px ⟨#[120]⟩ 5, .num 2 1, .num 3 2, .op 5, .op 8, .op 7]
  (Run.oPx 6 _ _ _ _ _ _ _ _ _ _ _ 5 ⟨rfl, rfl⟩ ⟨rfl, rfl⟩ rfl ⟨rfl, rfl⟩ ⟨rfl, by kernel_rfl⟩ (by decide) ⟨rfl, rfl⟩ (Run.pOp 5 _ _ _ _ _ _ 7 1 [] [.px ⟨#[120]⟩ 5] (by kernel_rfl) (by decide) (by decide) (by decide) (by kernel_rfl) (Run.oNum 4 _ _ _ _ _ _ 2 1 rfl numT2 (Run.pOp 3 _ _ _ _ _ _ 8 2 [⟨7, 1, 0⟩] [.px ⟨#[120]⟩ 5, .num 2 1] (by kernel_rfl) (by decide) (by decide) (by decide) (by kernel_rfl) (Run.oNeg 2 _ _ _ _ _ _ rfl rfl (Run.oNum 1 _ _ _ _ _ _ 3 2 rfl numT32 (Run.pEnd 0 _ _ _ [.px ⟨#[120]⟩ 5, .num 2 1, .num 3 2, .op 5, .op 8, .op 7] (by kernel_rfl)))))))) ⟨#[40, 112, 120, 40, 120, 44, 32, 53, 41, 32, 45, 32, 40, 50, 32, 42, 32, 40, 45, 49, 46, 53, 41, 41, 41]⟩ 4 fx1_at_frm (by decide) (by decide) (by decide) w hg
theorem fx2_at (w : World) (hg : Glob w) : Calls Tryz.prog 10 #[.string ⟨#[112, 120, 40, 120, 44, 32, 53, 41, 32, 45, 32, 50, 32, 42, 32, 45, 121]⟩] w fun ex w' => ex = .returned (.tuple #[.slice none 0 0, .int .i64 110, .int .i64 1, .int .i64 17]) ∧ Below w.heap.size w w' :=
 parseErr_at _ (by decide) [⟨0, ⟨#[112, 120]⟩, 1, 1⟩, ⟨2, ⟨#[40]⟩, 1, 3⟩, ⟨0, ⟨#[120]⟩, 1, 4⟩, ⟨2, ⟨#[44]⟩, 1, 5⟩, ⟨1, ⟨#[53]⟩, 1, 7⟩, ⟨2, ⟨#[41]⟩, 1, 8⟩, ⟨2, ⟨#[45]⟩, 1, 10⟩, ⟨1, ⟨#[50]⟩, 1, 12⟩, ⟨2, ⟨#[42]⟩, 1, 14⟩, ⟨2, ⟨#[45]⟩, 1, 16⟩, ⟨0, ⟨#[121]⟩, 1, 17⟩] (by kernel_rfl) (by decide) ⟨0, ⟨#[121]⟩, 1, 17⟩ (.inr ⟨[⟨0, ⟨#[112, 120]⟩, 1, 1⟩, ⟨2, ⟨#[40]⟩, 1, 3⟩, ⟨0, ⟨#[120]⟩, 1, 4⟩, ⟨2, ⟨#[44]⟩, 1, 5⟩, ⟨1, ⟨#[53]⟩, 1, 7⟩, ⟨2, ⟨#[41]⟩, 1, 8⟩, ⟨2, ⟨#[45]⟩, 1, 10⟩, ⟨1, ⟨#[50]⟩, 1, 12⟩, ⟨2, ⟨#[42]⟩, 1, 14⟩, ⟨2, ⟨#[45]⟩, 1, 16⟩], rfl⟩) (by decide) 6 110 1 17 (by decide)
  (Run.oPx 5 _ _ _ _ _ _ _ _ _ _ _ 5 ⟨rfl, rfl⟩ ⟨rfl, rfl⟩ rfl ⟨rfl, rfl⟩ ⟨rfl, by kernel_rfl⟩ (by decide) ⟨rfl, rfl⟩ (Run.pOp 4 _ _ _ _ _ _ 7 1 [] [.px ⟨#[120]⟩ 5] (by kernel_rfl) (by decide) (by decide) (by decide) (by kernel_rfl) (Run.oNum 3 _ _ _ _ _ _ 2 1 rfl numT2 (Run.pOp 2 _ _ _ _ _ _ 8 2 [⟨7, 1, 0⟩] [.px ⟨#[120]⟩ 5, .num 2 1] (by kernel_rfl) (by decide) (by decide) (by decide) (by kernel_rfl) (Run.oNeg 1 _ _ _ _ _ _ rfl rfl (Run.oBad 0 _ _ _ _ _ rfl (by kernel_rfl) (by rw [ByteArray.toList_eq]; decide))))))) w hg
theorem fx3_at (w : World) (hg : Glob w) : Calls Tryz.prog 10 #[.string ⟨#[40, 49, 32, 43, 10]⟩] w fun ex w' => ex = .returned (.tuple #[.slice none 0 0, .int .i64 110, .int .i64 1, .int .i64 5]) ∧ Below w.heap.size w w' :=
 parseErr_at _ (by decide) [⟨2, ⟨#[40]⟩, 1, 1⟩, ⟨1, ⟨#[49]⟩, 1, 2⟩, ⟨2, ⟨#[43]⟩, 1, 4⟩] (by kernel_rfl) (by decide) ⟨2, ⟨#[43]⟩, 1, 4⟩ (.inr ⟨[⟨2, ⟨#[40]⟩, 1, 1⟩, ⟨1, ⟨#[49]⟩, 1, 2⟩], rfl⟩) (by decide) 4 110 1 5 (by decide)
  (Run.oPar 3 _ _ _ _ _ _ rfl rfl (by decide) (Run.oNum 2 _ _ _ _ _ _ 1 1 rfl numT1 (Run.pOp 1 _ _ _ _ _ _ 6 1 [⟨-1, 0, 0⟩] [.num 1 1] (by kernel_rfl) (by decide) (by decide) (by decide) (by kernel_rfl) (Run.oEnd 0 _ _ _)))) w hg
theorem fx4_at (w : World) (hg : Glob w) : Calls Tryz.prog 10 #[.string ⟨#[]⟩] w fun ex w' => ex = .returned (.tuple #[.slice none 0 0, .int .i64 110, .int .i64 1, .int .i64 1]) ∧ Below w.heap.size w w' :=
 parseErr_at _ (by decide) [] (by kernel_rfl) (by decide) ⟨0, ⟨#[]⟩, 1, 1⟩ (.inl ⟨rfl, rfl⟩) (by decide) 1 110 1 1 (by decide)
  (Run.oEnd 0 _ _ _) w hg
theorem fxPrint_at (A : Option Addr) (c : Nat) (w : World) (hC : Kd.C k37 w A 6 (([.px ⟨#[120]⟩ 5, .num 2 1, .num 3 2, .op 5, .op 8, .op 7] : List Nd).map nd37)) : Calls Tryz.prog 14 #[.slice A 6 c] w fun e w' => e = .returned (.string ⟨#[40, 112, 120, 40, 120, 44, 32, 53, 41, 32, 45, 32, 40, 50, 32, 42, 32, 40, 45, 49, 46, 53, 41, 41, 41]⟩) ∧ Below w.heap.size w w' :=
 rPrint_at [.px ⟨#[120]⟩ 5, .num 2 1, .num 3 2, .op 5, .op 8, .op 7] (fun n hn => by
  simp only [List.mem_cons, List.not_mem_nil, or_false] at hn
  rcases hn with rfl | rfl | rfl | rfl | rfl | rfl <;> first | trivial | exact ⟨by decide, by decide⟩) (fun n hn => by
  simp only [List.mem_cons, List.not_mem_nil, or_false] at hn
  rcases hn with rfl | rfl | rfl | rfl | rfl | rfl
  ·exact rnpx
  ·exact rn2
  ·exact rn32
  ·exact rn_op 5 (by decide)
  ·exact rn_op 8 (by decide)
  ·exact rn_op 7 (by decide)) (by decide) (by decide) depF 4 (by kernel_rfl) _ (by kernel_rfl) A c w hC
set_option maxHeartbeats 4000000 in
theorem fixed_at (w : World) (hg : Glob w) : Calls Tryz.prog 9 #[] w fun e w' => e = .returned (.bool true) ∧ Below w.heap.size w w' := by
 have HG := Aside0.mk hg
 have H0 := fun w hg => Lib.hid (fx0_at w hg)
 have H1 := fun w hg => Lib.hid (fx1_at w hg)
 have H2 := fun w hg => Lib.hid (fx2_at w hg)
 have H3 := fun w hg => Lib.hid (fx3_at w hg)
 have H4 := fun w hg => Lib.hid (fx4_at w hg)
 clear hg
 go_enter Tryz.func9, Tryz.ntmps9
 go_wp2_with fail
 refine (H0 _ HG.out).out.mono ?_
 rintro e w0 ⟨rfl, hb⟩
 have B0 := Aside0.mk hb
 clear hb H0
 go_wp2_with fail
 refine (H1 _ (HG.out.below B0.out)).out.mono ?_
 rintro e w1 ⟨A, c, rfl, hc, hA, hC, hb⟩
 have B1 := Aside0.mk (B0.out.trans (hb.mono B0.out.size))
 clear hb H1 B0 hA hc
 go_wp2_with fail
 refine (H2 _ (HG.out.below B1.out)).out.mono ?_
 rintro e w2 ⟨rfl, hb⟩
 have B2 := Aside0.mk (B1.out.trans (hb.mono B1.out.size))
 have hC2 := Aside0.mk (Kd.C_below hC.out hb)
 clear hb H2 B1 hC
 go_wp2_with fail
 refine (H3 _ (HG.out.below B2.out)).out.mono ?_
 rintro e w3 ⟨rfl, hb⟩
 have B3 := Aside0.mk (B2.out.trans (hb.mono B2.out.size))
 have hC3 := Aside0.mk (Kd.C_below hC2.out hb)
 clear hb H3 B2 hC2
 go_wp2_with fail
 refine (H4 _ (HG.out.below B3.out)).out.mono ?_
 rintro e w4 ⟨rfl, hb⟩
 have B4 := Aside0.mk (B3.out.trans (hb.mono B3.out.size))
 have HP := Lib.hid (fxPrint_at A c w4 (Kd.C_below hC3.out hb))
 clear hb H4 B3 hC3
 go_wp2_with fail
 refine HP.out.mono ?_
 rintro e w5 ⟨rfl, hb⟩
 have B5 := Aside0.mk (B4.out.trans (hb.mono B4.out.size))
 clear hb HP B4
 go_wp2_with fail
 go_ret
 exact ⟨rfl, B5.out⟩
def okN : Nd → Bool
 | .num z d => (z == 1 || z == 2 || z == 3) && d == 1
 | .op k => decide (5 ≤ k) && decide (k ≤ 9)
 | .px _ _ => false
theorem okAll (n : Nd) (h : okN n = true) : NdOK 10000 n ∧ opOK n ∧ RN n := by
 cases n with
 | num z d =>
   simp only [okN, Bool.and_eq_true, Bool.or_eq_true, beq_iff_eq] at h
   obtain ⟨h, rfl⟩ := h
   rcases h with (rfl | rfl) | rfl
   ·exact ⟨ratOK1 1 (sz1 1 49 (by kernel_rfl)), trivial, rn1⟩
   ·exact ⟨ratOK1 2 (sz1 2 50 (by kernel_rfl)), trivial, rn2⟩
   ·exact ⟨ratOK1 3 (sz1 3 51 (by kernel_rfl)), trivial, rn3⟩
 | px s a => exact absurd h (by simp [okN])
 | op k =>
   simp only [okN, Bool.and_eq_true, decide_eq_true_eq] at h
   exact ⟨⟨by omega, by omega⟩, ⟨by omega, by omega⟩, rn_op k h⟩
theorem okM (o : List Nd) (h : o.all okN = true) (n : Nd) (hn : n ∈ o) : NdOK 10000 n ∧ opOK n ∧ RN n := okAll n (List.all_eq_true.1 h n hn)
set_option maxHeartbeats 4000000 in
theorem orG0 (i j : Int) (hij : (i = 0 ∨ i = 1) ∧ (j = 2 ∨ j = 3)) (x y : ByteArray) (hx : x.size = 1) (hy : y.size = 1) (hxy : i = j → x = y) (n : Nat) (o : List Nd) (T S : ByteArray) (e1 : T = (((((⟨#[45, 49, 32]⟩ : ByteArray) ++ x) ++ (⟨#[32, 50, 32]⟩ : ByteArray)) ++ y) ++ (⟨#[32, 51]⟩ : ByteArray))) (e2 : S = (((((⟨#[40, 40, 45, 49, 41, 32]⟩ : ByteArray) ++ x) ++ (⟨#[32, 40, 50, 32]⟩ : ByteArray)) ++ y) ++ (⟨#[32, 51, 41, 41]⟩ : ByteArray)))
  (P1 : ∀ w, Glob w → Calls Tryz.prog 10 #[.string T] w fun ex w' => ∃ A c, ex = .returned (.tuple #[.slice A n c, .int .i64 0, .int .i64 0, .int .i64 0]) ∧ n ≤ c ∧ (∀ ad, A = some ad → ∃ tb of, ad = ⟨tb, of, none⟩ ∧ tb < w'.heap.size) ∧ Aside0 (Kd.C k37 w' A n (o.map nd37)) ∧ Below w.heap.size w w') (P2 : ∀ A c w, Kd.C k37 w A n (o.map nd37) → Calls Tryz.prog 14 #[.slice A n c] w fun e w' => e = .returned (.string S) ∧ Below w.heap.size w w')
  (hs1 : ∀ W : World, (Instr.slice 9 (.string ⟨#[43, 45, 42, 47]⟩) (some (.int .i64 i)) (some (.int .i64 (i + 1))) none).run Tryz.prog W = .ok (.string x) W) (hs2 : ∀ W : World, (Instr.slice 9 (.string ⟨#[43, 45, 42, 47]⟩) (some (.int .i64 j)) (some (.int .i64 (j + 1))) none).run Tryz.prog W = .ok (.string y) W) (w : World) (hg : Glob w) :
  Calls Tryz.prog 6 #[.int .i64 i, .int .i64 j] w fun e w' => e = .returned (.bool true) ∧ Below w.heap.size w w' := by
 have HG := Aside0.mk hg
 have H0 := fun w hg => Lib.hid (fixed_at w hg)
 have H1 := fun w hg => Lib.hid (P1 w hg)
 have H2 := fun A c w hC => Lib.hid (P2 A c w hC)
 rw [e1] at H1
 rw [e2] at H2
 clear hg e1 e2 P1 P2
 rcases hij with ⟨rfl | rfl, rfl | rfl⟩
 all_goals
  try obtain rfl := hxy rfl
  clear hxy
  simp only [show (0 : Int) + 1 = 1 from rfl, show (1 : Int) + 1 = 2 from rfl, show (2 : Int) + 1 = 3 from rfl, show (3 : Int) + 1 = 4 from rfl] at hs1 hs2
  go_enter Tryz.func6, Tryz.ntmps6
  go_wp2_with fail
  refine (H0 _ HG.out).out.mono ?_
  rintro e w0 ⟨rfl, hb⟩
  have B0 := Aside0.mk hb
  clear hb H0
  go_wp2_with fail
  go_region
  have B1 := Aside0.mk (B0.out.drew)
  clear B0
  generalize w0.drew = w1 at *
  go_wp2_with fail
  refine (H1 _ (HG.out.below B1.out)).out.mono ?_
  rintro e w2 ⟨A, c, rfl, hc, hA, hC, hb⟩
  have B2 := Aside0.mk (B1.out.trans (hb.mono B1.out.size))
  have HP := H2 A c w2 hC.out
  clear hb H1 B1 hA hc hC
  go_wp2_with fail
  refine HP.out.mono ?_
  rintro e w3 ⟨rfl, hb⟩
  have B3 := Aside0.mk (B2.out.trans (hb.mono B2.out.size))
  clear hb HP B2
  go_wp2_with fail
  go_ret
  exact ⟨rfl, B3.out⟩
set_option maxHeartbeats 4000000 in
theorem orG1 (i j : Int) (hij : (i = 2 ∨ i = 3) ∧ (j = 0 ∨ j = 1 ∨ j = 2 ∨ j = 3)) (x y : ByteArray) (hx : x.size = 1) (hy : y.size = 1) (hxy : i = j → x = y) (n : Nat) (o : List Nd) (T S : ByteArray) (e1 : T = (((((⟨#[45, 49, 32]⟩ : ByteArray) ++ x) ++ (⟨#[32, 50, 32]⟩ : ByteArray)) ++ y) ++ (⟨#[32, 51]⟩ : ByteArray))) (e2 : S = (((((⟨#[40, 40, 40, 45, 49, 41, 32]⟩ : ByteArray) ++ x) ++ (⟨#[32, 50, 41, 32]⟩ : ByteArray)) ++ y) ++ (⟨#[32, 51, 41]⟩ : ByteArray)))
  (P1 : ∀ w, Glob w → Calls Tryz.prog 10 #[.string T] w fun ex w' => ∃ A c, ex = .returned (.tuple #[.slice A n c, .int .i64 0, .int .i64 0, .int .i64 0]) ∧ n ≤ c ∧ (∀ ad, A = some ad → ∃ tb of, ad = ⟨tb, of, none⟩ ∧ tb < w'.heap.size) ∧ Aside0 (Kd.C k37 w' A n (o.map nd37)) ∧ Below w.heap.size w w') (P2 : ∀ A c w, Kd.C k37 w A n (o.map nd37) → Calls Tryz.prog 14 #[.slice A n c] w fun e w' => e = .returned (.string S) ∧ Below w.heap.size w w')
  (hs1 : ∀ W : World, (Instr.slice 9 (.string ⟨#[43, 45, 42, 47]⟩) (some (.int .i64 i)) (some (.int .i64 (i + 1))) none).run Tryz.prog W = .ok (.string x) W) (hs2 : ∀ W : World, (Instr.slice 9 (.string ⟨#[43, 45, 42, 47]⟩) (some (.int .i64 j)) (some (.int .i64 (j + 1))) none).run Tryz.prog W = .ok (.string y) W) (w : World) (hg : Glob w) :
  Calls Tryz.prog 6 #[.int .i64 i, .int .i64 j] w fun e w' => e = .returned (.bool true) ∧ Below w.heap.size w w' := by
 have HG := Aside0.mk hg
 have H0 := fun w hg => Lib.hid (fixed_at w hg)
 have H1 := fun w hg => Lib.hid (P1 w hg)
 have H2 := fun A c w hC => Lib.hid (P2 A c w hC)
 rw [e1] at H1
 rw [e2] at H2
 clear hg e1 e2 P1 P2
 rcases hij with ⟨rfl | rfl, rfl | rfl | rfl | rfl⟩
 all_goals
  try obtain rfl := hxy rfl
  clear hxy
  simp only [show (0 : Int) + 1 = 1 from rfl, show (1 : Int) + 1 = 2 from rfl, show (2 : Int) + 1 = 3 from rfl, show (3 : Int) + 1 = 4 from rfl] at hs1 hs2
  go_enter Tryz.func6, Tryz.ntmps6
  go_wp2_with fail
  refine (H0 _ HG.out).out.mono ?_
  rintro e w0 ⟨rfl, hb⟩
  have B0 := Aside0.mk hb
  clear hb H0
  go_wp2_with fail
  go_region
  have B1 := Aside0.mk (B0.out.drew)
  clear B0
  generalize w0.drew = w1 at *
  go_wp2_with fail
  refine (H1 _ (HG.out.below B1.out)).out.mono ?_
  rintro e w2 ⟨A, c, rfl, hc, hA, hC, hb⟩
  have B2 := Aside0.mk (B1.out.trans (hb.mono B1.out.size))
  have HP := H2 A c w2 hC.out
  clear hb H1 B1 hA hc hC
  go_wp2_with fail
  refine HP.out.mono ?_
  rintro e w3 ⟨rfl, hb⟩
  have B3 := Aside0.mk (B2.out.trans (hb.mono B2.out.size))
  clear hb HP B2
  go_wp2_with fail
  go_ret
  exact ⟨rfl, B3.out⟩
set_option maxHeartbeats 4000000 in
theorem orG2 (i j : Int) (hij : (i = 0 ∨ i = 1) ∧ (j = 0 ∨ j = 1)) (x y : ByteArray) (hx : x.size = 1) (hy : y.size = 1) (hxy : i = j → x = y) (n : Nat) (o : List Nd) (T S : ByteArray) (e1 : T = (((((⟨#[45, 49, 32]⟩ : ByteArray) ++ x) ++ (⟨#[32, 50, 32]⟩ : ByteArray)) ++ y) ++ (⟨#[32, 51]⟩ : ByteArray))) (e2 : S = (((((⟨#[40, 40, 40, 45, 49, 41, 32]⟩ : ByteArray) ++ x) ++ (⟨#[32, 50, 41, 32]⟩ : ByteArray)) ++ y) ++ (⟨#[32, 51, 41]⟩ : ByteArray)))
  (P1 : ∀ w, Glob w → Calls Tryz.prog 10 #[.string T] w fun ex w' => ∃ A c, ex = .returned (.tuple #[.slice A n c, .int .i64 0, .int .i64 0, .int .i64 0]) ∧ n ≤ c ∧ (∀ ad, A = some ad → ∃ tb of, ad = ⟨tb, of, none⟩ ∧ tb < w'.heap.size) ∧ Aside0 (Kd.C k37 w' A n (o.map nd37)) ∧ Below w.heap.size w w') (P2 : ∀ A c w, Kd.C k37 w A n (o.map nd37) → Calls Tryz.prog 14 #[.slice A n c] w fun e w' => e = .returned (.string S) ∧ Below w.heap.size w w')
  (hs1 : ∀ W : World, (Instr.slice 9 (.string ⟨#[43, 45, 42, 47]⟩) (some (.int .i64 i)) (some (.int .i64 (i + 1))) none).run Tryz.prog W = .ok (.string x) W) (hs2 : ∀ W : World, (Instr.slice 9 (.string ⟨#[43, 45, 42, 47]⟩) (some (.int .i64 j)) (some (.int .i64 (j + 1))) none).run Tryz.prog W = .ok (.string y) W) (w : World) (hg : Glob w) :
  Calls Tryz.prog 6 #[.int .i64 i, .int .i64 j] w fun e w' => e = .returned (.bool true) ∧ Below w.heap.size w w' := by
 have HG := Aside0.mk hg
 have H0 := fun w hg => Lib.hid (fixed_at w hg)
 have H1 := fun w hg => Lib.hid (P1 w hg)
 have H2 := fun A c w hC => Lib.hid (P2 A c w hC)
 rw [e1] at H1
 rw [e2] at H2
 clear hg e1 e2 P1 P2
 rcases hij with ⟨rfl | rfl, rfl | rfl⟩
 all_goals
  try obtain rfl := hxy rfl
  clear hxy
  simp only [show (0 : Int) + 1 = 1 from rfl, show (1 : Int) + 1 = 2 from rfl, show (2 : Int) + 1 = 3 from rfl, show (3 : Int) + 1 = 4 from rfl] at hs1 hs2
  go_enter Tryz.func6, Tryz.ntmps6
  go_wp2_with fail
  refine (H0 _ HG.out).out.mono ?_
  rintro e w0 ⟨rfl, hb⟩
  have B0 := Aside0.mk hb
  clear hb H0
  go_wp2_with fail
  go_region
  have B1 := Aside0.mk (B0.out.drew)
  clear B0
  generalize w0.drew = w1 at *
  go_wp2_with fail
  refine (H1 _ (HG.out.below B1.out)).out.mono ?_
  rintro e w2 ⟨A, c, rfl, hc, hA, hC, hb⟩
  have B2 := Aside0.mk (B1.out.trans (hb.mono B1.out.size))
  have HP := H2 A c w2 hC.out
  clear hb H1 B1 hA hc hC
  go_wp2_with fail
  refine HP.out.mono ?_
  rintro e w3 ⟨rfl, hb⟩
  have B3 := Aside0.mk (B2.out.trans (hb.mono B2.out.size))
  clear hb HP B2
  go_wp2_with fail
  go_ret
  exact ⟨rfl, B3.out⟩
set_option maxHeartbeats 4000000 in
theorem ordA_at (a b : Int) (h1 : a < 0) (w : World) (hg : Glob w) : Calls Tryz.prog 6 #[.int .i64 a, .int .i64 b] w fun e w' => e = .returned (.bool true) ∧ Below w.heap.size w w' := by
 have HG := Aside0.mk hg
 have H0 := fun w hg => Lib.hid (fixed_at w hg)
 clear hg
 go_enter Tryz.func6, Tryz.ntmps6
 go_wp2_with fail
 refine (H0 _ HG.out).out.mono ?_
 rintro e w0 ⟨rfl, hb⟩
 have B0 := Aside0.mk hb
 clear hb
 go_wp2_with fail
 refine (H0 _ (HG.out.below B0.out)).out.mono ?_
 rintro e w1 ⟨rfl, hb⟩
 have B1 := B0.out.trans (hb.mono B0.out.size)
 go_wp2_with fail
 go_ret
 exact ⟨rfl, B1⟩
set_option maxHeartbeats 4000000 in
theorem ordB_at (a b : Int) (h1 : ¬ a < 0) (h2 : b < 0) (w : World) (hg : Glob w) : Calls Tryz.prog 6 #[.int .i64 a, .int .i64 b] w fun e w' => e = .returned (.bool true) ∧ Below w.heap.size w w' := by
 have HG := Aside0.mk hg
 have H0 := fun w hg => Lib.hid (fixed_at w hg)
 clear hg
 go_enter Tryz.func6, Tryz.ntmps6
 go_wp2_with fail
 refine (H0 _ HG.out).out.mono ?_
 rintro e w0 ⟨rfl, hb⟩
 have B0 := Aside0.mk hb
 clear hb
 go_wp2_with fail
 refine (H0 _ (HG.out.below B0.out)).out.mono ?_
 rintro e w1 ⟨rfl, hb⟩
 have B1 := B0.out.trans (hb.mono B0.out.size)
 go_wp2_with fail
 go_ret
 exact ⟨rfl, B1⟩
set_option maxHeartbeats 4000000 in
theorem ordC_at (a b : Int) (h1 : ¬ a < 0) (h2 : ¬ b < 0) (h3 : 3 < a) (w : World) (hg : Glob w) : Calls Tryz.prog 6 #[.int .i64 a, .int .i64 b] w fun e w' => e = .returned (.bool true) ∧ Below w.heap.size w w' := by
 have HG := Aside0.mk hg
 have H0 := fun w hg => Lib.hid (fixed_at w hg)
 clear hg
 go_enter Tryz.func6, Tryz.ntmps6
 go_wp2_with fail
 refine (H0 _ HG.out).out.mono ?_
 rintro e w0 ⟨rfl, hb⟩
 have B0 := Aside0.mk hb
 clear hb
 go_wp2_with fail
 refine (H0 _ (HG.out.below B0.out)).out.mono ?_
 rintro e w1 ⟨rfl, hb⟩
 have B1 := B0.out.trans (hb.mono B0.out.size)
 go_wp2_with fail
 go_ret
 exact ⟨rfl, B1⟩
set_option maxHeartbeats 4000000 in
theorem ordD_at (a b : Int) (h1 : ¬ a < 0) (h2 : ¬ b < 0) (h3 : ¬ 3 < a) (h4 : 3 < b) (w : World) (hg : Glob w) : Calls Tryz.prog 6 #[.int .i64 a, .int .i64 b] w fun e w' => e = .returned (.bool true) ∧ Below w.heap.size w w' := by
 have HG := Aside0.mk hg
 have H0 := fun w hg => Lib.hid (fixed_at w hg)
 clear hg
 go_enter Tryz.func6, Tryz.ntmps6
 go_wp2_with fail
 refine (H0 _ HG.out).out.mono ?_
 rintro e w0 ⟨rfl, hb⟩
 have B0 := Aside0.mk hb
 clear hb
 go_wp2_with fail
 refine (H0 _ (HG.out.below B0.out)).out.mono ?_
 rintro e w1 ⟨rfl, hb⟩
 have B1 := B0.out.trans (hb.mono B0.out.size)
 go_wp2_with fail
 go_ret
 exact ⟨rfl, B1⟩
end Go.Proofs.YtjopepfemhckjaaGreatDoor.NW
end
