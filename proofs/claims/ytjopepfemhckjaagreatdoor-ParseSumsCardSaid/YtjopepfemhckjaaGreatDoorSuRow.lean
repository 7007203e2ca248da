/-
  The card of the law ParseSums: whatever the input, the Go function returns true and leaves its arguments as they were.
-/
import Derived.Test.YtjopepfemhckjaaGreatDoorCards
import Derived.Test.YtjopepfemhckjaaGreatDoorTie
import Derived.SevenTiedAt
import Derived.ChangeSlices
import Derived.Test.YtjopepfemhckjaaGreatDoorSu32
set_option linter.unusedVariables false
set_option linter.unusedSimpArgs false
namespace Go.Proofs.YtjopepfemhckjaaGreatDoor.parseSums
open Go.ChangeShapes Go.WideShapes Go.ChangeAt Go.RowKit
set_option maxRecDepth 100000
theorem laidOut : laidOutB Tryz.prog = true := by kernel_rfl
theorem lifted (os : Os) (started : os.Started) (H : Type) (enc : TypeId × Value → H) :
  ReturnsInHanded {} Tryz.checked os 8 .any (fun w args => (Rows.parseSumsSpec.pre enc Tryz.prog Tryz.f8 Rows.parseSumsRow.domain false w args ∧ laidMetH Tryz.prog RG.laidS w) ∧ sizedMet enc Tryz.prog Tryz.f8 (OpenSpec.ofChange Rows.parseSumsSpec) false w args) (Rows.parseSumsSpec.post enc Tryz.prog Tryz.f8 false true false false) := by
 refine RG.returns_laid (C := Tryz.checked) (X := fun w _ => laidMetH Tryz.prog RG.laidS w) (fun _ _ _ hh h => h.of_heap hh) RG.own started (by kernel_rfl) Tryz.func8
  (ChangeSpec.witness_shaped (enc := enc) (C := Tryz.checked) (os := os) (X := fun w _ => laidMetH Tryz.prog RG.laidS w) false (RG.start os) #[.slice none 0 0] 8 rfl (World.shaped_of_RefB (by kernel_rfl) (by kernel_rfl)) (by kernel_rfl) (by kernel_rfl) (by kernel_rfl) (RG.start_met os _)) ?_
 intro W base args ds gs before hval0 hW hcnd hsz0 hL hsh
 have hg := RG.glob_of hL hsh
 have hval : ∀ (j : Nat) t v, Tryz.f8.params[j]? = some t → args[j]? = some v → Value.okWide Tryz.prog W .any base t v := hval0
 have hW' := hW
 obtain ⟨p, q, hA0, hV, rfl, hfz, hnd⟩ := hW
 have hA : DataW.TrodAll enc Tryz.prog W 0 (fun _ => true) true Tryz.f8.params.toList args.toList ds p := hA0
 rw [Tryz.params8] at hA hval
 obtain ⟨v0, vs0, d0, ds0, p0, q0, hargs, rfl, rfl, h0, r0⟩ := trodAll_cons hA
 obtain ⟨rfl, rfl, rfl⟩ := trodAll_nil r0
 obtain rfl : args = #[v0] := by cases args; simp_all
 obtain ⟨rfl, rfl⟩ := trodVars_none hV
 obtain ⟨a0, len0, cap0, rfl⟩ := okWide_slice Tryz.underlying40 (hval 0 40 v0 rfl rfl)
 have k0 := h0
 have lt0 : ∀ x ∈ p0, x.block < W.heap.size := by obtain ⟨m, hm⟩ := k0; exact DataW.trod_lt m _ _ _ hm
 obtain ⟨l0, e0, n0, c0⟩ : ∃ l : List Int, l.length = len0 ∧ len0 ≤ cap0 ∧ Go.Proofs.YtjopepfemhckjaaGreatDoorW.PrintWords.Kd.C (Go.Proofs.YtjopepfemhckjaaGreatDoorW.PrintWords.Kd.int .i64) W a0 len0 l := by
  obtain ⟨fuel, hf⟩ := h0
  rcases open_ints Tryz.underlying40 Tryz.underlying3 (by kernel_rfl) hf with ⟨hcs, _⟩ | ⟨x, l, c, zs, hcs, _, hl, hm, hz, _, hcell, hws⟩
  ·simp [Value.cells] at hcs
   obtain ⟨rfl, rfl, rfl⟩ := hcs
   exact ⟨[], rfl, Nat.le_refl _, Go.Proofs.YtjopepfemhckjaaGreatDoorW.PrintWords.Kd.C_of_reads (enc := Value.int .i64) (d := 0) (h1 := fun _ => rfl) ⟨rfl, by omega, fun h => by omega⟩⟩
  ·simp [Value.cells] at hcs
   obtain ⟨rfl, rfl, rfl⟩ := hcs
   have hz' : zs.length = cap0 := by simpa using hz
   have hm' : cap0 ≤ 9223372036854775807 := by unfold maxLen at hm; omega
   refine ⟨zs.take len0, by rw [List.length_take]; omega, hl, Go.Proofs.YtjopepfemhckjaaGreatDoorW.PrintWords.Kd.C_of_reads (enc := Value.int .i64) (d := 0) (h1 := fun _ => rfl) ⟨by rw [List.length_take]; omega, by omega, fun _ => ⟨_, rfl, fun j hj => ?_⟩⟩⟩
   rw [hcell j (by omega)]
   simp [List.getD_eq_getElem?_getD, hj]
 subst e0
 clear hA0 hval0
 refine (NW.sumsAll_at l0 a0 cap0 W hg c0).mono fun e W' ⟨he, bel⟩ => ?_
 subst he
 exact ⟨_, rfl, _, _, _, [], _, [], hW', trodAll_mk1 (shut_bool Tryz.underlying4 _), (trodAll_cons_mk (Below.trod laidOut (by kernel_rfl) (of_decide_eq_true (by kernel_rfl)) k0 bel lt0) trodAll_mk0), rfl, bel.frame _, fun h => by cases h⟩
theorem over : Rows.parseSumsRow.holds Tryz.pinned (OpenSpec.ofChange Rows.parseSumsSpec) :=
 OpenClaim.holds_of_wide 8 Tryz.f8 rfl rfl rfl rfl rfl rfl rfl ⟨rfl, rfl, rfl, rfl, rfl⟩ rfl rfl rfl rfl rfl (by kernel_rfl) Tryz.func8 (by kernel_rfl)
  (of_decide_eq_true (by kernel_rfl)) (by unfold Func.isWrapper; first | (rw [if_pos (by decide +kernel)]; kernel_rfl) | (rw [if_neg (by decide +kernel)]; exact ⟨rfl, rfl⟩))
  (fun os started H enc _ => lifted os started H enc)
end Go.Proofs.YtjopepfemhckjaaGreatDoor.parseSums
namespace Go.Proofs.YtjopepfemhckjaaGreatDoor
theorem parseSums_holds : Rows.ParseSumsCardSaid :=
 Claim7.holds_tied_plain_at .later [] [.data, .data, .data, .data, .sentinel, .sentinel, .pinned] true (true, "4757ce96fe76183923a49868ae1a5be535bb6bd060b4299d030c75e24247ef1f") true
  parseSums.over (fun _ h => by cases h) (by kernel_rfl) (fun _ h => by cases h) parseSums_row_tie rfl ⟨rfl, rfl⟩ (by kernel_rfl) rfl
  (fun f fn hf hfn => by
   obtain rfl : f = 8 := Option.some.inj ((show Tryz.prog.funcNamed "debenture/debenturelaw11.ParseSums" = some 8 by kernel_rfl).symm.trans hf) |>.symm
   obtain rfl : fn = Tryz.f8 := (Option.some.inj (Tryz.func8.symm.trans hfn)).symm
   exact ⟨by kernel_rfl, fun j t ht => by
    rw [Tryz.params8] at ht
    have hm : t ∈ [40] := by simpa using Array.mem_of_getElem? ht
    have hall : ([40].all fun u => !Tryz.prog.wantsStandIn u) = true := by kernel_rfl
    exact (show Tryz.prog.wantsStandIn t = false by simpa using List.all_eq_true.1 hall t hm)⟩)
  (by kernel_rfl)
#print axioms parseSums_holds
end Go.Proofs.YtjopepfemhckjaaGreatDoor
