/-
  The row of the law JournalByte: whatever the input, the Go function returns true and leaves its arguments as they were.
-/
import Derived.Test.YtgfiiccajellnaaRows
import Derived.Test.YtgfiiccajellnaaJByte
import Derived.WalkKit
import Derived.ProofKit
import Derived.OpenShut
import Derived.ShutString
import Derived.ChangeOld
import Derived.Below
import Derived.SizedLaws
import Derived.SliceStrings
import Derived.Lib.SmallJoins
namespace Go.Proofs.Ytgfiiccajellnaa.journalByte
open Go.ChangeShapes Go.WideShapes Go.ChangeAt Go.RowKit
open Go.ChangeMaps (open_string shut_string)
set_option linter.unusedVariables false
theorem own : ownKnob Try.prog.godebug = none := by kernel_rfl
theorem laidOut : laidOutB Try.prog = true := by kernel_rfl
set_option maxRecDepth 100000 in
theorem lifted (os : Os) (started : os.Started) (H : Type) (enc : TypeId × Value → H) :
    ReturnsInHanded {} Try.checked os 7 .any (Rows.journalByteSpec.pre6 enc Try.prog Try.f7 Rows.journalByteRow.domain false) (Rows.journalByteSpec.post enc Try.prog Try.f7 false true false false) := by
  refine returnsInHanded_of_change_sized (C := Try.checked) own started (by kernel_rfl) Try.func7
    (ChangeSpec.witness6 (enc := enc) (C := Try.checked) false ⟨#[], #[.agg #[.string ByteArray.empty, .string ByteArray.empty], .agg #[.int .i64 0, .int .i64 0]], []⟩ 8 (by kernel_rfl) (by kernel_rfl) (by kernel_rfl) (by kernel_rfl)) ?_
  intro W base args ds gs before hval0 hW hcnd hsz0 _
  have hsz : (DataW.weightsEach Try.prog (Try.f7.params.toList ++ Rows.journalByteSpec.plain.varTypes Try.prog) (ds ++ gs)).all (· ≤ reachBytes) = true := hsz0
  have hval : ∀ (j : Nat) t v, Try.f7.params[j]? = some t → args[j]? = some v → Value.okWide Try.prog W .any base t v := hval0
  have hW' := hW
  obtain ⟨p, q, hA0, hV, rfl, hfz, hnd⟩ := hW
  have hA : DataW.TrodAll enc Try.prog W 0 (fun _ => true) true Try.f7.params.toList args.toList ds p := hA0
  rw [Try.params7] at hA hval hsz
  obtain ⟨v0, vs0, d0, ds0, p0, q0, hargs, rfl, rfl, h0, r0⟩ := trodAll_cons hA
  obtain ⟨v1, vs1, d1, ds1, p1, q1, rfl, rfl, rfl, h1, r1⟩ := trodAll_cons r0
  obtain ⟨rfl, rfl, rfl⟩ := trodAll_nil r1
  obtain rfl : args = #[v0, v1] := by cases args; simp_all
  obtain ⟨rfl, rfl⟩ := trodVars_none hV
  have k0 := h0
  have lt0 : ∀ x ∈ p0, x.block < W.heap.size := by obtain ⟨m, hm⟩ := k0; exact DataW.trod_lt m _ _ _ hm
  obtain ⟨cs0, rfl, hsz0⟩ : ∃ cs, v0 = .agg cs ∧ cs.size = Try.prog.cellsOf 35 := by
    have hv := hval 0 35 v0 rfl rfl
    simp only [Value.okWide, Try.underlying35] at hv
    obtain ⟨cs, h1, h2, _⟩ := hv
    exact ⟨cs, h1, h2⟩
  obtain ⟨x0, y0, rfl⟩ := Joins.array2 (hsz0.trans (show Try.prog.cellsOf 35 = 2 by kernel_rfl))
  obtain ⟨f0, hf0⟩ := h0
  obtain ⟨zs0, m0, _, _, _, hl0, hi0⟩ := DataW.trod_array Try.underlying35 hf0
  have ce0 : Try.prog.cellsOf 9 = 1 := by kernel_rfl
  obtain ⟨z0, z1, rfl⟩ : ∃ z0 z1, zs0 = [z0, z1] := by
    match zs0, hl0 with
    | [z0, z1], _ => exact ⟨z0, z1, rfl⟩
  have g00 := hi0 0 (by omega)
  have g01 := hi0 1 (by omega)
  rw [ce0] at g00 g01
  simp [Value.cells] at g00 g01
  obtain ⟨a0, e0, _, b0⟩ := DataW.trod_string Try.underlying9 g00
  obtain ⟨c0, e1, _, d0⟩ := DataW.trod_string Try.underlying9 g01
  simp at e0 e1
  subst e0 e1
  have k1 := h1
  have lt1 : ∀ x ∈ p1, x.block < W.heap.size := by obtain ⟨m, hm⟩ := k1; exact DataW.trod_lt m _ _ _ hm
  obtain ⟨cs1, rfl, hsz1⟩ : ∃ cs, v1 = .agg cs ∧ cs.size = Try.prog.cellsOf 36 := by
    have hv := hval 1 36 v1 rfl rfl
    simp only [Value.okWide, Try.underlying36] at hv
    obtain ⟨cs, h1, h2, _⟩ := hv
    exact ⟨cs, h1, h2⟩
  obtain ⟨x1, y1, rfl⟩ := Joins.array2 (hsz1.trans (show Try.prog.cellsOf 36 = 2 by kernel_rfl))
  obtain ⟨f1, hf1⟩ := h1
  obtain ⟨zs1, m1, _, _, _, hl1, hi1⟩ := DataW.trod_array Try.underlying36 hf1
  have ce1 : Try.prog.cellsOf 3 = 1 := by kernel_rfl
  obtain ⟨z0, z1, rfl⟩ : ∃ z0 z1, zs1 = [z0, z1] := by
    match zs1, hl1 with
    | [z0, z1], _ => exact ⟨z0, z1, rfl⟩
  have g10 := hi1 0 (by omega)
  have g11 := hi1 1 (by omega)
  rw [ce1] at g10 g11
  simp [Value.cells] at g10 g11
  obtain ⟨a1, e0, _, b1⟩ := DataW.trod_int Try.underlying3 g10
  obtain ⟨c1, e1, _, d1⟩ := DataW.trod_int Try.underlying3 g11
  simp at e0 e1
  subst e0 e1
  clear hA0 hval0 hsz0 hsz
  refine (Go.Proofs.Ytgfiiccajellnaa.JW.byte W a0 c0 a1 c1 b1 d1).mono fun e W' ⟨he, bel⟩ => ?_
  subst he
  exact ⟨_, rfl, _, _, _, [], _, [], hW', trodAll_mk1 (shut_bool Try.underlying4 _), (trodAll_cons_mk (Below.trod laidOut (by kernel_rfl) (of_decide_eq_true (by kernel_rfl)) k0 bel lt0) (trodAll_cons_mk (Below.trod laidOut (by kernel_rfl) (of_decide_eq_true (by kernel_rfl)) k1 bel lt1) trodAll_mk0)), rfl, bel.frame _, fun h => by cases h⟩
theorem over : Rows.journalByteRow.holds Try.pinned (OpenSpec.ofChange Rows.journalByteSpec) :=
  OpenClaim.holds_of_wide 7 Try.f7 rfl rfl rfl rfl rfl rfl rfl ⟨rfl, rfl, rfl, rfl, rfl⟩ rfl rfl rfl rfl rfl (by kernel_rfl) Try.func7 (by kernel_rfl)
    (of_decide_eq_true (by kernel_rfl)) (by unfold Func.isWrapper; first | (rw [if_pos (by decide +kernel)]; kernel_rfl) | (rw [if_neg (by decide +kernel)]; exact ⟨rfl, rfl⟩))
    (fun os started H enc _ => lifted os started H enc)
end Go.Proofs.Ytgfiiccajellnaa.journalByte
namespace Go.Proofs.Ytgfiiccajellnaa
/-- The law holds. -/
theorem journalByte_holds : Rows.JournalByteSaid := journalByte.over
end Go.Proofs.Ytgfiiccajellnaa

