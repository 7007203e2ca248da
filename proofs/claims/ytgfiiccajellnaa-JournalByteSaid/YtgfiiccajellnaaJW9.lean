/-
  What the document fixes of the journal: it holds.
-/
import Derived.Test.YtgfiiccajellnaaJW8
set_option linter.unusedVariables false
set_option linter.unusedSimpArgs false
namespace Go.Proofs.Ytgfiiccajellnaa.JW
open Go.RowKit Go.Proofs.Ytgfiiccajellnaa.JP Go.Proofs.YtgfiiccajellnaaW.PrintWords

theorem fx1 : recB ⟨#[97]⟩ = ⟨#[0, 0, 0, 1, 97, 0, 98, 0, 98]⟩ := by decide +kernel
abbrev rA : ByteArray := ⟨#[0, 0, 0, 1, 97, 0, 98, 0, 98]⟩
theorem fx2 : decB ((rA ++ rA ++ ⟨#[0]⟩).size + 1) (rA ++ rA ++ ⟨#[0]⟩) 0 = ([⟨#[97]⟩, ⟨#[97]⟩], 18, 250) := by decide +kernel
theorem fx3 : decB ((rA ++ ⟨#[0, 0, 0, 1, 98, 0, 98, 0, 98]⟩).size + 1) (rA ++ ⟨#[0, 0, 0, 1, 98, 0, 98, 0, 98]⟩) 0 = ([⟨#[97]⟩], 9, 251) := by decide +kernel
theorem fx4 : chk (⟨#[]⟩ : ByteArray).data.toList = (1, 0) := by decide +kernel
theorem fx5 : encB [⟨#[97]⟩, ⟨#[97]⟩] = rA ++ rA := by decide +kernel

set_option maxHeartbeats 2000000 in
set_option maxRecDepth 100000 in
theorem fixed (w : World) : Calls Try.prog 9 #[] w fun e w' => e = .returned (.bool true) ∧ Below w.heap.size w w' := by
  go_enter Try.func9, Try.ntmps9
  go_wp2_with fail
  refine (record _ _ (by decide)).mono ?_
  rintro e w1 ⟨rfl, hb1⟩
  rw [fx1]
  have HB1 := Aside0.mk hb1
  clear hb1
  go_wp2_with fail
  refine (decode _ _ (by decide +kernel)).mono ?_
  rintro e w2 ⟨v, rfl, ho2, hb2⟩
  rw [fx2] at ho2 ⊢
  have HB2 := Aside0.mk (HB1.out.trans (hb2.mono HB1.out.size))
  obtain ⟨A2, n2, rfl, hl2, hc2⟩ := Kd.R_reads ho2
  clear HB1 hb2 ho2 hl2 hc2
  go_wp2_with fail
  refine (decode _ _ (by decide +kernel)).mono ?_
  rintro e w3 ⟨v, rfl, ho2, hb2⟩
  rw [fx3] at ho2 ⊢
  have HB3 := Aside0.mk (HB2.out.trans (hb2.mono HB2.out.size))
  obtain ⟨A3, n3, rfl, hl2, hc2⟩ := Kd.R_reads ho2
  clear HB2 hb2 ho2 hl2 hc2
  go_wp2_with fail
  refine (check _ _ (by decide +kernel)).mono ?_
  rintro e w4 ⟨rfl, rfl⟩
  rw [fx4]
  go_wp2_with fail
  have HC : Kd.C Kd.string (w3.alloc (.cells #[.string ⟨#[97]⟩, .string ⟨#[97]⟩] 9)) (some ⟨w3.heap.size, 0, none⟩) 2 [⟨#[97]⟩, ⟨#[97]⟩] :=
    Kd.C_of_reads (enc := Value.string) (d := ByteArray.empty) (h1 := fun _ => rfl) ⟨rfl, by omega, fun _ => ⟨_, rfl, fun j hj => by
      match j, hj with
      | 0, _ => exact Lib.cell_of_heap (heap_alloc_new w3 _) 0
      | 1, _ => exact Lib.cell_of_heap (heap_alloc_new w3 _) 1⟩⟩
  refine (encode _ 2 [⟨#[97]⟩, ⟨#[97]⟩] _ HC (Nat.le_refl _) (by decide) (by decide)).mono ?_
  rintro e w5 ⟨rfl, hb5⟩
  rw [fx5]
  have HB5 := Aside0.mk ((HB3.out.alloc HB3.out.size _).trans (hb5.mono (by have := HB3.out.size; simp; omega)))
  clear HB3 hb5 HC
  go_wp2
  go_ret
  exact ⟨rfl, HB5.out⟩

end Go.Proofs.Ytgfiiccajellnaa.JW
