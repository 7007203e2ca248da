/-
  fixed, walked.
-/
import Derived.Test.YtjmffehffmmobaaWW4
import Derived.Test.YtjmffehffmmobaaWW5
import Derived.Test.YtjmffehffmmobaaPWordLexesx1
set_option linter.unusedVariables false
set_option linter.unusedSimpArgs false
namespace Go.Proofs.Ytjmffehffmmobaa.WW
open Go.Proofs Go.RowKit Go.Proofs.Ytjmffehffmmobaa.WP Go.Proofs.YtjmffehffmmobaaW.PrintWords Go.Proofs.Ytjmffehffmmobaa.PWordLexes
attribute [local go_sem high] eqA31

def fixL : List S31 := [⟨0, ⟨#[109, 97, 120]⟩, 1, 1⟩, ⟨2, ⟨#[40]⟩, 1, 4⟩, ⟨1, ⟨#[49, 46, 53]⟩, 1, 5⟩, ⟨2, ⟨#[44]⟩, 1, 8⟩, ⟨0, ⟨#[112, 120]⟩, 1, 10⟩, ⟨2, ⟨#[41]⟩, 1, 12⟩]
theorem lex_fix1 : lexD ⟨#[109, 97, 120, 40, 49, 46, 53, 44, 32, 112, 120, 41]⟩ = (fixL, 0, 0, 0) := by kernel_rfl
theorem lex_fix2 : lexD ⟨#[97, 10, 32, 98, 32, 63]⟩ = ([], 90, 2, 4) := by kernel_rfl
theorem lex_fix3 : lexD ⟨#[49, 46, 97]⟩ = ([], 90, 1, 2) := by kernel_rfl
theorem print_fix : printB fixL = ⟨#[109, 97, 120, 32, 40, 32, 49, 46, 53, 32, 44, 32, 112, 120, 32, 41]⟩ := by kernel_rfl
theorem print_len : (Lib.join ((fixL.map (·.f1)).map (·.data.toList)) [32]).length ≤ 140737488355328 := by decide +kernel

/-- Lex, its result opened: what the law's code sees. -/
theorem lex_at (s : ByteArray) (w : World) (hs : s.size ≤ 20000) (D : List S31 × Int × Int × Int) (hD : lexD s = D) :
    Calls Try.prog 9 #[.string s] w fun e w' => ∃ A c, e = .returned (.tuple #[.slice A D.1.length c, .int .i64 D.2.1, .int .i64 D.2.2.1, .int .i64 D.2.2.2]) ∧ D.1.length ≤ c ∧ Aside0 (Kd.C k31 w' A D.1.length D.1) ∧ Below w.heap.size w w' := by
  refine (lex s w hs).mono ?_
  rw [hD]
  rintro e w' ⟨v, rfl, hv, hb⟩
  obtain ⟨A, c, rfl, hc, hC⟩ := Kd.R_reads hv
  exact ⟨A, c, rfl, hc, ⟨hC⟩, hb⟩

set_option maxHeartbeats 4000000 in
set_option maxRecDepth 100000 in
theorem fixed (w : World) : Calls Try.prog 8 #[] w fun e w' => e = .returned (.bool true) ∧ Below w.heap.size w w' := by
  have H1 := fun W => Lib.hid (lex_at _ W (by decide) _ lex_fix1)
  have H2 := fun W => Lib.hid (lex_at _ W (by decide) _ lex_fix2)
  have H3 := fun W => Lib.hid (lex_at _ W (by decide) _ lex_fix3)
  go_enter Try.func8, Try.ntmps8
  go_wp2_with fail
  refine (H1 _).out.mono ?_
  rintro e w1 ⟨A1, c1, rfl, hc1, HC1, hb1⟩
  go_wp2_with fail
  refine (H2 _).out.mono ?_
  rintro e w2 ⟨A2, c2, rfl, hc2, HC2, hb2⟩
  go_wp2_with fail
  refine (H3 _).out.mono ?_
  rintro e w3 ⟨A3, c3, rfl, hc3, HC3, hb3⟩
  have HC := Aside0.mk (Kd.C_below (Kd.C_below HC1.out hb2) hb3)
  have HB := Aside0.mk ((hb1.trans (hb2.mono hb1.size)).trans (hb3.mono (Nat.le_trans hb1.size hb2.size)))
  clear H1 H2 H3 HC1 HC2 HC3 hb1 hb2 hb3 hc2 hc3
  obtain ⟨ad, e1, h0, h1, h2, h3⟩ := at_T31 HC.out 4 (by decide) (by decide)
  cases e1
  have HP := Lib.hid (print (some ad) c1 fixL w3 (by decide) hc1 HC.out print_len)
  rw [print_fix] at HP
  have hy : rd_T31 fixL 4 = ⟨0, ⟨#[112, 120]⟩, 1, 10⟩ := rfl
  rw [hy] at h0 h1 h2 h3
  replace h0 : w3.cell? ⟨ad.block, ad.off + 16, none⟩ = some (.int .i64 0) := h0
  replace h1 : w3.cell? ⟨ad.block, ad.off + 16 + 1, none⟩ = some (.string ⟨#[112, 120]⟩) := h1
  replace h2 : w3.cell? ⟨ad.block, ad.off + 16 + 2, none⟩ = some (.int .i64 1) := h2
  replace h3 : w3.cell? ⟨ad.block, ad.off + 16 + 3, none⟩ = some (.int .i64 10) := h3
  have hn : fixL.length = 6 := rfl
  have hn2 : ([] : List S31).length = 0 := rfl
  simp only [hn] at HP hc1 ⊢
  clear hy
  go_wp2_with fail
  refine HP.out.mono ?_
  rintro e w4 ⟨rfl, hb4⟩
  go_wp2
  go_ret
  exact ⟨rfl, HB.out.trans (hb4.mono HB.out.size)⟩

end Go.Proofs.Ytjmffehffmmobaa.WW
