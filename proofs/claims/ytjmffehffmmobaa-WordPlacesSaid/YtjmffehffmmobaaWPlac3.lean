/-
  WordPlaces: all ways.
-/
import Derived.Test.YtjmffehffmmobaaWPlac2
set_option linter.unusedVariables false
set_option linter.unusedSimpArgs false
namespace Go.Proofs.Ytjmffehffmmobaa.WW
open Go.Proofs Go.RowKit Go.Proofs.Ytjmffehffmmobaa.WP Go.Proofs.YtjmffehffmmobaaW.PrintWords Go.Proofs.Ytjmffehffmmobaa.PWordLexes

theorem places (W : World) (s : ByteArray) (hs0 : s.size ≤ 140737488351232) (x : Int) (hx : (Lit.int .i64 x).wf = true) (y : Int) (hy : (Lit.int .i64 y).wf = true) :
    Calls Try.prog 5 #[.string s, .int .i64 x, .int .i64 y] W fun e W' => e = .returned (.bool true) ∧ Below W.heap.size W W' := by
  by_cases h1 : 3000 < s.size
  · exact places_o0 s x y W h1
  by_cases h2 : x < 0
  · exact places_o1 s x y W (by omega) h2
  by_cases h3 : y < 0
  · exact places_o2 s x y W (by omega) (by omega) h3
  by_cases h4 : 100 < x
  · exact places_o3 s x y W (by omega) (by omega) (by omega) h4
  by_cases h5 : 100 < y
  · exact places_o4 s x y W (by omega) (by omega) (by omega) (by omega) h5
  obtain ⟨B, rfl⟩ := Int.eq_ofNat_of_zero_le (show 0 ≤ x by omega)
  obtain ⟨L, rfl⟩ := Int.eq_ofNat_of_zero_le (show 0 ≤ y by omega)
  rcases places_facts L B s (by omega) with ⟨⟨q1, q2⟩, ha, hb, g1, g2, g3, g4⟩ | ⟨ts, ha, hb, hl, hbd⟩
  · by_cases e1 : q1 = 1
    · subst e1
      exact places_err1 s B L W (by omega) (by omega) (by omega) q2 ha hb g4
    · rw [if_neg e1] at hb
      exact places_err2 s B L W (by omega) (by omega) (by omega) q1 q2 ha hb (by simp only [] at g1; omega) g3 g4
  · exact places_ok s B L W (by omega) (by omega) (by omega) ts ha hb hl hbd

end Go.Proofs.Ytjmffehffmmobaa.WW
