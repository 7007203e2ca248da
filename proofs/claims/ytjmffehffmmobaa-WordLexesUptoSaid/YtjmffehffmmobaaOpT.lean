/-
  A row of tokens, opened: what it reads, and how much text it holds.
-/
import Derived.Test.YtjmffehffmmobaaRows
import Derived.Test.YtjmffehffmmobaaPWordLexesx0
import Derived.Deep.Slices
import Derived.Lib.SmallJoins
import Derived.ChangeArms
set_option linter.unusedVariables false
set_option linter.unusedSimpArgs false
namespace Go.Proofs.Ytjmffehffmmobaa.WW
open Go.Proofs Go.RowKit Go.Proofs.YtjmffehffmmobaaW.PrintWords Go.Proofs.Ytjmffehffmmobaa.PWordLexes

theorem addr_add (a : Addr) (x y : Nat) : (a.add x).add y = a.add (x + y) := by
  unfold Addr.add
  by_cases hx : x = 0
  · subst hx; simp
  · by_cases hy : y = 0
    · subst hy; simp
    · rw [if_neg hy, if_neg hx, if_neg (by omega)]
      simp [Nat.add_assoc]
theorem cells4 {w : World} {base : Nat} {a : Addr} {cs : List Value} (h : w.cells? base a 4 = some cs) : ∃ v0 v1 v2 v3, cs = [v0, v1, v2, v3] ∧ w.cell? (a.add 0) = some v0 ∧ w.cell? (a.add 1) = some v1 ∧ w.cell? (a.add 2) = some v2 ∧ w.cell? (a.add 3) = some v3 := by
  unfold World.cells? at h
  split at h
  · rw [show List.range 4 = [0, 1, 2, 3] from rfl] at h
    simp only [List.mapM_cons, List.mapM_nil, Option.bind_eq_bind, Option.bind_eq_some_iff, Option.pure_def, Option.some.injEq] at h
    obtain ⟨v0, h0, l0, ⟨v1, h1, l1, ⟨v2, h2, l2, ⟨v3, h3, l3, rfl, rfl⟩, rfl⟩, rfl⟩, rfl⟩ := h
    exact ⟨v0, v1, v2, v3, rfl, h0, h1, h2, h3⟩
  · cases h

theorem bulk_map {H : Type} (D : Nat → DataW H) (f : Nat → Nat) (l : List Nat) (h : ∀ i ∈ l, f i ≤ Rows.uptoBulk (D i)) : (l.map f).sum ≤ Rows.uptoBulkAll (l.map D) := by
  induction l with
  | nil => simp
  | cons i l ih =>
    have h1 := h i (by simp)
    have h2 := ih (fun j hj => h j (by simp [hj]))
    rw [List.map_cons, List.sum_cons, List.map_cons]
    show _ ≤ Rows.uptoBulk (D i) + Rows.uptoBulkAll (l.map D)
    omega

theorem open_toks {H : Type} {enc : TypeId × Value → H} {w : World} {base : Nat} {spare : Nat → Bool} {held : Bool} {fuel : Nat} {v : Value} {x : DataW H × List MemPlace}
    (h : DataW.trod enc Try.prog w base spare held fuel 22 [v] = some x) :
    ∃ (A : Option Addr) (cap : Nat) (l : List S31), v = .slice A l.length cap ∧ l.length ≤ cap ∧ Kd.C k31 w A l.length l ∧ (l.map (·.f1.size)).sum ≤ Rows.uptoBulk x.1 := by
  have hc4 : Try.prog.cellsOf 31 = 4 := by kernel_rfl
  have hci : Try.prog.cellsOf 3 = 1 := by kernel_rfl
  have hcs : Try.prog.cellsOf 9 = 1 := by kernel_rfl
  rcases Go.Deep.open_slice Try.underlying22 h with ⟨hv, rfl⟩ | ⟨a, len, cap, m, n, D, Pl, hv, hb, hl, hm, hmm, rfl, hel⟩
  · injection hv with hv
    subst hv
    exact ⟨none, 0, [], rfl, Nat.le_refl _, ⟨rfl, by decide, fun h => absurd h (by decide)⟩, Nat.zero_le _⟩
  · injection hv with hv
    subst hv
    have hle : len ≤ m := by rw [hmm]; split <;> omega
    have key : ∀ i, i < len → ∃ t : S31, w.cell? (a.add (i * 4)) = some (.int .i64 t.f0) ∧ w.cell? (a.add (i * 4 + 1)) = some (.string t.f1) ∧ w.cell? (a.add (i * 4 + 2)) = some (.int .i64 t.f2) ∧ w.cell? (a.add (i * 4 + 3)) = some (.int .i64 t.f3) ∧ t.f1.size ≤ Rows.uptoBulk (D i) := by
      intro i hi
      obtain ⟨cs', h1, h2⟩ := hel i (by omega)
      rw [hc4] at h1
      obtain ⟨v0, v1, v2, v3, rfl, g0, g1, g2, g3⟩ := cells4 h1
      obtain ⟨y0, y1, y2, y3, k, hx, _, q0, q1, q2, q3⟩ := Go.Joins.trod_struct4 Try.underlying31 h2
      rw [hci] at q0 q2 q3
      rw [hcs] at q1
      obtain ⟨n0, e0, f0, _⟩ := DataW.trod_int Try.underlying3 q0
      obtain ⟨s1, e1, f1, _⟩ := DataW.trod_string Try.underlying9 q1
      obtain ⟨n2, e2, f2, _⟩ := DataW.trod_int Try.underlying3 q2
      obtain ⟨n3, e3, f3, _⟩ := DataW.trod_int Try.underlying3 q3
      have z0 : v0 = .int .i64 n0 := by simpa using e0
      have z1 : v1 = .string s1 := by simpa using e1
      have z2 : v2 = .int .i64 n2 := by simpa using e2
      have z3 : v3 = .int .i64 n3 := by simpa using e3
      subst z0 z1 z2 z3
      have hD : D i = .agg [y0.1, y1.1, y2.1, y3.1] := congrArg Prod.fst hx
      refine ⟨⟨n0, s1, n2, n3⟩, ?_, ?_, ?_, ?_, ?_⟩
      · rw [addr_add] at g0; exact g0
      · rw [addr_add] at g1; exact g1
      · rw [addr_add] at g2; exact g2
      · rw [addr_add] at g3; exact g3
      · rw [hD, f1]
        simp only [Rows.uptoBulk, Rows.uptoBulkAll, Array.length_toList]
        have : s1.data.size = s1.size := rfl
        show s1.size ≤ _
        omega
    refine ⟨some a, cap, (List.range len).map (fun i => if h : i < len then Classical.choose (key i h) else z31), ?_, ?_, ?_, ?_⟩
    · rw [List.length_map, List.length_range]
    · rw [List.length_map, List.length_range]; exact hl
    · rw [List.length_map, List.length_range]
      refine ⟨by rw [List.length_map, List.length_range], by unfold maxLen at hm; omega, fun _ => ⟨a, rfl, ?_⟩⟩
      intro j p hj
      rw [List.getElem?_map] at hj
      by_cases hjl : j < len
      · rw [List.getElem?_range hjl] at hj
        simp only [Option.map_some, Option.some.injEq] at hj
        rw [dif_pos hjl] at hj
        obtain ⟨b0, b1, b2, b3, _⟩ := Classical.choose_spec (key j hjl)
        rw [hj] at b0 b1 b2 b3
        refine ⟨_, rfl, k31_mk w p, ?_⟩
        intro i u hu
        match i, hu with
        | 0, hu => simp at hu; subst hu; exact b0
        | 1, hu => simp at hu; subst hu; exact b1
        | 2, hu => simp at hu; subst hu; exact b2
        | 3, hu => simp at hu; subst hu; exact b3
        | i + 4, hu => simp at hu
      · rw [List.getElem?_eq_none (by rw [List.length_range]; omega)] at hj
        simp at hj
    · rw [List.map_map]
      refine Nat.le_trans (bulk_map D _ (List.range len) ?_) ?_
      · intro i hi
        have hi' := List.mem_range.1 hi
        show ((fun t : S31 => t.f1.size) (if h : i < len then Classical.choose (key i h) else z31)) ≤ _
        rw [dif_pos hi']
        exact (Classical.choose_spec (key i hi')).2.2.2.2
      · simp only [Rows.uptoBulk]
        omega

end Go.Proofs.Ytjmffehffmmobaa.WW
