/-
  word.Print, walked.
-/
import Derived.Test.YtjmffehffmmobaaWW1
import Derived.Test.YtjmffehffmmobaaPWordLexesx0
import Derived.Test.YtjmffehffmmobaaShf
set_option linter.unusedVariables false
set_option linter.unusedSimpArgs false
namespace Go.Proofs.Ytjmffehffmmobaa.WW
open Go.Proofs Go.RowKit Go.Proofs.YtjmffehffmmobaaW.PrintWords Go.Proofs.Ytjmffehffmmobaa.PWordLexes

theorem infoStr : (Try.prog.info? 9).map (fun i => (i.zero, i.size, i.bytes)) = some (some (.string ⟨#[]⟩), 1, 16) := by kernel_rfl

/-- The tokens' texts, a blank between them. -/
def printB (l : List S31) : ByteArray := ⟨(Lib.join ((l.map (·.f1)).map (·.data.toList)) [32]).toArray⟩

set_option maxHeartbeats 4000000 in
set_option maxRecDepth 100000 in
theorem print (A : Option Addr) (cap : Nat) (l : List S31) (w : World) (hl : l.length ≤ 1000000) (hc : l.length ≤ cap) (hr : Kd.C k31 w A l.length l) (hj : (Lib.join ((l.map (·.f1)).map (·.data.toList)) [32]).length ≤ 140737488355328) :
    Calls Try.prog 12 #[.slice A l.length cap] w fun e w' => e = .returned (.string (printB l)) ∧ Below w.heap.size w w' := by
  have HR0 := Aside0.mk hr
  have HJ := Lib.hid hj
  clear hr hj
  go_enter Try.func12, Try.ntmps12
  go_wp2
  go_loopg [8, 3] l.length (fun g v8 v3 w' => ∃ (j : Nat) (acc : List ByteArray), v8 = .int .i64 j ∧ Aside0 (g + j = l.length) ∧ Aside0 (acc = (l.take j).map (·.f1)) ∧ Aside0 (Kd.R Kd.string 9 w' w.heap.size (fun _ => True) v3 acc) ∧ Aside0 (Below w.heap.size w w'))
  case atStart => exact ⟨0, [], rfl, ⟨by omega⟩, ⟨rfl⟩, ⟨Kd.R_nil _ _ _ _ _⟩, ⟨Below.refl _ _⟩⟩
  case round =>
    obtain ⟨j, acc, rfl, HG, HA, HV, HB⟩ := hrel
    have hj := HG.out
    by_cases hlt : j < l.length
    · obtain ⟨ad, e1, h0, h1, h2, h3⟩ := at_T31 HR0.out (j : Int) (by omega) (by omega)
      cases e1
      replace h0 := (HB.out.cell (World.block_lt_of_cell? w _ h0)).trans h0
      replace h1 := (HB.out.cell (World.block_lt_of_cell? w _ h1)).trans h1
      replace h2 := (HB.out.cell (World.block_lt_of_cell? w _ h2)).trans h2
      replace h3 := (HB.out.cell (World.block_lt_of_cell? w _ h3)).trans h3
      have hx : (rd_T31 l (j : Int)) = l[j] := by unfold rd_T31; simp [hlt]
      rw [hx, Int.toNat_natCast] at h0 h1 h2 h3
      have HA2 : Aside0 (acc ++ [l[j].f1] = (l.take (j + 1)).map (·.f1)) := ⟨by rw [HA.out]; simp only [List.take_succ_eq_append_getElem hlt, List.map_append, List.map_cons, List.map_nil]⟩
      have HG2 : Aside0 (gk - 1 + (j + 1) = l.length ∧ gk - 1 < gk) := ⟨by omega⟩
      have HL : Aside0 ((acc.length + 1) * 16 ≤ 140737488355328) := ⟨by rw [HA.out, List.length_map, List.length_take]; omega⟩
      clear hx HG HA
      generalize hy : l[j] = y at *
      clear hy
      have hb1 := (Below.refl wr.heap.size wr).alloc (Nat.le_refl _) (.cells #[Value.int .i64 y.f0, .string y.f1, .int .i64 y.f2, .int .i64 y.f3] 31)
      have HV1 := Aside0.mk (Kd.R_below HV.out hb1)
      have HB1 := Aside0.mk (HB.out.trans (hb1.mono HB.out.size))
      clear hb1 HV HB
      have hsz : (wr.alloc (.cells #[Value.int .i64 y.f0, .string y.f1, .int .i64 y.f2, .int .i64 y.f3] 31)).heap.size = wr.heap.size + 1 := by unfold World.alloc; exact Array.size_push _
      go_wp2_with (at_builtin; (refine Kd.R_append Kd.string (w0 := w) w.heap.size rfl (.tmp 12) (.tmp 15) 47 9 (.string ⟨#[]⟩) 16 rfl Try.underlying47 infoStr rfl (by decide) (by omega) u3 acc y.f1 [.string y.f1] (fun _ => True) (fun _ => False) rfl ?aX ?aP (fun _ hk => hk.elim) ?aF ?aO ?aB ?aS ?aL ?_))
      case aX => exact congrArg (fun n => Value.slice (some ⟨n, 0, none⟩) 1 1) hsz.symm
      case aP => exact rfl
      case aF => exact fun _ _ => trivial
      case aO => exact HV1.out
      case aB => exact HB1.out
      case aS => exact HB1.out.size
      case aL => exact HL.out
      intro v4 w4 hv4 hb4 hg4 ho4
      go_wp2
      go_roundg (gk - 1)
      case measure => exact HG2.out.2
      case rel => exact ⟨j + 1, acc ++ [y.f1], by go_num, ⟨HG2.out.1⟩, HA2, ⟨hv4⟩, ⟨hb4⟩⟩
    · have e : acc = l.map (·.f1) := by rw [HA.out, List.take_of_length_le (by omega)]
      subst e
      obtain ⟨A1, c1, e1, hc1, hC⟩ := Kd.R_reads HV.out
      rw [List.length_map] at e1 hc1
      subst e1
      have hjoin : Calls Try.prog 21 #[.slice A1 l.length c1, .string ⟨#[32]⟩] wr fun e w' => e = .returned (.string (printB l)) ∧ Below wr.heap.size wr w' := by
        by_cases h0 : l = []
        · subst h0
          exact (Try.strings_Join_none A1 c1 ⟨#[32]⟩ wr).mono fun e w' h => ⟨h.1, by rw [h.2]; exact Below.refl _ _⟩
        · have hlp : 0 < l.length := List.length_pos_iff.mpr h0
          obtain ⟨ad, e2, hx0⟩ := Kd.at_string hC 0 (by omega) (by rw [List.length_map]; omega)
          subst e2
          have hcs : ∀ (j : Nat) x, (l.map (·.f1))[j]? = some x → wr.cell? (ad.add j) = some (.string x) := by
            intro j x hx
            have hj : j < l.length := by
              have := (List.getElem?_eq_some_iff.1 hx).1
              simpa using this
            obtain ⟨ad2, e2, hx2⟩ := Kd.at_string hC (j : Int) (by omega) (by rw [List.length_map]; omega)
            injection e2 with e2
            subst e2
            rw [Int.toNat_natCast] at hx2
            rw [hx2]
            unfold rdOf
            rw [Int.toNat_natCast, List.getD_eq_getElem?_getD, hx]
            rfl
          obtain ⟨inner, ho⟩ := Kd.R_own HV.out
          obtain ⟨g, rfl, hg⟩ : ∃ g, ad = ⟨g, 0, none⟩ ∧ g < wr.heap.size := by
            rcases ho.2 with ⟨h', _⟩ | ⟨g', cap', cur, h', _, hh, _⟩
            · injection h' with h1 h2 h3
              cases h1
            · injection h' with h1 h2 h3
              injection h1 with h1
              exact ⟨g', h1, (Array.getElem?_eq_some_iff.1 hh).1⟩
          have hcs2 : ∀ (j : Nat) x, (l.map (·.f1))[j]? = some x → wr.cell? ⟨g, 0 + j, none⟩ = some (.string x) := by
            intro j x hx
            have := hcs j x hx
            unfold Addr.add at this
            by_cases hj0 : j = 0
            · subst hj0; exact this
            · rw [if_neg hj0] at this; exact this
          have hJ := Try.strings_Join g 0 c1 (l.map (·.f1)) ⟨#[32]⟩ wr hcs2 hg (by rw [List.length_map]; omega) (by rw [List.length_map]; omega) HJ.out
          rw [List.length_map] at hJ
          exact hJ
      have HJn := Lib.hid hjoin
      clear hC
      clear hjoin
      go_wp2_with fail
      refine HJn.out.mono ?_
      rintro e w1 ⟨rfl, hb1⟩
      go_wp2
      go_ret
      exact ⟨rfl, HB.out.trans (hb1.mono HB.out.size)⟩

end Go.Proofs.Ytjmffehffmmobaa.WW
