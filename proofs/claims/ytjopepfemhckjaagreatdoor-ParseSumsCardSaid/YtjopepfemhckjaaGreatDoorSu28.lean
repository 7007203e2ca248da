/-
  Part 28 of the proof of parseSums_holds: texts of this seat, put together.
-/
import Derived.Test.YtjopepfemhckjaaGreatDoorSu27
set_option linter.unusedVariables false
set_option linter.unusedSimpArgs false
section
namespace Go.Proofs.YtjopepfemhckjaaGreatDoor.NW
open Go.Proofs Go.RowKit Go.Shelf Go.Proofs.YtjopepfemhckjaaGreatDoor.PN Go.Proofs.YtjopepfemhckjaaGreatDoorW.PrintWords Go.Proofs.YtjopepfemhckjaaGreatDoor.PParseTells
set_option maxHeartbeats 8000000 in
set_option maxRecDepth 100000 in
theorem cPShutP {t : Code} (hr : findLabel bodyC 1 = some (.seq .skip t)) {J : Nat → Act → World → Prop} {R : Ending → World → Prop} (w0 : World) (g bl : Nat) (last : S75) (f : Nat → Value) (A : Option Addr) (c : Nat) (tk : S75) (rest : List S75) (wv : Value) (r : List S82) (ov : Value) (o : List Nd) (dp e p0 p1 : Int) (W : World)
  (HP : Aside0 (PB w0 g A c (tk :: rest) wv r.reverse ov o dp e p0 p1 W)) (HB : Aside0 (W.heap[bl]? = some (.cells #[.int .i64 last.f0, .string last.f1, .int .i64 last.f2, .int .i64 last.f3] 75))) (he : e = 0) (hk : tk.f0 = 2) (ht : tk.f1 = ⟨#[41]⟩) (op0 rk0 : Int) (hop : parse_operator.f tk.f0 tk.f1 tk.f2 tk.f3 = some (op0, rk0)) (hrk : rk0 ≤ 0) (x : S82) (r' : List S82) (o' : List Nd) (hp : popR 1 r o = (x :: r', o')) (hs' : Aside0 (r'.length ≤ 100000)) (hso : Aside0 (o'.length ≤ 100000)) (hx2 : x.f2 ≤ 1) (hx0 : x.f0 < 0) (hdp1 : -100000 ≤ dp) (hdp2 : dp ≤ 100000) (hw : Aside0 (∀ x ∈ r, 1 ≤ x.f1 → 0 ≤ x.f0)) (hlen : Aside0 (r.length + o.length ≤ 100000))
  (hn : Aside0 (∀ (a' : Act) (W' : World), FrameOK g bl a' → Aside0 (∃ A' c' wv' ov', PB w0 g A' c' (rest) wv' (r').reverse ov' (o') (dp - 1) 0 p0 p1 W') → Aside0 (W'.heap[bl]? = some (.cells #[.int .i64 last.f0, .string last.f1, .int .i64 last.f2, .int .i64 last.f3] 75)) → J 1 a' W')) :
  t.wp Tryz.prog (AtLabel J (bodyPost Tryz.prog Tryz.f19 R)) (frm g bl f) W := by
 unfold frm
 injection (hr.symm.trans (rfl : findLabel bodyC 1 = some (.seq .skip _))) with hr'
 injection hr' with _ hr'
 subst hr'
 clear hr
 subst he
 have HOP : ∀ W, RowKit.Hid (Calls Tryz.prog 47 #[.agg #[.int .i64 tk.f0, .string tk.f1, .int .i64 tk.f2, .int .i64 tk.f3]] W fun ex w' => ex = .returned (.tuple #[.int .i64 op0, .int .i64 rk0]) ∧ Below W.heap.size W w') := fun W => Lib.hid (parse_operator.calls tk.f0 tk.f1 tk.f2 tk.f3 op0 rk0 W hop)
 have HPO : ∀ W', Below W.heap.size W W' → RowKit.Hid (Calls Tryz.prog 46 #[.pointer (some ⟨g, 0, none⟩), .int .i64 1] W' fun ex w' => ex = .returned (.tuple #[]) ∧ (∃ wv' ov', PB w0 g A c (tk :: rest) wv' (x :: r').reverse ov' o' dp 0 p0 p1 w') ∧ Fr W' w') := by
  intro W' hb
  have HPO := pop_at w0 g A c (tk :: rest) wv r ov o dp 0 p0 p1 W' (HP.out.step hb) 1 (by omega) (by omega) hw.out hlen.out
  rw [hp] at HPO
  exact Lib.hid HPO
 have hr0 : ¬ (0 : Int) < rk0 := by omega
 obtain ⟨c0, c1, c2, c3, c4, c5, c6⟩ := HP.out.cells
 obtain ⟨tb, off, hA, q0, q1, q2, q3⟩ := HP.out.head
 subst hA
 have hl : ¬ ((tk :: rest).length : Int) = 0 := by simp only [List.length_cons]; omega
 have hl2 : (0 : Int) < ((tk :: rest).length : Int) := by simp only [List.length_cons]; omega
 have hl3 : (1 : Int) ≤ ((tk :: rest).length : Int) := by omega
 have hlc : (tk :: rest).length - 1 = rest.length := rfl
 have hcI : ((tk :: rest).length : Int) ≤ (c : Int) := by have := HP.out.hc; omega
 generalize hn0 : (tk :: rest).length = n at *
 have HKT := Aside0.mk (And.intro hk ht)
 clear hop hp hw hlen hk ht
 go_wp2_with fail
 refine (HOP _).out.mono ?_
 rintro ex wb ⟨rfl, hb⟩
 have HPO2 := HPO _ hb
 have HB1 := Aside0.mk (Fr.below hb _ _ HB.out)
 clear HOP HPO HB c0 c1 c2 c3 c4 c5 c6 q0 q1 q2 q3 hb
 go_wp2_with fail
 refine HPO2.out.mono ?_
 rintro ex wc ⟨rfl, ⟨wv', ov', hq2⟩, hf⟩
 have HP3 := Aside0.mk hq2
 have HB3 := Aside0.mk (hf _ _ HB1.out)
 clear HP HB1 HPO2 hf hq2
 obtain ⟨c0, c1, c2, c3, c4, c5, c6⟩ := HP3.out.cells
 have hrv : (x :: r').reverse = r'.reverse ++ [x] := List.reverse_cons
 have HQ0 := HP3.out
 rw [hrv] at HQ0
 obtain ⟨b, cap, hwv, hcap, x0, x1, x2⟩ := HQ0.last
 have HTO := Lib.hid (topYes_at w0 g _ c (tk :: rest) wv' r' x ov' o' dp 0 p0 p1 wc HQ0 hs'.out b cap hwv)
 have HP4 := Aside0.mk HQ0
 have HWV := Aside0.mk hwv
 have HXB : b < wc.heap.size := by
  obtain ⟨cells, hc⟩ := Kd.R_typed HQ0.wt b (by rw [hwv]; rfl)
  exact (Array.getElem?_eq_some_iff.1 hc).1
 clear HQ0 HP3 hrv hwv
 go_wp2_with fail
 refine HTO.out.mono ?_
 rintro ex wd ⟨rfl, hb⟩
 have HP5 := Aside0.mk (HP4.out.step hb)
 have HB5 := Aside0.mk (Fr.below hb _ _ HB3.out)
 have y0 := (below_cell hb ⟨b, r'.length * 3, none⟩ HXB).trans x0
 have y1 := (below_cell hb ⟨b, r'.length * 3 + 1, none⟩ HXB).trans x1
 have y2 := (below_cell hb ⟨b, r'.length * 3 + 2, none⟩ HXB).trans x2
 have hwv := HWV.out
 clear HWV
 subst hwv
 have HPK := peek2_at w0 g _ c (tk :: rest) _ _ ov' o' dp 0 p0 p1 wd HP5.out
 have hpk : hdT (tk :: rest) = tk.f1 := rfl
 rw [hpk, HKT.out.2] at HPK
 have HPK := Lib.hid HPK
 clear HP4 HB3 HTO x0 x1 x2 hb
 go_wp2_with fail
 refine HPK.out.mono ?_
 rintro ex we ⟨rfl, rfl⟩
 clear HPK
 obtain ⟨c0, c1, c2, c3, c4, c5, c6⟩ := HP5.out.cells
 have hx1 : ¬ (0 : Int) ≤ x.f0 := by omega
 clear hx0
 go_wp2_with fail
 obtain ⟨c0, c1, c2, c3, c4, c5, c6⟩ := HP5.out.cells
 rw [hn0] at c0
 have f0 := HP5.out.frozen 0
 have f1 := HP5.out.frozen 1
 obtain ⟨r0, r1, r2, r3, r4, r5, r6⟩ := (HP5.out.step ((Below.refl _ _).drew)).cells
 rw [hn0] at r0
 have hL3 : (r'.length : Int) ≤ 100000 := by have := hs'.out; omega
 have hL4 : (0 : Int) ≤ (r'.length : Int) := by omega
 have hL5 : (r'.length : Int) < (r'.length : Int) + 1 := by omega
 have hL6 : (r'.length : Int) ≤ (r'.length : Int) + 1 := by omega
 have hwl : IntKind.i64.wrap (r'.length : Int) = (r'.length : Int) := by simp [IntKind.wrap_i64]; omega
 have hcap2 : (r'.length : Int) + 1 ≤ (cap : Int) := by omega
 have HQ7 : Aside0 (PB w0 g (if c = 1 then some ⟨tb, off, none⟩ else some ⟨tb, off + 4, none⟩) (c - 1) rest (.slice (some ⟨b, 0, none⟩) r'.length cap) r'.reverse _ (o') dp 0 p0 p1 ((wd.setCell ⟨g, 1, none⟩ (.slice (some ⟨b, 0, none⟩) r'.length cap)).setCell ⟨g, 0, none⟩ (.slice (if c = 1 then some ⟨tb, off, none⟩ else some ⟨tb, off + 4, none⟩) rest.length (c - 1)))) := ⟨HP5.out.popW.tail⟩
 have HF7 : Aside0 (((wd.setCell ⟨g, 1, none⟩ (.slice (some ⟨b, 0, none⟩) r'.length cap)).setCell ⟨g, 0, none⟩ (.slice (if c = 1 then some ⟨tb, off, none⟩ else some ⟨tb, off + 4, none⟩) rest.length (c - 1))).heap[bl]? = some (.cells #[.int .i64 last.f0, .string last.f1, .int .i64 last.f2, .int .i64 last.f3] 75)) := ⟨(Fr.grown (gst (gst (World.grownBy.refl wd (some g)) 1 _) 0 _) (fun k hk => by injection hk with hk; subst hk; exact ⟨_, _, HP5.out.blk, by decide⟩)) _ _ HB5.out⟩
 go_wp2_with fail
 go_region
 all_goals (
  generalize (if c = 1 then some (⟨tb, off, none⟩ : Addr) else some ⟨tb, off + 4, none⟩) = AA at *
  generalize (wd.setCell ⟨g, 1, none⟩ (.slice (some ⟨b, 0, none⟩) r'.length cap)).setCell ⟨g, 0, none⟩ (.slice AA rest.length (c - 1)) = wz at *
  have HQ9 := Aside0.mk ((HQ7.out.setD (dp - 1)).step ((Below.refl _ _).drew))
  have HF9 := Aside0.mk (Fr.below ((Below.refl _ _).drew) _ _ ((HQ7.out.fr (gst (World.grownBy.refl wz (some g)) 3 (.int .i64 (dp - 1)))) _ _ HF7.out))
  have HQ8 := Aside0.mk (HQ7.out.step ((Below.refl _ _).drew))
  clear c0 c1 c2 c3 c4 c5 c6 f0 f1 r0 r1 r2 r3 r4 r5 r6
  obtain ⟨c0, c1, c2, c3, c4, c5, c6⟩ := HQ7.out.cells
  have f3 := HQ7.out.frozen 3
  have f3' := HQ8.out.frozen 3
  obtain ⟨d0, d1, d2, d3, d4, d5, d6⟩ := HQ8.out.cells
  go_wp2_with fail
  go_step3
  show J 1 _ _
  exact hn.out _ _ ⟨rfl, rfl, rfl, rfl⟩ ⟨⟨_, _, _, _, HQ9.out⟩⟩ ⟨HF9.out⟩)
set_option maxHeartbeats 8000000 in
set_option maxRecDepth 100000 in
theorem cPShutF {t : Code} (hr : findLabel bodyC 1 = some (.seq .skip t)) {J : Nat → Act → World → Prop} {R : Ending → World → Prop} (w0 : World) (g bl : Nat) (last : S75) (f : Nat → Value) (A : Option Addr) (c : Nat) (tk : S75) (rest : List S75) (wv : Value) (r : List S82) (ov : Value) (o : List Nd) (dp e p0 p1 : Int) (W : World)
  (HP : Aside0 (PB w0 g A c (tk :: rest) wv r.reverse ov o dp e p0 p1 W)) (HB : Aside0 (W.heap[bl]? = some (.cells #[.int .i64 last.f0, .string last.f1, .int .i64 last.f2, .int .i64 last.f3] 75))) (he : e = 0) (hk : tk.f0 = 2) (ht : tk.f1 = ⟨#[41]⟩) (op0 rk0 : Int) (hop : parse_operator.f tk.f0 tk.f1 tk.f2 tk.f3 = some (op0, rk0)) (hrk : rk0 ≤ 0) (x : S82) (r' : List S82) (o' : List Nd) (hp : popR 1 r o = (x :: r', o')) (hs' : Aside0 (r'.length ≤ 100000)) (hso : Aside0 (o'.length ≤ 100000)) (hx2 : x.f2 ≤ 1) (kk : Nat) (hx0 : x.f0 = kk) (hdp1 : -100000 ≤ dp) (hdp2 : dp ≤ 100000) (hw : Aside0 (∀ x ∈ r, 1 ≤ x.f1 → 0 ≤ x.f0)) (hlen : Aside0 (r.length + o.length ≤ 100000))
  (hn : Aside0 (∀ (a' : Act) (W' : World), FrameOK g bl a' → Aside0 (∃ A' c' wv' ov', PB w0 g A' c' (rest) wv' (r').reverse ov' (o' ++ [.op kk]) (dp - 1) 0 p0 p1 W') → Aside0 (W'.heap[bl]? = some (.cells #[.int .i64 last.f0, .string last.f1, .int .i64 last.f2, .int .i64 last.f3] 75)) → J 1 a' W')) :
  t.wp Tryz.prog (AtLabel J (bodyPost Tryz.prog Tryz.f19 R)) (frm g bl f) W := by
 unfold frm
 injection (hr.symm.trans (rfl : findLabel bodyC 1 = some (.seq .skip _))) with hr'
 injection hr' with _ hr'
 subst hr'
 clear hr
 subst he
 have HOP : ∀ W, RowKit.Hid (Calls Tryz.prog 47 #[.agg #[.int .i64 tk.f0, .string tk.f1, .int .i64 tk.f2, .int .i64 tk.f3]] W fun ex w' => ex = .returned (.tuple #[.int .i64 op0, .int .i64 rk0]) ∧ Below W.heap.size W w') := fun W => Lib.hid (parse_operator.calls tk.f0 tk.f1 tk.f2 tk.f3 op0 rk0 W hop)
 have HPO : ∀ W', Below W.heap.size W W' → RowKit.Hid (Calls Tryz.prog 46 #[.pointer (some ⟨g, 0, none⟩), .int .i64 1] W' fun ex w' => ex = .returned (.tuple #[]) ∧ (∃ wv' ov', PB w0 g A c (tk :: rest) wv' (x :: r').reverse ov' o' dp 0 p0 p1 w') ∧ Fr W' w') := by
  intro W' hb
  have HPO := pop_at w0 g A c (tk :: rest) wv r ov o dp 0 p0 p1 W' (HP.out.step hb) 1 (by omega) (by omega) hw.out hlen.out
  rw [hp] at HPO
  exact Lib.hid HPO
 have hr0 : ¬ (0 : Int) < rk0 := by omega
 obtain ⟨c0, c1, c2, c3, c4, c5, c6⟩ := HP.out.cells
 obtain ⟨tb, off, hA, q0, q1, q2, q3⟩ := HP.out.head
 subst hA
 have hl : ¬ ((tk :: rest).length : Int) = 0 := by simp only [List.length_cons]; omega
 have hl2 : (0 : Int) < ((tk :: rest).length : Int) := by simp only [List.length_cons]; omega
 have hl3 : (1 : Int) ≤ ((tk :: rest).length : Int) := by omega
 have hlc : (tk :: rest).length - 1 = rest.length := rfl
 have hcI : ((tk :: rest).length : Int) ≤ (c : Int) := by have := HP.out.hc; omega
 generalize hn0 : (tk :: rest).length = n at *
 have HKT := Aside0.mk (And.intro hk ht)
 clear hop hp hw hlen hk ht
 go_wp2_with fail
 refine (HOP _).out.mono ?_
 rintro ex wb ⟨rfl, hb⟩
 have HPO2 := HPO _ hb
 have HB1 := Aside0.mk (Fr.below hb _ _ HB.out)
 clear HOP HPO HB c0 c1 c2 c3 c4 c5 c6 q0 q1 q2 q3 hb
 go_wp2_with fail
 refine HPO2.out.mono ?_
 rintro ex wc ⟨rfl, ⟨wv', ov', hq2⟩, hf⟩
 have HP3 := Aside0.mk hq2
 have HB3 := Aside0.mk (hf _ _ HB1.out)
 clear HP HB1 HPO2 hf hq2
 obtain ⟨c0, c1, c2, c3, c4, c5, c6⟩ := HP3.out.cells
 have hrv : (x :: r').reverse = r'.reverse ++ [x] := List.reverse_cons
 have HQ0 := HP3.out
 rw [hrv] at HQ0
 obtain ⟨b, cap, hwv, hcap, x0, x1, x2⟩ := HQ0.last
 have HTO := Lib.hid (topYes_at w0 g _ c (tk :: rest) wv' r' x ov' o' dp 0 p0 p1 wc HQ0 hs'.out b cap hwv)
 have HP4 := Aside0.mk HQ0
 have HWV := Aside0.mk hwv
 have HXB : b < wc.heap.size := by
  obtain ⟨cells, hc⟩ := Kd.R_typed HQ0.wt b (by rw [hwv]; rfl)
  exact (Array.getElem?_eq_some_iff.1 hc).1
 clear HQ0 HP3 hrv hwv
 go_wp2_with fail
 refine HTO.out.mono ?_
 rintro ex wd ⟨rfl, hb⟩
 have HP5 := Aside0.mk (HP4.out.step hb)
 have HB5 := Aside0.mk (Fr.below hb _ _ HB3.out)
 have y0 := (below_cell hb ⟨b, r'.length * 3, none⟩ HXB).trans x0
 have y1 := (below_cell hb ⟨b, r'.length * 3 + 1, none⟩ HXB).trans x1
 have y2 := (below_cell hb ⟨b, r'.length * 3 + 2, none⟩ HXB).trans x2
 have hwv := HWV.out
 clear HWV
 subst hwv
 have HPK := peek2_at w0 g _ c (tk :: rest) _ _ ov' o' dp 0 p0 p1 wd HP5.out
 have hpk : hdT (tk :: rest) = tk.f1 := rfl
 rw [hpk, HKT.out.2] at HPK
 have HPK := Lib.hid HPK
 clear HP4 HB3 HTO x0 x1 x2 hb
 go_wp2_with fail
 refine HPK.out.mono ?_
 rintro ex we ⟨rfl, rfl⟩
 clear HPK
 obtain ⟨c0, c1, c2, c3, c4, c5, c6⟩ := HP5.out.cells
 rw [hx0] at y0
 clear hx0
 have HXB2 : b ≠ g := fun he => by have h1 := HP5.out.wt.1 b rfl; exact h1 he
 obtain ⟨s0, s1, s2, s3, s4, s5, s6⟩ := (HP5.out.step ((Below.refl _ _).drew)).cells
 have o2 := (HP5.out.step (((Below.refl wd.heap.size wd).alloc (Nat.le_refl _) (.cells #[.int .i64 (kk : Int), .string ⟨#[]⟩, .string ⟨#[]⟩, .string ⟨#[]⟩, .int .i64 0, .int .i64 0] 37)).drew)).cells.2.2.1
 have hbytes : ((o'.map nd37).length + 1) * 72 ≤ 140737488355328 := by rw [List.length_map]; have := hso.out; omega
 have HQD := Aside0.mk (HP5.out.step ((Below.refl _ _).drew))
 go_wp2_with fail
 go_region_law ((refine Kd.R_append_step k37 (w0 := w0) (W := wd.drew) w0.heap.size (by rfl) (.tmp 253) (.tmp 259) 24 37 (.agg #[.int .i64 0, .string ⟨#[]⟩, .string ⟨#[]⟩, .string ⟨#[]⟩, .int .i64 0, .int .i64 0]) 72 (by rfl) Tryz.underlying24 info37 (by rfl) (by decide) (by omega) ov' (o'.map nd37) (nd37 (.op kk)) [.int .i64 (kk : Int), .string ⟨#[]⟩, .string ⟨#[]⟩, .string ⟨#[]⟩, .int .i64 0, .int .i64 0] (fun k => k ≠ g) (fun _ => False) (by rfl) (by rfl) (k37_mkM _ _ _ (nd37 (.op kk))) (fun _ hk => hk.elim) (fun k hk => by have := HQD.out.lt; omega) HQD.out.ou HQD.out.bl HQD.out.bl.size hbytes ?_; intro v1 w1 hv1 hb1 hg1 ho1; have hl1 : (o'.map nd37 ++ [nd37 (.op kk)]).length = o'.length + 1 := (by simp); obtain ⟨Av, cv, hvv⟩ := Kd.R_slice hv1; rw [hl1] at hvv; subst hvv; have hk1 := (hg1.block g HQD.out.lt (fun hh => HQD.out.ou.1 _ hh.symm rfl)).trans HQD.out.blk; rw [hn0] at hk1; have hz1 : w1.frozen? ⟨g, 2, none⟩ = false := Lib.frozen_of_heap hk1 2; have hz0 : w1.frozen? ⟨g, 0, none⟩ = false := Lib.frozen_of_heap hk1 0; have hc1 : w1.cell? ⟨g, 2, none⟩ = some ov' := (by rw [Lib.cell_of_heap hk1]; rfl); have hcc0 := (Lib.cell_of_heap hk1 (j := 0)); have HK1 := Aside0.mk hk1; clear hk1))
 all_goals (
  have HQ6 := Aside0.mk (HQD.out.newO hb1 hg1 (out1 := o' ++ [.op kk]) (by rw [List.map_append]; exact hv1))
  have HF6 := Aside0.mk ((((Fr.below ((Below.refl wd.heap.size wd).drew)).trans (HQD.out.frO hg1)).trans (Fr.grown (gst (World.grownBy.refl w1 (some g)) 2 (.slice Av (o'.length + 1) cv)) (fun k hk => by injection hk with hk; subst hk; exact ⟨_, _, HK1.out, by decide⟩))) _ _ HB5.out)
  generalize w1.setCell ⟨g, 2, none⟩ (.slice Av (o'.length + 1) cv) = wt at *
  clear hb1 hg1 hv1 ho1 HK1 HQD hz1 hz0 hcc0 hc1 HP5 HB5 c0 c1 c2 c3 c4 c5 c6 s0 s1 s2 s3 s4 s5 s6 o2 y0 y1 y2
  obtain ⟨c0, c1, c2, c3, c4, c5, c6⟩ := HQ6.out.cells
  rw [hn0] at c0
  have f0 := HQ6.out.frozen 0
  have f1 := HQ6.out.frozen 1
  obtain ⟨r0, r1, r2, r3, r4, r5, r6⟩ := (HQ6.out.step ((Below.refl _ _).drew)).cells
  rw [hn0] at r0
  have hL3 : (r'.length : Int) ≤ 100000 := by have := hs'.out; omega
  have hL4 : (0 : Int) ≤ (r'.length : Int) := by omega
  have hL5 : (r'.length : Int) < (r'.length : Int) + 1 := by omega
  have hL6 : (r'.length : Int) ≤ (r'.length : Int) + 1 := by omega
  have hwl : IntKind.i64.wrap (r'.length : Int) = (r'.length : Int) := by simp [IntKind.wrap_i64]; omega
  have hcap2 : (r'.length : Int) + 1 ≤ (cap : Int) := by omega
  have HQ7 : Aside0 (PB w0 g (if c = 1 then some ⟨tb, off, none⟩ else some ⟨tb, off + 4, none⟩) (c - 1) rest (.slice (some ⟨b, 0, none⟩) r'.length cap) r'.reverse _ (o' ++ [.op kk]) dp 0 p0 p1 ((wt.setCell ⟨g, 1, none⟩ (.slice (some ⟨b, 0, none⟩) r'.length cap)).setCell ⟨g, 0, none⟩ (.slice (if c = 1 then some ⟨tb, off, none⟩ else some ⟨tb, off + 4, none⟩) rest.length (c - 1)))) := ⟨HQ6.out.popW.tail⟩
  have HF7 : Aside0 (((wt.setCell ⟨g, 1, none⟩ (.slice (some ⟨b, 0, none⟩) r'.length cap)).setCell ⟨g, 0, none⟩ (.slice (if c = 1 then some ⟨tb, off, none⟩ else some ⟨tb, off + 4, none⟩) rest.length (c - 1))).heap[bl]? = some (.cells #[.int .i64 last.f0, .string last.f1, .int .i64 last.f2, .int .i64 last.f3] 75)) := ⟨(Fr.grown (gst (gst (World.grownBy.refl wt (some g)) 1 _) 0 _) (fun k hk => by injection hk with hk; subst hk; exact ⟨_, _, HQ6.out.blk, by decide⟩)) _ _ HF6.out⟩
  go_wp2_with fail
  go_region
  all_goals (
   generalize (if c = 1 then some (⟨tb, off, none⟩ : Addr) else some ⟨tb, off + 4, none⟩) = AA at *
   generalize (wt.setCell ⟨g, 1, none⟩ (.slice (some ⟨b, 0, none⟩) r'.length cap)).setCell ⟨g, 0, none⟩ (.slice AA rest.length (c - 1)) = wz at *
   have HQ9 := Aside0.mk ((HQ7.out.setD (dp - 1)).step ((Below.refl _ _).drew))
   have HF9 := Aside0.mk (Fr.below ((Below.refl _ _).drew) _ _ ((HQ7.out.fr (gst (World.grownBy.refl wz (some g)) 3 (.int .i64 (dp - 1)))) _ _ HF7.out))
   have HQ8 := Aside0.mk (HQ7.out.step ((Below.refl _ _).drew))
   clear c0 c1 c2 c3 c4 c5 c6 f0 f1 r0 r1 r2 r3 r4 r5 r6
   obtain ⟨c0, c1, c2, c3, c4, c5, c6⟩ := HQ7.out.cells
   have f3 := HQ7.out.frozen 3
   have f3' := HQ8.out.frozen 3
   obtain ⟨d0, d1, d2, d3, d4, d5, d6⟩ := HQ8.out.cells
   go_wp2_with fail
   go_step3
   show J 1 _ _
   exact hn.out _ _ ⟨rfl, rfl, rfl, rfl⟩ ⟨⟨_, _, _, _, HQ9.out⟩⟩ ⟨HF9.out⟩))
def JR (w0 : World) (g bl : Nat) (last : S75) (RES : Res) (k l : Nat) (a : Act) (W : World) : Prop :=
 (l = 0 ∨ l = 1) ∧ FrameOK g bl a ∧ Aside0 (W.heap[bl]? = some (.cells #[.int .i64 last.f0, .string last.f1, .int .i64 last.f2, .int .i64 last.f3] 75)) ∧
 ∃ (toks : List S75) (r : List S82) (o : List Nd) (dp e p0 p1 : Int) (A : Option Addr) (c : Nat) (wv ov : Value), Aside0 (PB w0 g A c toks wv r.reverse ov o dp e p0 p1 W) ∧
   ((e ≠ 0 ∧ RES = .err e p0 p1) ∨ (e = 0 ∧ Aside0 (Run last k (decide (l = 0)) toks r o dp RES) ∧ Aside0 (r.length + o.length + toks.length ≤ 50000 ∧ dp + toks.length ≤ 50000 ∧ -50000 + (toks.length : Int) ≤ dp) ∧ Aside0 (∀ x ∈ r, 1 ≤ x.f1 → 0 ≤ x.f0)))
theorem op41 (t : S75) (hk : t.f0 = 2) (ht : t.f1 = ⟨#[41]⟩) : parse_operator.f t.f0 t.f1 t.f2 t.f3 = some (0, 0) := by
 rw [hk, ht]
 unfold parse_operator.f
 simp [ByteArray.toList_eq]
theorem retOK {w0 : World} {g : Nat} {RES : Res} {a : Act} {W : World} (hd : a.defers = []) (h : PostR w0 g RES W) : bodyPost Tryz.prog Tryz.f19 (fun ex w' => ex = .returned (.tuple #[]) ∧ PostR w0 g RES w') .ret a W :=
 bodyPost_ret (v := .tuple #[]) (by simp [results, Tryz.f19, go_sem]) hd ⟨rfl, h⟩
theorem pass1 {t0 t1 : Code} (hr0 : findLabel bodyC 0 = some (.seq .skip t0)) (hr1 : findLabel bodyC 1 = some (.seq .skip t1)) (w0 : World) (g bl : Nat) (last : S75) (RES : Res) (HG : Glob w0) (hla : 0 ≤ last.f3 ∧ last.f3 + last.f1.size ≤ 1000000) (k K : Nat) (a : Act) (W : World) (hkK : k ≤ K) (hj : JR w0 g bl last RES k 1 a W) : t1.wp Tryz.prog (AtLabel (fun l' a' w' => ∃ k', k' < K ∧ JR w0 g bl last RES k' l' a' w') (bodyPost Tryz.prog Tryz.f19 (fun ex w' => ex = .returned (.tuple #[]) ∧ PostR w0 g RES w'))) a W := by
 obtain ⟨_, hf, hb, toks, r, o, dp, e, p0, p1, A, c, wv, ov, hP, hh⟩ := hj
 obtain ⟨f, rfl⟩ := frame_of hf
 rcases hh with ⟨he, hres⟩ | ⟨rfl, hR, hS, hw⟩
 ·subst hres
  exact cErr1 hr1 w0 g bl last f A c toks wv r ov o dp e p0 p1 W hP hb he ⟨fun a' hd => retOK hd ⟨_, _, _, _, _, _, _, _, hP.out⟩⟩
 ·obtain ⟨s1, s2, s3⟩ := hS.out
  have hR := hR.out
  have hd : decide ((1 : Nat) = 0) = false := rfl
  rw [hd] at hR
  cases hR with
  | pEnd k r o dp o' h =>
    exact cPEnd hr1 w0 g bl last f A c wv r ov o dp 0 p0 p1 W hP hb rfl o' h hw ⟨by omega⟩ ⟨fun a' W' hd hp => by obtain ⟨A', c', toks', wv', wait', ov', hp⟩ := hp.out; exact retOK hd ⟨_, _, _, _, _, _, _, _, _, hp⟩⟩
  | pEndW k r o dp x r' o' h =>
    exact cPEndW hr1 w0 g bl last f A c wv r ov o dp 0 p0 p1 W hP hb rfl x r' o' h hw ⟨by omega⟩ ⟨hla⟩ ⟨fun a' W' hd hp => by obtain ⟨A', c', toks', wv', wait', ov', hp⟩ := hp.out; exact retOK hd ⟨_, _, _, _, _, _, _, _, hp⟩⟩
  | pOp k t rest r o dp R op rank r' o' ho hop hr hr2 hp h =>
    have hl := popR_len rank r o
    rw [hp] at hl
    simp only [List.length_cons] at s1 s2 s3 hl
    refine cPOp hr1 w0 g bl last f A c t rest wv r ov o dp 0 p0 p1 W hP hb rfl op rank ho hr hr2 r' o' hp ⟨by omega⟩ hw ⟨by omega⟩ ⟨fun a' W' hf' hp' hb' => ?_⟩
    obtain ⟨A', c', wv', ov', hp'⟩ := hp'.out
    exact ⟨k, by omega, .inl rfl, hf', hb', rest, _, _, _, _, _, _, A', c', wv', ov', ⟨hp'⟩, .inr ⟨rfl, ⟨h⟩, ⟨by simp only [List.length_cons]; omega⟩, ⟨fun x hx hx1 => by
     rcases List.mem_cons.1 hx with rfl | hx
     ·exact hop
     ·exact hw.out x (popR_mem rank r o x (by rw [hp]; exact hx)) hx1⟩⟩⟩
  | pShutP k t rest r o dp R x r' o' hk ht hp hx hx0 h =>
    have hl := popR_len 1 r o
    rw [hp] at hl
    simp only [List.length_cons] at s1 s2 s3 hl
    refine cPShutP hr1 w0 g bl last f A c t rest wv r ov o dp 0 p0 p1 W hP hb rfl hk ht 0 0 (op41 t hk ht) (by omega) x r' o' hp ⟨by omega⟩ ⟨by omega⟩ hx hx0 (by omega) (by omega) hw ⟨by omega⟩ ⟨fun a' W' hf' hp' hb' => ?_⟩
    obtain ⟨A', c', wv', ov', hp'⟩ := hp'.out
    exact ⟨k, by omega, .inr rfl, hf', hb', rest, _, _, _, _, _, _, A', c', wv', ov', ⟨hp'⟩, .inr ⟨rfl, ⟨h⟩, ⟨by omega⟩, ⟨fun y hy hy1 => hw.out y (popR_mem 1 r o y (by rw [hp]; exact List.mem_cons_of_mem _ hy)) hy1⟩⟩⟩
  | pShutF k t rest r o dp R x r' o' kk hk ht hp hx hx0 h =>
    have hl := popR_len 1 r o
    rw [hp] at hl
    simp only [List.length_cons] at s1 s2 s3 hl
    refine cPShutF hr1 w0 g bl last f A c t rest wv r ov o dp 0 p0 p1 W hP hb rfl hk ht 0 0 (op41 t hk ht) (by omega) x r' o' hp ⟨by omega⟩ ⟨by omega⟩ hx kk hx0 (by omega) (by omega) hw ⟨by omega⟩ ⟨fun a' W' hf' hp' hb' => ?_⟩
    obtain ⟨A', c', wv', ov', hp'⟩ := hp'.out
    exact ⟨k, by omega, .inr rfl, hf', hb', rest, _, _, _, _, _, _, A', c', wv', ov', ⟨hp'⟩, .inr ⟨rfl, ⟨h⟩, ⟨by rw [List.length_append]; simp only [List.length_cons, List.length_nil]; omega⟩, ⟨fun y hy hy1 => hw.out y (popR_mem 1 r o y (by rw [hp]; exact List.mem_cons_of_mem _ hy)) hy1⟩⟩⟩
theorem pass0 {t0 t1 : Code} (hr0 : findLabel bodyC 0 = some (.seq .skip t0)) (hr1 : findLabel bodyC 1 = some (.seq .skip t1)) (w0 : World) (g bl : Nat) (last : S75) (RES : Res) (HG : Glob w0) (hla : 0 ≤ last.f3 ∧ last.f3 + last.f1.size ≤ 1000000) (k K : Nat) (a : Act) (W : World) (hkK : k ≤ K) (H1 : ∀ k' a w, k' < k → JR w0 g bl last RES k' 1 a w → t1.wp Tryz.prog (AtLabel (fun l' a' w' => ∃ k', k' < K ∧ JR w0 g bl last RES k' l' a' w') (bodyPost Tryz.prog Tryz.f19 (fun ex w' => ex = .returned (.tuple #[]) ∧ PostR w0 g RES w'))) a w) (hj : JR w0 g bl last RES k 0 a W) : t0.wp Tryz.prog (AtLabel (fun l' a' w' => ∃ k', k' < K ∧ JR w0 g bl last RES k' l' a' w') (bodyPost Tryz.prog Tryz.f19 (fun ex w' => ex = .returned (.tuple #[]) ∧ PostR w0 g RES w'))) a W := by
 obtain ⟨_, hf, hb, toks, r, o, dp, e, p0, p1, A, c, wv, ov, hP, hh⟩ := hj
 obtain ⟨f, rfl⟩ := frame_of hf
 rcases hh with ⟨he, hres⟩ | ⟨rfl, hR, hS, hw⟩
 ·subst hres
  exact cErr0 hr0 w0 g bl last f A c toks wv r ov o dp e p0 p1 W hP hb he ⟨fun a' hd => retOK hd ⟨_, _, _, _, _, _, _, _, hP.out⟩⟩
 ·obtain ⟨s1, s2, s3⟩ := hS.out
  have hR := hR.out
  have hd : decide ((0 : Nat) = 0) = true := rfl
  rw [hd] at hR
  cases hR with
  | oEnd k r o dp =>
    refine cOEnd hr0 hr1 w0 g bl last f A c wv r ov o dp 0 p0 p1 W hP hb rfl ⟨hla⟩ ⟨fun a' W' hf' hp' hb' => ?_⟩
    obtain ⟨A', c', wv', ov', hp'⟩ := hp'.out
    exact H1 k a' W' (by omega) ⟨.inr rfl, hf', hb', _, _, _, _, _, _, _, A', c', wv', ov', ⟨hp'⟩, .inl ⟨by decide, rfl⟩⟩
  | oNum k t rest r o dp R z d hk hn h =>
    simp only [List.length_cons] at s1 s2 s3
    refine cONum hr0 hr1 w0 g bl last f A c t rest wv r ov o dp 0 p0 p1 W hP hb rfl hk z d ⟨hn⟩ ⟨HG⟩ ⟨by omega⟩ ⟨fun a' W' hf' hp' hb' => ?_⟩
    obtain ⟨A', c', wv', ov', hp'⟩ := hp'.out
    exact H1 k a' W' (by omega) ⟨.inr rfl, hf', hb', _, _, _, _, _, _, _, A', c', wv', ov', ⟨hp'⟩, .inr ⟨rfl, ⟨h⟩, ⟨by simp only [List.length_cons, List.length_append, List.length_nil]; omega⟩, hw⟩⟩
  | oNeg k t rest r o dp R hk ht h =>
    simp only [List.length_cons] at s1 s2 s3
    refine cONeg hr0 hr1 w0 g bl last f A c t rest wv r ov o dp 0 p0 p1 W hP hb rfl hk ht ⟨by omega⟩ ⟨fun a' W' hf' hp' hb' => ?_⟩
    obtain ⟨A', c', wv', ov', hp'⟩ := hp'.out
    exact ⟨k, by omega, .inl rfl, hf', hb', _, _, _, _, _, _, _, A', c', wv', ov', ⟨hp'⟩, .inr ⟨rfl, ⟨h⟩, ⟨by simp only [List.length_cons, List.length_append, List.length_nil]; omega⟩, ⟨fun x hx hx1 => by
     rcases List.mem_cons.1 hx with rfl | hx
     ·first | decide | (exact absurd hx1 (by decide))
     ·exact hw.out x hx hx1⟩⟩⟩
  | oPar k t rest r o dp R hk ht hd h =>
    simp only [List.length_cons] at s1 s2 s3
    refine cOPar hr0 hr1 w0 g bl last f A c t rest wv r ov o dp 0 p0 p1 W hP hb rfl hk ht ⟨by omega⟩ ⟨by omega⟩ ⟨fun a' W' hf' hp' hb' => ?_⟩
    obtain ⟨A', c', wv', ov', hp'⟩ := hp'.out
    exact ⟨k, by omega, .inl rfl, hf', hb', _, _, _, _, _, _, _, A', c', wv', ov', ⟨hp'⟩, .inr ⟨rfl, ⟨h⟩, ⟨by simp only [List.length_cons, List.length_append, List.length_nil]; omega⟩, ⟨fun x hx hx1 => by
     rcases List.mem_cons.1 hx with rfl | hx
     ·first | decide | (exact absurd hx1 (by decide))
     ·exact hw.out x hx hx1⟩⟩⟩
  | oDeep k t rest r o dp hk ht hd =>
    simp only [List.length_cons] at s1 s2 s3
    refine cODeep hr0 hr1 w0 g bl last f A c t rest wv r ov o dp 0 p0 p1 W hP hb rfl hk ht ⟨by omega⟩ ⟨by omega⟩ ⟨hla⟩ ⟨fun a' W' hf' hp' hb' => ?_⟩
    obtain ⟨A', c', wv', ov', hp'⟩ := hp'.out
    exact ⟨k, by omega, .inl rfl, hf', hb', _, _, _, _, _, _, _, A', c', wv', ov', ⟨hp'⟩, .inl ⟨by decide, rfl⟩⟩
  | oPx k t0 t1 t2 t3 t4 t5 rest r o dp R n k0 k1 k2 k3 k4 hn k5 h =>
    simp only [List.length_cons] at s1 s2 s3
    refine cOPx hr0 hr1 w0 g bl last f A c t0 t1 t2 t3 t4 t5 rest wv r ov o dp 0 p0 p1 W hP hb rfl k0 k1 k2 k3 n k4 hn k5 ⟨by omega⟩ ⟨fun a' W' hf' hp' hb' => ?_⟩
    obtain ⟨A', c', wv', ov', hp'⟩ := hp'.out
    exact H1 k a' W' (by omega) ⟨.inr rfl, hf', hb', _, _, _, _, _, _, _, A', c', wv', ov', ⟨hp'⟩, .inr ⟨rfl, ⟨h⟩, ⟨by simp only [List.length_cons, List.length_append, List.length_nil]; omega⟩, hw⟩⟩
  | oMax k t0 t rest r o dp R k0 hk ht hd h =>
    simp only [List.length_cons] at s1 s2 s3
    refine cOMax hr0 hr1 w0 g bl last f A c t0 t rest wv r ov o dp 0 p0 p1 W hP hb rfl k0 hk ht ⟨by omega⟩ ⟨by omega⟩ ⟨fun a' W' hf' hp' hb' => ?_⟩
    obtain ⟨A', c', wv', ov', hp'⟩ := hp'.out
    exact ⟨k, by omega, .inl rfl, hf', hb', _, _, _, _, _, _, _, A', c', wv', ov', ⟨hp'⟩, .inr ⟨rfl, ⟨h⟩, ⟨by simp only [List.length_cons, List.length_append, List.length_nil]; omega⟩, ⟨fun x hx hx1 => by
     rcases List.mem_cons.1 hx with rfl | hx
     ·first | decide | (exact absurd hx1 (by decide))
     ·exact hw.out x hx hx1⟩⟩⟩
  | oBad k t rest r o dp hk hbb ht =>
    refine cOBadName hr0 hr1 w0 g bl last f A c t rest wv r ov o dp 0 p0 p1 W hP hb rfl hk hbb ht ⟨hla⟩ ⟨fun a' W' hf' hp' hb' => ?_⟩
    obtain ⟨A', c', wv', ov', hp'⟩ := hp'.out
    exact H1 k a' W' (by omega) ⟨.inr rfl, hf', hb', _, _, _, _, _, _, _, A', c', wv', ov', ⟨hp'⟩, .inl ⟨by decide, rfl⟩⟩
  | oSign k t rest r o dp hk ht ht2 =>
    refine cOBadSign hr0 hr1 w0 g bl last f A c t rest wv r ov o dp 0 p0 p1 W hP hb rfl hk ht ht2 ⟨hla⟩ ⟨fun a' W' hf' hp' hb' => ?_⟩
    obtain ⟨A', c', wv', ov', hp'⟩ := hp'.out
    exact H1 k a' W' (by omega) ⟨.inr rfl, hf', hb', _, _, _, _, _, _, _, A', c', wv', ov', ⟨hp'⟩, .inl ⟨by decide, rfl⟩⟩
set_option maxHeartbeats 8000000 in
set_option maxRecDepth 100000 in
theorem run_at (w0 : World) (g : Nat) (A : Option Addr) (c : Nat) (toks : List S75) (w : World) (k : Nat) (last : S75) (RES : Res) (h : PB w0 g A c toks (.slice none 0 0) [] (.slice none 0 0) [] 0 0 0 0 w) (hg : Glob w0)
  (hlast : (toks = [] ∧ last = ⟨0, ⟨#[]⟩, 1, 1⟩) ∨ (∃ pre, toks = pre ++ [last])) (hla : 0 ≤ last.f3 ∧ last.f3 + last.f1.size ≤ 1000000) (hlen : toks.length ≤ 40000) (hrun : Run last k true toks [] [] 0 RES) :
  Calls Tryz.prog 19 #[.pointer (some ⟨g, 0, none⟩)] w fun ex w' => ex = .returned (.tuple #[]) ∧ PostR w0 g RES w' := by
 obtain ⟨t0, hr0⟩ := lab0_ex
 obtain ⟨t1, hr1⟩ := lab1_ex
 have HP := Aside0.mk h
 have HG := Aside0.mk hg
 have HR := Aside0.mk hrun
 have HL := Aside0.mk hlen
 have HLA := Aside0.mk hla
 obtain ⟨c0, c1, c2, c3, c4, c5, c6⟩ := h.cells
 clear h hg hrun hla
 go_enter Tryz.func19, Tryz.ntmps19
 refine scope_two2 (t0 := t0) (t1 := t1) ?h0 ?h1 (JR w0 g w.heap.size last RES) (fun k l a w h => h.1) (fun k K a W hk hj => pass1 hr0 hr1 w0 g w.heap.size last RES HG.out HLA.out k K a W hk hj) (fun k K a W hk H1 hj => pass0 hr0 hr1 w0 g w.heap.size last RES HG.out HLA.out k K a W hk H1 hj) ?first
 case h0 => exact hr0
 case h1 => exact hr1
 case first =>
  intro H0
  injection (hr0.symm.trans (rfl : findLabel bodyC 0 = some (.seq .skip _))) with hr0'
  injection hr0' with _ hr0'
  have HR0 := Aside0.mk hr0'
  have HH := Aside0.mk H0
  clear hr0 hr1 hr0' H0
  rcases hlast with ⟨rfl, rfl⟩ | ⟨pre, rfl⟩
  ·have HBL := Aside0.mk (World.alloc_heap_new w (.cells #[.int .i64 0, .string ⟨#[]⟩, .int .i64 1, .int .i64 1] 75))
   have HP1 := Aside0.mk (HP.out.step ((Below.refl w.heap.size w).alloc (Nat.le_refl _) (.cells #[.int .i64 0, .string ⟨#[]⟩, .int .i64 1, .int .i64 1] 75)))
   have hl0 : (([] : List S75)).length = 0 := rfl
   have d0 := HP1.out.cells.1
   rw [hl0] at d0
   clear c0 c1 c2 c3 c4 c5 c6
   go_wp2_with fail
   refine at_label (by assumption) ?_
   have hh := HR0.out
   subst hh
   exact HH.out k _ _ ⟨.inl rfl, ⟨rfl, rfl, rfl, rfl⟩, HBL, [], [], [], 0, 0, 0, 0, _, _, _, _, HP1, .inr ⟨rfl, HR, ⟨by simp⟩, ⟨fun x hx => by cases hx⟩⟩⟩
  ·have hn1 : (pre ++ [last]).length = pre.length + 1 := by simp
   have htk := HP.out.tk
   obtain ⟨ad, hA, q0, q1, q2, q3⟩ := at_T75 htk (pre.length : Int) (by omega) (by rw [hn1]; omega)
   obtain ⟨tb, of, rfl, hlt⟩ := HP.out.ta ad hA
   have e0 : (Addr.add ⟨tb, of, none⟩ ((pre.length : Int).toNat * 4)) = ⟨tb, of + pre.length * 4, none⟩ := by
    simp [Addr.add]
    try (intros; omega)
   have hx : rd_T75 (pre ++ [last]) (pre.length : Int) = last := by
    unfold rd_T75
    rw [Int.toNat_natCast, List.getD_eq_getElem?_getD, List.getElem?_append_right (by simp)]
    simp
   rw [e0, hx] at q0 q1 q2 q3
   have HBL := Aside0.mk (World.alloc_heap_new w (.cells #[.int .i64 0, .string ⟨#[]⟩, .int .i64 1, .int .i64 1] 75))
   have hb1 := (Below.refl w.heap.size w).alloc (Nat.le_refl _) (.cells #[.int .i64 0, .string ⟨#[]⟩, .int .i64 1, .int .i64 1] 75)
   have HP1 := Aside0.mk (HP.out.step hb1)
   have q0 := (below_cell HP1.out.bl ⟨tb, of + pre.length * 4, none⟩ hlt).trans q0
   have q1 := (below_cell HP1.out.bl ⟨tb, of + pre.length * 4 + 1, none⟩ hlt).trans q1
   have q2 := (below_cell HP1.out.bl ⟨tb, of + pre.length * 4 + 2, none⟩ hlt).trans q2
   have q3 := (below_cell HP1.out.bl ⟨tb, of + pre.length * 4 + 3, none⟩ hlt).trans q3
   subst hA
   have hL3 : (pre.length : Int) ≤ 100000 := by omega
   have hL4 : (0 : Int) ≤ (pre.length : Int) := by omega
   have hL5 : (pre.length : Int) < (pre.length : Int) + 1 := by omega
   have hwl : IntKind.i64.wrap (pre.length : Int) = (pre.length : Int) := by simp [IntKind.wrap_i64]; omega
   have hn0 : (0 : Int) < (pre.length : Int) + 1 := by omega
   have HLN := Aside0.mk hlen
   rw [hn1] at c0
   have HN1 := Aside0.mk hn1
   clear hlen hb1 hlt hn1 e0 hx htk c1 c2 c3 c4 c5 c6
   have d0 := HP1.out.cells.1
   rw [HN1.out] at d0
   have l0 : (w.alloc (.cells #[.int .i64 0, .string ⟨#[]⟩, .int .i64 1, .int .i64 1] 75)).frozen? ⟨w.heap.size, 0, none⟩ = false := Lib.frozen_of_heap HBL.out 0
   go_wp2_with fail
   go_region
   have HP2 := Aside0.mk (HP.out.step (((Below.refl w.heap.size w).alloc (Nat.le_refl _) (.cells #[.int .i64 last.f0, .string last.f1, .int .i64 last.f2, .int .i64 last.f3] 75)).drew))
   have HB2 : Aside0 (((w.alloc (.cells #[.int .i64 last.f0, .string last.f1, .int .i64 last.f2, .int .i64 last.f3] 75)).drew).heap[w.heap.size]? = some (.cells #[.int .i64 last.f0, .string last.f1, .int .i64 last.f2, .int .i64 last.f3] 75)) := ⟨World.alloc_heap_new w (.cells #[.int .i64 last.f0, .string last.f1, .int .i64 last.f2, .int .i64 last.f3] 75)⟩
   clear HP HP1 HBL d0 q0 q1 q2 q3 l0
   generalize (w.alloc (.cells #[.int .i64 last.f0, .string last.f1, .int .i64 last.f2, .int .i64 last.f3] 75)).drew = wz at *
   go_wp2_with fail
   refine at_label (by assumption) ?_
   have hh := HR0.out
   subst hh
   exact HH.out k _ _ ⟨.inl rfl, ⟨rfl, rfl, rfl, rfl⟩, HB2, pre ++ [last], [], [], 0, 0, 0, 0, _, _, _, _, HP2, .inr ⟨rfl, HR, ⟨by have := HLN.out; rw [HN1.out] at this ⊢; simp; omega⟩, ⟨fun x hx => by cases hx⟩⟩⟩
theorem R_form0 {α : Type} {d : Kd α} {e : Nat} {w : World} {base : Nat} {ok : Nat → Prop} {v : Value} {xs : List α} (h : Kd.R d e w base ok v xs) : ∃ A cap, v = .slice A xs.length cap ∧ xs.length ≤ cap ∧ (∀ ad, A = some ad → ∃ tb o, ad = ⟨tb, o, none⟩ ∧ tb < w.heap.size) ∧ Kd.C d w A xs.length xs := by
 obtain ⟨A, c, he, hl, hC⟩ := Kd.R_reads h
 obtain ⟨inner, ho⟩ := Kd.R_own h
 subst he
 refine ⟨A, c, rfl, hl, ?_, hC⟩
 rintro ad rfl
 rcases ho.2 with ⟨h1, _⟩ | ⟨g, cap, cur, h1, _, h2, _⟩
 ·cases h1
 ·injection h1 with h1
  injection h1 with h1
  exact ⟨g, 0, h1, (Array.getElem?_eq_some_iff.1 h2).1⟩
theorem lexOK_at (s : ByteArray) (w : World) (hs : s.size ≤ 20000) (T : List S75) (e l cc : Int) (hD : WW.lexD s = (T, e, l, cc)) :
  Calls Tryz.prog 18 #[.string s] w fun ex w' => ∃ A c, ex = .returned (.tuple #[.slice A T.length c, .int .i64 e, .int .i64 l, .int .i64 cc]) ∧ T.length ≤ c ∧ (∀ ad, A = some ad → ∃ tb o, ad = ⟨tb, o, none⟩ ∧ tb < w'.heap.size) ∧ Aside0 (Kd.C k75 w' A T.length T) ∧ Below w.heap.size w w' := by
 refine (WW.lex s w hs).mono ?_
 rw [hD]
 rintro ex w' ⟨v, rfl, hv, hb⟩
 obtain ⟨A, c, rfl, hc, hA, hC⟩ := R_form0 hv
 exact ⟨A, c, rfl, hc, hA, ⟨hC⟩, hb⟩
set_option maxHeartbeats 4000000 in
set_option maxRecDepth 100000 in
theorem parseErr_at (s : ByteArray) (hs : s.size ≤ 20000) (T : List S75) (hD : WW.lexD s = (T, 0, 0, 0)) (hT : T.length ≤ 40000) (last : S75) (hlast : (T = [] ∧ last = ⟨0, ⟨#[]⟩, 1, 1⟩) ∨ (∃ pre, T = pre ++ [last])) (hla : 0 ≤ last.f3 ∧ last.f3 + last.f1.size ≤ 1000000) (k : Nat) (e l cl : Int) (he : e ≠ 0) (hrun : Run last k true T [] [] 0 (.err e l cl)) (w : World) (hg : Glob w) :
  Calls Tryz.prog 10 #[.string s] w fun ex w' => ex = .returned (.tuple #[.slice none 0 0, .int .i64 e, .int .i64 l, .int .i64 cl]) ∧ Below w.heap.size w w' := by
 have HL := Lib.hid (lexOK_at s w hs T 0 0 0 hD)
 have HR := Aside0.mk (And.intro hT (And.intro hlast (And.intro hla hrun)))
 have HG := Aside0.mk hg
 clear hD hg hT hlast hla hrun
 go_enter Tryz.func10, Tryz.ntmps10
 go_wp2_with fail
 refine HL.out.mono ?_
 rintro ex w1 ⟨A, c, rfl, hc, hA, hC, hb⟩
 have HP : Aside0 (PB w1 w1.heap.size A c T (.slice none 0 0) [] (.slice none 0 0) [] 0 0 0 0 (w1.alloc (.cells #[.slice A T.length c, .slice none 0 0, .slice none 0 0, .int .i64 0, .int .i64 0, .int .i64 0, .int .i64 0] 51))) :=
  ⟨World.alloc_heap_new w1 _, hc, hC.out, hA, Kd.R_nil _ _ _ _ _, Kd.R_nil _ _ _ _ _, (Below.refl _ _).alloc (Nat.le_refl _) _, Nat.le_refl _, by have := HR.out.1; omega⟩
 have HRU := Lib.hid (run_at w1 w1.heap.size A c T _ k last _ HP.out (HG.out.below hb) HR.out.2.1 HR.out.2.2.1 HR.out.1 HR.out.2.2.2)
 have HB := Aside0.mk hb
 clear HP HL hc hA hC hb HR
 go_wp2_with fail
 refine HRU.out.mono ?_
 rintro ex w2 ⟨rfl, hpo⟩
 obtain ⟨A2, c2, T2, wv2, wait2, ov2, o2, dp2, hP2⟩ := hpo
 have HP2 := Aside0.mk hP2
 have HB2 := Aside0.mk (HB.out.trans (hP2.bl.mono HB.out.size))
 clear hP2 HRU HB
 obtain ⟨c0, c1, c2', c3, c4, c5, c6⟩ := HP2.out.cells
 go_wp2_with fail
 go_quiet (fail)
 go_wp2_with fail
 refine bodyPost_ret (WW.results_tmp4 rfl _ _ _) rfl ?_
 exact ⟨rfl, pw_below_drewN HB2.out _⟩
set_option maxHeartbeats 4000000 in
set_option maxRecDepth 100000 in
theorem parseOk_at (s : ByteArray) (hs : s.size ≤ 20000) (M : Nat) (hD' : DivTo M) (hM5 : 5 < M) (T : List S75) (hD : WW.lexD s = (T, 0, 0, 0)) (hT : T.length ≤ 40000) (last : S75) (hlast : (T = [] ∧ last = ⟨0, ⟨#[]⟩, 1, 1⟩) ∨ (∃ pre, T = pre ++ [last])) (hla : 0 ≤ last.f3 ∧ last.f3 + last.f1.size ≤ 1000000) (k : Nat) (o : List Nd) (hrun : Run last k true T [] [] 0 (.ok o)) (S : ByteArray) (D : Int) (hf : Frm M o S D) (hS0 : 0 < S.size) (hS : S.size ≤ 20000) (hDp : D ≤ 150) (w : World) (hg : Glob w) :
  Calls Tryz.prog 10 #[.string s] w fun ex w' => ∃ A c, ex = .returned (.tuple #[.slice A o.length c, .int .i64 0, .int .i64 0, .int .i64 0]) ∧ o.length ≤ c ∧ (∀ ad, A = some ad → ∃ tb of, ad = ⟨tb, of, none⟩ ∧ tb < w'.heap.size) ∧ Aside0 (Kd.C k37 w' A o.length (o.map nd37)) ∧ Below w.heap.size w w' := by
 have HCK := Aside0.mk (And.intro hD' (And.intro hM5 (And.intro hf (And.intro hS0 (And.intro hS hDp)))))
 clear hD' hM5 hf hS0 hS hDp
 have HL := Lib.hid (lexOK_at s w hs T 0 0 0 hD)
 have HR := Aside0.mk (And.intro hT (And.intro hlast (And.intro hla hrun)))
 have HG := Aside0.mk hg
 clear hD hg hT hlast hla hrun
 go_enter Tryz.func10, Tryz.ntmps10
 go_wp2_with fail
 refine HL.out.mono ?_
 rintro ex w1 ⟨A, c, rfl, hc, hA, hC, hb⟩
 have HP : Aside0 (PB w1 w1.heap.size A c T (.slice none 0 0) [] (.slice none 0 0) [] 0 0 0 0 (w1.alloc (.cells #[.slice A T.length c, .slice none 0 0, .slice none 0 0, .int .i64 0, .int .i64 0, .int .i64 0, .int .i64 0] 51))) :=
  ⟨World.alloc_heap_new w1 _, hc, hC.out, hA, Kd.R_nil _ _ _ _ _, Kd.R_nil _ _ _ _ _, (Below.refl _ _).alloc (Nat.le_refl _) _, Nat.le_refl _, by have := HR.out.1; omega⟩
 have HRU := Lib.hid (run_at w1 w1.heap.size A c T _ k last _ HP.out (HG.out.below hb) HR.out.2.1 HR.out.2.2.1 HR.out.1 HR.out.2.2.2)
 have HB := Aside0.mk hb
 clear HP HL hc hA hC hb HR
 go_wp2_with fail
 refine HRU.out.mono ?_
 rintro ex w2 ⟨rfl, hpo⟩
 obtain ⟨A2, c2, T2, wv2, wait2, ov2, dp2, p0, p1, hP2⟩ := hpo
 have HP2 := Aside0.mk hP2
 have HB2 := Aside0.mk (HB.out.trans (hP2.bl.mono HB.out.size))
 obtain ⟨B, cap, rfl, hcap, hBA, hC⟩ := R_form0 hP2.ou
 rw [List.length_map] at hcap hC
 have hlen0 : (o.map nd37).length = o.length := by simp
 rw [hlen0] at HP2
 have HC := Aside0.mk (And.intro hcap (And.intro hBA hC))
 have HK := termCheck_at M HCK.out.1 HCK.out.2.1 o S D HCK.out.2.2.1 HCK.out.2.2.2.1 B cap w2 hC hcap (fun ad e => by obtain ⟨tb, of, h1, h2⟩ := hBA ad e; rw [h1]; exact h2) ((HG.out.below HB.out).below hP2.bl)
 rw [if_pos ⟨HCK.out.2.2.2.2.1, HCK.out.2.2.2.2.2⟩] at HK
 have HK := Lib.hid HK
 clear hP2 HRU HB hcap hBA hC hlen0
 obtain ⟨d0, d1, d2, d3, d4, d5, d6⟩ := HP2.out.cells
 go_wp2_with fail
 refine HK.out.mono ?_
 rintro ex w3 ⟨rfl, hb3⟩
 have HP3 := Aside0.mk (HP2.out.step hb3)
 have HB3 := Aside0.mk (HB2.out.trans (hb3.mono HB2.out.size))
 have HC3 := Aside0.mk (And.intro HC.out.1 (And.intro (fun ad (e : B = some ad) => by obtain ⟨tb, of, h1, h2⟩ := HC.out.2.1 ad e; exact (⟨tb, of, h1, Nat.lt_of_lt_of_le h2 hb3.size⟩ : ∃ tb of, ad = ⟨tb, of, none⟩ ∧ tb < w3.heap.size)) (Kd.C_below HC.out.2.2 hb3)))
 clear HK HP2 HB2 HC hb3 d0 d1 d2 d3 d4 d5 d6
 obtain ⟨d0, d1, d2, d3, d4, d5, d6⟩ := HP3.out.cells
 go_wp2_with fail
 refine bodyPost_ret (WW.results_tmp4 rfl _ _ _) rfl ?_
 exact ⟨_, _, rfl, HC3.out.1, HC3.out.2.1, ⟨HC3.out.2.2⟩, HB3.out⟩
end Go.Proofs.YtjopepfemhckjaaGreatDoor.NW
end
