/-
  Part 30 of the proof of parseSums_holds: texts of this seat, put together.
-/
import Derived.Test.YtjopepfemhckjaaGreatDoorSu23
import Derived.Test.YtjopepfemhckjaaGreatDoorSu28
import Derived.Test.YtjopepfemhckjaaGreatDoorSu29
set_option linter.unusedVariables false
set_option linter.unusedSimpArgs false
section
namespace Go.Proofs.YtjopepfemhckjaaGreatDoor.NW
open Go.Proofs Go.RowKit Go.Shelf Go.Proofs.YtjopepfemhckjaaGreatDoor.PN Go.Proofs.YtjopepfemhckjaaGreatDoorW.PrintWords Go.Proofs.YtjopepfemhckjaaGreatDoor.PParseTells
theorem put2c {w : World} {b : Nat} {u v : Value} (c1 : w.cell? ⟨b, 0, none⟩ = some u) (c2 : w.cell? ⟨b, 1, none⟩ = some v) (x y : Value) :
  ((w.setCell ⟨b, 0, none⟩ x).setCell ⟨b, 1, none⟩ y).cell? ⟨b, 0, none⟩ = some x ∧ ((w.setCell ⟨b, 0, none⟩ x).setCell ⟨b, 1, none⟩ y).cell? ⟨b, 1, none⟩ = some y := by
 refine ⟨?_, ?_⟩
 ·rw [cell_other _ _ _ _ (by simp)]
  exact World.cell?_setCell_same' _ _ _ (by rw [c1]; rfl)
 ·exact World.cell?_setCell_same' _ _ _ (by rw [cell_other _ _ _ _ (by simp), c2]; rfl)
theorem below_of {P : Program} {f : FuncId} {args : Array Value} {w : World} {v : Value} (h : Calls P f args w fun e w' => e = .returned v ∧ Drawn0 w w') : Calls P f args w fun e w' => e = .returned v ∧ Below w.heap.size w w' :=
 h.mono fun e w' hh => ⟨hh.1, hh.2.below⟩
set_option maxHeartbeats 4000000 in
set_option maxRecDepth 100000 in
theorem rDiv_at (a b q r : ByteArray) (hMa : dR2_May.f 60 a = some true) (hMb : dR2_May.f 60 b = some true) (hb0 : (b.toList == ([48] : List UInt8)) = false) (hXa : dR2_amount.f a = some (a, false)) (hXb : dR2_amount.f b = some (b, false)) (hD : dR1_Div.f 60 a b = some (q, r, true)) (hW : dR2_with.f q false = some q) (w : World) :
  Calls Tryz.prog 199 #[.string a, .string b] w fun e w' => e = .returned (.tuple #[.string q, .string r, .bool true]) ∧ Below w.heap.size w w' := by
 have HMa := fun w => Lib.hid (below_of (dR2_May.calls 60 a true w hMa))
 have HMb := fun w => Lib.hid (below_of (dR2_May.calls 60 b true w hMb))
 have HXa := fun w => Lib.hid (below_of (dR2_amount.calls a a false w hXa))
 have HXb := fun w => Lib.hid (below_of (dR2_amount.calls b b false w hXb))
 have HD := fun w => Lib.hid (dR1_Div.calls 60 a b q r true w hD)
 have HW := fun w => Lib.hid (below_of (dR2_with.calls q false q w hW))
 clear hMa hMb hXa hXb hD hW
 go_enter Tryz.func199, Tryz.ntmps199
 go_wp2_with fail
 refine (HMa _).out.mono ?_
 rintro e w1 ⟨rfl, hb⟩
 have B1 := Aside0.mk hb
 clear hb
 go_wp2_with fail
 refine (HMb _).out.mono ?_
 rintro e w2 ⟨rfl, hb⟩
 have B2 := Aside0.mk (B1.out.trans (hb.mono B1.out.size))
 clear hb B1
 go_wp2_with fail
 refine (HXa _).out.mono ?_
 rintro e w3 ⟨rfl, hb⟩
 have B3 := Aside0.mk (B2.out.trans (hb.mono B2.out.size))
 clear hb B2
 go_wp2_with fail
 refine (HXb _).out.mono ?_
 rintro e w4 ⟨rfl, hb⟩
 have B4 := Aside0.mk (B3.out.trans (hb.mono B3.out.size))
 clear hb B3
 go_wp2_with fail
 refine (HD _).out.mono ?_
 rintro e w5 ⟨rfl, hb⟩
 have B5 := Aside0.mk (B4.out.trans (hb.mono B4.out.size))
 clear hb B4
 go_wp2_with fail
 refine (HW _).out.mono ?_
 rintro e w6 ⟨rfl, hb⟩
 have B6 := Aside0.mk (B5.out.trans (hb.mono B5.out.size))
 clear hb B5
 go_wp2_with fail
 refine bodyPost_ret (v := .tuple #[.string q, .string r, .bool true]) (by simp [results, Tryz.f199, go_sem]) rfl ?_
 exact ⟨rfl, B6.out⟩
set_option maxHeartbeats 4000000 in
set_option maxRecDepth 100000 in
theorem rMake_at (a b za g x y r1 r2 : ByteArray) (sg : Int) (hsg : 0 ≤ sg) (hMa : dR2_May.f 60 a = some true) (hMb : dR2_May.f 60 b = some true) (hb0 : (b.toList == ([48] : List UInt8)) = false) (hS : dR2_Sign.f 60 b = some sg) (hA : dR2_Abs.f 60 a = some za) (hG : dR1_Gcd.f 60 za b = some g)
  (HD1 : ∀ w, RowKit.Hid (Calls Tryz.prog 199 #[.string a, .string g] w fun e w' => e = .returned (.tuple #[.string x, .string r1, .bool true]) ∧ Below w.heap.size w w')) (HD2 : ∀ w, RowKit.Hid (Calls Tryz.prog 199 #[.string b, .string g] w fun e w' => e = .returned (.tuple #[.string y, .string r2, .bool true]) ∧ Below w.heap.size w w')) (w : World) :
  Calls Tryz.prog 168 #[.string a, .string b] w fun e w' => e = .returned (.tuple #[.agg #[.string x, .string y], .bool true]) ∧ Below w.heap.size w w' := by
 have HMa := fun w => Lib.hid (below_of (dR2_May.calls 60 a true w hMa))
 have HMb := fun w => Lib.hid (below_of (dR2_May.calls 60 b true w hMb))
 have HS := fun w => Lib.hid (below_of (dR2_Sign.calls 60 b sg w hS))
 have HA := fun w => Lib.hid (below_of (dR2_Abs.calls 60 a za w hA))
 have HG := fun w => Lib.hid (dR1_Gcd.calls 60 za b g w hG)
 have hs2 : ¬ sg < 0 := by omega
 have k0 := World.alloc_heap_new w (.cells #[.string ⟨#[]⟩, .string ⟨#[]⟩] 35)
 have B0 := Aside0.mk ((Below.refl w.heap.size w).alloc (Nat.le_refl _) (.cells #[.string ⟨#[]⟩, .string ⟨#[]⟩] 35))
 clear hMa hMb hS hA hG
 go_enter Tryz.func168, Tryz.ntmps168
 go_wp2_with fail
 generalize w.alloc (.cells #[.string ⟨#[]⟩, .string ⟨#[]⟩] 35) = w0 at *
 refine (HMa _).out.mono ?_
 rintro e w1 ⟨rfl, hb⟩
 have k1 := keptB hb k0
 have B1 := Aside0.mk (B0.out.trans (hb.mono B0.out.size))
 clear hb B0 k0
 go_wp2_with fail
 refine (HMb _).out.mono ?_
 rintro e w2 ⟨rfl, hb⟩
 have k2 := keptB hb k1
 have B2 := Aside0.mk (B1.out.trans (hb.mono B1.out.size))
 clear hb B1 k1
 go_wp2_with fail
 refine (HS _).out.mono ?_
 rintro e w3 ⟨rfl, hb⟩
 have k3 := keptB hb k2
 have B3 := Aside0.mk (B2.out.trans (hb.mono B2.out.size))
 clear hb B2 k2
 go_wp2_with fail
 refine (HA _).out.mono ?_
 rintro e w4 ⟨rfl, hb⟩
 have k4 := keptB hb k3
 have B4 := Aside0.mk (B3.out.trans (hb.mono B3.out.size))
 clear hb B3 k3
 go_wp2_with fail
 refine (HG _).out.mono ?_
 rintro e w5 ⟨rfl, hb⟩
 have k5 := keptB hb k4
 have B5 := Aside0.mk (B4.out.trans (hb.mono B4.out.size))
 clear hb B4 k4
 go_wp2_with fail
 refine (HD1 _).out.mono ?_
 rintro e w6 ⟨rfl, hb⟩
 have k6 := keptB hb k5
 have B6 := Aside0.mk (B5.out.trans (hb.mono B5.out.size))
 clear hb B5 k5
 go_wp2_with fail
 refine (HD2 _).out.mono ?_
 rintro e w7 ⟨rfl, hb⟩
 have k7 := keptB hb k6
 have B7 := Aside0.mk (B6.out.trans (hb.mono B6.out.size))
 clear hb B6 k6
 have c0 : w7.cell? ⟨w.heap.size, 0, none⟩ = some (.string ⟨#[]⟩) := by rw [Lib.cell_of_heap k7]; rfl
 have c1 : w7.cell? ⟨w.heap.size, 1, none⟩ = some (.string ⟨#[]⟩) := by rw [Lib.cell_of_heap k7]; rfl
 have f0 : w7.frozen? ⟨w.heap.size, 0, none⟩ = false := Lib.frozen_of_heap k7 0
 have f1 : w7.frozen? ⟨w.heap.size, 1, none⟩ = false := Lib.frozen_of_heap k7 1
 go_wp2_with fail
 obtain ⟨q1, q2⟩ := put2 k7 (.string x) (.string y)
 refine bodyPost_ret (v := .tuple #[.agg #[.string x, .string y], .bool true]) ?_ rfl ⟨rfl, (B7.out.setCell (by simp) _).setCell (by simp) _⟩
 simp [results, Tryz.f168, go_sem, q1, q2]
set_option maxHeartbeats 4000000 in
set_option maxRecDepth 100000 in
theorem rMul3_at (a b c d m n x y : ByteArray) (hMa : dR3_May.f 60 a b = some true) (hMb : dR3_May.f 60 c d = some true) (hm : dR2_Mul.f 60 a c = some m) (hn : dR1_Mul.f 60 b d = some n) (HK : ∀ w, RowKit.Hid (Calls Tryz.prog 168 #[.string m, .string n] w fun e w' => e = .returned (.tuple #[.agg #[.string x, .string y], .bool true]) ∧ Below w.heap.size w w')) (w : World) :
  Calls Tryz.prog 126 #[.agg #[.string a, .string b], .agg #[.string c, .string d]] w fun e w' => e = .returned (.agg #[.string x, .string y]) ∧ Below w.heap.size w w' := by
 have HMa := fun w => Lib.hid (dR3_May.calls 60 a b true w hMa)
 have HMb := fun w => Lib.hid (dR3_May.calls 60 c d true w hMb)
 have H2 := fun w => Lib.hid (dR2_Mul.calls 60 a c m w hm)
 have H1 := fun w => Lib.hid (dR1_Mul.calls 60 b d n w hn)
 have s1 : (w.alloc (.cells #[.string a, .string b] 35)).heap.size = w.heap.size + 1 := by simp
 have s2 : ((w.alloc (.cells #[.string a, .string b] 35)).alloc (.cells #[.string c, .string d] 35)).heap.size = w.heap.size + 2 := by simp
 have kx : (((w.alloc (.cells #[.string a, .string b] 35)).alloc (.cells #[.string c, .string d] 35)).alloc (.cells #[.string ⟨#[]⟩, .string ⟨#[]⟩] 35)).heap[w.heap.size]? = some (.cells #[.string a, .string b] 35) := (Lib.alloc_old _ _ _ (by first | (simp; done) | (simp; omega))).trans ((Lib.alloc_old _ _ _ (by first | (simp; done) | (simp; omega))).trans (World.alloc_heap_new w (.cells #[.string a, .string b] 35)))
 have ky : (((w.alloc (.cells #[.string a, .string b] 35)).alloc (.cells #[.string c, .string d] 35)).alloc (.cells #[.string ⟨#[]⟩, .string ⟨#[]⟩] 35)).heap[w.heap.size + 1]? = some (.cells #[.string c, .string d] 35) := by
  have h := World.alloc_heap_new (w.alloc (.cells #[.string a, .string b] 35)) (.cells #[.string c, .string d] 35)
  rw [s1] at h
  exact (Lib.alloc_old _ _ _ (by first | (simp; done) | (simp; omega))).trans h
 have kz : (((w.alloc (.cells #[.string a, .string b] 35)).alloc (.cells #[.string c, .string d] 35)).alloc (.cells #[.string ⟨#[]⟩, .string ⟨#[]⟩] 35)).heap[w.heap.size + 2]? = some (.cells #[.string ⟨#[]⟩, .string ⟨#[]⟩] 35) := by
  have h := World.alloc_heap_new ((w.alloc (.cells #[.string a, .string b] 35)).alloc (.cells #[.string c, .string d] 35)) (.cells #[.string ⟨#[]⟩, .string ⟨#[]⟩] 35)
  rw [s2] at h
  exact h
 have B0 := Aside0.mk (((((Below.refl w.heap.size w).alloc (Nat.le_refl _) (.cells #[.string a, .string b] 35)).alloc (by first | (simp; done) | (simp; omega)) (.cells #[.string c, .string d] 35)).alloc (by first | (simp; done) | (simp; omega)) (.cells #[.string ⟨#[]⟩, .string ⟨#[]⟩] 35)))
 clear hMa hMb hm hn s1 s2
 go_enter Tryz.func126, Tryz.ntmps126
 go_wp2_with fail
 generalize ((w.alloc (.cells #[.string a, .string b] 35)).alloc (.cells #[.string c, .string d] 35)).alloc (.cells #[.string ⟨#[]⟩, .string ⟨#[]⟩] 35) = w0 at *
 refine (HMa _).out.mono ?_
 rintro e w1 ⟨rfl, hb⟩
 have kx := keptB hb kx
 have ky := keptB hb ky
 have kz := keptB hb kz
 have B1 := Aside0.mk (B0.out.trans (hb.mono B0.out.size))
 have y0 : w1.cell? ⟨w.heap.size + 1, 0, none⟩ = some (.string c) := by rw [Lib.cell_of_heap ky]; rfl
 have y1 : w1.cell? ⟨w.heap.size + 1, 1, none⟩ = some (.string d) := by rw [Lib.cell_of_heap ky]; rfl
 clear hb B0
 go_wp2_with fail
 refine (HMb _).out.mono ?_
 rintro e w2 ⟨rfl, hb⟩
 have kx := keptB hb kx
 have ky := keptB hb ky
 have kz := keptB hb kz
 have HB2 := Aside0.mk (B1.out.trans (hb.mono B1.out.size))
 clear hb B1 y0 y1
 have hSB : ∀ w' : World, Below w2.heap.size w2 w' → w'.cell? ⟨w.heap.size, 0, none⟩ = some (.string a) ∧ w'.cell? ⟨w.heap.size, 1, none⟩ = some (.string b) ∧ w'.cell? ⟨w.heap.size + 1, 0, none⟩ = some (.string c) ∧ w'.cell? ⟨w.heap.size + 1, 1, none⟩ = some (.string d) := fun w' hb => by
  have k := keptB hb kx
  have k' := keptB hb ky
  exact ⟨by rw [Lib.cell_of_heap k]; rfl, by rw [Lib.cell_of_heap k]; rfl, by rw [Lib.cell_of_heap k']; rfl, by rw [Lib.cell_of_heap k']; rfl⟩
 have HB := Aside0.mk (Below.refl w2.heap.size w2)
 have HKZ := Aside0.mk kz
 obtain ⟨c0, c1, c2, c3⟩ := hSB w2 (Below.refl _ _)
 clear kx ky kz
 go_wp2_with fail
 go_region_held3 (fun w' : World => w'.cell? ⟨w.heap.size, 0, none⟩ = some (.string a) ∧ w'.cell? ⟨w.heap.size, 1, none⟩ = some (.string b) ∧ w'.cell? ⟨w.heap.size + 1, 0, none⟩ = some (.string c) ∧ w'.cell? ⟨w.heap.size + 1, 1, none⟩ = some (.string d)) (first | exact hSB _ (below_put (below_put (by repeat (first | (with_reducible first | exact HB.out | apply below_alloc | apply pw_below_drewN | apply below_drew1) | exact HB.out)) (by first | exact Nat.le_refl _ | omega) _ _) (by first | exact Nat.le_refl _ | omega) _ _) | exact hSB _ (below_put (by repeat (first | (with_reducible first | exact HB.out | apply below_alloc | apply pw_below_drewN | apply below_drew1) | exact HB.out)) (by first | exact Nat.le_refl _ | omega) _ _) | exact hSB _ (by repeat (first | (with_reducible first | exact HB.out | apply below_alloc | apply pw_below_drewN | apply below_drew1) | exact HB.out))) (first | (go_at_call 169; with_reducible refine (H2 _).out.mono ?_; rintro e w4 ⟨rfl, hb4⟩; obtain ⟨hc4, hf4⟩ := bcell hb4; have hz4 := hb4.size; (try simp at hz4); (try have hz4w2 : w2.heap.size < w4.heap.size := by omega); (try have hz4w5 : w5.heap.size < w4.heap.size := by omega); have n0 := Aside0.mk (below_step (by repeat (first | (with_reducible first | exact HB.out | apply below_alloc | apply pw_below_drewN | apply below_drew1) | exact HB.out)) hb4); clear HB hb4; have HB := n0; clear n0) | (go_at_call 170; with_reducible refine (H1 _).out.mono ?_; rintro e w5 ⟨rfl, hb5⟩; obtain ⟨hc5, hf5⟩ := bcell hb5; have hz5 := hb5.size; (try simp at hz5); (try have hz5w2 : w2.heap.size < w5.heap.size := by omega); (try have hz5w4 : w4.heap.size < w5.heap.size := by omega); have n0 := Aside0.mk (below_step (by repeat (first | (with_reducible first | exact HB.out | apply below_alloc | apply pw_below_drewN | apply below_drew1) | exact HB.out)) hb5); clear HB hb5; have HB := n0; clear n0) | (go_at_call 168; with_reducible refine (HK _).out.mono ?_; rintro e w6 ⟨rfl, hb6⟩; obtain ⟨hc6, hf6⟩ := bcell hb6; have hz6 := hb6.size; (try simp at hz6); (try have hz6w2 : w2.heap.size < w6.heap.size := by omega); (try have hz6w4 : w4.heap.size < w6.heap.size := by omega); (try have hz6w5 : w5.heap.size < w6.heap.size := by omega); have n0 := Aside0.mk (below_step (by repeat (first | (with_reducible first | exact HB.out | apply below_alloc | apply pw_below_drewN | apply below_drew1) | exact HB.out)) hb6); clear HB hb6; have HB := n0; clear n0))
 all_goals rename_i K hC hH
 all_goals refine hC _ _ ?_
 ·skip
  have hbW : Below w2.heap.size w2 (w6.alloc (.cells #[.string x, .string y] 35)) := below_alloc HB.out _
  have kb := World.alloc_heap_new w6 (.cells #[.string x, .string y] 35)
  have d0 : (w6.alloc (.cells #[.string x, .string y] 35)).cell? ⟨w6.heap.size, 0, none⟩ = some (.string x) := by rw [Lib.cell_of_heap kb]; rfl
  have d1 : (w6.alloc (.cells #[.string x, .string y] 35)).cell? ⟨w6.heap.size, 1, none⟩ = some (.string y) := by rw [Lib.cell_of_heap kb]; rfl
  clear kb
  have k := keptB hbW HKZ.out
  have c0 : (w6.alloc (.cells #[.string x, .string y] 35)).cell? ⟨w.heap.size + 1 + 1, 0, none⟩ = some (.string ⟨#[]⟩) := by rw [Lib.cell_of_heap k]; rfl
  have c1 : (w6.alloc (.cells #[.string x, .string y] 35)).cell? ⟨w.heap.size + 1 + 1, 1, none⟩ = some (.string ⟨#[]⟩) := by rw [Lib.cell_of_heap k]; rfl
  have f0 : (w6.alloc (.cells #[.string x, .string y] 35)).frozen? ⟨w.heap.size + 1 + 1, 0, none⟩ = false := Lib.frozen_of_heap k 0
  have f1 : (w6.alloc (.cells #[.string x, .string y] 35)).frozen? ⟨w.heap.size + 1 + 1, 1, none⟩ = false := Lib.frozen_of_heap k 1
  have hbF := Aside0.mk (HB2.out.trans (hbW.mono HB2.out.size))
  obtain ⟨q1, q2⟩ := put2c c0 c1 (.string x) (.string y)
  clear k hbW HB HKZ HB2 hSB hH hc4 hc5 hc6 hf4 hf5 hf6 hz4 hz5 hz6
  generalize (w6.alloc (.cells #[.string x, .string y] 35)) = W' at *
  go_wp2_with fail
  refine bodyPost_ret (v := .agg #[.string x, .string y]) ?_ rfl ⟨rfl, (hbF.out.setCell (by simp; try omega) _).setCell (by simp; try omega) _⟩
  simp [results, Tryz.f126, go_sem, q1, q2]
 ·skip
  have hbW : Below w2.heap.size w2 ((w6.setCell ⟨w5.heap.size, 0, none⟩ (.string x)).setCell ⟨w5.heap.size, 1, none⟩ (.string y)) := below_put (below_put HB.out (by first | exact Nat.le_refl _ | omega) _ _) (by first | exact Nat.le_refl _ | omega) _ _
  have e0 : w6.cell? ⟨w5.heap.size, 0, none⟩ = some (.string ⟨#[]⟩) := by
   repeat (first | rw [hc6 (w5.heap.size) 0 (by first | (simp; done) | omega | (simp; omega))] | rw [hc5 (w5.heap.size) 0 (by first | (simp; done) | omega | (simp; omega))] | rw [hc4 (w5.heap.size) 0 (by first | (simp; done) | omega | (simp; omega))])
   first | (rw [Lib.cell_of_heap (World.alloc_heap_new _ _)]; rfl) | (change (w2.alloc _).cell? _ = _; rw [Lib.cell_of_heap (World.alloc_heap_new _ _)]; rfl)
  have e1 : w6.cell? ⟨w5.heap.size, 1, none⟩ = some (.string ⟨#[]⟩) := by
   repeat (first | rw [hc6 (w5.heap.size) 1 (by first | (simp; done) | omega | (simp; omega))] | rw [hc5 (w5.heap.size) 1 (by first | (simp; done) | omega | (simp; omega))] | rw [hc4 (w5.heap.size) 1 (by first | (simp; done) | omega | (simp; omega))])
   first | (rw [Lib.cell_of_heap (World.alloc_heap_new _ _)]; rfl) | (change (w2.alloc _).cell? _ = _; rw [Lib.cell_of_heap (World.alloc_heap_new _ _)]; rfl)
  obtain ⟨d0, d1⟩ := put2c e0 e1 (.string x) (.string y)
  clear e0 e1
  have k := keptB hbW HKZ.out
  have c0 : ((w6.setCell ⟨w5.heap.size, 0, none⟩ (.string x)).setCell ⟨w5.heap.size, 1, none⟩ (.string y)).cell? ⟨w.heap.size + 1 + 1, 0, none⟩ = some (.string ⟨#[]⟩) := by rw [Lib.cell_of_heap k]; rfl
  have c1 : ((w6.setCell ⟨w5.heap.size, 0, none⟩ (.string x)).setCell ⟨w5.heap.size, 1, none⟩ (.string y)).cell? ⟨w.heap.size + 1 + 1, 1, none⟩ = some (.string ⟨#[]⟩) := by rw [Lib.cell_of_heap k]; rfl
  have f0 : ((w6.setCell ⟨w5.heap.size, 0, none⟩ (.string x)).setCell ⟨w5.heap.size, 1, none⟩ (.string y)).frozen? ⟨w.heap.size + 1 + 1, 0, none⟩ = false := Lib.frozen_of_heap k 0
  have f1 : ((w6.setCell ⟨w5.heap.size, 0, none⟩ (.string x)).setCell ⟨w5.heap.size, 1, none⟩ (.string y)).frozen? ⟨w.heap.size + 1 + 1, 1, none⟩ = false := Lib.frozen_of_heap k 1
  have hbF := Aside0.mk (HB2.out.trans (hbW.mono HB2.out.size))
  obtain ⟨q1, q2⟩ := put2c c0 c1 (.string x) (.string y)
  clear k hbW HB HKZ HB2 hSB hH hc4 hc5 hc6 hf4 hf5 hf6 hz4 hz5 hz6
  generalize ((w6.setCell ⟨w5.heap.size, 0, none⟩ (.string x)).setCell ⟨w5.heap.size, 1, none⟩ (.string y)) = W' at *
  go_wp2_with fail
  refine bodyPost_ret (v := .agg #[.string x, .string y]) ?_ rfl ⟨rfl, (hbF.out.setCell (by simp; try omega) _).setCell (by simp; try omega) _⟩
  simp [results, Tryz.f126, go_sem, q1, q2]
 ·skip
  have hbW : Below w2.heap.size w2 ((w6.setCell ⟨w4.heap.size, 0, none⟩ (.string x)).setCell ⟨w4.heap.size, 1, none⟩ (.string y)) := below_put (below_put HB.out (by first | exact Nat.le_refl _ | omega) _ _) (by first | exact Nat.le_refl _ | omega) _ _
  have e0 : w6.cell? ⟨w4.heap.size, 0, none⟩ = some (.string ⟨#[]⟩) := by
   repeat (first | rw [hc6 (w4.heap.size) 0 (by first | (simp; done) | omega | (simp; omega))] | rw [hc5 (w4.heap.size) 0 (by first | (simp; done) | omega | (simp; omega))] | rw [hc4 (w4.heap.size) 0 (by first | (simp; done) | omega | (simp; omega))])
   first | (rw [Lib.cell_of_heap (World.alloc_heap_new _ _)]; rfl) | (change (w2.alloc _).cell? _ = _; rw [Lib.cell_of_heap (World.alloc_heap_new _ _)]; rfl)
  have e1 : w6.cell? ⟨w4.heap.size, 1, none⟩ = some (.string ⟨#[]⟩) := by
   repeat (first | rw [hc6 (w4.heap.size) 1 (by first | (simp; done) | omega | (simp; omega))] | rw [hc5 (w4.heap.size) 1 (by first | (simp; done) | omega | (simp; omega))] | rw [hc4 (w4.heap.size) 1 (by first | (simp; done) | omega | (simp; omega))])
   first | (rw [Lib.cell_of_heap (World.alloc_heap_new _ _)]; rfl) | (change (w2.alloc _).cell? _ = _; rw [Lib.cell_of_heap (World.alloc_heap_new _ _)]; rfl)
  obtain ⟨d0, d1⟩ := put2c e0 e1 (.string x) (.string y)
  clear e0 e1
  have k := keptB hbW HKZ.out
  have c0 : ((w6.setCell ⟨w4.heap.size, 0, none⟩ (.string x)).setCell ⟨w4.heap.size, 1, none⟩ (.string y)).cell? ⟨w.heap.size + 1 + 1, 0, none⟩ = some (.string ⟨#[]⟩) := by rw [Lib.cell_of_heap k]; rfl
  have c1 : ((w6.setCell ⟨w4.heap.size, 0, none⟩ (.string x)).setCell ⟨w4.heap.size, 1, none⟩ (.string y)).cell? ⟨w.heap.size + 1 + 1, 1, none⟩ = some (.string ⟨#[]⟩) := by rw [Lib.cell_of_heap k]; rfl
  have f0 : ((w6.setCell ⟨w4.heap.size, 0, none⟩ (.string x)).setCell ⟨w4.heap.size, 1, none⟩ (.string y)).frozen? ⟨w.heap.size + 1 + 1, 0, none⟩ = false := Lib.frozen_of_heap k 0
  have f1 : ((w6.setCell ⟨w4.heap.size, 0, none⟩ (.string x)).setCell ⟨w4.heap.size, 1, none⟩ (.string y)).frozen? ⟨w.heap.size + 1 + 1, 1, none⟩ = false := Lib.frozen_of_heap k 1
  have hbF := Aside0.mk (HB2.out.trans (hbW.mono HB2.out.size))
  obtain ⟨q1, q2⟩ := put2c c0 c1 (.string x) (.string y)
  clear k hbW HB HKZ HB2 hSB hH hc4 hc5 hc6 hf4 hf5 hf6 hz4 hz5 hz6
  generalize ((w6.setCell ⟨w4.heap.size, 0, none⟩ (.string x)).setCell ⟨w4.heap.size, 1, none⟩ (.string y)) = W' at *
  go_wp2_with fail
  refine bodyPost_ret (v := .agg #[.string x, .string y]) ?_ rfl ⟨rfl, (hbF.out.setCell (by simp; try omega) _).setCell (by simp; try omega) _⟩
  simp [results, Tryz.f126, go_sem, q1, q2]
 ·skip
  have hbW : Below w2.heap.size w2 ((w6.setCell ⟨w2.heap.size, 0, none⟩ (.string x)).setCell ⟨w2.heap.size, 1, none⟩ (.string y)) := below_put (below_put HB.out (by first | exact Nat.le_refl _ | omega) _ _) (by first | exact Nat.le_refl _ | omega) _ _
  have e0 : w6.cell? ⟨w2.heap.size, 0, none⟩ = some (.string ⟨#[]⟩) := by
   repeat (first | rw [hc6 (w2.heap.size) 0 (by first | (simp; done) | omega | (simp; omega))] | rw [hc5 (w2.heap.size) 0 (by first | (simp; done) | omega | (simp; omega))] | rw [hc4 (w2.heap.size) 0 (by first | (simp; done) | omega | (simp; omega))])
   first | (rw [Lib.cell_of_heap (World.alloc_heap_new _ _)]; rfl) | (change (w2.alloc _).cell? _ = _; rw [Lib.cell_of_heap (World.alloc_heap_new _ _)]; rfl)
  have e1 : w6.cell? ⟨w2.heap.size, 1, none⟩ = some (.string ⟨#[]⟩) := by
   repeat (first | rw [hc6 (w2.heap.size) 1 (by first | (simp; done) | omega | (simp; omega))] | rw [hc5 (w2.heap.size) 1 (by first | (simp; done) | omega | (simp; omega))] | rw [hc4 (w2.heap.size) 1 (by first | (simp; done) | omega | (simp; omega))])
   first | (rw [Lib.cell_of_heap (World.alloc_heap_new _ _)]; rfl) | (change (w2.alloc _).cell? _ = _; rw [Lib.cell_of_heap (World.alloc_heap_new _ _)]; rfl)
  obtain ⟨d0, d1⟩ := put2c e0 e1 (.string x) (.string y)
  clear e0 e1
  have k := keptB hbW HKZ.out
  have c0 : ((w6.setCell ⟨w2.heap.size, 0, none⟩ (.string x)).setCell ⟨w2.heap.size, 1, none⟩ (.string y)).cell? ⟨w.heap.size + 1 + 1, 0, none⟩ = some (.string ⟨#[]⟩) := by rw [Lib.cell_of_heap k]; rfl
  have c1 : ((w6.setCell ⟨w2.heap.size, 0, none⟩ (.string x)).setCell ⟨w2.heap.size, 1, none⟩ (.string y)).cell? ⟨w.heap.size + 1 + 1, 1, none⟩ = some (.string ⟨#[]⟩) := by rw [Lib.cell_of_heap k]; rfl
  have f0 : ((w6.setCell ⟨w2.heap.size, 0, none⟩ (.string x)).setCell ⟨w2.heap.size, 1, none⟩ (.string y)).frozen? ⟨w.heap.size + 1 + 1, 0, none⟩ = false := Lib.frozen_of_heap k 0
  have f1 : ((w6.setCell ⟨w2.heap.size, 0, none⟩ (.string x)).setCell ⟨w2.heap.size, 1, none⟩ (.string y)).frozen? ⟨w.heap.size + 1 + 1, 1, none⟩ = false := Lib.frozen_of_heap k 1
  have hbF := Aside0.mk (HB2.out.trans (hbW.mono HB2.out.size))
  obtain ⟨q1, q2⟩ := put2c c0 c1 (.string x) (.string y)
  clear k hbW HB HKZ HB2 hSB hH hc4 hc5 hc6 hf4 hf5 hf6 hz4 hz5 hz6
  generalize ((w6.setCell ⟨w2.heap.size, 0, none⟩ (.string x)).setCell ⟨w2.heap.size, 1, none⟩ (.string y)) = W' at *
  go_wp2_with fail
  refine bodyPost_ret (v := .agg #[.string x, .string y]) ?_ rfl ⟨rfl, (hbF.out.setCell (by simp; try omega) _).setCell (by simp; try omega) _⟩
  simp [results, Tryz.f126, go_sem, q1, q2]
end Go.Proofs.YtjopepfemhckjaaGreatDoor.NW
end
section
set_option maxRecDepth 100000
namespace Go.Proofs.YtjopepfemhckjaaGreatDoor.NW
open Go.Proofs Go.RowKit Go.Shelf Go.Proofs.YtjopepfemhckjaaGreatDoor.PN Go.Proofs.YtjopepfemhckjaaGreatDoorW.PrintWords Go.Proofs.YtjopepfemhckjaaGreatDoor.PParseTells
theorem mulOK_lit (n m : Nat) (h0 : n ≠ 0) (h1 : n < 10000) (h2 : m ≠ 0) (h3 : m < 10000) (h4 : n * m ≠ 0) (h5 : n * m < 10000) (hn : (natS n).size ≤ 1000000) (hm : (natS m).size ≤ 1000000) (k : Nat) (hf : nat_mul.f k [(n : Int)] [(m : Int)] = some [((n * m : Nat) : Int)]) : MulOK n m := by
 intro w hg
 have H1 := Lib.hid (both_at n m hn hm w)
 have H2 : ∀ (w w' : World) (a b : Value), Below w.heap.size w w' → Glob w → LS w' a n → LS w' b m → RowKit.Hid (Calls Tryz.prog 210 #[a, b] w' fun e w2 => ∃ v, e = .returned v ∧ LS w2 v (n * m) ∧ Below w'.heap.size w' w2) := by
  intro w w' a b hb hg ha hb'
  obtain ⟨A, c, l, rfl, q1, q2, q3, q4⟩ := ha.ex
  obtain ⟨B, d, l', rfl, r1, r2, r3, r4⟩ := hb'.ex
  obtain rfl := q3.inj (isL.small h0 h1)
  obtain rfl := r3.inj (isL.small h2 h3)
  refine Lib.hid ((nat_mul.calls k A c _ B d _ _ w' q4 q1 r4 r1 hf).mono ?_)
  rintro e w2 ⟨v, rfl, hv, hb2⟩
  exact ⟨v, rfl, LS.of_V hv (isL.small h4 h5) ⟨1, by omega, by omega⟩, hb2⟩
 have HG := Aside0.mk hg
 clear hg hf hn hm h0 h1 h2 h3 h4 h5
 go_enter Tryz.func192, Tryz.ntmps192
 go_wp2_with fail
 refine H1.out.mono ?_
 rintro e w1 ⟨a, b, rfl, ha, hb, hb1⟩
 have H3 := H2 w w1 a b hb1 HG.out ha hb
 have HB1 := Aside0.mk hb1
 clear H1 H2 ha hb hb1
 go_wp2_with fail
 refine H3.out.mono ?_
 rintro e w2 ⟨v, rfl, hv, hb2⟩
 have H4 := Lib.hid (LS.text hv (HG.out.below (HB1.out.trans (hb2.mono HB1.out.size))))
 have HB2 := Aside0.mk (HB1.out.trans (hb2.mono HB1.out.size))
 clear H3 hv hb2 HB1
 go_wp2_with fail
 refine H4.out.mono ?_
 rintro e w3 ⟨rfl, hb3⟩
 go_wp2_with fail
 go_ret
 exact ⟨rfl, HB2.out.trans (hb3.mono HB2.out.size)⟩
theorem hnv37 (n : Nd) : ndV n = .agg #[.int .i64 (opI n), .string (nd37 n).f1.f0, .string (nd37 n).f1.f1, .string (nd37 n).f2, .int .i64 (nd37 n).f3, .int .i64 (nd37 n).f4] := by cases n <;> rfl
theorem rn_num0 (z : Int) (d : Nat) (zs ds za pr : ByteArray) (e1 : intS z = zs) (e2 : natS d = ds) (hza : (za.size : Int) ≤ 60) (hds : (ds.size : Int) ≤ 60) (sg : Int) (hsg : 0 ≤ sg) (hM : dR3_May.f 60 zs ds = some true) (hA : dR2_Abs.f 60 zs = some za) (hP : dR4_Places.f 60 zs ds = some (0, true)) (hS : dR3_Sign.f 60 zs ds = some sg) (hpr : numP z d = zs) (hz : zs.size ≤ 1000) : RN (.num z d) := by
 refine ⟨?_, ?_, fun h => absurd h (by simp [ar]), ?_⟩
 ·intro w
  show Calls _ _ #[.agg #[.int .i64 0, .string (intS z), .string (natS d), .string ⟨#[]⟩, .int .i64 0, .int .i64 0]] _ _
  rw [e1, e2]
  exact rNodeNum_at zs ds za hza hds (fun w => Lib.hid (dR3_May.calls 60 zs ds true w hM)) (fun w => Lib.hid (below_of (dR2_Abs.calls 60 zs za w hA))) w
 ·intro _ w
  show Calls _ _ #[.agg #[.int .i64 0, .string (intS z), .string (natS d), .string ⟨#[]⟩, .int .i64 0, .int .i64 0]] _ fun e w' => e = .returned (.string (numP z d)) ∧ _
  rw [e1, e2, hpr]
  have hP' := fun w => Lib.hid (dR4_Places.calls 60 zs ds 0 true w hP)
  exact rLeafNum_at zs ds zs (fun w => Lib.hid (rNumber_at zs ds zs 0 sg (by decide) hsg hP' (fun w => Lib.hid (dR3_Sign.calls 60 zs ds sg w hS)) (fun w => Lib.hid (rPrint0_at zs ds (fun w => Lib.hid (dR3_May.calls 60 zs ds true w hM)) hP' w)) w)) w
 ·intro l hl
  show (numP z d).size ≤ _
  rw [hpr]
  omega
theorem rn_numN (z : Int) (d : Nat) (zs ds za pr z1 ps d1 z2 : ByteArray) (n : Nat) (hn0 : 0 < n) (hn : (n : Int) ≤ 20) (e1 : intS z = zs) (e2 : natS d = ds) (hza : (za.size : Int) ≤ 60) (hds : (ds.size : Int) ≤ 60) (sg : Int) (hsg : 0 ≤ sg) (hM : dR3_May.f 60 zs ds = some true) (hA : dR2_Abs.f 60 zs = some za) (hP : dR4_Places.f 60 zs ds = some ((n : Int), true)) (hS : dR3_Sign.f 60 zs ds = some sg)
  (hZ1 : dR4_Zeros.f 60 (n : Int) = some z1) (hz1 : z1.size = n) (HMU : ∀ w, RowKit.Hid (Calls Tryz.prog 126 #[.agg #[.string zs, .string ds], .agg #[.string ((⟨#[49]⟩ : ByteArray) ++ z1), .string (⟨#[49]⟩ : ByteArray)]] w fun e w' => e = .returned (.agg #[.string ps, .string d1]) ∧ Below w.heap.size w w')) (hAB : dR2_Abs.f 60 ps = some pr) (hprs : pr.size ≤ 1000) (hZ2 : dR4_Zeros.f 60 ((n + 1 - pr.size : Nat) : Int) = some z2) (hz2 : z2.size = n + 1 - pr.size)
  (hpr : numP z d = ((((⟨#[]⟩ : ByteArray) ++ (z2 ++ pr).extract 0 ((z2 ++ pr).size - n)) ++ (⟨#[46]⟩ : ByteArray)) ++ (z2 ++ pr).extract ((z2 ++ pr).size - n) (z2 ++ pr).size)) (hsz : (numP z d).size ≤ 1000) : RN (.num z d) := by
 refine ⟨?_, ?_, fun h => absurd h (by simp [ar]), ?_⟩
 ·intro w
  show Calls _ _ #[.agg #[.int .i64 0, .string (intS z), .string (natS d), .string ⟨#[]⟩, .int .i64 0, .int .i64 0]] _ _
  rw [e1, e2]
  exact rNodeNum_at zs ds za hza hds (fun w => Lib.hid (dR3_May.calls 60 zs ds true w hM)) (fun w => Lib.hid (below_of (dR2_Abs.calls 60 zs za w hA))) w
 ·intro _ w
  show Calls _ _ #[.agg #[.int .i64 0, .string (intS z), .string (natS d), .string ⟨#[]⟩, .int .i64 0, .int .i64 0]] _ fun e w' => e = .returned (.string (numP z d)) ∧ _
  rw [e1, e2, hpr]
  have hP' := fun w => Lib.hid (dR4_Places.calls 60 zs ds n true w hP)
  have hS' := fun w => Lib.hid (dR3_Sign.calls 60 zs ds sg w hS)
  exact rLeafNum_at zs ds _ (fun w => Lib.hid (rNumber_at zs ds _ n sg hn hsg hP' hS' (fun w => Lib.hid (rPrintN_at zs ds z1 ps d1 pr z2 n sg hn0 (by omega) hz1 (by omega) hz2 hsg (fun w => Lib.hid (dR3_May.calls 60 zs ds true w hM)) hP' (fun w => Lib.hid (below_of (dR4_Zeros.calls 60 _ z1 w hZ1))) HMU (fun w => Lib.hid (below_of (dR2_Abs.calls 60 ps pr w hAB))) (fun w => Lib.hid (below_of (dR4_Zeros.calls 60 _ z2 w hZ2))) hS' w)) w)) w
 ·intro l hl
  show (numP z d).size ≤ _
  omega
theorem rn_px (s : ByteArray) (a : Int) (ha : 0 ≤ a ∧ a ≤ 9999) (hs : s.size ≤ 20) (hA : debentureref10_Asset.f 60 s = some true) (hO : dR1_Of.f 60 a = some (natS a.toNat)) (hp : (natS a.toNat).size ≤ 20) : RN (.px s a) := by
 refine ⟨?_, ?_, fun h => absurd h (by simp [ar]), ?_⟩
 ·intro w
  exact rNodePx_at s a ha (fun w => Lib.hid (below_of (debentureref10_Asset.calls 60 s true w hA))) w
 ·intro _ w
  exact rLeafPx_at s (natS a.toNat) a (by omega) (by omega) (fun w => Lib.hid (below_of (dR1_Of.calls 60 a _ w hO))) w
 ·intro l hl
  show (pxP s a).size ≤ _
  unfold pxP
  simp only [ByteArray.size_append, show (⟨#[112, 120, 40]⟩ : ByteArray).size = 3 from rfl, show (⟨#[41]⟩ : ByteArray).size = 1 from rfl, show (⟨#[44, 32]⟩ : ByteArray).size = 2 from rfl]
  omega
theorem rn_op (k : Nat) (hk : 5 ≤ k ∧ k ≤ 9) : RN (.op k) := by
 have hk2 : k = 5 ∨ k = 6 ∨ k = 7 ∨ k = 8 ∨ k = 9 := by omega
 refine ⟨fun w => ?_, fun h => ?_, ?_, ?_⟩
 ·have h := rNodeOp_at k ⟨hk.1, by omega⟩ w
  rw [hnv37] at h
  exact h
 ·rcases hk2 with rfl | rfl | rfl | rfl | rfl <;> exact absurd h (by decide)
 ·intro _ bk o c l w hl hlc hsz hcell
  have hm := szs_mem l
  rcases hk2 with rfl | rfl | rfl | rfl | rfl
  ·match l, hl with
   | [x], _ => exact rAbove5_at bk o c x (by have := hm x (by simp); omega) w (hcell 0 x rfl)
  ·match l, hl with
   | [x, y], _ => exact rAbove6_at bk o c x y (by have := hm x (by simp); omega) (by have := hm y (by simp); omega) w (hcell 0 x rfl) (hcell 1 y rfl)
  ·match l, hl with
   | [x, y], _ => exact rAbove7_at bk o c x y (by have := hm x (by simp); omega) (by have := hm y (by simp); omega) w (hcell 0 x rfl) (hcell 1 y rfl)
  ·match l, hl with
   | [x, y], _ => exact rAbove8_at bk o c x y (by have := hm x (by simp); omega) (by have := hm y (by simp); omega) w (hcell 0 x rfl) (hcell 1 y rfl)
  ·match l, hl with
   | [x, y], _ => exact rAbove9_at bk o c x y (by have := hm x (by simp); omega) (by have := hm y (by simp); omega) w (hcell 0 x rfl) (hcell 1 y rfl)
 ·intro l hl
  show (opP k l).size ≤ _
  unfold opP
  rcases hk2 with rfl | rfl | rfl | rfl | rfl
  ·match l, hl with
   | [x], _ =>
     rw [if_pos rfl, ByteArray.size_append, ByteArray.size_append]
     show 2 + x.size + 1 ≤ (x.size + 0) + 1000
     omega
  all_goals
   match l, hl with
   | [x, y], _ =>
     rw [if_neg (by decide), if_pos (by decide)]
     simp only [ByteArray.size_append]
     show 1 + x.size + 1 + 1 + 1 + y.size + 1 ≤ (x.size + (y.size + 0)) + 1000
     omega
theorem rn2 : RN (.num 2 1) := rn_num0 2 1 ⟨#[50]⟩ ⟨#[49]⟩ ⟨#[50]⟩ ⟨#[50]⟩ (by kernel_rfl) (by kernel_rfl) (by decide) (by decide) 1 (by decide) (by kernel_rfl) (by kernel_rfl) (by kernel_rfl) (by kernel_rfl) (by kernel_rfl) (by decide)
theorem m32 (w : World) : Calls Tryz.prog 126 #[.agg #[.string ⟨#[51]⟩, .string ⟨#[50]⟩], .agg #[.string ((⟨#[49]⟩ : ByteArray) ++ (⟨#[48]⟩ : ByteArray)), .string (⟨#[49]⟩ : ByteArray)]] w fun e w' => e = .returned (.agg #[.string ⟨#[49, 53]⟩, .string ⟨#[49]⟩]) ∧ Below w.heap.size w w' := by
 rw [show ((⟨#[49]⟩ : ByteArray) ++ (⟨#[48]⟩ : ByteArray)) = ⟨#[49, 48]⟩ by kernel_rfl]
 exact rMul3_at ⟨#[51]⟩ ⟨#[50]⟩ ⟨#[49, 48]⟩ ⟨#[49]⟩ ⟨#[51, 48]⟩ ⟨#[50]⟩ ⟨#[49, 53]⟩ ⟨#[49]⟩ (by kernel_rfl) (by kernel_rfl) (by kernel_rfl) (by kernel_rfl) (fun w => Lib.hid (rMake_at ⟨#[51, 48]⟩ ⟨#[50]⟩ ⟨#[51, 48]⟩ ⟨#[50]⟩ ⟨#[49, 53]⟩ ⟨#[49]⟩ ⟨#[48]⟩ ⟨#[48]⟩ 1 (by decide) (by kernel_rfl) (by kernel_rfl) (by kernel_rfl) (by kernel_rfl) (by kernel_rfl) (by kernel_rfl)
  (fun w => Lib.hid (rDiv_at ⟨#[51, 48]⟩ ⟨#[50]⟩ ⟨#[49, 53]⟩ ⟨#[48]⟩ (by kernel_rfl) (by kernel_rfl) (by kernel_rfl) (by kernel_rfl) (by kernel_rfl) (by kernel_rfl) (by kernel_rfl) w)) (fun w => Lib.hid (rDiv_at ⟨#[50]⟩ ⟨#[50]⟩ ⟨#[49]⟩ ⟨#[48]⟩ (by kernel_rfl) (by kernel_rfl) (by kernel_rfl) (by kernel_rfl) (by kernel_rfl) (by kernel_rfl) (by kernel_rfl) w)) w)) w
theorem rn32 : RN (.num 3 2) := rn_numN 3 2 ⟨#[51]⟩ ⟨#[50]⟩ ⟨#[51]⟩ ⟨#[49, 53]⟩ ⟨#[48]⟩ ⟨#[49, 53]⟩ ⟨#[49]⟩ ⟨#[]⟩ 1 (by decide) (by decide) (by kernel_rfl) (by kernel_rfl) (by decide) (by decide) 1 (by decide) (by kernel_rfl) (by kernel_rfl) (by kernel_rfl) (by kernel_rfl)
 (by kernel_rfl) (by decide) (fun w => Lib.hid (m32 w)) (by kernel_rfl) (by decide) (by kernel_rfl) (by decide) (by kernel_rfl) (by rw [show numP 3 2 = ⟨#[49, 46, 53]⟩ by kernel_rfl]; decide)
theorem rnpx : RN (.px ⟨#[120]⟩ 5) := rn_px _ _ (by decide) (by decide) (by kernel_rfl) (by kernel_rfl) (by rw [show natS (5 : Int).toNat = ⟨#[53]⟩ by kernel_rfl]; decide)
end Go.Proofs.YtjopepfemhckjaaGreatDoor.NW
end
