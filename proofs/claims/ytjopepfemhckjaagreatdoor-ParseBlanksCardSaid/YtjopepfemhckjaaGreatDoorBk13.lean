/-
  Part 13 of the proof of parseBlanks_holds: texts of this seat, put together.
-/
import Derived.Test.YtjopepfemhckjaaGreatDoorBk12
set_option linter.unusedVariables false
set_option linter.unusedSimpArgs false
section
namespace Go.Proofs.YtjopepfemhckjaaGreatDoor.NW
open Go.Proofs Go.RowKit Go.Shelf Go.Proofs.YtjopepfemhckjaaGreatDoor.PN Go.Proofs.YtjopepfemhckjaaGreatDoorW.PrintWords Go.Proofs.YtjopepfemhckjaaGreatDoor.PParseTells
theorem below_cell {B:Nat}{w w':World}(h:Below B w w')(a:Addr)(ha:a.block<B):w'.cell? a=w.cell? a:=by
 unfold World.cell?;rw[h.block _ ha]
set_option maxHeartbeats 4000000 in
set_option maxRecDepth 100000 in
theorem nodeNeg_at (M:Nat)(hD:DivTo M)(bk o c:Nat)(x:ByteArray)(hx:x.size≤10000000000)(w:World)(hc0:w.cell? ⟨bk,o,none⟩=some (.string x))(hbk:bk<w.heap.size)(hg:Glob w):
 Calls Tryz.prog 82 #[ndV (.op 5),.slice (some ⟨bk,o,none⟩) 1 c] w fun e w'=>e= .returned (.tuple #[.string (opP 5 [x]),.bool true])∧Below w.heap.size w w':=by
 have H1:=fun W h=>Lib.hid (may_at' M hD (.op 5) (by unfold NdOK;omega) W h)
 have H2:=fun W=>Lib.hid (words_at W)
 have HG:=Aside0.mk hg;have IX:∀W,(Instr.index 130 wdV (.int .i64 5)).run Tryz.prog W= .ok (.string ⟨#[]⟩) W:=fun _=>by kernel_rfl
 show Calls _ _ _ _ fun e w'=>e= .returned (.tuple #[.string ((((⟨#[40,45]⟩:ByteArray)++x)++(⟨#[41]⟩:ByteArray))),.bool true])∧_
 have oa1:¬9223372036854775807<((⟨#[40,45]⟩:ByteArray)).size+(x).size:=by(try simp only[ByteArray.size_append,show(⟨#[40,45]⟩:ByteArray).size=2 from rfl,show(⟨#[41]⟩:ByteArray).size=1 from rfl]);omega
 have ob1:¬9223372036854775807<2+(x).size:=by omega
 have oc1:¬9223372036854775807<2+(x).size:=by omega
 have oa2:¬9223372036854775807<((⟨#[40,45]⟩:ByteArray)++x).size+((⟨#[41]⟩:ByteArray)).size:=by(try simp only[ByteArray.size_append,show(⟨#[40,45]⟩:ByteArray).size=2 from rfl,show(⟨#[41]⟩:ByteArray).size=1 from rfl]);omega
 have ob2:¬9223372036854775807<((⟨#[40,45]⟩:ByteArray)++x).size+1:=by(try simp only[ByteArray.size_append,show(⟨#[40,45]⟩:ByteArray).size=2 from rfl,show(⟨#[41]⟩:ByteArray).size=1 from rfl]);omega
 have oc2:¬9223372036854775807<2+(x).size+1:=by omega
 have hd0:∀w',Below w.heap.size w w'→w'.cell? ⟨bk,o,none⟩=w.cell? ⟨bk,o,none⟩:=fun w' h=>below_cell h _ hbk
 simp only[ndV]at*;generalize wdV=wv at*;clear hg hD hx;have k0:=World.alloc_heap_new w (.cells #[.int .i64 5,.string ⟨#[]⟩,.string ⟨#[]⟩,.string ⟨#[]⟩,.int .i64 0,.int .i64 0] 37);have B0:Below w.heap.size w (w.alloc (.cells #[.int .i64 5,.string ⟨#[]⟩,.string ⟨#[]⟩,.string ⟨#[]⟩,.int .i64 0,.int .i64 0] 37)):=(Below.refl _ w).alloc (Nat.le_refl _) _;go_enter Tryz.func82,Tryz.ntmps82
 go_wp2_with fail;generalize w.alloc (.cells #[.int .i64 5,.string ⟨#[]⟩,.string ⟨#[]⟩,.string ⟨#[]⟩,.int .i64 0,.int .i64 0] 37)=w0 at*;refine(H1 _ (HG.out.below B0)).out.mono ?_;rintro e w1 ⟨rfl,hb1⟩;have k1:=(hb1.block _ (Array.getElem?_eq_some_iff.1 k0).1).trans k0;have B1:=B0.trans (hb1.mono B0.size);clear k0 B0 hb1 H1;have hSB:∀w':World,Below w1.heap.size w1 w'→w'.cell? ⟨w.heap.size,0,none⟩=some (.int .i64 5):=by
  intro w' hb;have k':=(hb.block _ (Array.getElem?_eq_some_iff.1 k1).1).trans k1;rw[Lib.cell_of_heap k'];rfl
 have HB:=Aside0.mk (Below.refl w1.heap.size w1);go_wp2_with fail;go_region_held3 (fun w':World=>w'.cell? ⟨w.heap.size,0,none⟩=some (.int .i64 5)) (exact hSB _ (by repeat(first|(with_reducible first|exact HB.out|apply below_alloc|apply pw_below_drewN|apply below_drew1)|exact HB.out))) (first|(go_at_call 118;with_reducible refine(H2 _).out.mono ?_;rintro e w' ⟨rfl,hb⟩;have n0:=Aside0.mk (below_step (by repeat(first|(with_reducible first|exact HB.out|apply below_alloc|apply pw_below_drewN|apply below_drew1)|exact HB.out)) hb);clear HB hb;have HB:=n0;clear n0))
 have k2:=(HB.out.block _ (Array.getElem?_eq_some_iff.1 k1).1).trans k1;have B2:=B1.trans (HB.out.mono B1.size);clear k1 B1 hSB HB H2;have c0:w'.cell? ⟨w.heap.size,0,none⟩=some (.int .i64 5):=by rw[Lib.cell_of_heap k2];rfl
 have c1:w'.cell? ⟨bk,o,none⟩=some (.string x):=by rw[hd0 _ B2];exact hc0
 generalize w'=w2 at*;clear hc0 hd0;go_wp2_with fail;refine bodyPost_ret (results_tmp2 rfl _ _ _) rfl ?_;exact⟨rfl,B2⟩
set_option maxHeartbeats 4000000 in
set_option maxRecDepth 100000 in
theorem nodeBin6_at (M:Nat)(hD:DivTo M)(bk o c:Nat)(x y:ByteArray)(hx:x.size≤10000000000)(hy:y.size≤10000000000)(w:World)(hc0:w.cell? ⟨bk,o,none⟩=some (.string x))(hc1:w.cell? ⟨bk,o+1,none⟩=some (.string y))(hbk:bk<w.heap.size)(hg:Glob w):
 Calls Tryz.prog 82 #[ndV (.op 6),.slice (some ⟨bk,o,none⟩) 2 c] w fun e w'=>e= .returned (.tuple #[.string (opP 6 [x,y]),.bool true])∧Below w.heap.size w w':=by
 have H1:=fun W h=>Lib.hid (may_at' M hD (.op 6) (by unfold NdOK;omega) W h)
 have H2:=fun W=>Lib.hid (words_at W)
 have HG:=Aside0.mk hg;have IX:∀W,(Instr.index 130 wdV (.int .i64 6)).run Tryz.prog W= .ok (.string (⟨#[43]⟩:ByteArray)) W:=fun _=>by kernel_rfl
 show Calls _ _ _ _ fun e w'=>e= .returned (.tuple #[.string ((((((((⟨#[40]⟩:ByteArray)++x)++(⟨#[32]⟩:ByteArray))++(⟨#[43]⟩:ByteArray))++(⟨#[32]⟩:ByteArray))++y)++(⟨#[41]⟩:ByteArray))),.bool true])∧_
 have oa1:¬9223372036854775807<((⟨#[40]⟩:ByteArray)).size+(x).size:=by(try simp only[ByteArray.size_append,show(⟨#[32]⟩:ByteArray).size=1 from rfl,show(⟨#[40]⟩:ByteArray).size=1 from rfl,show(⟨#[41]⟩:ByteArray).size=1 from rfl,show(⟨#[43]⟩:ByteArray).size=1 from rfl]);omega
 have ob1:¬9223372036854775807<1+(x).size:=by omega
 have oc1:¬9223372036854775807<1+(x).size:=by omega
 have oa2:¬9223372036854775807<((⟨#[40]⟩:ByteArray)++x).size+((⟨#[32]⟩:ByteArray)).size:=by(try simp only[ByteArray.size_append,show(⟨#[32]⟩:ByteArray).size=1 from rfl,show(⟨#[40]⟩:ByteArray).size=1 from rfl,show(⟨#[41]⟩:ByteArray).size=1 from rfl,show(⟨#[43]⟩:ByteArray).size=1 from rfl]);omega
 have ob2:¬9223372036854775807<((⟨#[40]⟩:ByteArray)++x).size+1:=by(try simp only[ByteArray.size_append,show(⟨#[32]⟩:ByteArray).size=1 from rfl,show(⟨#[40]⟩:ByteArray).size=1 from rfl,show(⟨#[41]⟩:ByteArray).size=1 from rfl,show(⟨#[43]⟩:ByteArray).size=1 from rfl]);omega
 have oc2:¬9223372036854775807<1+(x).size+1:=by omega
 have oa3:¬9223372036854775807<((⟨#[40]⟩:ByteArray)++x++(⟨#[32]⟩:ByteArray)).size+((⟨#[43]⟩:ByteArray)).size:=by(try simp only[ByteArray.size_append,show(⟨#[32]⟩:ByteArray).size=1 from rfl,show(⟨#[40]⟩:ByteArray).size=1 from rfl,show(⟨#[41]⟩:ByteArray).size=1 from rfl,show(⟨#[43]⟩:ByteArray).size=1 from rfl]);omega
 have ob3:¬9223372036854775807<((⟨#[40]⟩:ByteArray)++x++(⟨#[32]⟩:ByteArray)).size+1:=by(try simp only[ByteArray.size_append,show(⟨#[32]⟩:ByteArray).size=1 from rfl,show(⟨#[40]⟩:ByteArray).size=1 from rfl,show(⟨#[41]⟩:ByteArray).size=1 from rfl,show(⟨#[43]⟩:ByteArray).size=1 from rfl]);omega
 have oc3:¬9223372036854775807<1+(x).size+1+1:=by omega
 have oa4:¬9223372036854775807<((⟨#[40]⟩:ByteArray)++x++(⟨#[32]⟩:ByteArray)++(⟨#[43]⟩:ByteArray)).size+((⟨#[32]⟩:ByteArray)).size:=by(try simp only[ByteArray.size_append,show(⟨#[32]⟩:ByteArray).size=1 from rfl,show(⟨#[40]⟩:ByteArray).size=1 from rfl,show(⟨#[41]⟩:ByteArray).size=1 from rfl,show(⟨#[43]⟩:ByteArray).size=1 from rfl]);omega
 have ob4:¬9223372036854775807<((⟨#[40]⟩:ByteArray)++x++(⟨#[32]⟩:ByteArray)++(⟨#[43]⟩:ByteArray)).size+1:=by(try simp only[ByteArray.size_append,show(⟨#[32]⟩:ByteArray).size=1 from rfl,show(⟨#[40]⟩:ByteArray).size=1 from rfl,show(⟨#[41]⟩:ByteArray).size=1 from rfl,show(⟨#[43]⟩:ByteArray).size=1 from rfl]);omega
 have oc4:¬9223372036854775807<1+(x).size+1+1+1:=by omega
 have oa5:¬9223372036854775807<((⟨#[40]⟩:ByteArray)++x++(⟨#[32]⟩:ByteArray)++(⟨#[43]⟩:ByteArray)++(⟨#[32]⟩:ByteArray)).size+(y).size:=by(try simp only[ByteArray.size_append,show(⟨#[32]⟩:ByteArray).size=1 from rfl,show(⟨#[40]⟩:ByteArray).size=1 from rfl,show(⟨#[41]⟩:ByteArray).size=1 from rfl,show(⟨#[43]⟩:ByteArray).size=1 from rfl]);omega
 have ob5:¬9223372036854775807<((⟨#[40]⟩:ByteArray)++x++(⟨#[32]⟩:ByteArray)++(⟨#[43]⟩:ByteArray)++(⟨#[32]⟩:ByteArray)).size+(y).size:=by(try simp only[ByteArray.size_append,show(⟨#[32]⟩:ByteArray).size=1 from rfl,show(⟨#[40]⟩:ByteArray).size=1 from rfl,show(⟨#[41]⟩:ByteArray).size=1 from rfl,show(⟨#[43]⟩:ByteArray).size=1 from rfl]);omega
 have oc5:¬9223372036854775807<1+(x).size+1+1+1+(y).size:=by omega
 have oa6:¬9223372036854775807<((⟨#[40]⟩:ByteArray)++x++(⟨#[32]⟩:ByteArray)++(⟨#[43]⟩:ByteArray)++(⟨#[32]⟩:ByteArray)++y).size+((⟨#[41]⟩:ByteArray)).size:=by(try simp only[ByteArray.size_append,show(⟨#[32]⟩:ByteArray).size=1 from rfl,show(⟨#[40]⟩:ByteArray).size=1 from rfl,show(⟨#[41]⟩:ByteArray).size=1 from rfl,show(⟨#[43]⟩:ByteArray).size=1 from rfl]);omega
 have ob6:¬9223372036854775807<((⟨#[40]⟩:ByteArray)++x++(⟨#[32]⟩:ByteArray)++(⟨#[43]⟩:ByteArray)++(⟨#[32]⟩:ByteArray)++y).size+1:=by(try simp only[ByteArray.size_append,show(⟨#[32]⟩:ByteArray).size=1 from rfl,show(⟨#[40]⟩:ByteArray).size=1 from rfl,show(⟨#[41]⟩:ByteArray).size=1 from rfl,show(⟨#[43]⟩:ByteArray).size=1 from rfl]);omega
 have oc6:¬9223372036854775807<1+(x).size+1+1+1+(y).size+1:=by omega
 have hd0:∀w',Below w.heap.size w w'→w'.cell? ⟨bk,o,none⟩=w.cell? ⟨bk,o,none⟩:=fun w' h=>below_cell h _ hbk
 have hd1:∀w',Below w.heap.size w w'→w'.cell? ⟨bk,o+1,none⟩=w.cell? ⟨bk,o+1,none⟩:=fun w' h=>below_cell h _ hbk
 simp only[ndV]at*;generalize wdV=wv at*;clear hg hD hx hy;have k0:=World.alloc_heap_new w (.cells #[.int .i64 6,.string ⟨#[]⟩,.string ⟨#[]⟩,.string ⟨#[]⟩,.int .i64 0,.int .i64 0] 37);have B0:Below w.heap.size w (w.alloc (.cells #[.int .i64 6,.string ⟨#[]⟩,.string ⟨#[]⟩,.string ⟨#[]⟩,.int .i64 0,.int .i64 0] 37)):=(Below.refl _ w).alloc (Nat.le_refl _) _;go_enter Tryz.func82,Tryz.ntmps82
 go_wp2_with fail;generalize w.alloc (.cells #[.int .i64 6,.string ⟨#[]⟩,.string ⟨#[]⟩,.string ⟨#[]⟩,.int .i64 0,.int .i64 0] 37)=w0 at*;refine(H1 _ (HG.out.below B0)).out.mono ?_;rintro e w1 ⟨rfl,hb1⟩;have k1:=(hb1.block _ (Array.getElem?_eq_some_iff.1 k0).1).trans k0;have B1:=B0.trans (hb1.mono B0.size);clear k0 B0 hb1 H1;have hSB:∀w':World,Below w1.heap.size w1 w'→w'.cell? ⟨w.heap.size,0,none⟩=some (.int .i64 6):=by
  intro w' hb;have k':=(hb.block _ (Array.getElem?_eq_some_iff.1 k1).1).trans k1;rw[Lib.cell_of_heap k'];rfl
 have HB:=Aside0.mk (Below.refl w1.heap.size w1);go_wp2_with fail;go_region_held3 (fun w':World=>w'.cell? ⟨w.heap.size,0,none⟩=some (.int .i64 6)) (exact hSB _ (by repeat(first|(with_reducible first|exact HB.out|apply below_alloc|apply pw_below_drewN|apply below_drew1)|exact HB.out))) (first|(go_at_call 118;with_reducible refine(H2 _).out.mono ?_;rintro e w' ⟨rfl,hb⟩;have n0:=Aside0.mk (below_step (by repeat(first|(with_reducible first|exact HB.out|apply below_alloc|apply pw_below_drewN|apply below_drew1)|exact HB.out)) hb);clear HB hb;have HB:=n0;clear n0))
 have k2:=(HB.out.block _ (Array.getElem?_eq_some_iff.1 k1).1).trans k1;have B2:=B1.trans (HB.out.mono B1.size);clear k1 B1 hSB HB H2;have c0:w'.cell? ⟨w.heap.size,0,none⟩=some (.int .i64 6):=by rw[Lib.cell_of_heap k2];rfl
 have c1:w'.cell? ⟨bk,o,none⟩=some (.string x):=by rw[hd0 _ B2];exact hc0
 have c2:w'.cell? ⟨bk,o+1,none⟩=some (.string y):=by rw[hd1 _ B2];exact hc1
 generalize w'=w2 at*;clear hc0 hc1 hd0 hd1;go_wp2_with fail;go_region;go_wp2_with fail;refine bodyPost_ret (results_tmp2 rfl _ _ _) rfl ?_;exact⟨rfl,B2.drew⟩
set_option maxHeartbeats 4000000 in
set_option maxRecDepth 100000 in
theorem nodeBin7_at (M:Nat)(hD:DivTo M)(bk o c:Nat)(x y:ByteArray)(hx:x.size≤10000000000)(hy:y.size≤10000000000)(w:World)(hc0:w.cell? ⟨bk,o,none⟩=some (.string x))(hc1:w.cell? ⟨bk,o+1,none⟩=some (.string y))(hbk:bk<w.heap.size)(hg:Glob w):
 Calls Tryz.prog 82 #[ndV (.op 7),.slice (some ⟨bk,o,none⟩) 2 c] w fun e w'=>e= .returned (.tuple #[.string (opP 7 [x,y]),.bool true])∧Below w.heap.size w w':=by
 have H1:=fun W h=>Lib.hid (may_at' M hD (.op 7) (by unfold NdOK;omega) W h)
 have H2:=fun W=>Lib.hid (words_at W)
 have HG:=Aside0.mk hg;have IX:∀W,(Instr.index 130 wdV (.int .i64 7)).run Tryz.prog W= .ok (.string (⟨#[45]⟩:ByteArray)) W:=fun _=>by kernel_rfl
 show Calls _ _ _ _ fun e w'=>e= .returned (.tuple #[.string ((((((((⟨#[40]⟩:ByteArray)++x)++(⟨#[32]⟩:ByteArray))++(⟨#[45]⟩:ByteArray))++(⟨#[32]⟩:ByteArray))++y)++(⟨#[41]⟩:ByteArray))),.bool true])∧_
 have oa1:¬9223372036854775807<((⟨#[40]⟩:ByteArray)).size+(x).size:=by(try simp only[ByteArray.size_append,show(⟨#[32]⟩:ByteArray).size=1 from rfl,show(⟨#[40]⟩:ByteArray).size=1 from rfl,show(⟨#[41]⟩:ByteArray).size=1 from rfl,show(⟨#[45]⟩:ByteArray).size=1 from rfl]);omega
 have ob1:¬9223372036854775807<1+(x).size:=by omega
 have oc1:¬9223372036854775807<1+(x).size:=by omega
 have oa2:¬9223372036854775807<((⟨#[40]⟩:ByteArray)++x).size+((⟨#[32]⟩:ByteArray)).size:=by(try simp only[ByteArray.size_append,show(⟨#[32]⟩:ByteArray).size=1 from rfl,show(⟨#[40]⟩:ByteArray).size=1 from rfl,show(⟨#[41]⟩:ByteArray).size=1 from rfl,show(⟨#[45]⟩:ByteArray).size=1 from rfl]);omega
 have ob2:¬9223372036854775807<((⟨#[40]⟩:ByteArray)++x).size+1:=by(try simp only[ByteArray.size_append,show(⟨#[32]⟩:ByteArray).size=1 from rfl,show(⟨#[40]⟩:ByteArray).size=1 from rfl,show(⟨#[41]⟩:ByteArray).size=1 from rfl,show(⟨#[45]⟩:ByteArray).size=1 from rfl]);omega
 have oc2:¬9223372036854775807<1+(x).size+1:=by omega
 have oa3:¬9223372036854775807<((⟨#[40]⟩:ByteArray)++x++(⟨#[32]⟩:ByteArray)).size+((⟨#[45]⟩:ByteArray)).size:=by(try simp only[ByteArray.size_append,show(⟨#[32]⟩:ByteArray).size=1 from rfl,show(⟨#[40]⟩:ByteArray).size=1 from rfl,show(⟨#[41]⟩:ByteArray).size=1 from rfl,show(⟨#[45]⟩:ByteArray).size=1 from rfl]);omega
 have ob3:¬9223372036854775807<((⟨#[40]⟩:ByteArray)++x++(⟨#[32]⟩:ByteArray)).size+1:=by(try simp only[ByteArray.size_append,show(⟨#[32]⟩:ByteArray).size=1 from rfl,show(⟨#[40]⟩:ByteArray).size=1 from rfl,show(⟨#[41]⟩:ByteArray).size=1 from rfl,show(⟨#[45]⟩:ByteArray).size=1 from rfl]);omega
 have oc3:¬9223372036854775807<1+(x).size+1+1:=by omega
 have oa4:¬9223372036854775807<((⟨#[40]⟩:ByteArray)++x++(⟨#[32]⟩:ByteArray)++(⟨#[45]⟩:ByteArray)).size+((⟨#[32]⟩:ByteArray)).size:=by(try simp only[ByteArray.size_append,show(⟨#[32]⟩:ByteArray).size=1 from rfl,show(⟨#[40]⟩:ByteArray).size=1 from rfl,show(⟨#[41]⟩:ByteArray).size=1 from rfl,show(⟨#[45]⟩:ByteArray).size=1 from rfl]);omega
 have ob4:¬9223372036854775807<((⟨#[40]⟩:ByteArray)++x++(⟨#[32]⟩:ByteArray)++(⟨#[45]⟩:ByteArray)).size+1:=by(try simp only[ByteArray.size_append,show(⟨#[32]⟩:ByteArray).size=1 from rfl,show(⟨#[40]⟩:ByteArray).size=1 from rfl,show(⟨#[41]⟩:ByteArray).size=1 from rfl,show(⟨#[45]⟩:ByteArray).size=1 from rfl]);omega
 have oc4:¬9223372036854775807<1+(x).size+1+1+1:=by omega
 have oa5:¬9223372036854775807<((⟨#[40]⟩:ByteArray)++x++(⟨#[32]⟩:ByteArray)++(⟨#[45]⟩:ByteArray)++(⟨#[32]⟩:ByteArray)).size+(y).size:=by(try simp only[ByteArray.size_append,show(⟨#[32]⟩:ByteArray).size=1 from rfl,show(⟨#[40]⟩:ByteArray).size=1 from rfl,show(⟨#[41]⟩:ByteArray).size=1 from rfl,show(⟨#[45]⟩:ByteArray).size=1 from rfl]);omega
 have ob5:¬9223372036854775807<((⟨#[40]⟩:ByteArray)++x++(⟨#[32]⟩:ByteArray)++(⟨#[45]⟩:ByteArray)++(⟨#[32]⟩:ByteArray)).size+(y).size:=by(try simp only[ByteArray.size_append,show(⟨#[32]⟩:ByteArray).size=1 from rfl,show(⟨#[40]⟩:ByteArray).size=1 from rfl,show(⟨#[41]⟩:ByteArray).size=1 from rfl,show(⟨#[45]⟩:ByteArray).size=1 from rfl]);omega
 have oc5:¬9223372036854775807<1+(x).size+1+1+1+(y).size:=by omega
 have oa6:¬9223372036854775807<((⟨#[40]⟩:ByteArray)++x++(⟨#[32]⟩:ByteArray)++(⟨#[45]⟩:ByteArray)++(⟨#[32]⟩:ByteArray)++y).size+((⟨#[41]⟩:ByteArray)).size:=by(try simp only[ByteArray.size_append,show(⟨#[32]⟩:ByteArray).size=1 from rfl,show(⟨#[40]⟩:ByteArray).size=1 from rfl,show(⟨#[41]⟩:ByteArray).size=1 from rfl,show(⟨#[45]⟩:ByteArray).size=1 from rfl]);omega
 have ob6:¬9223372036854775807<((⟨#[40]⟩:ByteArray)++x++(⟨#[32]⟩:ByteArray)++(⟨#[45]⟩:ByteArray)++(⟨#[32]⟩:ByteArray)++y).size+1:=by(try simp only[ByteArray.size_append,show(⟨#[32]⟩:ByteArray).size=1 from rfl,show(⟨#[40]⟩:ByteArray).size=1 from rfl,show(⟨#[41]⟩:ByteArray).size=1 from rfl,show(⟨#[45]⟩:ByteArray).size=1 from rfl]);omega
 have oc6:¬9223372036854775807<1+(x).size+1+1+1+(y).size+1:=by omega
 have hd0:∀w',Below w.heap.size w w'→w'.cell? ⟨bk,o,none⟩=w.cell? ⟨bk,o,none⟩:=fun w' h=>below_cell h _ hbk
 have hd1:∀w',Below w.heap.size w w'→w'.cell? ⟨bk,o+1,none⟩=w.cell? ⟨bk,o+1,none⟩:=fun w' h=>below_cell h _ hbk
 simp only[ndV]at*;generalize wdV=wv at*;clear hg hD hx hy;have k0:=World.alloc_heap_new w (.cells #[.int .i64 7,.string ⟨#[]⟩,.string ⟨#[]⟩,.string ⟨#[]⟩,.int .i64 0,.int .i64 0] 37);have B0:Below w.heap.size w (w.alloc (.cells #[.int .i64 7,.string ⟨#[]⟩,.string ⟨#[]⟩,.string ⟨#[]⟩,.int .i64 0,.int .i64 0] 37)):=(Below.refl _ w).alloc (Nat.le_refl _) _;go_enter Tryz.func82,Tryz.ntmps82
 go_wp2_with fail;generalize w.alloc (.cells #[.int .i64 7,.string ⟨#[]⟩,.string ⟨#[]⟩,.string ⟨#[]⟩,.int .i64 0,.int .i64 0] 37)=w0 at*;refine(H1 _ (HG.out.below B0)).out.mono ?_;rintro e w1 ⟨rfl,hb1⟩;have k1:=(hb1.block _ (Array.getElem?_eq_some_iff.1 k0).1).trans k0;have B1:=B0.trans (hb1.mono B0.size);clear k0 B0 hb1 H1;have hSB:∀w':World,Below w1.heap.size w1 w'→w'.cell? ⟨w.heap.size,0,none⟩=some (.int .i64 7):=by
  intro w' hb;have k':=(hb.block _ (Array.getElem?_eq_some_iff.1 k1).1).trans k1;rw[Lib.cell_of_heap k'];rfl
 have HB:=Aside0.mk (Below.refl w1.heap.size w1);go_wp2_with fail;go_region_held3 (fun w':World=>w'.cell? ⟨w.heap.size,0,none⟩=some (.int .i64 7)) (exact hSB _ (by repeat(first|(with_reducible first|exact HB.out|apply below_alloc|apply pw_below_drewN|apply below_drew1)|exact HB.out))) (first|(go_at_call 118;with_reducible refine(H2 _).out.mono ?_;rintro e w' ⟨rfl,hb⟩;have n0:=Aside0.mk (below_step (by repeat(first|(with_reducible first|exact HB.out|apply below_alloc|apply pw_below_drewN|apply below_drew1)|exact HB.out)) hb);clear HB hb;have HB:=n0;clear n0))
 have k2:=(HB.out.block _ (Array.getElem?_eq_some_iff.1 k1).1).trans k1;have B2:=B1.trans (HB.out.mono B1.size);clear k1 B1 hSB HB H2;have c0:w'.cell? ⟨w.heap.size,0,none⟩=some (.int .i64 7):=by rw[Lib.cell_of_heap k2];rfl
 have c1:w'.cell? ⟨bk,o,none⟩=some (.string x):=by rw[hd0 _ B2];exact hc0
 have c2:w'.cell? ⟨bk,o+1,none⟩=some (.string y):=by rw[hd1 _ B2];exact hc1
 generalize w'=w2 at*;clear hc0 hc1 hd0 hd1;go_wp2_with fail;go_region;go_wp2_with fail;refine bodyPost_ret (results_tmp2 rfl _ _ _) rfl ?_;exact⟨rfl,B2.drew⟩
set_option maxHeartbeats 4000000 in
set_option maxRecDepth 100000 in
theorem nodeBin8_at (M:Nat)(hD:DivTo M)(bk o c:Nat)(x y:ByteArray)(hx:x.size≤10000000000)(hy:y.size≤10000000000)(w:World)(hc0:w.cell? ⟨bk,o,none⟩=some (.string x))(hc1:w.cell? ⟨bk,o+1,none⟩=some (.string y))(hbk:bk<w.heap.size)(hg:Glob w):
 Calls Tryz.prog 82 #[ndV (.op 8),.slice (some ⟨bk,o,none⟩) 2 c] w fun e w'=>e= .returned (.tuple #[.string (opP 8 [x,y]),.bool true])∧Below w.heap.size w w':=by
 have H1:=fun W h=>Lib.hid (may_at' M hD (.op 8) (by unfold NdOK;omega) W h)
 have H2:=fun W=>Lib.hid (words_at W)
 have HG:=Aside0.mk hg;have IX:∀W,(Instr.index 130 wdV (.int .i64 8)).run Tryz.prog W= .ok (.string (⟨#[42]⟩:ByteArray)) W:=fun _=>by kernel_rfl
 show Calls _ _ _ _ fun e w'=>e= .returned (.tuple #[.string ((((((((⟨#[40]⟩:ByteArray)++x)++(⟨#[32]⟩:ByteArray))++(⟨#[42]⟩:ByteArray))++(⟨#[32]⟩:ByteArray))++y)++(⟨#[41]⟩:ByteArray))),.bool true])∧_
 have oa1:¬9223372036854775807<((⟨#[40]⟩:ByteArray)).size+(x).size:=by(try simp only[ByteArray.size_append,show(⟨#[32]⟩:ByteArray).size=1 from rfl,show(⟨#[40]⟩:ByteArray).size=1 from rfl,show(⟨#[41]⟩:ByteArray).size=1 from rfl,show(⟨#[42]⟩:ByteArray).size=1 from rfl]);omega
 have ob1:¬9223372036854775807<1+(x).size:=by omega
 have oc1:¬9223372036854775807<1+(x).size:=by omega
 have oa2:¬9223372036854775807<((⟨#[40]⟩:ByteArray)++x).size+((⟨#[32]⟩:ByteArray)).size:=by(try simp only[ByteArray.size_append,show(⟨#[32]⟩:ByteArray).size=1 from rfl,show(⟨#[40]⟩:ByteArray).size=1 from rfl,show(⟨#[41]⟩:ByteArray).size=1 from rfl,show(⟨#[42]⟩:ByteArray).size=1 from rfl]);omega
 have ob2:¬9223372036854775807<((⟨#[40]⟩:ByteArray)++x).size+1:=by(try simp only[ByteArray.size_append,show(⟨#[32]⟩:ByteArray).size=1 from rfl,show(⟨#[40]⟩:ByteArray).size=1 from rfl,show(⟨#[41]⟩:ByteArray).size=1 from rfl,show(⟨#[42]⟩:ByteArray).size=1 from rfl]);omega
 have oc2:¬9223372036854775807<1+(x).size+1:=by omega
 have oa3:¬9223372036854775807<((⟨#[40]⟩:ByteArray)++x++(⟨#[32]⟩:ByteArray)).size+((⟨#[42]⟩:ByteArray)).size:=by(try simp only[ByteArray.size_append,show(⟨#[32]⟩:ByteArray).size=1 from rfl,show(⟨#[40]⟩:ByteArray).size=1 from rfl,show(⟨#[41]⟩:ByteArray).size=1 from rfl,show(⟨#[42]⟩:ByteArray).size=1 from rfl]);omega
 have ob3:¬9223372036854775807<((⟨#[40]⟩:ByteArray)++x++(⟨#[32]⟩:ByteArray)).size+1:=by(try simp only[ByteArray.size_append,show(⟨#[32]⟩:ByteArray).size=1 from rfl,show(⟨#[40]⟩:ByteArray).size=1 from rfl,show(⟨#[41]⟩:ByteArray).size=1 from rfl,show(⟨#[42]⟩:ByteArray).size=1 from rfl]);omega
 have oc3:¬9223372036854775807<1+(x).size+1+1:=by omega
 have oa4:¬9223372036854775807<((⟨#[40]⟩:ByteArray)++x++(⟨#[32]⟩:ByteArray)++(⟨#[42]⟩:ByteArray)).size+((⟨#[32]⟩:ByteArray)).size:=by(try simp only[ByteArray.size_append,show(⟨#[32]⟩:ByteArray).size=1 from rfl,show(⟨#[40]⟩:ByteArray).size=1 from rfl,show(⟨#[41]⟩:ByteArray).size=1 from rfl,show(⟨#[42]⟩:ByteArray).size=1 from rfl]);omega
 have ob4:¬9223372036854775807<((⟨#[40]⟩:ByteArray)++x++(⟨#[32]⟩:ByteArray)++(⟨#[42]⟩:ByteArray)).size+1:=by(try simp only[ByteArray.size_append,show(⟨#[32]⟩:ByteArray).size=1 from rfl,show(⟨#[40]⟩:ByteArray).size=1 from rfl,show(⟨#[41]⟩:ByteArray).size=1 from rfl,show(⟨#[42]⟩:ByteArray).size=1 from rfl]);omega
 have oc4:¬9223372036854775807<1+(x).size+1+1+1:=by omega
 have oa5:¬9223372036854775807<((⟨#[40]⟩:ByteArray)++x++(⟨#[32]⟩:ByteArray)++(⟨#[42]⟩:ByteArray)++(⟨#[32]⟩:ByteArray)).size+(y).size:=by(try simp only[ByteArray.size_append,show(⟨#[32]⟩:ByteArray).size=1 from rfl,show(⟨#[40]⟩:ByteArray).size=1 from rfl,show(⟨#[41]⟩:ByteArray).size=1 from rfl,show(⟨#[42]⟩:ByteArray).size=1 from rfl]);omega
 have ob5:¬9223372036854775807<((⟨#[40]⟩:ByteArray)++x++(⟨#[32]⟩:ByteArray)++(⟨#[42]⟩:ByteArray)++(⟨#[32]⟩:ByteArray)).size+(y).size:=by(try simp only[ByteArray.size_append,show(⟨#[32]⟩:ByteArray).size=1 from rfl,show(⟨#[40]⟩:ByteArray).size=1 from rfl,show(⟨#[41]⟩:ByteArray).size=1 from rfl,show(⟨#[42]⟩:ByteArray).size=1 from rfl]);omega
 have oc5:¬9223372036854775807<1+(x).size+1+1+1+(y).size:=by omega
 have oa6:¬9223372036854775807<((⟨#[40]⟩:ByteArray)++x++(⟨#[32]⟩:ByteArray)++(⟨#[42]⟩:ByteArray)++(⟨#[32]⟩:ByteArray)++y).size+((⟨#[41]⟩:ByteArray)).size:=by(try simp only[ByteArray.size_append,show(⟨#[32]⟩:ByteArray).size=1 from rfl,show(⟨#[40]⟩:ByteArray).size=1 from rfl,show(⟨#[41]⟩:ByteArray).size=1 from rfl,show(⟨#[42]⟩:ByteArray).size=1 from rfl]);omega
 have ob6:¬9223372036854775807<((⟨#[40]⟩:ByteArray)++x++(⟨#[32]⟩:ByteArray)++(⟨#[42]⟩:ByteArray)++(⟨#[32]⟩:ByteArray)++y).size+1:=by(try simp only[ByteArray.size_append,show(⟨#[32]⟩:ByteArray).size=1 from rfl,show(⟨#[40]⟩:ByteArray).size=1 from rfl,show(⟨#[41]⟩:ByteArray).size=1 from rfl,show(⟨#[42]⟩:ByteArray).size=1 from rfl]);omega
 have oc6:¬9223372036854775807<1+(x).size+1+1+1+(y).size+1:=by omega
 have hd0:∀w',Below w.heap.size w w'→w'.cell? ⟨bk,o,none⟩=w.cell? ⟨bk,o,none⟩:=fun w' h=>below_cell h _ hbk
 have hd1:∀w',Below w.heap.size w w'→w'.cell? ⟨bk,o+1,none⟩=w.cell? ⟨bk,o+1,none⟩:=fun w' h=>below_cell h _ hbk
 simp only[ndV]at*;generalize wdV=wv at*;clear hg hD hx hy;have k0:=World.alloc_heap_new w (.cells #[.int .i64 8,.string ⟨#[]⟩,.string ⟨#[]⟩,.string ⟨#[]⟩,.int .i64 0,.int .i64 0] 37);have B0:Below w.heap.size w (w.alloc (.cells #[.int .i64 8,.string ⟨#[]⟩,.string ⟨#[]⟩,.string ⟨#[]⟩,.int .i64 0,.int .i64 0] 37)):=(Below.refl _ w).alloc (Nat.le_refl _) _;go_enter Tryz.func82,Tryz.ntmps82
 go_wp2_with fail;generalize w.alloc (.cells #[.int .i64 8,.string ⟨#[]⟩,.string ⟨#[]⟩,.string ⟨#[]⟩,.int .i64 0,.int .i64 0] 37)=w0 at*;refine(H1 _ (HG.out.below B0)).out.mono ?_;rintro e w1 ⟨rfl,hb1⟩;have k1:=(hb1.block _ (Array.getElem?_eq_some_iff.1 k0).1).trans k0;have B1:=B0.trans (hb1.mono B0.size);clear k0 B0 hb1 H1;have hSB:∀w':World,Below w1.heap.size w1 w'→w'.cell? ⟨w.heap.size,0,none⟩=some (.int .i64 8):=by
  intro w' hb;have k':=(hb.block _ (Array.getElem?_eq_some_iff.1 k1).1).trans k1;rw[Lib.cell_of_heap k'];rfl
 have HB:=Aside0.mk (Below.refl w1.heap.size w1);go_wp2_with fail;go_region_held3 (fun w':World=>w'.cell? ⟨w.heap.size,0,none⟩=some (.int .i64 8)) (exact hSB _ (by repeat(first|(with_reducible first|exact HB.out|apply below_alloc|apply pw_below_drewN|apply below_drew1)|exact HB.out))) (first|(go_at_call 118;with_reducible refine(H2 _).out.mono ?_;rintro e w' ⟨rfl,hb⟩;have n0:=Aside0.mk (below_step (by repeat(first|(with_reducible first|exact HB.out|apply below_alloc|apply pw_below_drewN|apply below_drew1)|exact HB.out)) hb);clear HB hb;have HB:=n0;clear n0))
 have k2:=(HB.out.block _ (Array.getElem?_eq_some_iff.1 k1).1).trans k1;have B2:=B1.trans (HB.out.mono B1.size);clear k1 B1 hSB HB H2;have c0:w'.cell? ⟨w.heap.size,0,none⟩=some (.int .i64 8):=by rw[Lib.cell_of_heap k2];rfl
 have c1:w'.cell? ⟨bk,o,none⟩=some (.string x):=by rw[hd0 _ B2];exact hc0
 have c2:w'.cell? ⟨bk,o+1,none⟩=some (.string y):=by rw[hd1 _ B2];exact hc1
 generalize w'=w2 at*;clear hc0 hc1 hd0 hd1;go_wp2_with fail;go_region;go_wp2_with fail;refine bodyPost_ret (results_tmp2 rfl _ _ _) rfl ?_;exact⟨rfl,B2.drew⟩
set_option maxHeartbeats 4000000 in
set_option maxRecDepth 100000 in
theorem nodeBin9_at (M:Nat)(hD:DivTo M)(bk o c:Nat)(x y:ByteArray)(hx:x.size≤10000000000)(hy:y.size≤10000000000)(w:World)(hc0:w.cell? ⟨bk,o,none⟩=some (.string x))(hc1:w.cell? ⟨bk,o+1,none⟩=some (.string y))(hbk:bk<w.heap.size)(hg:Glob w):
 Calls Tryz.prog 82 #[ndV (.op 9),.slice (some ⟨bk,o,none⟩) 2 c] w fun e w'=>e= .returned (.tuple #[.string (opP 9 [x,y]),.bool true])∧Below w.heap.size w w':=by
 have H1:=fun W h=>Lib.hid (may_at' M hD (.op 9) (by unfold NdOK;omega) W h)
 have H2:=fun W=>Lib.hid (words_at W)
 have HG:=Aside0.mk hg;have IX:∀W,(Instr.index 130 wdV (.int .i64 9)).run Tryz.prog W= .ok (.string (⟨#[47]⟩:ByteArray)) W:=fun _=>by kernel_rfl
 show Calls _ _ _ _ fun e w'=>e= .returned (.tuple #[.string ((((((((⟨#[40]⟩:ByteArray)++x)++(⟨#[32]⟩:ByteArray))++(⟨#[47]⟩:ByteArray))++(⟨#[32]⟩:ByteArray))++y)++(⟨#[41]⟩:ByteArray))),.bool true])∧_
 have oa1:¬9223372036854775807<((⟨#[40]⟩:ByteArray)).size+(x).size:=by(try simp only[ByteArray.size_append,show(⟨#[32]⟩:ByteArray).size=1 from rfl,show(⟨#[40]⟩:ByteArray).size=1 from rfl,show(⟨#[41]⟩:ByteArray).size=1 from rfl,show(⟨#[47]⟩:ByteArray).size=1 from rfl]);omega
 have ob1:¬9223372036854775807<1+(x).size:=by omega
 have oc1:¬9223372036854775807<1+(x).size:=by omega
 have oa2:¬9223372036854775807<((⟨#[40]⟩:ByteArray)++x).size+((⟨#[32]⟩:ByteArray)).size:=by(try simp only[ByteArray.size_append,show(⟨#[32]⟩:ByteArray).size=1 from rfl,show(⟨#[40]⟩:ByteArray).size=1 from rfl,show(⟨#[41]⟩:ByteArray).size=1 from rfl,show(⟨#[47]⟩:ByteArray).size=1 from rfl]);omega
 have ob2:¬9223372036854775807<((⟨#[40]⟩:ByteArray)++x).size+1:=by(try simp only[ByteArray.size_append,show(⟨#[32]⟩:ByteArray).size=1 from rfl,show(⟨#[40]⟩:ByteArray).size=1 from rfl,show(⟨#[41]⟩:ByteArray).size=1 from rfl,show(⟨#[47]⟩:ByteArray).size=1 from rfl]);omega
 have oc2:¬9223372036854775807<1+(x).size+1:=by omega
 have oa3:¬9223372036854775807<((⟨#[40]⟩:ByteArray)++x++(⟨#[32]⟩:ByteArray)).size+((⟨#[47]⟩:ByteArray)).size:=by(try simp only[ByteArray.size_append,show(⟨#[32]⟩:ByteArray).size=1 from rfl,show(⟨#[40]⟩:ByteArray).size=1 from rfl,show(⟨#[41]⟩:ByteArray).size=1 from rfl,show(⟨#[47]⟩:ByteArray).size=1 from rfl]);omega
 have ob3:¬9223372036854775807<((⟨#[40]⟩:ByteArray)++x++(⟨#[32]⟩:ByteArray)).size+1:=by(try simp only[ByteArray.size_append,show(⟨#[32]⟩:ByteArray).size=1 from rfl,show(⟨#[40]⟩:ByteArray).size=1 from rfl,show(⟨#[41]⟩:ByteArray).size=1 from rfl,show(⟨#[47]⟩:ByteArray).size=1 from rfl]);omega
 have oc3:¬9223372036854775807<1+(x).size+1+1:=by omega
 have oa4:¬9223372036854775807<((⟨#[40]⟩:ByteArray)++x++(⟨#[32]⟩:ByteArray)++(⟨#[47]⟩:ByteArray)).size+((⟨#[32]⟩:ByteArray)).size:=by(try simp only[ByteArray.size_append,show(⟨#[32]⟩:ByteArray).size=1 from rfl,show(⟨#[40]⟩:ByteArray).size=1 from rfl,show(⟨#[41]⟩:ByteArray).size=1 from rfl,show(⟨#[47]⟩:ByteArray).size=1 from rfl]);omega
 have ob4:¬9223372036854775807<((⟨#[40]⟩:ByteArray)++x++(⟨#[32]⟩:ByteArray)++(⟨#[47]⟩:ByteArray)).size+1:=by(try simp only[ByteArray.size_append,show(⟨#[32]⟩:ByteArray).size=1 from rfl,show(⟨#[40]⟩:ByteArray).size=1 from rfl,show(⟨#[41]⟩:ByteArray).size=1 from rfl,show(⟨#[47]⟩:ByteArray).size=1 from rfl]);omega
 have oc4:¬9223372036854775807<1+(x).size+1+1+1:=by omega
 have oa5:¬9223372036854775807<((⟨#[40]⟩:ByteArray)++x++(⟨#[32]⟩:ByteArray)++(⟨#[47]⟩:ByteArray)++(⟨#[32]⟩:ByteArray)).size+(y).size:=by(try simp only[ByteArray.size_append,show(⟨#[32]⟩:ByteArray).size=1 from rfl,show(⟨#[40]⟩:ByteArray).size=1 from rfl,show(⟨#[41]⟩:ByteArray).size=1 from rfl,show(⟨#[47]⟩:ByteArray).size=1 from rfl]);omega
 have ob5:¬9223372036854775807<((⟨#[40]⟩:ByteArray)++x++(⟨#[32]⟩:ByteArray)++(⟨#[47]⟩:ByteArray)++(⟨#[32]⟩:ByteArray)).size+(y).size:=by(try simp only[ByteArray.size_append,show(⟨#[32]⟩:ByteArray).size=1 from rfl,show(⟨#[40]⟩:ByteArray).size=1 from rfl,show(⟨#[41]⟩:ByteArray).size=1 from rfl,show(⟨#[47]⟩:ByteArray).size=1 from rfl]);omega
 have oc5:¬9223372036854775807<1+(x).size+1+1+1+(y).size:=by omega
 have oa6:¬9223372036854775807<((⟨#[40]⟩:ByteArray)++x++(⟨#[32]⟩:ByteArray)++(⟨#[47]⟩:ByteArray)++(⟨#[32]⟩:ByteArray)++y).size+((⟨#[41]⟩:ByteArray)).size:=by(try simp only[ByteArray.size_append,show(⟨#[32]⟩:ByteArray).size=1 from rfl,show(⟨#[40]⟩:ByteArray).size=1 from rfl,show(⟨#[41]⟩:ByteArray).size=1 from rfl,show(⟨#[47]⟩:ByteArray).size=1 from rfl]);omega
 have ob6:¬9223372036854775807<((⟨#[40]⟩:ByteArray)++x++(⟨#[32]⟩:ByteArray)++(⟨#[47]⟩:ByteArray)++(⟨#[32]⟩:ByteArray)++y).size+1:=by(try simp only[ByteArray.size_append,show(⟨#[32]⟩:ByteArray).size=1 from rfl,show(⟨#[40]⟩:ByteArray).size=1 from rfl,show(⟨#[41]⟩:ByteArray).size=1 from rfl,show(⟨#[47]⟩:ByteArray).size=1 from rfl]);omega
 have oc6:¬9223372036854775807<1+(x).size+1+1+1+(y).size+1:=by omega
 have hd0:∀w',Below w.heap.size w w'→w'.cell? ⟨bk,o,none⟩=w.cell? ⟨bk,o,none⟩:=fun w' h=>below_cell h _ hbk
 have hd1:∀w',Below w.heap.size w w'→w'.cell? ⟨bk,o+1,none⟩=w.cell? ⟨bk,o+1,none⟩:=fun w' h=>below_cell h _ hbk
 simp only[ndV]at*;generalize wdV=wv at*;clear hg hD hx hy;have k0:=World.alloc_heap_new w (.cells #[.int .i64 9,.string ⟨#[]⟩,.string ⟨#[]⟩,.string ⟨#[]⟩,.int .i64 0,.int .i64 0] 37);have B0:Below w.heap.size w (w.alloc (.cells #[.int .i64 9,.string ⟨#[]⟩,.string ⟨#[]⟩,.string ⟨#[]⟩,.int .i64 0,.int .i64 0] 37)):=(Below.refl _ w).alloc (Nat.le_refl _) _;go_enter Tryz.func82,Tryz.ntmps82
 go_wp2_with fail;generalize w.alloc (.cells #[.int .i64 9,.string ⟨#[]⟩,.string ⟨#[]⟩,.string ⟨#[]⟩,.int .i64 0,.int .i64 0] 37)=w0 at*;refine(H1 _ (HG.out.below B0)).out.mono ?_;rintro e w1 ⟨rfl,hb1⟩;have k1:=(hb1.block _ (Array.getElem?_eq_some_iff.1 k0).1).trans k0;have B1:=B0.trans (hb1.mono B0.size);clear k0 B0 hb1 H1;have hSB:∀w':World,Below w1.heap.size w1 w'→w'.cell? ⟨w.heap.size,0,none⟩=some (.int .i64 9):=by
  intro w' hb;have k':=(hb.block _ (Array.getElem?_eq_some_iff.1 k1).1).trans k1;rw[Lib.cell_of_heap k'];rfl
 have HB:=Aside0.mk (Below.refl w1.heap.size w1);go_wp2_with fail;go_region_held3 (fun w':World=>w'.cell? ⟨w.heap.size,0,none⟩=some (.int .i64 9)) (exact hSB _ (by repeat(first|(with_reducible first|exact HB.out|apply below_alloc|apply pw_below_drewN|apply below_drew1)|exact HB.out))) (first|(go_at_call 118;with_reducible refine(H2 _).out.mono ?_;rintro e w' ⟨rfl,hb⟩;have n0:=Aside0.mk (below_step (by repeat(first|(with_reducible first|exact HB.out|apply below_alloc|apply pw_below_drewN|apply below_drew1)|exact HB.out)) hb);clear HB hb;have HB:=n0;clear n0))
 have k2:=(HB.out.block _ (Array.getElem?_eq_some_iff.1 k1).1).trans k1;have B2:=B1.trans (HB.out.mono B1.size);clear k1 B1 hSB HB H2;have c0:w'.cell? ⟨w.heap.size,0,none⟩=some (.int .i64 9):=by rw[Lib.cell_of_heap k2];rfl
 have c1:w'.cell? ⟨bk,o,none⟩=some (.string x):=by rw[hd0 _ B2];exact hc0
 have c2:w'.cell? ⟨bk,o+1,none⟩=some (.string y):=by rw[hd1 _ B2];exact hc1
 generalize w'=w2 at*;clear hc0 hc1 hd0 hd1;go_wp2_with fail;go_region;go_wp2_with fail;refine bodyPost_ret (results_tmp2 rfl _ _ _) rfl ?_;exact⟨rfl,B2.drew⟩
set_option maxHeartbeats 4000000 in
set_option maxRecDepth 100000 in
theorem nodeFun10_at (M:Nat)(hD:DivTo M)(bk o c:Nat)(l:List ByteArray)(hl:l.length≤3)(hlc:l.length≤c)(hsz:(joinB l).size≤100000000000)(w:World)(hcells:∀(j:Nat) x,l[j]? =some x→w.cell? ⟨bk,o+j,none⟩=some (.string x))(hbk:bk<w.heap.size)(hg:Glob w):
 Calls Tryz.prog 82 #[ndV (.op 10),.slice (some ⟨bk,o,none⟩) l.length c] w fun e w'=>e= .returned (.tuple #[.string (opP 10 l),.bool true])∧Below w.heap.size w w':=by
 have H1:=fun W h=>Lib.hid (may_at' M hD (.op 10) (by unfold NdOK;omega) W h)
 have H2:=fun W=>Lib.hid (words_at W)
 have H3:∀W,Below w.heap.size w W→Calls Tryz.prog 121 #[.slice (some ⟨bk,o,none⟩) l.length c,.string (⟨#[44,32]⟩:ByteArray)] W fun e w'=>e= .returned (.string (joinB l))∧Below W.heap.size W w':=by
  intro W hb;have hj:(joinB l).size=(Lib.join (l.map (·.data.toList)) [44,32]).length:=by unfold joinB;show Array.size (List.toArray _)=_;rw[List.size_toArray]
  exact Tryz.strings_Join bk o c l (⟨#[44,32]⟩:ByteArray) W (fun j x hjx=>by rw[below_cell hb _ hbk];exact hcells j x hjx) (Nat.lt_of_lt_of_le hbk hb.size) (by omega) hlc (by show(Lib.join (l.map (·.data.toList)) [44,32]).length≤_;omega)
 have H4:=fun W h=>Lib.hid (H3 W h)
 have HG:=Aside0.mk hg;have IX:∀W,(Instr.index 130 wdV (.int .i64 10)).run Tryz.prog W= .ok (.string (⟨#[109,97,120]⟩:ByteArray)) W:=fun _=>by kernel_rfl
 show Calls _ _ _ _ fun e w'=>e= .returned (.tuple #[.string ((((⟨#[109,97,120]⟩:ByteArray)++(⟨#[40]⟩:ByteArray))++joinB l)++(⟨#[41]⟩:ByteArray)),.bool true])∧_
 have oa1:¬9223372036854775807<((⟨#[109,97,120]⟩:ByteArray)).size+((⟨#[40]⟩:ByteArray)).size:=by decide+revert
 have ob1:¬9223372036854775807<3+1:=by omega
 have oc1:¬9223372036854775807<3+1:=by omega
 have oa2:¬9223372036854775807<((⟨#[109,97,120]⟩:ByteArray)++(⟨#[40]⟩:ByteArray)).size+(joinB l).size:=by(try simp only[ByteArray.size_append,show(⟨#[109,97,120]⟩:ByteArray).size=3 from rfl,show(⟨#[40]⟩:ByteArray).size=1 from rfl,show(⟨#[41]⟩:ByteArray).size=1 from rfl]);omega
 have ob2:¬9223372036854775807<((⟨#[109,97,120]⟩:ByteArray)++(⟨#[40]⟩:ByteArray)).size+(joinB l).size:=by(try simp only[ByteArray.size_append,show(⟨#[109,97,120]⟩:ByteArray).size=3 from rfl,show(⟨#[40]⟩:ByteArray).size=1 from rfl,show(⟨#[41]⟩:ByteArray).size=1 from rfl]);omega
 have oc2:¬9223372036854775807<3+1+(joinB l).size:=by omega
 have oa3:¬9223372036854775807<((⟨#[109,97,120]⟩:ByteArray)++(⟨#[40]⟩:ByteArray)++joinB l).size+((⟨#[41]⟩:ByteArray)).size:=by(try simp only[ByteArray.size_append,show(⟨#[109,97,120]⟩:ByteArray).size=3 from rfl,show(⟨#[40]⟩:ByteArray).size=1 from rfl,show(⟨#[41]⟩:ByteArray).size=1 from rfl]);omega
 have ob3:¬9223372036854775807<((⟨#[109,97,120]⟩:ByteArray)++(⟨#[40]⟩:ByteArray)++joinB l).size+1:=by(try simp only[ByteArray.size_append,show(⟨#[109,97,120]⟩:ByteArray).size=3 from rfl,show(⟨#[40]⟩:ByteArray).size=1 from rfl,show(⟨#[41]⟩:ByteArray).size=1 from rfl]);omega
 have oc3:¬9223372036854775807<3+1+(joinB l).size+1:=by omega
 simp only[ndV]at*;generalize wdV=wv at*;generalize joinB l=J at*;generalize l.length=n at*;clear hg hD hsz hcells H3 hbk;have k0:=World.alloc_heap_new w (.cells #[.int .i64 10,.string ⟨#[]⟩,.string ⟨#[]⟩,.string ⟨#[]⟩,.int .i64 0,.int .i64 0] 37);have B0:Below w.heap.size w (w.alloc (.cells #[.int .i64 10,.string ⟨#[]⟩,.string ⟨#[]⟩,.string ⟨#[]⟩,.int .i64 0,.int .i64 0] 37)):=(Below.refl _ w).alloc (Nat.le_refl _) _;go_enter Tryz.func82,Tryz.ntmps82
 go_wp2_with fail;generalize w.alloc (.cells #[.int .i64 10,.string ⟨#[]⟩,.string ⟨#[]⟩,.string ⟨#[]⟩,.int .i64 0,.int .i64 0] 37)=w0 at*;refine(H1 _ (HG.out.below B0)).out.mono ?_;rintro e w1 ⟨rfl,hb1⟩;have k1:=(hb1.block _ (Array.getElem?_eq_some_iff.1 k0).1).trans k0;have B1:=B0.trans (hb1.mono B0.size);clear k0 B0 hb1 H1;have hSB:∀w':World,Below w1.heap.size w1 w'→w'.cell? ⟨w.heap.size,0,none⟩=some (.int .i64 10):=by
  intro w' hb;have k':=(hb.block _ (Array.getElem?_eq_some_iff.1 k1).1).trans k1;rw[Lib.cell_of_heap k'];rfl
 have HB:=Aside0.mk (Below.refl w1.heap.size w1);go_wp2_with fail;go_region_held3 (fun w':World=>w'.cell? ⟨w.heap.size,0,none⟩=some (.int .i64 10)) (exact hSB _ (by repeat(first|(with_reducible first|exact HB.out|apply below_alloc|apply pw_below_drewN|apply below_drew1)|exact HB.out))) (first|(go_at_call 118;with_reducible refine(H2 _).out.mono ?_;rintro e w' ⟨rfl,hb⟩;have n0:=Aside0.mk (below_step (by repeat(first|(with_reducible first|exact HB.out|apply below_alloc|apply pw_below_drewN|apply below_drew1)|exact HB.out)) hb);clear HB hb;have HB:=n0;clear n0))
 have k2:=(HB.out.block _ (Array.getElem?_eq_some_iff.1 k1).1).trans k1;have B2:=B1.trans (HB.out.mono B1.size);clear k1 B1 hSB HB H2;have c0:w'.cell? ⟨w.heap.size,0,none⟩=some (.int .i64 10):=by rw[Lib.cell_of_heap k2];rfl
 generalize w'=w2 at*;go_wp2_with fail;refine(H4 _ B2).out.mono ?_;rintro e w3 ⟨rfl,hb3⟩;have B3:=B2.trans (hb3.mono B2.size);go_wp2_with fail;refine bodyPost_ret (results_tmp2 rfl _ _ _) rfl ?_;exact⟨rfl,B3⟩
set_option maxHeartbeats 4000000 in
set_option maxRecDepth 100000 in
theorem nodeFun11_at (M:Nat)(hD:DivTo M)(bk o c:Nat)(l:List ByteArray)(hl:l.length≤3)(hlc:l.length≤c)(hsz:(joinB l).size≤100000000000)(w:World)(hcells:∀(j:Nat) x,l[j]? =some x→w.cell? ⟨bk,o+j,none⟩=some (.string x))(hbk:bk<w.heap.size)(hg:Glob w):
 Calls Tryz.prog 82 #[ndV (.op 11),.slice (some ⟨bk,o,none⟩) l.length c] w fun e w'=>e= .returned (.tuple #[.string (opP 11 l),.bool true])∧Below w.heap.size w w':=by
 have H1:=fun W h=>Lib.hid (may_at' M hD (.op 11) (by unfold NdOK;omega) W h)
 have H2:=fun W=>Lib.hid (words_at W)
 have H3:∀W,Below w.heap.size w W→Calls Tryz.prog 121 #[.slice (some ⟨bk,o,none⟩) l.length c,.string (⟨#[44,32]⟩:ByteArray)] W fun e w'=>e= .returned (.string (joinB l))∧Below W.heap.size W w':=by
  intro W hb;have hj:(joinB l).size=(Lib.join (l.map (·.data.toList)) [44,32]).length:=by unfold joinB;show Array.size (List.toArray _)=_;rw[List.size_toArray]
  exact Tryz.strings_Join bk o c l (⟨#[44,32]⟩:ByteArray) W (fun j x hjx=>by rw[below_cell hb _ hbk];exact hcells j x hjx) (Nat.lt_of_lt_of_le hbk hb.size) (by omega) hlc (by show(Lib.join (l.map (·.data.toList)) [44,32]).length≤_;omega)
 have H4:=fun W h=>Lib.hid (H3 W h)
 have HG:=Aside0.mk hg;have IX:∀W,(Instr.index 130 wdV (.int .i64 11)).run Tryz.prog W= .ok (.string (⟨#[109,105,110]⟩:ByteArray)) W:=fun _=>by kernel_rfl
 show Calls _ _ _ _ fun e w'=>e= .returned (.tuple #[.string ((((⟨#[109,105,110]⟩:ByteArray)++(⟨#[40]⟩:ByteArray))++joinB l)++(⟨#[41]⟩:ByteArray)),.bool true])∧_
 have oa1:¬9223372036854775807<((⟨#[109,105,110]⟩:ByteArray)).size+((⟨#[40]⟩:ByteArray)).size:=by decide+revert
 have ob1:¬9223372036854775807<3+1:=by omega
 have oc1:¬9223372036854775807<3+1:=by omega
 have oa2:¬9223372036854775807<((⟨#[109,105,110]⟩:ByteArray)++(⟨#[40]⟩:ByteArray)).size+(joinB l).size:=by(try simp only[ByteArray.size_append,show(⟨#[109,105,110]⟩:ByteArray).size=3 from rfl,show(⟨#[40]⟩:ByteArray).size=1 from rfl,show(⟨#[41]⟩:ByteArray).size=1 from rfl]);omega
 have ob2:¬9223372036854775807<((⟨#[109,105,110]⟩:ByteArray)++(⟨#[40]⟩:ByteArray)).size+(joinB l).size:=by(try simp only[ByteArray.size_append,show(⟨#[109,105,110]⟩:ByteArray).size=3 from rfl,show(⟨#[40]⟩:ByteArray).size=1 from rfl,show(⟨#[41]⟩:ByteArray).size=1 from rfl]);omega
 have oc2:¬9223372036854775807<3+1+(joinB l).size:=by omega
 have oa3:¬9223372036854775807<((⟨#[109,105,110]⟩:ByteArray)++(⟨#[40]⟩:ByteArray)++joinB l).size+((⟨#[41]⟩:ByteArray)).size:=by(try simp only[ByteArray.size_append,show(⟨#[109,105,110]⟩:ByteArray).size=3 from rfl,show(⟨#[40]⟩:ByteArray).size=1 from rfl,show(⟨#[41]⟩:ByteArray).size=1 from rfl]);omega
 have ob3:¬9223372036854775807<((⟨#[109,105,110]⟩:ByteArray)++(⟨#[40]⟩:ByteArray)++joinB l).size+1:=by(try simp only[ByteArray.size_append,show(⟨#[109,105,110]⟩:ByteArray).size=3 from rfl,show(⟨#[40]⟩:ByteArray).size=1 from rfl,show(⟨#[41]⟩:ByteArray).size=1 from rfl]);omega
 have oc3:¬9223372036854775807<3+1+(joinB l).size+1:=by omega
 simp only[ndV]at*;generalize wdV=wv at*;generalize joinB l=J at*;generalize l.length=n at*;clear hg hD hsz hcells H3 hbk;have k0:=World.alloc_heap_new w (.cells #[.int .i64 11,.string ⟨#[]⟩,.string ⟨#[]⟩,.string ⟨#[]⟩,.int .i64 0,.int .i64 0] 37);have B0:Below w.heap.size w (w.alloc (.cells #[.int .i64 11,.string ⟨#[]⟩,.string ⟨#[]⟩,.string ⟨#[]⟩,.int .i64 0,.int .i64 0] 37)):=(Below.refl _ w).alloc (Nat.le_refl _) _;go_enter Tryz.func82,Tryz.ntmps82
 go_wp2_with fail;generalize w.alloc (.cells #[.int .i64 11,.string ⟨#[]⟩,.string ⟨#[]⟩,.string ⟨#[]⟩,.int .i64 0,.int .i64 0] 37)=w0 at*;refine(H1 _ (HG.out.below B0)).out.mono ?_;rintro e w1 ⟨rfl,hb1⟩;have k1:=(hb1.block _ (Array.getElem?_eq_some_iff.1 k0).1).trans k0;have B1:=B0.trans (hb1.mono B0.size);clear k0 B0 hb1 H1;have hSB:∀w':World,Below w1.heap.size w1 w'→w'.cell? ⟨w.heap.size,0,none⟩=some (.int .i64 11):=by
  intro w' hb;have k':=(hb.block _ (Array.getElem?_eq_some_iff.1 k1).1).trans k1;rw[Lib.cell_of_heap k'];rfl
 have HB:=Aside0.mk (Below.refl w1.heap.size w1);go_wp2_with fail;go_region_held3 (fun w':World=>w'.cell? ⟨w.heap.size,0,none⟩=some (.int .i64 11)) (exact hSB _ (by repeat(first|(with_reducible first|exact HB.out|apply below_alloc|apply pw_below_drewN|apply below_drew1)|exact HB.out))) (first|(go_at_call 118;with_reducible refine(H2 _).out.mono ?_;rintro e w' ⟨rfl,hb⟩;have n0:=Aside0.mk (below_step (by repeat(first|(with_reducible first|exact HB.out|apply below_alloc|apply pw_below_drewN|apply below_drew1)|exact HB.out)) hb);clear HB hb;have HB:=n0;clear n0))
 have k2:=(HB.out.block _ (Array.getElem?_eq_some_iff.1 k1).1).trans k1;have B2:=B1.trans (HB.out.mono B1.size);clear k1 B1 hSB HB H2;have c0:w'.cell? ⟨w.heap.size,0,none⟩=some (.int .i64 11):=by rw[Lib.cell_of_heap k2];rfl
 generalize w'=w2 at*;go_wp2_with fail;refine(H4 _ B2).out.mono ?_;rintro e w3 ⟨rfl,hb3⟩;have B3:=B2.trans (hb3.mono B2.size);go_wp2_with fail;refine bodyPost_ret (results_tmp2 rfl _ _ _) rfl ?_;exact⟨rfl,B3⟩
set_option maxHeartbeats 4000000 in
set_option maxRecDepth 100000 in
theorem nodeFun12_at (M:Nat)(hD:DivTo M)(bk o c:Nat)(l:List ByteArray)(hl:l.length≤3)(hlc:l.length≤c)(hsz:(joinB l).size≤100000000000)(w:World)(hcells:∀(j:Nat) x,l[j]? =some x→w.cell? ⟨bk,o+j,none⟩=some (.string x))(hbk:bk<w.heap.size)(hg:Glob w):
 Calls Tryz.prog 82 #[ndV (.op 12),.slice (some ⟨bk,o,none⟩) l.length c] w fun e w'=>e= .returned (.tuple #[.string (opP 12 l),.bool true])∧Below w.heap.size w w':=by
 have H1:=fun W h=>Lib.hid (may_at' M hD (.op 12) (by unfold NdOK;omega) W h)
 have H2:=fun W=>Lib.hid (words_at W)
 have H3:∀W,Below w.heap.size w W→Calls Tryz.prog 121 #[.slice (some ⟨bk,o,none⟩) l.length c,.string (⟨#[44,32]⟩:ByteArray)] W fun e w'=>e= .returned (.string (joinB l))∧Below W.heap.size W w':=by
  intro W hb;have hj:(joinB l).size=(Lib.join (l.map (·.data.toList)) [44,32]).length:=by unfold joinB;show Array.size (List.toArray _)=_;rw[List.size_toArray]
  exact Tryz.strings_Join bk o c l (⟨#[44,32]⟩:ByteArray) W (fun j x hjx=>by rw[below_cell hb _ hbk];exact hcells j x hjx) (Nat.lt_of_lt_of_le hbk hb.size) (by omega) hlc (by show(Lib.join (l.map (·.data.toList)) [44,32]).length≤_;omega)
 have H4:=fun W h=>Lib.hid (H3 W h)
 have HG:=Aside0.mk hg;have IX:∀W,(Instr.index 130 wdV (.int .i64 12)).run Tryz.prog W= .ok (.string (⟨#[105,102]⟩:ByteArray)) W:=fun _=>by kernel_rfl
 show Calls _ _ _ _ fun e w'=>e= .returned (.tuple #[.string ((((⟨#[105,102]⟩:ByteArray)++(⟨#[40]⟩:ByteArray))++joinB l)++(⟨#[41]⟩:ByteArray)),.bool true])∧_
 have oa1:¬9223372036854775807<((⟨#[105,102]⟩:ByteArray)).size+((⟨#[40]⟩:ByteArray)).size:=by decide+revert
 have ob1:¬9223372036854775807<2+1:=by omega
 have oc1:¬9223372036854775807<2+1:=by omega
 have oa2:¬9223372036854775807<((⟨#[105,102]⟩:ByteArray)++(⟨#[40]⟩:ByteArray)).size+(joinB l).size:=by(try simp only[ByteArray.size_append,show(⟨#[105,102]⟩:ByteArray).size=2 from rfl,show(⟨#[40]⟩:ByteArray).size=1 from rfl,show(⟨#[41]⟩:ByteArray).size=1 from rfl]);omega
 have ob2:¬9223372036854775807<((⟨#[105,102]⟩:ByteArray)++(⟨#[40]⟩:ByteArray)).size+(joinB l).size:=by(try simp only[ByteArray.size_append,show(⟨#[105,102]⟩:ByteArray).size=2 from rfl,show(⟨#[40]⟩:ByteArray).size=1 from rfl,show(⟨#[41]⟩:ByteArray).size=1 from rfl]);omega
 have oc2:¬9223372036854775807<2+1+(joinB l).size:=by omega
 have oa3:¬9223372036854775807<((⟨#[105,102]⟩:ByteArray)++(⟨#[40]⟩:ByteArray)++joinB l).size+((⟨#[41]⟩:ByteArray)).size:=by(try simp only[ByteArray.size_append,show(⟨#[105,102]⟩:ByteArray).size=2 from rfl,show(⟨#[40]⟩:ByteArray).size=1 from rfl,show(⟨#[41]⟩:ByteArray).size=1 from rfl]);omega
 have ob3:¬9223372036854775807<((⟨#[105,102]⟩:ByteArray)++(⟨#[40]⟩:ByteArray)++joinB l).size+1:=by(try simp only[ByteArray.size_append,show(⟨#[105,102]⟩:ByteArray).size=2 from rfl,show(⟨#[40]⟩:ByteArray).size=1 from rfl,show(⟨#[41]⟩:ByteArray).size=1 from rfl]);omega
 have oc3:¬9223372036854775807<2+1+(joinB l).size+1:=by omega
 simp only[ndV]at*;generalize wdV=wv at*;generalize joinB l=J at*;generalize l.length=n at*;clear hg hD hsz hcells H3 hbk;have k0:=World.alloc_heap_new w (.cells #[.int .i64 12,.string ⟨#[]⟩,.string ⟨#[]⟩,.string ⟨#[]⟩,.int .i64 0,.int .i64 0] 37);have B0:Below w.heap.size w (w.alloc (.cells #[.int .i64 12,.string ⟨#[]⟩,.string ⟨#[]⟩,.string ⟨#[]⟩,.int .i64 0,.int .i64 0] 37)):=(Below.refl _ w).alloc (Nat.le_refl _) _;go_enter Tryz.func82,Tryz.ntmps82
 go_wp2_with fail;generalize w.alloc (.cells #[.int .i64 12,.string ⟨#[]⟩,.string ⟨#[]⟩,.string ⟨#[]⟩,.int .i64 0,.int .i64 0] 37)=w0 at*;refine(H1 _ (HG.out.below B0)).out.mono ?_;rintro e w1 ⟨rfl,hb1⟩;have k1:=(hb1.block _ (Array.getElem?_eq_some_iff.1 k0).1).trans k0;have B1:=B0.trans (hb1.mono B0.size);clear k0 B0 hb1 H1;have hSB:∀w':World,Below w1.heap.size w1 w'→w'.cell? ⟨w.heap.size,0,none⟩=some (.int .i64 12):=by
  intro w' hb;have k':=(hb.block _ (Array.getElem?_eq_some_iff.1 k1).1).trans k1;rw[Lib.cell_of_heap k'];rfl
 have HB:=Aside0.mk (Below.refl w1.heap.size w1);go_wp2_with fail;go_region_held3 (fun w':World=>w'.cell? ⟨w.heap.size,0,none⟩=some (.int .i64 12)) (exact hSB _ (by repeat(first|(with_reducible first|exact HB.out|apply below_alloc|apply pw_below_drewN|apply below_drew1)|exact HB.out))) (first|(go_at_call 118;with_reducible refine(H2 _).out.mono ?_;rintro e w' ⟨rfl,hb⟩;have n0:=Aside0.mk (below_step (by repeat(first|(with_reducible first|exact HB.out|apply below_alloc|apply pw_below_drewN|apply below_drew1)|exact HB.out)) hb);clear HB hb;have HB:=n0;clear n0))
 have k2:=(HB.out.block _ (Array.getElem?_eq_some_iff.1 k1).1).trans k1;have B2:=B1.trans (HB.out.mono B1.size);clear k1 B1 hSB HB H2;have c0:w'.cell? ⟨w.heap.size,0,none⟩=some (.int .i64 12):=by rw[Lib.cell_of_heap k2];rfl
 generalize w'=w2 at*;go_wp2_with fail;refine(H4 _ B2).out.mono ?_;rintro e w3 ⟨rfl,hb3⟩;have B3:=B2.trans (hb3.mono B2.size);go_wp2_with fail;refine bodyPost_ret (results_tmp2 rfl _ _ _) rfl ?_;exact⟨rfl,B3⟩
end Go.Proofs.YtjopepfemhckjaaGreatDoor.NW
end
