/-
  Part 37 of the proof of parseBlanks_holds: texts of this seat, put together.
-/
import Derived.Test.YtjopepfemhckjaaGreatDoorBk36
set_option linter.unusedVariables false
set_option linter.unusedSimpArgs false
section
namespace Go.Proofs.YtjopepfemhckjaaGreatDoor.NW
open Go.Proofs Go.RowKit Go.Shelf Go.Proofs.YtjopepfemhckjaaGreatDoor.PN Go.Proofs.YtjopepfemhckjaaGreatDoorW.PrintWords Go.Proofs.YtjopepfemhckjaaGreatDoor.PParseTells
set_option maxHeartbeats 4000000 in
set_option maxRecDepth 100000 in
theorem rPrint0_at (zs ds:ByteArray)(HM:∀w,RowKit.Hid (Calls Tryz.prog 55 #[.agg #[.string zs,.string ds]] w fun e w'=>e= .returned (.bool true)∧Below w.heap.size w w'))(HP:∀w,RowKit.Hid (Calls Tryz.prog 96 #[.agg #[.string zs,.string ds]] w fun e w'=>e= .returned (.tuple #[.int .i64 0,.bool true])∧Below w.heap.size w w'))(w:World):
 Calls Tryz.prog 98 #[.agg #[.string zs,.string ds]] w fun e w'=>e= .returned (.string zs)∧Below w.heap.size w w':=by
 have k0:=World.alloc_heap_new w (.cells #[.string zs,.string ds] 35);have B0:Below w.heap.size w (w.alloc (.cells #[.string zs,.string ds] 35)):=(Below.refl _ w).alloc (Nat.le_refl _) _;go_enter Tryz.func98,Tryz.ntmps98
 go_wp2_with fail;generalize w.alloc (.cells #[.string zs,.string ds] 35)=w0 at*;refine(HM _).out.mono ?_;rintro e w1 ⟨rfl,hb⟩;have k1:=keptB hb k0;have B1:=B0.trans (hb.mono B0.size);clear k0 B0 hb;have c0:w1.cell? ⟨w.heap.size,0,none⟩=some (.string zs):=by rw[Lib.cell_of_heap k1];rfl
 have c1:w1.cell? ⟨w.heap.size,1,none⟩=some (.string ds):=by rw[Lib.cell_of_heap k1];rfl
 go_wp2_with fail;refine(HP _).out.mono ?_;rintro e w2 ⟨rfl,hb⟩;have k2:=keptB hb k1;have B2:=B1.trans (hb.mono B1.size);clear k1 B1 hb c0 c1;have c0:w2.cell? ⟨w.heap.size,0,none⟩=some (.string zs):=by rw[Lib.cell_of_heap k2];rfl
 have c1:w2.cell? ⟨w.heap.size,1,none⟩=some (.string ds):=by rw[Lib.cell_of_heap k2];rfl
 go_wp2_with fail;go_ret;exact⟨rfl,B2⟩
set_option maxHeartbeats 4000000 in
set_option maxRecDepth 100000 in
theorem rPrintN_at (zs ds z1 ps d1 pr z2:ByteArray)(n:Nat)(sg:Int)(hn0:0<n)(hn:n≤1000)(hz1:z1.size=n)(hpr:pr.size≤1000000)(hz2:z2.size=n+1-pr.size)(hsg:0≤sg)
 (HM:∀w,RowKit.Hid (Calls Tryz.prog 55 #[.agg #[.string zs,.string ds]] w fun e w'=>e= .returned (.bool true)∧Below w.heap.size w w'))(HP:∀w,RowKit.Hid (Calls Tryz.prog 96 #[.agg #[.string zs,.string ds]] w fun e w'=>e= .returned (.tuple #[.int .i64 (n:Int),.bool true])∧Below w.heap.size w w'))(HZ1:∀w,RowKit.Hid (Calls Tryz.prog 127 #[.int .i64 (n:Int)] w fun e w'=>e= .returned (.string z1)∧Below w.heap.size w w'))(HMU:∀w,RowKit.Hid (Calls Tryz.prog 126 #[.agg #[.string zs,.string ds],.agg #[.string ((⟨#[49]⟩:ByteArray)++z1),.string ⟨#[49]⟩]] w fun e w'=>e= .returned (.agg #[.string ps,.string d1])∧Below w.heap.size w w'))(HAB:∀w,RowKit.Hid (Calls Tryz.prog 56 #[.string ps] w fun e w'=>e= .returned (.string pr)∧Below w.heap.size w w'))(HZ2:∀w,RowKit.Hid (Calls Tryz.prog 127 #[.int .i64 ((n+1-pr.size:Nat):Int)] w fun e w'=>e= .returned (.string z2)∧Below w.heap.size w w'))(HSG:∀w,RowKit.Hid (Calls Tryz.prog 97 #[.agg #[.string zs,.string ds]] w fun e w'=>e= .returned (.int .i64 sg)∧Below w.heap.size w w'))(w:World):
 Calls Tryz.prog 98 #[.agg #[.string zs,.string ds]] w fun e w'=>e= .returned (.string ((((⟨#[]⟩:ByteArray)++(z2++pr).extract 0 ((z2++pr).size-n))++(⟨#[46]⟩:ByteArray))++(z2++pr).extract ((z2++pr).size-n) (z2++pr).size))∧Below w.heap.size w w':=by
 obtain⟨RR,hR⟩:∃RR,((((⟨#[]⟩:ByteArray)++(z2++pr).extract 0 ((z2++pr).size-n))++(⟨#[46]⟩:ByteArray))++(z2++pr).extract ((z2++pr).size-n) (z2++pr).size)=RR:=⟨_,rfl⟩;rw[hR];have HR:=Aside0.mk hR;have hpa:(z2++pr).size=z2.size+pr.size:=ByteArray.size_append;have hn00:¬((n:Int)=0):=by omega
 have hpz:n+1≤(z2++pr).size:=by omega
 have hpz2:(z2++pr).size≤2000001:=by omega
 have ov1:¬9223372036854775807<z2.size+pr.size:=by omega
 have ov2:¬9223372036854775807<1+z1.size:=by omega
 have ov3:¬9223372036854775807<(⟨#[49]⟩:ByteArray).size+z1.size:=by show¬_<1+_;omega
 have HZZ:=Aside0.mk hz1;have HZY:=Aside0.mk hz2;clear hR hz1 hz2;have k0:=World.alloc_heap_new w (.cells #[.string zs,.string ds] 35);have B0:Below w.heap.size w (w.alloc (.cells #[.string zs,.string ds] 35)):=(Below.refl _ w).alloc (Nat.le_refl _) _;go_enter Tryz.func98,Tryz.ntmps98
 go_wp2_with fail;generalize w.alloc (.cells #[.string zs,.string ds] 35)=w0 at*;refine(HM _).out.mono ?_;rintro e w1 ⟨rfl,hb⟩;have k1:=keptB hb k0;have B1:=B0.trans (hb.mono B0.size);clear k0 B0 hb;have c0:w1.cell? ⟨w.heap.size,0,none⟩=some (.string zs):=by rw[Lib.cell_of_heap k1];rfl
 have c1:w1.cell? ⟨w.heap.size,1,none⟩=some (.string ds):=by rw[Lib.cell_of_heap k1];rfl
 go_wp2_with fail;refine(HP _).out.mono ?_;rintro e w2 ⟨rfl,hb⟩;have k2:=keptB hb k1;have B2:=B1.trans (hb.mono B1.size);clear k1 B1 hb c0 c1;have c0:w2.cell? ⟨w.heap.size,0,none⟩=some (.string zs):=by rw[Lib.cell_of_heap k2];rfl
 have c1:w2.cell? ⟨w.heap.size,1,none⟩=some (.string ds):=by rw[Lib.cell_of_heap k2];rfl
 go_wp2_with fail;have hlt:w.heap.size<w2.heap.size:=(Array.getElem?_eq_some_iff.1 k2).1;have hSB:∀w':World,Below w2.heap.size w2 w'→w'.cell? ⟨w.heap.size,0,none⟩=some (.string zs)∧w'.cell? ⟨w.heap.size,1,none⟩=some (.string ds):=fun w' hb=>by
  have k:=keptB hb k2;exact⟨by rw[Lib.cell_of_heap k];rfl,by rw[Lib.cell_of_heap k];rfl⟩
 have HK2:=Aside0.mk k2;have HB2:=Aside0.mk B2;have HB:=Aside0.mk (Below.refl w2.heap.size w2);clear B2 k2;go_region_held3 (fun w':World=>w'.cell? ⟨w.heap.size,0,none⟩=some (.string zs)∧w'.cell? ⟨w.heap.size,1,none⟩=some (.string ds)) (first|exact hSB _ (below_put (below_put (by repeat(first|(with_reducible first|exact HB.out|apply below_alloc|apply pw_below_drewN|apply below_drew1)|exact HB.out)) (by first|exact Nat.le_refl _|omega) _ _) (by first|exact Nat.le_refl _|omega) _ _)|exact hSB _ (below_put (by repeat(first|(with_reducible first|exact HB.out|apply below_alloc|apply pw_below_drewN|apply below_drew1)|exact HB.out)) (by first|exact Nat.le_refl _|omega) _ _)|exact hSB _ (by repeat(first|(with_reducible first|exact HB.out|apply below_alloc|apply pw_below_drewN|apply below_drew1)|exact HB.out))) (first|(go_at_call 127;with_reducible refine(HZ1 _).out.mono ?_;rintro e w4 ⟨rfl,hb4⟩;obtain⟨hc4,hf4⟩:=bcell hb4;have hz4:=hb4.size;(try simp at hz4);(try have hz4':w2.heap.size<w4.heap.size:=by omega);have n0:=Aside0.mk (below_step (by repeat(first|(with_reducible first|exact HB.out|apply below_alloc|apply pw_below_drewN|apply below_drew1)|exact HB.out)) hb4);clear HB hb4;have HB:=n0;clear n0)|(go_at_call 126;with_reducible refine(HMU _).out.mono ?_;rintro e w5 ⟨rfl,hb5⟩;obtain⟨hc5,hf5⟩:=bcell hb5;have hz5:=hb5.size;(try simp at hz5);(try have hz5':w4.heap.size<w5.heap.size:=by omega);have n0:=Aside0.mk (below_step (by repeat(first|(with_reducible first|exact HB.out|apply below_alloc|apply pw_below_drewN|apply below_drew1)|exact HB.out)) hb5);clear HB hb5;have HB:=n0;clear n0))
 all_goals(
  go_wp2_with fail;refine(HAB _).out.mono ?_;rintro e w6 ⟨rfl,hb6⟩;have hB6:Below w2.heap.size w2 w6:=by first|exact below_step (below_put (below_put (by repeat(first|(with_reducible first|exact HB.out|apply below_alloc|apply pw_below_drewN|apply below_drew1)|exact HB.out)) (by first|exact Nat.le_refl _|omega) _ _) (by first|exact Nat.le_refl _|omega) _ _) hb6|exact below_step (by repeat(first|(with_reducible first|exact HB.out|apply below_alloc|apply pw_below_drewN|apply below_drew1)|exact HB.out)) hb6
  have k6:=keptB hB6 HK2.out;have B6:=HB2.out.trans (hB6.mono HB2.out.size);clear hB6 hb6 HB HB2 HK2 hc4 hc5 hf4 hf5 hz4 hz5 hSB HAB HZ1 HMU hlt c0 c1
  (try clear hz4')
  (try clear hz5')
  have c0:w6.cell? ⟨w.heap.size,0,none⟩=some (.string zs):=by rw[Lib.cell_of_heap k6];rfl
  have c1:w6.cell? ⟨w.heap.size,1,none⟩=some (.string ds):=by rw[Lib.cell_of_heap k6];rfl
  go_wp2_with fail;rw[show max ((n:Int)+1-(pr.size:Int)) 0=((n+1-pr.size:Nat):Int) by omega]
  refine(HZ2 _).out.mono ?_;rintro e w7 ⟨rfl,hb7⟩;have k7:=keptB hb7 k6;have B7:=B6.trans (hb7.mono B6.size);clear k6 B6 hb7 HZ2 c0 c1;have c0:w7.cell? ⟨w.heap.size,0,none⟩=some (.string zs):=by rw[Lib.cell_of_heap k7];rfl
  have c1:w7.cell? ⟨w.heap.size,1,none⟩=some (.string ds):=by rw[Lib.cell_of_heap k7];rfl
  go_wp2_with fail;refine(HSG _).out.mono ?_;rintro e w8 ⟨rfl,hb8⟩;have B8:=B7.trans (hb8.mono B7.size);clear k7 B7 hb8 HSG c0 c1;have hs2:¬sg<0:=by omega
  clear hpa ov1;generalize z2++pr=P at*;obtain⟨m,hm⟩:∃m,P.size-n=m:=⟨_,rfl⟩;have hmi:(P.size:Int)-(n:Int)=(m:Int):=by omega
  rw[hm]at HR;have o46:(⟨#[46]⟩:ByteArray).size=1:=rfl;have ob:(⟨#[]⟩:ByteArray).size=0:=rfl;have e1:(P.extract 0 m).size=m:=by rw[ByteArray.size_extract];omega
  have e2:(P.extract m P.size).size=n:=by rw[ByteArray.size_extract];omega
  have v1:¬9223372036854775807<(⟨#[]⟩:ByteArray).size+(P.extract 0 m).size:=by omega
  have v1':¬9223372036854775807<0+(P.extract 0 m).size:=by omega
  have v2:¬9223372036854775807<((⟨#[]⟩:ByteArray)++P.extract 0 m).size+(⟨#[46]⟩:ByteArray).size:=by rw[ByteArray.size_append];omega
  have v2':¬9223372036854775807<((⟨#[]⟩:ByteArray)++P.extract 0 m).size+1:=by rw[ByteArray.size_append];omega
  have v3:¬9223372036854775807<((⟨#[]⟩:ByteArray)++P.extract 0 m++(⟨#[46]⟩:ByteArray)).size+(P.extract m P.size).size:=by rw[ByteArray.size_append,ByteArray.size_append];omega
  have x1:¬(P.size:Int)<(m:Int):=by omega
  generalize hP1:P.extract 0 m=P1 at*;generalize hP2:P.extract m P.size=P2 at*;go_wp2_with fail;go_quiet (fail)
  go_wp2_with fail;go_ret;exact⟨by rw[←HR.out];rfl,pw_below_drewN B8 _⟩)
set_option maxHeartbeats 4000000 in
set_option maxRecDepth 100000 in
theorem rNumber_at (zs ds pr:ByteArray)(n:Nat)(sg:Int)(hn:(n:Int)≤20)(hsg:0≤sg)(HP:∀w,RowKit.Hid (Calls Tryz.prog 96 #[.agg #[.string zs,.string ds]] w fun e w'=>e= .returned (.tuple #[.int .i64 (n:Int),.bool true])∧Below w.heap.size w w'))(HSG:∀w,RowKit.Hid (Calls Tryz.prog 97 #[.agg #[.string zs,.string ds]] w fun e w'=>e= .returned (.int .i64 sg)∧Below w.heap.size w w'))(HPR:∀w,RowKit.Hid (Calls Tryz.prog 98 #[.agg #[.string zs,.string ds]] w fun e w'=>e= .returned (.string pr)∧Below w.heap.size w w'))(w:World):
 Calls Tryz.prog 58 #[.agg #[.string zs,.string ds]] w fun e w'=>e= .returned (.string pr)∧Below w.heap.size w w':=by
 have k0:=World.alloc_heap_new w (.cells #[.string zs,.string ds] 35);have B0:Below w.heap.size w (w.alloc (.cells #[.string zs,.string ds] 35)):=(Below.refl _ w).alloc (Nat.le_refl _) _;go_enter Tryz.func58,Tryz.ntmps58
 go_wp2_with fail;generalize w.alloc (.cells #[.string zs,.string ds] 35)=w0 at*;refine(HP _).out.mono ?_;rintro e w1 ⟨rfl,hb⟩;have k1:=keptB hb k0;have B1:=B0.trans (hb.mono B0.size);clear k0 B0 hb;have c0:w1.cell? ⟨w.heap.size,0,none⟩=some (.string zs):=by rw[Lib.cell_of_heap k1];rfl
 have c1:w1.cell? ⟨w.heap.size,1,none⟩=some (.string ds):=by rw[Lib.cell_of_heap k1];rfl
 go_wp2_with fail;refine(HSG _).out.mono ?_;rintro e w2 ⟨rfl,hb⟩;have k2:=keptB hb k1;have B2:=B1.trans (hb.mono B1.size);clear k1 B1 hb c0 c1;have c0:w2.cell? ⟨w.heap.size,0,none⟩=some (.string zs):=by rw[Lib.cell_of_heap k2];rfl
 have c1:w2.cell? ⟨w.heap.size,1,none⟩=some (.string ds):=by rw[Lib.cell_of_heap k2];rfl
 go_wp2_with fail;refine(HPR _).out.mono ?_;rintro e w3 ⟨rfl,hb⟩;have k3:=keptB hb k2;have B3:=B2.trans (hb.mono B2.size);clear k2 B2 hb c0 c1;go_wp2_with fail;go_ret;exact⟨rfl,B3⟩
set_option maxHeartbeats 4000000 in
set_option maxRecDepth 100000 in
theorem rLeafNum_at (zs ds pr:ByteArray)(HN:∀w,RowKit.Hid (Calls Tryz.prog 58 #[.agg #[.string zs,.string ds]] w fun e w'=>e= .returned (.string pr)∧Below w.heap.size w w'))(w:World):
 Calls Tryz.prog 29 #[.agg #[.int .i64 0,.string zs,.string ds,.string ⟨#[]⟩,.int .i64 0,.int .i64 0]] w fun e w'=>e= .returned (.string pr)∧Below w.heap.size w w':=by
 have B0:Below w.heap.size w (w.alloc (.cells #[.int .i64 0,.string zs,.string ds,.string ⟨#[]⟩,.int .i64 0,.int .i64 0] 37)):=(Below.refl _ w).alloc (Nat.le_refl _) _;go_enter Tryz.func29,Tryz.ntmps29
 go_wp2_with fail;generalize w.alloc (.cells #[.int .i64 0,.string zs,.string ds,.string ⟨#[]⟩,.int .i64 0,.int .i64 0] 37)=w0 at*;refine(HN _).out.mono ?_;rintro e w1 ⟨rfl,hb⟩;go_wp2_with fail;go_ret;exact⟨rfl,B0.trans (hb.mono B0.size)⟩
set_option maxHeartbeats 4000000 in
set_option maxRecDepth 100000 in
theorem rLeafPx_at (s pr:ByteArray)(a:Int)(hs:s.size≤1000)(hpr:pr.size≤1000)(HO:∀w,RowKit.Hid (Calls Tryz.prog 16 #[.int .i64 a] w fun e w'=>e= .returned (.string pr)∧Below w.heap.size w w'))(w:World):
 Calls Tryz.prog 29 #[.agg #[.int .i64 1,.string ⟨#[]⟩,.string ⟨#[]⟩,.string s,.int .i64 a,.int .i64 0]] w fun e w'=>e= .returned (.string (((((⟨#[112,120,40]⟩:ByteArray)++s)++(⟨#[44,32]⟩:ByteArray))++pr)++(⟨#[41]⟩:ByteArray)))∧Below w.heap.size w w':=by
 obtain⟨RR,hR⟩:∃RR,(((((⟨#[112,120,40]⟩:ByteArray)++s)++(⟨#[44,32]⟩:ByteArray))++pr)++(⟨#[41]⟩:ByteArray))=RR:=⟨_,rfl⟩;rw[hR];have HR:=Aside0.mk hR;clear hR;have k0:=World.alloc_heap_new w (.cells #[.int .i64 1,.string ⟨#[]⟩,.string ⟨#[]⟩,.string s,.int .i64 a,.int .i64 0] 37);have hb0:=(Below.refl w.heap.size w).alloc (Nat.le_refl _) (.cells #[.int .i64 1,.string ⟨#[]⟩,.string ⟨#[]⟩,.string s,.int .i64 a,.int .i64 0] 37);have oa0:¬9223372036854775807<(⟨#[112,120,40]⟩:ByteArray).size+s.size:=by simp only[ByteArray.size_append,show(⟨#[112,120,40]⟩:ByteArray).size=3 from rfl,show(⟨#[41]⟩:ByteArray).size=1 from rfl,show(⟨#[44,32]⟩:ByteArray).size=2 from rfl];omega
 have oc0:¬9223372036854775807<3+s.size:=by omega
 have oa1:¬9223372036854775807<((⟨#[112,120,40]⟩:ByteArray)++s).size+(⟨#[44,32]⟩:ByteArray).size:=by simp only[ByteArray.size_append,show(⟨#[112,120,40]⟩:ByteArray).size=3 from rfl,show(⟨#[41]⟩:ByteArray).size=1 from rfl,show(⟨#[44,32]⟩:ByteArray).size=2 from rfl];omega
 have ob1:¬9223372036854775807<((⟨#[112,120,40]⟩:ByteArray)++s).size+2:=by simp only[ByteArray.size_append,show(⟨#[112,120,40]⟩:ByteArray).size=3 from rfl,show(⟨#[41]⟩:ByteArray).size=1 from rfl,show(⟨#[44,32]⟩:ByteArray).size=2 from rfl];omega
 have oc1:¬9223372036854775807<3+s.size+2:=by omega
 have oa2:¬9223372036854775807<((⟨#[112,120,40]⟩:ByteArray)++s++(⟨#[44,32]⟩:ByteArray)).size+pr.size:=by simp only[ByteArray.size_append,show(⟨#[112,120,40]⟩:ByteArray).size=3 from rfl,show(⟨#[41]⟩:ByteArray).size=1 from rfl,show(⟨#[44,32]⟩:ByteArray).size=2 from rfl];omega
 have oc2:¬9223372036854775807<3+s.size+2+pr.size:=by omega
 have oa3:¬9223372036854775807<((⟨#[112,120,40]⟩:ByteArray)++s++(⟨#[44,32]⟩:ByteArray)++pr).size+(⟨#[41]⟩:ByteArray).size:=by simp only[ByteArray.size_append,show(⟨#[112,120,40]⟩:ByteArray).size=3 from rfl,show(⟨#[41]⟩:ByteArray).size=1 from rfl,show(⟨#[44,32]⟩:ByteArray).size=2 from rfl];omega
 have ob3:¬9223372036854775807<((⟨#[112,120,40]⟩:ByteArray)++s++(⟨#[44,32]⟩:ByteArray)++pr).size+1:=by simp only[ByteArray.size_append,show(⟨#[112,120,40]⟩:ByteArray).size=3 from rfl,show(⟨#[41]⟩:ByteArray).size=1 from rfl,show(⟨#[44,32]⟩:ByteArray).size=2 from rfl];omega
 have oc3:¬9223372036854775807<3+s.size+2+pr.size+1:=by omega
 have hSB:∀w':World,Below (w.alloc (.cells #[.int .i64 1,.string ⟨#[]⟩,.string ⟨#[]⟩,.string s,.int .i64 a,.int .i64 0] 37)).heap.size (w.alloc (.cells #[.int .i64 1,.string ⟨#[]⟩,.string ⟨#[]⟩,.string s,.int .i64 a,.int .i64 0] 37)) w'→w'.cell? ⟨w.heap.size,2+1,none⟩=some (.string s)∧w'.cell? ⟨w.heap.size,3+1,none⟩=some (.int .i64 a):=fun w' hb=>by
  have k:=keptB hb k0;exact⟨by rw[Lib.cell_of_heap k];rfl,by rw[Lib.cell_of_heap k];rfl⟩
 have HB:=Aside0.mk (Below.refl (w.alloc (.cells #[.int .i64 1,.string ⟨#[]⟩,.string ⟨#[]⟩,.string s,.int .i64 a,.int .i64 0] 37)).heap.size (w.alloc (.cells #[.int .i64 1,.string ⟨#[]⟩,.string ⟨#[]⟩,.string s,.int .i64 a,.int .i64 0] 37)));go_enter Tryz.func29,Tryz.ntmps29
 go_wp2_with fail;generalize hw0:w.alloc (.cells #[.int .i64 1,.string ⟨#[]⟩,.string ⟨#[]⟩,.string s,.int .i64 a,.int .i64 0] 37)=w0 at*;clear hw0 k0;go_region_held3 (fun w':World=>w'.cell? ⟨w.heap.size,3,none⟩=some (.string s)∧w'.cell? ⟨w.heap.size,4,none⟩=some (.int .i64 a)) (exact hSB _ (by repeat(first|(with_reducible first|exact HB.out|apply below_alloc|apply pw_below_drewN|apply below_drew1)|exact HB.out))) ((go_at_call 16;with_reducible refine(HO _).out.mono ?_;rintro e w4 ⟨rfl,hb4⟩;have n0:=Aside0.mk (below_step (by repeat(first|(with_reducible first|exact HB.out|apply below_alloc|apply pw_below_drewN|apply below_drew1)|exact HB.out)) hb4);clear HB hb4;have HB:=n0;clear n0))
 go_wp2_with fail;go_ret;exact⟨by rw[←HR.out];rfl,hb0.trans (HB.out.mono hb0.size)⟩
set_option maxHeartbeats 4000000 in
set_option maxRecDepth 100000 in
theorem rArity_at (k:Nat)(r:Int)(hk:k≤12)(hr:r=if k<5 then 0 else if k=5 then 1 else if k≤11 then 2 else 3)(w:World):
 Calls Tryz.prog 28 #[.int .i64 (k:Int)] w fun e w'=>e= .returned (.int .i64 r)∧Below w.heap.size w w':=by
 subst hr;have h1:¬(k:Int)<0:=by omega
 have h2:(k:Int)≤12:=by omega
 have h3:¬(12:Int)<(k:Int):=by omega
 have hix:∀w:World,(Instr.index 94 (.agg #[.int .i64 0,.int .i64 0,.int .i64 0,.int .i64 0,.int .i64 0,.int .i64 1,.int .i64 2,.int .i64 2,.int .i64 2,.int .i64 2,.int .i64 2,.int .i64 2,.int .i64 3]) (.int .i64 (k:Int))).run Tryz.prog w= .ok (.int .i64 (if k<5 then 0 else if k=5 then 1 else if k≤11 then 2 else 3)) w:=by
  intro w;have hc:k=0∨k=1∨k=2∨k=3∨k=4∨k=5∨k=6∨k=7∨k=8∨k=9∨k=10∨k=11∨k=12:=by omega
  rcases hc with rfl|rfl|rfl|rfl|rfl|rfl|rfl|rfl|rfl|rfl|rfl|rfl|rfl<;>rfl
 generalize (if k<5 then(0:Int)else if k=5 then 1 else if k≤11 then 2 else 3)=R at*
 generalize (k:Int)=kk at*;go_enter Tryz.func28,Tryz.ntmps28
 go_wp2_with fail;go_ret;exact⟨rfl,Below.refl _ _⟩
end Go.Proofs.YtjopepfemhckjaaGreatDoor.NW
end
