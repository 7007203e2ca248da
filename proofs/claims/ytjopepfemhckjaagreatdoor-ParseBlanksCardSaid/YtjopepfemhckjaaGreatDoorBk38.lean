/-
  Part 38 of the proof of parseBlanks_holds: texts of this seat, put together.
-/
import Derived.Test.YtjopepfemhckjaaGreatDoorBk37
set_option linter.unusedVariables false
set_option linter.unusedSimpArgs false
section
namespace Go.Proofs.YtjopepfemhckjaaGreatDoor.NW
open Go.Proofs Go.RowKit Go.Shelf Go.Proofs.YtjopepfemhckjaaGreatDoor.PN Go.Proofs.YtjopepfemhckjaaGreatDoorW.PrintWords Go.Proofs.YtjopepfemhckjaaGreatDoor.PParseTells
set_option maxHeartbeats 4000000 in
set_option maxRecDepth 100000 in
theorem rNodeOp_at (k:Nat)(hk:5≤k∧k≤12)(w:World):
 Calls Tryz.prog 27 #[ndV (.op k)] w fun e w'=>e= .returned (.bool true)∧Below w.heap.size w w':=by
 simp only[ndV];have h0:¬(k:Int)=0:=by omega
 have h1:¬(k:Int)=1:=by omega
 have h2:(2:Int)≤(k:Int):=by omega
 have h4:¬(k:Int)≤4:=by omega
 generalize (k:Int)=kk at*;clear hk;go_enter Tryz.func27,Tryz.ntmps27
 go_wp2_with fail;go_ret;exact⟨rfl,((Below.refl _ w).alloc (Nat.le_refl _) _)⟩
set_option maxHeartbeats 4000000 in
set_option maxRecDepth 100000 in
theorem rNodePx_at (s:ByteArray)(a:Int)(ha:0≤a∧a≤9999)(HA:∀w,RowKit.Hid (Calls Tryz.prog 57 #[.string s] w fun e w'=>e= .returned (.bool true)∧Below w.heap.size w w'))(w:World):
 Calls Tryz.prog 27 #[.agg #[.int .i64 1,.string ⟨#[]⟩,.string ⟨#[]⟩,.string s,.int .i64 a,.int .i64 0]] w fun e w'=>e= .returned (.bool true)∧Below w.heap.size w w':=by
 obtain⟨ha1,ha2⟩:=ha;have m0:=World.alloc_heap_new w (.cells #[.int .i64 1,.string ⟨#[]⟩,.string ⟨#[]⟩,.string s,.int .i64 a,.int .i64 0] 37);have B0:Below w.heap.size w (w.alloc (.cells #[.int .i64 1,.string ⟨#[]⟩,.string ⟨#[]⟩,.string s,.int .i64 a,.int .i64 0] 37)):=(Below.refl _ w).alloc (Nat.le_refl _) _;go_enter Tryz.func27,Tryz.ntmps27
 go_wp2_with fail;generalize w.alloc (.cells #[.int .i64 1,.string ⟨#[]⟩,.string ⟨#[]⟩,.string s,.int .i64 a,.int .i64 0] 37)=w0 at*;refine(HA _).out.mono ?_;rintro e w1 ⟨rfl,hb⟩;have k1:=keptB hb m0;have B1:=B0.trans (hb.mono B0.size);have c4:w1.cell? ⟨w.heap.size,4,none⟩=some (.int .i64 a):=by rw[Lib.cell_of_heap k1];rfl
 clear m0 B0 hb;go_wp2_with fail;go_ret;exact⟨rfl,B1⟩
set_option maxHeartbeats 4000000 in
set_option maxRecDepth 100000 in
theorem rNodeNum_at (zs ds za:ByteArray)(hza:(za.size:Int)≤60)(hds:(ds.size:Int)≤60)(HM:∀w,RowKit.Hid (Calls Tryz.prog 55 #[.agg #[.string zs,.string ds]] w fun e w'=>e= .returned (.bool true)∧Below w.heap.size w w'))(HAB:∀w,RowKit.Hid (Calls Tryz.prog 56 #[.string zs] w fun e w'=>e= .returned (.string za)∧Below w.heap.size w w'))(w:World):
 Calls Tryz.prog 27 #[.agg #[.int .i64 0,.string zs,.string ds,.string ⟨#[]⟩,.int .i64 0,.int .i64 0]] w fun e w'=>e= .returned (.bool true)∧Below w.heap.size w w':=by
 have m0:=World.alloc_heap_new w (.cells #[.int .i64 0,.string zs,.string ds,.string ⟨#[]⟩,.int .i64 0,.int .i64 0] 37);have B0:Below w.heap.size w (w.alloc (.cells #[.int .i64 0,.string zs,.string ds,.string ⟨#[]⟩,.int .i64 0,.int .i64 0] 37)):=(Below.refl _ w).alloc (Nat.le_refl _) _;go_enter Tryz.func27,Tryz.ntmps27
 go_wp2_with fail;generalize w.alloc (.cells #[.int .i64 0,.string zs,.string ds,.string ⟨#[]⟩,.int .i64 0,.int .i64 0] 37)=w0 at*;refine(HM _).out.mono ?_;rintro e w1 ⟨rfl,hb⟩;have k1:=keptB hb m0;have B1:=B0.trans (hb.mono B0.size);have c1:w1.cell? ⟨w.heap.size,1,none⟩=some (.string zs):=by rw[Lib.cell_of_heap k1];rfl
 clear m0 B0 hb;go_wp2_with fail;refine(HAB _).out.mono ?_;rintro e w2 ⟨rfl,hb⟩;have k2:=keptB hb k1;have B2:=B1.trans (hb.mono B1.size);have c2:w2.cell? ⟨w.heap.size,2,none⟩=some (.string ds):=by rw[Lib.cell_of_heap k2];rfl
 clear k1 B1 hb c1;go_wp2_with fail;go_ret;exact⟨rfl,B2⟩
set_option maxHeartbeats 4000000 in
set_option maxRecDepth 100000 in
theorem rAbove5_at (bk o c:Nat)(x:ByteArray)(hx:x.size≤10000000)(w:World)(hc0:w.cell? ⟨bk,o,none⟩=some (.string x)):
 Calls Tryz.prog 30 #[.int .i64 5,.slice (some ⟨bk,o,none⟩) 1 c] w fun e w'=>e= .returned (.string (((⟨#[40,45]⟩:ByteArray)++x)++(⟨#[41]⟩:ByteArray)))∧Below w.heap.size w w':=by
 have Z2:(⟨#[40,45]⟩:ByteArray).size=2:=rfl;have oa:¬9223372036854775807<(⟨#[40,45]⟩:ByteArray).size+x.size:=by rw[Z2];omega
 have ob:¬9223372036854775807<2+x.size:=by omega
 have oc:¬9223372036854775807<((⟨#[40,45]⟩:ByteArray)++x).size+1:=by rw[ByteArray.size_append,Z2];omega
 have od:¬9223372036854775807<2+x.size+1:=by omega
 clear Z2;go_enter Tryz.func30,Tryz.ntmps30
 go_wp2_with fail;go_ret;exact⟨rfl,Below.refl _ _⟩
set_option maxHeartbeats 4000000 in
set_option maxRecDepth 100000 in
theorem rAbove6_at (bk o c:Nat)(x y:ByteArray)(hx:x.size≤10000000)(hy:y.size≤10000000)(w:World)(hc0:w.cell? ⟨bk,o,none⟩=some (.string x))(hc1:w.cell? ⟨bk,o+1,none⟩=some (.string y)):
 Calls Tryz.prog 30 #[.int .i64 6,.slice (some ⟨bk,o,none⟩) 2 c] w fun e w'=>e= .returned (.string (((((((⟨#[40]⟩:ByteArray)++x)++(⟨#[32]⟩:ByteArray))++(⟨#[43]⟩:ByteArray))++(⟨#[32]⟩:ByteArray))++y)++(⟨#[41]⟩:ByteArray)))∧Below w.heap.size w w':=by
 obtain⟨RR,hR⟩:∃RR,(((((((⟨#[40]⟩:ByteArray)++x)++(⟨#[32]⟩:ByteArray))++(⟨#[43]⟩:ByteArray))++(⟨#[32]⟩:ByteArray))++y)++(⟨#[41]⟩:ByteArray))=RR:=⟨_,rfl⟩;rw[hR];have HR:=Aside0.mk hR;clear hR;have hsl:∀W:World,(Instr.slice 9 (.string ⟨#[43,45,42,47]⟩) (some (.int .i64 0)) (some (.int .i64 1)) none).run Tryz.prog W= .ok (.string ⟨#[43]⟩) W:=fun _=>by kernel_rfl
 have o0:¬9223372036854775807<(⟨#[40]⟩:ByteArray).size+x.size:=by(try simp only[ByteArray.size_append,show(⟨#[32]⟩:ByteArray).size=1 from rfl,show(⟨#[40]⟩:ByteArray).size=1 from rfl,show(⟨#[41]⟩:ByteArray).size=1 from rfl,show(⟨#[43]⟩:ByteArray).size=1 from rfl]);omega
 have o1:¬9223372036854775807<1+x.size:=by(try simp only[ByteArray.size_append,show(⟨#[32]⟩:ByteArray).size=1 from rfl,show(⟨#[40]⟩:ByteArray).size=1 from rfl,show(⟨#[41]⟩:ByteArray).size=1 from rfl,show(⟨#[43]⟩:ByteArray).size=1 from rfl]);omega
 have o2:¬9223372036854775807<((⟨#[40]⟩:ByteArray)++x).size+(⟨#[32]⟩:ByteArray).size:=by(try simp only[ByteArray.size_append,show(⟨#[32]⟩:ByteArray).size=1 from rfl,show(⟨#[40]⟩:ByteArray).size=1 from rfl,show(⟨#[41]⟩:ByteArray).size=1 from rfl,show(⟨#[43]⟩:ByteArray).size=1 from rfl]);omega
 have o3:¬9223372036854775807<((⟨#[40]⟩:ByteArray)++x).size+1:=by(try simp only[ByteArray.size_append,show(⟨#[32]⟩:ByteArray).size=1 from rfl,show(⟨#[40]⟩:ByteArray).size=1 from rfl,show(⟨#[41]⟩:ByteArray).size=1 from rfl,show(⟨#[43]⟩:ByteArray).size=1 from rfl]);omega
 have o4:¬9223372036854775807<1+x.size+1:=by(try simp only[ByteArray.size_append,show(⟨#[32]⟩:ByteArray).size=1 from rfl,show(⟨#[40]⟩:ByteArray).size=1 from rfl,show(⟨#[41]⟩:ByteArray).size=1 from rfl,show(⟨#[43]⟩:ByteArray).size=1 from rfl]);omega
 have o5:¬9223372036854775807<((⟨#[40]⟩:ByteArray)++x++(⟨#[32]⟩:ByteArray)).size+(⟨#[43]⟩:ByteArray).size:=by(try simp only[ByteArray.size_append,show(⟨#[32]⟩:ByteArray).size=1 from rfl,show(⟨#[40]⟩:ByteArray).size=1 from rfl,show(⟨#[41]⟩:ByteArray).size=1 from rfl,show(⟨#[43]⟩:ByteArray).size=1 from rfl]);omega
 have o6:¬9223372036854775807<((⟨#[40]⟩:ByteArray)++x++(⟨#[32]⟩:ByteArray)).size+1:=by(try simp only[ByteArray.size_append,show(⟨#[32]⟩:ByteArray).size=1 from rfl,show(⟨#[40]⟩:ByteArray).size=1 from rfl,show(⟨#[41]⟩:ByteArray).size=1 from rfl,show(⟨#[43]⟩:ByteArray).size=1 from rfl]);omega
 have o7:¬9223372036854775807<1+x.size+1+1:=by(try simp only[ByteArray.size_append,show(⟨#[32]⟩:ByteArray).size=1 from rfl,show(⟨#[40]⟩:ByteArray).size=1 from rfl,show(⟨#[41]⟩:ByteArray).size=1 from rfl,show(⟨#[43]⟩:ByteArray).size=1 from rfl]);omega
 have o8:¬9223372036854775807<((⟨#[40]⟩:ByteArray)++x++(⟨#[32]⟩:ByteArray)++(⟨#[43]⟩:ByteArray)).size+1:=by(try simp only[ByteArray.size_append,show(⟨#[32]⟩:ByteArray).size=1 from rfl,show(⟨#[40]⟩:ByteArray).size=1 from rfl,show(⟨#[41]⟩:ByteArray).size=1 from rfl,show(⟨#[43]⟩:ByteArray).size=1 from rfl]);omega
 have o9:¬9223372036854775807<1+x.size+1+1+1:=by(try simp only[ByteArray.size_append,show(⟨#[32]⟩:ByteArray).size=1 from rfl,show(⟨#[40]⟩:ByteArray).size=1 from rfl,show(⟨#[41]⟩:ByteArray).size=1 from rfl,show(⟨#[43]⟩:ByteArray).size=1 from rfl]);omega
 have o10:¬9223372036854775807<((⟨#[40]⟩:ByteArray)++x++(⟨#[32]⟩:ByteArray)++(⟨#[43]⟩:ByteArray)++(⟨#[32]⟩:ByteArray)).size+y.size:=by(try simp only[ByteArray.size_append,show(⟨#[32]⟩:ByteArray).size=1 from rfl,show(⟨#[40]⟩:ByteArray).size=1 from rfl,show(⟨#[41]⟩:ByteArray).size=1 from rfl,show(⟨#[43]⟩:ByteArray).size=1 from rfl]);omega
 have o11:¬9223372036854775807<1+x.size+1+1+1+y.size:=by(try simp only[ByteArray.size_append,show(⟨#[32]⟩:ByteArray).size=1 from rfl,show(⟨#[40]⟩:ByteArray).size=1 from rfl,show(⟨#[41]⟩:ByteArray).size=1 from rfl,show(⟨#[43]⟩:ByteArray).size=1 from rfl]);omega
 have o12:¬9223372036854775807<((⟨#[40]⟩:ByteArray)++x++(⟨#[32]⟩:ByteArray)++(⟨#[43]⟩:ByteArray)++(⟨#[32]⟩:ByteArray)++y).size+1:=by(try simp only[ByteArray.size_append,show(⟨#[32]⟩:ByteArray).size=1 from rfl,show(⟨#[40]⟩:ByteArray).size=1 from rfl,show(⟨#[41]⟩:ByteArray).size=1 from rfl,show(⟨#[43]⟩:ByteArray).size=1 from rfl]);omega
 have o13:¬9223372036854775807<1+x.size+1+1+1+y.size+1:=by(try simp only[ByteArray.size_append,show(⟨#[32]⟩:ByteArray).size=1 from rfl,show(⟨#[40]⟩:ByteArray).size=1 from rfl,show(⟨#[41]⟩:ByteArray).size=1 from rfl,show(⟨#[43]⟩:ByteArray).size=1 from rfl]);omega
 go_enter Tryz.func30,Tryz.ntmps30
 go_wp2_with fail;go_region;go_wp2_with fail;go_ret;exact⟨by rw[←HR.out];rfl,(Below.refl _ _).drew⟩
set_option maxHeartbeats 4000000 in
set_option maxRecDepth 100000 in
theorem rAbove7_at (bk o c:Nat)(x y:ByteArray)(hx:x.size≤10000000)(hy:y.size≤10000000)(w:World)(hc0:w.cell? ⟨bk,o,none⟩=some (.string x))(hc1:w.cell? ⟨bk,o+1,none⟩=some (.string y)):
 Calls Tryz.prog 30 #[.int .i64 7,.slice (some ⟨bk,o,none⟩) 2 c] w fun e w'=>e= .returned (.string (((((((⟨#[40]⟩:ByteArray)++x)++(⟨#[32]⟩:ByteArray))++(⟨#[45]⟩:ByteArray))++(⟨#[32]⟩:ByteArray))++y)++(⟨#[41]⟩:ByteArray)))∧Below w.heap.size w w':=by
 obtain⟨RR,hR⟩:∃RR,(((((((⟨#[40]⟩:ByteArray)++x)++(⟨#[32]⟩:ByteArray))++(⟨#[45]⟩:ByteArray))++(⟨#[32]⟩:ByteArray))++y)++(⟨#[41]⟩:ByteArray))=RR:=⟨_,rfl⟩;rw[hR];have HR:=Aside0.mk hR;clear hR;have hsl:∀W:World,(Instr.slice 9 (.string ⟨#[43,45,42,47]⟩) (some (.int .i64 1)) (some (.int .i64 2)) none).run Tryz.prog W= .ok (.string ⟨#[45]⟩) W:=fun _=>by kernel_rfl
 have o0:¬9223372036854775807<(⟨#[40]⟩:ByteArray).size+x.size:=by(try simp only[ByteArray.size_append,show(⟨#[32]⟩:ByteArray).size=1 from rfl,show(⟨#[40]⟩:ByteArray).size=1 from rfl,show(⟨#[41]⟩:ByteArray).size=1 from rfl,show(⟨#[45]⟩:ByteArray).size=1 from rfl]);omega
 have o1:¬9223372036854775807<1+x.size:=by(try simp only[ByteArray.size_append,show(⟨#[32]⟩:ByteArray).size=1 from rfl,show(⟨#[40]⟩:ByteArray).size=1 from rfl,show(⟨#[41]⟩:ByteArray).size=1 from rfl,show(⟨#[45]⟩:ByteArray).size=1 from rfl]);omega
 have o2:¬9223372036854775807<((⟨#[40]⟩:ByteArray)++x).size+(⟨#[32]⟩:ByteArray).size:=by(try simp only[ByteArray.size_append,show(⟨#[32]⟩:ByteArray).size=1 from rfl,show(⟨#[40]⟩:ByteArray).size=1 from rfl,show(⟨#[41]⟩:ByteArray).size=1 from rfl,show(⟨#[45]⟩:ByteArray).size=1 from rfl]);omega
 have o3:¬9223372036854775807<((⟨#[40]⟩:ByteArray)++x).size+1:=by(try simp only[ByteArray.size_append,show(⟨#[32]⟩:ByteArray).size=1 from rfl,show(⟨#[40]⟩:ByteArray).size=1 from rfl,show(⟨#[41]⟩:ByteArray).size=1 from rfl,show(⟨#[45]⟩:ByteArray).size=1 from rfl]);omega
 have o4:¬9223372036854775807<1+x.size+1:=by(try simp only[ByteArray.size_append,show(⟨#[32]⟩:ByteArray).size=1 from rfl,show(⟨#[40]⟩:ByteArray).size=1 from rfl,show(⟨#[41]⟩:ByteArray).size=1 from rfl,show(⟨#[45]⟩:ByteArray).size=1 from rfl]);omega
 have o5:¬9223372036854775807<((⟨#[40]⟩:ByteArray)++x++(⟨#[32]⟩:ByteArray)).size+(⟨#[45]⟩:ByteArray).size:=by(try simp only[ByteArray.size_append,show(⟨#[32]⟩:ByteArray).size=1 from rfl,show(⟨#[40]⟩:ByteArray).size=1 from rfl,show(⟨#[41]⟩:ByteArray).size=1 from rfl,show(⟨#[45]⟩:ByteArray).size=1 from rfl]);omega
 have o6:¬9223372036854775807<((⟨#[40]⟩:ByteArray)++x++(⟨#[32]⟩:ByteArray)).size+1:=by(try simp only[ByteArray.size_append,show(⟨#[32]⟩:ByteArray).size=1 from rfl,show(⟨#[40]⟩:ByteArray).size=1 from rfl,show(⟨#[41]⟩:ByteArray).size=1 from rfl,show(⟨#[45]⟩:ByteArray).size=1 from rfl]);omega
 have o7:¬9223372036854775807<1+x.size+1+1:=by(try simp only[ByteArray.size_append,show(⟨#[32]⟩:ByteArray).size=1 from rfl,show(⟨#[40]⟩:ByteArray).size=1 from rfl,show(⟨#[41]⟩:ByteArray).size=1 from rfl,show(⟨#[45]⟩:ByteArray).size=1 from rfl]);omega
 have o8:¬9223372036854775807<((⟨#[40]⟩:ByteArray)++x++(⟨#[32]⟩:ByteArray)++(⟨#[45]⟩:ByteArray)).size+1:=by(try simp only[ByteArray.size_append,show(⟨#[32]⟩:ByteArray).size=1 from rfl,show(⟨#[40]⟩:ByteArray).size=1 from rfl,show(⟨#[41]⟩:ByteArray).size=1 from rfl,show(⟨#[45]⟩:ByteArray).size=1 from rfl]);omega
 have o9:¬9223372036854775807<1+x.size+1+1+1:=by(try simp only[ByteArray.size_append,show(⟨#[32]⟩:ByteArray).size=1 from rfl,show(⟨#[40]⟩:ByteArray).size=1 from rfl,show(⟨#[41]⟩:ByteArray).size=1 from rfl,show(⟨#[45]⟩:ByteArray).size=1 from rfl]);omega
 have o10:¬9223372036854775807<((⟨#[40]⟩:ByteArray)++x++(⟨#[32]⟩:ByteArray)++(⟨#[45]⟩:ByteArray)++(⟨#[32]⟩:ByteArray)).size+y.size:=by(try simp only[ByteArray.size_append,show(⟨#[32]⟩:ByteArray).size=1 from rfl,show(⟨#[40]⟩:ByteArray).size=1 from rfl,show(⟨#[41]⟩:ByteArray).size=1 from rfl,show(⟨#[45]⟩:ByteArray).size=1 from rfl]);omega
 have o11:¬9223372036854775807<1+x.size+1+1+1+y.size:=by(try simp only[ByteArray.size_append,show(⟨#[32]⟩:ByteArray).size=1 from rfl,show(⟨#[40]⟩:ByteArray).size=1 from rfl,show(⟨#[41]⟩:ByteArray).size=1 from rfl,show(⟨#[45]⟩:ByteArray).size=1 from rfl]);omega
 have o12:¬9223372036854775807<((⟨#[40]⟩:ByteArray)++x++(⟨#[32]⟩:ByteArray)++(⟨#[45]⟩:ByteArray)++(⟨#[32]⟩:ByteArray)++y).size+1:=by(try simp only[ByteArray.size_append,show(⟨#[32]⟩:ByteArray).size=1 from rfl,show(⟨#[40]⟩:ByteArray).size=1 from rfl,show(⟨#[41]⟩:ByteArray).size=1 from rfl,show(⟨#[45]⟩:ByteArray).size=1 from rfl]);omega
 have o13:¬9223372036854775807<1+x.size+1+1+1+y.size+1:=by(try simp only[ByteArray.size_append,show(⟨#[32]⟩:ByteArray).size=1 from rfl,show(⟨#[40]⟩:ByteArray).size=1 from rfl,show(⟨#[41]⟩:ByteArray).size=1 from rfl,show(⟨#[45]⟩:ByteArray).size=1 from rfl]);omega
 go_enter Tryz.func30,Tryz.ntmps30
 go_wp2_with fail;go_region;go_wp2_with fail;go_ret;exact⟨by rw[←HR.out];rfl,(Below.refl _ _).drew⟩
set_option maxHeartbeats 4000000 in
set_option maxRecDepth 100000 in
theorem rAbove8_at (bk o c:Nat)(x y:ByteArray)(hx:x.size≤10000000)(hy:y.size≤10000000)(w:World)(hc0:w.cell? ⟨bk,o,none⟩=some (.string x))(hc1:w.cell? ⟨bk,o+1,none⟩=some (.string y)):
 Calls Tryz.prog 30 #[.int .i64 8,.slice (some ⟨bk,o,none⟩) 2 c] w fun e w'=>e= .returned (.string (((((((⟨#[40]⟩:ByteArray)++x)++(⟨#[32]⟩:ByteArray))++(⟨#[42]⟩:ByteArray))++(⟨#[32]⟩:ByteArray))++y)++(⟨#[41]⟩:ByteArray)))∧Below w.heap.size w w':=by
 obtain⟨RR,hR⟩:∃RR,(((((((⟨#[40]⟩:ByteArray)++x)++(⟨#[32]⟩:ByteArray))++(⟨#[42]⟩:ByteArray))++(⟨#[32]⟩:ByteArray))++y)++(⟨#[41]⟩:ByteArray))=RR:=⟨_,rfl⟩;rw[hR];have HR:=Aside0.mk hR;clear hR;have hsl:∀W:World,(Instr.slice 9 (.string ⟨#[43,45,42,47]⟩) (some (.int .i64 2)) (some (.int .i64 3)) none).run Tryz.prog W= .ok (.string ⟨#[42]⟩) W:=fun _=>by kernel_rfl
 have o0:¬9223372036854775807<(⟨#[40]⟩:ByteArray).size+x.size:=by(try simp only[ByteArray.size_append,show(⟨#[32]⟩:ByteArray).size=1 from rfl,show(⟨#[40]⟩:ByteArray).size=1 from rfl,show(⟨#[41]⟩:ByteArray).size=1 from rfl,show(⟨#[42]⟩:ByteArray).size=1 from rfl]);omega
 have o1:¬9223372036854775807<1+x.size:=by(try simp only[ByteArray.size_append,show(⟨#[32]⟩:ByteArray).size=1 from rfl,show(⟨#[40]⟩:ByteArray).size=1 from rfl,show(⟨#[41]⟩:ByteArray).size=1 from rfl,show(⟨#[42]⟩:ByteArray).size=1 from rfl]);omega
 have o2:¬9223372036854775807<((⟨#[40]⟩:ByteArray)++x).size+(⟨#[32]⟩:ByteArray).size:=by(try simp only[ByteArray.size_append,show(⟨#[32]⟩:ByteArray).size=1 from rfl,show(⟨#[40]⟩:ByteArray).size=1 from rfl,show(⟨#[41]⟩:ByteArray).size=1 from rfl,show(⟨#[42]⟩:ByteArray).size=1 from rfl]);omega
 have o3:¬9223372036854775807<((⟨#[40]⟩:ByteArray)++x).size+1:=by(try simp only[ByteArray.size_append,show(⟨#[32]⟩:ByteArray).size=1 from rfl,show(⟨#[40]⟩:ByteArray).size=1 from rfl,show(⟨#[41]⟩:ByteArray).size=1 from rfl,show(⟨#[42]⟩:ByteArray).size=1 from rfl]);omega
 have o4:¬9223372036854775807<1+x.size+1:=by(try simp only[ByteArray.size_append,show(⟨#[32]⟩:ByteArray).size=1 from rfl,show(⟨#[40]⟩:ByteArray).size=1 from rfl,show(⟨#[41]⟩:ByteArray).size=1 from rfl,show(⟨#[42]⟩:ByteArray).size=1 from rfl]);omega
 have o5:¬9223372036854775807<((⟨#[40]⟩:ByteArray)++x++(⟨#[32]⟩:ByteArray)).size+(⟨#[42]⟩:ByteArray).size:=by(try simp only[ByteArray.size_append,show(⟨#[32]⟩:ByteArray).size=1 from rfl,show(⟨#[40]⟩:ByteArray).size=1 from rfl,show(⟨#[41]⟩:ByteArray).size=1 from rfl,show(⟨#[42]⟩:ByteArray).size=1 from rfl]);omega
 have o6:¬9223372036854775807<((⟨#[40]⟩:ByteArray)++x++(⟨#[32]⟩:ByteArray)).size+1:=by(try simp only[ByteArray.size_append,show(⟨#[32]⟩:ByteArray).size=1 from rfl,show(⟨#[40]⟩:ByteArray).size=1 from rfl,show(⟨#[41]⟩:ByteArray).size=1 from rfl,show(⟨#[42]⟩:ByteArray).size=1 from rfl]);omega
 have o7:¬9223372036854775807<1+x.size+1+1:=by(try simp only[ByteArray.size_append,show(⟨#[32]⟩:ByteArray).size=1 from rfl,show(⟨#[40]⟩:ByteArray).size=1 from rfl,show(⟨#[41]⟩:ByteArray).size=1 from rfl,show(⟨#[42]⟩:ByteArray).size=1 from rfl]);omega
 have o8:¬9223372036854775807<((⟨#[40]⟩:ByteArray)++x++(⟨#[32]⟩:ByteArray)++(⟨#[42]⟩:ByteArray)).size+1:=by(try simp only[ByteArray.size_append,show(⟨#[32]⟩:ByteArray).size=1 from rfl,show(⟨#[40]⟩:ByteArray).size=1 from rfl,show(⟨#[41]⟩:ByteArray).size=1 from rfl,show(⟨#[42]⟩:ByteArray).size=1 from rfl]);omega
 have o9:¬9223372036854775807<1+x.size+1+1+1:=by(try simp only[ByteArray.size_append,show(⟨#[32]⟩:ByteArray).size=1 from rfl,show(⟨#[40]⟩:ByteArray).size=1 from rfl,show(⟨#[41]⟩:ByteArray).size=1 from rfl,show(⟨#[42]⟩:ByteArray).size=1 from rfl]);omega
 have o10:¬9223372036854775807<((⟨#[40]⟩:ByteArray)++x++(⟨#[32]⟩:ByteArray)++(⟨#[42]⟩:ByteArray)++(⟨#[32]⟩:ByteArray)).size+y.size:=by(try simp only[ByteArray.size_append,show(⟨#[32]⟩:ByteArray).size=1 from rfl,show(⟨#[40]⟩:ByteArray).size=1 from rfl,show(⟨#[41]⟩:ByteArray).size=1 from rfl,show(⟨#[42]⟩:ByteArray).size=1 from rfl]);omega
 have o11:¬9223372036854775807<1+x.size+1+1+1+y.size:=by(try simp only[ByteArray.size_append,show(⟨#[32]⟩:ByteArray).size=1 from rfl,show(⟨#[40]⟩:ByteArray).size=1 from rfl,show(⟨#[41]⟩:ByteArray).size=1 from rfl,show(⟨#[42]⟩:ByteArray).size=1 from rfl]);omega
 have o12:¬9223372036854775807<((⟨#[40]⟩:ByteArray)++x++(⟨#[32]⟩:ByteArray)++(⟨#[42]⟩:ByteArray)++(⟨#[32]⟩:ByteArray)++y).size+1:=by(try simp only[ByteArray.size_append,show(⟨#[32]⟩:ByteArray).size=1 from rfl,show(⟨#[40]⟩:ByteArray).size=1 from rfl,show(⟨#[41]⟩:ByteArray).size=1 from rfl,show(⟨#[42]⟩:ByteArray).size=1 from rfl]);omega
 have o13:¬9223372036854775807<1+x.size+1+1+1+y.size+1:=by(try simp only[ByteArray.size_append,show(⟨#[32]⟩:ByteArray).size=1 from rfl,show(⟨#[40]⟩:ByteArray).size=1 from rfl,show(⟨#[41]⟩:ByteArray).size=1 from rfl,show(⟨#[42]⟩:ByteArray).size=1 from rfl]);omega
 go_enter Tryz.func30,Tryz.ntmps30
 go_wp2_with fail;go_region;go_wp2_with fail;go_ret;exact⟨by rw[←HR.out];rfl,(Below.refl _ _).drew⟩
set_option maxHeartbeats 4000000 in
set_option maxRecDepth 100000 in
theorem rAbove9_at (bk o c:Nat)(x y:ByteArray)(hx:x.size≤10000000)(hy:y.size≤10000000)(w:World)(hc0:w.cell? ⟨bk,o,none⟩=some (.string x))(hc1:w.cell? ⟨bk,o+1,none⟩=some (.string y)):
 Calls Tryz.prog 30 #[.int .i64 9,.slice (some ⟨bk,o,none⟩) 2 c] w fun e w'=>e= .returned (.string (((((((⟨#[40]⟩:ByteArray)++x)++(⟨#[32]⟩:ByteArray))++(⟨#[47]⟩:ByteArray))++(⟨#[32]⟩:ByteArray))++y)++(⟨#[41]⟩:ByteArray)))∧Below w.heap.size w w':=by
 obtain⟨RR,hR⟩:∃RR,(((((((⟨#[40]⟩:ByteArray)++x)++(⟨#[32]⟩:ByteArray))++(⟨#[47]⟩:ByteArray))++(⟨#[32]⟩:ByteArray))++y)++(⟨#[41]⟩:ByteArray))=RR:=⟨_,rfl⟩;rw[hR];have HR:=Aside0.mk hR;clear hR;have hsl:∀W:World,(Instr.slice 9 (.string ⟨#[43,45,42,47]⟩) (some (.int .i64 3)) (some (.int .i64 4)) none).run Tryz.prog W= .ok (.string ⟨#[47]⟩) W:=fun _=>by kernel_rfl
 have o0:¬9223372036854775807<(⟨#[40]⟩:ByteArray).size+x.size:=by(try simp only[ByteArray.size_append,show(⟨#[32]⟩:ByteArray).size=1 from rfl,show(⟨#[40]⟩:ByteArray).size=1 from rfl,show(⟨#[41]⟩:ByteArray).size=1 from rfl,show(⟨#[47]⟩:ByteArray).size=1 from rfl]);omega
 have o1:¬9223372036854775807<1+x.size:=by(try simp only[ByteArray.size_append,show(⟨#[32]⟩:ByteArray).size=1 from rfl,show(⟨#[40]⟩:ByteArray).size=1 from rfl,show(⟨#[41]⟩:ByteArray).size=1 from rfl,show(⟨#[47]⟩:ByteArray).size=1 from rfl]);omega
 have o2:¬9223372036854775807<((⟨#[40]⟩:ByteArray)++x).size+(⟨#[32]⟩:ByteArray).size:=by(try simp only[ByteArray.size_append,show(⟨#[32]⟩:ByteArray).size=1 from rfl,show(⟨#[40]⟩:ByteArray).size=1 from rfl,show(⟨#[41]⟩:ByteArray).size=1 from rfl,show(⟨#[47]⟩:ByteArray).size=1 from rfl]);omega
 have o3:¬9223372036854775807<((⟨#[40]⟩:ByteArray)++x).size+1:=by(try simp only[ByteArray.size_append,show(⟨#[32]⟩:ByteArray).size=1 from rfl,show(⟨#[40]⟩:ByteArray).size=1 from rfl,show(⟨#[41]⟩:ByteArray).size=1 from rfl,show(⟨#[47]⟩:ByteArray).size=1 from rfl]);omega
 have o4:¬9223372036854775807<1+x.size+1:=by(try simp only[ByteArray.size_append,show(⟨#[32]⟩:ByteArray).size=1 from rfl,show(⟨#[40]⟩:ByteArray).size=1 from rfl,show(⟨#[41]⟩:ByteArray).size=1 from rfl,show(⟨#[47]⟩:ByteArray).size=1 from rfl]);omega
 have o5:¬9223372036854775807<((⟨#[40]⟩:ByteArray)++x++(⟨#[32]⟩:ByteArray)).size+(⟨#[47]⟩:ByteArray).size:=by(try simp only[ByteArray.size_append,show(⟨#[32]⟩:ByteArray).size=1 from rfl,show(⟨#[40]⟩:ByteArray).size=1 from rfl,show(⟨#[41]⟩:ByteArray).size=1 from rfl,show(⟨#[47]⟩:ByteArray).size=1 from rfl]);omega
 have o6:¬9223372036854775807<((⟨#[40]⟩:ByteArray)++x++(⟨#[32]⟩:ByteArray)).size+1:=by(try simp only[ByteArray.size_append,show(⟨#[32]⟩:ByteArray).size=1 from rfl,show(⟨#[40]⟩:ByteArray).size=1 from rfl,show(⟨#[41]⟩:ByteArray).size=1 from rfl,show(⟨#[47]⟩:ByteArray).size=1 from rfl]);omega
 have o7:¬9223372036854775807<1+x.size+1+1:=by(try simp only[ByteArray.size_append,show(⟨#[32]⟩:ByteArray).size=1 from rfl,show(⟨#[40]⟩:ByteArray).size=1 from rfl,show(⟨#[41]⟩:ByteArray).size=1 from rfl,show(⟨#[47]⟩:ByteArray).size=1 from rfl]);omega
 have o8:¬9223372036854775807<((⟨#[40]⟩:ByteArray)++x++(⟨#[32]⟩:ByteArray)++(⟨#[47]⟩:ByteArray)).size+1:=by(try simp only[ByteArray.size_append,show(⟨#[32]⟩:ByteArray).size=1 from rfl,show(⟨#[40]⟩:ByteArray).size=1 from rfl,show(⟨#[41]⟩:ByteArray).size=1 from rfl,show(⟨#[47]⟩:ByteArray).size=1 from rfl]);omega
 have o9:¬9223372036854775807<1+x.size+1+1+1:=by(try simp only[ByteArray.size_append,show(⟨#[32]⟩:ByteArray).size=1 from rfl,show(⟨#[40]⟩:ByteArray).size=1 from rfl,show(⟨#[41]⟩:ByteArray).size=1 from rfl,show(⟨#[47]⟩:ByteArray).size=1 from rfl]);omega
 have o10:¬9223372036854775807<((⟨#[40]⟩:ByteArray)++x++(⟨#[32]⟩:ByteArray)++(⟨#[47]⟩:ByteArray)++(⟨#[32]⟩:ByteArray)).size+y.size:=by(try simp only[ByteArray.size_append,show(⟨#[32]⟩:ByteArray).size=1 from rfl,show(⟨#[40]⟩:ByteArray).size=1 from rfl,show(⟨#[41]⟩:ByteArray).size=1 from rfl,show(⟨#[47]⟩:ByteArray).size=1 from rfl]);omega
 have o11:¬9223372036854775807<1+x.size+1+1+1+y.size:=by(try simp only[ByteArray.size_append,show(⟨#[32]⟩:ByteArray).size=1 from rfl,show(⟨#[40]⟩:ByteArray).size=1 from rfl,show(⟨#[41]⟩:ByteArray).size=1 from rfl,show(⟨#[47]⟩:ByteArray).size=1 from rfl]);omega
 have o12:¬9223372036854775807<((⟨#[40]⟩:ByteArray)++x++(⟨#[32]⟩:ByteArray)++(⟨#[47]⟩:ByteArray)++(⟨#[32]⟩:ByteArray)++y).size+1:=by(try simp only[ByteArray.size_append,show(⟨#[32]⟩:ByteArray).size=1 from rfl,show(⟨#[40]⟩:ByteArray).size=1 from rfl,show(⟨#[41]⟩:ByteArray).size=1 from rfl,show(⟨#[47]⟩:ByteArray).size=1 from rfl]);omega
 have o13:¬9223372036854775807<1+x.size+1+1+1+y.size+1:=by(try simp only[ByteArray.size_append,show(⟨#[32]⟩:ByteArray).size=1 from rfl,show(⟨#[40]⟩:ByteArray).size=1 from rfl,show(⟨#[41]⟩:ByteArray).size=1 from rfl,show(⟨#[47]⟩:ByteArray).size=1 from rfl]);omega
 go_enter Tryz.func30,Tryz.ntmps30
 go_wp2_with fail;go_region;go_wp2_with fail;go_ret;exact⟨by rw[←HR.out];rfl,(Below.refl _ _).drew⟩
end Go.Proofs.YtjopepfemhckjaaGreatDoor.NW
end
