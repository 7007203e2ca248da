/-
  Part 12 of the proof of parseBlanks_holds: texts of this seat, put together.
-/
import Derived.Test.YtjopepfemhckjaaGreatDoorBk11
set_option linter.unusedVariables false
set_option linter.unusedSimpArgs false
section
namespace Go.Proofs.YtjopepfemhckjaaGreatDoor.NW
open Go.Proofs Go.RowKit Go.Shelf Go.Proofs.YtjopepfemhckjaaGreatDoor.PN Go.Proofs.YtjopepfemhckjaaGreatDoorW.PrintWords Go.Proofs.YtjopepfemhckjaaGreatDoor.PParseTells
def wdV:Value:= .agg #[.string ⟨#[]⟩,.string ⟨#[]⟩,.string ⟨#[97,118,103]⟩,.string ⟨#[104,105]⟩,.string ⟨#[108,111]⟩,.string ⟨#[]⟩,.string ⟨#[43]⟩,.string ⟨#[45]⟩,.string ⟨#[42]⟩,.string ⟨#[47]⟩,.string ⟨#[109,97,120]⟩,.string ⟨#[109,105,110]⟩,.string ⟨#[105,102]⟩]
def wd:Nat→ByteArray
 |6=>⟨#[43]⟩|7=>⟨#[45]⟩|8=>⟨#[42]⟩|9=>⟨#[47]⟩|10=>⟨#[109,97,120]⟩|11=>⟨#[109,105,110]⟩|12=>⟨#[105,102]⟩|_=>⟨#[]⟩
set_option maxHeartbeats 4000000 in
set_option maxRecDepth 100000 in
theorem words_at (w:World):
 Calls Tryz.prog 118 #[] w fun e w'=>e= .returned wdV∧Below w.heap.size w w':=by
 unfold wdV;go_enter Tryz.func118,Tryz.ntmps118
 go_wp2_with fail;have c:∀i:Nat,(w.alloc (.cells #[.string ⟨#[]⟩,.string ⟨#[]⟩,.string ⟨#[97,118,103]⟩,.string ⟨#[104,105]⟩,.string ⟨#[108,111]⟩,.string ⟨#[]⟩,.string ⟨#[43]⟩,.string ⟨#[45]⟩,.string ⟨#[42]⟩,.string ⟨#[47]⟩,.string ⟨#[109,97,120]⟩,.string ⟨#[109,105,110]⟩,.string ⟨#[105,102]⟩] 130)).cell? ⟨w.heap.size,i,none⟩=_:=Lib.cell_of_heap (World.alloc_heap_new w _);have c0:=c 0;have c1:=c 1;have c2:=c 2;have c3:=c 3;have c4:=c 4;have c5:=c 5;have c6:=c 6;have c7:=c 7;have c8:=c 8;have c9:=c 9;have c10:=c 10;have c11:=c 11;have c12:=c 12;refine bodyPost_ret (v:= .agg #[.string ⟨#[]⟩,.string ⟨#[]⟩,.string ⟨#[97,118,103]⟩,.string ⟨#[104,105]⟩,.string ⟨#[108,111]⟩,.string ⟨#[]⟩,.string ⟨#[43]⟩,.string ⟨#[45]⟩,.string ⟨#[42]⟩,.string ⟨#[47]⟩,.string ⟨#[109,97,120]⟩,.string ⟨#[109,105,110]⟩,.string ⟨#[105,102]⟩]) ?_ rfl ⟨rfl,(Below.refl _ w).alloc (Nat.le_refl _) _⟩;simp[results,Tryz.f118,go_sem]
def pxP (s:ByteArray)(a:Int):ByteArray:=((((⟨#[112,120,40]⟩:ByteArray)++s)++(⟨#[44,32]⟩:ByteArray))++natS a.toNat)++(⟨#[41]⟩:ByteArray)
def joinB (l:List ByteArray):ByteArray:=⟨(Lib.join (l.map (·.data.toList)) [44,32]).toArray⟩
def opP (k:Nat)(l:List ByteArray):ByteArray:=
 if k=5 then((⟨#[40,45]⟩:ByteArray)++l.getD 0 ByteArray.empty)++(⟨#[41]⟩:ByteArray)
 else if k≤9 then((((((⟨#[40]⟩:ByteArray)++l.getD 0 ByteArray.empty)++(⟨#[32]⟩:ByteArray))++wd k)++(⟨#[32]⟩:ByteArray))++l.getD 1 ByteArray.empty)++(⟨#[41]⟩:ByteArray)
 else((wd k++(⟨#[40]⟩:ByteArray))++joinB l)++(⟨#[41]⟩:ByteArray)
def spW (k:Int):ByteArray:=if k=2 then⟨#[97,118,103]⟩else if k=3 then⟨#[104,105]⟩else⟨#[108,111]⟩
def spP (x:S37):ByteArray:=(((((((spW x.f0)++(⟨#[40]⟩:ByteArray))++x.f2)++(⟨#[44,32]⟩:ByteArray))++natS x.f3.toNat)++(⟨#[44,32]⟩:ByteArray))++natS x.f4.toNat)++(⟨#[41]⟩:ByteArray)
def ndP:Nd→List ByteArray→ByteArray
 | .num z d,_=>numP z d
 | .px s a,_=>pxP s a
 | .op k,l=>opP k l
 | .raw x,_=>spP x
set_option maxHeartbeats 4000000 in
set_option maxRecDepth 100000 in
theorem nodeNum_at (M:Nat)(hD:DivTo M)(hM5:5<M)(z:Int)(d:Nat)(hn:NdOK M (.num z d))(v:Value)(w:World)(hg:Glob w):
 Calls Tryz.prog 82 #[ndV (.num z d),v] w fun e w'=>e= .returned (.tuple #[.string (numP z d),.bool true])∧Below w.heap.size w w':=by
 have H1:=fun W h=>Lib.hid (may_at' M hD _ hn W h)
 have H2:=fun W=>Lib.hid (words_at W)
 have H3:=fun W h=>Lib.hid (number_at M hD hM5 z d hn.1 W h)
 have HG:=Aside0.mk hg;simp only[ndV]at*;unfold ratV at*;have IX:∀W,(Instr.index 130 wdV (.int .i64 0)).run Tryz.prog W= .ok (.string ⟨#[]⟩) W:=fun _=>by kernel_rfl
 generalize wdV=wv at*;clear hn hD hM5 hg;generalize numP z d=R at*;generalize intS z=zs at*;generalize natS d=ds at*;have k0:=World.alloc_heap_new w (.cells #[.int .i64 0,.string zs,.string ds,.string ⟨#[]⟩,.int .i64 0,.int .i64 0] 37);have B0:Below w.heap.size w (w.alloc (.cells #[.int .i64 0,.string zs,.string ds,.string ⟨#[]⟩,.int .i64 0,.int .i64 0] 37)):=(Below.refl _ w).alloc (Nat.le_refl _) _;go_enter Tryz.func82,Tryz.ntmps82
 go_wp2_with fail;generalize w.alloc (.cells #[.int .i64 0,.string zs,.string ds,.string ⟨#[]⟩,.int .i64 0,.int .i64 0] 37)=w0 at*;refine(H1 _ (HG.out.below B0)).out.mono ?_;rintro e w1 ⟨rfl,hb1⟩;have k1:=(hb1.block _ (Array.getElem?_eq_some_iff.1 k0).1).trans k0;have B1:=B0.trans (hb1.mono B0.size);clear k0 B0 hb1 H1;have hSB:∀w':World,Below w1.heap.size w1 w'→w'.cell? ⟨w.heap.size,0,none⟩=some (.int .i64 0):=by
  intro w' hb;have k':=(hb.block _ (Array.getElem?_eq_some_iff.1 k1).1).trans k1;rw[Lib.cell_of_heap k'];rfl
 have HB:=Aside0.mk (Below.refl w1.heap.size w1);go_wp2_with fail;go_region_held3 (fun w':World=>w'.cell? ⟨w.heap.size,0,none⟩=some (.int .i64 0)) (exact hSB _ (by repeat(first|(with_reducible first|exact HB.out|apply below_alloc|apply pw_below_drewN|apply below_drew1)|exact HB.out))) (first|(go_at_call 118;with_reducible refine(H2 _).out.mono ?_;rintro e w' ⟨rfl,hb⟩;have n0:=Aside0.mk (below_step (by repeat(first|(with_reducible first|exact HB.out|apply below_alloc|apply pw_below_drewN|apply below_drew1)|exact HB.out)) hb);clear HB hb;have HB:=n0;clear n0))
 have k2:=(HB.out.block _ (Array.getElem?_eq_some_iff.1 k1).1).trans k1;have B2:=B1.trans (HB.out.mono B1.size);clear k1 B1 hSB HB H2;have c1:w'.cell? ⟨w.heap.size,1,none⟩=some (.string zs):=by rw[Lib.cell_of_heap k2];rfl
 have c2:w'.cell? ⟨w.heap.size,2,none⟩=some (.string ds):=by rw[Lib.cell_of_heap k2];rfl
 have c0:w'.cell? ⟨w.heap.size,0,none⟩=some (.int .i64 0):=by rw[Lib.cell_of_heap k2];rfl
 go_wp2_with fail;refine(H3 _ (HG.out.below B2)).out.mono ?_;rintro e w3 ⟨rfl,hb3⟩;have B3:=B2.trans (hb3.mono B2.size);go_wp2_with fail;refine bodyPost_ret (results_tmp2 rfl _ _ _) rfl ?_;exact⟨rfl,B3⟩
set_option maxHeartbeats 4000000 in
set_option maxRecDepth 100000 in
theorem nodePx_at (M:Nat)(hD:DivTo M)(s:ByteArray)(a:Int)(hn:NdOK M (.px s a))(v:Value)(w:World)(hg:Glob w):
 Calls Tryz.prog 82 #[ndV (.px s a),v] w fun e w'=>e= .returned (.tuple #[.string (pxP s a),.bool true])∧Below w.heap.size w w':=by
 have H1:=fun W h=>Lib.hid (may_at' M hD _ hn W h)
 have H2:=fun W=>Lib.hid (words_at W)
 obtain⟨hs,ha0,ha1⟩:=hn;have H3:=fun W h=>Lib.hid (itoa_at a.toNat (by omega) W h)
 have ha:((a.toNat:Nat):Int)=a:=by omega
 rw[ha]at H3;have hs20:=hs.h20;have hat:(natS a.toNat).size≤10:=by
  have e:(natS a.toNat).size=(Lib.decDigits a.toNat).length:=by show(natS a.toNat).data.toList.length=_;rw[natS_list]
  have:=dec_len a.toNat 4 (by omega) (by omega)
  omega
 have HG:=Aside0.mk hg;have oa1:¬9223372036854775807<((⟨#[112,120,40]⟩:ByteArray)).size+(s).size:=by simp only[ByteArray.size_append,show(⟨#[112,120,40]⟩:ByteArray).size=3 from rfl,show(⟨#[41]⟩:ByteArray).size=1 from rfl,show(⟨#[44,32]⟩:ByteArray).size=2 from rfl];omega
 have ob1:¬9223372036854775807<3+(s).size:=by omega
 have oc1:¬9223372036854775807<3+(s).size:=by omega
 have oa2:¬9223372036854775807<((⟨#[112,120,40]⟩:ByteArray)++s).size+((⟨#[44,32]⟩:ByteArray)).size:=by simp only[ByteArray.size_append,show(⟨#[112,120,40]⟩:ByteArray).size=3 from rfl,show(⟨#[41]⟩:ByteArray).size=1 from rfl,show(⟨#[44,32]⟩:ByteArray).size=2 from rfl];omega
 have ob2:¬9223372036854775807<((⟨#[112,120,40]⟩:ByteArray)++s).size+2:=by simp only[ByteArray.size_append,show(⟨#[112,120,40]⟩:ByteArray).size=3 from rfl,show(⟨#[41]⟩:ByteArray).size=1 from rfl,show(⟨#[44,32]⟩:ByteArray).size=2 from rfl];omega
 have oc2:¬9223372036854775807<3+s.size+2:=by omega
 have oa3:¬9223372036854775807<((⟨#[112,120,40]⟩:ByteArray)++s++(⟨#[44,32]⟩:ByteArray)).size+(natS a.toNat).size:=by simp only[ByteArray.size_append,show(⟨#[112,120,40]⟩:ByteArray).size=3 from rfl,show(⟨#[41]⟩:ByteArray).size=1 from rfl,show(⟨#[44,32]⟩:ByteArray).size=2 from rfl];omega
 have ob3:¬9223372036854775807<((⟨#[112,120,40]⟩:ByteArray)++s++(⟨#[44,32]⟩:ByteArray)).size+(natS a.toNat).size:=by simp only[ByteArray.size_append,show(⟨#[112,120,40]⟩:ByteArray).size=3 from rfl,show(⟨#[41]⟩:ByteArray).size=1 from rfl,show(⟨#[44,32]⟩:ByteArray).size=2 from rfl];omega
 have oc3:¬9223372036854775807<3+s.size+2+(natS a.toNat).size:=by omega
 have oa4:¬9223372036854775807<((⟨#[112,120,40]⟩:ByteArray)++s++(⟨#[44,32]⟩:ByteArray)++natS a.toNat).size+((⟨#[41]⟩:ByteArray)).size:=by simp only[ByteArray.size_append,show(⟨#[112,120,40]⟩:ByteArray).size=3 from rfl,show(⟨#[41]⟩:ByteArray).size=1 from rfl,show(⟨#[44,32]⟩:ByteArray).size=2 from rfl];omega
 have ob4:¬9223372036854775807<((⟨#[112,120,40]⟩:ByteArray)++s++(⟨#[44,32]⟩:ByteArray)++natS a.toNat).size+1:=by simp only[ByteArray.size_append,show(⟨#[112,120,40]⟩:ByteArray).size=3 from rfl,show(⟨#[41]⟩:ByteArray).size=1 from rfl,show(⟨#[44,32]⟩:ByteArray).size=2 from rfl];omega
 have oc4:¬9223372036854775807<3+s.size+2+(natS a.toNat).size+1:=by omega
 simp only[ndV]at*;unfold pxP;have IX:∀W,(Instr.index 130 wdV (.int .i64 1)).run Tryz.prog W= .ok (.string ⟨#[]⟩) W:=fun _=>by kernel_rfl
 generalize wdV=wv at*;clear hs ha0 ha1 ha hD hg hat;generalize natS a.toNat=ats at*;have k0:=World.alloc_heap_new w (.cells #[.int .i64 1,.string ⟨#[]⟩,.string ⟨#[]⟩,.string s,.int .i64 a,.int .i64 0] 37);have B0:Below w.heap.size w (w.alloc (.cells #[.int .i64 1,.string ⟨#[]⟩,.string ⟨#[]⟩,.string s,.int .i64 a,.int .i64 0] 37)):=(Below.refl _ w).alloc (Nat.le_refl _) _;go_enter Tryz.func82,Tryz.ntmps82
 go_wp2_with fail;generalize w.alloc (.cells #[.int .i64 1,.string ⟨#[]⟩,.string ⟨#[]⟩,.string s,.int .i64 a,.int .i64 0] 37)=w0 at*;refine(H1 _ (HG.out.below B0)).out.mono ?_;rintro e w1 ⟨rfl,hb1⟩;have k1:=(hb1.block _ (Array.getElem?_eq_some_iff.1 k0).1).trans k0;have B1:=B0.trans (hb1.mono B0.size);clear k0 B0 hb1 H1;have hSB:∀w':World,Below w1.heap.size w1 w'→w'.cell? ⟨w.heap.size,0,none⟩=some (.int .i64 1):=by
  intro w' hb;have k':=(hb.block _ (Array.getElem?_eq_some_iff.1 k1).1).trans k1;rw[Lib.cell_of_heap k'];rfl
 have HB:=Aside0.mk (Below.refl w1.heap.size w1);go_wp2_with fail;go_region_held3 (fun w':World=>w'.cell? ⟨w.heap.size,0,none⟩=some (.int .i64 1)) (exact hSB _ (by repeat(first|(with_reducible first|exact HB.out|apply below_alloc|apply pw_below_drewN|apply below_drew1)|exact HB.out))) (first|(go_at_call 118;with_reducible refine(H2 _).out.mono ?_;rintro e w' ⟨rfl,hb⟩;have n0:=Aside0.mk (below_step (by repeat(first|(with_reducible first|exact HB.out|apply below_alloc|apply pw_below_drewN|apply below_drew1)|exact HB.out)) hb);clear HB hb;have HB:=n0;clear n0))
 have k2:=(HB.out.block _ (Array.getElem?_eq_some_iff.1 k1).1).trans k1;have B2:=B1.trans (HB.out.mono B1.size);clear k1 B1 hSB HB H2;have c3:w'.cell? ⟨w.heap.size,3,none⟩=some (.string s):=by rw[Lib.cell_of_heap k2];rfl
 have c4:w'.cell? ⟨w.heap.size,4,none⟩=some (.int .i64 a):=by rw[Lib.cell_of_heap k2];rfl
 have c0:w'.cell? ⟨w.heap.size,0,none⟩=some (.int .i64 1):=by rw[Lib.cell_of_heap k2];rfl
 generalize w'=w2 at*;go_wp2_with fail;have hSB:∀w':World,Below w2.heap.size w2 w'→w'.cell? ⟨w.heap.size,3,none⟩=some (.string s)∧w'.cell? ⟨w.heap.size,4,none⟩=some (.int .i64 a):=by
  intro w' hb;have k':=(hb.block _ (Array.getElem?_eq_some_iff.1 k2).1).trans k2;constructor
  ·rw[Lib.cell_of_heap k'];rfl
  ·rw[Lib.cell_of_heap k'];rfl
 have HB:=Aside0.mk (Below.refl w2.heap.size w2);have hGB:∀w':World,Below w2.heap.size w2 w'→Glob w':=fun w' hb=>HG.out.below (B2.trans (hb.mono B2.size))
 go_region_held3 (fun w':World=>w'.cell? ⟨w.heap.size,3,none⟩=some (.string s)∧w'.cell? ⟨w.heap.size,4,none⟩=some (.int .i64 a)) (exact hSB _ (by repeat(first|(with_reducible first|exact HB.out|apply below_alloc|apply pw_below_drewN|apply below_drew1)|exact HB.out))) (first|(go_at_call 120;with_reducible refine(H3 _ ?_).out.mono ?_;(exact hGB _ (by repeat(first|(with_reducible first|exact HB.out|apply below_alloc|apply pw_below_drewN|apply below_drew1)|exact HB.out)));rintro e w' ⟨rfl,hb⟩;have n0:=Aside0.mk (below_step (by repeat(first|(with_reducible first|exact HB.out|apply below_alloc|apply pw_below_drewN|apply below_drew1)|exact HB.out)) hb);clear HB hb;have HB:=n0;clear n0))
 have B3:=B2.trans (HB.out.mono B2.size);go_wp2_with fail;refine bodyPost_ret (results_tmp2 rfl _ _ _) rfl ?_;exact⟨rfl,B3⟩
set_option maxHeartbeats 16000000 in
set_option maxRecDepth 100000 in
theorem nodeSp_at (M:Nat)(hD:DivTo M)(x:S37)(hn:NdOK M (.raw x))(v:Value)(w:World)(hg:Glob w):
 Calls Tryz.prog 82 #[ndV (.raw x),v] w fun e w'=>e= .returned (.tuple #[.string (spP x),.bool true])∧Below w.heap.size w w':=by
 have H1:=fun W h=>Lib.hid (may_at' M hD _ hn W h)
 have H2:=fun W=>Lib.hid (words_at W)
 obtain⟨k,⟨p,q⟩,s,a,b⟩:=x;obtain⟨h1,h2,h3,h4,h5,h6,h7⟩:=hn;simp only[S35.mk.injEq]at h1 h2 h3 h4 h5 h6 h7;obtain⟨rfl,rfl⟩:=h2;have H3:=fun W h=>Lib.hid (itoa_at a.toNat (by omega) W h)
 have H4:=fun W h=>Lib.hid (itoa_at b.toNat (by omega) W h)
 rw[show((a.toNat:Nat):Int)=a by omega]at H3
 rw[show((b.toNat:Nat):Int)=b by omega]at H4
 have hs20:=h3.h20;have hd10:∀n:Int,0≤n→n≤9999→(natS n.toNat).size≤10:=fun n g0 g1=>by
  have e:(natS n.toNat).size=(Lib.decDigits n.toNat).length:=by show(natS n.toNat).data.toList.length=_;rw[natS_list]
  have:=dec_len n.toNat 4 (by omega) (by omega)
  omega
 have hat:=hd10 a h4 (by omega)
 have hbt:=hd10 b (by omega) h6
 have HG:=Aside0.mk hg;simp only[ndV]at*;unfold spP;simp only;generalize natS a.toNat=ats at*;generalize natS b.toNat=bts at*;clear h3 h4 h5 h6 h7 hd10 hg hD;rcases h1 with rfl|rfl|rfl
 ·show Calls Tryz.prog _ _ w fun e w'=>e= .returned (.tuple #[.string (((((((((⟨#[97,118,103]⟩:ByteArray)++(⟨#[40]⟩:ByteArray))++s)++(⟨#[44,32]⟩:ByteArray))++ats)++(⟨#[44,32]⟩:ByteArray))++bts)++(⟨#[41]⟩:ByteArray))),.bool true])∧Below w.heap.size w w'
  have oc0:¬9223372036854775807<4+s.size:=by omega
  have oc1:¬9223372036854775807<4+s.size+2:=by omega
  have oc2:¬9223372036854775807<4+s.size+2+ats.size:=by omega
  have oc3:¬9223372036854775807<4+s.size+2+ats.size+2:=by omega
  have oc4:¬9223372036854775807<4+s.size+2+ats.size+2+bts.size:=by omega
  have oc5:¬9223372036854775807<4+s.size+2+ats.size+2+bts.size+1:=by omega
  have od0:¬9223372036854775807<3+1+s.size:=by omega
  have od1:¬9223372036854775807<3+1+s.size+2:=by omega
  have od2:¬9223372036854775807<3+1+s.size+2+ats.size:=by omega
  have od3:¬9223372036854775807<3+1+s.size+2+ats.size+2:=by omega
  have od4:¬9223372036854775807<3+1+s.size+2+ats.size+2+bts.size:=by omega
  have od5:¬9223372036854775807<3+1+s.size+2+ats.size+2+bts.size+1:=by omega
  have IX:∀W,(Instr.index 130 wdV (.int .i64 2)).run Tryz.prog W= .ok (.string ⟨#[97,118,103]⟩) W:=fun _=>by kernel_rfl
  generalize wdV=wv at*;have k0:=World.alloc_heap_new w (.cells #[.int .i64 2,.string ⟨#[]⟩,.string ⟨#[]⟩,.string s,.int .i64 a,.int .i64 b] 37);have B0:Below w.heap.size w (w.alloc (.cells #[.int .i64 2,.string ⟨#[]⟩,.string ⟨#[]⟩,.string s,.int .i64 a,.int .i64 b] 37)):=(Below.refl _ w).alloc (Nat.le_refl _) _;go_enter Tryz.func82,Tryz.ntmps82
  go_wp2_with fail;generalize w.alloc (.cells #[.int .i64 2,.string ⟨#[]⟩,.string ⟨#[]⟩,.string s,.int .i64 a,.int .i64 b] 37)=w0 at*;refine(H1 _ (HG.out.below B0)).out.mono ?_;rintro e w1 ⟨rfl,hb1⟩;have k1:=(hb1.block _ (Array.getElem?_eq_some_iff.1 k0).1).trans k0;have B1:=B0.trans (hb1.mono B0.size);clear k0 B0 hb1 H1;have hSB:∀w':World,Below w1.heap.size w1 w'→w'.cell? ⟨w.heap.size,0,none⟩=some (.int .i64 2):=by
   intro w' hb;have k':=(hb.block _ (Array.getElem?_eq_some_iff.1 k1).1).trans k1;rw[Lib.cell_of_heap k'];rfl
  have HB:=Aside0.mk (Below.refl w1.heap.size w1);go_wp2_with fail;go_region_held3 (fun w':World=>w'.cell? ⟨w.heap.size,0,none⟩=some (.int .i64 2)) (exact hSB _ (by repeat(first|(with_reducible first|exact HB.out|apply below_alloc|apply pw_below_drewN|apply below_drew1)|exact HB.out))) (first|(go_at_call 118;with_reducible refine(H2 _).out.mono ?_;rintro e w' ⟨rfl,hb⟩;have n0:=Aside0.mk (below_step (by repeat(first|(with_reducible first|exact HB.out|apply below_alloc|apply pw_below_drewN|apply below_drew1)|exact HB.out)) hb);clear HB hb;have HB:=n0;clear n0))
  have k2:=(HB.out.block _ (Array.getElem?_eq_some_iff.1 k1).1).trans k1;have B2:=B1.trans (HB.out.mono B1.size);clear k1 B1 hSB HB H2;have c3:w'.cell? ⟨w.heap.size,3,none⟩=some (.string s):=by rw[Lib.cell_of_heap k2];rfl
  have c4:w'.cell? ⟨w.heap.size,4,none⟩=some (.int .i64 a):=by rw[Lib.cell_of_heap k2];rfl
  have c5:w'.cell? ⟨w.heap.size,5,none⟩=some (.int .i64 b):=by rw[Lib.cell_of_heap k2];rfl
  have c0:w'.cell? ⟨w.heap.size,0,none⟩=some (.int .i64 2):=by rw[Lib.cell_of_heap k2];rfl
  generalize w'=w2 at*;go_wp2_with fail;have hSB:∀w':World,Below w2.heap.size w2 w'→w'.cell? ⟨w.heap.size,3,none⟩=some (.string s)∧w'.cell? ⟨w.heap.size,4,none⟩=some (.int .i64 a)∧w'.cell? ⟨w.heap.size,5,none⟩=some (.int .i64 b):=by
   intro w' hb;have k':=(hb.block _ (Array.getElem?_eq_some_iff.1 k2).1).trans k2;refine⟨?_,?_,?_⟩
   ·rw[Lib.cell_of_heap k'];rfl
   ·rw[Lib.cell_of_heap k'];rfl
   ·rw[Lib.cell_of_heap k'];rfl
  have HB:=Aside0.mk (Below.refl w2.heap.size w2);have hGB:∀w':World,Below w2.heap.size w2 w'→Glob w':=fun w' hb=>HG.out.below (B2.trans (hb.mono B2.size))
  go_region_held3 (fun w':World=>w'.cell? ⟨w.heap.size,3,none⟩=some (.string s)∧w'.cell? ⟨w.heap.size,4,none⟩=some (.int .i64 a)∧w'.cell? ⟨w.heap.size,5,none⟩=some (.int .i64 b)) (exact hSB _ (by repeat(first|(with_reducible first|exact HB.out|apply below_alloc|apply pw_below_drewN|apply below_drew1)|exact HB.out))) (first|(go_at_call 120;with_reducible refine(H3 _ ?_).out.mono ?_;(exact hGB _ (by repeat(first|(with_reducible first|exact HB.out|apply below_alloc|apply pw_below_drewN|apply below_drew1)|exact HB.out)));rintro e w' ⟨rfl,hb⟩;have n0:=Aside0.mk (below_step (by repeat(first|(with_reducible first|exact HB.out|apply below_alloc|apply pw_below_drewN|apply below_drew1)|exact HB.out)) hb);clear HB hb;have HB:=n0;clear n0)|(go_at_call 120;with_reducible refine(H4 _ ?_).out.mono ?_;(exact hGB _ (by repeat(first|(with_reducible first|exact HB.out|apply below_alloc|apply pw_below_drewN|apply below_drew1)|exact HB.out)));rintro e w' ⟨rfl,hb⟩;have n0:=Aside0.mk (below_step (by repeat(first|(with_reducible first|exact HB.out|apply below_alloc|apply pw_below_drewN|apply below_drew1)|exact HB.out)) hb);clear HB hb;have HB:=n0;clear n0))
  all_goals
   have B3:=B2.trans (HB.out.mono B2.size);go_wp2_with fail;refine bodyPost_ret (results_tmp2 rfl _ _ _) rfl ?_;exact⟨rfl,B3⟩
 ·show Calls Tryz.prog _ _ w fun e w'=>e= .returned (.tuple #[.string (((((((((⟨#[104,105]⟩:ByteArray)++(⟨#[40]⟩:ByteArray))++s)++(⟨#[44,32]⟩:ByteArray))++ats)++(⟨#[44,32]⟩:ByteArray))++bts)++(⟨#[41]⟩:ByteArray))),.bool true])∧Below w.heap.size w w'
  have oc0:¬9223372036854775807<3+s.size:=by omega
  have oc1:¬9223372036854775807<3+s.size+2:=by omega
  have oc2:¬9223372036854775807<3+s.size+2+ats.size:=by omega
  have oc3:¬9223372036854775807<3+s.size+2+ats.size+2:=by omega
  have oc4:¬9223372036854775807<3+s.size+2+ats.size+2+bts.size:=by omega
  have oc5:¬9223372036854775807<3+s.size+2+ats.size+2+bts.size+1:=by omega
  have od0:¬9223372036854775807<2+1+s.size:=by omega
  have od1:¬9223372036854775807<2+1+s.size+2:=by omega
  have od2:¬9223372036854775807<2+1+s.size+2+ats.size:=by omega
  have od3:¬9223372036854775807<2+1+s.size+2+ats.size+2:=by omega
  have od4:¬9223372036854775807<2+1+s.size+2+ats.size+2+bts.size:=by omega
  have od5:¬9223372036854775807<2+1+s.size+2+ats.size+2+bts.size+1:=by omega
  have IX:∀W,(Instr.index 130 wdV (.int .i64 3)).run Tryz.prog W= .ok (.string ⟨#[104,105]⟩) W:=fun _=>by kernel_rfl
  generalize wdV=wv at*;have k0:=World.alloc_heap_new w (.cells #[.int .i64 3,.string ⟨#[]⟩,.string ⟨#[]⟩,.string s,.int .i64 a,.int .i64 b] 37);have B0:Below w.heap.size w (w.alloc (.cells #[.int .i64 3,.string ⟨#[]⟩,.string ⟨#[]⟩,.string s,.int .i64 a,.int .i64 b] 37)):=(Below.refl _ w).alloc (Nat.le_refl _) _;go_enter Tryz.func82,Tryz.ntmps82
  go_wp2_with fail;generalize w.alloc (.cells #[.int .i64 3,.string ⟨#[]⟩,.string ⟨#[]⟩,.string s,.int .i64 a,.int .i64 b] 37)=w0 at*;refine(H1 _ (HG.out.below B0)).out.mono ?_;rintro e w1 ⟨rfl,hb1⟩;have k1:=(hb1.block _ (Array.getElem?_eq_some_iff.1 k0).1).trans k0;have B1:=B0.trans (hb1.mono B0.size);clear k0 B0 hb1 H1;have hSB:∀w':World,Below w1.heap.size w1 w'→w'.cell? ⟨w.heap.size,0,none⟩=some (.int .i64 3):=by
   intro w' hb;have k':=(hb.block _ (Array.getElem?_eq_some_iff.1 k1).1).trans k1;rw[Lib.cell_of_heap k'];rfl
  have HB:=Aside0.mk (Below.refl w1.heap.size w1);go_wp2_with fail;go_region_held3 (fun w':World=>w'.cell? ⟨w.heap.size,0,none⟩=some (.int .i64 3)) (exact hSB _ (by repeat(first|(with_reducible first|exact HB.out|apply below_alloc|apply pw_below_drewN|apply below_drew1)|exact HB.out))) (first|(go_at_call 118;with_reducible refine(H2 _).out.mono ?_;rintro e w' ⟨rfl,hb⟩;have n0:=Aside0.mk (below_step (by repeat(first|(with_reducible first|exact HB.out|apply below_alloc|apply pw_below_drewN|apply below_drew1)|exact HB.out)) hb);clear HB hb;have HB:=n0;clear n0))
  have k2:=(HB.out.block _ (Array.getElem?_eq_some_iff.1 k1).1).trans k1;have B2:=B1.trans (HB.out.mono B1.size);clear k1 B1 hSB HB H2;have c3:w'.cell? ⟨w.heap.size,3,none⟩=some (.string s):=by rw[Lib.cell_of_heap k2];rfl
  have c4:w'.cell? ⟨w.heap.size,4,none⟩=some (.int .i64 a):=by rw[Lib.cell_of_heap k2];rfl
  have c5:w'.cell? ⟨w.heap.size,5,none⟩=some (.int .i64 b):=by rw[Lib.cell_of_heap k2];rfl
  have c0:w'.cell? ⟨w.heap.size,0,none⟩=some (.int .i64 3):=by rw[Lib.cell_of_heap k2];rfl
  generalize w'=w2 at*;go_wp2_with fail;have hSB:∀w':World,Below w2.heap.size w2 w'→w'.cell? ⟨w.heap.size,3,none⟩=some (.string s)∧w'.cell? ⟨w.heap.size,4,none⟩=some (.int .i64 a)∧w'.cell? ⟨w.heap.size,5,none⟩=some (.int .i64 b):=by
   intro w' hb;have k':=(hb.block _ (Array.getElem?_eq_some_iff.1 k2).1).trans k2;refine⟨?_,?_,?_⟩
   ·rw[Lib.cell_of_heap k'];rfl
   ·rw[Lib.cell_of_heap k'];rfl
   ·rw[Lib.cell_of_heap k'];rfl
  have HB:=Aside0.mk (Below.refl w2.heap.size w2);have hGB:∀w':World,Below w2.heap.size w2 w'→Glob w':=fun w' hb=>HG.out.below (B2.trans (hb.mono B2.size))
  go_region_held3 (fun w':World=>w'.cell? ⟨w.heap.size,3,none⟩=some (.string s)∧w'.cell? ⟨w.heap.size,4,none⟩=some (.int .i64 a)∧w'.cell? ⟨w.heap.size,5,none⟩=some (.int .i64 b)) (exact hSB _ (by repeat(first|(with_reducible first|exact HB.out|apply below_alloc|apply pw_below_drewN|apply below_drew1)|exact HB.out))) (first|(go_at_call 120;with_reducible refine(H3 _ ?_).out.mono ?_;(exact hGB _ (by repeat(first|(with_reducible first|exact HB.out|apply below_alloc|apply pw_below_drewN|apply below_drew1)|exact HB.out)));rintro e w' ⟨rfl,hb⟩;have n0:=Aside0.mk (below_step (by repeat(first|(with_reducible first|exact HB.out|apply below_alloc|apply pw_below_drewN|apply below_drew1)|exact HB.out)) hb);clear HB hb;have HB:=n0;clear n0)|(go_at_call 120;with_reducible refine(H4 _ ?_).out.mono ?_;(exact hGB _ (by repeat(first|(with_reducible first|exact HB.out|apply below_alloc|apply pw_below_drewN|apply below_drew1)|exact HB.out)));rintro e w' ⟨rfl,hb⟩;have n0:=Aside0.mk (below_step (by repeat(first|(with_reducible first|exact HB.out|apply below_alloc|apply pw_below_drewN|apply below_drew1)|exact HB.out)) hb);clear HB hb;have HB:=n0;clear n0))
  all_goals
   have B3:=B2.trans (HB.out.mono B2.size);go_wp2_with fail;refine bodyPost_ret (results_tmp2 rfl _ _ _) rfl ?_;exact⟨rfl,B3⟩
 ·show Calls Tryz.prog _ _ w fun e w'=>e= .returned (.tuple #[.string (((((((((⟨#[108,111]⟩:ByteArray)++(⟨#[40]⟩:ByteArray))++s)++(⟨#[44,32]⟩:ByteArray))++ats)++(⟨#[44,32]⟩:ByteArray))++bts)++(⟨#[41]⟩:ByteArray))),.bool true])∧Below w.heap.size w w'
  have oc0:¬9223372036854775807<3+s.size:=by omega
  have oc1:¬9223372036854775807<3+s.size+2:=by omega
  have oc2:¬9223372036854775807<3+s.size+2+ats.size:=by omega
  have oc3:¬9223372036854775807<3+s.size+2+ats.size+2:=by omega
  have oc4:¬9223372036854775807<3+s.size+2+ats.size+2+bts.size:=by omega
  have oc5:¬9223372036854775807<3+s.size+2+ats.size+2+bts.size+1:=by omega
  have od0:¬9223372036854775807<2+1+s.size:=by omega
  have od1:¬9223372036854775807<2+1+s.size+2:=by omega
  have od2:¬9223372036854775807<2+1+s.size+2+ats.size:=by omega
  have od3:¬9223372036854775807<2+1+s.size+2+ats.size+2:=by omega
  have od4:¬9223372036854775807<2+1+s.size+2+ats.size+2+bts.size:=by omega
  have od5:¬9223372036854775807<2+1+s.size+2+ats.size+2+bts.size+1:=by omega
  have IX:∀W,(Instr.index 130 wdV (.int .i64 4)).run Tryz.prog W= .ok (.string ⟨#[108,111]⟩) W:=fun _=>by kernel_rfl
  generalize wdV=wv at*;have k0:=World.alloc_heap_new w (.cells #[.int .i64 4,.string ⟨#[]⟩,.string ⟨#[]⟩,.string s,.int .i64 a,.int .i64 b] 37);have B0:Below w.heap.size w (w.alloc (.cells #[.int .i64 4,.string ⟨#[]⟩,.string ⟨#[]⟩,.string s,.int .i64 a,.int .i64 b] 37)):=(Below.refl _ w).alloc (Nat.le_refl _) _;go_enter Tryz.func82,Tryz.ntmps82
  go_wp2_with fail;generalize w.alloc (.cells #[.int .i64 4,.string ⟨#[]⟩,.string ⟨#[]⟩,.string s,.int .i64 a,.int .i64 b] 37)=w0 at*;refine(H1 _ (HG.out.below B0)).out.mono ?_;rintro e w1 ⟨rfl,hb1⟩;have k1:=(hb1.block _ (Array.getElem?_eq_some_iff.1 k0).1).trans k0;have B1:=B0.trans (hb1.mono B0.size);clear k0 B0 hb1 H1;have hSB:∀w':World,Below w1.heap.size w1 w'→w'.cell? ⟨w.heap.size,0,none⟩=some (.int .i64 4):=by
   intro w' hb;have k':=(hb.block _ (Array.getElem?_eq_some_iff.1 k1).1).trans k1;rw[Lib.cell_of_heap k'];rfl
  have HB:=Aside0.mk (Below.refl w1.heap.size w1);go_wp2_with fail;go_region_held3 (fun w':World=>w'.cell? ⟨w.heap.size,0,none⟩=some (.int .i64 4)) (exact hSB _ (by repeat(first|(with_reducible first|exact HB.out|apply below_alloc|apply pw_below_drewN|apply below_drew1)|exact HB.out))) (first|(go_at_call 118;with_reducible refine(H2 _).out.mono ?_;rintro e w' ⟨rfl,hb⟩;have n0:=Aside0.mk (below_step (by repeat(first|(with_reducible first|exact HB.out|apply below_alloc|apply pw_below_drewN|apply below_drew1)|exact HB.out)) hb);clear HB hb;have HB:=n0;clear n0))
  have k2:=(HB.out.block _ (Array.getElem?_eq_some_iff.1 k1).1).trans k1;have B2:=B1.trans (HB.out.mono B1.size);clear k1 B1 hSB HB H2;have c3:w'.cell? ⟨w.heap.size,3,none⟩=some (.string s):=by rw[Lib.cell_of_heap k2];rfl
  have c4:w'.cell? ⟨w.heap.size,4,none⟩=some (.int .i64 a):=by rw[Lib.cell_of_heap k2];rfl
  have c5:w'.cell? ⟨w.heap.size,5,none⟩=some (.int .i64 b):=by rw[Lib.cell_of_heap k2];rfl
  have c0:w'.cell? ⟨w.heap.size,0,none⟩=some (.int .i64 4):=by rw[Lib.cell_of_heap k2];rfl
  generalize w'=w2 at*;go_wp2_with fail;have hSB:∀w':World,Below w2.heap.size w2 w'→w'.cell? ⟨w.heap.size,3,none⟩=some (.string s)∧w'.cell? ⟨w.heap.size,4,none⟩=some (.int .i64 a)∧w'.cell? ⟨w.heap.size,5,none⟩=some (.int .i64 b):=by
   intro w' hb;have k':=(hb.block _ (Array.getElem?_eq_some_iff.1 k2).1).trans k2;refine⟨?_,?_,?_⟩
   ·rw[Lib.cell_of_heap k'];rfl
   ·rw[Lib.cell_of_heap k'];rfl
   ·rw[Lib.cell_of_heap k'];rfl
  have HB:=Aside0.mk (Below.refl w2.heap.size w2);have hGB:∀w':World,Below w2.heap.size w2 w'→Glob w':=fun w' hb=>HG.out.below (B2.trans (hb.mono B2.size))
  go_region_held3 (fun w':World=>w'.cell? ⟨w.heap.size,3,none⟩=some (.string s)∧w'.cell? ⟨w.heap.size,4,none⟩=some (.int .i64 a)∧w'.cell? ⟨w.heap.size,5,none⟩=some (.int .i64 b)) (exact hSB _ (by repeat(first|(with_reducible first|exact HB.out|apply below_alloc|apply pw_below_drewN|apply below_drew1)|exact HB.out))) (first|(go_at_call 120;with_reducible refine(H3 _ ?_).out.mono ?_;(exact hGB _ (by repeat(first|(with_reducible first|exact HB.out|apply below_alloc|apply pw_below_drewN|apply below_drew1)|exact HB.out)));rintro e w' ⟨rfl,hb⟩;have n0:=Aside0.mk (below_step (by repeat(first|(with_reducible first|exact HB.out|apply below_alloc|apply pw_below_drewN|apply below_drew1)|exact HB.out)) hb);clear HB hb;have HB:=n0;clear n0)|(go_at_call 120;with_reducible refine(H4 _ ?_).out.mono ?_;(exact hGB _ (by repeat(first|(with_reducible first|exact HB.out|apply below_alloc|apply pw_below_drewN|apply below_drew1)|exact HB.out)));rintro e w' ⟨rfl,hb⟩;have n0:=Aside0.mk (below_step (by repeat(first|(with_reducible first|exact HB.out|apply below_alloc|apply pw_below_drewN|apply below_drew1)|exact HB.out)) hb);clear HB hb;have HB:=n0;clear n0))
  all_goals
   have B3:=B2.trans (HB.out.mono B2.size);go_wp2_with fail;refine bodyPost_ret (results_tmp2 rfl _ _ _) rfl ?_;exact⟨rfl,B3⟩
end Go.Proofs.YtjopepfemhckjaaGreatDoor.NW
end
