/-
  Part 12 of the proof of parseTells_holds: texts of this seat, put together.
-/
import Derived.Test.YtjopepfemhckjaaGreatDoorTl11
set_option linter.unusedVariables false
set_option linter.unusedSimpArgs false
set_option maxHeartbeats 16000000
set_option maxRecDepth 100000
section
namespace Go.Proofs.YtjopepfemhckjaaGreatDoor.NW
open Go.Proofs Go.RowKit Go.Shelf Go.Proofs.YtjopepfemhckjaaGreatDoor.PN Go.Proofs.YtjopepfemhckjaaGreatDoorW.PrintWords Go.Proofs.YtjopepfemhckjaaGreatDoor.PParseTells
def wdV:Value:= .agg #[.string ⟨#[]⟩,.string ⟨#[]⟩,.string ⟨#[97,118,103]⟩,.string ⟨#[104,105]⟩,.string ⟨#[108,111]⟩,.string ⟨#[]⟩,.string ⟨#[43]⟩,.string ⟨#[45]⟩,.string ⟨#[42]⟩,.string ⟨#[47]⟩,.string ⟨#[109,97,120]⟩,.string ⟨#[109,105,110]⟩,.string ⟨#[105,102]⟩]
def wd:Nat→ByteArray
 |6=>⟨#[43]⟩|7=>⟨#[45]⟩|8=>⟨#[42]⟩|9=>⟨#[47]⟩|10=>⟨#[109,97,120]⟩|11=>⟨#[109,105,110]⟩|12=>⟨#[105,102]⟩|_=>⟨#[]⟩
theorem jh (w:World):
 Calls Tryz.prog 118 #[] w fun e w'=>e= .returned wdV∧Below w.heap.size w w':=by
 unfold wdV;go_enter Tryz.func118,Tryz.ntmps118
 go_wp2_with fail;have c:∀i:Nat,(w.alloc (.cells #[.string ⟨#[]⟩,.string ⟨#[]⟩,.string ⟨#[97,118,103]⟩,.string ⟨#[104,105]⟩,.string ⟨#[108,111]⟩,.string ⟨#[]⟩,.string ⟨#[43]⟩,.string ⟨#[45]⟩,.string ⟨#[42]⟩,.string ⟨#[47]⟩,.string ⟨#[109,97,120]⟩,.string ⟨#[109,105,110]⟩,.string ⟨#[105,102]⟩] 130)).cell? ⟨w.heap.size,i,none⟩=_:=j6 (j7 w _);have c0:=c 0;have c1:=c 1;have c2:=c 2;have c3:=c 3;have c4:=c 4;have c5:=c 5;have c6:=c 6;have c7:=c 7;have c8:=c 8;have c9:=c 9;have c10:=c 10;have c11:=c 11;have c12:=c 12;refine bodyPost_ret (v:= .agg #[.string ⟨#[]⟩,.string ⟨#[]⟩,.string ⟨#[97,118,103]⟩,.string ⟨#[104,105]⟩,.string ⟨#[108,111]⟩,.string ⟨#[]⟩,.string ⟨#[43]⟩,.string ⟨#[45]⟩,.string ⟨#[42]⟩,.string ⟨#[47]⟩,.string ⟨#[109,97,120]⟩,.string ⟨#[109,105,110]⟩,.string ⟨#[105,102]⟩]) ?_ rfl ⟨rfl,(xb _ w).alloc (xc _) _⟩;simp[results,Tryz.f118,go_sem]
def pxP (s:ByteArray)(a:Int):ByteArray:=((((⟨#[112,120,40]⟩:xf)++s)++(⟨#[44,32]⟩:xf))++natS a.toNat)++(⟨#[41]⟩:xf)
def joinB (l:List ByteArray):ByteArray:=⟨(Lib.join (l.map (·.data.toList)) [44,32]).toArray⟩
def opP (k:Nat)(l:List ByteArray):ByteArray:=
 if k=5 then((⟨#[40,45]⟩:xf)++l.getD 0 ByteArray.empty)++(⟨#[41]⟩:xf)
 else if k≤9 then((((((⟨#[40]⟩:xf)++l.getD 0 ByteArray.empty)++(⟨#[32]⟩:xf))++wd k)++(⟨#[32]⟩:xf))++l.getD 1 ByteArray.empty)++(⟨#[41]⟩:xf)
 else((wd k++(⟨#[40]⟩:xf))++joinB l)++(⟨#[41]⟩:xf)
def spW (k:Int):ByteArray:=if k=2 then⟨#[97,118,103]⟩else if k=3 then⟨#[104,105]⟩else⟨#[108,111]⟩
def spP (x:S37):ByteArray:=(((((((spW x.f0)++(⟨#[40]⟩:xf))++x.f2)++(⟨#[44,32]⟩:xf))++natS x.f3.toNat)++(⟨#[44,32]⟩:xf))++natS x.f4.toNat)++(⟨#[41]⟩:xf)
def ndP:Nd→List ByteArray→ByteArray
 | .num z d,_=>numP z d
 | .px s a,_=>pxP s a
 | .op k,l=>opP k l
 | .raw x,_=>spP x
theorem nodeNum_at (M:Nat)(hD:zX M)(hM5:5<M)(z:Int)(d:Nat)(hn:NdOK M (.num z d))(v:Value)(w:World)(hg:Glob w):
 Calls Tryz.prog 82 #[ndV (.num z d),v] w fun e w'=>e= .returned (.tuple #[.string (numP z d),.bool true])∧Below w.heap.size w w':=by
 have H1:=fun W h=>Lib.hid (may_at' M hD _ hn W h)
 have H2:=fun W=>Lib.hid (jh W)
 have H3:=fun W h=>Lib.hid (number_at M hD hM5 z d hn.1 W h)
 have HG:=zc.mk hg;simp only[ndV]at*;unfold ratV at*;have IX:∀W,(Instr.index 130 wdV (.int .i64 0)).run Tryz.prog W= .ok (.string ⟨#[]⟩) W:=fun _=>by kernel_rfl
 generalize wdV=wv at*;clear hn hD hM5 hg;generalize numP z d=R at*;generalize intS z=zs at*;generalize natS d=ds at*;have k0:=j7 w (.cells #[.int .i64 0,.string zs,.string ds,.string ⟨#[]⟩,.int .i64 0,.int .i64 0] 37);have B0:Below w.heap.size w (w.alloc (.cells #[.int .i64 0,.string zs,.string ds,.string ⟨#[]⟩,.int .i64 0,.int .i64 0] 37)):=(xb _ w).alloc (xc _) _;go_enter Tryz.func82,Tryz.ntmps82
 go_wp2_with fail;generalize w.alloc (.cells #[.int .i64 0,.string zs,.string ds,.string ⟨#[]⟩,.int .i64 0,.int .i64 0] 37)=w0 at*;refine(H1 _ (HG.out.below B0)).out.mono ?_;rintro e w1 ⟨rfl,hb1⟩;have k1:=(hb1.block _ (xe k0).1).trans k0;have B1:=B0.trans (hb1.mono B0.size);clear k0 B0 hb1 H1;have hSB:∀w':World,Below w1.heap.size w1 w'→w'.cell? ⟨w.heap.size,0,none⟩=some (.int .i64 0):=by
  intro w' hb;have k':=(hb.block _ (xe k1).1).trans k1;rw[j6 k'];rfl
 have HB:=zc.mk (xb w1.heap.size w1);go_wp2_with fail;go_region_held3 (fun w':World=>w'.cell? ⟨w.heap.size,0,none⟩=some (.int .i64 0)) (exact hSB _ bb) (first|(go_at_call 118;with_reducible refine(H2 _).out.mono ?_;rintro e w' ⟨rfl,hb⟩;have n0:=zc.mk (zi bb hb);clear HB hb;have HB:=n0;clear n0))
 have k2:=(HB.out.block _ (xe k1).1).trans k1;have B2:=B1.trans (HB.out.mono B1.size);clear k1 B1 hSB HB H2;have c1:w'.cell? ⟨w.heap.size,1,none⟩=some (.string zs):=by rw[j6 k2];rfl
 have c2:w'.cell? ⟨w.heap.size,2,none⟩=some (.string ds):=by rw[j6 k2];rfl
 have c0:w'.cell? ⟨w.heap.size,0,none⟩=some (.int .i64 0):=by rw[j6 k2];rfl
 go_wp2_with fail;refine(H3 _ (HG.out.below B2)).out.mono ?_;rintro e w3 ⟨rfl,hb3⟩;have B3:=B2.trans (hb3.mono B2.size);go_wp2_with fail;refine bodyPost_ret (results_tmp2 rfl _ _ _) rfl ?_;exact⟨rfl,B3⟩
theorem nodePx_at (M:Nat)(hD:zX M)(s:ByteArray)(a:Int)(hn:NdOK M (.px s a))(v:Value)(w:World)(hg:Glob w):
 Calls Tryz.prog 82 #[ndV (.px s a),v] w fun e w'=>e= .returned (.tuple #[.string (pxP s a),.bool true])∧Below w.heap.size w w':=by
 have H1:=fun W h=>Lib.hid (may_at' M hD _ hn W h)
 have H2:=fun W=>Lib.hid (jh W)
 obtain⟨hs,ha0,ha1⟩:=hn;have H3:=fun W h=>Lib.hid (itoa_at a.toNat (by omega) W h)
 have ha:((a.toNat:Nat):Int)=a:=by omega
 rw[ha]at H3;have hs20:=hs.h20;have hat:(natS a.toNat).size≤10:=by
  have e:(natS a.toNat).size=(Lib.decDigits a.toNat).length:=by show(natS a.toNat).data.toList.length=_;rw[zq]
  have:=zH a.toNat 4 (by omega) (by omega)
  omega
 have HG:=zc.mk hg;have oa1:¬9223372036854775807<((⟨#[112,120,40]⟩:xf)).size+(s).size:=by simp only[j8,show(⟨#[112,120,40]⟩:xf).size=3 from rfl,show(⟨#[41]⟩:xf).size=1 from rfl,show(⟨#[44,32]⟩:xf).size=2 from rfl];omega
 have ob1:¬9223372036854775807<3+(s).size:=by omega
 have oc1:¬9223372036854775807<3+(s).size:=by omega
 have oa2:¬9223372036854775807<((⟨#[112,120,40]⟩:xf)++s).size+((⟨#[44,32]⟩:xf)).size:=by simp only[j8,show(⟨#[112,120,40]⟩:xf).size=3 from rfl,show(⟨#[41]⟩:xf).size=1 from rfl,show(⟨#[44,32]⟩:xf).size=2 from rfl];omega
 have ob2:¬9223372036854775807<((⟨#[112,120,40]⟩:xf)++s).size+2:=by simp only[j8,show(⟨#[112,120,40]⟩:xf).size=3 from rfl,show(⟨#[41]⟩:xf).size=1 from rfl,show(⟨#[44,32]⟩:xf).size=2 from rfl];omega
 have oc2:¬9223372036854775807<3+s.size+2:=by omega
 have oa3:¬9223372036854775807<((⟨#[112,120,40]⟩:xf)++s++(⟨#[44,32]⟩:xf)).size+(natS a.toNat).size:=by simp only[j8,show(⟨#[112,120,40]⟩:xf).size=3 from rfl,show(⟨#[41]⟩:xf).size=1 from rfl,show(⟨#[44,32]⟩:xf).size=2 from rfl];omega
 have ob3:¬9223372036854775807<((⟨#[112,120,40]⟩:xf)++s++(⟨#[44,32]⟩:xf)).size+(natS a.toNat).size:=by simp only[j8,show(⟨#[112,120,40]⟩:xf).size=3 from rfl,show(⟨#[41]⟩:xf).size=1 from rfl,show(⟨#[44,32]⟩:xf).size=2 from rfl];omega
 have oc3:¬9223372036854775807<3+s.size+2+(natS a.toNat).size:=by omega
 have oa4:¬9223372036854775807<((⟨#[112,120,40]⟩:xf)++s++(⟨#[44,32]⟩:xf)++natS a.toNat).size+((⟨#[41]⟩:xf)).size:=by simp only[j8,show(⟨#[112,120,40]⟩:xf).size=3 from rfl,show(⟨#[41]⟩:xf).size=1 from rfl,show(⟨#[44,32]⟩:xf).size=2 from rfl];omega
 have ob4:¬9223372036854775807<((⟨#[112,120,40]⟩:xf)++s++(⟨#[44,32]⟩:xf)++natS a.toNat).size+1:=by simp only[j8,show(⟨#[112,120,40]⟩:xf).size=3 from rfl,show(⟨#[41]⟩:xf).size=1 from rfl,show(⟨#[44,32]⟩:xf).size=2 from rfl];omega
 have oc4:¬9223372036854775807<3+s.size+2+(natS a.toNat).size+1:=by omega
 simp only[ndV]at*;unfold pxP;have IX:∀W,(Instr.index 130 wdV (.int .i64 1)).run Tryz.prog W= .ok (.string ⟨#[]⟩) W:=fun _=>by kernel_rfl
 generalize wdV=wv at*;clear hs ha0 ha1 ha hD hg hat;generalize natS a.toNat=ats at*;have k0:=j7 w (.cells #[.int .i64 1,.string ⟨#[]⟩,.string ⟨#[]⟩,.string s,.int .i64 a,.int .i64 0] 37);have B0:Below w.heap.size w (w.alloc (.cells #[.int .i64 1,.string ⟨#[]⟩,.string ⟨#[]⟩,.string s,.int .i64 a,.int .i64 0] 37)):=(xb _ w).alloc (xc _) _;go_enter Tryz.func82,Tryz.ntmps82
 go_wp2_with fail;generalize w.alloc (.cells #[.int .i64 1,.string ⟨#[]⟩,.string ⟨#[]⟩,.string s,.int .i64 a,.int .i64 0] 37)=w0 at*;refine(H1 _ (HG.out.below B0)).out.mono ?_;rintro e w1 ⟨rfl,hb1⟩;have k1:=(hb1.block _ (xe k0).1).trans k0;have B1:=B0.trans (hb1.mono B0.size);clear k0 B0 hb1 H1;have hSB:∀w':World,Below w1.heap.size w1 w'→w'.cell? ⟨w.heap.size,0,none⟩=some (.int .i64 1):=by
  intro w' hb;have k':=(hb.block _ (xe k1).1).trans k1;rw[j6 k'];rfl
 have HB:=zc.mk (xb w1.heap.size w1);go_wp2_with fail;go_region_held3 (fun w':World=>w'.cell? ⟨w.heap.size,0,none⟩=some (.int .i64 1)) (exact hSB _ bb) (first|(go_at_call 118;with_reducible refine(H2 _).out.mono ?_;rintro e w' ⟨rfl,hb⟩;have n0:=zc.mk (zi bb hb);clear HB hb;have HB:=n0;clear n0))
 have k2:=(HB.out.block _ (xe k1).1).trans k1;have B2:=B1.trans (HB.out.mono B1.size);clear k1 B1 hSB HB H2;have c3:w'.cell? ⟨w.heap.size,3,none⟩=some (.string s):=by rw[j6 k2];rfl
 have c4:w'.cell? ⟨w.heap.size,4,none⟩=some (.int .i64 a):=by rw[j6 k2];rfl
 have c0:w'.cell? ⟨w.heap.size,0,none⟩=some (.int .i64 1):=by rw[j6 k2];rfl
 generalize w'=w2 at*;go_wp2_with fail;have hSB:∀w':World,Below w2.heap.size w2 w'→w'.cell? ⟨w.heap.size,3,none⟩=some (.string s)∧w'.cell? ⟨w.heap.size,4,none⟩=some (.int .i64 a):=by
  intro w' hb;have k':=(hb.block _ (xe k2).1).trans k2;constructor
  ·rw[j6 k'];rfl
  ·rw[j6 k'];rfl
 have HB:=zc.mk (xb w2.heap.size w2);have hGB:∀w':World,Below w2.heap.size w2 w'→Glob w':=fun w' hb=>HG.out.below (B2.trans (hb.mono B2.size))
 go_region_held3 (fun w':World=>w'.cell? ⟨w.heap.size,3,none⟩=some (.string s)∧w'.cell? ⟨w.heap.size,4,none⟩=some (.int .i64 a)) (exact hSB _ bb) (first|(go_at_call 120;with_reducible refine(H3 _ ?_).out.mono ?_;(exact hGB _ bb);rintro e w' ⟨rfl,hb⟩;have n0:=zc.mk (zi bb hb);clear HB hb;have HB:=n0;clear n0))
 have B3:=B2.trans (HB.out.mono B2.size);go_wp2_with fail;refine bodyPost_ret (results_tmp2 rfl _ _ _) rfl ?_;exact⟨rfl,B3⟩
theorem nodeSp_at (M:Nat)(hD:zX M)(x:S37)(hn:NdOK M (.raw x))(v:Value)(w:World)(hg:Glob w):
 Calls Tryz.prog 82 #[ndV (.raw x),v] w fun e w'=>e= .returned (.tuple #[.string (spP x),.bool true])∧Below w.heap.size w w':=by
 have H1:=fun W h=>Lib.hid (may_at' M hD _ hn W h)
 have H2:=fun W=>Lib.hid (jh W)
 obtain⟨k,⟨p,q⟩,s,a,b⟩:=x;obtain⟨h1,h2,h3,h4,h5,h6,h7⟩:=hn;simp only[S35.mk.injEq]at h1 h2 h3 h4 h5 h6 h7;obtain⟨rfl,rfl⟩:=h2;have H3:=fun W h=>Lib.hid (itoa_at a.toNat (by omega) W h)
 have H4:=fun W h=>Lib.hid (itoa_at b.toNat (by omega) W h)
 rw[show((a.toNat:Nat):Int)=a by omega]at H3
 rw[show((b.toNat:Nat):Int)=b by omega]at H4
 have hs20:=h3.h20;have hd10:∀n:Int,0≤n→n≤9999→(natS n.toNat).size≤10:=fun n g0 g1=>by
  have e:(natS n.toNat).size=(Lib.decDigits n.toNat).length:=by show(natS n.toNat).data.toList.length=_;rw[zq]
  have:=zH n.toNat 4 (by omega) (by omega)
  omega
 have hat:=hd10 a h4 (by omega)
 have hbt:=hd10 b (by omega) h6
 have HG:=zc.mk hg;simp only[ndV]at*;unfold spP;simp only;generalize natS a.toNat=ats at*;generalize natS b.toNat=bts at*;have hz:(spW k).size≤3:=by rcases h1 with rfl|rfl|rfl<;>decide
 have IX:∀W,(Instr.index 130 wdV (.int .i64 k)).run Tryz.prog W= .ok (.string (spW k)) W:=by rcases h1 with rfl|rfl|rfl<;>exact fun _=>by kernel_rfl
 have n0:¬k=0:=by omega
 have n1:¬k=1:=by omega
 have h9:(k==2)=true∨(k==2)=false∧(k==3)=true∨(k==2)=false∧(k==3)=false∧(k==4)=true:=by
  rcases h1 with rfl|rfl|rfl<;>decide
 generalize spW k=sg at*;have oa0:¬9223372036854775807<(sg).size+(⟨#[40]⟩:xf).size:=by(try simp only[j8,show(⟨#[40]⟩:xf).size=1 from rfl,show(⟨#[41]⟩:xf).size=1 from rfl,show(⟨#[44,32]⟩:xf).size=2 from rfl]);omega
 have od0:¬9223372036854775807<sg.size+1:=by omega
 have oa1:¬9223372036854775807<(sg++(⟨#[40]⟩:xf)).size+s.size:=by(try simp only[j8,show(⟨#[40]⟩:xf).size=1 from rfl,show(⟨#[41]⟩:xf).size=1 from rfl,show(⟨#[44,32]⟩:xf).size=2 from rfl]);omega
 have od1:¬9223372036854775807<sg.size+1+s.size:=by omega
 have oa2:¬9223372036854775807<(sg++(⟨#[40]⟩:xf)++s).size+(⟨#[44,32]⟩:xf).size:=by(try simp only[j8,show(⟨#[40]⟩:xf).size=1 from rfl,show(⟨#[41]⟩:xf).size=1 from rfl,show(⟨#[44,32]⟩:xf).size=2 from rfl]);omega
 have od2:¬9223372036854775807<sg.size+1+s.size+2:=by omega
 have ob2:¬9223372036854775807<(sg++(⟨#[40]⟩:xf)++s).size+2:=oa2;have oa3:¬9223372036854775807<(sg++(⟨#[40]⟩:xf)++s++(⟨#[44,32]⟩:xf)).size+ats.size:=by(try simp only[j8,show(⟨#[40]⟩:xf).size=1 from rfl,show(⟨#[41]⟩:xf).size=1 from rfl,show(⟨#[44,32]⟩:xf).size=2 from rfl]);omega
 have od3:¬9223372036854775807<sg.size+1+s.size+2+ats.size:=by omega
 have oa4:¬9223372036854775807<(sg++(⟨#[40]⟩:xf)++s++(⟨#[44,32]⟩:xf)++ats).size+(⟨#[44,32]⟩:xf).size:=by(try simp only[j8,show(⟨#[40]⟩:xf).size=1 from rfl,show(⟨#[41]⟩:xf).size=1 from rfl,show(⟨#[44,32]⟩:xf).size=2 from rfl]);omega
 have od4:¬9223372036854775807<sg.size+1+s.size+2+ats.size+2:=by omega
 have ob4:¬9223372036854775807<(sg++(⟨#[40]⟩:xf)++s++(⟨#[44,32]⟩:xf)++ats).size+2:=oa4;have oa5:¬9223372036854775807<(sg++(⟨#[40]⟩:xf)++s++(⟨#[44,32]⟩:xf)++ats++(⟨#[44,32]⟩:xf)).size+bts.size:=by(try simp only[j8,show(⟨#[40]⟩:xf).size=1 from rfl,show(⟨#[41]⟩:xf).size=1 from rfl,show(⟨#[44,32]⟩:xf).size=2 from rfl]);omega
 have od5:¬9223372036854775807<sg.size+1+s.size+2+ats.size+2+bts.size:=by omega
 have oa6:¬9223372036854775807<(sg++(⟨#[40]⟩:xf)++s++(⟨#[44,32]⟩:xf)++ats++(⟨#[44,32]⟩:xf)++bts).size+(⟨#[41]⟩:xf).size:=by(try simp only[j8,show(⟨#[40]⟩:xf).size=1 from rfl,show(⟨#[41]⟩:xf).size=1 from rfl,show(⟨#[44,32]⟩:xf).size=2 from rfl]);omega
 have od6:¬9223372036854775807<sg.size+1+s.size+2+ats.size+2+bts.size+1:=by omega
 have ob6:¬9223372036854775807<(sg++(⟨#[40]⟩:xf)++s++(⟨#[44,32]⟩:xf)++ats++(⟨#[44,32]⟩:xf)++bts).size+1:=oa6;clear h1 h3 h4 h5 h6 h7 hd10 hg hD hz hs20 hat hbt;generalize wdV=wv at*;have k0:=j7 w (.cells #[.int .i64 k,.string ⟨#[]⟩,.string ⟨#[]⟩,.string s,.int .i64 a,.int .i64 b] 37);have B0:Below w.heap.size w (w.alloc (.cells #[.int .i64 k,.string ⟨#[]⟩,.string ⟨#[]⟩,.string s,.int .i64 a,.int .i64 b] 37)):=(xb _ w).alloc (xc _) _;rcases h9 with h2|⟨h2,h3⟩|⟨h2,h3,h4⟩
 all_goals
  go_enter Tryz.func82,Tryz.ntmps82
  go_wp2_with fail;generalize w.alloc (.cells #[.int .i64 k,.string ⟨#[]⟩,.string ⟨#[]⟩,.string s,.int .i64 a,.int .i64 b] 37)=w0 at*;refine(H1 _ (HG.out.below B0)).out.mono ?_;rintro e w1 ⟨rfl,hb1⟩;have k1:=(hb1.block _ (xe k0).1).trans k0;have B1:=B0.trans (hb1.mono B0.size);clear k0 B0 hb1 H1;have hSB:∀w':World,Below w1.heap.size w1 w'→w'.cell? ⟨w.heap.size,0,none⟩=some (.int .i64 k):=by
   intro w' hb;have k':=(hb.block _ (xe k1).1).trans k1;rw[j6 k'];rfl
  have HB:=zc.mk (xb w1.heap.size w1);go_wp2_with fail;go_region_held3 (fun w':World=>w'.cell? ⟨w.heap.size,0,none⟩=some (.int .i64 k)) (exact hSB _ bb) (first|(go_at_call 118;with_reducible refine(H2 _).out.mono ?_;rintro e w' ⟨rfl,hb⟩;have n0:=zc.mk (zi bb hb);clear HB hb;have HB:=n0;clear n0))
  have k2:=(HB.out.block _ (xe k1).1).trans k1;have B2:=B1.trans (HB.out.mono B1.size);clear k1 B1 hSB HB H2;have c3:w'.cell? ⟨w.heap.size,3,none⟩=some (.string s):=by rw[j6 k2];rfl
  have c4:w'.cell? ⟨w.heap.size,4,none⟩=some (.int .i64 a):=by rw[j6 k2];rfl
  have c5:w'.cell? ⟨w.heap.size,5,none⟩=some (.int .i64 b):=by rw[j6 k2];rfl
  have c0:w'.cell? ⟨w.heap.size,0,none⟩=some (.int .i64 k):=by rw[j6 k2];rfl
  generalize w'=w2 at*;go_wp2_with fail;have hSB:∀w':World,Below w2.heap.size w2 w'→w'.cell? ⟨w.heap.size,3,none⟩=some (.string s)∧w'.cell? ⟨w.heap.size,4,none⟩=some (.int .i64 a)∧w'.cell? ⟨w.heap.size,5,none⟩=some (.int .i64 b):=by
   intro w' hb;have k':=(hb.block _ (xe k2).1).trans k2;refine⟨?_,?_,?_⟩
   ·rw[j6 k'];rfl
   ·rw[j6 k'];rfl
   ·rw[j6 k'];rfl
  have HB:=zc.mk (xb w2.heap.size w2);have hGB:∀w':World,Below w2.heap.size w2 w'→Glob w':=fun w' hb=>HG.out.below (B2.trans (hb.mono B2.size))
  go_region_held3 (fun w':World=>w'.cell? ⟨w.heap.size,3,none⟩=some (.string s)∧w'.cell? ⟨w.heap.size,4,none⟩=some (.int .i64 a)∧w'.cell? ⟨w.heap.size,5,none⟩=some (.int .i64 b)) (exact hSB _ bb) (first|(go_at_call 120;with_reducible refine(H3 _ ?_).out.mono ?_;(exact hGB _ bb);rintro e w' ⟨rfl,hb⟩;have n0:=zc.mk (zi bb hb);clear HB hb;have HB:=n0;clear n0)|(go_at_call 120;with_reducible refine(H4 _ ?_).out.mono ?_;(exact hGB _ bb);rintro e w' ⟨rfl,hb⟩;have n0:=zc.mk (zi bb hb);clear HB hb;have HB:=n0;clear n0))
  all_goals
   have B3:=B2.trans (HB.out.mono B2.size);go_wp2_with fail;refine bodyPost_ret (results_tmp2 rfl _ _ _) rfl ?_;exact⟨rfl,B3⟩
theorem zg {B:Nat}{w w':World}(h:Below B w w')(a:Addr)(ha:a.block<B):w'.cell? a=w.cell? a:=by
 unfold World.cell?;rw[h.block _ ha]
theorem nodeNeg_at (M:Nat)(hD:zX M)(bk o c:Nat)(x:ByteArray)(hx:x.size≤10000000000)(w:World)(hc0:w.cell? ⟨bk,o,none⟩=some (.string x))(hbk:bk<w.heap.size)(hg:Glob w):
 Calls Tryz.prog 82 #[ndV (.op 5),.slice (some ⟨bk,o,none⟩) 1 c] w fun e w'=>e= .returned (.tuple #[.string (opP 5 [x]),.bool true])∧Below w.heap.size w w':=by
 have H1:=fun W h=>Lib.hid (may_at' M hD (.op 5) (by unfold NdOK;omega) W h)
 have H2:=fun W=>Lib.hid (jh W)
 have HG:=zc.mk hg;have IX:∀W,(Instr.index 130 wdV (.int .i64 5)).run Tryz.prog W= .ok (.string ⟨#[]⟩) W:=fun _=>by kernel_rfl
 show Calls _ _ _ _ fun e w'=>e= .returned (.tuple #[.string ((((⟨#[40,45]⟩:xf)++x)++(⟨#[41]⟩:xf))),.bool true])∧_
 have oa1:¬9223372036854775807<((⟨#[40,45]⟩:xf)).size+(x).size:=by(try simp only[j8,show(⟨#[40,45]⟩:xf).size=2 from rfl,show(⟨#[41]⟩:xf).size=1 from rfl]);omega
 have ob1:¬9223372036854775807<2+(x).size:=by omega
 have oc1:¬9223372036854775807<2+(x).size:=by omega
 have oa2:¬9223372036854775807<((⟨#[40,45]⟩:xf)++x).size+((⟨#[41]⟩:xf)).size:=by(try simp only[j8,show(⟨#[40,45]⟩:xf).size=2 from rfl,show(⟨#[41]⟩:xf).size=1 from rfl]);omega
 have ob2:¬9223372036854775807<((⟨#[40,45]⟩:xf)++x).size+1:=by(try simp only[j8,show(⟨#[40,45]⟩:xf).size=2 from rfl,show(⟨#[41]⟩:xf).size=1 from rfl]);omega
 have oc2:¬9223372036854775807<2+(x).size+1:=by omega
 have hd0:∀w',Below w.heap.size w w'→w'.cell? ⟨bk,o,none⟩=w.cell? ⟨bk,o,none⟩:=fun w' h=>zg h _ hbk
 simp only[ndV]at*;generalize wdV=wv at*;clear hg hD hx;have k0:=j7 w (.cells #[.int .i64 5,.string ⟨#[]⟩,.string ⟨#[]⟩,.string ⟨#[]⟩,.int .i64 0,.int .i64 0] 37);have B0:Below w.heap.size w (w.alloc (.cells #[.int .i64 5,.string ⟨#[]⟩,.string ⟨#[]⟩,.string ⟨#[]⟩,.int .i64 0,.int .i64 0] 37)):=(xb _ w).alloc (xc _) _;go_enter Tryz.func82,Tryz.ntmps82
 go_wp2_with fail;generalize w.alloc (.cells #[.int .i64 5,.string ⟨#[]⟩,.string ⟨#[]⟩,.string ⟨#[]⟩,.int .i64 0,.int .i64 0] 37)=w0 at*;refine(H1 _ (HG.out.below B0)).out.mono ?_;rintro e w1 ⟨rfl,hb1⟩;have k1:=(hb1.block _ (xe k0).1).trans k0;have B1:=B0.trans (hb1.mono B0.size);clear k0 B0 hb1 H1;have hSB:∀w':World,Below w1.heap.size w1 w'→w'.cell? ⟨w.heap.size,0,none⟩=some (.int .i64 5):=by
  intro w' hb;have k':=(hb.block _ (xe k1).1).trans k1;rw[j6 k'];rfl
 have HB:=zc.mk (xb w1.heap.size w1);go_wp2_with fail;go_region_held3 (fun w':World=>w'.cell? ⟨w.heap.size,0,none⟩=some (.int .i64 5)) (exact hSB _ bb) (first|(go_at_call 118;with_reducible refine(H2 _).out.mono ?_;rintro e w' ⟨rfl,hb⟩;have n0:=zc.mk (zi bb hb);clear HB hb;have HB:=n0;clear n0))
 have k2:=(HB.out.block _ (xe k1).1).trans k1;have B2:=B1.trans (HB.out.mono B1.size);clear k1 B1 hSB HB H2;have c0:w'.cell? ⟨w.heap.size,0,none⟩=some (.int .i64 5):=by rw[j6 k2];rfl
 have c1:w'.cell? ⟨bk,o,none⟩=some (.string x):=by rw[hd0 _ B2];exact hc0
 generalize w'=w2 at*;clear hc0 hd0;go_wp2_with fail;refine bodyPost_ret (results_tmp2 rfl _ _ _) rfl ?_;exact⟨rfl,B2⟩
theorem jk (M:Nat)(hD:zX M)(k:Nat)(hk:k=6∨k=7∨k=8∨k=9)(bk o c:Nat)(x y:ByteArray)(hx:x.size≤10000000000)(hy:y.size≤10000000000)(w:World)(hc0:w.cell? ⟨bk,o,none⟩=some (.string x))(hc1:w.cell? ⟨bk,o+1,none⟩=some (.string y))(hbk:bk<w.heap.size)(hg:Glob w):
 Calls Tryz.prog 82 #[ndV (.op k),.slice (some ⟨bk,o,none⟩) 2 c] w fun e w'=>e= .returned (.tuple #[.string (opP k [x,y]),.bool true])∧Below w.heap.size w w':=by
 have H1:=fun W h=>Lib.hid (may_at' M hD (.op k) (by unfold NdOK;omega) W h)
 have H2:=fun W=>Lib.hid (jh W)
 have HG:=zc.mk hg;have IX:∀W,(Instr.index 130 wdV (.int .i64 (k:Int))).run Tryz.prog W= .ok (.string (wd k)) W:=by rcases hk with rfl|rfl|rfl|rfl<;>exact fun _=>by kernel_rfl
 have hz:(wd k).size=1:=by rcases hk with rfl|rfl|rfl|rfl<;>rfl
 have e:opP k [x,y]=((((((⟨#[40]⟩:xf)++x)++(⟨#[32]⟩:xf))++wd k)++(⟨#[32]⟩:xf))++y)++(⟨#[41]⟩:xf):=by unfold opP;rw[if_neg (by omega),if_pos (by omega)];rfl
 rw[e];clear e;have n0:¬(k:Int)=0:=by omega
 have n1:¬(k:Int)=1:=by omega
 have n2:¬(k:Int)=2:=by omega
 have n3:¬(k:Int)=3:=by omega
 have n4:¬(k:Int)=4:=by omega
 have n5:¬(k:Int)=5:=by omega
 have h4:((k:Int)==6)=true∨((k:Int)==6)=false∧((k:Int)==7)=true∨((k:Int)==6)=false∧((k:Int)==7)=false∧((k:Int)==8)=true∨((k:Int)==6)=false∧((k:Int)==7)=false∧((k:Int)==8)=false∧((k:Int)==9)=true:=by
  rcases hk with rfl|rfl|rfl|rfl<;>decide
 generalize wd k=sg at*;have oa1:¬9223372036854775807<((⟨#[40]⟩:xf)).size+(x).size:=by(try simp only[j8,show(⟨#[32]⟩:xf).size=1 from rfl,show(⟨#[40]⟩:xf).size=1 from rfl,show(⟨#[41]⟩:xf).size=1 from rfl]);omega
 have oc1:¬9223372036854775807<1+(x).size:=by omega
 have oa2:¬9223372036854775807<((⟨#[40]⟩:xf)++x).size+((⟨#[32]⟩:xf)).size:=by(try simp only[j8,show(⟨#[32]⟩:xf).size=1 from rfl,show(⟨#[40]⟩:xf).size=1 from rfl,show(⟨#[41]⟩:xf).size=1 from rfl]);omega
 have oc2:¬9223372036854775807<1+(x).size+1:=by omega
 have ob2:¬9223372036854775807<((⟨#[40]⟩:xf)++x).size+1:=oa2;have oa3:¬9223372036854775807<((⟨#[40]⟩:xf)++x++(⟨#[32]⟩:xf)).size+(sg).size:=by(try simp only[j8,show(⟨#[32]⟩:xf).size=1 from rfl,show(⟨#[40]⟩:xf).size=1 from rfl,show(⟨#[41]⟩:xf).size=1 from rfl]);omega
 have oc3:¬9223372036854775807<1+(x).size+1+sg.size:=by omega
 have oa4:¬9223372036854775807<((⟨#[40]⟩:xf)++x++(⟨#[32]⟩:xf)++sg).size+((⟨#[32]⟩:xf)).size:=by(try simp only[j8,show(⟨#[32]⟩:xf).size=1 from rfl,show(⟨#[40]⟩:xf).size=1 from rfl,show(⟨#[41]⟩:xf).size=1 from rfl]);omega
 have oc4:¬9223372036854775807<1+(x).size+1+sg.size+1:=by omega
 have ob4:¬9223372036854775807<((⟨#[40]⟩:xf)++x++(⟨#[32]⟩:xf)++sg).size+1:=oa4;have oa5:¬9223372036854775807<((⟨#[40]⟩:xf)++x++(⟨#[32]⟩:xf)++sg++(⟨#[32]⟩:xf)).size+(y).size:=by(try simp only[j8,show(⟨#[32]⟩:xf).size=1 from rfl,show(⟨#[40]⟩:xf).size=1 from rfl,show(⟨#[41]⟩:xf).size=1 from rfl]);omega
 have oc5:¬9223372036854775807<1+(x).size+1+sg.size+1+(y).size:=by omega
 have oa6:¬9223372036854775807<((⟨#[40]⟩:xf)++x++(⟨#[32]⟩:xf)++sg++(⟨#[32]⟩:xf)++y).size+((⟨#[41]⟩:xf)).size:=by(try simp only[j8,show(⟨#[32]⟩:xf).size=1 from rfl,show(⟨#[40]⟩:xf).size=1 from rfl,show(⟨#[41]⟩:xf).size=1 from rfl]);omega
 have oc6:¬9223372036854775807<1+(x).size+1+sg.size+1+(y).size+1:=by omega
 have ob6:¬9223372036854775807<((⟨#[40]⟩:xf)++x++(⟨#[32]⟩:xf)++sg++(⟨#[32]⟩:xf)++y).size+1:=oa6;have hd0:∀w',Below w.heap.size w w'→w'.cell? ⟨bk,o,none⟩=w.cell? ⟨bk,o,none⟩:=fun w' h=>zg h _ hbk
 have hd1:∀w',Below w.heap.size w w'→w'.cell? ⟨bk,o+1,none⟩=w.cell? ⟨bk,o+1,none⟩:=fun w' h=>zg h _ hbk
 simp only[ndV]at*;generalize wdV=wv at*;clear hg hD hx hy hz hk;generalize (k:Int)=K at*;have k0:=j7 w (.cells #[.int .i64 K,.string ⟨#[]⟩,.string ⟨#[]⟩,.string ⟨#[]⟩,.int .i64 0,.int .i64 0] 37);have B0:Below w.heap.size w (w.alloc (.cells #[.int .i64 K,.string ⟨#[]⟩,.string ⟨#[]⟩,.string ⟨#[]⟩,.int .i64 0,.int .i64 0] 37)):=(xb _ w).alloc (xc _) _;rcases h4 with h6|⟨h6,h7⟩|⟨h6,h7,h8⟩|⟨h6,h7,h8,h9⟩
 all_goals
  go_enter Tryz.func82,Tryz.ntmps82
  go_wp2_with fail;generalize w.alloc (.cells #[.int .i64 K,.string ⟨#[]⟩,.string ⟨#[]⟩,.string ⟨#[]⟩,.int .i64 0,.int .i64 0] 37)=w0 at*;refine(H1 _ (HG.out.below B0)).out.mono ?_;rintro e w1 ⟨rfl,hb1⟩;have k1:=(hb1.block _ (xe k0).1).trans k0;have B1:=B0.trans (hb1.mono B0.size);clear k0 B0 hb1 H1;have hSB:∀w':World,Below w1.heap.size w1 w'→w'.cell? ⟨w.heap.size,0,none⟩=some (.int .i64 K):=by
   intro w' hb;have k':=(hb.block _ (xe k1).1).trans k1;rw[j6 k'];rfl
  have HB:=zc.mk (xb w1.heap.size w1);go_wp2_with fail;go_region_held3 (fun w':World=>w'.cell? ⟨w.heap.size,0,none⟩=some (.int .i64 K)) (exact hSB _ bb) (first|(go_at_call 118;with_reducible refine(H2 _).out.mono ?_;rintro e w' ⟨rfl,hb⟩;have n0:=zc.mk (zi bb hb);clear HB hb;have HB:=n0;clear n0))
  have k2:=(HB.out.block _ (xe k1).1).trans k1;have B2:=B1.trans (HB.out.mono B1.size);clear k1 B1 hSB HB H2;have c0:w'.cell? ⟨w.heap.size,0,none⟩=some (.int .i64 K):=by rw[j6 k2];rfl
  have c1:w'.cell? ⟨bk,o,none⟩=some (.string x):=by rw[hd0 _ B2];exact hc0
  have c2:w'.cell? ⟨bk,o+1,none⟩=some (.string y):=by rw[hd1 _ B2];exact hc1
  generalize w'=w2 at*;clear hc0 hc1 hd0 hd1;go_wp2_with fail;go_region;go_wp2_with fail;refine bodyPost_ret (results_tmp2 rfl _ _ _) rfl ?_;exact⟨rfl,B2.drew⟩
theorem nodeFun_at (M:Nat)(hD:zX M)(k:Nat)(hk:k=10∨k=11∨k=12)(bk o c:Nat)(l:List ByteArray)(hl:l.length≤3)(hlc:l.length≤c)(hsz:(joinB l).size≤100000000000)(w:World)(hcells:∀(j:Nat) x,l[j]? =some x→w.cell? ⟨bk,o+j,none⟩=some (.string x))(hbk:bk<w.heap.size)(hg:Glob w):
 Calls Tryz.prog 82 #[ndV (.op k),.slice (some ⟨bk,o,none⟩) l.length c] w fun e w'=>e= .returned (.tuple #[.string (opP k l),.bool true])∧Below w.heap.size w w':=by
 have H1:=fun W h=>Lib.hid (may_at' M hD (.op k) (by unfold NdOK;omega) W h)
 have H2:=fun W=>Lib.hid (jh W)
 have H3:∀W,Below w.heap.size w W→Calls Tryz.prog 121 #[.slice (some ⟨bk,o,none⟩) l.length c,.string (⟨#[44,32]⟩:xf)] W fun e w'=>e= .returned (.string (joinB l))∧Below W.heap.size W w':=by
  intro W hb;have hj:(joinB l).size=(Lib.join (l.map (·.data.toList)) [44,32]).length:=by unfold joinB;show Array.size (List.toArray _)=_;rw[List.size_toArray]
  exact Tryz.strings_Join bk o c l (⟨#[44,32]⟩:xf) W (fun j x hjx=>by rw[zg hb _ hbk];exact hcells j x hjx) (Nat.lt_of_lt_of_le hbk hb.size) (by omega) hlc (by show(Lib.join (l.map (·.data.toList)) [44,32]).length≤_;omega)
 have H4:=fun W h=>Lib.hid (H3 W h)
 have HG:=zc.mk hg;have IX:∀W,(Instr.index 130 wdV (.int .i64 (k:Int))).run Tryz.prog W= .ok (.string (wd k)) W:=by rcases hk with rfl|rfl|rfl<;>exact fun _=>by kernel_rfl
 have hz:(wd k).size≤3:=by rcases hk with rfl|rfl|rfl<;>decide
 have e:opP k l=((wd k++(⟨#[40]⟩:xf))++joinB l)++(⟨#[41]⟩:xf):=by unfold opP;rw[if_neg (by omega),if_neg (by omega)]
 rw[e];clear e;have n0:¬(k:Int)=0:=by omega
 have n1:¬(k:Int)=1:=by omega
 have n2:¬(k:Int)=2:=by omega
 have n3:¬(k:Int)=3:=by omega
 have n4:¬(k:Int)=4:=by omega
 have n5:¬(k:Int)=5:=by omega
 have n6:¬(k:Int)=6:=by omega
 have n7:¬(k:Int)=7:=by omega
 have n8:¬(k:Int)=8:=by omega
 have n9:¬(k:Int)=9:=by omega
 generalize wd k=sg at*;have oa1:¬9223372036854775807<sg.size+((⟨#[40]⟩:xf)).size:=by show¬_<sg.size+1;omega
 have oc1:¬9223372036854775807<sg.size+1:=by omega
 have oa2:¬9223372036854775807<(sg++(⟨#[40]⟩:xf)).size+(joinB l).size:=by(try simp only[j8,show(⟨#[40]⟩:xf).size=1 from rfl,show(⟨#[41]⟩:xf).size=1 from rfl]);omega
 have oc2:¬9223372036854775807<sg.size+1+(joinB l).size:=by omega
 have oa3:¬9223372036854775807<(sg++(⟨#[40]⟩:xf)++joinB l).size+((⟨#[41]⟩:xf)).size:=by(try simp only[j8,show(⟨#[40]⟩:xf).size=1 from rfl,show(⟨#[41]⟩:xf).size=1 from rfl]);omega
 have oc3:¬9223372036854775807<sg.size+1+(joinB l).size+1:=by omega
 have ob3:¬9223372036854775807<(sg++(⟨#[40]⟩:xf)++joinB l).size+1:=oa3;simp only[ndV]at*;generalize wdV=wv at*;generalize joinB l=J at*;generalize l.length=n at*;clear hg hD hsz hcells H3 hbk hz hk;generalize (k:Int)=K at*;have k0:=j7 w (.cells #[.int .i64 K,.string ⟨#[]⟩,.string ⟨#[]⟩,.string ⟨#[]⟩,.int .i64 0,.int .i64 0] 37);have B0:Below w.heap.size w (w.alloc (.cells #[.int .i64 K,.string ⟨#[]⟩,.string ⟨#[]⟩,.string ⟨#[]⟩,.int .i64 0,.int .i64 0] 37)):=(xb _ w).alloc (xc _) _;go_enter Tryz.func82,Tryz.ntmps82
 go_wp2_with fail;generalize w.alloc (.cells #[.int .i64 K,.string ⟨#[]⟩,.string ⟨#[]⟩,.string ⟨#[]⟩,.int .i64 0,.int .i64 0] 37)=w0 at*;refine(H1 _ (HG.out.below B0)).out.mono ?_;rintro e w1 ⟨rfl,hb1⟩;have k1:=(hb1.block _ (xe k0).1).trans k0;have B1:=B0.trans (hb1.mono B0.size);clear k0 B0 hb1 H1;have hSB:∀w':World,Below w1.heap.size w1 w'→w'.cell? ⟨w.heap.size,0,none⟩=some (.int .i64 K):=by
  intro w' hb;have k':=(hb.block _ (xe k1).1).trans k1;rw[j6 k'];rfl
 have HB:=zc.mk (xb w1.heap.size w1);go_wp2_with fail;go_region_held3 (fun w':World=>w'.cell? ⟨w.heap.size,0,none⟩=some (.int .i64 K)) (exact hSB _ bb) (first|(go_at_call 118;with_reducible refine(H2 _).out.mono ?_;rintro e w' ⟨rfl,hb⟩;have n0:=zc.mk (zi bb hb);clear HB hb;have HB:=n0;clear n0))
 have k2:=(HB.out.block _ (xe k1).1).trans k1;have B2:=B1.trans (HB.out.mono B1.size);clear k1 B1 hSB HB H2;have c0:w'.cell? ⟨w.heap.size,0,none⟩=some (.int .i64 K):=by rw[j6 k2];rfl
 generalize w'=w2 at*;go_wp2_with fail;refine(H4 _ B2).out.mono ?_;rintro e w3 ⟨rfl,hb3⟩;have B3:=B2.trans (hb3.mono B2.size);go_wp2_with fail;refine bodyPost_ret (results_tmp2 rfl _ _ _) rfl ?_;exact⟨rfl,B3⟩
end Go.Proofs.YtjopepfemhckjaaGreatDoor.NW
end
