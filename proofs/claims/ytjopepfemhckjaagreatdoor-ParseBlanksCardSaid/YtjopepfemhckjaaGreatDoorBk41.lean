/-
  Part 41 of the proof of parseBlanks_holds: texts of this seat, put together.
-/
import Derived.Test.YtjopepfemhckjaaGreatDoorBk40
set_option linter.unusedVariables false
set_option linter.unusedSimpArgs false
section
set_option maxRecDepth 100000
namespace Go.Proofs.YtjopepfemhckjaaGreatDoor.NW
open Go.Proofs Go.RowKit Go.Shelf Go.Proofs.YtjopepfemhckjaaGreatDoor.PN Go.Proofs.YtjopepfemhckjaaGreatDoorW.PrintWords Go.Proofs.YtjopepfemhckjaaGreatDoor.PParseTells
set_option maxHeartbeats 4000000 in
theorem blanksA_at (s:ByteArray)(h1:2000<(s.size:Int))(w:World)(hg:Glob2 w):Calls Tryz.prog 7 #[.string s] w fun e w'=>e= .returned (.bool true)∧Below w.heap.size w w':=by
 have HG:=Aside0.mk hg;have H0:=fun w (hg:Glob2 w)=>Lib.hid (fixed_t w hg)
 clear hg;go_enter Tryz.func7,Tryz.ntmps7
 go_wp2_with fail;refine(H0 _ HG.out).out.mono ?_;rintro e w0 ⟨rfl,hb⟩;have B0:=Aside0.mk hb;clear hb;go_wp2_with fail;refine(H0 _ (HG.out.below B0.out)).out.mono ?_;rintro e w1 ⟨rfl,hb⟩;have B1:=B0.out.trans (hb.mono B0.out.size);go_wp2_with fail;go_ret;exact⟨rfl,B1⟩
theorem psErr {s:ByteArray}{e:Int}(h:PsTo s (.err e))(w:World)(hg:Glob2 w):Calls Tryz.prog 10 #[.string s] w fun ex w'=>∃l c,ex= .returned (.tuple #[.slice none 0 0,.int .i64 e,.int .i64 l,.int .i64 c])∧Below w.heap.size w w':=h.2 w hg
theorem psAny {s:ByteArray}{a:Ans}(h:PsTo s a)(w:World)(hg:Glob2 w):Calls Tryz.prog 10 #[.string s] w fun ex w'=>∃A n c e l cl,ex= .returned (.tuple #[.slice A n c,.int .i64 e,.int .i64 l,.int .i64 cl])∧Below w.heap.size w w':=by
 cases a with
 |ok o=>
  refine(h.2.2 w hg).mono ?_;rintro ex w' ⟨A,c,h1,_,_,_,h2⟩;exact⟨A,_,c,_,_,_,h1,h2⟩
 |err e=>
  refine(h.2 w hg).mono ?_;rintro ex w' ⟨l,c,h1,h2⟩;exact⟨none,0,0,e,l,c,h1,h2⟩
set_option maxHeartbeats 4000000 in
theorem blanksB_at (s:ByteArray)(h1:¬2000<(s.size:Int))(e0:Int)(b:Ans)(ha:PsTo s (.err e0))(hp:PsTo (padW s) (.err e0))(hq:PsTo (parW s) b)(w:World)(hg:Glob2 w):Calls Tryz.prog 7 #[.string s] w fun e w'=>e= .returned (.bool true)∧Below w.heap.size w w':=by
 have HG:=Aside0.mk hg;have H0:=fun w (hg:Glob2 w)=>Lib.hid (fixed_t w hg)
 have H1:=fun w (hg:Glob2 w)=>Lib.hid (psErr ha w hg)
 have H2:=fun w (hg:Glob2 w)=>Lib.hid (psErr hp w hg)
 have H3:=fun w (hg:Glob2 w)=>Lib.hid (psAny hq w hg)
 unfold padW at H2;unfold parW at H3;have he:=ha.1;have z1:¬9223372036854775807<(⟨#[32,10]⟩:ByteArray).size+s.size:=by show¬_<2+s.size;omega
 have z2:¬9223372036854775807<((⟨#[32,10]⟩:ByteArray)++s).size+(⟨#[32,10]⟩:ByteArray).size:=by rw[ByteArray.size_append];show¬_<2+s.size+2;omega
 have z3:¬9223372036854775807<(⟨#[40]⟩:ByteArray).size+s.size:=by show¬_<1+s.size;omega
 have z4:¬9223372036854775807<((⟨#[40]⟩:ByteArray)++s).size+(⟨#[41]⟩:ByteArray).size:=by rw[ByteArray.size_append];show¬_<1+s.size+1;omega
 clear hg ha hp hq;go_enter Tryz.func7,Tryz.ntmps7
 go_wp2_with fail;refine(H0 _ HG.out).out.mono ?_;rintro e w0 ⟨rfl,hb⟩;have B0:=Aside0.mk hb;clear hb H0;go_wp2_with fail;refine(H1 _ (HG.out.below B0.out)).out.mono ?_;rintro e w1 ⟨l1,c1,rfl,hb⟩;have B1:=Aside0.mk (B0.out.trans (hb.mono B0.out.size));clear hb H1 B0;go_wp2_with fail;refine(H2 _ (HG.out.below B1.out)).out.mono ?_;rintro e w2 ⟨l2,c2,rfl,hb⟩;have B2:=Aside0.mk (B1.out.trans (hb.mono B1.out.size));clear hb H2 B1;go_wp2_with fail;refine(H3 _ (HG.out.below B2.out)).out.mono ?_;rintro e w3 ⟨A3,n3,k3,e3,l3,c3,rfl,hb⟩;have B3:=Aside0.mk (B2.out.trans (hb.mono B2.out.size));clear hb H3 B2;go_wp2_with fail;go_ret;exact⟨by first|rfl|(simp;done),B3.out⟩
set_option maxHeartbeats 4000000 in
theorem blanksC_at (s:ByteArray)(h1:¬2000<(s.size:Int))(o:List Nd)(ha:PsTo s (.ok o))(hp:PsTo (padW s) (.ok o))(hq:PsTo (parW s) (.ok o))(w:World)(hg:Glob2 w):Calls Tryz.prog 7 #[.string s] w fun e w'=>e= .returned (.bool true)∧Below w.heap.size w w':=by
 have HG:=Aside0.mk hg;have H0:=fun w (hg:Glob2 w)=>Lib.hid (fixed_t w hg)
 have H1:=fun w (hg:Glob2 w)=>Lib.hid (ha.2.2 w hg)
 have H2:=fun w (hg:Glob2 w)=>Lib.hid (hp.2.2 w hg)
 have H3:=fun w (hg:Glob2 w)=>Lib.hid (hq.2.2 w hg)
 have HS:=fun A B c d W h1 h2=>Lib.hid (same_at o A B c d ha.2.1 W h1 h2)
 unfold padW at H2;unfold parW at H3;have z1:¬9223372036854775807<(⟨#[32,10]⟩:ByteArray).size+s.size:=by show¬_<2+s.size;omega
 have z2:¬9223372036854775807<((⟨#[32,10]⟩:ByteArray)++s).size+(⟨#[32,10]⟩:ByteArray).size:=by rw[ByteArray.size_append];show¬_<2+s.size+2;omega
 have z3:¬9223372036854775807<(⟨#[40]⟩:ByteArray).size+s.size:=by show¬_<1+s.size;omega
 have z4:¬9223372036854775807<((⟨#[40]⟩:ByteArray)++s).size+(⟨#[41]⟩:ByteArray).size:=by rw[ByteArray.size_append];show¬_<1+s.size+1;omega
 clear hg ha hp hq;go_enter Tryz.func7,Tryz.ntmps7
 go_wp2_with fail;refine(H0 _ HG.out).out.mono ?_;rintro e w0 ⟨rfl,hb⟩;have B0:=Aside0.mk hb;clear hb H0;go_wp2_with fail;refine(H1 _ (HG.out.below B0.out)).out.mono ?_;rintro e w1 ⟨A1,k1,rfl,_,_,C1,hb⟩;have B1:=Aside0.mk (B0.out.trans (hb.mono B0.out.size));clear hb H1 B0;go_wp2_with fail;refine(H2 _ (HG.out.below B1.out)).out.mono ?_;rintro e w2 ⟨A2,k2,rfl,_,_,C2,hb⟩;have C1b:=Aside0.mk (Kd.C_below C1.out hb);have B2:=Aside0.mk (B1.out.trans (hb.mono B1.out.size));clear hb H2 B1 C1;go_wp2_with fail;refine(H3 _ (HG.out.below B2.out)).out.mono ?_;rintro e w3 ⟨A3,k3,rfl,_,_,C3,hb⟩;have C1c:=Aside0.mk (Kd.C_below C1b.out hb);have C2c:=Aside0.mk (Kd.C_below C2.out hb);have B3:=Aside0.mk (B2.out.trans (hb.mono B2.out.size));clear hb H3 B2 C1b C2;go_wp2_with fail;refine(HS A1 A2 k1 k2 _ C1c.out C2c.out).out.mono ?_;rintro e w4 ⟨rfl,hb⟩;have C1d:=Aside0.mk (Kd.C_below C1c.out hb);have C3d:=Aside0.mk (Kd.C_below C3.out hb);have B4:=Aside0.mk (B3.out.trans (hb.mono B3.out.size));clear hb B3 C1c C2c C3;go_wp2_with fail;refine(HS A1 A3 k1 k3 _ C1d.out C3d.out).out.mono ?_;rintro e w5 ⟨rfl,hb⟩;have B5:=Aside0.mk (B4.out.trans (hb.mono B4.out.size));clear hb B4;go_wp2_with fail;go_ret;exact⟨by first|rfl|(simp;done),B5.out⟩
set_option maxHeartbeats 4000000 in
theorem blanksD_at (s:ByteArray)(h1:¬2000<(s.size:Int))(o:List Nd)(ha:PsTo s (.ok o))(hp:PsTo (padW s) (.ok o))(hq:PsTo (parW s) (.err 111))(w:World)(hg:Glob2 w):Calls Tryz.prog 7 #[.string s] w fun e w'=>e= .returned (.bool true)∧Below w.heap.size w w':=by
 have HG:=Aside0.mk hg;have H0:=fun w (hg:Glob2 w)=>Lib.hid (fixed_t w hg)
 have H1:=fun w (hg:Glob2 w)=>Lib.hid (ha.2.2 w hg)
 have H2:=fun w (hg:Glob2 w)=>Lib.hid (hp.2.2 w hg)
 have H3:=fun w (hg:Glob2 w)=>Lib.hid (psErr hq w hg)
 have HS:=fun A B c d W h1 h2=>Lib.hid (same_at o A B c d ha.2.1 W h1 h2)
 unfold padW at H2;unfold parW at H3;have z1:¬9223372036854775807<(⟨#[32,10]⟩:ByteArray).size+s.size:=by show¬_<2+s.size;omega
 have z2:¬9223372036854775807<((⟨#[32,10]⟩:ByteArray)++s).size+(⟨#[32,10]⟩:ByteArray).size:=by rw[ByteArray.size_append];show¬_<2+s.size+2;omega
 have z3:¬9223372036854775807<(⟨#[40]⟩:ByteArray).size+s.size:=by show¬_<1+s.size;omega
 have z4:¬9223372036854775807<((⟨#[40]⟩:ByteArray)++s).size+(⟨#[41]⟩:ByteArray).size:=by rw[ByteArray.size_append];show¬_<1+s.size+1;omega
 clear hg ha hp hq;go_enter Tryz.func7,Tryz.ntmps7
 go_wp2_with fail;refine(H0 _ HG.out).out.mono ?_;rintro e w0 ⟨rfl,hb⟩;have B0:=Aside0.mk hb;clear hb H0;go_wp2_with fail;refine(H1 _ (HG.out.below B0.out)).out.mono ?_;rintro e w1 ⟨A1,k1,rfl,_,_,C1,hb⟩;have B1:=Aside0.mk (B0.out.trans (hb.mono B0.out.size));clear hb H1 B0;go_wp2_with fail;refine(H2 _ (HG.out.below B1.out)).out.mono ?_;rintro e w2 ⟨A2,k2,rfl,_,_,C2,hb⟩;have C1b:=Aside0.mk (Kd.C_below C1.out hb);have B2:=Aside0.mk (B1.out.trans (hb.mono B1.out.size));clear hb H2 B1 C1;go_wp2_with fail;refine(H3 _ (HG.out.below B2.out)).out.mono ?_;rintro e w3 ⟨l3,c3,rfl,hb⟩;have C1c:=Aside0.mk (Kd.C_below C1b.out hb);have C2c:=Aside0.mk (Kd.C_below C2.out hb);have B3:=Aside0.mk (B2.out.trans (hb.mono B2.out.size));clear hb H3 B2 C1b C2;go_wp2_with fail;refine(HS A1 A2 k1 k2 _ C1c.out C2c.out).out.mono ?_;rintro e w4 ⟨rfl,hb⟩;have B4:=Aside0.mk (B3.out.trans (hb.mono B3.out.size));clear hb B3 C1c C2c;go_wp2_with fail;go_ret;exact⟨by first|rfl|(simp;done),B4.out⟩
theorem blanks_at (s:ByteArray)(w:World)(hg:Glob2 w):Calls Tryz.prog 7 #[.string s] w fun e w'=>e= .returned (.bool true)∧Below w.heap.size w w':=by
 by_cases h:2000<(s.size:Int)
 ·exact blanksA_at s h w hg
 ·obtain⟨a,b,h1,h2,h3,h4⟩:=blanks_law s (by omega)
  cases a with
  |err e=>exact blanksB_at s h e b h1 h2 h3 w hg
  |ok o=>
   rcases h4 o rfl with rfl|rfl
   ·exact blanksC_at s h o h1 h2 h3 w hg
   ·exact blanksD_at s h o h1 h2 h3 w hg
end Go.Proofs.YtjopepfemhckjaaGreatDoor.NW
end
