/-
  Part 11 of the proof of parseTells_holds: texts of this seat, put together.
-/
import Derived.Test.YtjopepfemhckjaaGreatDoorTl10
set_option linter.unusedVariables false
set_option linter.unusedSimpArgs false
set_option maxHeartbeats 16000000
set_option maxRecDepth 100000
section
namespace Go.Proofs.YtjopepfemhckjaaGreatDoor.PParseTells
open Go.RowKit Go.Proofs.YtjopepfemhckjaaGreatDoorW.PrintWords Go.Proofs.YtjopepfemhckjaaGreatDoorW.PrintLast
mutual
def term_Arity.j0:Nat→Int→Bool→Option (Int)
 |0,_,_=>none
 |k+1,x0,x3=>if x3=true then(some 0)else(if x0=5 then(some 1)else(if x0≥6 then(term_Arity.j1 k x0 (decide (x0≤11)))else(term_Arity.j1 k x0 false)))
def term_Arity.j1:Nat→Int→Bool→Option (Int)
 |0,_,_=>none
 |k+1,x0,x13=>if x13=true then(some 2)else(if x0=12 then(some 3)else(some (-1)))
end
def term_Arity.f (k:Nat)(a0:Int):Option (Int):=if a0≥0 then(term_Arity.j0 k a0 (decide (a0≤4)))else(term_Arity.j0 k a0 false)
theorem term_Arity.calls (k:Nat)(a0:Int)(r:Int)(w:World)(h:term_Arity.f k a0=some r):
 Calls Tryz.prog 79 #[.int .i64 a0] w fun e w'=>e= .returned (.int .i64 r)∧zj w w':=by
 have H:(if a0≥0 then(term_Arity.j0 k a0 (decide (a0≤4)))else(term_Arity.j0 k a0 false))=some r:=h
 clear h;have HC2:=zc.mk H;clear H;go_enter Tryz.func79,Tryz.ntmps79
 go_upto_region 1 with(fail)
 go_cut [3] (fun v3 wc=>∃(kq:Nat) (x3_1:Bool),v3= .bool x3_1∧zc (term_Arity.j0 kq a0 x3_1=some r)∧zc (kq≤k)∧zj w wc)
 case first=>
  have H:=HC2.out;clear HC2;by_cases c3:a0≥0
  ·rw[if_pos c3]at H
   have c3b0:decide (0≤a0)=true:=decide_eq_true c3;clear c3
   (first|rw[c3b0]|(simp only[i64_w,i32_w];rw[c3b0])|skip)
   have H':=zc.mk H;clear H;go_wp2;go_meet
   case rel=>exact⟨_,(decide (a0≤4)),(by first|rfl|(simp;done)|(simp[*];done)),H',⟨by first|omega|exact xc _⟩,by repeat(first|exact zj.refl _|apply zj.step)⟩
  ·rw[if_neg c3]at H
   have c3b0:decide (0≤a0)=false:=decide_eq_false c3;clear c3
   (first|rw[c3b0]|(simp only[i64_w,i32_w];rw[c3b0])|skip)
   have H':=zc.mk H;clear H;go_wp2;go_meet
   case rel=>exact⟨_,(false),(by first|rfl|(simp;done)|(simp[*];done)),H',⟨by first|omega|exact xc _⟩,by repeat(first|exact zj.refl _|apply zj.step)⟩
 case rest=>
  clear HC2;try clear p2
  try clear c3
  try clear c3b0
  obtain⟨kq,x3_1,rfl,HA,HJ1,⟨mc1,rfl⟩⟩:=hcut;cases kq with
  |zero=>exact absurd HA.out (by simp[term_Arity.j0])
  |succ kj1=>
   have H:=HA.out;clear HA;simp only[term_Arity.j0]at H;by_cases c4:x3_1=true
   ·subst c4
    have H1:(some 0)=some r:=by rw[if_pos rfl]at H;exact H
    clear H;have H:=H1;clear H1;obtain rfl:=Option.some.inj H;go_wp2;go_ret;exact⟨by first|rfl|(simp;done)|(simp[*];done),by repeat(first|exact zj.refl _|apply zj.step)⟩
   ·replace c4:=Bool.eq_false_iff.mpr c4
    subst c4;have H1:(if a0=5 then(some 1)else(if a0≥6 then(term_Arity.j1 kj1 a0 (decide (a0≤11)))else(term_Arity.j1 kj1 a0 false)))=some r:=by rw[if_neg (show¬(false=true) by decide)]at H;exact H
    clear H;have H:=H1;clear H1;by_cases c5:a0=5
    ·rw[if_pos c5]at H
     have c5b0:(a0==5)=true:=beq_iff_eq.mpr c5;have c5b1:(a0 !=5)=false:=bne_eq_false_iff_eq.mpr c5;clear c5;obtain rfl:=Option.some.inj H;go_wp2;go_ret;exact⟨by first|rfl|(simp;done)|(simp[*];done),by repeat(first|exact zj.refl _|apply zj.step)⟩
    ·rw[if_neg c5]at H
     have c5b0:(a0==5)=false:=beq_eq_false_iff_ne.mpr c5;have c5b1:(a0 !=5)=true:=bne_iff_ne.mpr c5;have HC6:=zc.mk H;clear H;go_upto_region 5 with(fail)
     go_cut [13] (fun v13 wc=>∃(kq:Nat) (x13_5:Bool),v13= .bool x13_5∧zc (term_Arity.j1 kq a0 x13_5=some r)∧zc (kq≤kj1)∧zj w wc)
     case first=>
      have H:=HC6.out;clear HC6;by_cases c7:a0≥6
      ·rw[if_pos c7]at H
       have c7b0:decide (6≤a0)=true:=decide_eq_true c7;clear c7
       (first|rw[c7b0]|(simp only[i64_w,i32_w];rw[c7b0])|skip)
       have H':=zc.mk H;clear H;go_wp2;go_meet
       case rel=>exact⟨_,(decide (a0≤11)),(by first|rfl|(simp;done)|(simp[*];done)),H',⟨by have:=HJ1.out;first|omega|exact xc _⟩,by repeat(first|exact zj.refl _|apply zj.step)⟩
      ·rw[if_neg c7]at H
       have c7b0:decide (6≤a0)=false:=decide_eq_false c7;clear c7
       (first|rw[c7b0]|(simp only[i64_w,i32_w];rw[c7b0])|skip)
       have H':=zc.mk H;clear H;go_wp2;go_meet
       case rel=>exact⟨_,(false),(by first|rfl|(simp;done)|(simp[*];done)),H',⟨by have:=HJ1.out;first|omega|exact xc _⟩,by repeat(first|exact zj.refl _|apply zj.step)⟩
     case rest=>
      clear HC6;try clear c1
      try clear p2
      try clear c3
      try clear c3b0
      try clear c4
      try clear c5
      try clear c5b0
      try clear c5b1
      try clear c7
      try clear c7b0
      try clear p2
      obtain⟨kq,x13_5,rfl,HA,HJ5,⟨mc5,rfl⟩⟩:=hcut;cases kq with
      |zero=>exact absurd HA.out (by simp[term_Arity.j1])
      |succ kj5=>
       have H:=HA.out;clear HA;simp only[term_Arity.j1]at H;by_cases c8:x13_5=true
       ·subst c8
        have H1:(some 2)=some r:=by rw[if_pos rfl]at H;exact H
        clear H;have H:=H1;clear H1;obtain rfl:=Option.some.inj H;go_wp2;go_ret;exact⟨by first|rfl|(simp;done)|(simp[*];done),by repeat(first|exact zj.refl _|apply zj.step)⟩
       ·replace c8:=Bool.eq_false_iff.mpr c8
        subst c8;have H1:(if a0=12 then(some 3)else(some (-1)))=some r:=by rw[if_neg (show¬(false=true) by decide)]at H;exact H
        clear H;have H:=H1;clear H1;by_cases c9:a0=12
        ·rw[if_pos c9]at H
         have c9b0:(a0==12)=true:=beq_iff_eq.mpr c9;have c9b1:(a0 !=12)=false:=bne_eq_false_iff_eq.mpr c9;clear c9;obtain rfl:=Option.some.inj H;go_wp2;go_ret;exact⟨by first|rfl|(simp;done)|(simp[*];done),by repeat(first|exact zj.refl _|apply zj.step)⟩
        ·rw[if_neg c9]at H
         have c9b0:(a0==12)=false:=beq_eq_false_iff_ne.mpr c9;have c9b1:(a0 !=12)=true:=bne_iff_ne.mpr c9;obtain rfl:=Option.some.inj H;go_wp2;go_ret;exact⟨by first|rfl|(simp;done)|(simp[*];done),by repeat(first|exact zj.refl _|apply zj.step)⟩
def parse_operator.f (a0_0:Int)(a0_1:ByteArray)(a0_2:Int)(a0_3:Int):Option (Int×Int):=if a0_0=2 then(if a0_1.toList=([43]:List UInt8)then(some (6,1))else(if a0_1.toList=([45]:List UInt8)then(some (7,1))else(if a0_1.toList=([42]:List UInt8)then(some (8,2))else(if a0_1.toList=([47]:List UInt8)then(some (9,2))else(some (0,0))))))else(some (0,0))
theorem parse_operator.calls (a0_0:Int)(a0_1:ByteArray)(a0_2:Int)(a0_3:Int)(r1:Int)(r2:Int)(w:World)(h:parse_operator.f a0_0 a0_1 a0_2 a0_3=some (r1,r2)):
 Calls Tryz.prog 47 #[.agg #[.int .i64 a0_0,.string a0_1,.int .i64 a0_2,.int .i64 a0_3]] w fun e w'=>e= .returned (.tuple #[.int .i64 r1,.int .i64 r2])∧Below w.heap.size w w':=by
 unfold parse_operator.f at h;repeat' split at h
 all_goals
  injection h with h;injection h with h1 h2;subst h1 h2
  (try simp only[pbq,Bool.not_eq_true]at*)
  go_enter Tryz.func47,Tryz.ntmps47
  go_wp2_with fail;refine bodyPost_ret (results_tmp2 rfl _ _ _) rfl ?_;exact⟨rfl,(xb _ w).alloc (xc _) _⟩
def term_day.f (a0:Int):Option (Bool):=if a0≥0 then(some (decide (a0≤9999)))else(some false)
theorem term_day.calls (a0:Int)(r:Bool)(w:World)(h:term_day.f a0=some r):
 Calls Tryz.prog 154 #[.int .i64 a0] w fun e w'=>e= .returned (.bool r)∧zj w w':=by
 have H:(if a0≥0 then(some (decide (a0≤9999)))else(some false))=some r:=h
 clear h;by_cases c2:a0≥0
 ·rw[if_pos c2]at H
  have c2b0:decide (0≤a0)=true:=decide_eq_true c2;clear c2;obtain rfl:=Option.some.inj H;go_enter Tryz.func154,Tryz.ntmps154
  go_wp2;go_ret;exact⟨by first|rfl|(simp;done)|(simp[*];done),by repeat(first|exact zj.refl _|apply zj.step)⟩
 ·rw[if_neg c2]at H
  have c2b0:decide (0≤a0)=false:=decide_eq_false c2;clear c2;obtain rfl:=Option.some.inj H;go_enter Tryz.func154,Tryz.ntmps154
  go_wp2;go_ret;exact⟨by first|rfl|(simp;done)|(simp[*];done),by repeat(first|exact zj.refl _|apply zj.step)⟩
end Go.Proofs.YtjopepfemhckjaaGreatDoor.PParseTells
end
section
namespace Go.Proofs.YtjopepfemhckjaaGreatDoor.NW
open Go.Proofs Go.RowKit Go.Shelf Go.Proofs.YtjopepfemhckjaaGreatDoor.PN Go.Proofs.YtjopepfemhckjaaGreatDoorW.PrintWords Go.Proofs.YtjopepfemhckjaaGreatDoor.PParseTells
inductive Nd where
 |num (z:Int) (d:Nat)
 |px (s:ByteArray) (a:Int)
 |op (k:Nat)
 |raw (x:S37)
def ndV:Nd→Value
 | .num z d=> .agg #[.int .i64 0,.string (intS z),.string (natS d),.string ⟨#[]⟩,.int .i64 0,.int .i64 0]
 | .px s a=> .agg #[.int .i64 1,.string ⟨#[]⟩,.string ⟨#[]⟩,.string s,.int .i64 a,.int .i64 0]
 | .op k=> .agg #[.int .i64 k,.string ⟨#[]⟩,.string ⟨#[]⟩,.string ⟨#[]⟩,.int .i64 0,.int .i64 0]
 | .raw x=> .agg #[.int .i64 x.f0,.string x.f1.f0,.string x.f1.f1,.string x.f2,.int .i64 x.f3,.int .i64 x.f4]
structure SpOK (x:S37):Prop where
 k:x.f0=2∨x.f0=3∨x.f0=4
 n:x.f1=⟨⟨#[]⟩,⟨#[]⟩⟩
 s:NmOK x.f2
 a:0≤x.f3
 ab:x.f3≤x.f4
 b:x.f4≤9999
 m:x.f4-x.f3<60
theorem maySp_at (k:Int)(hk:k=2∨k=3∨k=4)(s:ByteArray)(hs:NmOK s)(a b:Int)(ha:0≤a)(hab:a≤b)(hb:b≤9999)(hm:b-a<60)(w:World):
 Calls Tryz.prog 117 #[.agg #[.int .i64 k,.string ⟨#[]⟩,.string ⟨#[]⟩,.string s,.int .i64 a,.int .i64 b]] w fun e w'=>e= .returned (.bool true)∧Below w.heap.size w w':=by
 have HA:=fun W=>Lib.hid (asset_at s hs W)
 have HD:=fun W=>Lib.hid (term_day.calls a true W (by unfold term_day.f;rw[if_pos ha,decide_eq_true (by omega)]))
 have HD2:=fun W=>Lib.hid (term_day.calls b true W (by unfold term_day.f;rw[if_pos (by omega),decide_eq_true hb]))
 have e1:IntKind.i64.wrap (b-a)=b-a:=by simp[j9];omega
 have m1:=(Lib.alloc_old (w.alloc (.cells #[.int .i64 k,.string ⟨#[]⟩,.string ⟨#[]⟩,.string s,.int .i64 a,.int .i64 b] 37)) (.cells #[.int .i64 k,.string ⟨#[]⟩,.string ⟨#[]⟩,.string s,.int .i64 a,.int .i64 b] 37) w.heap.size (by simp)).trans (j7 w (.cells #[.int .i64 k,.string ⟨#[]⟩,.string ⟨#[]⟩,.string s,.int .i64 a,.int .i64 b] 37))
 have B1:Below w.heap.size w ((w.alloc (.cells #[.int .i64 k,.string ⟨#[]⟩,.string ⟨#[]⟩,.string s,.int .i64 a,.int .i64 b] 37)).alloc (.cells #[.int .i64 k,.string ⟨#[]⟩,.string ⟨#[]⟩,.string s,.int .i64 a,.int .i64 b] 37)).drew:=(((xb _ w).alloc (xc _) _).alloc (by simp) _).drew
 have m2:((w.alloc (.cells #[.int .i64 k,.string ⟨#[]⟩,.string ⟨#[]⟩,.string s,.int .i64 a,.int .i64 b] 37)).alloc (.cells #[.int .i64 k,.string ⟨#[]⟩,.string ⟨#[]⟩,.string s,.int .i64 a,.int .i64 b] 37)).drew.heap[w.heap.size]? =_:=m1;have M2:=zc.mk m2;have BB1:=zc.mk B1;clear hs ha hb m1 m2 B1;rcases hk with rfl|rfl|rfl
 all_goals
  go_enter Tryz.func117,Tryz.ntmps117
  go_wp2_with fail;go_region;go_wp2_with fail;generalize ((w.alloc _).alloc _).drew=w1 at*;refine(HA _).out.mono ?_;rintro e w2 ⟨rfl,hb2⟩;have k2:=(hb2.block _ (xe M2.out).1).trans M2.out;have B2:=BB1.out.trans (hb2.mono BB1.out.size);have c3:w2.cell? ⟨w.heap.size,3,none⟩=some (.string s):=by rw[j6 k2];rfl
  have c4:w2.cell? ⟨w.heap.size,4,none⟩=some (.int .i64 a):=by rw[j6 k2];rfl
  have c5:w2.cell? ⟨w.heap.size,5,none⟩=some (.int .i64 b):=by rw[j6 k2];rfl
  clear hb2 HA;go_wp2_with fail;refine(HD _).out.mono ?_;rintro e w3 ⟨rfl,nd,rfl⟩;have c5':(w2.drewN nd).cell? ⟨w.heap.size,5,none⟩=some (.int .i64 b):=c5;go_wp2_with fail;refine(HD2 _).out.mono ?_;rintro e w4 ⟨rfl,nd2,rfl⟩;have c4'':((w2.drewN nd).drewN nd2).cell? ⟨w.heap.size,4,none⟩=some (.int .i64 a):=c4;have c5'':((w2.drewN nd).drewN nd2).cell? ⟨w.heap.size,5,none⟩=some (.int .i64 b):=c5;go_wp2_with fail;go_ret;exact⟨by simp[*],ze B2 _⟩
def NdOK (M:Nat):Nd→Prop
 | .num z d=>RatOK M z d∧(natS z.natAbs).size≤60∧(natS d).size≤60
 | .px s a=>NmOK s∧0≤a∧a≤9999
 | .op k=>5≤k∧k≤12
 | .raw x=>SpOK x
theorem mayOp_at (k:Nat)(hk:5≤k∧k≤12)(w:World):
 Calls Tryz.prog 117 #[ndV (.op k)] w fun e w'=>e= .returned (.bool true)∧Below w.heap.size w w':=by
 simp only[ndV];have h0:¬(k:Int)=0:=by omega
 have h1:¬(k:Int)=1:=by omega
 have h2:¬(k:Int)=2:=by omega
 have h3:¬(k:Int)=3:=by omega
 have h4:¬(k:Int)=4:=by omega
 generalize (k:Int)=kk at*;clear hk;go_enter Tryz.func117,Tryz.ntmps117
 go_wp2_with fail;go_ret;exact⟨rfl,((xb _ w).alloc (xc _) _).alloc (by simp) _⟩
theorem mayPx_at (s:ByteArray)(hs:NmOK s)(a:Int)(ha:0≤a∧a≤9999)(w:World):
 Calls Tryz.prog 117 #[ndV (.px s a)] w fun e w'=>e= .returned (.bool true)∧Below w.heap.size w w':=by
 simp only[ndV];have HA:=fun W=>Lib.hid (asset_at s hs W)
 have HD:=fun W=>Lib.hid (term_day.calls a true W (by unfold term_day.f;rw[if_pos ha.1,decide_eq_true ha.2]))
 clear hs ha;go_enter Tryz.func117,Tryz.ntmps117
 go_wp2_with fail;go_region;go_wp2_with fail;have m1:=(Lib.alloc_old (w.alloc (.cells #[.int .i64 1,.string ⟨#[]⟩,.string ⟨#[]⟩,.string s,.int .i64 a,.int .i64 0] 37)) (.cells #[.int .i64 1,.string ⟨#[]⟩,.string ⟨#[]⟩,.string s,.int .i64 a,.int .i64 0] 37) w.heap.size (by simp)).trans (j7 w (.cells #[.int .i64 1,.string ⟨#[]⟩,.string ⟨#[]⟩,.string s,.int .i64 a,.int .i64 0] 37))
 have B1:Below w.heap.size w ((w.alloc (.cells #[.int .i64 1,.string ⟨#[]⟩,.string ⟨#[]⟩,.string s,.int .i64 a,.int .i64 0] 37)).alloc (.cells #[.int .i64 1,.string ⟨#[]⟩,.string ⟨#[]⟩,.string s,.int .i64 a,.int .i64 0] 37)).drew:=(((xb _ w).alloc (xc _) _).alloc (by simp) _).drew
 have m2:((w.alloc (.cells #[.int .i64 1,.string ⟨#[]⟩,.string ⟨#[]⟩,.string s,.int .i64 a,.int .i64 0] 37)).alloc (.cells #[.int .i64 1,.string ⟨#[]⟩,.string ⟨#[]⟩,.string s,.int .i64 a,.int .i64 0] 37)).drew.heap[w.heap.size]? =_:=m1;generalize ((w.alloc (.cells #[.int .i64 1,.string ⟨#[]⟩,.string ⟨#[]⟩,.string s,.int .i64 a,.int .i64 0] 37)).alloc (.cells #[.int .i64 1,.string ⟨#[]⟩,.string ⟨#[]⟩,.string s,.int .i64 a,.int .i64 0] 37)).drew=w1 at*;clear m1;refine(HA _).out.mono ?_;rintro e w2 ⟨rfl,hb2⟩;have k2:=(hb2.block _ (xe m2).1).trans m2;have B2:=B1.trans (hb2.mono B1.size);have c4:w2.cell? ⟨w.heap.size,4,none⟩=some (.int .i64 a):=by rw[j6 k2];rfl
 clear m2 B1 hb2 HA;go_wp2_with fail;refine(HD _).out.mono ?_;rintro e w3 ⟨rfl,nd,rfl⟩;go_wp2_with fail;go_ret;exact⟨rfl,ze B2 _⟩
theorem mayNum_at (M:Nat)(hD:zX M)(z:Int)(d:Nat)(hr:RatOK M z d)(hza:(natS z.natAbs).size≤60)(hda:(natS d).size≤60)(w:World)(hg:Glob w):
 Calls Tryz.prog 117 #[ndV (.num z d)] w fun e w'=>e= .returned (.bool true)∧Below w.heap.size w w':=by
 obtain⟨hz,hd,h0,hM,hb,hgcd,hmul⟩:=hr;simp only[ndV];have HA:=fun W h=>Lib.hid (q9 M hD z d (by omega) (by omega) h0 hM W h)
 have ht:decide (Nat.gcd z.natAbs d=1)=true:=decide_eq_true hgcd;rw[ht]at HA;unfold ratV at HA;have HB:=fun W=>Lib.hid (abs_at z (by omega) W)
 have HG:=zc.mk hg;have hza':((natS z.natAbs).size:Int)≤60:=by omega
 have hda':((natS d).size:Int)≤60:=by omega
 clear hg hza hda hmul hb hz hd h0 hM hgcd ht hD;generalize natS z.natAbs=za at*;generalize intS z=zs at*;generalize natS d=ds at*;go_enter Tryz.func117,Tryz.ntmps117
 go_wp2_with fail;have m1:=(Lib.alloc_old (w.alloc (.cells #[.int .i64 0,.string zs,.string ds,.string ⟨#[]⟩,.int .i64 0,.int .i64 0] 37)) (.cells #[.int .i64 0,.string zs,.string ds,.string ⟨#[]⟩,.int .i64 0,.int .i64 0] 37) w.heap.size (by simp)).trans (j7 w (.cells #[.int .i64 0,.string zs,.string ds,.string ⟨#[]⟩,.int .i64 0,.int .i64 0] 37))
 have B1:Below w.heap.size w ((w.alloc (.cells #[.int .i64 0,.string zs,.string ds,.string ⟨#[]⟩,.int .i64 0,.int .i64 0] 37)).alloc (.cells #[.int .i64 0,.string zs,.string ds,.string ⟨#[]⟩,.int .i64 0,.int .i64 0] 37)):=(((xb _ w).alloc (xc _) _).alloc (by simp) _)
 generalize ((w.alloc (.cells #[.int .i64 0,.string zs,.string ds,.string ⟨#[]⟩,.int .i64 0,.int .i64 0] 37)).alloc (.cells #[.int .i64 0,.string zs,.string ds,.string ⟨#[]⟩,.int .i64 0,.int .i64 0] 37))=w1 at*;refine(HA _ (HG.out.below B1)).out.mono ?_;rintro e w2 ⟨rfl,hb2⟩;have k2:=(hb2.block _ (xe m1).1).trans m1;have B2:=B1.trans (hb2.mono B1.size);have c1:w2.cell? ⟨w.heap.size,1,none⟩=some (.string zs):=by rw[j6 k2];rfl
 clear m1 B1 hb2 HA;go_wp2_with fail;refine(HB _).out.mono ?_;rintro e w3 ⟨rfl,hb3⟩;have k3:=(hb3.block _ (xe k2).1).trans k2;have B3:=B2.trans (hb3.mono B2.size);have c2:w3.cell? ⟨w.heap.size,2,none⟩=some (.string ds):=by rw[j6 k3];rfl
 clear k2 B2 hb3 HB c1;go_wp2_with fail;go_ret;exact⟨rfl,B3⟩
theorem may_at' (M:Nat)(hD:zX M)(n:Nd)(hn:NdOK M n)(w:World)(hg:Glob w):
 Calls Tryz.prog 117 #[ndV n] w fun e w'=>e= .returned (.bool true)∧Below w.heap.size w w':=by
 cases n with
 |num z d=>exact mayNum_at M hD z d hn.1 hn.2.1 hn.2.2 w hg
 |px s a=>exact mayPx_at s hn.1 a hn.2 w
 |op k=>exact mayOp_at k hn w
 |raw x=>
  obtain⟨k,⟨p,q⟩,s,a,b⟩:=x;obtain⟨h1,h2,h3,h4,h5,h6,h7⟩:=hn;simp only[S35.mk.injEq]at h2;obtain⟨rfl,rfl⟩:=h2;exact maySp_at k h1 s h3 a b h4 h5 h6 h7 w
end Go.Proofs.YtjopepfemhckjaaGreatDoor.NW
end
