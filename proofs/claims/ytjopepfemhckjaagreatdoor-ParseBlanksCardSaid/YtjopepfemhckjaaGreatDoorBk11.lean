/-
  Part 11 of the proof of parseBlanks_holds: texts of this seat, put together.
-/
import Derived.Test.YtjopepfemhckjaaGreatDoorBk10
set_option linter.unusedVariables false
set_option linter.unusedSimpArgs false
section
namespace Go.Proofs.YtjopepfemhckjaaGreatDoor.PParseTells
open Go.RowKit Go.Proofs.YtjopepfemhckjaaGreatDoorW.PrintWords Go.Proofs.YtjopepfemhckjaaGreatDoorW.PrintLast
mutual
def term_Arity.j0:Nat→Int→Bool→Option (Int)
 |0,_,_=>none
 |k+1,x0,x3=>if x3=true then(some 0)else(if x0=5 then(some 1)else(if x0≥6 then(term_Arity.j1 k x0 (decide (x0≤11)))else(term_Arity.j1 k x0 false)))
def term_Arity.j1:Nat→Int→Bool→Option (Int)
 |0,_,_=>none
 |k+1,x0,x13=>if x13=true then(some 2)else(if x0=12 then(some 3)else(some (-1)))
end
def term_Arity.f (k:Nat)(a0:Int):Option (Int):=if a0≥0 then(term_Arity.j0 k a0 (decide (a0≤4)))else(term_Arity.j0 k a0 false)
set_option maxHeartbeats 8000000 in
set_option maxRecDepth 100000 in
theorem term_Arity.calls (k:Nat)(a0:Int)(r:Int)(w:World)(h:term_Arity.f k a0=some r):
 Calls Tryz.prog 79 #[.int .i64 a0] w fun e w'=>e= .returned (.int .i64 r)∧Drawn0 w w':=by
 have H:(if a0≥0 then(term_Arity.j0 k a0 (decide (a0≤4)))else(term_Arity.j0 k a0 false))=some r:=h
 clear h;have HC2:=Aside0.mk H;clear H;go_enter Tryz.func79,Tryz.ntmps79
 go_upto_region 1 with(fail)
 go_cut [3] (fun v3 wc=>∃(kq:Nat) (x3_1:Bool),v3= .bool x3_1∧Aside0 (term_Arity.j0 kq a0 x3_1=some r)∧Aside0 (kq≤k)∧Drawn0 w wc)
 case first=>
  have H:=HC2.out;clear HC2;by_cases c3:a0≥0
  ·rw[if_pos c3]at H
   have c3b0:decide (0≤a0)=true:=decide_eq_true c3;clear c3
   (first|rw[c3b0]|(simp only[i64_w,i32_w];rw[c3b0])|skip)
   have H':=Aside0.mk H;clear H;go_wp2;go_meet
   case rel=>exact⟨_,(decide (a0≤4)),(by first|rfl|(simp;done)|(simp[*];done)),H',⟨by first|omega|exact Nat.le_refl _⟩,by repeat(first|exact Drawn0.refl _|apply Drawn0.step)⟩
  ·rw[if_neg c3]at H
   have c3b0:decide (0≤a0)=false:=decide_eq_false c3;clear c3
   (first|rw[c3b0]|(simp only[i64_w,i32_w];rw[c3b0])|skip)
   have H':=Aside0.mk H;clear H;go_wp2;go_meet
   case rel=>exact⟨_,(false),(by first|rfl|(simp;done)|(simp[*];done)),H',⟨by first|omega|exact Nat.le_refl _⟩,by repeat(first|exact Drawn0.refl _|apply Drawn0.step)⟩
 case rest=>
  clear HC2;try clear p2
  try clear c3
  try clear c3b0
  obtain⟨kq,x3_1,rfl,HA,HJ1,⟨mc1,rfl⟩⟩:=hcut;cases kq with
  |zero=>exact absurd HA.out (by simp[term_Arity.j0])
  |succ kj1=>
   have H:=HA.out;clear HA;simp only[term_Arity.j0]at H;by_cases c4:x3_1=true
   ·subst c4
    have H1:(some 0)=some r:=by rw[if_pos rfl]at H;exact H
    clear H;have H:=H1;clear H1;obtain rfl:=Option.some.inj H;go_wp2;go_ret;exact⟨by first|rfl|(simp;done)|(simp[*];done),by repeat(first|exact Drawn0.refl _|apply Drawn0.step)⟩
   ·replace c4:=Bool.eq_false_iff.mpr c4
    subst c4;have H1:(if a0=5 then(some 1)else(if a0≥6 then(term_Arity.j1 kj1 a0 (decide (a0≤11)))else(term_Arity.j1 kj1 a0 false)))=some r:=by rw[if_neg (show¬(false=true) by decide)]at H;exact H
    clear H;have H:=H1;clear H1;by_cases c5:a0=5
    ·rw[if_pos c5]at H
     have c5b0:(a0==5)=true:=beq_iff_eq.mpr c5;have c5b1:(a0 !=5)=false:=bne_eq_false_iff_eq.mpr c5;clear c5;obtain rfl:=Option.some.inj H;go_wp2;go_ret;exact⟨by first|rfl|(simp;done)|(simp[*];done),by repeat(first|exact Drawn0.refl _|apply Drawn0.step)⟩
    ·rw[if_neg c5]at H
     have c5b0:(a0==5)=false:=beq_eq_false_iff_ne.mpr c5;have c5b1:(a0 !=5)=true:=bne_iff_ne.mpr c5;have HC6:=Aside0.mk H;clear H;go_upto_region 5 with(fail)
     go_cut [13] (fun v13 wc=>∃(kq:Nat) (x13_5:Bool),v13= .bool x13_5∧Aside0 (term_Arity.j1 kq a0 x13_5=some r)∧Aside0 (kq≤kj1)∧Drawn0 w wc)
     case first=>
      have H:=HC6.out;clear HC6;by_cases c7:a0≥6
      ·rw[if_pos c7]at H
       have c7b0:decide (6≤a0)=true:=decide_eq_true c7;clear c7
       (first|rw[c7b0]|(simp only[i64_w,i32_w];rw[c7b0])|skip)
       have H':=Aside0.mk H;clear H;go_wp2;go_meet
       case rel=>exact⟨_,(decide (a0≤11)),(by first|rfl|(simp;done)|(simp[*];done)),H',⟨by have:=HJ1.out;first|omega|exact Nat.le_refl _⟩,by repeat(first|exact Drawn0.refl _|apply Drawn0.step)⟩
      ·rw[if_neg c7]at H
       have c7b0:decide (6≤a0)=false:=decide_eq_false c7;clear c7
       (first|rw[c7b0]|(simp only[i64_w,i32_w];rw[c7b0])|skip)
       have H':=Aside0.mk H;clear H;go_wp2;go_meet
       case rel=>exact⟨_,(false),(by first|rfl|(simp;done)|(simp[*];done)),H',⟨by have:=HJ1.out;first|omega|exact Nat.le_refl _⟩,by repeat(first|exact Drawn0.refl _|apply Drawn0.step)⟩
     case rest=>
      clear HC6;try clear c1
      try clear p2
      try clear c3
      try clear c3b0
      try clear c4
      try clear c5
      try clear c5b0
      try clear c5b1
      try clear c7
      try clear c7b0
      try clear p2
      obtain⟨kq,x13_5,rfl,HA,HJ5,⟨mc5,rfl⟩⟩:=hcut;cases kq with
      |zero=>exact absurd HA.out (by simp[term_Arity.j1])
      |succ kj5=>
       have H:=HA.out;clear HA;simp only[term_Arity.j1]at H;by_cases c8:x13_5=true
       ·subst c8
        have H1:(some 2)=some r:=by rw[if_pos rfl]at H;exact H
        clear H;have H:=H1;clear H1;obtain rfl:=Option.some.inj H;go_wp2;go_ret;exact⟨by first|rfl|(simp;done)|(simp[*];done),by repeat(first|exact Drawn0.refl _|apply Drawn0.step)⟩
       ·replace c8:=Bool.eq_false_iff.mpr c8
        subst c8;have H1:(if a0=12 then(some 3)else(some (-1)))=some r:=by rw[if_neg (show¬(false=true) by decide)]at H;exact H
        clear H;have H:=H1;clear H1;by_cases c9:a0=12
        ·rw[if_pos c9]at H
         have c9b0:(a0==12)=true:=beq_iff_eq.mpr c9;have c9b1:(a0 !=12)=false:=bne_eq_false_iff_eq.mpr c9;clear c9;obtain rfl:=Option.some.inj H;go_wp2;go_ret;exact⟨by first|rfl|(simp;done)|(simp[*];done),by repeat(first|exact Drawn0.refl _|apply Drawn0.step)⟩
        ·rw[if_neg c9]at H
         have c9b0:(a0==12)=false:=beq_eq_false_iff_ne.mpr c9;have c9b1:(a0 !=12)=true:=bne_iff_ne.mpr c9;obtain rfl:=Option.some.inj H;go_wp2;go_ret;exact⟨by first|rfl|(simp;done)|(simp[*];done),by repeat(first|exact Drawn0.refl _|apply Drawn0.step)⟩
def parse_operator.f (a0_0:Int)(a0_1:ByteArray)(a0_2:Int)(a0_3:Int):Option (Int×Int):=if a0_0=2 then(if a0_1.toList=([43]:List UInt8)then(some (6,1))else(if a0_1.toList=([45]:List UInt8)then(some (7,1))else(if a0_1.toList=([42]:List UInt8)then(some (8,2))else(if a0_1.toList=([47]:List UInt8)then(some (9,2))else(some (0,0))))))else(some (0,0))
set_option maxHeartbeats 8000000 in
set_option maxRecDepth 100000 in
theorem parse_operator.calls (a0_0:Int)(a0_1:ByteArray)(a0_2:Int)(a0_3:Int)(r1:Int)(r2:Int)(w:World)(h:parse_operator.f a0_0 a0_1 a0_2 a0_3=some (r1,r2)):
 Calls Tryz.prog 47 #[.agg #[.int .i64 a0_0,.string a0_1,.int .i64 a0_2,.int .i64 a0_3]] w fun e w'=>e= .returned (.tuple #[.int .i64 r1,.int .i64 r2])∧Below w.heap.size w w':=by
 have hu75:=Tryz.underlying75;have HB:=Aside0.mk (Below.refl w.heap.size w);have H:(if a0_0=2 then(if a0_1.toList=([43]:List UInt8)then(some (6,1))else(if a0_1.toList=([45]:List UInt8)then(some (7,1))else(if a0_1.toList=([42]:List UInt8)then(some (8,2))else(if a0_1.toList=([47]:List UInt8)then(some (9,2))else(some (0,0))))))else(some (0,0)))=some (r1,r2):=h
 clear h;by_cases c2:a0_0=2
 ·rw[if_pos c2]at H
  have c2b0:(a0_0==2)=true:=beq_iff_eq.mpr c2;have c2b1:(a0_0 !=2)=false:=bne_eq_false_iff_eq.mpr c2;clear c2;by_cases c3:a0_1.toList=([43]:List UInt8)
  ·rw[if_pos c3]at H
   have c3b0:(a0_1.toList==([43]:List UInt8))=true:=beq_iff_eq.mpr c3;have c3b1:(a0_1.toList !=([43]:List UInt8))=false:=bne_eq_false_iff_eq.mpr c3;clear c3;simp only[Option.some.injEq,Prod.mk.injEq]at H;obtain⟨rfl,rfl⟩:=H;go_enter Tryz.func47,Tryz.ntmps47
   go_wp2_with(first|((with_reducible refine gate_dst (N:=1) rfl ?_);refine box_event ?hg (N:=1) ?hd (cs:=#[.int .i64 a0_0,.string a0_1,.int .i64 a0_2,.int .i64 a0_3]) (t:=75) ?hr ?_;(case hd=>rfl);(case hg=>rfl);(case hr=>first|(go_simp;done)|(go_simp;rfl));intro gb230 hg w4 hbox hb;have n0_:=Aside0.mk (below_step (by repeat(first|(with_reducible first|exact HB.out|apply below_alloc|apply pw_below_drewN|apply below_drew1)|exact HB.out)) hb);have n1_:=Aside0.mk (hbox);have n2_:=Aside0.mk ((by rw[hg];exact(below_size (by repeat(first|(with_reducible first|exact HB.out|apply below_alloc|apply pw_below_drewN|apply below_drew1)|exact HB.out))):w.heap.size≤gb230));have n3_:=Aside0.mk ((by rw[hg];exact(below_size (by repeat(first|(with_reducible first|exact HB.out|apply below_alloc|apply pw_below_drewN|apply below_drew1)|exact HB.out))):w.heap.size≤gb230));clear HB;have HB:=n0_;have BK230:=n1_;have GW230:=n2_;have GE230:=n3_;clear n0_ n1_ n2_ n3_;clear hb hbox hg;have hcz5_0:w4.cell? ⟨gb230,0,none⟩=some (.int .i64 a0_0):=(blk_cell BK230.out 0).trans rfl;have hcz5_1:w4.cell? ⟨gb230,1,none⟩=some (.string a0_1):=(blk_cell BK230.out 1).trans rfl;have hcz5_2:w4.cell? ⟨gb230,2,none⟩=some (.int .i64 a0_2):=(blk_cell BK230.out 2).trans rfl;have hcz5_3:w4.cell? ⟨gb230,3,none⟩=some (.int .i64 a0_3):=(blk_cell BK230.out 3).trans rfl;have hfz5_0:=blk_frozen BK230.out 0;have hfz5_1:=blk_frozen BK230.out 1;have hfz5_2:=blk_frozen BK230.out 2;have hfz5_3:=blk_frozen BK230.out 3))
   go_ret2
   exact⟨by first|rfl|(simp[errW_none,errW_some]<;>rfl)|(simp[*,errW_none,errW_some]<;>rfl),by repeat(first|(with_reducible first|exact HB.out|apply below_alloc|apply pw_below_drewN|apply below_drew1|refine below_set ?_ GE230.out)|exact HB.out)⟩
  ·rw[if_neg c3]at H
   have c3b0:(a0_1.toList==([43]:List UInt8))=false:=beq_eq_false_iff_ne.mpr c3;have c3b1:(a0_1.toList !=([43]:List UInt8))=true:=bne_iff_ne.mpr c3;by_cases c6:a0_1.toList=([45]:List UInt8)
   ·rw[if_pos c6]at H
    have c6b0:(a0_1.toList==([45]:List UInt8))=true:=beq_iff_eq.mpr c6;have c6b1:(a0_1.toList !=([45]:List UInt8))=false:=bne_eq_false_iff_eq.mpr c6;clear c6;simp only[Option.some.injEq,Prod.mk.injEq]at H;obtain⟨rfl,rfl⟩:=H;go_enter Tryz.func47,Tryz.ntmps47
    go_wp2_with(first|((with_reducible refine gate_dst (N:=1) rfl ?_);refine box_event ?hg (N:=1) ?hd (cs:=#[.int .i64 a0_0,.string a0_1,.int .i64 a0_2,.int .i64 a0_3]) (t:=75) ?hr ?_;(case hd=>rfl);(case hg=>rfl);(case hr=>first|(go_simp;done)|(go_simp;rfl));intro gb230 hg w7 hbox hb;have n0_:=Aside0.mk (below_step (by repeat(first|(with_reducible first|exact HB.out|apply below_alloc|apply pw_below_drewN|apply below_drew1)|exact HB.out)) hb);have n1_:=Aside0.mk (hbox);have n2_:=Aside0.mk ((by rw[hg];exact(below_size (by repeat(first|(with_reducible first|exact HB.out|apply below_alloc|apply pw_below_drewN|apply below_drew1)|exact HB.out))):w.heap.size≤gb230));have n3_:=Aside0.mk ((by rw[hg];exact(below_size (by repeat(first|(with_reducible first|exact HB.out|apply below_alloc|apply pw_below_drewN|apply below_drew1)|exact HB.out))):w.heap.size≤gb230));clear HB;have HB:=n0_;have BK230:=n1_;have GW230:=n2_;have GE230:=n3_;clear n0_ n1_ n2_ n3_;clear hb hbox hg;have hcz8_0:w7.cell? ⟨gb230,0,none⟩=some (.int .i64 a0_0):=(blk_cell BK230.out 0).trans rfl;have hcz8_1:w7.cell? ⟨gb230,1,none⟩=some (.string a0_1):=(blk_cell BK230.out 1).trans rfl;have hcz8_2:w7.cell? ⟨gb230,2,none⟩=some (.int .i64 a0_2):=(blk_cell BK230.out 2).trans rfl;have hcz8_3:w7.cell? ⟨gb230,3,none⟩=some (.int .i64 a0_3):=(blk_cell BK230.out 3).trans rfl;have hfz8_0:=blk_frozen BK230.out 0;have hfz8_1:=blk_frozen BK230.out 1;have hfz8_2:=blk_frozen BK230.out 2;have hfz8_3:=blk_frozen BK230.out 3))
    go_ret2
    exact⟨by first|rfl|(simp[errW_none,errW_some]<;>rfl)|(simp[*,errW_none,errW_some]<;>rfl),by repeat(first|(with_reducible first|exact HB.out|apply below_alloc|apply pw_below_drewN|apply below_drew1|refine below_set ?_ GE230.out)|exact HB.out)⟩
   ·rw[if_neg c6]at H
    have c6b0:(a0_1.toList==([45]:List UInt8))=false:=beq_eq_false_iff_ne.mpr c6;have c6b1:(a0_1.toList !=([45]:List UInt8))=true:=bne_iff_ne.mpr c6;by_cases c9:a0_1.toList=([42]:List UInt8)
    ·rw[if_pos c9]at H
     have c9b0:(a0_1.toList==([42]:List UInt8))=true:=beq_iff_eq.mpr c9;have c9b1:(a0_1.toList !=([42]:List UInt8))=false:=bne_eq_false_iff_eq.mpr c9;clear c9;simp only[Option.some.injEq,Prod.mk.injEq]at H;obtain⟨rfl,rfl⟩:=H;go_enter Tryz.func47,Tryz.ntmps47
     go_wp2_with(first|((with_reducible refine gate_dst (N:=1) rfl ?_);refine box_event ?hg (N:=1) ?hd (cs:=#[.int .i64 a0_0,.string a0_1,.int .i64 a0_2,.int .i64 a0_3]) (t:=75) ?hr ?_;(case hd=>rfl);(case hg=>rfl);(case hr=>first|(go_simp;done)|(go_simp;rfl));intro gb230 hg w10 hbox hb;have n0_:=Aside0.mk (below_step (by repeat(first|(with_reducible first|exact HB.out|apply below_alloc|apply pw_below_drewN|apply below_drew1)|exact HB.out)) hb);have n1_:=Aside0.mk (hbox);have n2_:=Aside0.mk ((by rw[hg];exact(below_size (by repeat(first|(with_reducible first|exact HB.out|apply below_alloc|apply pw_below_drewN|apply below_drew1)|exact HB.out))):w.heap.size≤gb230));have n3_:=Aside0.mk ((by rw[hg];exact(below_size (by repeat(first|(with_reducible first|exact HB.out|apply below_alloc|apply pw_below_drewN|apply below_drew1)|exact HB.out))):w.heap.size≤gb230));clear HB;have HB:=n0_;have BK230:=n1_;have GW230:=n2_;have GE230:=n3_;clear n0_ n1_ n2_ n3_;clear hb hbox hg;have hcz11_0:w10.cell? ⟨gb230,0,none⟩=some (.int .i64 a0_0):=(blk_cell BK230.out 0).trans rfl;have hcz11_1:w10.cell? ⟨gb230,1,none⟩=some (.string a0_1):=(blk_cell BK230.out 1).trans rfl;have hcz11_2:w10.cell? ⟨gb230,2,none⟩=some (.int .i64 a0_2):=(blk_cell BK230.out 2).trans rfl;have hcz11_3:w10.cell? ⟨gb230,3,none⟩=some (.int .i64 a0_3):=(blk_cell BK230.out 3).trans rfl;have hfz11_0:=blk_frozen BK230.out 0;have hfz11_1:=blk_frozen BK230.out 1;have hfz11_2:=blk_frozen BK230.out 2;have hfz11_3:=blk_frozen BK230.out 3))
     go_ret2
     exact⟨by first|rfl|(simp[errW_none,errW_some]<;>rfl)|(simp[*,errW_none,errW_some]<;>rfl),by repeat(first|(with_reducible first|exact HB.out|apply below_alloc|apply pw_below_drewN|apply below_drew1|refine below_set ?_ GE230.out)|exact HB.out)⟩
    ·rw[if_neg c9]at H
     have c9b0:(a0_1.toList==([42]:List UInt8))=false:=beq_eq_false_iff_ne.mpr c9;have c9b1:(a0_1.toList !=([42]:List UInt8))=true:=bne_iff_ne.mpr c9;by_cases c12:a0_1.toList=([47]:List UInt8)
     ·rw[if_pos c12]at H
      have c12b0:(a0_1.toList==([47]:List UInt8))=true:=beq_iff_eq.mpr c12;have c12b1:(a0_1.toList !=([47]:List UInt8))=false:=bne_eq_false_iff_eq.mpr c12;clear c12;simp only[Option.some.injEq,Prod.mk.injEq]at H;obtain⟨rfl,rfl⟩:=H;go_enter Tryz.func47,Tryz.ntmps47
      go_wp2_with(first|((with_reducible refine gate_dst (N:=1) rfl ?_);refine box_event ?hg (N:=1) ?hd (cs:=#[.int .i64 a0_0,.string a0_1,.int .i64 a0_2,.int .i64 a0_3]) (t:=75) ?hr ?_;(case hd=>rfl);(case hg=>rfl);(case hr=>first|(go_simp;done)|(go_simp;rfl));intro gb230 hg w13 hbox hb;have n0_:=Aside0.mk (below_step (by repeat(first|(with_reducible first|exact HB.out|apply below_alloc|apply pw_below_drewN|apply below_drew1)|exact HB.out)) hb);have n1_:=Aside0.mk (hbox);have n2_:=Aside0.mk ((by rw[hg];exact(below_size (by repeat(first|(with_reducible first|exact HB.out|apply below_alloc|apply pw_below_drewN|apply below_drew1)|exact HB.out))):w.heap.size≤gb230));have n3_:=Aside0.mk ((by rw[hg];exact(below_size (by repeat(first|(with_reducible first|exact HB.out|apply below_alloc|apply pw_below_drewN|apply below_drew1)|exact HB.out))):w.heap.size≤gb230));clear HB;have HB:=n0_;have BK230:=n1_;have GW230:=n2_;have GE230:=n3_;clear n0_ n1_ n2_ n3_;clear hb hbox hg;have hcz14_0:w13.cell? ⟨gb230,0,none⟩=some (.int .i64 a0_0):=(blk_cell BK230.out 0).trans rfl;have hcz14_1:w13.cell? ⟨gb230,1,none⟩=some (.string a0_1):=(blk_cell BK230.out 1).trans rfl;have hcz14_2:w13.cell? ⟨gb230,2,none⟩=some (.int .i64 a0_2):=(blk_cell BK230.out 2).trans rfl;have hcz14_3:w13.cell? ⟨gb230,3,none⟩=some (.int .i64 a0_3):=(blk_cell BK230.out 3).trans rfl;have hfz14_0:=blk_frozen BK230.out 0;have hfz14_1:=blk_frozen BK230.out 1;have hfz14_2:=blk_frozen BK230.out 2;have hfz14_3:=blk_frozen BK230.out 3))
      go_ret2
      exact⟨by first|rfl|(simp[errW_none,errW_some]<;>rfl)|(simp[*,errW_none,errW_some]<;>rfl),by repeat(first|(with_reducible first|exact HB.out|apply below_alloc|apply pw_below_drewN|apply below_drew1|refine below_set ?_ GE230.out)|exact HB.out)⟩
     ·rw[if_neg c12]at H
      have c12b0:(a0_1.toList==([47]:List UInt8))=false:=beq_eq_false_iff_ne.mpr c12;have c12b1:(a0_1.toList !=([47]:List UInt8))=true:=bne_iff_ne.mpr c12;simp only[Option.some.injEq,Prod.mk.injEq]at H;obtain⟨rfl,rfl⟩:=H;go_enter Tryz.func47,Tryz.ntmps47
      go_wp2_with(first|((with_reducible refine gate_dst (N:=1) rfl ?_);refine box_event ?hg (N:=1) ?hd (cs:=#[.int .i64 a0_0,.string a0_1,.int .i64 a0_2,.int .i64 a0_3]) (t:=75) ?hr ?_;(case hd=>rfl);(case hg=>rfl);(case hr=>first|(go_simp;done)|(go_simp;rfl));intro gb230 hg w15 hbox hb;have n0_:=Aside0.mk (below_step (by repeat(first|(with_reducible first|exact HB.out|apply below_alloc|apply pw_below_drewN|apply below_drew1)|exact HB.out)) hb);have n1_:=Aside0.mk (hbox);have n2_:=Aside0.mk ((by rw[hg];exact(below_size (by repeat(first|(with_reducible first|exact HB.out|apply below_alloc|apply pw_below_drewN|apply below_drew1)|exact HB.out))):w.heap.size≤gb230));have n3_:=Aside0.mk ((by rw[hg];exact(below_size (by repeat(first|(with_reducible first|exact HB.out|apply below_alloc|apply pw_below_drewN|apply below_drew1)|exact HB.out))):w.heap.size≤gb230));clear HB;have HB:=n0_;have BK230:=n1_;have GW230:=n2_;have GE230:=n3_;clear n0_ n1_ n2_ n3_;clear hb hbox hg;have hcz16_0:w15.cell? ⟨gb230,0,none⟩=some (.int .i64 a0_0):=(blk_cell BK230.out 0).trans rfl;have hcz16_1:w15.cell? ⟨gb230,1,none⟩=some (.string a0_1):=(blk_cell BK230.out 1).trans rfl;have hcz16_2:w15.cell? ⟨gb230,2,none⟩=some (.int .i64 a0_2):=(blk_cell BK230.out 2).trans rfl;have hcz16_3:w15.cell? ⟨gb230,3,none⟩=some (.int .i64 a0_3):=(blk_cell BK230.out 3).trans rfl;have hfz16_0:=blk_frozen BK230.out 0;have hfz16_1:=blk_frozen BK230.out 1;have hfz16_2:=blk_frozen BK230.out 2;have hfz16_3:=blk_frozen BK230.out 3))
      go_ret2
      exact⟨by first|rfl|(simp[errW_none,errW_some]<;>rfl)|(simp[*,errW_none,errW_some]<;>rfl),by repeat(first|(with_reducible first|exact HB.out|apply below_alloc|apply pw_below_drewN|apply below_drew1|refine below_set ?_ GE230.out)|exact HB.out)⟩
 ·rw[if_neg c2]at H
  have c2b0:(a0_0==2)=false:=beq_eq_false_iff_ne.mpr c2;have c2b1:(a0_0 !=2)=true:=bne_iff_ne.mpr c2;simp only[Option.some.injEq,Prod.mk.injEq]at H;obtain⟨rfl,rfl⟩:=H;go_enter Tryz.func47,Tryz.ntmps47
  go_wp2_with(first|((with_reducible refine gate_dst (N:=1) rfl ?_);refine box_event ?hg (N:=1) ?hd (cs:=#[.int .i64 a0_0,.string a0_1,.int .i64 a0_2,.int .i64 a0_3]) (t:=75) ?hr ?_;(case hd=>rfl);(case hg=>rfl);(case hr=>first|(go_simp;done)|(go_simp;rfl));intro gb230 hg w17 hbox hb;have n0_:=Aside0.mk (below_step (by repeat(first|(with_reducible first|exact HB.out|apply below_alloc|apply pw_below_drewN|apply below_drew1)|exact HB.out)) hb);have n1_:=Aside0.mk (hbox);have n2_:=Aside0.mk ((by rw[hg];exact(below_size (by repeat(first|(with_reducible first|exact HB.out|apply below_alloc|apply pw_below_drewN|apply below_drew1)|exact HB.out))):w.heap.size≤gb230));have n3_:=Aside0.mk ((by rw[hg];exact(below_size (by repeat(first|(with_reducible first|exact HB.out|apply below_alloc|apply pw_below_drewN|apply below_drew1)|exact HB.out))):w.heap.size≤gb230));clear HB;have HB:=n0_;have BK230:=n1_;have GW230:=n2_;have GE230:=n3_;clear n0_ n1_ n2_ n3_;clear hb hbox hg;have hcz18_0:w17.cell? ⟨gb230,0,none⟩=some (.int .i64 a0_0):=(blk_cell BK230.out 0).trans rfl;have hcz18_1:w17.cell? ⟨gb230,1,none⟩=some (.string a0_1):=(blk_cell BK230.out 1).trans rfl;have hcz18_2:w17.cell? ⟨gb230,2,none⟩=some (.int .i64 a0_2):=(blk_cell BK230.out 2).trans rfl;have hcz18_3:w17.cell? ⟨gb230,3,none⟩=some (.int .i64 a0_3):=(blk_cell BK230.out 3).trans rfl;have hfz18_0:=blk_frozen BK230.out 0;have hfz18_1:=blk_frozen BK230.out 1;have hfz18_2:=blk_frozen BK230.out 2;have hfz18_3:=blk_frozen BK230.out 3))
  go_ret2
  exact⟨by first|rfl|(simp[errW_none,errW_some]<;>rfl)|(simp[*,errW_none,errW_some]<;>rfl),by repeat(first|(with_reducible first|exact HB.out|apply below_alloc|apply pw_below_drewN|apply below_drew1|refine below_set ?_ GE230.out)|exact HB.out)⟩
def term_day.f (a0:Int):Option (Bool):=if a0≥0 then(some (decide (a0≤9999)))else(some false)
set_option maxHeartbeats 8000000 in
set_option maxRecDepth 100000 in
theorem term_day.calls (a0:Int)(r:Bool)(w:World)(h:term_day.f a0=some r):
 Calls Tryz.prog 154 #[.int .i64 a0] w fun e w'=>e= .returned (.bool r)∧Drawn0 w w':=by
 have H:(if a0≥0 then(some (decide (a0≤9999)))else(some false))=some r:=h
 clear h;by_cases c2:a0≥0
 ·rw[if_pos c2]at H
  have c2b0:decide (0≤a0)=true:=decide_eq_true c2;clear c2;obtain rfl:=Option.some.inj H;go_enter Tryz.func154,Tryz.ntmps154
  go_wp2;go_ret;exact⟨by first|rfl|(simp;done)|(simp[*];done),by repeat(first|exact Drawn0.refl _|apply Drawn0.step)⟩
 ·rw[if_neg c2]at H
  have c2b0:decide (0≤a0)=false:=decide_eq_false c2;clear c2;obtain rfl:=Option.some.inj H;go_enter Tryz.func154,Tryz.ntmps154
  go_wp2;go_ret;exact⟨by first|rfl|(simp;done)|(simp[*];done),by repeat(first|exact Drawn0.refl _|apply Drawn0.step)⟩
end Go.Proofs.YtjopepfemhckjaaGreatDoor.PParseTells
end
section
namespace Go.Proofs.YtjopepfemhckjaaGreatDoor.NW
open Go.Proofs Go.RowKit Go.Shelf Go.Proofs.YtjopepfemhckjaaGreatDoor.PN Go.Proofs.YtjopepfemhckjaaGreatDoorW.PrintWords Go.Proofs.YtjopepfemhckjaaGreatDoor.PParseTells
inductive Nd where
 |num (z:Int) (d:Nat)
 |px (s:ByteArray) (a:Int)
 |op (k:Nat)
 |raw (x:S37)
def ndV:Nd→Value
 | .num z d=> .agg #[.int .i64 0,.string (intS z),.string (natS d),.string ⟨#[]⟩,.int .i64 0,.int .i64 0]
 | .px s a=> .agg #[.int .i64 1,.string ⟨#[]⟩,.string ⟨#[]⟩,.string s,.int .i64 a,.int .i64 0]
 | .op k=> .agg #[.int .i64 k,.string ⟨#[]⟩,.string ⟨#[]⟩,.string ⟨#[]⟩,.int .i64 0,.int .i64 0]
 | .raw x=> .agg #[.int .i64 x.f0,.string x.f1.f0,.string x.f1.f1,.string x.f2,.int .i64 x.f3,.int .i64 x.f4]
structure SpOK (x:S37):Prop where
 k:x.f0=2∨x.f0=3∨x.f0=4
 n:x.f1=⟨⟨#[]⟩,⟨#[]⟩⟩
 s:NmOK x.f2
 a:0≤x.f3
 ab:x.f3≤x.f4
 b:x.f4≤9999
 m:x.f4-x.f3<60
set_option maxHeartbeats 8000000 in
set_option maxRecDepth 100000 in
theorem maySp_at (k:Int)(hk:k=2∨k=3∨k=4)(s:ByteArray)(hs:NmOK s)(a b:Int)(ha:0≤a)(hab:a≤b)(hb:b≤9999)(hm:b-a<60)(w:World):
 Calls Tryz.prog 117 #[.agg #[.int .i64 k,.string ⟨#[]⟩,.string ⟨#[]⟩,.string s,.int .i64 a,.int .i64 b]] w fun e w'=>e= .returned (.bool true)∧Below w.heap.size w w':=by
 have HA:=fun W=>Lib.hid (asset_at s hs W)
 have HD:=fun W=>Lib.hid (term_day.calls a true W (by unfold term_day.f;rw[if_pos ha,decide_eq_true (by omega)]))
 have HD2:=fun W=>Lib.hid (term_day.calls b true W (by unfold term_day.f;rw[if_pos (by omega),decide_eq_true hb]))
 have e1:IntKind.i64.wrap (b-a)=b-a:=by simp[IntKind.wrap_i64];omega
 have m1:=(Lib.alloc_old (w.alloc (.cells #[.int .i64 k,.string ⟨#[]⟩,.string ⟨#[]⟩,.string s,.int .i64 a,.int .i64 b] 37)) (.cells #[.int .i64 k,.string ⟨#[]⟩,.string ⟨#[]⟩,.string s,.int .i64 a,.int .i64 b] 37) w.heap.size (by simp)).trans (World.alloc_heap_new w (.cells #[.int .i64 k,.string ⟨#[]⟩,.string ⟨#[]⟩,.string s,.int .i64 a,.int .i64 b] 37))
 have B1:Below w.heap.size w ((w.alloc (.cells #[.int .i64 k,.string ⟨#[]⟩,.string ⟨#[]⟩,.string s,.int .i64 a,.int .i64 b] 37)).alloc (.cells #[.int .i64 k,.string ⟨#[]⟩,.string ⟨#[]⟩,.string s,.int .i64 a,.int .i64 b] 37)).drew:=(((Below.refl _ w).alloc (Nat.le_refl _) _).alloc (by simp) _).drew
 have m2:((w.alloc (.cells #[.int .i64 k,.string ⟨#[]⟩,.string ⟨#[]⟩,.string s,.int .i64 a,.int .i64 b] 37)).alloc (.cells #[.int .i64 k,.string ⟨#[]⟩,.string ⟨#[]⟩,.string s,.int .i64 a,.int .i64 b] 37)).drew.heap[w.heap.size]? =_:=m1;have M2:=Aside0.mk m2;have BB1:=Aside0.mk B1;clear hs ha hb m1 m2 B1;rcases hk with rfl|rfl|rfl
 all_goals
  go_enter Tryz.func117,Tryz.ntmps117
  go_wp2_with fail;go_region;go_wp2_with fail;generalize ((w.alloc _).alloc _).drew=w1 at*;refine(HA _).out.mono ?_;rintro e w2 ⟨rfl,hb2⟩;have k2:=(hb2.block _ (Array.getElem?_eq_some_iff.1 M2.out).1).trans M2.out;have B2:=BB1.out.trans (hb2.mono BB1.out.size);have c3:w2.cell? ⟨w.heap.size,3,none⟩=some (.string s):=by rw[Lib.cell_of_heap k2];rfl
  have c4:w2.cell? ⟨w.heap.size,4,none⟩=some (.int .i64 a):=by rw[Lib.cell_of_heap k2];rfl
  have c5:w2.cell? ⟨w.heap.size,5,none⟩=some (.int .i64 b):=by rw[Lib.cell_of_heap k2];rfl
  clear hb2 HA;go_wp2_with fail;refine(HD _).out.mono ?_;rintro e w3 ⟨rfl,nd,rfl⟩;have c5':(w2.drewN nd).cell? ⟨w.heap.size,5,none⟩=some (.int .i64 b):=c5;go_wp2_with fail;refine(HD2 _).out.mono ?_;rintro e w4 ⟨rfl,nd2,rfl⟩;have c4'':((w2.drewN nd).drewN nd2).cell? ⟨w.heap.size,4,none⟩=some (.int .i64 a):=c4;have c5'':((w2.drewN nd).drewN nd2).cell? ⟨w.heap.size,5,none⟩=some (.int .i64 b):=c5;go_wp2_with fail;go_ret;exact⟨by simp[*],pw_below_drewN B2 _⟩
def NdOK (M:Nat):Nd→Prop
 | .num z d=>RatOK M z d∧(natS z.natAbs).size≤60∧(natS d).size≤60
 | .px s a=>NmOK s∧0≤a∧a≤9999
 | .op k=>5≤k∧k≤12
 | .raw x=>SpOK x
set_option maxHeartbeats 4000000 in
set_option maxRecDepth 100000 in
theorem mayOp_at (k:Nat)(hk:5≤k∧k≤12)(w:World):
 Calls Tryz.prog 117 #[ndV (.op k)] w fun e w'=>e= .returned (.bool true)∧Below w.heap.size w w':=by
 simp only[ndV];have h0:¬(k:Int)=0:=by omega
 have h1:¬(k:Int)=1:=by omega
 have h2:¬(k:Int)=2:=by omega
 have h3:¬(k:Int)=3:=by omega
 have h4:¬(k:Int)=4:=by omega
 generalize (k:Int)=kk at*;clear hk;go_enter Tryz.func117,Tryz.ntmps117
 go_wp2_with fail;go_ret;exact⟨rfl,((Below.refl _ w).alloc (Nat.le_refl _) _).alloc (by simp) _⟩
set_option maxHeartbeats 4000000 in
set_option maxRecDepth 100000 in
theorem mayPx_at (s:ByteArray)(hs:NmOK s)(a:Int)(ha:0≤a∧a≤9999)(w:World):
 Calls Tryz.prog 117 #[ndV (.px s a)] w fun e w'=>e= .returned (.bool true)∧Below w.heap.size w w':=by
 simp only[ndV];have HA:=fun W=>Lib.hid (asset_at s hs W)
 have HD:=fun W=>Lib.hid (term_day.calls a true W (by unfold term_day.f;rw[if_pos ha.1,decide_eq_true ha.2]))
 clear hs ha;go_enter Tryz.func117,Tryz.ntmps117
 go_wp2_with fail;go_region;go_wp2_with fail;have m1:=(Lib.alloc_old (w.alloc (.cells #[.int .i64 1,.string ⟨#[]⟩,.string ⟨#[]⟩,.string s,.int .i64 a,.int .i64 0] 37)) (.cells #[.int .i64 1,.string ⟨#[]⟩,.string ⟨#[]⟩,.string s,.int .i64 a,.int .i64 0] 37) w.heap.size (by simp)).trans (World.alloc_heap_new w (.cells #[.int .i64 1,.string ⟨#[]⟩,.string ⟨#[]⟩,.string s,.int .i64 a,.int .i64 0] 37))
 have B1:Below w.heap.size w ((w.alloc (.cells #[.int .i64 1,.string ⟨#[]⟩,.string ⟨#[]⟩,.string s,.int .i64 a,.int .i64 0] 37)).alloc (.cells #[.int .i64 1,.string ⟨#[]⟩,.string ⟨#[]⟩,.string s,.int .i64 a,.int .i64 0] 37)).drew:=(((Below.refl _ w).alloc (Nat.le_refl _) _).alloc (by simp) _).drew
 have m2:((w.alloc (.cells #[.int .i64 1,.string ⟨#[]⟩,.string ⟨#[]⟩,.string s,.int .i64 a,.int .i64 0] 37)).alloc (.cells #[.int .i64 1,.string ⟨#[]⟩,.string ⟨#[]⟩,.string s,.int .i64 a,.int .i64 0] 37)).drew.heap[w.heap.size]? =_:=m1;generalize ((w.alloc (.cells #[.int .i64 1,.string ⟨#[]⟩,.string ⟨#[]⟩,.string s,.int .i64 a,.int .i64 0] 37)).alloc (.cells #[.int .i64 1,.string ⟨#[]⟩,.string ⟨#[]⟩,.string s,.int .i64 a,.int .i64 0] 37)).drew=w1 at*;clear m1;refine(HA _).out.mono ?_;rintro e w2 ⟨rfl,hb2⟩;have k2:=(hb2.block _ (Array.getElem?_eq_some_iff.1 m2).1).trans m2;have B2:=B1.trans (hb2.mono B1.size);have c4:w2.cell? ⟨w.heap.size,4,none⟩=some (.int .i64 a):=by rw[Lib.cell_of_heap k2];rfl
 clear m2 B1 hb2 HA;go_wp2_with fail;refine(HD _).out.mono ?_;rintro e w3 ⟨rfl,nd,rfl⟩;go_wp2_with fail;go_ret;exact⟨rfl,pw_below_drewN B2 _⟩
set_option maxHeartbeats 4000000 in
set_option maxRecDepth 100000 in
theorem mayNum_at (M:Nat)(hD:DivTo M)(z:Int)(d:Nat)(hr:RatOK M z d)(hza:(natS z.natAbs).size≤60)(hda:(natS d).size≤60)(w:World)(hg:Glob w):
 Calls Tryz.prog 117 #[ndV (.num z d)] w fun e w'=>e= .returned (.bool true)∧Below w.heap.size w w':=by
 obtain⟨hz,hd,h0,hM,hb,hgcd,hmul⟩:=hr;simp only[ndV];have HA:=fun W h=>Lib.hid (ratMay_at M hD z d (by omega) (by omega) h0 hM W h)
 have ht:decide (Nat.gcd z.natAbs d=1)=true:=decide_eq_true hgcd;rw[ht]at HA;unfold ratV at HA;have HB:=fun W=>Lib.hid (abs_at z (by omega) W)
 have HG:=Aside0.mk hg;have hza':((natS z.natAbs).size:Int)≤60:=by omega
 have hda':((natS d).size:Int)≤60:=by omega
 clear hg hza hda hmul hb hz hd h0 hM hgcd ht hD;generalize natS z.natAbs=za at*;generalize intS z=zs at*;generalize natS d=ds at*;go_enter Tryz.func117,Tryz.ntmps117
 go_wp2_with fail;have m1:=(Lib.alloc_old (w.alloc (.cells #[.int .i64 0,.string zs,.string ds,.string ⟨#[]⟩,.int .i64 0,.int .i64 0] 37)) (.cells #[.int .i64 0,.string zs,.string ds,.string ⟨#[]⟩,.int .i64 0,.int .i64 0] 37) w.heap.size (by simp)).trans (World.alloc_heap_new w (.cells #[.int .i64 0,.string zs,.string ds,.string ⟨#[]⟩,.int .i64 0,.int .i64 0] 37))
 have B1:Below w.heap.size w ((w.alloc (.cells #[.int .i64 0,.string zs,.string ds,.string ⟨#[]⟩,.int .i64 0,.int .i64 0] 37)).alloc (.cells #[.int .i64 0,.string zs,.string ds,.string ⟨#[]⟩,.int .i64 0,.int .i64 0] 37)):=(((Below.refl _ w).alloc (Nat.le_refl _) _).alloc (by simp) _)
 generalize ((w.alloc (.cells #[.int .i64 0,.string zs,.string ds,.string ⟨#[]⟩,.int .i64 0,.int .i64 0] 37)).alloc (.cells #[.int .i64 0,.string zs,.string ds,.string ⟨#[]⟩,.int .i64 0,.int .i64 0] 37))=w1 at*;refine(HA _ (HG.out.below B1)).out.mono ?_;rintro e w2 ⟨rfl,hb2⟩;have k2:=(hb2.block _ (Array.getElem?_eq_some_iff.1 m1).1).trans m1;have B2:=B1.trans (hb2.mono B1.size);have c1:w2.cell? ⟨w.heap.size,1,none⟩=some (.string zs):=by rw[Lib.cell_of_heap k2];rfl
 clear m1 B1 hb2 HA;go_wp2_with fail;refine(HB _).out.mono ?_;rintro e w3 ⟨rfl,hb3⟩;have k3:=(hb3.block _ (Array.getElem?_eq_some_iff.1 k2).1).trans k2;have B3:=B2.trans (hb3.mono B2.size);have c2:w3.cell? ⟨w.heap.size,2,none⟩=some (.string ds):=by rw[Lib.cell_of_heap k3];rfl
 clear k2 B2 hb3 HB c1;go_wp2_with fail;go_ret;exact⟨rfl,B3⟩
theorem may_at' (M:Nat)(hD:DivTo M)(n:Nd)(hn:NdOK M n)(w:World)(hg:Glob w):
 Calls Tryz.prog 117 #[ndV n] w fun e w'=>e= .returned (.bool true)∧Below w.heap.size w w':=by
 cases n with
 |num z d=>exact mayNum_at M hD z d hn.1 hn.2.1 hn.2.2 w hg
 |px s a=>exact mayPx_at s hn.1 a hn.2 w
 |op k=>exact mayOp_at k hn w
 |raw x=>
  obtain⟨k,⟨p,q⟩,s,a,b⟩:=x;obtain⟨h1,h2,h3,h4,h5,h6,h7⟩:=hn;simp only[S35.mk.injEq]at h2;obtain⟨rfl,rfl⟩:=h2;exact maySp_at k h1 s h3 a b h4 h5 h6 h7 w
end Go.Proofs.YtjopepfemhckjaaGreatDoor.NW
end
