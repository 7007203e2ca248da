/-
  Part 7 of the proof of parseTells_holds: texts of this seat, put together.
-/
import Derived.Test.YtjopepfemhckjaaGreatDoorTl2
set_option linter.unusedVariables false
set_option linter.unusedSimpArgs false
set_option maxHeartbeats 16000000
set_option maxRecDepth 100000
section
namespace Go.Proofs.YtjopepfemhckjaaGreatDoor.PParseTells
open Go.RowKit Go.Proofs.YtjopepfemhckjaaGreatDoorW.PrintWords Go.Proofs.YtjopepfemhckjaaGreatDoorW.PrintLast
theorem pbq {a b:List UInt8}:(a=b)=((a==b)=true):=by simp
theorem zput2 {w:World}{b:Nat}{u v:Value}{T:TypeId}(h:w.heap[b]? =some (.cells #[u,v] T (0,0)))(x y:Value):
 ((w.setCell ⟨b,0,none⟩ x).setCell ⟨b,1,none⟩ y).cell? ⟨b,0,none⟩=some x∧((w.setCell ⟨b,0,none⟩ x).setCell ⟨b,1,none⟩ y).cell? ⟨b,1,none⟩=some y:=by
 have c1:w.cell? ⟨b,0,none⟩=some u:=(zG h 0).trans rfl
 have c2:w.cell? ⟨b,1,none⟩=some v:=(zG h 1).trans rfl
 have ho:∀(W:World) (k:Value),(W.setCell ⟨b,1,none⟩ k).cell? ⟨b,0,none⟩=W.cell? ⟨b,0,none⟩:=fun W k=>World.cell?_setCell_other _ _ _ _ (by simp)
 have ho2:∀(W:World) (k:Value),(W.setCell ⟨b,0,none⟩ k).cell? ⟨b,1,none⟩=W.cell? ⟨b,1,none⟩:=fun W k=>World.cell?_setCell_other _ _ _ _ (by simp)
 exact⟨by rw[ho];exact World.cell?_setCell_same' _ _ _ (by rw[c1];rfl),World.cell?_setCell_same' _ _ _ (by rw[ho2,c2];rfl)⟩
def stringslite_HasPrefix.f (a0:ByteArray)(a1:ByteArray):Option (Bool):=if(a0.size:Int)≥(a1.size:Int)then(if 0≤(a1.size:Int)then(if(a1.size:Int)≤(a0.size:Int)then(some ((a0.extract 0 ((a1.size:Int):Int).toNat).toList==a1.toList))else(none))else(none))else(some false)
theorem stringslite_HasPrefix.calls (a0:ByteArray)(a1:ByteArray)(r:Bool)(w:World)(h:stringslite_HasPrefix.f a0 a1=some r):
 Calls Tryz.prog 129 #[.string a0,.string a1] w fun e w'=>e= .returned (.bool r)∧zj w w':=by
 have H:(if(a0.size:Int)≥(a1.size:Int)then(if 0≤(a1.size:Int)then(if(a1.size:Int)≤(a0.size:Int)then(some ((a0.extract 0 ((a1.size:Int):Int).toNat).toList==a1.toList))else(none))else(none))else(some false))=some r:=h
 clear h;by_cases c3:(a0.size:Int)≥(a1.size:Int)
 ·rw[if_pos c3]at H
  have c3b0:decide ((a1.size:Int)≤(a0.size:Int))=true:=decide_eq_true c3;have c3b1:decide (a1.size≤a0.size)=true:=decide_eq_true (Int.ofNat_le.mp c3);clear c3;by_cases c4:0≤(a1.size:Int)
  ·rw[if_pos c4]at H
   have c4b0:=eq_true c4;have c4b1:decide (0≤(a1.size:Int))=true:=decide_eq_true c4;clear c4;by_cases c5:(a1.size:Int)≤(a0.size:Int)
   ·rw[if_pos c5]at H
    have c5b0:=eq_true c5;have c5b1:decide ((a1.size:Int)≤(a0.size:Int))=true:=decide_eq_true c5;clear c5;obtain rfl:=Option.some.inj H;go_enter Tryz.func129,Tryz.ntmps129
    go_wp2;go_ret;exact⟨by first|rfl|(simp;done)|(simp[*];done),by repeat(first|exact zj.refl _|apply zj.step)⟩
   ·rw[if_neg c5]at H
    exact absurd H (by simp)
  ·rw[if_neg c4]at H
   exact absurd H (by simp)
 ·rw[if_neg c3]at H
  have c3b0:decide ((a1.size:Int)≤(a0.size:Int))=false:=decide_eq_false c3;have c3b1:decide (a1.size≤a0.size)=false:=decide_eq_false (fun h=>c3 (Int.ofNat_le.mpr h))
  clear c3;obtain rfl:=Option.some.inj H;go_enter Tryz.func129,Tryz.ntmps129
  go_wp2;go_ret;exact⟨by first|rfl|(simp;done)|(simp[*];done),by repeat(first|exact zj.refl _|apply zj.step)⟩
def stringslite_CutPrefix.f (a0:ByteArray)(a1:ByteArray):Option (ByteArray×Bool):=(stringslite_HasPrefix.f a0 a1).bind fun t101=>(if t101=true then(if 0≤(a1.size:Int)then(if(a1.size:Int)≤(a0.size:Int)then(some (a0.extract ((a1.size:Int):Int).toNat a0.size,true))else(none))else(none))else(some (a0,false)))
theorem stringslite_CutPrefix.calls (a0:ByteArray)(a1:ByteArray)(r1:ByteArray)(r2:Bool)(w:World)(h:stringslite_CutPrefix.f a0 a1=some (r1,r2)):
 Calls Tryz.prog 102 #[.string a0,.string a1] w fun e w'=>e= .returned (.tuple #[.string r1,.bool r2])∧zj w w':=by
 have H:((stringslite_HasPrefix.f a0 a1).bind fun t101=>(if t101=true then(if 0≤(a1.size:Int)then(if(a1.size:Int)≤(a0.size:Int)then(some (a0.extract ((a1.size:Int):Int).toNat a0.size,true))else(none))else(none))else(some (a0,false))))=some (r1,r2):=h
 clear h;replace H:=Option.bind_eq_some_iff.mp H;obtain⟨t101,A30,H⟩:=H;replace H:(if t101=true then(if 0≤(a1.size:Int)then(if(a1.size:Int)≤(a0.size:Int)then(some (a0.extract ((a1.size:Int):Int).toNat a0.size,true))else(none))else(none))else(some (a0,false)))=some (r1,r2):=H
 have A3:=zc.mk A30;clear A30;by_cases c4:t101=true
 ·subst c4
  have H1:(if 0≤(a1.size:Int)then(if(a1.size:Int)≤(a0.size:Int)then(some (a0.extract ((a1.size:Int):Int).toNat a0.size,true))else(none))else(none))=some (r1,r2):=by rw[if_pos rfl]at H;exact H
  clear H;have H:=H1;clear H1;by_cases c5:0≤(a1.size:Int)
  ·rw[if_pos c5]at H
   have c5b0:=eq_true c5;have c5b1:decide (0≤(a1.size:Int))=true:=decide_eq_true c5;clear c5;by_cases c6:(a1.size:Int)≤(a0.size:Int)
   ·rw[if_pos c6]at H
    have c6b0:=eq_true c6;have c6b1:decide ((a1.size:Int)≤(a0.size:Int))=true:=decide_eq_true c6;clear c6;simp only[Option.some.injEq,Prod.mk.injEq]at H;obtain⟨rfl,rfl⟩:=H;go_enter Tryz.func102,Tryz.ntmps102
    go_wp2_with(first|((with_reducible refine gate_callee (f:=129) rfl ?_);refine jX (some 8) rfl rfl Tryz.func129 (by kernel_rfl) rfl #[.string a0,.string a1] rfl (by(try simp only[List.map_toArray,List.map_cons,List.map_nil]);first|done|rfl|(simp only[List.length_drop,List.length_take];rfl)) ?_;(with_reducible refine(stringslite_HasPrefix.calls a0 a1 true _ A3.out).mono ?_);rintro e w' ⟨rfl,⟨nd,rfl⟩⟩;refine⟨_,rfl,?_⟩))
    go_ret2
    exact⟨by first|rfl|(simp;done)|(simp[*];done),by repeat(first|exact zj.refl _|apply zj.step)⟩
   ·rw[if_neg c6]at H
    exact absurd H (by simp)
  ·rw[if_neg c5]at H
   exact absurd H (by simp)
 ·replace c4:=Bool.eq_false_iff.mpr c4
  subst c4;have H1:(some (a0,false))=some (r1,r2):=by rw[if_neg (show¬(false=true) by decide)]at H;exact H
  clear H;have H:=H1;clear H1;simp only[Option.some.injEq,Prod.mk.injEq]at H;obtain⟨rfl,rfl⟩:=H;go_enter Tryz.func102,Tryz.ntmps102
  go_wp2_with(first|((with_reducible refine gate_callee (f:=129) rfl ?_);refine jX (some 8) rfl rfl Tryz.func129 (by kernel_rfl) rfl #[.string a0,.string a1] rfl (by(try simp only[List.map_toArray,List.map_cons,List.map_nil]);first|done|rfl|(simp only[List.length_drop,List.length_take];rfl)) ?_;(with_reducible refine(stringslite_HasPrefix.calls a0 a1 false _ A3.out).mono ?_);rintro e w' ⟨rfl,⟨nd,rfl⟩⟩;refine⟨_,rfl,?_⟩))
  go_ret2
  exact⟨by first|rfl|(simp;done)|(simp[*];done),by repeat(first|exact zj.refl _|apply zj.step)⟩
def strings_CutPrefix.f (a0:ByteArray)(a1:ByteArray):Option (ByteArray×Bool):=(stringslite_CutPrefix.f a0 a1).bind fun bt102=>(some (bt102.1,bt102.2))
theorem strings_CutPrefix.calls (a0:ByteArray)(a1:ByteArray)(r1:ByteArray)(r2:Bool)(w:World)(h:strings_CutPrefix.f a0 a1=some (r1,r2)):
 Calls Tryz.prog 66 #[.string a0,.string a1] w fun e w'=>e= .returned (.tuple #[.string r1,.bool r2])∧zj w w':=by
 have H:((stringslite_CutPrefix.f a0 a1).bind fun bt102=>(some (bt102.1,bt102.2)))=some (r1,r2):=h
 clear h;replace H:=Option.bind_eq_some_iff.mp H;obtain⟨⟨t102,t103⟩,A30,H⟩:=H;replace H:(some (t102,t103))=some (r1,r2):=H;have A3:=zc.mk A30;clear A30;simp only[Option.some.injEq,Prod.mk.injEq]at H;obtain⟨rfl,rfl⟩:=H;go_enter Tryz.func66,Tryz.ntmps66
 go_wp2_with(first|((with_reducible refine gate_callee (f:=102) rfl ?_);refine jX (some 8) rfl rfl Tryz.func102 (by kernel_rfl) rfl #[.string a0,.string a1] rfl (by(try simp only[List.map_toArray,List.map_cons,List.map_nil]);first|done|rfl|(simp only[List.length_drop,List.length_take];rfl)) ?_;(with_reducible refine(stringslite_CutPrefix.calls a0 a1 t102 t103 _ A3.out).mono ?_);rintro e w' ⟨rfl,⟨nd,rfl⟩⟩;refine⟨_,rfl,?_⟩))
 go_ret2
 exact⟨by first|rfl|(simp;done)|(simp[*];done),by repeat(first|exact zj.refl _|apply zj.step)⟩
def stringslite_TrimPrefix.f (a0:ByteArray)(a1:ByteArray):Option (ByteArray):=(stringslite_HasPrefix.f a0 a1).bind fun t225=>(if t225=true then(if 0≤(a1.size:Int)then(if(a1.size:Int)≤(a0.size:Int)then(some (a0.extract ((a1.size:Int):Int).toNat a0.size))else(none))else(none))else(some a0))
theorem stringslite_TrimPrefix.calls (a0:ByteArray)(a1:ByteArray)(r:ByteArray)(w:World)(h:stringslite_TrimPrefix.f a0 a1=some r):
 Calls Tryz.prog 111 #[.string a0,.string a1] w fun e w'=>e= .returned (.string r)∧zj w w':=by
 have H:((stringslite_HasPrefix.f a0 a1).bind fun t225=>(if t225=true then(if 0≤(a1.size:Int)then(if(a1.size:Int)≤(a0.size:Int)then(some (a0.extract ((a1.size:Int):Int).toNat a0.size))else(none))else(none))else(some a0)))=some r:=h
 clear h;replace H:=Option.bind_eq_some_iff.mp H;obtain⟨t225,A30,H⟩:=H;replace H:(if t225=true then(if 0≤(a1.size:Int)then(if(a1.size:Int)≤(a0.size:Int)then(some (a0.extract ((a1.size:Int):Int).toNat a0.size))else(none))else(none))else(some a0))=some r:=H
 have A3:=zc.mk A30;clear A30;by_cases c4:t225=true
 ·subst c4
  have H1:(if 0≤(a1.size:Int)then(if(a1.size:Int)≤(a0.size:Int)then(some (a0.extract ((a1.size:Int):Int).toNat a0.size))else(none))else(none))=some r:=by rw[if_pos rfl]at H;exact H
  clear H;have H:=H1;clear H1;by_cases c5:0≤(a1.size:Int)
  ·rw[if_pos c5]at H
   have c5b0:=eq_true c5;have c5b1:decide (0≤(a1.size:Int))=true:=decide_eq_true c5;clear c5;by_cases c6:(a1.size:Int)≤(a0.size:Int)
   ·rw[if_pos c6]at H
    have c6b0:=eq_true c6;have c6b1:decide ((a1.size:Int)≤(a0.size:Int))=true:=decide_eq_true c6;clear c6;obtain rfl:=Option.some.inj H;go_enter Tryz.func111,Tryz.ntmps111
    go_wp2_with(first|((with_reducible refine gate_callee (f:=129) rfl ?_);refine jX (some 7) rfl rfl Tryz.func129 (by kernel_rfl) rfl #[.string a0,.string a1] rfl (by(try simp only[List.map_toArray,List.map_cons,List.map_nil]);first|done|rfl|(simp only[List.length_drop,List.length_take];rfl)) ?_;(with_reducible refine(stringslite_HasPrefix.calls a0 a1 true _ A3.out).mono ?_);rintro e w' ⟨rfl,⟨nd,rfl⟩⟩;refine⟨_,rfl,?_⟩))
    go_ret;exact⟨by first|rfl|(simp;done)|(simp[*];done),by repeat(first|exact zj.refl _|apply zj.step)⟩
   ·rw[if_neg c6]at H
    exact absurd H (by simp)
  ·rw[if_neg c5]at H
   exact absurd H (by simp)
 ·replace c4:=Bool.eq_false_iff.mpr c4
  subst c4;have H1:(some a0)=some r:=by rw[if_neg (show¬(false=true) by decide)]at H;exact H
  clear H;have H:=H1;clear H1;obtain rfl:=Option.some.inj H;go_enter Tryz.func111,Tryz.ntmps111
  go_wp2_with(first|((with_reducible refine gate_callee (f:=129) rfl ?_);refine jX (some 7) rfl rfl Tryz.func129 (by kernel_rfl) rfl #[.string a0,.string a1] rfl (by(try simp only[List.map_toArray,List.map_cons,List.map_nil]);first|done|rfl|(simp only[List.length_drop,List.length_take];rfl)) ?_;(with_reducible refine(stringslite_HasPrefix.calls a0 a1 false _ A3.out).mono ?_);rintro e w' ⟨rfl,⟨nd,rfl⟩⟩;refine⟨_,rfl,?_⟩))
  go_ret;exact⟨by first|rfl|(simp;done)|(simp[*];done),by repeat(first|exact zj.refl _|apply zj.step)⟩
def strings_TrimPrefix.f (a0:ByteArray)(a1:ByteArray):Option (ByteArray):=(stringslite_TrimPrefix.f a0 a1).bind fun t226=>(some t226)
theorem strings_TrimPrefix.calls (a0:ByteArray)(a1:ByteArray)(r:ByteArray)(w:World)(h:strings_TrimPrefix.f a0 a1=some r):
 Calls Tryz.prog 73 #[.string a0,.string a1] w fun e w'=>e= .returned (.string r)∧zj w w':=by
 have H:((stringslite_TrimPrefix.f a0 a1).bind fun t226=>(some t226))=some r:=h
 clear h;replace H:=Option.bind_eq_some_iff.mp H;obtain⟨t226,A30,H⟩:=H;replace H:(some t226)=some r:=H;have A3:=zc.mk A30;clear A30;obtain rfl:=Option.some.inj H;go_enter Tryz.func73,Tryz.ntmps73
 go_wp2_with(first|((with_reducible refine gate_callee (f:=111) rfl ?_);refine jX (some 7) rfl rfl Tryz.func111 (by kernel_rfl) rfl #[.string a0,.string a1] rfl (by(try simp only[List.map_toArray,List.map_cons,List.map_nil]);first|done|rfl|(simp only[List.length_drop,List.length_take];rfl)) ?_;(with_reducible refine(stringslite_TrimPrefix.calls a0 a1 t226 _ A3.out).mono ?_);rintro e w' ⟨rfl,⟨nd,rfl⟩⟩;refine⟨_,rfl,?_⟩))
 go_ret;exact⟨by first|rfl|(simp;done)|(simp[*];done),by repeat(first|exact zj.refl _|apply zj.step)⟩
mutual
def nat_May.j0:Nat→ByteArray→Bool→Option (Bool)
 |0,_,_=>none
 |k+1,x0,x14=>if x14=true then(some false)else(nat_May.l0 k x0 (x0.size:Int) 0)
def nat_May.l0:Nat→ByteArray→Int→Int→Option (Bool)
 |0,_,_,_=>none
 |k+1,x0,x16,x17=>if x17<x16 then(if 0≤x17 then(if x17<(x0.size:Int)then(if(bt x0 x17)<48 then(some false)else(if(bt x0 x17)>57 then(some false)else(nat_May.l0 k x0 x16 (wrap64 (x17+1)))))else(none))else(none))else(some true)
end
def nat_May.f (k:Nat)(a0:ByteArray):Option (Bool):=if a0.toList=([]:List UInt8)then(nat_May.j0 k a0 true)else(if 0<(a0.size:Int)then(if(bt a0 0)=48 then(nat_May.j0 k a0 (a0.toList !=([48]:List UInt8)))else(nat_May.j0 k a0 false))else(none))
theorem nat_May.calls (k:Nat)(a0:ByteArray)(r:Bool)(w:World)(h:nat_May.f k a0=some r):
 Calls Tryz.prog 144 #[.string a0] w fun e w'=>e= .returned (.bool r)∧zj w w':=by
 have H:(if a0.toList=([]:List UInt8)then(nat_May.j0 k a0 true)else(if 0<(a0.size:Int)then(if(bt a0 0)=48 then(nat_May.j0 k a0 (a0.toList !=([48]:List UInt8)))else(nat_May.j0 k a0 false))else(none)))=some r:=h
 clear h;have HC2:=zc.mk H;clear H;go_enter Tryz.func144,Tryz.ntmps144
 go_upto_region 1 with(fail)
 go_cut [14] (fun v14 wc=>∃(kq:Nat) (x14_1:Bool),v14= .bool x14_1∧zc (nat_May.j0 kq a0 x14_1=some r)∧zc (kq≤k)∧zj w wc)
 case first=>
  have H:=HC2.out;clear HC2;by_cases c3:a0.toList=([]:List UInt8)
  ·rw[if_pos c3]at H
   have c3b0:(a0.toList==([]:List UInt8))=true:=beq_iff_eq.mpr c3;have c3b1:(a0.toList !=([]:List UInt8))=false:=bne_eq_false_iff_eq.mpr c3;clear c3
   (first|rw[c3b0]|(simp only[i64_w,i32_w];rw[c3b0])|skip)
   have H':=zc.mk H;clear H;go_wp2;go_meet
   case rel=>exact⟨_,(true),(by first|rfl|(simp;done)|(simp[*];done)),H',⟨by first|omega|exact Nat.le_refl _⟩,by repeat(first|exact zj.refl _|apply zj.step)⟩
  ·rw[if_neg c3]at H
   have c3b0:(a0.toList==([]:List UInt8))=false:=beq_eq_false_iff_ne.mpr c3;have c3b1:(a0.toList !=([]:List UInt8))=true:=bne_iff_ne.mpr c3
   (first|rw[c3b0]|(simp only[i64_w,i32_w];rw[c3b0])|skip)
   by_cases c4:0<(a0.size:Int)
   ·rw[if_pos c4]at H
    have c4b0:decide (0<(a0.size:Int))=true:=decide_eq_true c4;have c4b1:decide (0<a0.size)=true:=decide_eq_true (by omega)
    clear c4;by_cases c6:(bt a0 0)=48
    ·rw[if_pos c6]at H
     have c6b0:((bt a0 0)==48)=true:=beq_iff_eq.mpr c6;have c6b1:((bt a0 0)!=48)=false:=bne_eq_false_iff_eq.mpr c6;clear c6;have H':=zc.mk H;clear H;have p5:0≤(0:Int):=(by omega)
     have q5:0<a0.size:=(by have:(0:Int)<(a0.size:Int):=of_decide_eq_true (by first|(with_reducible assumption)|assumption);omega)
     have hx5:∀h:0<a0.size,((a0[0]'h).toNat:Int)=bt a0 0:=bt_at a0 0;clear p5;have qi5:(0<(a0.size:Int))=True:=eq_true (of_decide_eq_true (by first|(with_reducible assumption)|assumption))
     replace q5:=eq_true q5;go_wp2;go_meet
     case rel=>exact⟨_,((a0.toList !=([48]:List UInt8))),(by first|rfl|(simp;done)|(simp[*];done)),H',⟨by first|omega|exact Nat.le_refl _⟩,by repeat(first|exact zj.refl _|apply zj.step)⟩
    ·rw[if_neg c6]at H
     have c6b0:((bt a0 0)==48)=false:=beq_eq_false_iff_ne.mpr c6;have c6b1:((bt a0 0)!=48)=true:=bne_iff_ne.mpr c6;have H':=zc.mk H;clear H;have p5:0≤(0:Int):=(by omega)
     have q5:0<a0.size:=(by have:(0:Int)<(a0.size:Int):=of_decide_eq_true (by first|(with_reducible assumption)|assumption);omega)
     have hx5:∀h:0<a0.size,((a0[0]'h).toNat:Int)=bt a0 0:=bt_at a0 0;clear p5;have qi5:(0<(a0.size:Int))=True:=eq_true (of_decide_eq_true (by first|(with_reducible assumption)|assumption))
     replace q5:=eq_true q5;go_wp2;go_meet
     case rel=>exact⟨_,(false),(by first|rfl|(simp;done)|(simp[*];done)),H',⟨by first|omega|exact Nat.le_refl _⟩,by repeat(first|exact zj.refl _|apply zj.step)⟩
   ·rw[if_neg c4]at H
    exact absurd H (by simp)
 case rest=>
  clear HC2;try clear c1
  try clear p2
  try clear c3
  try clear c3b0
  try clear c3b1
  try clear c4
  try clear c4b0
  try clear c4b1
  try clear p5
  try clear q5
  try clear hx5
  try clear qi5
  try clear c6
  try clear c6b0
  try clear c6b1
  try clear p5
  try clear q5
  obtain⟨kq,x14_1,rfl,HA,HJ1,⟨mc1,rfl⟩⟩:=hcut;cases kq with
  |zero=>exact absurd HA.out (by simp[nat_May.j0])
  |succ kj1=>
   have H:=HA.out;clear HA;simp only[nat_May.j0]at H;by_cases c7:x14_1=true
   ·subst c7
    have H1:(some false)=some r:=by rw[if_pos rfl]at H;exact H
    clear H;have H:=H1;clear H1;obtain rfl:=Option.some.inj H;go_wp2;go_ret;exact⟨by first|rfl|(simp;done)|(simp[*];done),by repeat(first|exact zj.refl _|apply zj.step)⟩
   ·replace c7:=Bool.eq_false_iff.mpr c7
    subst c7;have H1:(nat_May.l0 kj1 a0 (a0.size:Int) 0)=some r:=by rw[if_neg (show¬(false=true) by decide)]at H;exact H
    clear H;have H:=H1;clear H1;have H':=zc.mk H;clear H;go_wp2;go_loopg [17] kj1 (fun kq v17 w'=>∃(x17_2:Int),v17= .int .i64 x17_2∧zc (nat_May.l0 kq a0 (a0.size:Int) x17_2=some r)∧zc (kq≤kj1)∧zj w w')
    case atStart=>exact⟨(0),(by first|rfl|(simp;done)|(simp[*];done)),H',⟨Nat.le_refl _⟩,by repeat(first|exact zj.refl _|apply zj.step)⟩
    case round=>
     clear H';try clear c1
     try clear p2
     try clear c3
     try clear c3b0
     try clear c3b1
     try clear c4
     try clear c4b0
     try clear c4b1
     try clear p5
     try clear q5
     try clear hx5
     try clear qi5
     try clear c6
     try clear c6b0
     try clear c6b1
     try clear c7
     try clear p2
     try clear p5
     try clear q5
     obtain⟨x17_2,rfl,HA,HK2,⟨m2,rfl⟩⟩:=hrel;cases gk with
     |zero=>exact absurd HA.out (by simp[nat_May.l0])
     |succ k2=>
      have H:=HA.out;clear HA;simp only[nat_May.l0]at H;by_cases c8:x17_2<(a0.size:Int)
      ·rw[if_pos c8]at H
       have c8b0:decide (x17_2<(a0.size:Int))=true:=decide_eq_true c8;clear c8;by_cases c9:0≤x17_2
       ·rw[if_pos c9]at H
        have c9b0:decide (0≤x17_2)=true:=decide_eq_true c9;clear c9;by_cases c10:x17_2<(a0.size:Int)
        ·rw[if_pos c10]at H
         have c10b0:decide (x17_2<(a0.size:Int))=true:=decide_eq_true c10;clear c10;by_cases c12:(bt a0 x17_2)<48
         ·rw[if_pos c12]at H
          have c12b0:decide ((bt a0 x17_2)<48)=true:=decide_eq_true c12;clear c12;obtain rfl:=Option.some.inj H;have p11:0≤(x17_2:Int):=of_decide_eq_true (by first|(with_reducible assumption)|assumption)
          have q11:x17_2<(a0.size:Int):=of_decide_eq_true (by first|(with_reducible assumption)|assumption)
          have hx11:=bt_at a0 x17_2;replace p11:=eq_true p11;replace q11:=eq_true q11;go_wp2;go_ret;exact⟨by first|rfl|(simp;done)|(simp[*];done),by repeat(first|exact zj.refl _|apply zj.step)⟩
         ·rw[if_neg c12]at H
          have c12b0:decide ((bt a0 x17_2)<48)=false:=decide_eq_false c12;clear c12;by_cases c14:(bt a0 x17_2)>57
          ·rw[if_pos c14]at H
           have c14b0:decide (57<(bt a0 x17_2))=true:=decide_eq_true c14;clear c14;obtain rfl:=Option.some.inj H;have p11:0≤(x17_2:Int):=of_decide_eq_true (by first|(with_reducible assumption)|assumption)
           have q11:x17_2<(a0.size:Int):=of_decide_eq_true (by first|(with_reducible assumption)|assumption)
           have hx11:=bt_at a0 x17_2;replace p11:=eq_true p11;replace q11:=eq_true q11;have p13:0≤(x17_2:Int):=of_decide_eq_true (by first|(with_reducible assumption)|assumption)
           have q13:x17_2<(a0.size:Int):=of_decide_eq_true (by first|(with_reducible assumption)|assumption)
           have hx13:=bt_at a0 x17_2;replace p13:=eq_true p13;replace q13:=eq_true q13;go_wp2;go_ret;exact⟨by first|rfl|(simp;done)|(simp[*];done),by repeat(first|exact zj.refl _|apply zj.step)⟩
          ·rw[if_neg c14]at H
           have c14b0:decide (57<(bt a0 x17_2))=false:=decide_eq_false c14;clear c14;have H':=zc.mk H;clear H;have p11:0≤(x17_2:Int):=of_decide_eq_true (by first|(with_reducible assumption)|assumption)
           have q11:x17_2<(a0.size:Int):=of_decide_eq_true (by first|(with_reducible assumption)|assumption)
           have hx11:=bt_at a0 x17_2;replace p11:=eq_true p11;replace q11:=eq_true q11;have p13:0≤(x17_2:Int):=of_decide_eq_true (by first|(with_reducible assumption)|assumption)
           have q13:x17_2<(a0.size:Int):=of_decide_eq_true (by first|(with_reducible assumption)|assumption)
           have hx13:=bt_at a0 x17_2;replace p13:=eq_true p13;replace q13:=eq_true q13;go_wp2;go_roundg k2
           case measure=>have:=HJ1.out;have:=HK2.out;omega
           case rel=>exact⟨(wrap64 (x17_2+1)),(by first|rfl|(simp;done)|(simp[*];done)),H',⟨by have:=HJ1.out;have:=HK2.out;omega⟩,by repeat(first|exact zj.refl _|apply zj.step)⟩
        ·rw[if_neg c10]at H
         exact absurd H (by simp)
       ·rw[if_neg c9]at H
        exact absurd H (by simp)
      ·rw[if_neg c8]at H
       have c8b0:decide (x17_2<(a0.size:Int))=false:=decide_eq_false c8;clear c8;obtain rfl:=Option.some.inj H;go_wp2;go_ret;exact⟨by first|rfl|(simp;done)|(simp[*];done),by repeat(first|exact zj.refl _|apply zj.step)⟩
def whole_read.f (k:Nat)(a0:ByteArray):Option (ByteArray×Bool×Bool):=(strings_CutPrefix.f a0 (⟨#[45]⟩:ByteArray)).bind fun bt114=>((nat_May.f k bt114.1).bind fun t116=>(if t116=true then(if bt114.2=true then(if bt114.1.toList=([48]:List UInt8)then(some ((⟨#[]⟩:ByteArray),false,false))else(some (bt114.1,bt114.2,true)))else(some (bt114.1,bt114.2,true)))else(some ((⟨#[]⟩:ByteArray),false,false))))
theorem whole_read.calls (k:Nat)(a0:ByteArray)(r1:ByteArray)(r2:Bool)(r3:Bool)(w:World)(h:whole_read.f k a0=some (r1,r2,r3)):
 Calls Tryz.prog 107 #[.string a0] w fun e w'=>e= .returned (.tuple #[.agg #[.string r1,.bool r2],.bool r3])∧Below w.heap.size w w':=by
 obtain⟨⟨t,b⟩,A2,h⟩:=Option.bind_eq_some_iff.mp h;obtain⟨m,A3,h⟩:=Option.bind_eq_some_iff.mp h;dsimp only at A2 A3 h;have HC:=fun W=>zc.mk (strings_CutPrefix.calls a0 ⟨#[45]⟩ t b W A2)
 have HM:=fun W=>zc.mk (nat_May.calls k t m W A3)
 clear A2 A3;have k0:=World.alloc_heap_new w (.cells #[.string ⟨#[]⟩,.bool false] 124);have B0:=(Below.refl w.heap.size w).alloc (Nat.le_refl _) (.cells #[.string ⟨#[]⟩,.bool false] 124);repeat' split at h
 all_goals
  injection h with h;injection h with h1 h;injection h with h2 h3;subst h1 h2 h3
  (try simp only[pbq,Bool.not_eq_true]at*)
  subst_eqs
  go_enter Tryz.func107,Tryz.ntmps107
  go_wp2_with fail;generalize w.alloc (.cells #[.string ⟨#[]⟩,.bool false] 124)=w0 at*;refine(HC _).out.mono ?_;rintro e w1 ⟨rfl,n1,rfl⟩;go_wp2_with fail;refine(HM _).out.mono ?_;rintro e w2 ⟨rfl,n2,rfl⟩;have k7:((w0.drewN n1).drewN n2).heap[w.heap.size]? =some (.cells #[.string ⟨#[]⟩,.bool false] 124):=k0;have B7:=ze (ze B0 n1) n2;generalize (w0.drewN n1).drewN n2=w7 at*;have c0:w7.cell? ⟨w.heap.size,0,none⟩=some (.string ⟨#[]⟩):=(zG k7 0).trans rfl
  have c1:w7.cell? ⟨w.heap.size,1,none⟩=some (.bool false):=(zG k7 1).trans rfl
  have f0:w7.frozen? ⟨w.heap.size,0,none⟩=false:=zu k7 0;have f1:w7.frozen? ⟨w.heap.size,1,none⟩=false:=zu k7 1;go_wp2_with fail;have q1:=fun x y=>(zput2 k7 x y).1
  have q2:=fun x y=>(zput2 k7 x y).2
  refine bodyPost_ret (v:=_) ?_ rfl ⟨rfl,(B7.setCell (by simp) _).setCell (by simp) _⟩
  simp[results,Tryz.f107,go_sem,q1,q2]
def whole_number_text.f (a0_0:ByteArray)(a0_1:Bool):Option (ByteArray):=if a0_1=true then(if a0_0.toList=([48]:List UInt8)then(some a0_0)else(if 1+a0_0.size≤9223372036854775807 then(some ((⟨#[45]⟩:ByteArray)++a0_0))else(none)))else(some a0_0)
theorem whole_number_text.calls (a0_0:ByteArray)(a0_1:Bool)(r:ByteArray)(w:World)(h:whole_number_text.f a0_0 a0_1=some r):
 Calls Tryz.prog 108 #[.agg #[.string a0_0,.bool a0_1]] w fun e w'=>e= .returned (.string r)∧Below w.heap.size w w':=by
 unfold whole_number_text.f at h;repeat' split at h
 all_goals(first|(cases h;done)|skip)
 all_goals
  injection h with h;subst h
  (try simp only[pbq,Bool.not_eq_true]at*)
  subst_eqs
  go_enter Tryz.func108,Tryz.ntmps108
  go_wp2_with fail;go_ret;exact⟨rfl,(Below.refl _ w).alloc (Nat.le_refl _) _⟩
def whole_May.f (k:Nat)(a0:ByteArray):Option (Bool):=(whole_read.f k a0).bind fun bt123=>(some bt123.2.2)
theorem whole_May.calls (k:Nat)(a0:ByteArray)(r:Bool)(w:World)(h:whole_May.f k a0=some r):
 Calls Tryz.prog 109 #[.string a0] w fun e w'=>e= .returned (.bool r)∧Below w.heap.size w w':=by
 have hu124:=Tryz.underlying124;have HB:=zc.mk (Below.refl w.heap.size w);have H:((whole_read.f k a0).bind fun bt123=>(some bt123.2.2))=some r:=h
 clear h;replace H:=Option.bind_eq_some_iff.mp H;obtain⟨⟨t123,t124,t125⟩,A20,H⟩:=H;replace H:(some t125)=some r:=H;have A2:=zc.mk A20;clear A20;obtain rfl:=Option.some.inj H;go_enter Tryz.func109,Tryz.ntmps109
 go_wp2_with(first|((with_reducible refine gate_callee (f:=107) rfl ?_);refine jX (some 7) rfl rfl Tryz.func107 (by kernel_rfl) rfl #[.string a0] rfl (by(try simp only[List.map_toArray,List.map_cons,List.map_nil]);first|done|rfl|(simp only[List.length_drop,List.length_take];rfl)) ?_;(with_reducible refine(whole_read.calls k a0 t123 t124 t125 _ A2.out).mono ?_);rintro e w3 ⟨rfl,hb⟩;refine⟨_,rfl,?_⟩;have n0_:=zc.mk (zi bb hb);clear HB;have HB:=n0_;clear n0_;(try clear hb);(try clear hb2);(try clear hk);(try clear hi))|((with_reducible refine gate_dst (N:=3) rfl ?_);refine box_event ?hg (N:=3) ?hd (cs:=#[.string (⟨#[]⟩:ByteArray),.bool false]) (t:=124) ?hr ?_;(case hd=>rfl);(case hg=>rfl);(case hr=>first|(go_simp;done)|(go_simp;rfl));intro gb126 hg w4 hbox hb;have n0_:=zc.mk (zi bb hb);have n1_:=zc.mk (hbox);have n2_:=zc.mk ((by rw[hg];exact(qm bb):w.heap.size≤gb126));have n3_:=zc.mk ((by rw[hg];exact(qm bb):w.heap.size≤gb126));clear HB;have HB:=n0_;have BK126:=n1_;have GW126:=n2_;have GE126:=n3_;clear n0_ n1_ n2_ n3_;clear hb hbox hg;have hcz5_0:w4.cell? ⟨gb126,0,none⟩=some (.string (⟨#[]⟩:ByteArray)):=(zG BK126.out 0).trans rfl;have hcz5_1:w4.cell? ⟨gb126,1,none⟩=some (.bool false):=(zG BK126.out 1).trans rfl;have hfz5_0:=zu BK126.out 0;have hfz5_1:=zu BK126.out 1))
 go_ret;exact⟨by first|rfl|(simp[zz,zy]<;>rfl)|(simp[*,zz,zy]<;>rfl),by repeat(first|(with_reducible first|exact HB.out|apply zk|apply ze|apply zm|refine qu ?_ GE126.out)|exact HB.out)⟩
def whole_Sign.j0:Nat→Bool→ByteArray→Bool→Option (Int)
 |0,_,_,_=>none
 |k+1,x10,x131000,x131001=>if x10=true then(some 0)else(if x131001=true then(some (-1))else(some 1))
def whole_Sign.f (k:Nat)(a0:ByteArray):Option (Int):=(whole_read.f k a0).bind fun bt127=>(if bt127.2.2=true then(whole_Sign.j0 k (bt127.1.toList==([48]:List UInt8)) bt127.1 bt127.2.1)else(whole_Sign.j0 k true bt127.1 bt127.2.1))
theorem whole_Sign.calls (k:Nat)(a0:ByteArray)(r:Int)(w:World)(h:whole_Sign.f k a0=some r):
 Calls Tryz.prog 145 #[.string a0] w fun e w'=>e= .returned (.int .i64 r)∧Below w.heap.size w w':=by
 have hu124:=Tryz.underlying124;have HB:=zc.mk (Below.refl w.heap.size w);have H:((whole_read.f k a0).bind fun bt127=>(if bt127.2.2=true then(whole_Sign.j0 k (bt127.1.toList==([48]:List UInt8)) bt127.1 bt127.2.1)else(whole_Sign.j0 k true bt127.1 bt127.2.1)))=some r:=h
 clear h;replace H:=Option.bind_eq_some_iff.mp H;obtain⟨⟨t127,t128,t129⟩,A20,H⟩:=H;replace H:(if t129=true then(whole_Sign.j0 k (t127.toList==([48]:List UInt8)) t127 t128)else(whole_Sign.j0 k true t127 t128))=some r:=H
 have A2:=zc.mk A20;clear A20;have HC3:=zc.mk H;clear H;go_enter Tryz.func145,Tryz.ntmps145
 go_upto_region 2 with(first|((with_reducible refine gate_callee (f:=107) rfl ?_);refine jX (some 7) rfl rfl Tryz.func107 (by kernel_rfl) rfl #[.string a0] rfl (by(try simp only[List.map_toArray,List.map_cons,List.map_nil]);first|done|rfl|(simp only[List.length_drop,List.length_take];rfl)) ?_;(with_reducible refine(whole_read.calls k a0 t127 t128 t129 _ A2.out).mono ?_);rintro e w4 ⟨rfl,hb⟩;refine⟨_,rfl,?_⟩;have n0_:=zc.mk (zi bb hb);clear HB;have HB:=n0_;clear n0_;(try clear hb);(try clear hb2);(try clear hk);(try clear hi))|((with_reducible refine gate_dst (N:=3) rfl ?_);refine box_event ?hg (N:=3) ?hd (cs:=#[.string (⟨#[]⟩:ByteArray),.bool false]) (t:=124) ?hr ?_;(case hd=>rfl);(case hg=>rfl);(case hr=>first|(go_simp;done)|(go_simp;rfl));intro gb130 hg w5 hbox hb;have n0_:=zc.mk (zi bb hb);have n1_:=zc.mk (hbox);have n2_:=zc.mk ((by rw[hg];exact(qm bb):w.heap.size≤gb130));have n3_:=zc.mk ((by rw[hg];exact(qm bb):w.heap.size≤gb130));clear HB;have HB:=n0_;have BK130:=n1_;have GW130:=n2_;have GE130:=n3_;clear n0_ n1_ n2_ n3_;clear hb hbox hg;have hcz6_0:w5.cell? ⟨gb130,0,none⟩=some (.string (⟨#[]⟩:ByteArray)):=(zG BK130.out 0).trans rfl;have hcz6_1:w5.cell? ⟨gb130,1,none⟩=some (.bool false):=(zG BK130.out 1).trans rfl;have hfz6_0:=zu BK130.out 0;have hfz6_1:=zu BK130.out 1))
 (try simp only[Act.put,List.setIfInBounds_toArray,List.set_cons_zero,List.set_cons_succ])
 go_cut [10] (fun v10 wc=>∃(kq:Nat) (x10_2:Bool),v10= .bool x10_2∧zc (whole_Sign.j0 kq x10_2 t127 t128=some r)∧zc (kq≤k)∧zc (wc.heap[gb130]? =some (.cells #[.string t127,.bool t128] 124 (0,0)))∧zc (Below w.heap.size w wc))
 case first=>
  have H:=HC3.out;clear HC3;by_cases c7:t129=true
  ·subst c7
   have H1:(whole_Sign.j0 k (t127.toList==([48]:List UInt8)) t127 t128)=some r:=by rw[if_pos rfl]at H;exact H
   clear H;have H:=H1;clear H1;have H':=zc.mk H;clear H;have hcz8_0:w5.cell? ⟨gb130,0,none⟩=some (.string (⟨#[]⟩:ByteArray)):=(zG BK130.out 0).trans rfl;have hcz8_1:w5.cell? ⟨gb130,1,none⟩=some (.bool false):=(zG BK130.out 1).trans rfl;have hfz8_0:=zu BK130.out 0;have hfz8_1:=zu BK130.out 1;go_wp2;go_meet
   case rel=>exact⟨_,((t127.toList==([48]:List UInt8))),(by first|rfl|(simp;done)|(simp[*];done)),H',⟨by first|omega|exact Nat.le_refl _⟩,⟨by(with_reducible repeat(first|refine qL ?_ _|refine jm ?_|refine qM ?_ _));refine blk_put (cs:=#[.string t127,.bool false]) ?_ 1 _ rfl;(with_reducible repeat(first|refine qL ?_ _|refine jm ?_|refine qM ?_ _));refine blk_put (cs:=#[.string (⟨#[]⟩:ByteArray),.bool false]) ?_ 0 _ rfl;(with_reducible repeat(first|refine qL ?_ _|refine jm ?_|refine qM ?_ _));exact BK130.out⟩,⟨by repeat(first|(with_reducible first|exact HB.out|apply zk|apply ze|apply zm|refine qu ?_ GE130.out)|exact HB.out)⟩⟩
  ·replace c7:=Bool.eq_false_iff.mpr c7
   subst c7;have H1:(whole_Sign.j0 k true t127 t128)=some r:=by rw[if_neg (show¬(false=true) by decide)]at H;exact H
   clear H;have H:=H1;clear H1;have H':=zc.mk H;clear H;go_wp2;go_meet
   case rel=>exact⟨_,(true),(by first|rfl|(simp;done)|(simp[*];done)),H',⟨by first|omega|exact Nat.le_refl _⟩,⟨by(with_reducible repeat(first|refine qL ?_ _|refine jm ?_|refine qM ?_ _));refine blk_put (cs:=#[.string t127,.bool false]) ?_ 1 _ rfl;(with_reducible repeat(first|refine qL ?_ _|refine jm ?_|refine qM ?_ _));refine blk_put (cs:=#[.string (⟨#[]⟩:ByteArray),.bool false]) ?_ 0 _ rfl;(with_reducible repeat(first|refine qL ?_ _|refine jm ?_|refine qM ?_ _));exact BK130.out⟩,⟨by repeat(first|(with_reducible first|exact HB.out|apply zk|apply ze|apply zm|refine qu ?_ GE130.out)|exact HB.out)⟩⟩
 case rest=>
  clear HC3;try clear c1
  try clear p2
  try clear c7
  try clear hcz6_0
  try clear hcz6_1
  try clear hcz8_0
  try clear hcz8_1
  try clear hfz6_0
  try clear hfz6_1
  try clear hfz8_0
  try clear hfz8_1
  obtain⟨kq,x10_2,rfl,HA,HJ2,BK130,HB⟩:=hcut;cases kq with
  |zero=>exact absurd HA.out (by simp[whole_Sign.j0])
  |succ kj2=>
   have H:=HA.out;clear HA;simp only[whole_Sign.j0]at H;by_cases c9:x10_2=true
   ·subst c9
    have H1:(some 0)=some r:=by rw[if_pos rfl]at H;exact H
    clear H;have H:=H1;clear H1;obtain rfl:=Option.some.inj H;go_wp2;go_ret;exact⟨by first|rfl|(simp[zz,zy]<;>rfl)|(simp[*,zz,zy]<;>rfl),by repeat(first|(with_reducible first|exact HB.out|apply zk|apply ze|apply zm|refine qu ?_ GE130.out)|exact HB.out)⟩
   ·replace c9:=Bool.eq_false_iff.mpr c9
    subst c9;have H1:(if t128=true then(some (-1))else(some 1))=some r:=by rw[if_neg (show¬(false=true) by decide)]at H;exact H
    clear H;have H:=H1;clear H1;by_cases c10:t128=true
    ·subst c10
     have H1:(some (-1))=some r:=by rw[if_pos rfl]at H;exact H
     clear H;have H:=H1;clear H1;obtain rfl:=Option.some.inj H;have hcz11_0:wc.cell? ⟨gb130,0,none⟩=some (.string t127):=(zG BK130.out 0).trans rfl;have hcz11_1:wc.cell? ⟨gb130,1,none⟩=some (.bool true):=(zG BK130.out 1).trans rfl;have hfz11_0:=zu BK130.out 0;have hfz11_1:=zu BK130.out 1;go_wp2;go_ret;exact⟨by first|rfl|(simp[zz,zy]<;>rfl)|(simp[*,zz,zy]<;>rfl),by repeat(first|(with_reducible first|exact HB.out|apply zk|apply ze|apply zm|refine qu ?_ GE130.out)|exact HB.out)⟩
    ·replace c10:=Bool.eq_false_iff.mpr c10
     subst c10;have H1:(some 1)=some r:=by rw[if_neg (show¬(false=true) by decide)]at H;exact H
     clear H;have H:=H1;clear H1;obtain rfl:=Option.some.inj H;have hcz12_0:wc.cell? ⟨gb130,0,none⟩=some (.string t127):=(zG BK130.out 0).trans rfl;have hcz12_1:wc.cell? ⟨gb130,1,none⟩=some (.bool false):=(zG BK130.out 1).trans rfl;have hfz12_0:=zu BK130.out 0;have hfz12_1:=zu BK130.out 1;go_wp2;go_ret;exact⟨by first|rfl|(simp[zz,zy]<;>rfl)|(simp[*,zz,zy]<;>rfl),by repeat(first|(with_reducible first|exact HB.out|apply zk|apply ze|apply zm|refine qu ?_ GE130.out)|exact HB.out)⟩
def whole_Abs.f (k:Nat)(a0:ByteArray):Option (ByteArray):=(whole_read.f k a0).bind fun bt193=>(some bt193.1)
theorem whole_Abs.calls (k:Nat)(a0:ByteArray)(r:ByteArray)(w:World)(h:whole_Abs.f k a0=some r):
 Calls Tryz.prog 147 #[.string a0] w fun e w'=>e= .returned (.string r)∧Below w.heap.size w w':=by
 have hu124:=Tryz.underlying124;have HB:=zc.mk (Below.refl w.heap.size w);have H:((whole_read.f k a0).bind fun bt193=>(some bt193.1))=some r:=h
 clear h;replace H:=Option.bind_eq_some_iff.mp H;obtain⟨⟨t193,t194,t195⟩,A20,H⟩:=H;replace H:(some t193)=some r:=H;have A2:=zc.mk A20;clear A20;obtain rfl:=Option.some.inj H;go_enter Tryz.func147,Tryz.ntmps147
 go_wp2_with(first|((with_reducible refine gate_callee (f:=107) rfl ?_);refine jX (some 7) rfl rfl Tryz.func107 (by kernel_rfl) rfl #[.string a0] rfl (by(try simp only[List.map_toArray,List.map_cons,List.map_nil]);first|done|rfl|(simp only[List.length_drop,List.length_take];rfl)) ?_;(with_reducible refine(whole_read.calls k a0 t193 t194 t195 _ A2.out).mono ?_);rintro e w3 ⟨rfl,hb⟩;refine⟨_,rfl,?_⟩;have n0_:=zc.mk (zi bb hb);clear HB;have HB:=n0_;clear n0_;(try clear hb);(try clear hb2);(try clear hk);(try clear hi))|((with_reducible refine gate_dst (N:=3) rfl ?_);refine box_event ?hg (N:=3) ?hd (cs:=#[.string (⟨#[]⟩:ByteArray),.bool false]) (t:=124) ?hr ?_;(case hd=>rfl);(case hg=>rfl);(case hr=>first|(go_simp;done)|(go_simp;rfl));intro gb196 hg w4 hbox hb;have n0_:=zc.mk (zi bb hb);have n1_:=zc.mk (hbox);have n2_:=zc.mk ((by rw[hg];exact(qm bb):w.heap.size≤gb196));have n3_:=zc.mk ((by rw[hg];exact(qm bb):w.heap.size≤gb196));clear HB;have HB:=n0_;have BK196:=n1_;have GW196:=n2_;have GE196:=n3_;clear n0_ n1_ n2_ n3_;clear hb hbox hg;have hcz5_0:w4.cell? ⟨gb196,0,none⟩=some (.string (⟨#[]⟩:ByteArray)):=(zG BK196.out 0).trans rfl;have hcz5_1:w4.cell? ⟨gb196,1,none⟩=some (.bool false):=(zG BK196.out 1).trans rfl;have hfz5_0:=zu BK196.out 0;have hfz5_1:=zu BK196.out 1))
 go_ret;exact⟨by first|rfl|(simp[zz,zy]<;>rfl)|(simp[*,zz,zy]<;>rfl),by repeat(first|(with_reducible first|exact HB.out|apply zk|apply ze|apply zm|refine qu ?_ GE196.out)|exact HB.out)⟩
def parse_short.f (a0_0:ByteArray)(a0_1:ByteArray):Option (Bool):=(strings_TrimPrefix.f a0_0 (⟨#[45]⟩:ByteArray)).bind fun t228=>(if(t228.size:Int)≤60 then(some (decide ((a0_1.size:Int)≤60)))else(some false))
theorem parse_short.calls (a0_0:ByteArray)(a0_1:ByteArray)(r:Bool)(w:World)(h:parse_short.f a0_0 a0_1=some r):
 Calls Tryz.prog 41 #[.agg #[.string a0_0,.string a0_1]] w fun e w'=>e= .returned (.bool r)∧Below w.heap.size w w':=by
 obtain⟨t,A2,h⟩:=Option.bind_eq_some_iff.mp h;have HC:=fun W=>zc.mk (strings_TrimPrefix.calls a0_0 ⟨#[45]⟩ t W A2)
 have k0:=World.alloc_heap_new w (.cells #[.string a0_0,.string a0_1] 35);clear A2;split at h
 all_goals
  injection h with h;subst h;go_enter Tryz.func41,Tryz.ntmps41
  go_wp2_with fail;refine(HC _).out.mono ?_;rintro e w1 ⟨rfl,n1,rfl⟩;go_wp2_with fail;go_ret;exact⟨by first|rfl|(simp;done),by repeat(first|exact Below.refl _ _|apply ze|apply zk)⟩
def parse_known.f (a0:ByteArray):Option (Bool):=if a0.toList=([112,120]:List UInt8)then(some true)else(if a0.toList=([97,118,103]:List UInt8)then(some true)else(if a0.toList=([104,105]:List UInt8)then(some true)else(if a0.toList=([108,111]:List UInt8)then(some true)else(if a0.toList=([109,97,120]:List UInt8)then(some true)else(if a0.toList=([109,105,110]:List UInt8)then(some true)else(if a0.toList=([105,102]:List UInt8)then(some true)else(if a0.toList=([110,117,109]:List UInt8)then(some true)else(some false))))))))
theorem parse_known.calls (a0:ByteArray)(r:Bool)(w:World)(h:parse_known.f a0=some r):
 Calls Tryz.prog 44 #[.string a0] w fun e w'=>e= .returned (.bool r)∧zj w w':=by
 unfold parse_known.f at h;repeat' split at h
 all_goals
  injection h with h;subst h
  (try simp only[pbq,Bool.not_eq_true]at*)
  go_enter Tryz.func44,Tryz.ntmps44
  go_wp2_with fail;go_ret;exact⟨rfl,zj.refl _⟩
end Go.Proofs.YtjopepfemhckjaaGreatDoor.PParseTells
end
