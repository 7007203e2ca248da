/-
  Part 5 of the proof of parseTells_holds: texts of this seat, put together.
-/
import Derived.Lib.Hide
import Derived.Lib.Atoi
import Derived.Deep.LoopGhost
import Derived.Deep.RegionHeld3
import Derived.Deep.RegionWith
import Derived.Deep.RegionHeld
import Derived.Test.YtjopepfemhckjaaGreatDoorTl3
import Derived.Test.YtjopepfemhckjaaGreatDoorTl4
set_option linter.unusedVariables false
set_option linter.unusedSimpArgs false
set_option maxHeartbeats 16000000
set_option maxRecDepth 100000
section
namespace Go.Proofs.YtjopepfemhckjaaGreatDoor.NW
open Go.Proofs Go.RowKit Go.Proofs.YtjopepfemhckjaaGreatDoor.PN Go.Proofs.YtjopepfemhckjaaGreatDoorW.PrintWords Go.Proofs.YtjopepfemhckjaaGreatDoor.PParseTells
theorem digitVal_ok (c:UInt8)(h:48≤c.toNat∧c.toNat≤57):Lib.digitVal c=some (c.toNat-48):=by
 unfold Lib.digitVal;first
 |(rw[if_pos (by omega)])
 |(split
   ·rfl
   ·rename_i hn;exact absurd h hn)
theorem decFrom_dv (l:List UInt8)(h:allD l):∀a:Nat,Lib.decFrom a l=some (a*10^l.length+dv l):=by
 induction l with
 |nil=>intro a;simp[Lib.decFrom,dv]
 |cons c l ih=>
  intro a;have hc:=h c (by simp)
  rw[Lib.decFrom,digitVal_ok c hc];simp only[];rw[ih (fun d hd=>h d (by simp[hd])),z6,List.length_cons,Nat.pow_succ]
  congr 1
  grind
theorem atoi_dv (l:List UInt8)(h:allD l)(hn:l≠[]):Lib.atoi l=some (dv l:Int):=by
 cases l with
 |nil=>exact absurd rfl hn
 |cons c l=>
  have hc:=h c (by simp)
  simp only[Lib.atoi];have e1:(c==45)=false:=by
   rw[beq_eq_false_iff_ne];rintro rfl;exact absurd hc.1 (by decide)
  have e2:(c==43)=false:=by
   rw[beq_eq_false_iff_ne];rintro rfl;exact absurd hc.1 (by decide)
  rw[e1,e2];simp only[Bool.false_eq_true,if_false];unfold Lib.decNat;first
  |(rw[decFrom_dv (c::l) h 0];simp)
  |(simp[decFrom_dv (c::l) h 0])
theorem ext_toList (s:ByteArray)(i j:Nat):(s.extract i j).data.toList=(s.data.toList.take j).drop i:=by
 rw[ByteArray.data_extract,Array.toList_extract,List.extract_eq_take_drop,List.drop_take]
def RI (D:Nat)(s1:ByteArray)(acc:List Int):Prop:=
 allD s1.data.toList∧dv s1.data.toList*10000^acc.length+lv acc=D∧wfL acc∧(0<s1.size→acc.length*4+s1.size≤1000000)∧acc.length≤250001
theorem RI.step {D:Nat}{s1:ByteArray}{acc:List Int}(h:RI D s1 acc)(h0:0<s1.size)(m:Nat)(hm:m=s1.size-4):
 RI D (s1.extract 0 m) (acc++[(dv (s1.extract m s1.size).data.toList:Int)])∧allD (s1.extract m s1.size).data.toList∧(s1.extract m s1.size).data.toList≠[]∧(s1.extract m s1.size).size≤4∧(s1.extract 0 m).size=m:=by
 obtain⟨h1,h2,h3,h4,h5⟩:=h;have hlen:s1.data.toList.length=s1.size:=by simp
 have e1:(s1.extract 0 m).data.toList=s1.data.toList.take m:=by rw[ext_toList,List.drop_zero]
 have e2:(s1.extract m s1.size).data.toList=s1.data.toList.drop m:=by rw[ext_toList,←hlen,List.take_length]
 have hd2:(s1.data.toList.drop m).length=s1.size-m:=by rw[List.length_drop,hlen]
 have a1:allD (s1.data.toList.take m):=fun c hc=>h1 c (List.mem_of_mem_take hc)
 have a2:allD (s1.data.toList.drop m):=fun c hc=>h1 c (List.mem_of_mem_drop hc)
 have hsz1:(s1.extract 0 m).size=m:=by simp;omega
 have hsz2:(s1.extract m s1.size).size=s1.size-m:=by simp
 have hlt:=qt _ a2;have hsp:dv s1.data.toList=dv (s1.data.toList.take m)*10^(s1.size-m)+dv (s1.data.toList.drop m):=by
  conv=>lhs;rw[←List.take_append_drop m s1.data.toList]
  rw[je,hd2]
 rw[e2];have hlt4:dv (s1.data.toList.drop m)<10000:=by
  rw[hd2]at hlt;have:10^(s1.size-m)≤10^4:=Nat.pow_le_pow_right (by omega) (by omega)
  omega
 refine⟨⟨by rw[e1];exact a1,?_,?_,?_,?_⟩,a2,?_,by omega,hsz1⟩
 ·rw[e1,lv_snoc,List.length_append,List.length_cons,List.length_nil,Int.toNat_natCast,←h2,hsp]
  by_cases hm4:4≤s1.size
  ·have:s1.size-m=4:=by omega
   rw[this,Nat.pow_succ];grind
  ·have:m=0:=by omega
   subst this;simp[dv];grind
 ·rw[wfL_app]
  exact⟨h3,fun x hx=>by simp at hx;omega⟩
 ·intro hp
  rw[hsz1]at hp ⊢;have:=h4 h0;simp only[List.length_append,List.length_cons,List.length_nil];omega
 ·have:=h4 h0
  simp only[List.length_append,List.length_cons,List.length_nil];omega
 ·intro e
  have:=congrArg List.length e;rw[hd2]at this;simp at this;omega
theorem read_at (s:ByteArray)(hd:allD s.data.toList)(hs:s.size≤1000000)(w:World):
 Calls Tryz.prog 207 #[.string s] w fun e w'=>∃v l,e= .returned v∧Kd.V (Kd.int .i64) 3 w' w.heap.size (fun k=>w.heap.size≤k) v l∧isL l (dv s.data.toList)∧Below w.heap.size w w':=by
 obtain⟨D,hD⟩:∃D,dv s.data.toList=D:=⟨_,rfl⟩;rw[hD];have H0:zc (RI D s []):=⟨hd,by simp[lv,hD],fun _ h=>(by cases h),by simp;omega,by simp⟩
 clear hd hD;have HB:=zc.mk (Below.refl w.heap.size w);go_enter Tryz.func207,Tryz.ntmps207
 go_wp2;go_loopg [0,3] (s.size+1) (fun kq v0 v3 w'=>∃(s1:ByteArray) (acc:List Int),v0= .string s1∧zc (RI D s1 acc)∧s1.size<kq∧kq≤1000001∧zc (Kd.R (Kd.int .i64) 3 w' w.heap.size (fun k=>w.heap.size≤k) v3 acc)∧zc (Below w.heap.size w w'))
 case atStart=>exact⟨s,[],rfl,H0,by omega,by omega,⟨Kd.R_nil _ _ _ _ _⟩,HB⟩
 case round=>
  clear H0 HB;obtain⟨s1,acc,rfl,HI,hlt,hkq,HR,HB⟩:=hrel;by_cases h0:0<s1.size
  ·obtain⟨m,hm⟩:∃m,s1.size-4=m:=⟨_,rfl⟩
   obtain⟨g1,g2,g3,g4,g5⟩:=HI.out.step h0 m hm.symm;have HA:=fun W=>Lib.hid (Tryz.strconv_Atoi (s1.extract m s1.size) _ (by omega) (atoi_dv _ g2 g3) W)
   have HI2:=zc.mk g1;clear g1 g2 g3;go_wp2_with fail;rw[show max ((s1.size:Int)-4) 0=(m:Int) by omega,Int.toNat_natCast]
   refine(HA _).out.mono ?_;rintro e w1 ⟨rfl,tt,rfl⟩;obtain⟨w2,hw2⟩:∃w2,Lib.bytesWorld wr 5 tt=w2:=⟨_,rfl⟩;have hb2:Below wr.heap.size wr w2:=by rw[←hw2];exact Lib.bytesWorld_below _ _ _
   rw[hw2];clear hw2;have HR2:=zc.mk (Kd.R_below HR.out hb2);have HB2:=zc.mk (HB.out.trans (hb2.mono HB.out.size));have HN2:zc (acc.length≤250001):=⟨HI.out.2.2.2.2⟩;clear HR HB hb2 HI HA;generalize (dv (s1.extract m s1.size).data.toList:Int)=x at HI2 ⊢;go_wp2_with(at_builtin;refine Kd.R_append (Kd.int .i64) (w0:=w) w.heap.size rfl (.tmp 21) (.tmp 23) 167 3 (.int .i64 0) 8 rfl Tryz.underlying167 info3 rfl (by decide) (by omega) u3 acc x [.int .i64 x] (fun k=>w.heap.size≤k) (fun _=>False) rfl rfl rfl (fun _ hk=>hk.elim) ?aF ?aO ?aB ?aS ?aL ?_)
   case aF=>exact fun k hk=>Nat.le_trans HB2.out.size hk
   case aO=>exact HR2.out
   case aB=>exact HB2.out
   case aS=>exact HB2.out.size
   case aL=>have:=HN2.out;omega
   intro v4 w4 hv4 hb4 hg4 ho4;go_wp2_with fail;go_roundg (gk-1)
   case measure=>omega
   case rel=>exact⟨_,_,rfl,HI2,by rw[g5];omega,by omega,⟨hv4⟩,⟨hb4⟩⟩
  ·have hnil:s1.data.toList=[]:=List.length_eq_zero_iff.1 (by have:s1.data.toList.length=s1.size:=rfl;omega)
   have HNil:=zc.mk hnil;clear hnil;go_wp2_with fail;obtain⟨h1,h2,h3,h4,h5⟩:=HI.out;have hnil:=HNil.out;rw[hnil]at h2;simp only[dv_nil,Nat.zero_mul,Nat.zero_add]at h2;obtain⟨A,c,rfl⟩:=Kd.V_slice (Kd.R_V (base':=0) HR.out);have ht:=nat_limbs_trim.calls 300000 (fun k=>w.heap.size≤k) A c acc (zA acc) wr (Kd.R_V HR.out) (trim_law acc.length acc 300000 rfl (by omega) (by omega))
   have HT:=Lib.hid ht;have hL:=qD acc h3;rw[h2]at hL;have HL:=zc.mk hL;clear ht hL h1 h2 h3 h4 h5 HI hnil HR;refine HT.out.mono ?_;rintro e w1 ⟨v1,rfl,hv1,hb1⟩;go_wp2_with fail;go_ret;exact⟨_,_,rfl,Kd.V_mono hv1 (fun k hk=>hk.elim id (fun h=>Nat.le_trans HB.out.size h)),HL.out,HB.out.trans (hb1.mono HB.out.size)⟩
end Go.Proofs.YtjopepfemhckjaaGreatDoor.NW
end
section
namespace Go.Proofs.YtjopepfemhckjaaGreatDoor.NW
open Go.Proofs Go.RowKit Go.Shelf Go.Proofs.YtjopepfemhckjaaGreatDoor.PN Go.Proofs.YtjopepfemhckjaaGreatDoorW.PrintWords Go.Proofs.YtjopepfemhckjaaGreatDoor.PParseTells
attribute [local go_sem] Oper.semAt_some
def cmpZ (n m:Nat):Int:=if n<m then-1 else if n=m then 0 else 1
theorem compare_ne (A B:Option Addr)(c0 c1:Nat)(a b:Nat)(w:World)(h:a≠b)(ha:a≤1000000)(hb:b≤1000000):
 Calls Tryz.prog 208 #[.slice A a c0,.slice B b c1] w fun e w'=>e= .returned (.int .i64 (Lib.compareInt a b))∧Below w.heap.size w w':=by
 have HC:=fun W=>Lib.hid (Tryz.cmp_Compare_int (a:Int) (b:Int) W)
 have hne:¬((a:Int)=(b:Int)):=by omega
 generalize Lib.compareInt (a:Int) (b:Int)=r at*;go_enter Tryz.func208,Tryz.ntmps208
 go_wp2_with fail;refine(HC _).out.mono ?_;rintro e w1 ⟨rfl,rfl⟩;go_wp2_with fail;have bS:=Boxed.new (w.alloc (.cells #[.slice B b c1] 167)) 3 (.int .i64 r);refine bodyPost_ret (v:= .int .i64 r) ?_ rfl ⟨rfl,((Below.refl _ w).alloc (Nat.le_refl _) _).alloc (by simp) _⟩
 have hc:=bS.cell;rw[World.size_alloc]at hc;simp[results,Tryz.f208,go_sem,hc]
theorem compare_eq (A B:Option Addr)(c0 c1:Nat)(la lb:List Int)(w:World)(Hb:zc (lb.length=la.length))(hl:la.length≤1000000)(hA:Kd.C (Kd.int .i64) w A la.length la)(hB:Kd.C (Kd.int .i64) w B la.length lb):
 CallsIn Fence.wide 5 Tryz.prog 208 #[.slice A la.length c0,.slice B la.length c1] w fun e w'=>
  (((∀x:Fin la.length,rd la x.val=rd lb x.val)∧e= .returned (.int .i64 0))∨
   (∃x:Fin la.length,(∀y:Fin la.length,x.val<y.val→rd la y.val=rd lb y.val)∧rd la x.val≠rd lb x.val∧e= .returned (.int .i64 (Lib.compareInt (rd la x.val) (rd lb x.val)))))∧Below w.heap.size w w':=by
 have HA:=zc.mk hA;have HB:=zc.mk hB;clear hA hB;refine callsIn_of_wp_marks Tryz.func208 rfl trivial ?_;simp only[Tryz.ntmps208,List.size_toArray,List.length_cons,List.length_nil,Nat.reduceAdd,Nat.reduceSub,Array.replicate_succ,Array.replicate_zero,List.push_toArray,List.append_toArray,List.nil_append,List.cons_append];gi_wp2_with (refine⟨trivial,?_⟩;gi_at_call 214;refine(back_in Fence.wide 4 trivial rfl _ _ _ _).mono ?_;rintro e w' ⟨rfl,rfl⟩)
 have b1:=((Boxed.new w 167 (.slice B la.length c1)).alloc (.cells #[.int .i64 0] 3)).alloc (.cells #[.slice A la.length c0] 167);have b2:=(Boxed.new (w.alloc (.cells #[.slice B la.length c1] 167)) 3 (.int .i64 0)).alloc (.cells #[.slice A la.length c0] 167);have b3:=Boxed.new ((w.alloc (.cells #[.slice B la.length c1] 167)).alloc (.cells #[.int .i64 0] 3)) 167 (.slice A la.length c0);have hB0:Below w.heap.size w (((w.alloc (.cells #[.slice B la.length c1] 167)).alloc (.cells #[.int .i64 0] 3)).alloc (.cells #[.slice A la.length c0] 167)):=(((Below.refl _ w).alloc (Nat.le_refl _) _).alloc (by simp) _).alloc (by simp;omega) _
 simp only[World.size_alloc]at b1 b2 b3 ⊢;have hsz:(((w.alloc (.cells #[.slice B la.length c1] 167)).alloc (.cells #[.int .i64 0] 3)).alloc (.cells #[.slice A la.length c0] 167)).heap.size=w.heap.size+3:=by simp
 generalize ((w.alloc (.cells #[.slice B la.length c1] 167)).alloc (.cells #[.int .i64 0] 3)).alloc (.cells #[.slice A la.length c0] 167)=W0 at*;refine wpIn_rangeFunc_ownG rfl (by decide) (gf:=230) (lb:=#[.pointer (some ⟨w.heap.size+1+1,0,none⟩)]) rfl trivial (enters_of Tryz.func230 (by kernel_rfl) rfl)
  (back_stops Fence.wide 4 trivial rfl (by decide) (w.heap.size+1+1) A c0 la (by omega) w W0 HA.out hB0 (by omega) b3.cell) keepsB_t (keepsB_b (by omega) (by omega)) (Below.refl _ _) (fun _=>rfl)
  (fun pre W=>((∀p∈pre,rd la (p.val:Int)=rd lb (p.val:Int))∧W.cell? ⟨w.heap.size,0,none⟩=some (.slice B la.length c1)∧W.cell? ⟨w.heap.size+1,0,none⟩=some (.int .i64 0)∧W.frozen? ⟨w.heap.size+1,0,none⟩=false)∧Below w.heap.size w W)
  (fun c pre W=>(c= .ret∧∃ini last,pre=ini++[last]∧(∀p∈ini,rd la (p.val:Int)=rd lb (p.val:Int))∧rd la (last.val:Int)≠rd lb (last.val:Int)∧W.cell? ⟨w.heap.size+1,0,none⟩=some (.int .i64 (Lib.compareInt (rd la (last.val:Int)) (rd lb (last.val:Int)))))∧Below w.heap.size w W)
  (OwnFrom.and (Own.from (fun s A B row hs hg hr=>⟨hs.1,cell_kept hs.2.1 hg hr,cell_kept hs.2.2.1 hg hr,(frozen_kept hs.2.2.1 hg hr).trans hs.2.2.2⟩) _) (ownFrom_below (Nat.le_refl _) (by omega)))
  (fun c=>OwnFrom.and (Own.from (fun s A B row hs hg hr=>by obtain⟨hc,ini,last,e1,e2,e3,e4⟩:=hs;exact⟨hc,ini,last,e1,e2,e3,cell_kept e4 hg hr⟩) _) (ownFrom_below (Nat.le_refl _) (by omega)))
  ⟨⟨by simp,b1.cell,b2.cell,b2.frozen⟩,hB0⟩
  (fun x=>{tmps:=#[.slice A la.length c0,.slice B la.length c1,undef,.pointer (some ⟨w.heap.size,0,none⟩),.pointer (some ⟨w.heap.size+1,0,none⟩),.int .i64 (x.val:Int),.int .i64 (rd la (x.val:Int)),.slice A la.length c0,.int .i64 (la.length:Int),.slice B la.length c1,.int .i64 (la.length:Int),.bool false,undef,undef,undef,undef,undef,.slice A la.length c0,.func (.func 230) #[] #[.pointer (some ⟨w.heap.size+1+1,0,none⟩)],.int .i64 (x.val:Int),.int .i64 (rd la (x.val:Int)),undef,undef,undef,undef,undef,undef,undef,undef,undef,undef,undef,undef],defers:=[]}) ?assign ?body ?done ?stop
 case assign=>
  intro l x W K hK;dsimp only[encI];gi_wp2
  exact hK
 case body=>
  rintro l pre x W ⟨⟨hp,hc1,hc2,hf2⟩,hBw⟩ _;have hx:=x.isLt;obtain⟨ad,hBa,hcx⟩:=Kd.at_int HB.out (x.val:Int) (by omega) (by omega)
  have hcx:=zt hBw hcx;rw[Int.toNat_natCast]at hcx;subst hBa;by_cases he:rd la (x.val:Int)=rd lb (x.val:Int)
  ·gi_wp2
   exact⟨KeepsFrom.refl _ _,zW.refl _ _ _,⟨fun p hp'=>(List.mem_append.1 hp').elim (hp p) (fun e=>by simp at e;subst e;exact he),hc1,hc2,hf2⟩,hBw⟩
  ·gi_wp2
   refine⟨trivial,?_⟩;refine(CallsIn.inRound l (callsIn_wide.2 (Tryz.cmp_Compare_int _ _ _))).mono ?_;rintro e w' ⟨rfl,rfl⟩;gi_wp2
   exact⟨(KeepsOthers.setCell _ _ _).from _,⟨rfl,pre,x,rfl,hp,he,World.cell?_setCell_same' _ _ _ (by rw[hc2];rfl)⟩,hBw.setCell (p:=⟨w.heap.size+1,0,none⟩) (by simp) _⟩
 case done=>
  rintro D ys W hD rfl ⟨⟨hp,hc1,hc2,hf2⟩,hBw⟩ hK;gi_wp2
  have hK':=(KeepsOthers.setCell W ⟨w.heap.size+1,0,none⟩ (.int .i64 0)).same D _ hK rfl;refine⟨by simp,.inl ⟨_,_,rfl,run_takeDeferred hK',?_⟩⟩
  have hc5:=cell_kept (World.cell?_setCell_same' W ⟨w.heap.size+1,0,none⟩ (.int .i64 0) (by rw[hc2];rfl)) (grownBy_putObj' _ D (.deferred none)) (fun r e=>by cases e;exact⟨_,hK',rfl⟩)
  refine⟨.int .i64 0,?_,.inl ⟨fun x=>hp x ((mem_bk _ _ (Nat.le_refl _) x).2 (by omega)),rfl⟩,(hBw.setCell (p:=⟨w.heap.size+1,0,none⟩) (by simp) _).trans (belowK_b (w:=w) (Nat.le_refl _) _ D _ _ (by omega) hK' rfl rfl)⟩
  simp[results,Tryz.f208,go_sem,hc5]
 case stop=>
  rintro D c pre W hD ⟨k,hk,rfl⟩ ⟨⟨rfl,ini,last,e1,e2,e3,hcr⟩,hBw⟩ hK;gi_wp2
  refine⟨by simp,.inl ⟨_,_,rfl,run_takeDeferred hK,?_⟩⟩
  have hc5:=cell_kept hcr (grownBy_putObj' _ D (.deferred none)) (fun r e=>by cases e;exact⟨_,hK,rfl⟩)
  obtain⟨k',rfl,rfl,hl'⟩:=bk_last _ _ hk _ _ e1;refine⟨.int .i64 (Lib.compareInt (rd la (last.val:Int)) (rd lb (last.val:Int))),?_,.inr ⟨last,fun y hy=>e2 y ((mem_bk _ _ (by omega) y).2 (by omega)),e3,rfl⟩,hBw.trans (belowK_b (w:=w) (Nat.le_refl _) _ D _ _ (by omega) hK rfl rfl)⟩
  simp[results,Tryz.f208,go_sem,hc5]
theorem lv_diff (la lb:List Int)(hl:la.length=lb.length)(ha:wfL la)(hb:wfL lb)(x:Nat)(hx:x<la.length)(h:∀y,x<y→y<la.length→rd la (y:Int)=rd lb (y:Int))(hlt:rd la (x:Int)<rd lb (x:Int)):lv la<lv lb:=by
 induction la generalizing lb x with
 |nil=>simp at hx
 |cons u la ih=>
  cases lb with
  |nil=>simp at hl
  |cons v lb=>
   have hu:=ha u (by simp)
   have hv:=hb v (by simp)
   have ha':wfL la:=fun z hz=>ha z (by simp[hz])
   have hb':wfL lb:=fun z hz=>hb z (by simp[hz])
   have hl':la.length=lb.length:=by simpa using hl
   show u.toNat+10000*lv la<v.toNat+10000*lv lb
   have hrd:∀(z:Int) (l:List Int) (i:Nat),rd (z::l) ((i+1:Nat):Int)=rd l (i:Int):=by
    intro z l i;simp[rd]
   cases x with
   |zero=>
    have e:la=lb:=by
     apply List.ext_getElem hl';intro i h1 h2;have:=h (i+1) (by omega) (by simp;omega)
     rw[hrd,hrd]at this;simpa[rd,List.getD_eq_getElem?_getD,List.getElem?_eq_getElem h1,List.getElem?_eq_getElem h2]using this
    have h0:u<v:=by simpa[rd]using hlt
    rw[e];omega
   |succ x=>
    have:=ih lb hl' ha' hb' x (by simpa using hx) (fun y h1 h2=>by have:=h (y+1) (by omega) (by simp;omega);rwa [hrd,hrd]at this) (by rwa [hrd,hrd]at hlt)
    omega
theorem cmpI (a b:Int):Lib.compareInt a b=if a<b then-1 else if a=b then 0 else 1:=by
 unfold Lib.compareInt;repeat' split
 all_goals first|rfl|omega
theorem rd_ext (la lb:List Int)(hl:la.length=lb.length)(h:∀x:Fin la.length,rd la x.val=rd lb x.val):la=lb:=by
 apply List.ext_getElem hl;intro i h1 h2;have:=h ⟨i,h1⟩;simpa[rd,List.getD_eq_getElem?_getD,List.getElem?_eq_getElem h1,List.getElem?_eq_getElem h2]using this
theorem compare_at (A B:Option Addr)(c0 c1:Nat)(la lb:List Int)(n m:Nat)(w:World)(ha:isL la n)(hb:isL lb m)(h1:la.length≤1000000)(h2:lb.length≤1000000)(hA:Kd.C (Kd.int .i64) w A la.length la)(hB:Kd.C (Kd.int .i64) w B lb.length lb):
 Calls Tryz.prog 208 #[.slice A la.length c0,.slice B lb.length c1] w fun e w'=>e= .returned (.int .i64 (cmpZ n m))∧Below w.heap.size w w':=by
 by_cases hl:la.length=lb.length
 ·rw[←hl]at hB ⊢
  refine(callsIn_wide.1 (compare_eq A B c0 c1 la lb w ⟨hl.symm⟩ h1 hA hB)).mono ?_;rintro e w' ⟨⟨h,rfl⟩|⟨x,h,hne,rfl⟩,hb'⟩
  ·have e:=rd_ext la lb hl h
   subst e;have:n=m:=ha.val.symm.trans hb.val;subst this;refine⟨?_,hb'⟩;unfold cmpZ;rw[if_neg (by omega),if_pos rfl]
  ·refine⟨?_,hb'⟩
   congr 3
   rw[cmpI];unfold cmpZ;have hv1:=ha.val;have hv2:=hb.val;by_cases hlt:rd la x.val<rd lb x.val
   ·have:=lv_diff la lb hl ha.wf hb.wf x.val x.isLt (fun y h3 h4=>h ⟨y,h4⟩ h3) hlt
    rw[if_pos hlt,if_pos (by omega)]
   ·have:=lv_diff lb la hl.symm hb.wf ha.wf x.val (by have:=x.isLt;omega) (fun y h3 h4=>(h ⟨y,by omega⟩ h3).symm) (by omega)
    rw[if_neg hlt,if_neg hne,if_neg (by omega),if_neg (by omega)]
 ·refine(compare_ne A B c0 c1 la.length lb.length w hl h1 h2).mono ?_
  rintro e w' ⟨rfl,hb'⟩;refine⟨?_,hb'⟩;congr 3
  rw[cmpI];unfold cmpZ;rcases Nat.lt_or_gt_of_ne hl with c|c
  ·have:=ha.len_lt hb c
   rw[if_pos (by omega),if_pos (by omega)]
  ·have:=hb.len_lt ha c
   rw[if_neg (by omega),if_neg (by omega),if_neg (by omega),if_neg (by omega)]
attribute [local go_sem] Oper.semAt_some
def shS (la:List Int)(d:Int)(st:Int×List Int)(i:Fin la.length):Int×List Int:=
 ((st.1*10000+rd la (i.val:Int)).tmod d,st.2.set i.val ((st.1*10000+rd la (i.val:Int)).tdiv d))
def shF (la:List Int)(d:Int)(pre:List (Fin la.length)):Int×List Int:=pre.foldl (shS la d) (0,List.replicate la.length 0)
theorem shF_snoc (la:List Int)(d:Int)(pre:List (Fin la.length))(x:Fin la.length):shF la d (pre++[x])=shS la d (shF la d pre) x:=by simp[shF]
theorem drop_at (l:List Int)(i:Nat)(h:i<l.length):l.drop i=rd l (i:Int)::l.drop (i+1):=by
 rw[List.drop_eq_getElem_cons h];congr 1
 unfold rd;rw[Int.toNat_natCast,List.getD_eq_getElem?_getD,List.getElem?_eq_getElem h];rfl
theorem drop_set (l:List Int)(i:Nat)(x:Int)(h:i<l.length):(l.set i x).drop i=x::l.drop (i+1):=by
 rw[List.drop_eq_getElem_cons (by simp;omega)]
 congr 1
 ·simp
 ·rw[List.drop_set_of_lt (by omega)]
theorem sh_inv (la:List Int)(d:Nat)(hd:0<d)(hd2:d<10000)(hw:wfL la):∀k,k≤la.length→
 ∃(r:Nat) (out:List Int),shF la d (bk la.length k)=((r:Int),out)∧r=lv (la.drop (la.length-k))%d∧lv (out.drop (la.length-k))=lv (la.drop (la.length-k))/d∧wfL out∧out.length=la.length:=by
 intro k;induction k with
 |zero=>
  intro _;refine⟨0,List.replicate la.length 0,rfl,?_,?_,?_,by simp⟩
  ·simp[lv]
  ·rw[Nat.sub_zero,List.drop_eq_nil_of_le (Nat.le_refl _),List.drop_eq_nil_of_le (by simp)]
   simp[lv]
  ·intro x hx
   have:=List.eq_of_mem_replicate hx;omega
 |succ k ih=>
  intro hk;obtain⟨r,out,h1,h2,h3,h4,h5⟩:=ih (by omega)
  obtain⟨i,hi⟩:∃i,la.length-1-k=i:=⟨_,rfl⟩;have e1:la.length-k=i+1:=by omega
  have e2:la.length-(k+1)=i:=by omega
  have hil:i<la.length:=by omega
  obtain⟨x,hx⟩:∃x,rd la (i:Int)=x:=⟨_,rfl⟩;have hxm:x∈la:=by
   rw[←hx];unfold rd;rw[Int.toNat_natCast,List.getD_eq_getElem?_getD,List.getElem?_eq_getElem hil];exact List.getElem_mem hil
  have hxb:=hw x hxm;obtain⟨y,rfl⟩:∃y:Nat,x=(y:Int):=⟨x.toNat,by omega⟩
  have hd1:lv (la.drop i)=y+10000*lv (la.drop (i+1)):=by
   rw[drop_at la i hil,hx];show(y:Int).toNat+_=_
   rw[Int.toNat_natCast]
  rw[e1]at h2 h3;rw[bk_succ _ _ (by omega),shF_snoc,h1,e2]
  simp only[shS,hi,hx];obtain⟨T,hT⟩:∃T,lv (la.drop (i+1))=T:=⟨_,rfl⟩;rw[hT]at hd1 h2 h3;have hr:r<d:=by rw[h2];exact Nat.mod_lt _ hd
  have hc:(r:Int)*10000+(y:Int)=((r*10000+y:Nat):Int):=by omega
  have hT2:T=d*(T/d)+r:=by rw[h2];exact(Nat.div_add_mod T d).symm
  have hsum:y+10000*T=(r*10000+y)+d*(10000*(T/d)):=by
   generalize T/d=u at*;subst hT2;grind
  have hq:(r*10000+y)/d<10000:=by
   rw[Nat.div_lt_iff_lt_mul hd];have:(r+1)*10000≤d*10000:=Nat.mul_le_mul_right _ hr;omega
  rw[hc];refine⟨(r*10000+y)%d,out.set i (((r*10000+y)/d:Nat):Int),?_,?_,?_,?_,by simp[h5]⟩
  ·rw[←Int.ofNat_tmod,←Int.ofNat_tdiv]
  ·rw[hd1,hsum,Nat.add_mul_mod_self_left]
  ·rw[drop_set _ _ _ (by omega),hd1,hsum,Nat.add_mul_div_left _ _ hd]
   show(((r*10000+y)/d:Nat):Int).toNat+10000*lv (out.drop (i+1))=_
   rw[h3,Int.toNat_natCast]
  ·intro z hz
   rcases List.mem_or_eq_of_mem_set hz with h|h
   ·exact h4 z h
   ·rw[h]
    exact⟨Int.natCast_nonneg _,Int.ofNat_lt.2 hq⟩
theorem sh_end (la:List Int)(d:Nat)(hd:0<d)(hd2:d<10000)(hw:wfL la):
 ∃out:List Int,shF la d (bk la.length la.length)=(((lv la%d:Nat):Int),out)∧isL (zA out) (lv la/d)∧out.length=la.length:=by
 obtain⟨r,out,h1,h2,h3,h4,h5⟩:=sh_inv la d hd hd2 hw la.length (Nat.le_refl _);rw[Nat.sub_self,List.drop_zero]at h2 h3;rw[List.drop_zero]at h3;refine⟨out,by rw[h1,h2],?_,h5⟩
 rw[←h3];exact qD out h4
theorem ji (l:List Int):zA l=l.take (zA l).length:=by
 induction hn:l.length generalizing l with
 |zero=>
  obtain rfl:=List.length_eq_zero_iff.1 hn;rfl
 |succ n ih=>
  rcases List.eq_nil_or_concat l with rfl|⟨a,x,rfl⟩
  ·rfl
  ·rw[List.concat_eq_append]at*
   by_cases hx:x=0
   ·subst hx
    have h:=ih a (by simpa using hn)
    rw[qp,List.take_append_of_le_length (zO a).2.2.2];exact h
   ·rw[qC a x hx,List.take_length]
theorem V_trim {W:World}{base n c:Nat}{ok:Nat→Prop}{A:Option Addr}{xs:List Int}(h:Kd.V (Kd.int .i64) 3 W base ok (.slice A n c) xs):Kd.V (Kd.int .i64) 3 W base ok (.slice A (zA xs).length c) (zA xs):=by
 obtain⟨h1,h2,h3⟩:=Kd.V_at h;have hle:=(zO xs).2.2.2;refine⟨A,c,rfl,by omega,fun W' hW=>?_⟩
 have h4:=C_take (h3 W' hW) (zA xs).length hle;rw[←ji]at h4;exact h4
theorem V_one {W:World}{b base:Nat}{ok:Nat→Prop}{x:Int}(h:W.heap[b]? =some (.cells #[.int .i64 x] 3 (0,0)))(hok:ok b):Kd.V (Kd.int .i64) 3 W base ok (.slice (some ⟨b,0,none⟩) 1 1) [x]:=by
 refine⟨_,_,rfl,Nat.le_refl _,fun W' hW=>⟨rfl,by simp,fun _=>⟨_,rfl,fun j p hj=>?_⟩⟩⟩
 have h':=(hW b hok (Array.getElem?_eq_some_iff.1 h).1).trans h;cases j with
 |zero=>
  simp at hj;subst hj;refine⟨[.int .i64 x],rfl,rfl,fun i u hu=>?_⟩
  cases i with
  |zero=>
   simp at hu;subst hu;rw[add_plain];simp[World.cell?,h']
  |succ i=>simp at hu
 |succ j=>simp at hj
theorem C_one (W:World)(x:Int):Kd.C (Kd.int .i64) (W.alloc (.cells #[.int .i64 x] 3)) (some ⟨W.heap.size,0,none⟩) [x].length [x]:=by
 refine⟨rfl,by simp,fun _=>⟨_,rfl,fun j p hj=>?_⟩⟩
 cases j with
 |zero=>
  simp at hj;subst hj;refine⟨[.int .i64 x],rfl,rfl,fun i u hu=>?_⟩
  cases i with
  |zero=>
   simp at hu;subst hu;have:=(Boxed.new W 3 (.int .i64 x)).cell;rw[add_plain];exact this
  |succ i=>simp at hu
 |succ j=>simp at hj
theorem trim_atN (A:Option Addr)(c n:Nat)(l:List Int)(w:World)(hn:l.length=n)(hC:Kd.C (Kd.int .i64) w A n l)(hl:n≤1000000)(hlc:n≤c):
 Calls Tryz.prog 213 #[.slice A n c] w fun e w'=>e= .returned (.slice A (zA l).length c)∧w'=w:=by
 subst hn;exact trim_at A c l w hC hl hlc
theorem trim_one (b:Nat)(x:Int)(W:World)(h:Kd.C (Kd.int .i64) W (some ⟨b,0,none⟩) 1 [x]):
 Calls Tryz.prog 213 #[.slice (some ⟨b,0,none⟩) 1 1] W fun e w'=>e= .returned (.slice (some ⟨b,0,none⟩) (zA [x]).length 1)∧w'=W:=
 trim_at (some ⟨b,0,none⟩) 1 [x] W h (by simp) (by simp)
theorem RI1.drew {W:World}{base g:Nat}{v:Value}{xs:List Int}(h:RI1 W base g v xs):RI1 W.drew base g v xs:=Kd.R_drew h
theorem keepsB_set {n₀ Bs:Nat}(W:World)(p:Addr)(u:Value)(h1:n₀≤p.block)(h2:Bs≠p.block):zW n₀ Bs W (W.setCell p u):=fun q v hq hc=>
 (World.cell?_setCell_far W p q u (by rcases hq with h|h<;>omega)).trans hc
theorem keepsB_drew {n₀ Bs:Nat}(W:World):zW n₀ Bs W W.drew:=fun _ _ _ h=>h
theorem short_walk (A:Option Addr)(c0:Nat)(la:List Int)(d:Nat)(hd:0<d)(hd2:d<10000)(w:World)(hl:la.length≤1000000)(hw:wfL la)(hA:Kd.C (Kd.int .i64) w A la.length la):
 CallsIn Fence.wide 5 Tryz.prog 209 #[.slice A la.length c0,.int .i64 (d:Int)] w fun e w'=>
  ∃v1 v2 l1 l2,e= .returned (.tuple #[v1,v2])∧Kd.V (Kd.int .i64) 3 w' w.heap.size (fun k=>w.heap.size≤k) v1 l1∧Kd.V (Kd.int .i64) 3 w' w.heap.size (fun k=>w.heap.size≤k) v2 l2∧isL l1 (lv la/d)∧isL l2 (lv la%d)∧Below w.heap.size w w':=by
 have HA:=zc.mk hA;have HW:=zc.mk hw;clear hA hw;refine callsIn_of_wp_marks Tryz.func209 rfl trivial ?_;refine wpIn_wide.2 ?_;simp only[Tryz.ntmps209,List.size_toArray,List.length_cons,List.length_nil,Nat.reduceAdd,Nat.reduceSub,Array.replicate_succ,Array.replicate_zero,List.push_toArray,List.append_toArray,List.nil_append,List.cons_append];have bD0:=Boxed.new w 3 (.int .i64 (d:Int));go_wp2_with((with_reducible refine gate_dst (N:=12) rfl ?_);refine Kd.R_make (Kd.int .i64) (w0:=w.alloc (.cells #[.int .i64 (d:Int)] 3)) (w.heap.size+1) 3 rfl (N:=12) rfl 167 _ _ rfl (la.length:Int) rfl rfl Tryz.underlying167 (.int .i64 0) 8 info3 rfl (by decide) (by omega) 0 (ok:=fun _=>True) (okp:=fun _=>True) rfl (fun _ hk=>hk) trivial (by omega) (by omega) (Below.refl _ _) (by simp) ?_;intro vo wo ho hbo hgo hnew;obtain⟨g,hg1,hg2⟩:=hnew;have r1:=RI1.of ho hg1;obtain⟨cap,rfl,hcap⟩:=r1.form hg1;clear hg1 ho;have HR1:=zc.mk r1;have HGo:=zc.mk hgo;clear r1 hgo)
 go_wp2_with(refine(callsIn_wide.1 (back_in Fence.wide 4 trivial rfl _ _ _ _)).mono ?_;rintro e w' ⟨rfl,rfl⟩)
 have hszW:wo.heap.size≥w.heap.size+1:=by have:=hbo.size;simpa using this
 have hgl:g<wo.heap.size:=by
  obtain⟨inner,ho,hr⟩:=HR1.out.2;rcases ho.2 with⟨hv,_⟩|⟨g',cap',cur,hv,_,hh,_⟩
  ·cases hv
  ·injection hv with h1
   injection h1 with h1;injection h1 with h1;subst h1;exact(Array.getElem?_eq_some_iff.1 hh).1
 have hgw:w.heap.size+1≤g:=by simpa using hg2
 have hBo:Below w.heap.size w wo:=((Below.refl _ w).alloc (Nat.le_refl _) _).trans (hbo.mono (by omega))
 have hdo:wo.cell? ⟨w.heap.size,0,none⟩=some (.int .i64 (d:Int)):=(hbo.cell (p:=⟨w.heap.size,0,none⟩) (by simp)).trans bD0.cell
 have b1:=((Boxed.new wo 167 (.slice (some ⟨g,0,none⟩) la.length cap)).alloc (.cells #[.int .i64 0] 3)).alloc (.cells #[.slice A la.length c0] 167);have b2:=(Boxed.new (wo.alloc (.cells #[.slice (some ⟨g,0,none⟩) la.length cap] 167)) 3 (.int .i64 0)).alloc (.cells #[.slice A la.length c0] 167);have b3:=Boxed.new ((wo.alloc (.cells #[.slice (some ⟨g,0,none⟩) la.length cap] 167)).alloc (.cells #[.int .i64 0] 3)) 167 (.slice A la.length c0);have hB1:Below wo.heap.size wo (((wo.alloc (.cells #[.slice (some ⟨g,0,none⟩) la.length cap] 167)).alloc (.cells #[.int .i64 0] 3)).alloc (.cells #[.slice A la.length c0] 167)):=(((Below.refl _ wo).alloc (Nat.le_refl _) _).alloc (by simp) _).alloc (by simp;omega) _
 simp only[World.size_alloc]at b1 b2 b3;have hsz:(((wo.alloc (.cells #[.slice (some ⟨g,0,none⟩) la.length cap] 167)).alloc (.cells #[.int .i64 0] 3)).alloc (.cells #[.slice A la.length c0] 167)).heap.size=wo.heap.size+3:=by simp
 generalize ((wo.alloc (.cells #[.slice (some ⟨g,0,none⟩) la.length cap] 167)).alloc (.cells #[.int .i64 0] 3)).alloc (.cells #[.slice A la.length c0] 167)=W0 at*;have hB0:Below w.heap.size w W0:=hBo.trans (hB1.mono (by omega))
 have hR0:RI1 W0 (w.heap.size+1) g (.slice (some ⟨g,0,none⟩) la.length cap) (List.replicate la.length 0):=by
  have h:=HR1.out.below hB1;rw[Int.toNat_natCast,List.length_replicate]at h;exact h
 clear HR1 HGo hbo bD0 hcap;have hdn:¬((d:Int)=0):=by omega
 refine(wpIn_wide (n:=5)).1 ?_;refine wpIn_rangeFunc_ownG rfl (by decide) (gf:=230) (lb:=#[.pointer (some ⟨wo.heap.size+1+1,0,none⟩)]) rfl trivial (enters_of Tryz.func230 (by kernel_rfl) rfl)
  (back_stops Fence.wide 4 trivial rfl (by decide) (wo.heap.size+1+1) A c0 la (by omega) w W0 HA.out hB0 (by omega) b3.cell) keepsB_t (keepsB_b (by omega) (by omega)) (Below.refl _ _) (fun _=>rfl)
  (fun pre W=>(W.cell? ⟨w.heap.size,0,none⟩=some (.int .i64 (d:Int))∧RI1 W (w.heap.size+1) g (.slice (some ⟨g,0,none⟩) la.length cap) (shF la d pre).2∧W.cell? ⟨wo.heap.size,0,none⟩=some (.slice (some ⟨g,0,none⟩) la.length cap)∧W.cell? ⟨wo.heap.size+1,0,none⟩=some (.int .i64 (shF la d pre).1)∧W.frozen? ⟨wo.heap.size+1,0,none⟩=false∧0≤(shF la d pre).1∧(shF la d pre).1<(d:Int))∧Below w.heap.size w W)
  (fun _ _ _=>False)
  (OwnFrom.and (Own.from (fun s A B row hs hg hr=>⟨cell_kept hs.1 hg hr,hs.2.1.grown hg hr,cell_kept hs.2.2.1 hg hr,cell_kept hs.2.2.2.1 hg hr,(frozen_kept hs.2.2.2.1 hg hr).trans hs.2.2.2.2.1,hs.2.2.2.2.2⟩) _) (ownFrom_below (Nat.le_refl _) (by omega)))
  (fun _ _ _ _ _ hs _ _=>hs)
  ⟨⟨(hB1.cell (p:=⟨w.heap.size,0,none⟩) (by simp;omega)).trans hdo,hR0,b1.cell,b2.cell,b2.frozen,Int.le_refl _,by show(0:Int)<d;omega⟩,hB0⟩
  (fun x=>{tmps:=#[.slice A la.length c0,.int .i64 (d:Int),undef,.pointer (some ⟨w.heap.size,0,none⟩),.slice none 0 0,.slice none 0 0,.pointer (some ⟨wo.heap.size,0,none⟩),.pointer (some ⟨wo.heap.size+1,0,none⟩),.int .i64 (x.val:Int),.int .i64 (rd la (x.val:Int)),.slice A la.length c0,.int .i64 (la.length:Int),.slice (some ⟨g,0,none⟩) la.length cap,.slice A la.length c0,.func (.func 230) #[] #[.pointer (some ⟨wo.heap.size+1+1,0,none⟩)],.int .i64 (x.val:Int),.int .i64 (rd la (x.val:Int)),undef,undef,undef,undef,undef,undef,undef,undef,undef,undef,undef,undef,undef,undef,undef,undef,undef,undef],defers:=[]}) ?assign ?body ?done ?stop
 case assign=>
  intro l x W K hK;dsimp only[encI];gi_wp2
  exact hK
 case body=>
  rintro l pre x W ⟨⟨h1,h2,h3,h4,h5,h6,h7⟩,hB⟩ _;have hsn:=shF_snoc la (d:Int) pre x;simp only[shS]at hsn;generalize shF la (d:Int) pre=st at hsn h2 h4 h6 h7;obtain⟨r,out⟩:=st;simp only[]at hsn h2 h4 h6 h7;have hy:0≤rd la (x.val:Int)∧rd la (x.val:Int)<10000:=by
   refine HW.out _ ?_;unfold rd;rw[Int.toNat_natCast,List.getD_eq_getElem?_getD,List.getElem?_eq_getElem x.isLt];exact List.getElem_mem x.isLt
  generalize rd la (x.val:Int)=y at*;have hxl:=x.isLt;generalize x.val=i at*;have e1:IntKind.i64.wrap (r*10000)=r*10000:=by simp[IntKind.wrap_i64];omega
  have e2:IntKind.i64.wrap (r*10000+y)=r*10000+y:=by simp[IntKind.wrap_i64];omega
  have hne:¬(wo.heap.size+1=g):=by omega
  gi_wp2
  have g1:(W.setCell ⟨wo.heap.size+1,0,none⟩ (.int .i64 (r*10000+y))).cell? ⟨wo.heap.size+1,0,none⟩=some (.int .i64 (r*10000+y)):=World.cell?_setCell_same' _ _ _ (by rw[h4];rfl)
  have g2:=h2.far (p:=⟨wo.heap.size+1,0,none⟩) (by simp only;omega) (.int .i64 (r*10000+y))
  have g3:(W.setCell ⟨wo.heap.size+1,0,none⟩ (.int .i64 (r*10000+y))).cell? ⟨wo.heap.size,0,none⟩=some (.slice (some ⟨g,0,none⟩) la.length cap):=by rw[←h3];exact World.cell?_setCell_far _ _ _ _ (by simp only;omega)
  have g4:(W.setCell ⟨wo.heap.size+1,0,none⟩ (.int .i64 (r*10000+y))).cell? ⟨w.heap.size,0,none⟩=some (.int .i64 (d:Int)):=by rw[←h1];exact World.cell?_setCell_far _ _ _ _ (by simp only;omega)
  have g5:(W.setCell ⟨wo.heap.size+1,0,none⟩ (.int .i64 (r*10000+y))).frozen? ⟨wo.heap.size+1,0,none⟩=false:=by rw[World.frozen?_setCell];exact h5
  have g6:=hB.setCell (p:=⟨wo.heap.size+1,0,none⟩) (by simp only;omega) (.int .i64 (r*10000+y))
  have k1:=KeepsOthers.setCell W ⟨wo.heap.size+1,0,none⟩ (.int .i64 (r*10000+y));have k2:zW w.heap.size (wo.heap.size+1+1) W (W.setCell ⟨wo.heap.size+1,0,none⟩ (.int .i64 (r*10000+y))):=keepsB_set _ _ _ (by simp only;omega) (by simp only;omega)
  generalize W.setCell ⟨wo.heap.size+1,0,none⟩ (.int .i64 (r*10000+y))=W1 at*;have g7:=g2.cell i hxl;have g8:=g2.frozen i;obtain⟨q,hq⟩:∃q,(r*10000+y)/(d:Int)=q:=⟨_,rfl⟩;obtain⟨s,hs⟩:∃s,(r*10000+y)%(d:Int)=s:=⟨_,rfl⟩;have s0:0≤s:=by rw[←hs];exact Int.emod_nonneg _ hdn
  have s1:s<(d:Int):=by rw[←hs];exact Int.emod_lt_of_pos _ (by omega)
  rw[Int.tmod_eq_emod_of_nonneg (by omega),Int.tdiv_eq_ediv_of_nonneg (by omega),hq,hs]at hsn
  have i1:(W1.setCell ⟨g,i,none⟩ (.int .i64 q)).cell? ⟨wo.heap.size+1,0,none⟩=some (.int .i64 (r*10000+y)):=by rw[←g1];exact World.cell?_setCell_far _ _ _ _ (by simp only;omega)
  have i2:=g2.put i hxl q;have i3:(W1.setCell ⟨g,i,none⟩ (.int .i64 q)).cell? ⟨wo.heap.size,0,none⟩=some (.slice (some ⟨g,0,none⟩) la.length cap):=by rw[←g3];exact World.cell?_setCell_far _ _ _ _ (by simp only;omega)
  have i4:(W1.setCell ⟨g,i,none⟩ (.int .i64 q)).cell? ⟨w.heap.size,0,none⟩=some (.int .i64 (d:Int)):=by rw[←g4];exact World.cell?_setCell_far _ _ _ _ (by simp only;omega)
  have i5:(W1.setCell ⟨g,i,none⟩ (.int .i64 q)).frozen? ⟨wo.heap.size+1,0,none⟩=false:=by rw[World.frozen?_setCell];exact g5
  have i6:=g6.setCell (p:=⟨g,i,none⟩) (by simp only;omega) (.int .i64 q)
  have k3:=k1.trans (KeepsOthers.setCell W1 ⟨g,i,none⟩ (.int .i64 q));have k4:=k2.trans (keepsB_set (n₀:=w.heap.size) (Bs:=wo.heap.size+1+1) W1 ⟨g,i,none⟩ (.int .i64 q) (by simp only;omega) (by simp only;omega))
  have j2:=(i2.drew).far (p:=⟨wo.heap.size+1,0,none⟩) (by simp only;omega) (.int .i64 s)
  have fin:KeepsFrom W0.heap.size W (((W1.setCell ⟨g,i,none⟩ (.int .i64 q)).drew).setCell ⟨wo.heap.size+1,0,none⟩ (.int .i64 s))∧zW w.heap.size (wo.heap.size+1+1) W (((W1.setCell ⟨g,i,none⟩ (.int .i64 q)).drew).setCell ⟨wo.heap.size+1,0,none⟩ (.int .i64 s))∧
   ((((W1.setCell ⟨g,i,none⟩ (.int .i64 q)).drew).setCell ⟨wo.heap.size+1,0,none⟩ (.int .i64 s)).cell? ⟨w.heap.size,0,none⟩=some (.int .i64 (d:Int))∧RI1 (((W1.setCell ⟨g,i,none⟩ (.int .i64 q)).drew).setCell ⟨wo.heap.size+1,0,none⟩ (.int .i64 s)) (w.heap.size+1) g (.slice (some ⟨g,0,none⟩) la.length cap) (shF la d (pre++[x])).2∧(((W1.setCell ⟨g,i,none⟩ (.int .i64 q)).drew).setCell ⟨wo.heap.size+1,0,none⟩ (.int .i64 s)).cell? ⟨wo.heap.size,0,none⟩=some (.slice (some ⟨g,0,none⟩) la.length cap)∧(((W1.setCell ⟨g,i,none⟩ (.int .i64 q)).drew).setCell ⟨wo.heap.size+1,0,none⟩ (.int .i64 s)).cell? ⟨wo.heap.size+1,0,none⟩=some (.int .i64 (shF la d (pre++[x])).1)∧(((W1.setCell ⟨g,i,none⟩ (.int .i64 q)).drew).setCell ⟨wo.heap.size+1,0,none⟩ (.int .i64 s)).frozen? ⟨wo.heap.size+1,0,none⟩=false∧0≤(shF la d (pre++[x])).1∧(shF la d (pre++[x])).1<(d:Int))∧Below w.heap.size w (((W1.setCell ⟨g,i,none⟩ (.int .i64 q)).drew).setCell ⟨wo.heap.size+1,0,none⟩ (.int .i64 s)):=by
   rw[hsn];refine⟨((k3.trans (KeepsOthers.drew _)).trans (KeepsOthers.setCell _ _ _)).from _,(k4.trans (keepsB_drew _)).trans (keepsB_set _ _ _ (by simp only;omega) (by simp only;omega)),⟨?_,j2,?_,?_,?_,s0,s1⟩,(i6.drew).setCell (by simp only;omega) _⟩
   ·exact(World.cell?_setCell_far _ _ _ _ (by simp only;omega)).trans i4
   ·exact(World.cell?_setCell_far _ _ _ _ (by simp only;omega)).trans i3
   ·exact World.cell?_setCell_same' _ _ _ (by show((W1.setCell ⟨g,i,none⟩ (.int .i64 q)).cell? _).isSome=true;rw[i1];rfl)
   ·rw[World.frozen?_setCell];exact i5
  have FIN:=zc.mk fin;clear fin hsn i2 j2 k1 k2 k3 k4 g2 g6 i6 h2 hB;gi_region
  all_goals gi_wp2
  all_goals exact FIN.out
 case done=>
  rintro D ys W hD rfl ⟨⟨h1,h2,h3,h4,h5,h6,h7⟩,hB⟩ hK;obtain⟨out,he,hout,hlen⟩:=sh_end la d hd hd2 HW.out;rw[he]at h2 h4 h6 h7;simp only[]at h2 h4 h6 h7;have hr:lv la%d<d:=Nat.mod_lt _ hd;have hlo:out.length≤cap:=by have:=h2.len;omega
  have hCo:Kd.C (Kd.int .i64) W (some ⟨g,0,none⟩) la.length out:=h2.C;obtain⟨m,hm⟩:∃m:Nat,lv la%d=m:=⟨_,rfl⟩;rw[hm]at hr h4 h6 h7;have HL:=zc.mk hout;have HCo:=zc.mk hCo;have HR2:=zc.mk h2;have HBW:=zc.mk hB;clear hout h2 hCo b1 b2 b3 hB0 hB1 hBo hB;have HT1:=fun W' h=>trim_atN (some ⟨g,0,none⟩) cap la.length out W' hlen h hl (by omega)
  have HT2:=fun(b:Nat) W' h=>trim_one b (m:Int) W' h
  go_wp2;have hSB:∀w':World,Below W.heap.size W w'→w'.cell? ⟨wo.heap.size,0,none⟩=some (.slice (some ⟨g,0,none⟩) la.length cap)∧w'.cell? ⟨wo.heap.size+1,0,none⟩=some (.int .i64 (m:Int)):=fun w' hb=>⟨zt hb h3,zt hb h4⟩
  go_region_held3 (fun w':World=>w'.cell? ⟨wo.heap.size,0,none⟩=some (.slice (some ⟨g,0,none⟩) la.length cap)∧w'.cell? ⟨wo.heap.size+1,0,none⟩=some (.int .i64 (m:Int))) (exact hSB _ (by repeat(first|exact Below.refl _ _|apply zk|apply ze|apply zm))) (first|(go_at_call 213;with_reducible refine(HT1 _ ?_).mono ?_;(exact Kd.C_below HCo.out (by repeat(first|exact Below.refl _ _|apply zk|apply ze|apply zm)));rintro e w' ⟨rfl,rfl⟩)|(go_at_call 213;with_reducible refine(HT2 _ _ ?_).mono ?_;(first|exact C_one _ _|exact Kd.C_below (C_one _ _) (by repeat(first|exact Below.refl _ _|apply ze|apply zm)));rintro e w' ⟨rfl,rfl⟩))
  all_goals go_wp2
  all_goals
   have hK':((W.alloc (.cells #[.int .i64 (m:Int)] 3)).drew).heap[D]? =some (.deferred (some [])):=(Below.heap_alloc W _ D (Array.getElem?_eq_some_iff.1 hK).1).trans hK;have hD2:D<W.heap.size:=(Array.getElem?_eq_some_iff.1 hK).1;refine⟨by simp,.inl ⟨_,_,rfl,run_takeDeferred hK',?_⟩⟩
   have hbe:Below W.heap.size W ((W.alloc (.cells #[.int .i64 (m:Int)] 3)).drew):=((Below.refl _ W).alloc (Nat.le_refl _) _).drew;have hgr:=grownBy_putObj' ((W.alloc (.cells #[.int .i64 (m:Int)] 3)).drew) D (.deferred none);have q1:=((HR2.out.below hbe)).grown hgr (fun r e=>by cases e;exact⟨_,hK',rfl⟩)
   have q2:(((W.alloc (.cells #[.int .i64 (m:Int)] 3)).drew).putObj D (.deferred none)).heap[W.heap.size]? =some (.cells #[.int .i64 (m:Int)] 3 (0,0)):=(hgr.block W.heap.size (by simp) (by simp;omega)).trans (World.alloc_heap_new W _)
   have q3:=V_trim (q1.V (by omega) w.heap.size (by omega))
   have q4:=V_trim (V_one (ok:=fun k=>w.heap.size≤k) (base:=w.heap.size) q2 (by have:=HBW.out.size;omega))
   have hm1:isL (zA [(m:Int)]) m:=by
    have h:=qD [(m:Int)] (fun z hz=>by simp at hz;omega)
    rw[lv_one,Int.toNat_natCast]at h;exact h
   refine⟨.tuple #[.slice (some ⟨g,0,none⟩) (zA out).length cap,.slice (some ⟨W.heap.size,0,none⟩) (zA [(m:Int)]).length 1],?_,_,_,zA out,zA [(m:Int)],rfl,q3,q4,HL.out,by rw[hm];exact hm1,(HBW.out.trans (hbe.mono HBW.out.size)).grown hgr (by simp;have:=HBW.out.size;omega) (fun k e=>by cases e;omega)⟩
   simp[results,Tryz.f209,go_sem]
 case stop=>
  rintro D c pre W _ _ h _;exact h.elim
end Go.Proofs.YtjopepfemhckjaaGreatDoor.NW
end
