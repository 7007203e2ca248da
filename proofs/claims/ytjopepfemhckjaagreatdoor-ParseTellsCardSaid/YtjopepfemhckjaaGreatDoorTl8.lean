/-
  Part 8 of the proof of parseTells_holds: texts of this seat, put together.
-/
import Derived.Deep.RegionHeld3
import Derived.Test.YtjopepfemhckjaaGreatDoorTl6
import Derived.Test.YtjopepfemhckjaaGreatDoorTl7
set_option linter.unusedVariables false
set_option linter.unusedSimpArgs false
set_option maxHeartbeats 16000000
set_option maxRecDepth 100000
namespace Go.Proofs
open Go Go.Proofs Go.RowKit
theorem j6:type_of% @Lib.cell_of_heap:=@Lib.cell_of_heap
theorem j7:type_of% @World.alloc_heap_new:=@World.alloc_heap_new
theorem j8:type_of% @ByteArray.size_append:=@ByteArray.size_append
theorem j9:type_of% @IntKind.wrap_i64:=@IntKind.wrap_i64
theorem xa:type_of% @Int.toNat_natCast:=@Int.toNat_natCast
theorem xb:type_of% @Below.refl:=@Below.refl
theorem xc:type_of% @Nat.le_refl:=@Nat.le_refl
theorem xe {α : Type}{xs : Array α}{i : Nat}{b : α}(h : xs[i]?=some b) : ∃h : i<xs.size,xs[i]=b:=Array.getElem?_eq_some_iff.1 h
abbrev xf:=ByteArray
end Go.Proofs
section
namespace Go.Proofs.YtjopepfemhckjaaGreatDoor.NW
open Go.Proofs Go.RowKit Go.Shelf Go.Proofs.YtjopepfemhckjaaGreatDoor.PN Go.Proofs.YtjopepfemhckjaaGreatDoorW.PrintWords Go.Proofs.YtjopepfemhckjaaGreatDoor.PParseTells
def Fits (n:Nat):Prop:=∃k,k≤1000000∧n<10000^k
theorem Fits.mono {n m:Nat}(h:Fits n)(hm:m≤n):Fits m:=by
 obtain⟨k,h1,h2⟩:=h;exact⟨k,h1,Nat.lt_of_le_of_lt hm h2⟩
structure LS (W:World) (v:Value) (n:Nat):Prop where
 ex:∃A c l,v= .slice A l.length c∧l.length≤c∧l.length≤1000000∧isL l n∧Kd.C (Kd.int .i64) W A l.length l
theorem LS.below {W W':World}{v:Value}{n:Nat}(h:LS W v n)(hb:Below W.heap.size W W'):LS W' v n:=by
 obtain⟨A,c,l,h1,h2,h3,h4,h5⟩:=h.ex;exact⟨A,c,l,h1,h2,h3,h4,Kd.C_below h5 hb⟩
theorem LS.of_V {W:World}{v:Value}{l:List Int}{n base:Nat}{ok:Nat→Prop}(h:Kd.V (Kd.int .i64) 3 W base ok v l)(hl:isL l n)(hn:Fits n):LS W v n:=by
 obtain⟨A,c,rfl,hc,hF⟩:=h;obtain⟨k,h1,h2⟩:=hn;have:=hl.len k h2;exact⟨A,c,l,rfl,hc,by omega,hl,Kd.F_now hF⟩
def zX (M:Nat):Prop:=∀(n m:Nat) (a b:Value) (w:World),LS w a n→LS w b m→0<m→m<M→Fits n→
 Calls Tryz.prog 183 #[a,b] w fun e w'=>∃q r,e= .returned (.tuple #[q,r])∧LS w' q (n/m)∧LS w' r (n%m)∧Below w.heap.size w w'
theorem LS.nil (W:World):LS W (.slice none 0 0) 0:=⟨none,0,[],rfl,xc _,by simp,isL.nil,⟨rfl,by simp,fun h=>by simp at h⟩⟩
theorem div_lt (n m:Nat)(a b:Value)(w:World)(ha:LS w a n)(hb:LS w b m)(h:n<m):
 Calls Tryz.prog 183 #[a,b] w fun e w'=>∃q r,e= .returned (.tuple #[q,r])∧LS w' q (n/m)∧LS w' r (n%m)∧Below w.heap.size w w':=by
 have HA:=zc.mk ha;obtain⟨A,c0,la,rfl,ha1,ha2,ha3,ha4⟩:=ha.ex;obtain⟨B,c1,lb,rfl,hb1,hb2,hb3,hb4⟩:=hb.ex;have HC:=compare_at A B c0 c1 la lb n m w ha3 hb3 ha2 hb2 ha4 hb4;have hz:cmpZ n m= -1:=by unfold cmpZ;rw[if_pos h]
 rw[hz]at HC;rw[Nat.div_eq_of_lt h,Nat.mod_eq_of_lt h];have HC':=Lib.hid HC;clear HC ha hb ha3 hb3 ha4 hb4 hz h;go_enter Tryz.func183,Tryz.ntmps183
 go_wp2_with fail;refine HC'.out.mono ?_;rintro e w1 ⟨rfl,hb1⟩;go_wp2_with fail;refine bodyPost_ret (results_tmp2 rfl _ _ _) rfl ?_;exact⟨_,_,rfl,LS.nil _,HA.out.below hb1,hb1⟩
theorem div_one (n m:Nat)(a b:Value)(w:World)(ha:LS w a n)(hb:LS w b m)(h0:0<m)(h:m<10000)(hnm:m≤n)(hn:Fits n):
 Calls Tryz.prog 183 #[a,b] w fun e w'=>∃q r,e= .returned (.tuple #[q,r])∧LS w' q (n/m)∧LS w' r (n%m)∧Below w.heap.size w w':=by
 obtain⟨A,c0,la,rfl,ha1,ha2,ha3,ha4⟩:=ha.ex;obtain⟨B,c1,lb,rfl,hb1,hb2,hb3,hb4⟩:=hb.ex;obtain⟨z,hz,hz2⟩:∃z:Int,cmpZ n m=z∧¬z<0:=by
  unfold cmpZ;rw[if_neg (by omega)]
  split
  ·exact⟨0,rfl,by omega⟩
  ·exact⟨1,rfl,by omega⟩
 have HC:=compare_at A B c0 c1 la lb n m w ha3 hb3 ha2 hb2 ha4 hb4;rw[hz]at HC;have hlb:lb.length=1:=by
  have h1:=hb3.len 1 (by omega)
  have h2:lb≠[]:=fun e=>by have:=hb3.nil_iff.1 e;omega
  have h3:=List.length_pos_iff.2 h2;omega
 have hlb2:=hb3.one hlb;subst hlb2;obtain⟨ad,hB,hcell⟩:=Kd.at_int hb4 0 (by omega) (by simp)
 have hrd:rd [(m:Int)] 0=(m:Int):=rfl;rw[hrd]at hcell;have HS:=fun W hx=>short_at A c0 la n m h0 h W ha2 ha3 hx
 have HC':=Lib.hid HC;have HA:=zc.mk ha4;have HcA:=zc.mk hcell;subst hB;clear HC ha hb ha3 hb3 ha4 hb4 hz hcell hlb hrd;go_enter Tryz.func183,Tryz.ntmps183
 go_wp2_with fail;refine HC'.out.mono ?_;rintro e w1 ⟨rfl,hb1⟩;have hcell:=zt hb1 HcA.out;rw[show ad.add (0:Int).toNat=ad from by simp[Addr.add]]at hcell
 go_wp2_with fail;refine(HS _ (Kd.C_below HA.out hb1)).mono ?_;rintro e w2 ⟨v1,v2,l1,l2,rfl,hv1,hv2,hl1,hl2,hb2⟩;have q1:=LS.of_V hv1 hl1 (hn.mono (Nat.div_le_self _ _));have q2:=LS.of_V hv2 hl2 (hn.mono (Nat.mod_le _ _));have Q1:=zc.mk q1;have Q2:=zc.mk q2;have HB:=zc.mk (hb1.trans (hb2.mono hb1.size));clear hv1 hv2 hl1 hl2 hb2 q1 q2 HS hb1 hcell;go_wp2_with fail;refine bodyPost_ret (results_tmp2 rfl _ _ _) rfl ?_;exact⟨_,_,rfl,Q1.out,Q2.out,HB.out⟩
theorem div_small:zX 10000:=by
 intro n m a b w ha hb h0 h hn;by_cases hlt:n<m
 ·exact div_lt n m a b w ha hb hlt
 ·exact div_one n m a b w ha hb h0 h (by omega) hn
theorem LS.text {W:World}{v:Value}{n:Nat}(h:LS W v n)(hg:Glob W):
 Calls Tryz.prog 184 #[v] W fun e w'=>e= .returned (.string (natS n))∧Below W.heap.size W w':=by
 obtain⟨A,c,l,rfl,h2,h3,h4,h5⟩:=h.ex;exact text_at A c l n W h3 h4 h5 hg
theorem read_LS (n:Nat)(hs:(natS n).size≤1000000)(w:World):
 Calls Tryz.prog 207 #[.string (natS n)] w fun e w'=>∃v,e= .returned v∧LS w' v n∧Below w.heap.size w w':=by
 have hf:Fits n:=by
  refine⟨(natS n).size,hs,?_⟩;have h1:=qt _ (zh n).1.dig;rw[(zh n).2]at h1;have:(natS n).data.toList.length=(natS n).size:=rfl;rw[this]at h1;exact Nat.lt_of_lt_of_le h1 (Nat.pow_le_pow_left (by omega) _)
 refine(read_at (natS n) (zh n).1.dig hs w).mono ?_;rintro e w' ⟨v,l,rfl,hv,hl,hb⟩;rw[(zh n).2]at hl;exact⟨v,rfl,LS.of_V hv hl hf,hb⟩
def isNatB (l:List UInt8):Bool:= !l.isEmpty&&l.all (fun c=>decide (48≤c.toNat)&&decide (c.toNat≤57))&&(!(l.head?==some 48)||l==[48])
theorem jl (l:List UInt8):isNatB l=true↔okN l:=by
 unfold isNatB;constructor
 ·intro h
  simp only[Bool.and_eq_true,Bool.or_eq_true,List.all_eq_true,decide_eq_true_eq,Bool.not_eq_true',beq_iff_eq,beq_eq_false_iff_ne]at h;obtain⟨⟨h1,h2⟩,h3⟩:=h;refine⟨fun e=>by subst e;simp at h1,h2,fun e=>?_⟩
  rcases h3 with h3|h3
  ·exact absurd e h3
  ·exact h3
 ·rintro⟨h1,h2,h3⟩
  simp only[Bool.and_eq_true,Bool.or_eq_true,List.all_eq_true,decide_eq_true_eq,Bool.not_eq_true',beq_iff_eq,beq_eq_false_iff_ne];refine⟨⟨by cases l with
   |nil=>exact absurd rfl h1
   |cons _ _=>rfl,h2⟩,?_⟩
  by_cases h:l.head?=some 48
  ·exact .inr (h3 h)
  ·exact .inl h
theorem qd (n:Nat):isNatB (natS n).data.toList=true:=(jl _).2 (zh n).1
theorem jU (s:ByteArray)(h:isNatB s.data.toList=true):∃n,s=natS n:=by
 have h1:=(jl _).1 h;exact⟨dv s.data.toList,IsN.eq ⟨h1,rfl⟩⟩
theorem bt_get (s:ByteArray)(i:Nat)(hi:i<s.size):bt s (i:Int)=((s.data.toList[i]'(by simpa using hi)).toNat:Int):=by
 unfold bt;rw[dif_pos (by rw[xa];exact hi)]
 simp only[xa];rfl
theorem may_loop (s:ByteArray)(hs:s.size≤1000000)(m:Nat):∀(i k:Nat),s.size-i=m→i≤s.size→m<k→nat_May.l0 k s (s.size:Int) (i:Int)=some ((s.data.toList.drop i).all (fun c=>decide (48≤c.toNat)&&decide (c.toNat≤57))):=by
 induction m with
 |zero=>
  intro i k h1 h2 hk;obtain⟨k,rfl⟩:∃k',k=k'+1:=⟨k-1,by omega⟩
  unfold nat_May.l0;rw[if_neg (by omega),List.drop_eq_nil_of_le (by simp;omega)]
  rfl
 |succ m ih=>
  intro i k h1 h2 hk;obtain⟨k,rfl⟩:∃k',k=k'+1:=⟨k-1,by omega⟩
  have hi:i<s.size:=by omega
  have hil:i<s.data.toList.length:=by simpa using hi
  rw[List.drop_eq_getElem_cons hil,List.all_cons];have hb:=bt_get s i hi;generalize s.data.toList[i]=c at*;unfold nat_May.l0;rw[if_pos (by omega),if_pos (by omega),if_pos (by omega),hb]
  by_cases c1:(c.toNat:Int)<48
  ·rw[if_pos c1,show decide (48≤c.toNat)=false from decide_eq_false (by omega)]
   rfl
  ·rw[if_neg c1]
   by_cases c2:(c.toNat:Int)>57
   ·rw[if_pos c2,show decide (c.toNat≤57)=false from decide_eq_false (by omega),Bool.and_false]
    rfl
   ·rw[if_neg c2,wrap_id _ (by omega) (by omega),show decide (48≤c.toNat)=true from decide_eq_true (by omega),show decide (c.toNat≤57)=true from decide_eq_true (by omega),Bool.and_self,Bool.true_and]
    exact ih (i+1) k (by omega) (by omega) (by omega)
theorem may_j (k:Nat)(s:ByteArray)(b:Bool):nat_May.j0 (k+1) s b=if b=true then(some false)else(nat_May.l0 k s (s.size:Int) 0):=by
 rw[nat_May.j0]
theorem may_law (s:ByteArray)(hs:s.size≤1000000):nat_May.f 1000010 s=some (isNatB s.data.toList):=by
 have hl:s.data.toList.length=s.size:=rfl;have hloop:=may_loop s hs s.size 0 1000009 (by omega) (by omega) (by omega)
 rw[List.drop_zero]at hloop;have h0:nat_May.l0 1000009 s (s.size:Int) 0=some (s.data.toList.all (fun c=>decide (48≤c.toNat)&&decide (c.toNat≤57))):=hloop
 unfold nat_May.f;rw[Lib.toList_data];cases hL:s.data.toList with
 |nil=>
  rw[if_pos rfl];show nat_May.j0 (1000009+1) s true=_
  rw[may_j,if_pos rfl];rfl
 |cons c r=>
  have hz:s.size=r.length+1:=by rw[←hl,hL];rfl
  rw[if_neg (by simp),if_pos (by omega)]
  have hb:bt s 0=(c.toNat:Int):=by
   have h:=bt_get s 0 (by omega)
   simp only[hL]at h;exact h
  rw[hb];rw[hL]at h0;by_cases hc:(c.toNat:Int)=48
  ·have hc8:c=48:=u8_ext (by have:(48:UInt8).toNat=48:=rfl;omega)
   rw[if_pos hc];show nat_May.j0 (1000009+1) s _=_
   rw[may_j];subst hc8;cases r with
   |nil=>
    rw[if_neg (by simp),h0]
    rfl
   |cons d r=>
    rw[if_pos (by simp)]
    unfold isNatB;simp
  ·have hc8:¬c=48:=fun e=>hc (by rw[e];rfl)
   rw[if_neg hc];show nat_May.j0 (1000009+1) s false=_
   rw[may_j];rw[if_neg (by simp),h0]
   unfold isNatB;simp[hc8]
theorem jS (s:ByteArray)(hs:s.size≤1000000)(w:World):
 Calls Tryz.prog 144 #[.string s] w fun e w'=>e= .returned (.bool (isNatB s.data.toList))∧Below w.heap.size w w':=by
 refine(nat_May.calls 1000010 s _ w (may_law s hs)).mono ?_;rintro e w' ⟨rfl,hd⟩;exact⟨rfl,hd.below⟩
theorem both_at (n m:Nat)(hn:(natS n).size≤1000000)(hm:(natS m).size≤1000000)(w:World):
 Calls Tryz.prog 182 #[.string (natS n),.string (natS m)] w fun e w'=>∃a b,e= .returned (.tuple #[a,b,.bool true])∧LS w' a n∧LS w' b m∧Below w.heap.size w w':=by
 have H1:=fun W=>Lib.hid (jS (natS n) hn W)
 have H2:=fun W=>Lib.hid (jS (natS m) hm W)
 rw[qd]at H1 H2;have R1:=fun W=>Lib.hid (read_LS n hn W)
 have R2:=fun W=>Lib.hid (read_LS m hm W)
 generalize natS n=s at*;generalize natS m=t at*;go_enter Tryz.func182,Tryz.ntmps182
 go_wp2_with fail;refine(H1 _).out.mono ?_;rintro e w1 ⟨rfl,hb1⟩;go_wp2_with fail;refine(H2 _).out.mono ?_;rintro e w2 ⟨rfl,hb2⟩;have B2:=zc.mk (hb1.trans (hb2.mono hb1.size));clear hb1 hb2 H1 H2;go_wp2_with fail;refine(R1 _).out.mono ?_;rintro e w3 ⟨a,rfl,ha,hb3⟩;have A3:=zc.mk ha;have B3:=zc.mk (B2.out.trans (hb3.mono B2.out.size));clear ha hb3 B2;go_wp2_with fail;refine(R2 _).out.mono ?_;rintro e w4 ⟨b,rfl,hb,hb4⟩;have A4:=zc.mk (A3.out.below hb4);have C4:=zc.mk hb;have B4:=zc.mk (B3.out.trans (hb4.mono B3.out.size));clear hb hb4 A3 B3;go_wp2_with fail;refine bodyPost_ret (v:= .tuple #[a,b,.bool true]) (by simp[results,Tryz.f182,go_sem]) rfl ?_
 exact⟨a,b,rfl,A4.out,C4.out,B4.out⟩
theorem natS_fits (n:Nat)(hn:(natS n).size≤1000000):Fits n:=by
 refine⟨(natS n).size,hn,?_⟩;have h1:=qt _ (zh n).1.dig;rw[(zh n).2]at h1;have:(natS n).data.toList.length=(natS n).size:=rfl;rw[this]at h1;exact Nat.lt_of_lt_of_le h1 (Nat.pow_le_pow_left (by omega) _)
theorem LS.len_pos {W:World}{v:Value}{n:Nat}(h:LS W v n):∃A c k,v= .slice A k c∧(k=0↔n=0)∧k≤1000000:=by
 obtain⟨A,c,l,rfl,h2,h3,h4,h5⟩:=h.ex;exact⟨A,c,l.length,rfl,by rw[←h4.nil_iff,List.length_eq_zero_iff],h3⟩
theorem jR (M:Nat)(hD:zX M)(n m:Nat)(hn:(natS n).size≤1000000)(hm:(natS m).size≤1000000)(h0:0<m)(hM:m<M)(w:World)(hg:Glob w):
 Calls Tryz.prog 186 #[.string (natS n),.string (natS m)] w fun e w'=>e= .returned (.tuple #[.string (natS (n/m)),.string (natS (n%m)),.bool true])∧Below w.heap.size w w':=by
 have HB:=fun W=>Lib.hid (both_at n m hn hm W)
 have hf:=natS_fits n hn;have HDD:=fun a b W h1 h2=>Lib.hid (hD n m a b W h1 h2 h0 hM hf)
 have HG:=zc.mk hg;clear hg hf hD;generalize natS n=s at*;generalize natS m=t at*;go_enter Tryz.func186,Tryz.ntmps186
 go_wp2_with fail;refine(HB _).out.mono ?_;rintro e w1 ⟨a,b,rfl,ha,hb,hb1⟩;obtain⟨A2,c2,k2,rfl,hk2,hk2'⟩:=hb.len_pos;have hk0:¬((k2:Int)=0):=by omega
 have LA:=zc.mk ha;have LB:=zc.mk hb;have B1:=zc.mk hb1;clear ha hb hb1 HB hk2;go_wp2_with fail;refine(HDD _ _ _ LA.out LB.out).out.mono ?_;rintro e w2 ⟨q,r,rfl,hq,hr,hb2⟩;have Q:=zc.mk hq;have R:=zc.mk hr;have B2:=zc.mk (B1.out.trans (hb2.mono B1.out.size));clear hq hr hb2 B1 HDD LA LB;go_wp2_with fail;refine(Q.out.text (HG.out.below B2.out)).mono ?_;rintro e w3 ⟨rfl,hb3⟩;have R3:=zc.mk (R.out.below hb3);have B3:=zc.mk (B2.out.trans (hb3.mono B2.out.size));clear hb3 R B2 Q;go_wp2_with fail;refine(R3.out.text (HG.out.below B3.out)).mono ?_;rintro e w4 ⟨rfl,hb4⟩;have B4:=zc.mk (B3.out.trans (hb4.mono B3.out.size));clear hb4 R3 B3;go_wp2_with fail;refine bodyPost_ret (v:= .tuple #[.string (natS (n/m)),.string (natS (n%m)),.bool true]) (by simp[results,Tryz.f186,go_sem]) rfl ?_
 exact⟨rfl,B4.out⟩
theorem natGcd_at (M:Nat)(hD:zX M)(n m:Nat)(hn:(natS n).size≤1000000)(hm:(natS m).size≤1000000)(hM:m<M)(w:World)(hg:Glob w):
 Calls Tryz.prog 146 #[.string (natS n),.string (natS m)] w fun e w'=>e= .returned (.string (natS (Nat.gcd n m)))∧Below w.heap.size w w':=by
 have HB:=fun W=>Lib.hid (both_at n m hn hm W)
 have hf:=natS_fits n hn;have hf2:=natS_fits m hm;have HG:=zc.mk hg;obtain⟨g,hgg⟩:∃g,Nat.gcd n m=g:=⟨_,rfl⟩;rw[hgg];have HI:zc (Nat.gcd n m=g∧Fits n∧Fits m∧m<M):=⟨hgg,hf,hf2,hM⟩;have HDD:=zc.mk hD;clear hg hf hf2 hgg hM hD;generalize natS n=s at*;generalize natS m=t at*;go_enter Tryz.func146,Tryz.ntmps146
 go_wp2_with fail;refine(HB _).out.mono ?_;rintro e w1 ⟨a,b,rfl,ha,hb,hb1⟩;have LA:=zc.mk ha;have LB:=zc.mk hb;have B1:=zc.mk hb1;clear ha hb hb1 HB;go_wp2_with fail;go_loopg [5,6] (m+1) (fun kq v5 v6 w'=>∃x y:Nat,zc (LS w' v5 x)∧zc (LS w' v6 y)∧zc (Nat.gcd x y=g∧Fits x∧Fits y∧y<M)∧y<kq∧zc (Below w.heap.size w w'))
 case atStart=>exact⟨n,m,LA,LB,HI,by omega,B1⟩
 case round=>
  clear LA LB HI B1;obtain⟨x,y,LA,LB,HI,hlt,B1⟩:=hrel;obtain⟨A2,c2,k2,rfl,hk2,hk2'⟩:=LB.out.len_pos;by_cases hy:y=0
  ·have hk0:=hk2.2 hy
   subst hk0 hy;obtain⟨i1,_⟩:=HI.out;rw[Nat.gcd_zero_right]at i1;subst i1;clear hk2 HI LB;go_wp2_with fail;refine(LA.out.text (HG.out.below B1.out)).mono ?_;rintro e w3 ⟨rfl,hb3⟩;have B3:=zc.mk (B1.out.trans (hb3.mono B1.out.size));clear hb3;go_wp2_with fail;go_ret;exact⟨rfl,B3.out⟩
  ·have hk0:0<k2:=by omega
   have hy0:0<y:=by omega
   clear hk2 hy;go_wp2_with fail;refine(HDD.out x y _ _ _ LA.out LB.out hy0 HI.out.2.2.2 HI.out.2.1).mono ?_;rintro e w2 ⟨q,r,rfl,hq,hr,hb2⟩;have R:=zc.mk hr;have LB2:=zc.mk (LB.out.below hb2);have B2:=zc.mk (B1.out.trans (hb2.mono B1.out.size));have hmod:=Nat.mod_lt x hy0;have HI2:zc (Nat.gcd y (x%y)=g∧Fits y∧Fits (x%y)∧x%y<M):=by
    obtain⟨i1,i2,i3,i4⟩:=HI.out;exact⟨by rw[←i1,Nat.gcd_comm x y,Nat.gcd_rec y x,Nat.gcd_comm],i3,i2.mono (Nat.mod_le _ _),by omega⟩
   generalize x%y=z at*;clear hq hr hb2 LA LB B1 HI;go_wp2_with fail;go_roundg (gk-1)
   case measure=>omega
   case rel=>exact⟨y,z,LB2,R,HI2,by omega,B2⟩
theorem zV (w:World)(a b:Addr)(v:Value)(h:a≠b):(w.setCell a v).cell? b=w.cell? b:=World.cell?_setCell_other w a b v h
def intS (z:Int):ByteArray:=if z<0 then(⟨#[45]⟩:xf)++natS z.natAbs else natS z.natAbs
theorem zo (n:Nat):intS (n:Int)=natS n:=by
 unfold intS;rw[if_neg (by omega)]
 rfl
theorem qw (n:Nat):0<(natS n).size:=by
 have h:=(zh n).1.pos_len;exact h
theorem jQ (n:Nat):∃c r,(natS n).data.toList=c::r∧48≤c.toNat∧c.toNat≤57:=by
 cases h:(natS n).data.toList with
 |nil=>exact absurd h (zh n).1.ne
 |cons c r=>exact⟨c,r,rfl,(zh n).1.dig c (by rw[h];simp)⟩
theorem z7 {s t:ByteArray}(h:s.data.toList=t.data.toList):s=t:=by
 cases s;cases t;congr 1
 exact Array.toList_inj.1 h
theorem cut_law (z:Int)(hs:(intS z).size≤1000000):strings_CutPrefix.f (intS z) (⟨#[45]⟩:xf)=some (natS z.natAbs,decide (z<0)):=by
 have h1:(⟨#[45]⟩:xf).size=1:=rfl;have hp:=qw z.natAbs;unfold strings_CutPrefix.f stringslite_CutPrefix.f stringslite_HasPrefix.f;rw[h1];by_cases hz:z<0
 ·have e:intS z=(⟨#[45]⟩:xf)++natS z.natAbs:=by unfold intS;rw[if_pos hz]
  have hsz:(intS z).size=1+(natS z.natAbs).size:=by rw[e,j8,h1]
  have hl:(intS z).data.toList=45::(natS z.natAbs).data.toList:=by rw[e,ByteArray.data_append];simp
  have e1:(intS z).extract 0 1=(⟨#[45]⟩:xf):=z7 (by rw[ext_toList,hl];simp)
  have e2:(intS z).extract 1 (intS z).size=natS z.natAbs:=z7 (by
   rw[ext_toList,List.take_of_length_le (by have:(intS z).data.toList.length=(intS z).size:=rfl;omega),hl];simp)
  rw[if_pos (by omega),if_pos (by omega),if_pos (by omega)]
  simp only[Int.toNat_one,show((1:Nat):Int).toNat=1 from rfl,e1,e2,Option.bind_some,beq_self_eq_true,if_true]
  rw[if_pos (by omega),if_pos (by omega)]
  simp[hz]
 ·have e:intS z=natS z.natAbs:=by unfold intS;rw[if_neg hz]
  obtain⟨c,r,hl,hc⟩:=jQ z.natAbs;rw[e];have e1:((natS z.natAbs).extract 0 1).toList=[c]:=by rw[Lib.toList_data,ext_toList,hl];simp
  rw[if_pos (by omega),if_pos (by omega),if_pos (by omega)]
  have hne:([c]==(⟨#[45]⟩:xf).toList)=false:=by
   rw[Lib.toList_data];rw[beq_eq_false_iff_ne];intro h;injection h with h _;subst h;exact absurd hc.1 (by decide)
  simp only[show((1:Nat):Int).toNat=1 from rfl,e1,hne,Option.bind_some,Bool.false_eq_true,if_false]
  simp[hz]
theorem one_ne_zero (n:Nat)(h:n≠0):¬(natS n).toList=([48]:List UInt8):=by
 intro e;have e1:natS n=(⟨#[48]⟩:xf):=z7 (by rw[←Lib.toList_data,e])
 exact h ((zh n).eq0.1 e1)
theorem qV (z:Int)(hs:(intS z).size≤1000000):whole_read.f 1000010 (intS z)=some (natS z.natAbs,decide (z<0),true):=by
 have hsz:(natS z.natAbs).size≤1000000:=by
  unfold intS at hs;split at hs
  ·rw[j8]at hs;omega
  ·exact hs
 unfold whole_read.f;rw[cut_law z hs,Option.bind_some,may_law _ hsz,qd];simp only[Option.bind_some,if_true];by_cases hz:z<0
 ·rw[if_pos (by simp[hz]),if_neg (one_ne_zero _ (by omega))]
 ·rw[if_neg (by simp[hz])]
theorem abs_at (z:Int)(hs:(intS z).size≤1000000)(w:World):
 Calls Tryz.prog 147 #[.string (intS z)] w fun e w'=>e= .returned (.string (natS z.natAbs))∧Below w.heap.size w w':=
 whole_Abs.calls 1000010 (intS z) _ w (by unfold whole_Abs.f;rw[qV z hs];rfl)
theorem wmay_at (z:Int)(hs:(intS z).size≤1000000)(w:World):
 Calls Tryz.prog 109 #[.string (intS z)] w fun e w'=>e= .returned (.bool true)∧Below w.heap.size w w':=
 whole_May.calls 1000010 (intS z) _ w (by unfold whole_May.f;rw[qV z hs];rfl)
theorem wread_at (z:Int)(hs:(intS z).size≤1000000)(w:World):
 Calls Tryz.prog 107 #[.string (intS z)] w fun e w'=>e= .returned (.tuple #[.agg #[.string (natS z.natAbs),.bool (decide (z<0))],.bool true])∧Below w.heap.size w w':=
 whole_read.calls 1000010 (intS z) _ _ _ w (qV z hs)
def sgn (z:Int):Int:=if z<0 then-1 else if z=0 then 0 else 1
theorem wsign_at (z:Int)(hs:(intS z).size≤1000000)(w:World):
 Calls Tryz.prog 145 #[.string (intS z)] w fun e w'=>e= .returned (.int .i64 (sgn z))∧Below w.heap.size w w':=by
 refine whole_Sign.calls 1000010 (intS z) _ w ?_;unfold whole_Sign.f;rw[qV z hs,Option.bind_some];simp only[if_true];show whole_Sign.j0 (1000009+1) _ _ _=_
 rw[whole_Sign.j0];unfold sgn;by_cases hz:z<0
 ·rw[if_neg (by simp;exact one_ne_zero _ (by omega)),if_pos (by simp[hz]),if_pos hz]
 ·by_cases h0:z=0
  ·subst h0
   rw[if_pos (by simp;rw[Lib.toList_data];exact congrArg (fun s:ByteArray=>s.data.toList) ((zh 0).eq0.2 rfl)),if_neg (by omega),if_pos rfl]
  ·rw[if_neg (by simp;exact one_ne_zero _ (by omega)),if_neg (by simp[hz]),if_neg hz,if_neg h0]
theorem wtext_at (n:Nat)(b:Bool)(hs:(natS n).size≤1000000)(w:World)(hb:b=true→n≠0):
 Calls Tryz.prog 108 #[.agg #[.string (natS n),.bool b]] w fun e w'=>e= .returned (.string (intS (if b then-(n:Int)else n)))∧Below w.heap.size w w':=by
 refine whole_number_text.calls (natS n) b _ w ?_;unfold whole_number_text.f;cases b with
 |true=>
  have h0:=hb rfl;rw[if_pos rfl,if_neg (one_ne_zero n h0),if_pos (by omega)]
  simp only[if_true];unfold intS;rw[if_pos (by omega),show(-(n:Int)).natAbs=n by omega]
 |false=>
  rw[if_neg (by simp)]
  simp only[Bool.false_eq_true,if_false];rw[zo]
theorem wboth_at (y z:Int)(hy:(intS y).size≤1000000)(hz:(intS z).size≤1000000)(w:World):
 Calls Tryz.prog 185 #[.string (intS y),.string (intS z)] w fun e w'=>e= .returned (.tuple #[.agg #[.string (natS y.natAbs),.bool (decide (y<0))],.agg #[.string (natS z.natAbs),.bool (decide (z<0))],.bool true])∧Below w.heap.size w w':=by
 have H1:=fun W=>Lib.hid (wread_at y hy W)
 have H2:=fun W=>Lib.hid (wread_at z hz W)
 generalize intS y=s at*;generalize intS z=t at*;generalize natS y.natAbs=a at*;generalize natS z.natAbs=b at*;generalize decide (y<0)=c at*;generalize decide (z<0)=d at*;go_enter Tryz.func185,Tryz.ntmps185
 go_wp2_with fail;refine(H1 _).out.mono ?_;rintro e w1 ⟨rfl,hb1⟩;have k1:w1.heap[w.heap.size]? =some (.cells #[.string ⟨#[]⟩,.bool false] 124 (0,0)):=(hb1.block _ (by simp;omega)).trans ((Lib.alloc_old _ _ _ (by simp)).trans (j7 w _))
 have k2:w1.heap[w.heap.size+1]? =some (.cells #[.string ⟨#[]⟩,.bool false] 124 (0,0)):=(hb1.block _ (by simp)).trans (by
  have:=j7 (w.alloc (.cells #[.string ⟨#[]⟩,.bool false] 124)) (.cells #[.string ⟨#[]⟩,.bool false] 124);rw[World.size_alloc]at this;exact this)
 have B1:Below w.heap.size w w1:=(((xb _ w).alloc (xc _) _).alloc (by simp) _).trans (hb1.mono (by simp;omega))
 have z1:w.heap.size+2≤w1.heap.size:=by have:=hb1.size;simpa using this
 clear hb1;go_wp2_with fail;refine(H2 _).out.mono ?_;rintro e w2 ⟨rfl,hb2⟩;have l1:=(hb2.block _ (by simp;omega)).trans ((Lib.alloc_old w1 (.cells #[.string a,.bool c] 124) _ (by omega)).trans k1)
 have l2:=(hb2.block _ (by simp;omega)).trans ((Lib.alloc_old w1 (.cells #[.string a,.bool c] 124) _ (by omega)).trans k2)
 have l3:=(hb2.block w1.heap.size (by simp)).trans (j7 w1 (.cells #[.string a,.bool c] 124))
 have B2:Below w.heap.size w w2:=(B1.alloc (by omega) _).trans (hb2.mono (by simp;omega))
 have z2:w1.heap.size+1≤w2.heap.size:=by have:=hb2.size;simpa using this
 clear hb2 k1 k2 H1 H2;generalize w1.heap.size=n1 at*;have m1:=(Lib.alloc_old w2 (.cells #[.string b,.bool d] 124) _ (by omega)).trans l1
 have m2:=(Lib.alloc_old w2 (.cells #[.string b,.bool d] 124) _ (by omega)).trans l2
 have m3:=(Lib.alloc_old w2 (.cells #[.string b,.bool d] 124) _ (by omega)).trans l3
 have m4:=j7 w2 (.cells #[.string b,.bool d] 124);have B3:Below w.heap.size w (w2.alloc (.cells #[.string b,.bool d] 124)):=B2.alloc (by omega) _
 go_wp2_with fail;generalize w2.heap.size=n2 at*;generalize w2.alloc (.cells #[.string b,.bool d] 124)=w3 at*;have c1:=j6 m1 0;have c2:=j6 m1 1;have c3:=j6 m2 0;have c4:=j6 m2 1;have c5:=j6 m3 0;have c6:=j6 m3 1;have c7:=j6 m4 0;have c8:=j6 m4 1;have f1:=Lib.frozen_of_heap m1 0;have f2:=Lib.frozen_of_heap m1 1;have f3:=Lib.frozen_of_heap m2 0;have f4:=Lib.frozen_of_heap m2 1;have MB:=zc.mk B3;have M1:=zc.mk m1;have M2:=zc.mk m2;clear l1 l2 l3 B1 B2 m1 m2 m3 m4 B3;simp only[show∀(x y:Value) (h:0<2),(#[x,y]:Array Value)[0]? =some x from fun _ _ _=>rfl,show∀(x y:Value),(#[x,y]:Array Value)[1]? =some y from fun _ _=>rfl,show∀(x y:Value),(#[x,y]:Array Value)[0]? =some x from fun _ _=>rfl]at c1 c2 c3 c4 c5 c6 c7 c8
 go_region;go_wp2;obtain⟨x1,hx1⟩:∃x,w3.setCell ⟨w.heap.size,0,none⟩ (.string a)=x:=⟨_,rfl⟩;obtain⟨x2,hx2⟩:∃x,x1.setCell ⟨w.heap.size,1,none⟩ (.bool c)=x:=⟨_,rfl⟩;obtain⟨x3,hx3⟩:∃x,x2.setCell ⟨w.heap.size+1,0,none⟩ (.string b)=x:=⟨_,rfl⟩;obtain⟨x4,hx4⟩:∃x,x3.setCell ⟨w.heap.size+1,1,none⟩ (.bool d)=x:=⟨_,rfl⟩;rw[hx1,hx2,hx3,hx4];have p1:x1.cell? ⟨w.heap.size,0,none⟩=some (.string a):=by rw[←hx1];exact World.cell?_setCell_same' _ _ _ (by rw[c1];rfl)
 have p2:x1.cell? ⟨w.heap.size,1,none⟩=some (.bool false):=by rw[←hx1,zV _ _ _ _ (by simp)];exact c2
 have q1:x2.cell? ⟨w.heap.size,0,none⟩=some (.string a):=by rw[←hx2,zV _ _ _ _ (by simp)];exact p1
 have q2:x2.cell? ⟨w.heap.size,1,none⟩=some (.bool c):=by rw[←hx2];exact World.cell?_setCell_same' _ _ _ (by rw[p2];rfl)
 have q3:x2.cell? ⟨w.heap.size+1,0,none⟩=some (.string ⟨#[]⟩):=by rw[←hx2,World.cell?_setCell_far _ _ _ _ (by simp),←hx1,World.cell?_setCell_far _ _ _ _ (by simp)];exact c3
 have q4:x2.cell? ⟨w.heap.size+1,1,none⟩=some (.bool false):=by rw[←hx2,World.cell?_setCell_far _ _ _ _ (by simp),←hx1,World.cell?_setCell_far _ _ _ _ (by simp)];exact c4
 have r1:x4.cell? ⟨w.heap.size,0,none⟩=some (.string a):=by rw[←hx4,World.cell?_setCell_far _ _ _ _ (by simp),←hx3,World.cell?_setCell_far _ _ _ _ (by simp)];exact q1
 have r2:x4.cell? ⟨w.heap.size,1,none⟩=some (.bool c):=by rw[←hx4,World.cell?_setCell_far _ _ _ _ (by simp),←hx3,World.cell?_setCell_far _ _ _ _ (by simp)];exact q2
 have r3:x4.cell? ⟨w.heap.size+1,0,none⟩=some (.string b):=by rw[←hx4,zV _ _ _ _ (by simp),←hx3];exact World.cell?_setCell_same' _ _ _ (by rw[q3];rfl)
 have r4:x4.cell? ⟨w.heap.size+1,1,none⟩=some (.bool d):=by
  rw[←hx4];exact World.cell?_setCell_same' _ _ _ (by rw[←hx3,zV _ _ _ _ (by simp),q4];rfl)
 have hB:Below w.heap.size w x4:=by
  rw[←hx4,←hx3,←hx2,←hx1];exact(((MB.out.setCell (by simp) _).setCell (by simp) _).setCell (by simp) _).setCell (by simp) _
 refine bodyPost_ret (v:= .tuple #[.agg #[.string a,.bool c],.agg #[.string b,.bool d],.bool true]) ?_ rfl ⟨rfl,hB.drew⟩;simp[results,Tryz.f185,go_sem,r1,r2,r3,r4]
theorem qR (z:Int)(h:(intS z).size≤1000000):(natS z.natAbs).size≤1000000:=by
 unfold intS at h;split at h
 ·rw[j8]at h;omega
 ·exact h
theorem zr {n m:Nat}(h:n≤m):(natS n).size≤(natS m).size:=by
 have e1:(natS n).size=(Lib.decDigits n).length:=by show(natS n).data.toList.length=_;rw[zq]
 have e2:(natS m).size=(Lib.decDigits m).length:=by show(natS m).data.toList.length=_;rw[zq]
 have h1:=qt _ (zF m).1;rw[(zF m).2.1]at h1;rw[e1,e2];exact zH n _ (by omega) (List.length_pos_iff.2 (zF m).2.2.1)
theorem wdiv_at (M:Nat)(hD:zX M)(z:Int)(g:Nat)(hz:(intS z).size≤1000000)(hgs:(natS g).size≤1000000)(h0:0<g)(hM:g<M)(hdvd:g∣z.natAbs)(w:World)(hg:Glob w):
 Calls Tryz.prog 148 #[.string (intS z),.string (natS g)] w fun e w'=>e= .returned (.tuple #[.string (intS (if z<0 then-((z.natAbs/g:Nat):Int)else((z.natAbs/g:Nat):Int))),.string (natS 0),.bool true])∧Below w.heap.size w w':=by
 have hgi:(intS (g:Int)).size≤1000000:=by rw[zo];exact hgs
 have H1:=fun W=>Lib.hid (wboth_at z (g:Int) hz hgi W)
 have hza:=qR z hz;have H2:=fun W h=>Lib.hid (jR M hD z.natAbs g hza hgs h0 hM W h)
 rw[Nat.mod_eq_zero_of_dvd hdvd]at H2;have hq:(natS (z.natAbs/g)).size≤1000000:=Nat.le_trans (zr (Nat.div_le_self _ _)) hza;have H3:=fun W=>Lib.hid (wtext_at (z.natAbs/g) (decide (z<0)) hq W (by
  intro h;have hz0:z<0:=of_decide_eq_true h;have:0<z.natAbs/g:=Nat.div_pos (Nat.le_of_dvd (by omega) hdvd) h0
  omega))
 have hgne:((natS g).toList==([48]:List UInt8))=false:=beq_eq_false_iff_ne.2 (one_ne_zero g (by omega))
 have hg0:(natS ((g:Int).natAbs))=natS g:=rfl;rw[zo]at H1;have hgn:decide ((g:Int)<0)=false:=decide_eq_false (by omega)
 rw[hg0,hgn]at H1;have h48:natS 0=(⟨#[48]⟩:xf):=(zh 0).eq0.2 rfl;rw[h48]at H2 ⊢;have HG:=zc.mk hg;have hif:(if z<0 then-((z.natAbs/g:Nat):Int)else((z.natAbs/g:Nat):Int))=(if decide (z<0)=true then-((z.natAbs/g:Nat):Int)else((z.natAbs/g:Nat):Int)):=by simp
 rw[hif];generalize intS (if decide (z<0)=true then-((z.natAbs/g:Nat):Int)else((z.natAbs/g:Nat):Int))=res at*
 generalize decide (z<0)=c at*;generalize natS (z.natAbs/g)=q at*;generalize natS z.natAbs=za at*;generalize natS g=gs at*;generalize intS z=zs at*;clear hg hq hza hgs hgi hz hD hif hg0 h48 hdvd;go_enter Tryz.func148,Tryz.ntmps148
 go_wp2_with fail;refine(H1 _).out.mono ?_;rintro e w1 ⟨rfl,hb1⟩;go_wp2_with fail;have c5:=(Boxed.new w1 124 (.string za));have m1:=(Lib.alloc_old (w1.alloc (.cells #[.string za,.bool c] 124)) (.cells #[.string gs,.bool false] 124) w1.heap.size (by simp)).trans (j7 w1 (.cells #[.string za,.bool c] 124))
 have m2:=j7 (w1.alloc (.cells #[.string za,.bool c] 124)) (.cells #[.string gs,.bool false] 124);rw[World.size_alloc]at m2;have B1:Below w.heap.size w ((w1.alloc (.cells #[.string za,.bool c] 124)).alloc (.cells #[.string gs,.bool false] 124)):=(hb1.alloc hb1.size _).alloc (by have:=hb1.size;simp;omega) _
 generalize (w1.alloc (.cells #[.string za,.bool c] 124)).alloc (.cells #[.string gs,.bool false] 124)=w2 at*;generalize w1.heap.size=n1 at*;refine(H2 _ (HG.out.below B1)).out.mono ?_;rintro e w3 ⟨rfl,hb3⟩;have l1:=(hb3.block n1 (xe m1).1).trans m1;have l2:=(hb3.block (n1+1) (xe m2).1).trans m2;have B3:=zc.mk (B1.trans (hb3.mono B1.size));have c1:=j6 l1 0;have c2:=j6 l1 1;have c3:=j6 l2 0;have c4:=j6 l2 1;simp only[show∀(x y:Value),(#[x,y]:Array Value)[1]? =some y from fun _ _=>rfl,show∀(x y:Value),(#[x,y]:Array Value)[0]? =some x from fun _ _=>rfl]at c1 c2 c3 c4
 clear hb3 m1 m2 B1 hb1 c5 l1 l2;cases c with
 |true=>
  go_wp2_with fail;refine(H3 _).out.mono ?_;rintro e w4 ⟨rfl,hb4⟩;have B4:=zc.mk (B3.out.trans (hb4.mono B3.out.size));clear hb4;go_wp2_with fail;refine bodyPost_ret (v:= .tuple #[.string res,.string ⟨#[48]⟩,.bool true]) (by simp[results,Tryz.f148,go_sem]) rfl ⟨rfl,B4.out⟩
 |false=>
  go_wp2_with fail;refine(H3 _).out.mono ?_;rintro e w4 ⟨rfl,hb4⟩;have B4:=zc.mk (B3.out.trans (hb4.mono B3.out.size));clear hb4;go_wp2_with fail;refine bodyPost_ret (v:= .tuple #[.string res,.string ⟨#[48]⟩,.bool true]) (by simp[results,Tryz.f148,go_sem]) rfl ⟨rfl,B4.out⟩
theorem put2 {w:World}{b:Nat}{u v:Value}{T:TypeId}(h:w.heap[b]? =some (.cells #[u,v] T (0,0)))(x y:Value):
 ((w.setCell ⟨b,0,none⟩ x).setCell ⟨b,1,none⟩ y).cell? ⟨b,0,none⟩=some x∧((w.setCell ⟨b,0,none⟩ x).setCell ⟨b,1,none⟩ y).cell? ⟨b,1,none⟩=some y:=by
 have c1:w.cell? ⟨b,0,none⟩=some u:=by rw[j6 h];rfl
 have c2:w.cell? ⟨b,1,none⟩=some v:=by rw[j6 h];rfl
 refine⟨?_,?_⟩
 ·rw[zV _ _ _ _ (by simp)]
  exact World.cell?_setCell_same' _ _ _ (by rw[c1];rfl)
 ·exact World.cell?_setCell_same' _ _ _ (by rw[zV _ _ _ _ (by simp),c2];rfl)
def rnum (z:Int)(d:Nat):Int:=if z<0 then-((z.natAbs/Nat.gcd z.natAbs d:Nat):Int)else((z.natAbs/Nat.gcd z.natAbs d:Nat):Int)
def rden (z:Int)(d:Nat):Nat:=d/Nat.gcd z.natAbs d
def ratV (z:Int)(d:Nat):Value:= .agg #[.string (intS z),.string (natS d)]
theorem reduced_at (M:Nat)(hD:zX M)(z:Int)(d:Nat)(hz:(intS z).size≤1000000)(hd:(natS d).size≤1000000)(h0:0<d)(hM:d<M)(w:World)(hg:Glob w):
 Calls Tryz.prog 110 #[.string (intS z),.string (natS d)] w fun e w'=>e= .returned (ratV (rnum z d) (rden z d))∧Below w.heap.size w w':=by
 have hgp:0<Nat.gcd z.natAbs d:=Nat.gcd_pos_of_pos_right _ h0;have hgd:Nat.gcd z.natAbs d≤d:=Nat.le_of_dvd h0 (Nat.gcd_dvd_right _ _);have hgs:(natS (Nat.gcd z.natAbs d)).size≤1000000:=Nat.le_trans (zr hgd) hd;have hza:=qR z hz;have hdi:(intS (d:Int)).size≤1000000:=by rw[zo];exact hd
 have H1:=fun W=>Lib.hid (wsign_at (d:Int) hdi W)
 rw[zo]at H1;have hsg:sgn (d:Int)=1:=by unfold sgn;rw[if_neg (by omega),if_neg (by omega)]
 rw[hsg]at H1;have H2:=fun W=>Lib.hid (abs_at z hz W)
 have H3:=fun W h=>Lib.hid (natGcd_at M hD z.natAbs d hza hd hM W h)
 have H4:=fun W h=>Lib.hid (wdiv_at M hD z (Nat.gcd z.natAbs d) hz hgs hgp (by omega) (Nat.gcd_dvd_left _ _) W h)
 have H5:=fun W h=>Lib.hid (wdiv_at M hD (d:Int) (Nat.gcd z.natAbs d) hdi hgs hgp (by omega) (Nat.gcd_dvd_right _ _) W h)
 rw[zo]at H5;have hif:(if(d:Int)<0 then-(((d:Int).natAbs/Nat.gcd z.natAbs d:Nat):Int)else(((d:Int).natAbs/Nat.gcd z.natAbs d:Nat):Int))=((rden z d:Nat):Int):=by rw[if_neg (by omega)];rfl
 rw[hif,zo]at H5;have hif2:(if z<0 then-((z.natAbs/Nat.gcd z.natAbs d:Nat):Int)else((z.natAbs/Nat.gcd z.natAbs d:Nat):Int))=rnum z d:=rfl
 rw[hif2]at H4;unfold ratV;have HG:=zc.mk hg;have bR:=Boxed.new w 35 (.string ⟨#[]⟩);generalize natS (rden z d)=rd' at*;generalize intS (rnum z d)=rn' at*;generalize natS (Nat.gcd z.natAbs d)=gs at*;generalize natS z.natAbs=za at*;generalize natS d=ds at*;generalize intS z=zs at*;clear hif hif2 hsg hdi hza hgs hgd hgp hz hd h0 hM hg hD bR;have k0:=j7 w (.cells #[.string ⟨#[]⟩,.string ⟨#[]⟩] 35);have B0:Below w.heap.size w (w.alloc (.cells #[.string ⟨#[]⟩,.string ⟨#[]⟩] 35)):=(xb _ w).alloc (xc _) _;go_enter Tryz.func110,Tryz.ntmps110
 go_wp2_with fail;generalize w.alloc (.cells #[.string ⟨#[]⟩,.string ⟨#[]⟩] 35)=w0 at*;refine(H1 _).out.mono ?_;rintro e w1 ⟨rfl,hb1⟩;have k1:=(hb1.block _ (xe k0).1).trans k0;have B1:=B0.trans (hb1.mono B0.size);clear k0 B0 hb1;go_wp2_with fail;refine(H2 _).out.mono ?_;rintro e w2 ⟨rfl,hb2⟩;have k2:=(hb2.block _ (xe k1).1).trans k1;have B2:=B1.trans (hb2.mono B1.size);clear k1 B1 hb2;go_wp2_with fail;refine(H3 _ (HG.out.below B2)).out.mono ?_;rintro e w3 ⟨rfl,hb3⟩;have k3:=(hb3.block _ (xe k2).1).trans k2;have B3:=B2.trans (hb3.mono B2.size);clear k2 B2 hb3;go_wp2_with fail;refine(H4 _ (HG.out.below B3)).out.mono ?_;rintro e w4 ⟨rfl,hb4⟩;have k4:=(hb4.block _ (xe k3).1).trans k3;have B4:=B3.trans (hb4.mono B3.size);clear k3 B3 hb4;go_wp2_with fail;refine(H5 _ (HG.out.below B4)).out.mono ?_;rintro e w5 ⟨rfl,hb5⟩;have k5:=(hb5.block _ (xe k4).1).trans k4;have B5:=B4.trans (hb5.mono B4.size);clear k4 B4 hb5 H1 H2 H3 H4 H5;have c1:=j6 k5 0;have c2:=j6 k5 1;have f1:=Lib.frozen_of_heap k5 0;have f2:=Lib.frozen_of_heap k5 1;simp only[show∀(x y:Value),(#[x,y]:Array Value)[1]? =some y from fun _ _=>rfl,show∀(x y:Value),(#[x,y]:Array Value)[0]? =some x from fun _ _=>rfl]at c1 c2
 go_wp2_with fail;obtain⟨r1,r2⟩:=put2 k5 (.string rn') (.string rd');refine bodyPost_ret (v:= .agg #[.string rn',.string rd']) ?_ rfl ⟨rfl,(B5.setCell (by simp) _).setCell (by simp) _⟩
 simp[results,Tryz.f110,go_sem,r1,r2]
theorem make_at (M:Nat)(hD:zX M)(z:Int)(d:Nat)(hz:(intS z).size≤1000000)(hd:(natS d).size≤1000000)(h0:0<d)(hM:d<M)(w:World)(hg:Glob w):
 Calls Tryz.prog 72 #[.string (intS z),.string (natS d)] w fun e w'=>e= .returned (.tuple #[ratV (rnum z d) (rden z d),.bool true])∧Below w.heap.size w w':=by
 have hdi:(intS (d:Int)).size≤1000000:=by rw[zo];exact hd
 have H1:=fun W=>Lib.hid (wmay_at z hz W)
 have H2:=fun W=>Lib.hid (wmay_at (d:Int) hdi W)
 rw[zo]at H2;have H3:=fun W h=>Lib.hid (reduced_at M hD z d hz hd h0 hM W h)
 have hne:((natS d).toList==([48]:List UInt8))=false:=beq_eq_false_iff_ne.2 (one_ne_zero d (by omega))
 have hne2:¬(natS d).toList=([48]:List UInt8):=one_ne_zero d (by omega)
 have HG:=zc.mk hg;unfold ratV at*;generalize natS (rden z d)=rd' at*;generalize intS (rnum z d)=rn' at*;generalize natS d=ds at*;generalize intS z=zs at*;clear hdi hz hd h0 hM hg hD;have k0:=j7 w (.cells #[.string ⟨#[]⟩,.string ⟨#[]⟩] 35);have B0:Below w.heap.size w (w.alloc (.cells #[.string ⟨#[]⟩,.string ⟨#[]⟩] 35)):=(xb _ w).alloc (xc _) _;go_enter Tryz.func72,Tryz.ntmps72
 go_wp2_with fail;generalize w.alloc (.cells #[.string ⟨#[]⟩,.string ⟨#[]⟩] 35)=w0 at*;refine(H1 _).out.mono ?_;rintro e w1 ⟨rfl,hb1⟩;have k1:=(hb1.block _ (xe k0).1).trans k0;have B1:=B0.trans (hb1.mono B0.size);clear k0 B0 hb1;go_wp2_with fail;refine(H2 _).out.mono ?_;rintro e w2 ⟨rfl,hb2⟩;have k2:=(hb2.block _ (xe k1).1).trans k1;have B2:=B1.trans (hb2.mono B1.size);clear k1 B1 hb2;go_wp2_with fail;refine(H3 _ (HG.out.below B2)).out.mono ?_;rintro e w3 ⟨rfl,hb3⟩;have k3:=(hb3.block _ (xe k2).1).trans k2;have B3:=B2.trans (hb3.mono B2.size);clear k2 B2 hb3 H1 H2 H3;have c1:=j6 k3 0;have c2:=j6 k3 1;have f1:=Lib.frozen_of_heap k3 0;have f2:=Lib.frozen_of_heap k3 1;simp only[show∀(x y:Value),(#[x,y]:Array Value)[1]? =some y from fun _ _=>rfl,show∀(x y:Value),(#[x,y]:Array Value)[0]? =some x from fun _ _=>rfl]at c1 c2
 go_wp2_with fail;obtain⟨r1,r2⟩:=put2 k3 (.string rn') (.string rd');refine bodyPost_ret (v:= .tuple #[.agg #[.string rn',.string rd'],.bool true]) ?_ rfl ⟨rfl,(B3.setCell (by simp) _).setCell (by simp) _⟩
 simp[results,Tryz.f72,go_sem,r1,r2]
end Go.Proofs.YtjopepfemhckjaaGreatDoor.NW
end
