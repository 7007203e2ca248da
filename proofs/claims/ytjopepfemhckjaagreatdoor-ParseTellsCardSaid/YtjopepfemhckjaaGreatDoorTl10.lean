/-
  Part 10 of the proof of parseTells_holds: texts of this seat, put together.
-/
import Derived.ScopeJumps
import Derived.Test.YtjopepfemhckjaaGreatDoorTl9
set_option linter.unusedVariables false
set_option linter.unusedSimpArgs false
set_option maxHeartbeats 16000000
set_option maxRecDepth 100000
section
namespace Go.Proofs.YtjopepfemhckjaaGreatDoor.NW
open Go.Proofs Go.RowKit Go.Shelf Go.Proofs.YtjopepfemhckjaaGreatDoor.PN Go.Proofs.YtjopepfemhckjaaGreatDoorW.PrintWords Go.Proofs.YtjopepfemhckjaaGreatDoor.PParseTells
def tm:Nat→Nat→Nat→Nat×Nat
 |0,n,_=>(0,n)
 |k+1,n,b=>if n%b=0 then((tm k (n/b) b).1+1,(tm k (n/b) b).2)else(0,n)
theorem tm_fuel (b:Nat)(hb:2≤b):∀(n k:Nat),0<n→n≤k→tm k n b=tm n n b:=by
 intro n;induction n using Nat.strongRecOn with
 |ind n ih=>
  intro k h0 hk;obtain⟨k,rfl⟩:∃k',k=k'+1:=⟨k-1,by omega⟩
  obtain⟨m,rfl⟩:∃m,n=m+1:=⟨n-1,by omega⟩
  unfold tm;by_cases h:(m+1)%b=0
  ·have hq:0<(m+1)/b:=Nat.div_pos (Nat.le_of_dvd (by omega) (Nat.dvd_of_mod_eq_zero h)) (by omega)
   have hl:(m+1)/b<m+1:=Nat.div_lt_self (by omega) hb
   rw[if_pos h,if_pos h,ih _ hl k hq (by omega),ih _ hl m hq (by omega)]
  ·rw[if_neg h,if_neg h]
theorem tm_step (b n:Nat)(hb:2≤b)(h0:0<n)(h:n%b=0):tm n n b=((tm (n/b) (n/b) b).1+1,(tm (n/b) (n/b) b).2):=by
 obtain⟨m,rfl⟩:∃m,n=m+1:=⟨n-1,by omega⟩
 have hq:0<(m+1)/b:=Nat.div_pos (Nat.le_of_dvd (by omega) (Nat.dvd_of_mod_eq_zero h)) (by omega)
 have hl:(m+1)/b<m+1:=Nat.div_lt_self (by omega) hb
 rw[tm,if_pos h,tm_fuel b hb _ m hq (by omega)]
theorem qW (b n:Nat)(h:n%b≠0):tm n n b=(0,n):=by
 cases n with
 |zero=>rfl
 |succ m=>rw[tm,if_neg h]
def mu0 (a:Act):Nat:=match a.tmps[0]? with
 |some (Value.string s)=>dv s.data.toList
 |_=>0
theorem eqzero_bool (n:Nat):((natS n).toList==([48]:List UInt8))=decide (n=0):=by
 rw[Bool.eq_iff_iff,beq_iff_eq,decide_eq_true_eq,Lib.toList_data];constructor
 ·intro h
  exact(zh n).eq0.1 (z7 h)
 ·intro h
  rw[h];exact congrArg (fun s:ByteArray=>s.data.toList) ((zh 0).eq0.2 rfl)
def Bits (n:Nat):Prop:=∃k,k≤1000000∧n<2^k
theorem many_lt {n x many:Nat}(h:Bits n)(h2:2^many*x≤n)(hx:0<x):many<1000000:=by
 obtain⟨k,h1,h3⟩:=h;have h4:2^many*1≤2^many*x:=Nat.mul_le_mul_left _ hx;have:many<k:=(Nat.pow_lt_pow_iff_right (a:=2) (by omega)).1 (by omega)
 omega
theorem times_at (M:Nat)(hD:zX M)(n b:Nat)(hn:(natS n).size≤1000000)(hbs:(natS b).size≤1000000)(h0:0<n)(hb:2≤b)(hM:b<M)(hn2:Bits n)(w:World)(hg:Glob w):
 Calls Tryz.prog 218 #[.string (natS n),.string (natS b)] w fun e w'=>e= .returned (.tuple #[.int .i64 ((tm n n b).1:Int),.string (natS (tm n n b).2)])∧Below w.heap.size w w':=by
 have HD:=zc.mk hD;have HG:=zc.mk hg;clear hD hg;go_enter Tryz.func218,Tryz.ntmps218
 go_wp2_with fail;refine wp_scope_jumps 0 (fun a' w'=>∃(x many:Nat) (u7 u8 u9 u10 u11 u12 u13 u14 u15 u16 u17 u18 u19 u20 u21 u22 u23:Value),a'={tmps:=#[.string (natS x),.string (natS b),undef,undef,.int .i64 0,.string ⟨#[]⟩,.int .i64 (many:Int),u7,u8,u9,u10,u11,u12,u13,u14,u15,u16,u17,u18,u19,u20,u21,u22,u23],defers:=[]}∧zc (0<x∧x≤n∧tm n n b=(many+(tm x x b).1,(tm x x b).2)∧2^many*x≤n)∧zc ((natS x).size≤1000000)∧zc (Below w.heap.size w w')) (fun a' _=>mu0 a') rfl ?_ ?_
 ·have X0:zc (0<n∧n≤n∧tm n n b=(0+(tm n n b).1,(tm n n b).2)∧2^0*n≤n):=⟨h0,xc _,by rw[Nat.zero_add],by simp⟩
  have XS:zc ((natS n).size≤1000000):=⟨hn⟩;have B:=zc.mk (xb w.heap.size w);go_wp2_with fail;go_step3
  go_wp2_with fail;have HDv:=fun W h=>Lib.hid (jR M HD.out n b XS.out hbs (by omega) hM W h)
  have hz:=eqzero_bool (n%b);have hq0:n%b=0→0<n/b:=fun h=>Nat.div_pos (Nat.le_of_dvd X0.out.1 (Nat.dvd_of_mod_eq_zero h)) (by omega)
  have hql:n/b<n:=Nat.div_lt_self X0.out.1 hb;refine(HDv _ (HG.out.below B.out)).out.mono ?_;rintro e w1 ⟨rfl,hb1⟩;have B1:=zc.mk (B.out.trans (hb1.mono B.out.size));have hmany:=many_lt hn2 X0.out.2.2.2 X0.out.1;clear hb1 HDv;by_cases hr:n%b=0
  ·have ht:=tm_step b n hb X0.out.1 hr
   have X1:zc (0<n/b∧n/b≤n∧tm n n b=((0+1)+(tm (n/b) (n/b) b).1,(tm (n/b) (n/b) b).2)∧2^(0+1)*(n/b)≤n):=by
    obtain⟨a1,a2,a3,a4⟩:=X0.out;refine⟨hq0 hr,by omega,by rw[a3,ht];simp only[Prod.mk.injEq];exact⟨by omega,trivial⟩,?_⟩
    have h2:2*(n/b)≤n:=by
     have:=Nat.div_mul_le_self n b;have h3:n/b*2≤n/b*b:=Nat.mul_le_mul_left _ hb;omega
    have h3:2^0*(2*(n/b))≤2^0*n:=Nat.mul_le_mul_left _ h2;rw[Nat.pow_succ,Nat.mul_assoc];omega
   have XS1:zc ((natS (n/b)).size≤1000000):=⟨Nat.le_trans (zr (Nat.div_le_self _ _)) XS.out⟩;have hzt:((natS (n%b)).toList==([48]:List UInt8))=true:=by rw[hz];exact decide_eq_true hr
   have hzf:((natS (n%b)).toList !=([48]:List UInt8))=false:=by rw[bne,hzt];rfl
   have hzp:(natS (n%b)).toList=([48]:List UInt8):=by simpa using hzt
   clear hz hq0 ht hr X0 XS;generalize natS (n%b)=rs at*;obtain⟨y,hy⟩:∃y,n/b=y:=⟨_,rfl⟩;rw[hy]at X1 XS1 hql ⊢;clear hy;go_wp2_with fail;go_step3
   exact⟨rfl,⟨y,0+1,_,_,_,_,_,_,_,_,_,_,_,_,_,_,_,_,_,rfl,X1,XS1,B1⟩⟩
  ·have ht:=qW b n hr
   have X1:zc (tm n n b=(0,n)):=by
    obtain⟨a1,a2,a3,a4⟩:=X0.out;exact⟨by rw[a3,ht];rfl⟩
   have hzt:((natS (n%b)).toList==([48]:List UInt8))=false:=by rw[hz];exact decide_eq_false hr
   have hzf:((natS (n%b)).toList !=([48]:List UInt8))=true:=by rw[bne,hzt];rfl
   have hzp:¬(natS (n%b)).toList=([48]:List UInt8):=by simpa using hzt
   clear hz hq0 ht hr X0 XS hql;generalize natS (n%b)=rs at*;go_wp2_with fail;simp only[Exit.jump]
   (try simp only[Exit.inBlock,Exit.then])
   refine bodyPost_ret (v:= .tuple #[.int .i64 ((tm n n b).1:Int),.string (natS (tm n n b).2)]) ?_ rfl ⟨rfl,B1.out⟩;rw[X1.out];simp[results,Tryz.f218,go_sem]
 ·rintro a' wr ⟨x,many,u7,u8,u9,u10,u11,u12,u13,u14,u15,u16,u17,u18,u19,u20,u21,u22,u23,rfl,X0,XS,B⟩
  clear hn h0;go_wp2_with fail;have HDv:=fun W h=>Lib.hid (jR M HD.out x b XS.out hbs (by omega) hM W h)
  have hz:=eqzero_bool (x%b);have hq0:x%b=0→0<x/b:=fun h=>Nat.div_pos (Nat.le_of_dvd X0.out.1 (Nat.dvd_of_mod_eq_zero h)) (by omega)
  have hql:x/b<x:=Nat.div_lt_self X0.out.1 hb;refine(HDv _ (HG.out.below B.out)).out.mono ?_;rintro e w1 ⟨rfl,hb1⟩;have B1:=zc.mk (B.out.trans (hb1.mono B.out.size));have hmany:=many_lt hn2 X0.out.2.2.2 X0.out.1;clear hb1 HDv;by_cases hr:x%b=0
  ·have ht:=tm_step b x hb X0.out.1 hr
   have X1:zc (0<x/b∧x/b≤n∧tm n n b=((many+1)+(tm (x/b) (x/b) b).1,(tm (x/b) (x/b) b).2)∧2^(many+1)*(x/b)≤n):=by
    obtain⟨a1,a2,a3,a4⟩:=X0.out;refine⟨hq0 hr,by omega,by rw[a3,ht];simp only[Prod.mk.injEq];exact⟨by omega,trivial⟩,?_⟩
    have h2:2*(x/b)≤x:=by
     have:=Nat.div_mul_le_self x b;have h3:x/b*2≤x/b*b:=Nat.mul_le_mul_left _ hb;omega
    have h3:2^many*(2*(x/b))≤2^many*x:=Nat.mul_le_mul_left _ h2;rw[Nat.pow_succ,Nat.mul_assoc];omega
   have XS1:zc ((natS (x/b)).size≤1000000):=⟨Nat.le_trans (zr (Nat.div_le_self _ _)) XS.out⟩;have hzt:((natS (x%b)).toList==([48]:List UInt8))=true:=by rw[hz];exact decide_eq_true hr
   have hzf:((natS (x%b)).toList !=([48]:List UInt8))=false:=by rw[bne,hzt];rfl
   have hzp:(natS (x%b)).toList=([48]:List UInt8):=by simpa using hzt
   clear hz hq0 ht hr X0 XS;generalize natS (x%b)=rs at*;obtain⟨y,hy⟩:∃y,x/b=y:=⟨_,rfl⟩;rw[hy]at X1 XS1 hql ⊢;clear hy;go_wp2_with fail;go_step3
   refine⟨rfl,⟨y,many+1,_,_,_,_,_,_,_,_,_,_,_,_,_,_,_,_,_,rfl,X1,XS1,B1⟩,?_⟩;show dv _<dv _
   rw[(zh y).2,(zh x).2];exact hql
  ·have ht:=qW b x hr
   have X1:zc (tm n n b=(many,x)):=by
    obtain⟨a1,a2,a3,a4⟩:=X0.out;exact⟨by rw[a3,ht];rfl⟩
   have hzt:((natS (x%b)).toList==([48]:List UInt8))=false:=by rw[hz];exact decide_eq_false hr
   have hzf:((natS (x%b)).toList !=([48]:List UInt8))=true:=by rw[bne,hzt];rfl
   have hzp:¬(natS (x%b)).toList=([48]:List UInt8):=by simpa using hzt
   clear hz hq0 ht hr X0 XS hql;generalize natS (x%b)=rs at*;go_wp2_with fail;simp only[Exit.jump]
   (try simp only[Exit.inBlock,Exit.then])
   refine bodyPost_ret (v:= .tuple #[.int .i64 ((tm n n b).1:Int),.string (natS (tm n n b).2)]) ?_ rfl ⟨rfl,B1.out⟩;rw[X1.out];simp[results,Tryz.f218,go_sem]
def pl (d:Nat):Nat×Nat:=(max (tm d d 2).1 (tm (tm d d 2).2 (tm d d 2).2 5).1,(tm (tm d d 2).2 (tm d d 2).2 5).2)
theorem tm_le (b:Nat)(hb:2≤b):∀(n:Nat),0<n→0<(tm n n b).2∧(tm n n b).2≤n∧2^(tm n n b).1*(tm n n b).2≤n:=by
 intro n;induction n using Nat.strongRecOn with
 |ind n ih=>
  intro h0;by_cases h:n%b=0
  ·have hq:0<n/b:=Nat.div_pos (Nat.le_of_dvd (by omega) (Nat.dvd_of_mod_eq_zero h)) (by omega)
   have hl:n/b<n:=Nat.div_lt_self (by omega) hb
   obtain⟨h1,h2,h3⟩:=ih _ hl hq;rw[tm_step b n hb h0 h];refine⟨h1,by simp only;omega,?_⟩
   simp only;have h4:n/b*2≤n/b*b:=Nat.mul_le_mul_left _ hb;have h5:=Nat.div_mul_le_self n b;rw[Nat.pow_succ,Nat.mul_right_comm];omega
  ·rw[qW b n h]
   exact⟨h0,xc _,by simp⟩
theorem Bits.mono {n m:Nat}(h:Bits n)(hm:m≤n):Bits m:=by
 obtain⟨k,h1,h2⟩:=h;exact⟨k,h1,Nat.lt_of_le_of_lt hm h2⟩
theorem pl_le (d:Nat)(h0:0<d)(hb:Bits d):(pl d).1<1000000:=by
 obtain⟨h1,h2,h3⟩:=tm_le 2 (by omega) d h0
 obtain⟨h4,h5,h6⟩:=tm_le 5 (by omega) _ h1
 have q1:=many_lt hb h3 h1;have q2:=many_lt (hb.mono h2) h6 h4;unfold pl;simp only;omega
theorem places_at (M:Nat)(hD:zX M)(d:Nat)(hd:(natS d).size≤1000000)(h0:0<d)(hM:5<M)(hb:Bits d)(w:World)(hg:Glob w):
 Calls Tryz.prog 191 #[.string (natS d)] w fun e w'=>e= .returned (.tuple #[.int .i64 ((pl d).1:Int),.bool (decide ((pl d).2=1))])∧Below w.heap.size w w':=by
 obtain⟨h1,h2,h3⟩:=tm_le 2 (by omega) d h0
 have e2:natS 2=(⟨#[50]⟩:xf):=by unfold natS;rw[Lib.decDigits];rfl
 have e5:natS 5=(⟨#[53]⟩:xf):=by unfold natS;rw[Lib.decDigits];rfl
 have H1:=fun W h=>Lib.hid (times_at M hD d 2 hd (by rw[e2];decide) h0 (by omega) (by omega) hb W h)
 rw[e2]at H1;have H2:=fun W h=>Lib.hid (times_at M hD (tm d d 2).2 5 (Nat.le_trans (zr h2) hd) (by rw[e5];decide) h1 (by omega) hM (hb.mono h2) W h)
 rw[e5]at H2;have hone:∀n,((natS n).toList==([49]:List UInt8))=decide (n=1):=by
  intro n;rw[Bool.eq_iff_iff,beq_iff_eq,decide_eq_true_eq,Lib.toList_data];constructor
  ·intro h
   exact(zh n).eq1.1 (z7 h)
  ·intro h
   rw[h];exact congrArg (fun s:ByteArray=>s.data.toList) ((zh 1).eq1.2 rfl)
 have hpl1:(pl d).1=max (tm d d 2).1 (tm (tm d d 2).2 (tm d d 2).2 5).1:=rfl;have hpl2:(pl d).2=(tm (tm d d 2).2 (tm d d 2).2 5).2:=rfl;rw[hpl1,hpl2,←hone];clear hpl1 hpl2 hone h3 hb e2 e5 hD;have HG:=zc.mk hg;generalize (tm d d 2).1=m1 at*;generalize (tm d d 2).2=r1 at*;generalize (tm r1 r1 5).1=m2 at*;generalize (tm r1 r1 5).2=r2 at*;generalize natS d=ds at*;generalize natS r1=s1 at*;generalize natS r2=s2 at*;clear h1 h2 hd h0 hM hg;go_enter Tryz.func191,Tryz.ntmps191
 go_wp2_with fail;refine(H1 _ HG.out).out.mono ?_;rintro e w1 ⟨rfl,hb1⟩;go_wp2_with fail;refine(H2 _ (HG.out.below hb1)).out.mono ?_;rintro e w2 ⟨rfl,hb2⟩;have B:=zc.mk (hb1.trans (hb2.mono hb1.size));clear hb1 hb2 H1 H2;go_wp2_with fail;refine bodyPost_ret (results_tmp2 rfl _ _ _) rfl ?_;refine⟨?_,B.out⟩;have hmx:max (m1:Int) (m2:Int)=((max m1 m2:Nat):Int):=by omega
 simp[hmx]
theorem qZ (M:Nat)(hD:zX M)(z:Int)(d:Nat)(hz:(intS z).size≤1000000)(hd:(natS d).size≤1000000)(h0:0<d)(hM:d<M)(hM5:5<M)(hbt:Bits d)(hgcd:Nat.gcd z.natAbs d=1)(w:World)(hg:Glob w):
 Calls Tryz.prog 155 #[ratV z d] w fun e w'=>e= .returned (.tuple #[.int .i64 (if(pl d).2=1 then((pl d).1:Int)else 0),.bool (decide ((pl d).2=1))])∧Below w.heap.size w w':=by
 have H1:=fun W h=>Lib.hid (q9 M hD z d hz hd h0 hM W h)
 have ht:decide (Nat.gcd z.natAbs d=1)=true:=decide_eq_true hgcd;rw[ht]at H1;have H2:=fun W h=>Lib.hid (places_at M hD d hd h0 hM5 hbt W h)
 have HG:=zc.mk hg;unfold ratV at*;generalize natS d=ds at*;generalize intS z=zs at*;generalize pl d=p at*;obtain⟨p1,p2⟩:=p;simp only[]at H2 ⊢;clear hz hd h0 hM hg hD hgcd ht hM5 hbt;have k0:=j7 w (.cells #[.string zs,.string ds] 35);have B0:Below w.heap.size w (w.alloc (.cells #[.string zs,.string ds] 35)):=(xb _ w).alloc (xc _) _;by_cases hp:p2=1
 ·have hpd:decide (p2=1)=true:=decide_eq_true hp
  rw[hpd]at H2 ⊢;rw[if_pos hp];clear hp hpd;go_enter Tryz.func155,Tryz.ntmps155
  go_wp2_with fail;generalize w.alloc (.cells #[.string zs,.string ds] 35)=w0 at*;refine(H1 _ (HG.out.below B0)).out.mono ?_;rintro e w1 ⟨rfl,hb1⟩;have k1:=(hb1.block _ (xe k0).1).trans k0;have B1:=B0.trans (hb1.mono B0.size);have c1:w1.cell? ⟨w.heap.size,1,none⟩=some (.string ds):=by rw[j6 k1];rfl
  clear k0 B0 hb1 H1;go_wp2_with fail;refine(H2 _ (HG.out.below B1)).out.mono ?_;rintro e w2 ⟨rfl,hb2⟩;have B2:=B1.trans (hb2.mono B1.size);clear H2 hb2 B1;go_wp2_with fail;refine bodyPost_ret (results_tmp2 rfl _ _ _) rfl ?_;exact⟨rfl,B2⟩
 ·have hpd:decide (p2=1)=false:=decide_eq_false hp
  rw[hpd]at H2 ⊢;rw[if_neg hp];clear hp hpd;go_enter Tryz.func155,Tryz.ntmps155
  go_wp2_with fail;generalize w.alloc (.cells #[.string zs,.string ds] 35)=w0 at*;refine(H1 _ (HG.out.below B0)).out.mono ?_;rintro e w1 ⟨rfl,hb1⟩;have k1:=(hb1.block _ (xe k0).1).trans k0;have B1:=B0.trans (hb1.mono B0.size);have c1:w1.cell? ⟨w.heap.size,1,none⟩=some (.string ds):=by rw[j6 k1];rfl
  clear k0 B0 hb1 H1;go_wp2_with fail;refine(H2 _ (HG.out.below B1)).out.mono ?_;rintro e w2 ⟨rfl,hb2⟩;have B2:=B1.trans (hb2.mono B1.size);clear H2 hb2 B1;go_wp2_with fail;refine bodyPost_ret (results_tmp2 rfl _ _ _) rfl ?_;exact⟨rfl,B2⟩
def fracP (z:Int)(d:Nat):ByteArray:=(intS z++(⟨#[47]⟩:xf))++natS d
theorem decPrint0_at (M:Nat)(hD:zX M)(z:Int)(d:Nat)(hz:(intS z).size≤1000000)(hd:(natS d).size≤1000000)(h0:0<d)(hM:d<M)(hM5:5<M)(hbt:Bits d)(hgcd:Nat.gcd z.natAbs d=1)(hp:(pl d).2≠1∨(pl d).1=0)(w:World)(hg:Glob w):
 Calls Tryz.prog 157 #[ratV z d] w fun e w'=>e= .returned (.string (if(pl d).2=1 then intS z else fracP z d))∧Below w.heap.size w w':=by
 have H1:=fun W h=>Lib.hid (qZ M hD z d hz hd h0 hM hM5 hbt hgcd W h)
 have H2:=fun W h=>Lib.hid (q9 M hD z d hz hd h0 hM W h)
 have ht:decide (Nat.gcd z.natAbs d=1)=true:=decide_eq_true hgcd;rw[ht]at H2;have HG:=zc.mk hg;unfold fracP;unfold ratV at*;have o1:¬9223372036854775807<(intS z).size+(⟨#[47]⟩:xf).size:=by have:(⟨#[47]⟩:xf).size=1:=rfl;omega
 have o2:¬9223372036854775807<(intS z++(⟨#[47]⟩:xf)).size+(natS d).size:=by rw[j8];have:(⟨#[47]⟩:xf).size=1:=rfl;omega
 have o3:¬9223372036854775807<(intS z).size+1:=by omega
 generalize natS d=ds at*;generalize intS z=zs at*;generalize pl d=p at*;obtain⟨p1,p2⟩:=p;simp only[]at H1 hp ⊢;clear hz hd h0 hM hg hD hgcd ht hM5 hbt;have k0:=j7 w (.cells #[.string zs,.string ds] 35);have B0:Below w.heap.size w (w.alloc (.cells #[.string zs,.string ds] 35)):=(xb _ w).alloc (xc _) _;by_cases hp2:p2=1
 ·have hpd:decide (p2=1)=true:=decide_eq_true hp2
  have hp1:p1=0:=by rcases hp with h|h;exact absurd hp2 h;exact h
  subst hp1;rw[hpd,if_pos hp2]at H1;rw[if_pos hp2];clear hp hp2 hpd;go_enter Tryz.func157,Tryz.ntmps157
  go_wp2_with fail;generalize w.alloc (.cells #[.string zs,.string ds] 35)=w0 at*;refine(H1 _ (HG.out.below B0)).out.mono ?_;rintro e w1 ⟨rfl,hb1⟩;have k1:=(hb1.block _ (xe k0).1).trans k0;have B1:=B0.trans (hb1.mono B0.size);have c0:w1.cell? ⟨w.heap.size,0,none⟩=some (.string zs):=by rw[j6 k1];rfl
  have c1:w1.cell? ⟨w.heap.size,1,none⟩=some (.string ds):=by rw[j6 k1];rfl
  clear k0 B0 hb1 H1;go_wp2_with fail;refine(H2 _ (HG.out.below B1)).out.mono ?_;rintro e w2 ⟨rfl,hb2⟩;have k2:=(hb2.block _ (xe k1).1).trans k1;have B2:=B1.trans (hb2.mono B1.size);have c2:w2.cell? ⟨w.heap.size,0,none⟩=some (.string zs):=by rw[j6 k2];rfl
  clear H2 hb2 B1 k1 c0 c1;go_wp2_with fail;go_ret;exact⟨rfl,B2⟩
 ·have hpd:decide (p2=1)=false:=decide_eq_false hp2
  rw[hpd,if_neg hp2]at H1;rw[if_neg hp2];clear hp hp2 hpd;go_enter Tryz.func157,Tryz.ntmps157
  go_wp2_with fail;generalize w.alloc (.cells #[.string zs,.string ds] 35)=w0 at*;refine(H1 _ (HG.out.below B0)).out.mono ?_;rintro e w1 ⟨rfl,hb1⟩;have k1:=(hb1.block _ (xe k0).1).trans k0;have B1:=B0.trans (hb1.mono B0.size);have c0:w1.cell? ⟨w.heap.size,0,none⟩=some (.string zs):=by rw[j6 k1];rfl
  have c1:w1.cell? ⟨w.heap.size,1,none⟩=some (.string ds):=by rw[j6 k1];rfl
  clear k0 B0 hb1 H1;go_wp2_with fail;refine(H2 _ (HG.out.below B1)).out.mono ?_;rintro e w2 ⟨rfl,hb2⟩;have k2:=(hb2.block _ (xe k1).1).trans k1;have B2:=B1.trans (hb2.mono B1.size);have c2:w2.cell? ⟨w.heap.size,0,none⟩=some (.string zs):=by rw[j6 k2];rfl
  have c3:w2.cell? ⟨w.heap.size,1,none⟩=some (.string ds):=by rw[j6 k2];rfl
  clear H2 hb2 B1 k1 c0 c1;go_wp2_with fail;go_ret;exact⟨rfl,B2⟩
def MulOK (n m:Nat):Prop:=∀w,Glob w→Calls Tryz.prog 192 #[.string (natS n),.string (natS m)] w fun e w'=>e= .returned (.string (natS (n*m)))∧Below w.heap.size w w'
def padD (x n:Nat):ByteArray:=(⟨(List.replicate (n+1-(natS x).size) 48).toArray⟩:ByteArray)++natS x
def decP (z:Int)(n unit:Nat):ByteArray:=
 ((((if z<0 then(⟨#[45]⟩:xf)else⟨#[]⟩)++(padD (z.natAbs*unit) n).extract 0 ((padD (z.natAbs*unit) n).size-n))++(⟨#[46]⟩:xf))++(padD (z.natAbs*unit) n).extract ((padD (z.natAbs*unit) n).size-n) (padD (z.natAbs*unit) n).size)
theorem decPrintN_at (M:Nat)(hD:zX M)(z:Int)(d:Nat)(hz:(intS z).size≤1000000)(hd:(natS d).size≤1000000)(h0:0<d)(hM:d<M)(hM5:5<M)(hbt:Bits d)(hgcd:Nat.gcd z.natAbs d=1)(hp2:(pl d).2=1)(hp0:0<(pl d).1)(hmul:MulOK z.natAbs (10^(pl d).1/d))(hsz:(natS (z.natAbs*(10^(pl d).1/d))).size≤1000000)(w:World)(hg:Glob w):
 Calls Tryz.prog 157 #[ratV z d] w fun e w'=>e= .returned (.string (decP z (pl d).1 (10^(pl d).1/d)))∧Below w.heap.size w w':=by
 have hpl:=pl_le d h0 hbt;have H1:=fun W h=>Lib.hid (qZ M hD z d hz hd h0 hM hM5 hbt hgcd W h)
 rw[if_pos hp2]at H1;have hpd:decide ((pl d).2=1)=true:=decide_eq_true hp2;rw[hpd]at H1;have H2:=fun W h=>Lib.hid (q9 M hD z d hz hd h0 hM W h)
 have ht:decide (Nat.gcd z.natAbs d=1)=true:=decide_eq_true hgcd;rw[ht]at H2;have H3:=fun W=>Lib.hid (power_at (pl d).1 (by omega) W)
 have hps:(natS (10^(pl d).1)).size≤1000000:=by
  rw[←(pow_isN (pl d).1).eq,j8];show 1+(List.replicate (pl d).1 (48:UInt8)).toArray.size≤_
  simp;omega
 have H4:=fun W h=>Lib.hid (jR M hD (10^(pl d).1) d hps hd h0 hM W h)
 have H5:=fun W=>Lib.hid (abs_at z hz W)
 have H6:=fun W h=>Lib.hid (hmul W h)
 have H7:=fun W=>Lib.hid (Tryz.strings_Repeat ⟨#[48]⟩ ((pl d).1+1-(natS (z.natAbs*(10^(pl d).1/d))).size) W (by omega) (by rw[show(⟨#[48]⟩:xf).size=1 from rfl,Nat.one_mul];omega))
 rw[js]at H7;have H8:=fun W=>Lib.hid (wsign_at z hz W)
 have HG:=zc.mk hg;obtain⟨R,hR⟩:∃R,decP z (pl d).1 (10^(pl d).1/d)=R:=⟨_,rfl⟩;rw[hR];unfold decP padD at hR;have hzs:(⟨(List.replicate ((pl d).1+1-(natS (z.natAbs*(10^(pl d).1/d))).size) (48:UInt8)).toArray⟩:ByteArray).size=(pl d).1+1-(natS (z.natAbs*(10^(pl d).1/d))).size:=by
  show(List.replicate _ (48:UInt8)).toArray.size=_
  simp
 have hsgn:decide (sgn z<0)=decide (z<0):=by
  rw[decide_eq_decide];unfold sgn;split
  ·constructor<;>intro _<;>omega
  ·split<;>constructor<;>intro _<;>omega
 unfold ratV at*;generalize (⟨(List.replicate ((pl d).1+1-(natS (z.natAbs*(10^(pl d).1/d))).size) (48:UInt8)).toArray⟩:ByteArray)=zeros at*;generalize natS (z.natAbs*(10^(pl d).1/d))=pr at*;generalize natS (10^(pl d).1/d)=un at*;generalize natS (10^(pl d).1%d)=um at*;generalize natS (10^(pl d).1)=pw at*;generalize natS z.natAbs=za at*;generalize natS d=ds at*;generalize intS z=zs at*;generalize (pl d).1=n at*;clear hz hd h0 hM hg hD hgcd ht hM5 hbt hp2 hpd hps hmul;have k0:=j7 w (.cells #[.string zs,.string ds] 35);have B0:Below w.heap.size w (w.alloc (.cells #[.string zs,.string ds] 35)):=(xb _ w).alloc (xc _) _;have hpa:(zeros++pr).size=zeros.size+pr.size:=j8;have HR:=zc.mk hR;clear hR;have hn0:¬((n:Int)=0):=by omega
 have ov1:¬9223372036854775807<zeros.size+pr.size:=by omega
 go_enter Tryz.func157,Tryz.ntmps157
 go_wp2_with fail;generalize w.alloc (.cells #[.string zs,.string ds] 35)=w0 at*;refine(H1 _ (HG.out.below B0)).out.mono ?_;rintro e w1 ⟨rfl,hb1⟩;have k1:=(hb1.block _ (xe k0).1).trans k0;have B1:=B0.trans (hb1.mono B0.size);have c0:w1.cell? ⟨w.heap.size,0,none⟩=some (.string zs):=by rw[j6 k1];rfl
 have c1:w1.cell? ⟨w.heap.size,1,none⟩=some (.string ds):=by rw[j6 k1];rfl
 clear k0 B0 hb1 H1;go_wp2_with fail;refine(H2 _ (HG.out.below B1)).out.mono ?_;rintro e w2 ⟨rfl,hb2⟩;have k2:=(hb2.block _ (xe k1).1).trans k1;have B2:=B1.trans (hb2.mono B1.size);clear H2 hb2 B1 k1 c0 c1;go_wp2_with fail;have hSB:∀w':World,Below w2.heap.size w2 w'→w'.cell? ⟨w.heap.size,1,none⟩=some (.string ds):=fun w' hb=>by
  have k:=(hb.block _ (xe k2).1).trans k2;rw[j6 k];rfl
 have HB:=zc.mk (xb w2.heap.size w2);have hGB:∀w':World,Below w2.heap.size w2 w'→Glob w':=fun w' hb=>HG.out.below (B2.trans (hb.mono B2.size))
 go_region_held3 (fun w':World=>w'.cell? ⟨w.heap.size,1,none⟩=some (.string ds)) (exact hSB _ bb) (first|(go_at_call 69;with_reducible refine(H3 _).out.mono ?_;rintro e w' ⟨rfl,hb⟩;have n0:=zc.mk (zi bb hb);clear HB hb;have HB:=n0;clear n0)|(go_at_call 186;with_reducible refine(H4 _ ?_).out.mono ?_;(exact hGB _ bb);rintro e w' ⟨rfl,hb⟩;have n0:=zc.mk (zi bb hb);clear HB hb;have HB:=n0;clear n0))
 have k3:=(HB.out.block _ (xe k2).1).trans k2;have B3:=B2.trans (HB.out.mono B2.size);have c3:w'.cell? ⟨w.heap.size,0,none⟩=some (.string zs):=by rw[j6 k3];rfl
 clear k2 B2 hSB hGB HB H3 H4;go_wp2_with fail;refine(H5 _).out.mono ?_;rintro e w4 ⟨rfl,hb4⟩;have k4:=(hb4.block _ (xe k3).1).trans k3;have B4:=B3.trans (hb4.mono B3.size);clear k3 B3 hb4 c3 H5;go_wp2_with fail;refine(H6 _ (HG.out.below B4)).out.mono ?_;rintro e w5 ⟨rfl,hb5⟩;have k5:=(hb5.block _ (xe k4).1).trans k4;have B5:=B4.trans (hb5.mono B4.size);clear k4 B4 hb5 H6;go_wp2_with fail;rw[show max ((n:Int)+1-(pr.size:Int)) 0=((n+1-pr.size:Nat):Int) by omega]
 refine(H7 _).out.mono ?_;rintro e w6 ⟨rfl,hb6⟩;have k6:=(hb6.block _ (xe k5).1).trans k5;have B6:=B5.trans (hb6.mono B5.size);have c6:w6.cell? ⟨w.heap.size,0,none⟩=some (.string zs):=by rw[j6 k6];rfl
 clear k5 B5 hb6 H7;have hpz:n+1≤(zeros++pr).size:=by omega
 have hpz2:(zeros++pr).size≤2000001:=by omega
 go_wp2_with fail;refine(H8 _).out.mono ?_;rintro e w7 ⟨rfl,hb7⟩;have B7:=B6.trans (hb7.mono B6.size);clear k6 B6 hb7 H8 c6;clear hpa hzs ov1 hsz;generalize zeros++pr=P at*;obtain⟨m,hm⟩:∃m,P.size-n=m:=⟨_,rfl⟩;have hmi:(P.size:Int)-(n:Int)=(m:Int):=by omega
 rw[hm]at HR;have o45:(⟨#[45]⟩:xf).size=1:=rfl;have o46:(⟨#[46]⟩:xf).size=1:=rfl;have ob:(⟨#[]⟩:xf).size=0:=rfl;have e1:(P.extract 0 m).size=m:=by rw[ByteArray.size_extract];omega
 have e2:(P.extract m P.size).size=n:=by rw[ByteArray.size_extract];omega
 by_cases hz0:z<0
 ·have hs:decide (sgn z<0)=true:=by rw[hsgn];exact decide_eq_true hz0
  have hs2:sgn z<0:=of_decide_eq_true hs;rw[if_pos hz0]at HR;have v1:¬9223372036854775807<(⟨#[45]⟩:xf).size+(P.extract 0 m).size:=by omega
  have v1':¬9223372036854775807<1+(P.extract 0 m).size:=by omega
  have v2:¬9223372036854775807<((⟨#[45]⟩:xf)++P.extract 0 m).size+(⟨#[46]⟩:xf).size:=by rw[j8];omega
  have v2':¬9223372036854775807<((⟨#[45]⟩:xf)++P.extract 0 m).size+1:=by rw[j8];omega
  have v3:¬9223372036854775807<((⟨#[45]⟩:xf)++P.extract 0 m++(⟨#[46]⟩:xf)).size+(P.extract m P.size).size:=by rw[j8,j8];omega
  have x1:¬(P.size:Int)<(m:Int):=by omega
  generalize hP1:P.extract 0 m=P1 at*;generalize hP2:P.extract m P.size=P2 at*;go_wp2_with fail;go_quiet (fail)
  go_wp2_with fail;go_ret;exact⟨by rw[←HR.out];rfl,ze B7 _⟩
 ·have hs:decide (sgn z<0)=false:=by rw[hsgn];exact decide_eq_false hz0
  have hs2:¬sgn z<0:=of_decide_eq_false hs;rw[if_neg hz0]at HR;have v1:¬9223372036854775807<(⟨#[]⟩:xf).size+(P.extract 0 m).size:=by omega
  have v1':¬9223372036854775807<0+(P.extract 0 m).size:=by omega
  have v2:¬9223372036854775807<((⟨#[]⟩:xf)++P.extract 0 m).size+(⟨#[46]⟩:xf).size:=by rw[j8];omega
  have v2':¬9223372036854775807<((⟨#[]⟩:xf)++P.extract 0 m).size+1:=by rw[j8];omega
  have v3:¬9223372036854775807<((⟨#[]⟩:xf)++P.extract 0 m++(⟨#[46]⟩:xf)).size+(P.extract m P.size).size:=by rw[j8,j8];omega
  have x1:¬(P.size:Int)<(m:Int):=by omega
  generalize hP1:P.extract 0 m=P1 at*;generalize hP2:P.extract m P.size=P2 at*;go_wp2_with fail;go_quiet (fail)
  go_wp2_with fail;go_ret;exact⟨by rw[←HR.out];rfl,ze B7 _⟩
def numP (z:Int)(d:Nat):ByteArray:=
 if(pl d).2=1∧(pl d).1≤20∧0≤z then(if(pl d).1=0 then intS z else decP z (pl d).1 (10^(pl d).1/d))
 else((((⟨#[110,117,109,40]⟩:xf)++intS z)++(⟨#[44,32]⟩:xf))++natS d)++(⟨#[41]⟩:xf)
structure RatOK (M:Nat) (z:Int) (d:Nat):Prop where
 hz:(intS z).size≤1000
 hd:(natS d).size≤1000
 h0:0<d
 hM:d<M
 hb:Bits d
 hg:Nat.gcd z.natAbs d=1
 hmul:0<(pl d).1→(pl d).1≤20→(pl d).2=1→MulOK z.natAbs (10^(pl d).1/d)
theorem jP (a b:Nat)(ha:(natS a).size≤1000)(hb:(natS b).size≤1000):(natS (a*b)).size≤1000000:=by
 have e:∀n,(natS n).size=(Lib.decDigits n).length:=fun n=>by show(natS n).data.toList.length=_;rw[zq]
 have h1:=qt _ (zF a).1;have h2:=qt _ (zF b).1;rw[(zF a).2.1]at h1;rw[(zF b).2.1]at h2;rw[e]at ha hb ⊢;have h3:a*b<10^(Lib.decDigits a).length*10^(Lib.decDigits b).length:=Nat.mul_lt_mul'' h1 h2;rw[←Nat.pow_add]at h3;have h4:0<(Lib.decDigits a).length:=List.length_pos_iff.2 (zF a).2.2.1;have:=zH (a*b) _ h3 (by omega)
 omega
theorem number_at (M:Nat)(hD:zX M)(hM5:5<M)(z:Int)(d:Nat)(hr:RatOK M z d)(w:World)(hg:Glob w):
 Calls Tryz.prog 119 #[ratV z d] w fun e w'=>e= .returned (.string (numP z d))∧Below w.heap.size w w':=by
 obtain⟨hz,hd,h0,hM,hb,hgcd,hmul⟩:=hr;have H1:=fun W h=>Lib.hid (qZ M hD z d (by omega) (by omega) h0 hM hM5 hb hgcd W h)
 have H2:=fun W h=>Lib.hid (ratSign_at M hD z d (by omega) (by omega) h0 hM hgcd W h)
 have HG:=zc.mk hg;obtain⟨R,hR⟩:∃R,numP z d=R:=⟨_,rfl⟩;rw[hR];have k0:=j7 w (.cells #[.string (intS z),.string (natS d)] 35);have B0:Below w.heap.size w (w.alloc (.cells #[.string (intS z),.string (natS d)] 35)):=(xb _ w).alloc (xc _) _;by_cases hc:(pl d).2=1∧(pl d).1≤20∧0≤z
 ·obtain⟨c1,c2,c3⟩:=hc
  have H3:∀W,Glob W→Calls Tryz.prog 157 #[ratV z d] W fun e w'=>e= .returned (.string R)∧Below W.heap.size W w':=by
   intro W hW;unfold numP at hR;rw[if_pos ⟨c1,c2,c3⟩]at hR;by_cases hp:(pl d).1=0
   ·rw[if_pos hp]at hR
    have h:=decPrint0_at M hD z d (by omega) (by omega) h0 hM hM5 hb hgcd (.inr hp) W hW
    rw[if_pos c1,hR]at h;exact h
   ·rw[if_neg hp]at hR
    have hun:(natS (10^(pl d).1/d)).size≤1000:=by
     have h1:(natS (10^(pl d).1)).size=1+(pl d).1:=by
      rw[←(pow_isN (pl d).1).eq,j8];show 1+(List.replicate (pl d).1 (48:UInt8)).toArray.size=_
      simp
     have h2:=zr (Nat.div_le_self (10^(pl d).1) d);omega
    have hza:(natS z.natAbs).size≤1000:=by
     unfold intS at hz;rw[if_neg (by omega)]at hz
     exact hz
    have h:=decPrintN_at M hD z d (by omega) (by omega) h0 hM hM5 hb hgcd c1 (by omega) (hmul (by omega) c2 c1) (jP _ _ hza hun) W hW
    rw[hR]at h;exact h
  have H3':=fun W h=>Lib.hid (H3 W h)
  rw[if_pos c1,decide_eq_true c1]at H1;have hs:¬sgn z<0:=by unfold sgn;rw[if_neg (by omega)];split<;>omega
  have hs2:0≤sgn z:=by omega
  have hn20:((pl d).1:Int)≤20:=by omega
  unfold ratV at*;generalize intS z=zs at*;generalize natS d=ds at*;generalize sgn z=sg at*;generalize (pl d).1=n at*;clear H3 hR hz hd h0 hM hb hgcd hmul c1 c2 c3 hg hD hM5;go_enter Tryz.func119,Tryz.ntmps119
  go_wp2_with fail;generalize w.alloc (.cells #[.string zs,.string ds] 35)=w0 at*;refine(H1 _ (HG.out.below B0)).out.mono ?_;rintro e w1 ⟨rfl,hb1⟩;have k1:=(hb1.block _ (xe k0).1).trans k0;have B1:=B0.trans (hb1.mono B0.size);have x0:w1.cell? ⟨w.heap.size,0,none⟩=some (.string zs):=by rw[j6 k1];rfl
  have x1:w1.cell? ⟨w.heap.size,1,none⟩=some (.string ds):=by rw[j6 k1];rfl
  clear k0 B0 hb1 H1;go_wp2_with fail;refine(H2 _ (HG.out.below B1)).out.mono ?_;rintro e w2 ⟨rfl,hb2⟩;have k2:=(hb2.block _ (xe k1).1).trans k1;have B2:=B1.trans (hb2.mono B1.size);have y0:w2.cell? ⟨w.heap.size,0,none⟩=some (.string zs):=by rw[j6 k2];rfl
  have y1:w2.cell? ⟨w.heap.size,1,none⟩=some (.string ds):=by rw[j6 k2];rfl
  clear k1 B1 hb2 H2 x0 x1;go_wp2_with fail;refine(H3' _ (HG.out.below B2)).out.mono ?_;rintro e w3 ⟨rfl,hb3⟩;have B3:=B2.trans (hb3.mono B2.size);go_wp2_with fail;go_ret;exact⟨rfl,B3⟩
 ·unfold numP at hR
  rw[if_neg hc]at hR;have HR:=zc.mk hR;have o1:¬9223372036854775807<(⟨#[110,117,109,40]⟩:xf).size+(intS z).size:=by rw[show(⟨#[110,117,109,40]⟩:xf).size=4 from rfl];omega
  have o1':¬9223372036854775807<4+(intS z).size:=by omega
  have o2:¬9223372036854775807<((⟨#[110,117,109,40]⟩:xf)++intS z).size+(⟨#[44,32]⟩:xf).size:=by rw[j8,show(⟨#[110,117,109,40]⟩:xf).size=4 from rfl,show(⟨#[44,32]⟩:xf).size=2 from rfl];omega
  have o2':¬9223372036854775807<((⟨#[110,117,109,40]⟩:xf)++intS z).size+2:=o2;have o3:¬9223372036854775807<((⟨#[110,117,109,40]⟩:xf)++intS z++(⟨#[44,32]⟩:xf)).size+(natS d).size:=by rw[j8,j8,show(⟨#[110,117,109,40]⟩:xf).size=4 from rfl,show(⟨#[44,32]⟩:xf).size=2 from rfl];omega
  have o4:¬9223372036854775807<((⟨#[110,117,109,40]⟩:xf)++intS z++(⟨#[44,32]⟩:xf)++natS d).size+(⟨#[41]⟩:xf).size:=by rw[j8,j8,j8,show(⟨#[110,117,109,40]⟩:xf).size=4 from rfl,show(⟨#[44,32]⟩:xf).size=2 from rfl,show(⟨#[41]⟩:xf).size=1 from rfl];omega
  have o4':¬9223372036854775807<((⟨#[110,117,109,40]⟩:xf)++intS z++(⟨#[44,32]⟩:xf)++natS d).size+1:=o4;by_cases c1:(pl d).2=1
  ·rw[if_pos c1,decide_eq_true c1]at H1
   by_cases c2:(pl d).1≤20
   ·have c3:¬0≤z:=fun h=>hc ⟨c1,c2,h⟩
    have hs:sgn z<0:=by unfold sgn;rw[if_pos (by omega)];omega
    have hs2:¬0≤sgn z:=by omega
    have hn20:((pl d).1:Int)≤20:=by omega
    unfold ratV at*;generalize intS z=zs at*;generalize natS d=ds at*;generalize sgn z=sg at*;generalize (pl d).1=n at*;clear hR hz hd h0 hM hb hgcd hmul hc hg hD hM5;go_enter Tryz.func119,Tryz.ntmps119
    go_wp2_with fail;generalize w.alloc (.cells #[.string zs,.string ds] 35)=w0 at*;refine(H1 _ (HG.out.below B0)).out.mono ?_;rintro e w1 ⟨rfl,hb1⟩;have k1:=(hb1.block _ (xe k0).1).trans k0;have B1:=B0.trans (hb1.mono B0.size);have x0:w1.cell? ⟨w.heap.size,0,none⟩=some (.string zs):=by rw[j6 k1];rfl
    have x1:w1.cell? ⟨w.heap.size,1,none⟩=some (.string ds):=by rw[j6 k1];rfl
    clear k0 B0 hb1 H1;go_wp2_with fail;refine(H2 _ (HG.out.below B1)).out.mono ?_;rintro e w2 ⟨rfl,hb2⟩;have k2:=(hb2.block _ (xe k1).1).trans k1;have B2:=B1.trans (hb2.mono B1.size);have y0:w2.cell? ⟨w.heap.size,0,none⟩=some (.string zs):=by rw[j6 k2];rfl
    have y1:w2.cell? ⟨w.heap.size,1,none⟩=some (.string ds):=by rw[j6 k2];rfl
    clear k1 B1 hb2 H2 x0 x1;go_wp2_with fail;go_ret;exact⟨by rw[←HR.out];rfl,B2⟩
   ·have hn20:¬((pl d).1:Int)≤20:=by omega
    unfold ratV at*;generalize intS z=zs at*;generalize natS d=ds at*;generalize sgn z=sg at*;generalize (pl d).1=n at*;clear hR hz hd h0 hM hb hgcd hmul hc hg hD hM5;go_enter Tryz.func119,Tryz.ntmps119
    go_wp2_with fail;generalize w.alloc (.cells #[.string zs,.string ds] 35)=w0 at*;refine(H1 _ (HG.out.below B0)).out.mono ?_;rintro e w1 ⟨rfl,hb1⟩;have k1:=(hb1.block _ (xe k0).1).trans k0;have B1:=B0.trans (hb1.mono B0.size);have x0:w1.cell? ⟨w.heap.size,0,none⟩=some (.string zs):=by rw[j6 k1];rfl
    have x1:w1.cell? ⟨w.heap.size,1,none⟩=some (.string ds):=by rw[j6 k1];rfl
    clear k0 B0 hb1 H1;go_wp2_with fail;go_ret;exact⟨by rw[←HR.out];rfl,B1⟩
  ·rw[if_neg c1,decide_eq_false c1]at H1
   unfold ratV at*;generalize intS z=zs at*;generalize natS d=ds at*;generalize sgn z=sg at*;generalize (pl d).1=n at*;clear hR hz hd h0 hM hb hgcd hmul hc hg hD hM5;go_enter Tryz.func119,Tryz.ntmps119
   go_wp2_with fail;generalize w.alloc (.cells #[.string zs,.string ds] 35)=w0 at*;refine(H1 _ (HG.out.below B0)).out.mono ?_;rintro e w1 ⟨rfl,hb1⟩;have k1:=(hb1.block _ (xe k0).1).trans k0;have B1:=B0.trans (hb1.mono B0.size);have x0:w1.cell? ⟨w.heap.size,0,none⟩=some (.string zs):=by rw[j6 k1];rfl
   have x1:w1.cell? ⟨w.heap.size,1,none⟩=some (.string ds):=by rw[j6 k1];rfl
   clear k0 B0 hb1 H1;go_wp2_with fail;go_ret;exact⟨by rw[←HR.out];rfl,B1⟩
def nmB (b:UInt8):Bool:=(decide (97≤b.toNat)&&decide (b.toNat≤122))||(decide (48≤b.toNat)&&decide (b.toNat≤57))
structure NmOK (s:ByteArray):Prop where
 h0:0<s.size
 h20:s.size≤20
 hall:s.data.toList.all nmB=true
 hf0:97≤(s.get! 0).toNat
 hf1:(s.get! 0).toNat≤122
theorem nmset (b:UInt8):([97,98,99,100,101,102,103,104,105,106,107,108,109,110,111,112,113,114,115,116,117,118,119,120,121,122,48,49,50,51,52,53,54,55,56,57]:List UInt8).contains b=nmB b:=by
 have h:∀n,n<256→([97,98,99,100,101,102,103,104,105,106,107,108,109,110,111,112,113,114,115,116,117,118,119,120,121,122,48,49,50,51,52,53,54,55,56,57]:List UInt8).contains (UInt8.ofNat n)=nmB (UInt8.ofNat n):=by decide+kernel
 have:=h b.toNat (UInt8.toNat_lt b);rwa [UInt8.ofNat_toNat]at this
theorem trim_all (l:List UInt8)(h:l.all nmB=true):Lib.trimS l [97,98,99,100,101,102,103,104,105,106,107,108,109,110,111,112,113,114,115,116,117,118,119,120,121,122,48,49,50,51,52,53,54,55,56,57]=[]:=by
 unfold Lib.trimS Lib.trimLeftS Lib.trimRightS;simp only[nmset];rw[List.all_eq_true]at h;rw[dropWhile_nil.2 (fun x hx=>h x (List.mem_reverse.1 hx))]
 rfl
theorem list_cons_get (s:ByteArray)(h:0<s.size):∃t,s.data.toList=s.get! 0::t:=by
 have h1:s.data.toList.length=s.size:=by simp
 cases hl:s.data.toList with
 |nil=>rw[hl]at h1;simp at h1;omega
 |cons x t=>
  refine⟨t,?_⟩;congr 1
  have h2:s.get! 0=s.data[0]! :=rfl;have h3:s.data[0]? =some x:=by rw[←Array.getElem?_toList,hl];rfl
  rw[h2,getElem!_def,h3]
theorem name_at (s:ByteArray)(hs:NmOK s)(w:World):
 Calls Tryz.prog 190 #[.string s] w fun e w'=>e= .returned (.bool true)∧Below w.heap.size w w':=by
 obtain⟨h0,h20,hall,hf0,hf1⟩:=hs;obtain⟨t,ht⟩:=list_cons_get s h0;have hp:Lib.trimPrefix s.data.toList [33]=s.data.toList:=by
  rw[ht];generalize s.get! 0=b at*;have hb:¬b=33:=by intro h;subst h;simp at hf0
  simp[Lib.trimPrefix,Lib.hasPrefix,List.isPrefixOf,hb,Ne.symm hb]
 have HP:=fun W=>Lib.hid (Tryz.strings_TrimPrefix s ⟨#[33]⟩ W)
 have e1:(⟨#[33]⟩:xf).data.toList=[33]:=rfl;rw[e1,hp,Lib.mk_data]at HP;have HT:=fun W=>Lib.hid (Any.strings_Trim_laid Tryz.lays160 (by kernel_rfl) s ⟨#[97,98,99,100,101,102,103,104,105,106,107,108,109,110,111,112,113,114,115,116,117,118,119,120,121,122,48,49,50,51,52,53,54,55,56,57]⟩ W (by omega) (by decide) (ascii_of_all (by decide+kernel)))
 have e2:(⟨#[97,98,99,100,101,102,103,104,105,106,107,108,109,110,111,112,113,114,115,116,117,118,119,120,121,122,48,49,50,51,52,53,54,55,56,57]⟩:xf).data.toList=[97,98,99,100,101,102,103,104,105,106,107,108,109,110,111,112,113,114,115,116,117,118,119,120,121,122,48,49,50,51,52,53,54,55,56,57]:=rfl;rw[e2,trim_all _ hall]at HT;have hne:(s.toList !=([]:List UInt8))=true:=by rw[Lib.toList_data,ht];rfl
 have hne2:¬s.toList=([]:List UInt8):=by rw[Lib.toList_data,ht];simp
 have hsz:(s.size:Int)≤20:=by omega
 clear ht hp hall hf0 hf1 e1 e2;go_enter Tryz.func190,Tryz.ntmps190
 go_wp2_with fail;refine(HP _).out.mono ?_;rintro e w1 ⟨rfl,rfl⟩;go_wp2_with fail;refine(HT _).out.mono ?_;rintro e w2 ⟨rfl,hb2⟩;go_wp2_with fail;go_ret;have he:s.toList.isEmpty=false:=by cases hl:s.toList with
  |nil=>exact absurd hl hne2
  |cons _ _=>rfl
 exact⟨by simp[he],hb2⟩
theorem asset_at (s:ByteArray)(hs:NmOK s)(w:World):
 Calls Tryz.prog 153 #[.string s] w fun e w'=>e= .returned (.bool true)∧Below w.heap.size w w':=by
 have HP:=fun W=>Lib.hid (name_at s hs W)
 obtain⟨h0,h20,hall,hf0,hf1⟩:=hs;have h0':0<(s.size:Int):=by omega
 have hx:s[0]'h0=s.get! 0:=(getElem!_pos s.data 0 h0).symm;have hf2:((s[0]'h0).toNat:Int)≤122:=by rw[hx];omega
 have hf3:97≤((s[0]'h0).toNat:Int):=by rw[hx];omega
 clear hall hf0 hf1 hx;go_enter Tryz.func153,Tryz.ntmps153
 go_wp2_with fail;refine(HP _).out.mono ?_;rintro e w1 ⟨rfl,hb1⟩;go_wp2_with fail;go_ret;exact⟨rfl,hb1⟩
end Go.Proofs.YtjopepfemhckjaaGreatDoor.NW
end
