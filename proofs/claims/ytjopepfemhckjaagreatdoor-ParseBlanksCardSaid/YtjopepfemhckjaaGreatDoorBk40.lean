/-
  Part 40 of the proof of parseBlanks_holds: texts of this seat, put together.
-/
import Derived.Test.YtjopepfemhckjaaGreatDoorBk39
set_option linter.unusedVariables false
set_option linter.unusedSimpArgs false
section
set_option maxRecDepth 100000
namespace Go.Proofs.YtjopepfemhckjaaGreatDoor.NW
open Go.Proofs Go.RowKit Go.Shelf Go.Proofs.YtjopepfemhckjaaGreatDoor.PN Go.Proofs.YtjopepfemhckjaaGreatDoorW.PrintWords Go.Proofs.YtjopepfemhckjaaGreatDoor.PParseTells
theorem natS_ten (m:Nat)(h:10≤m):natS m=natS (m/10)++(⟨#[48,49,50,51,52,53,54,55,56,57]⟩:ByteArray).extract (m%10) (m%10+1):=by
 rw[dig10 (m%10) (by omega)]
 apply ba_ext;rw[cat_l,natS_list,natS_list];conv=>lhs;rw[Lib.decDigits,dif_neg (by omega)]
theorem natS_dig (m:Nat)(h:m≤9):natS m=(⟨#[48,49,50,51,52,53,54,55,56,57]⟩:ByteArray).extract m (m+1):=by
 rw[dig10 m h];apply ba_ext;rw[natS_list,Lib.decDigits,dif_pos (by omega)]
set_option maxHeartbeats 4000000 in
theorem rof_at (n:Nat)(hn:n≤9223372036854775807):Rt 16 #[.int .i64 (n:Int)] (.string (natS n)):=by
 refine Rt.same fun w=>?_
 have h0:¬(n:Int)<0:=by omega
 obtain⟨R,hR⟩:∃R,natS n=R:=⟨_,rfl⟩;rw[hR];have hRs:R.size≤1000:=by
  rw[←hR];have h1:=dec_len n 19 (Nat.lt_of_le_of_lt hn (by decide)) (by omega)
  have e:(natS n).size=(Lib.decDigits n).length:=by show(natS n).data.toList.length=_;rw[natS_list]
  omega
 have HS:Aside0 (natS n++(⟨#[]⟩:ByteArray)=R):=⟨by rw[hR];exact ba_ext (by rw[cat_l];exact List.append_nil _)⟩
 clear hR;go_enter Tryz.func16,Tryz.ntmps16
 go_wp2_with fail;go_loopg [0,3] (n+1) (fun kq v0 v3 w'=>∃(m:Nat) (s:ByteArray),v0= .int .i64 m∧v3= .string s∧m<kq∧m≤9223372036854775807∧Aside0 (natS m++s=R)∧w=w')
 case atStart=>exact⟨n,⟨#[]⟩,rfl,rfl,by omega,hn,HS,rfl⟩
 case round=>
  clear HS;obtain⟨m,s,rfl,rfl,hlt,hm,HS,rfl⟩:=hrel;have hss:s.size≤1000:=by
   have:=congrArg ByteArray.size HS.out;rw[ByteArray.size_append]at this;omega
  by_cases h9:9<m
  ·have h1:(9:Int)<(m:Int):=by omega
   have e1:(m:Int).tmod 10=((m%10:Nat):Int):=by rw[Int.tmod_eq_emod_of_nonneg (by omega)];omega
   have e2:(m:Int).tdiv 10=((m/10:Nat):Int):=by rw[Int.tdiv_eq_ediv_of_nonneg (by omega)];omega
   have hn10:=natS_ten m (by omega)
   have HS2:Aside0 (natS (m/10)++((⟨#[48,49,50,51,52,53,54,55,56,57]⟩:ByteArray).extract (m%10) (m%10+1)++s)=R):=⟨by rw[←HS.out,hn10,ByteArray.append_assoc]⟩
   obtain⟨d,hd⟩:∃d,m%10=d:=⟨_,rfl⟩;obtain⟨u,hu⟩:∃u,m/10=u:=⟨_,rfl⟩;have hd9:d≤9:=by omega
   have hum:u<m:=by omega
   have hxs:((⟨#[48,49,50,51,52,53,54,55,56,57]⟩:ByteArray).extract d (d+1)).size=1:=by rw[dig10 d hd9];rfl
   have hov:¬9223372036854775807<((⟨#[48,49,50,51,52,53,54,55,56,57]⟩:ByteArray).extract d (d+1)).size+s.size:=by rw[hxs];omega
   rw[hd]at e1 HS2;rw[hu]at e2 HS2;have i1:(0:Int)≤(d:Int):=by omega
   have i2:(d:Int)≤(d:Int)+1:=by omega
   have i3:(d:Int)+1≤10:=by omega
   have i4:((d:Int)+1).toNat=d+1:=by omega
   have e3:IntKind.i64.wrap ((d:Int)+1)=(d:Int)+1:=by simp[IntKind.wrap_i64];omega
   have e4:IntKind.i64.wrap (d:Int)=(d:Int):=by simp[IntKind.wrap_i64];omega
   have e5:IntKind.i64.wrap (u:Int)=(u:Int):=by simp[IntKind.wrap_i64];omega
   clear hn10 HS hxs hd hu;go_wp2_with fail;go_roundg (gk-1)
   case measure=>omega
   case rel=>exact⟨u,_,rfl,rfl,by omega,by omega,HS2,rfl⟩
  ·have h1:¬(9:Int)<(m:Int):=by omega
   have hn9:=natS_dig m (by omega)
   have hr:=HS.out;rw[hn9]at hr;have hxs:((⟨#[48,49,50,51,52,53,54,55,56,57]⟩:ByteArray).extract m (m+1)).size=1:=by rw[dig10 m (by omega)];rfl
   have hov:¬9223372036854775807<((⟨#[48,49,50,51,52,53,54,55,56,57]⟩:ByteArray).extract m (m+1)).size+s.size:=by rw[hxs];omega
   have i1:(0:Int)≤(m:Int):=by omega
   have i2:(m:Int)≤(m:Int)+1:=by omega
   have i3:(m:Int)+1≤10:=by omega
   have i4:((m:Int)+1).toNat=m+1:=by omega
   have e3:IntKind.i64.wrap ((m:Int)+1)=(m:Int)+1:=by simp[IntKind.wrap_i64];omega
   subst hr;clear hn9 HS hxs;go_wp2_with fail;go_ret;exact⟨rfl,rfl⟩
def okC (i:Nat)(c:Nat):Prop:=(97≤c∧c≤122)∨(48≤c∧c≤57)∨(c=33∧i=0)
structure NameP (s:ByteArray):Prop where
 all:∀i (h:i<s.size),okC i (s[i]'h).toNat
 lo:1≤s.size
 hi:s.size≤20
set_option maxHeartbeats 8000000 in
theorem rname_at (s:ByteArray)(hs:s.size≤1000000)(R:Bool)(hR:R=true↔NameP s):Rt 95 #[.string s] (.bool R):=by
 refine Rt.same fun w=>?_
 have HR:=Aside0.mk hR;clear hR;go_enter Tryz.func95,Tryz.ntmps95
 go_wp2_with fail;go_loopg [3] (s.size+1) (fun kq v3 w'=>∃n:Nat,v3= .int .i64 n∧n+kq=s.size+1∧n≤s.size∧Aside0 (∀i (h:i<s.size),i<n→okC i (s[i]'h).toNat)∧w=w')
 case atStart=>exact⟨0,rfl,by omega,by omega,⟨fun i h h2=>absurd h2 (by omega)⟩,rfl⟩
 case round=>
  obtain⟨n,rfl,hn,hn2,HA,rfl⟩:=hrel;by_cases hlt:n<s.size
  ·have hb:=(s[n]'hlt).toNat_lt
   by_cases hok:okC n (s[n]'hlt).toNat
   ·have HA2:Aside0 (∀i (h:i<s.size),i<n+1→okC i (s[i]'h).toNat):=⟨fun i h h2=>by
     by_cases he:i=n
     ·subst he;exact hok
     ·exact HA.out i h (by omega)⟩
    clear HA;rcases hok with⟨h1,h2⟩|⟨h1,h2⟩|⟨h1,h2⟩
    ·have q1:¬((s[n]'hlt).toNat:Int)<97:=by omega
     have q2:¬(122:Int)<((s[n]'hlt).toNat:Int):=by omega
     go_wp2_with fail;go_roundg (gk-1)
     case measure=>omega
     case rel=>exact⟨n+1,by go_num,by omega,by omega,HA2,rfl⟩
    ·have q1:((s[n]'hlt).toNat:Int)<97:=by omega
     have q2:¬((s[n]'hlt).toNat:Int)<48:=by omega
     have q3:¬(57:Int)<((s[n]'hlt).toNat:Int):=by omega
     go_wp2_with fail;go_roundg (gk-1)
     case measure=>omega
     case rel=>exact⟨n+1,by go_num,by omega,by omega,HA2,rfl⟩
    ·have q1:((s[n]'hlt).toNat:Int)<97:=by omega
     have q2:((s[n]'hlt).toNat:Int)<48:=by omega
     have q3:(((s[n]'hlt).toNat:Int)!=33)=false:=by rw[bne_eq_false_iff_eq];omega
     have q4:¬(0:Int)<(n:Int):=by omega
     clear h1 h2;go_wp2_with fail;go_roundg (gk-1)
     case measure=>omega
     case rel=>exact⟨n+1,by go_num,by omega,by omega,HA2,rfl⟩
   ·have hr:R=false:=by
     cases hR:R with
     |false=>rfl
     |true=>exact absurd ((HR.out.1 hR).all n hlt) hok
    subst hr;unfold okC at hok;clear HR HA;by_cases q1:((s[n]'hlt).toNat:Int)<97
    ·by_cases q2:((s[n]'hlt).toNat:Int)<48
     ·by_cases q3:((s[n]'hlt).toNat:Int)=33
      ·have q4:(0:Int)<(n:Int):=by omega
       have q5:(((s[n]'hlt).toNat:Int)!=33)=false:=by rw[bne_eq_false_iff_eq];omega
       clear hok q3;go_wp2_with fail;go_ret;exact⟨rfl,rfl⟩
      ·clear hok
       go_wp2_with fail;go_ret;exact⟨rfl,rfl⟩
     ·have q3:(57:Int)<((s[n]'hlt).toNat:Int):=by omega
      have q4:¬((s[n]'hlt).toNat:Int)=33:=by omega
      clear hok;go_wp2_with fail;go_ret;exact⟨rfl,rfl⟩
    ·have q2:(122:Int)<((s[n]'hlt).toNat:Int):=by omega
     have q3:¬((s[n]'hlt).toNat:Int)<48:=by omega
     have q4:(57:Int)<((s[n]'hlt).toNat:Int):=by omega
     have q5:¬((s[n]'hlt).toNat:Int)=33:=by omega
     clear hok;go_wp2_with fail;go_ret;exact⟨rfl,rfl⟩
  ·have hr:R=(decide ((1:Int)≤(s.size:Int))&&decide ((s.size:Int)≤20)):=by
    rw[Bool.eq_iff_iff,HR.out,Bool.and_eq_true,decide_eq_true_eq,decide_eq_true_eq];exact⟨fun h=>⟨by have:=h.lo;omega,by have:=h.hi;omega⟩,fun h=>⟨fun i hi=>HA.out i hi (by omega),by omega,by omega⟩⟩
   subst hr;clear HR HA;by_cases h1:(1:Int)≤(s.size:Int)<;>by_cases h2:(s.size:Int)≤20
   all_goals
    go_wp2_with fail;go_ret;exact⟨by first|rfl|(simp[*];done)|simp[h1,h2],rfl⟩
structure AssetP (s:ByteArray):Prop where
 nm:NameP s
 f0:∀h:0<s.size,(s[0]'h).toNat≠33∧¬(48≤(s[0]'h).toNat∧(s[0]'h).toNat≤57)
set_option maxHeartbeats 8000000 in
theorem rasset_at (s:ByteArray)(hs:s.size≤1000000)(R:Bool)(hR:R=true↔AssetP s):Rt 57 #[.string s] (.bool R):=by
 intro w;have HB:=Aside0.mk (Below.refl w.heap.size w);obtain⟨N,hN⟩:∃N:Bool,N=true↔NameP s:=⟨@decide (NameP s) (Classical.propDecidable _),by simp⟩
 have H1:=rname_at s hs N hN;cases hn:N with
 |false=>
  have hr:R=false:=by
   cases hR2:R with
   |false=>rfl
   |true=>rw[hn]at hN;exact absurd (hN.2 (hR.1 hR2).nm) (by decide)
  subst hr;rw[hn]at H1;clear hR hN hn;go_enter Tryz.func57,Tryz.ntmps57
  go_wp2_with(with_reducible refine H1.go HB ?_;clear HB;intro w1 HB hb)
  go_ret;exact⟨rfl,HB.out⟩
 |true=>
  have hnm:=hN.1 hn;rw[hn]at H1;have h0:0<s.size:=by have:=hnm.lo;omega
  have h0':(0:Int)<(s.size:Int):=by omega
  have hr:R=(!decide (((s[0]'h0).toNat:Int)=33)&&(decide (((s[0]'h0).toNat:Int)<48)||decide ((57:Int)<((s[0]'h0).toNat:Int)))):=by
   rw[Bool.eq_iff_iff,hR];simp only[Bool.and_eq_true,Bool.or_eq_true,Bool.not_eq_true',decide_eq_false_iff_not,decide_eq_true_eq];exact⟨fun h=>by have:=h.f0 h0;omega,fun h=>⟨hnm,fun h0=>by omega⟩⟩
  subst hr;clear hR hN hn hnm;by_cases q1:((s[0]'h0).toNat:Int)=33
  ·go_enter Tryz.func57,Tryz.ntmps57
   go_wp2_with(with_reducible refine H1.go HB ?_;clear HB;intro w1 HB hb)
   go_ret;exact⟨by simp[*],HB.out⟩
  ·by_cases q2:((s[0]'h0).toNat:Int)<48
   all_goals
    go_enter Tryz.func57,Tryz.ntmps57
    go_wp2_with(with_reducible refine H1.go HB ?_;clear HB;intro w1 HB hb)
    go_ret;exact⟨by simp[*],HB.out⟩
theorem nm_get (s:ByteArray)(i:Nat)(h:i<s.size):(s[i]'h)=s.get! i:=(getElem!_pos s.data i h).symm
theorem asset_nm {s:ByteArray}(h:NmOK s):AssetP s:=by
 refine⟨⟨fun i hi=>?_,h.h0,h.h20⟩,fun h0=>?_⟩
 ·have h1:=List.all_eq_true.1 h.hall _ (List.getElem_mem (l:=s.data.toList) (n:=i) hi)
  rw[ba_at s i hi]at h1;unfold nmB at h1;simp only[Bool.or_eq_true,Bool.and_eq_true,decide_eq_true_eq]at h1;unfold okC;omega
 ·rw[nm_get]
  have:=h.hf0;omega
theorem one_zer (n:Nat):(⟨#[49]⟩:ByteArray)++zer n=natS (10^n):=(pow_isN n).eq
theorem natS_pow (n:Nat):(natS (10^n)).size=n+1:=by
 rw[←one_zer,ByteArray.size_append,zer_size];show 1+n=_
 omega
theorem rprint4_at (z:Int)(d:Nat)(hz:(intS z).size≤1000)(hd:(natS d).size≤1000)(h0:0<d)(hg:z.natAbs.gcd d=1)(hb:Bits d)(hp:(pl d).2=1)(hp20:(pl d).1≤20)(hz0:0≤z):Rt 98 #[ratV z d] (.string (if(pl d).1=0 then intS z else decP z (pl d).1 (10^(pl d).1/d))):=by
 intro w;have HM:=rmay3_at z d (by omega) (by omega) h0 hg
 have HP:=rplaces_at z d (by omega) (by omega) h0 hg hb
 rw[if_pos hp,decide_eq_true hp]at HP;have HS:=rsign3_at z d (by omega) (by omega) h0 hg
 by_cases hn:(pl d).1=0
 ·rw[if_pos hn]
  rw[hn]at HP;exact rPrint0_at (intS z) (natS d) (fun w=>Lib.hid (HM w)) (fun w=>Lib.hid (HP w)) w
 ·rw[if_neg hn]
  have hdv:=pl_dvd d h0 hp;generalize (pl d).1=n at*;obtain⟨u,hu⟩:∃u,10^n/d=u:=⟨_,rfl⟩;have hud:10^n=u*d:=by rw[←hu,Nat.div_mul_cancel hdv]
  have hus:(natS u).size≤21:=by
   have h1:=dec_len_mono (Nat.div_le_self (10^n) d);rw[natS_pow,hu]at h1;omega
  have hge:=intS_ge z;have hprs:=natS_mulz z.natAbs u;have hiz:∀y:Nat,(intS (z*(y:Int))).size≤(natS z.natAbs).size+(natS y).size+1:=by
   intro y;have h1:=intS_le (z*(y:Int));have h2:=natS_mulz z.natAbs y;rw[Int.natAbs_mul,Int.natAbs_natCast]at h1;omega
  have hgcd:Nat.gcd (z*((10^n:Nat):Int)).natAbs (d*1)=d:=by
   rw[Int.natAbs_mul,Int.natAbs_natCast,Nat.mul_one,hud];exact Nat.gcd_eq_right (Nat.dvd_trans (Nat.dvd_mul_left d u) (Nat.dvd_mul_left _ _))
  have hge0:0≤z*((10^n:Nat):Int):=Int.mul_nonneg hz0 (Int.natCast_nonneg _);have e1:rnum (z*((10^n:Nat):Int)) (d*1)=z*(u:Int):=by
   unfold rnum;rw[if_neg (by omega),hgcd,Int.natAbs_mul,Int.natAbs_natCast,hud,←Nat.mul_assoc,Nat.mul_div_cancel _ h0,Int.natCast_mul,show(z.natAbs:Int)=z by omega]
  have e2:rden (z*((10^n:Nat):Int)) (d*1)=1:=by
   unfold rden;rw[hgcd,Nat.mul_one,Nat.div_self h0]
  have hpw:=natS_pow n;have hi10:intS ((10^n:Nat):Int)=natS (10^n):=intS_nat _;have M2:=rmay3_at ((10^n:Nat):Int) 1 (by rw[hi10];omega) (by rw[natS_1];decide) (by omega) (by rw[Nat.gcd_one_right])
  have MU:=rmul2_at z ((10^n:Nat):Int) (by omega) (by rw[hi10];omega)
  have MN:=rmul1_at d 1 (by omega) (by rw[natS_1];decide)
  have MK:=rmake3_at (z*((10^n:Nat):Int)) (d*1) (by have:=hiz (10^n);omega) (by rw[Nat.mul_one];omega) (by omega)
  rw[e1,e2]at MK;unfold ratV at M2 MK;rw[hi10]at M2 MU;have HMU:=rMul3_of (intS z) (natS d) (natS (10^n)) (natS 1) _ _ _ _ HM M2 MU MN MK;rw[←one_zer,natS_1]at HMU;have HA:=rabs_at (z*(u:Int)) (by have:=hiz u;omega)
  rw[Int.natAbs_mul,Int.natAbs_natCast]at HA;have Z1:=rzeros_at n (by omega)
  have Z2:=rzeros_at (n+1-(natS (z.natAbs*u)).size) (by omega)
  have hsg:0≤sgn z:=by unfold sgn;(repeat' split)<;>omega
  have h:=rPrintN_at (intS z) (natS d) (zer n) (intS (z*(u:Int))) ⟨#[49]⟩ (natS (z.natAbs*u)) (zer (n+1-(natS (z.natAbs*u)).size)) n (sgn z) (by omega) (by omega) (zer_size n) (by omega) (zer_size _) hsg (fun w=>Lib.hid (HM w)) (fun w=>Lib.hid (HP w)) (fun w=>Lib.hid (Z1 w)) (fun w=>Lib.hid (HMU w)) (fun w=>Lib.hid (HA w)) (fun w=>Lib.hid (Z2 w)) (fun w=>Lib.hid (HS w)) w
  rw[hu];unfold decP;rw[if_neg (by omega)]
  exact h
set_option maxHeartbeats 4000000 in
theorem rnumber_at (z:Int)(d:Nat)(hz:(intS z).size≤1000)(hd:(natS d).size≤1000)(h0:0<d)(hg:z.natAbs.gcd d=1)(hb:Bits d):Rt 58 #[ratV z d] (.string (numP z d)):=by
 intro w;have HP:=rplaces_at z d (by omega) (by omega) h0 hg hb
 have HS:=rsign3_at z d (by omega) (by omega) h0 hg
 unfold numP;by_cases hc:(pl d).2=1∧(pl d).1≤20∧0≤z
 ·rw[if_pos hc]
  rw[if_pos hc.1,decide_eq_true hc.1]at HP;have HR:=rprint4_at z d hz hd h0 hg hb hc.1 hc.2.1 hc.2.2;have hsg:0≤sgn z:=by unfold sgn;(repeat' split)<;>omega
  exact rNumber_at (intS z) (natS d) _ (pl d).1 (sgn z) (by omega) hsg (fun w=>Lib.hid (HP w)) (fun w=>Lib.hid (HS w)) (fun w=>Lib.hid (HR w)) w
 ·rw[if_neg hc]
  have hsn:¬0≤z→¬0≤sgn z:=by unfold sgn;intro h;rw[if_pos (by omega)];decide
  unfold ratV at*;generalize natS d=ds at*;generalize intS z=zs at*;obtain⟨RR,hR⟩:∃RR,((((⟨#[110,117,109,40]⟩:ByteArray)++zs)++(⟨#[44,32]⟩:ByteArray))++ds)++(⟨#[41]⟩:ByteArray)=RR:=⟨_,rfl⟩;rw[hR];have HR:=Aside0.mk hR;have s1:(⟨#[110,117,109,40]⟩:ByteArray).size=4:=rfl;have s2:(⟨#[44,32]⟩:ByteArray).size=2:=rfl;have s3:(⟨#[41]⟩:ByteArray).size=1:=rfl;have o1:¬9223372036854775807<(⟨#[110,117,109,40]⟩:ByteArray).size+zs.size:=by omega
  have o1':¬9223372036854775807<4+zs.size:=by omega
  have o2:¬9223372036854775807<((⟨#[110,117,109,40]⟩:ByteArray)++zs).size+(⟨#[44,32]⟩:ByteArray).size:=by simp only[ByteArray.size_append];omega
  have o2':¬9223372036854775807<((⟨#[110,117,109,40]⟩:ByteArray)++zs).size+2:=by simp only[ByteArray.size_append];omega
  have o2'':¬9223372036854775807<4+zs.size+2:=by omega
  have o3:¬9223372036854775807<(((⟨#[110,117,109,40]⟩:ByteArray)++zs)++(⟨#[44,32]⟩:ByteArray)).size+ds.size:=by simp only[ByteArray.size_append];omega
  have o3'':¬9223372036854775807<4+zs.size+2+ds.size:=by omega
  have o4:¬9223372036854775807<((((⟨#[110,117,109,40]⟩:ByteArray)++zs)++(⟨#[44,32]⟩:ByteArray))++ds).size+(⟨#[41]⟩:ByteArray).size:=by simp only[ByteArray.size_append];omega
  have o4':¬9223372036854775807<((((⟨#[110,117,109,40]⟩:ByteArray)++zs)++(⟨#[44,32]⟩:ByteArray))++ds).size+1:=by simp only[ByteArray.size_append];omega
  have o4'':¬9223372036854775807<4+zs.size+2+ds.size+1:=by omega
  have k0:=World.alloc_heap_new w (.cells #[.string zs,.string ds] 35);have B0:=(Below.refl w.heap.size w).alloc (Nat.le_refl _) (.cells #[.string zs,.string ds] 35);have HB:=Aside0.mk (Below.refl (w.alloc (.cells #[.string zs,.string ds] 35)).heap.size (w.alloc (.cells #[.string zs,.string ds] 35)));have hSB:∀w':World,Below (w.alloc (.cells #[.string zs,.string ds] 35)).heap.size (w.alloc (.cells #[.string zs,.string ds] 35)) w'→w'.cell? ⟨w.heap.size,0,none⟩=some (.string zs)∧w'.cell? ⟨w.heap.size,1,none⟩=some (.string ds):=fun w' hb=>by
   have k:=keptB hb k0;exact⟨by rw[Lib.cell_of_heap k];rfl,by rw[Lib.cell_of_heap k];rfl⟩
  obtain⟨c0,c1⟩:=hSB _ (Below.refl _ _);clear hR s1 s2 s3 hg;by_cases h1:(pl d).2=1
  ·rw[if_pos h1,decide_eq_true h1]at HP
   by_cases h2:(pl d).1≤20
   ·have h3:=hsn (fun h=>hc ⟨h1,h2,h⟩)
    have h4:((pl d).1:Int)≤20:=by omega
    generalize (pl d).1=n at*;generalize sgn z=sz at*;clear hc hsn h1 h2;go_enter Tryz.func58,Tryz.ntmps58
    go_wp2_with fail;generalize w.alloc (.cells #[.string zs,.string ds] 35)=w0 at*;refine HP.go HB ?_;clear HB c0 c1;intro w1 HB hb1;obtain⟨c0,c1⟩:=hSB _ HB.out;go_wp2_with fail;refine HS.go HB ?_;clear HB c0 c1;intro w2 HB hb2;obtain⟨c0,c1⟩:=hSB _ HB.out;go_wp2_with fail;go_ret;exact⟨by rw[←HR.out];rfl,B0.trans (HB.out.mono B0.size)⟩
   ·have h4:¬((pl d).1:Int)≤20:=by omega
    generalize (pl d).1=n at*;clear hc hsn h1 h2 HS;go_enter Tryz.func58,Tryz.ntmps58
    go_wp2_with fail;generalize w.alloc (.cells #[.string zs,.string ds] 35)=w0 at*;refine HP.go HB ?_;clear HB c0 c1;intro w1 HB hb1;obtain⟨c0,c1⟩:=hSB _ HB.out;go_wp2_with fail;go_ret;exact⟨by rw[←HR.out];rfl,B0.trans (HB.out.mono B0.size)⟩
  ·rw[if_neg h1,decide_eq_false h1]at HP
   clear hc hsn h1 HS;go_enter Tryz.func58,Tryz.ntmps58
   go_wp2_with fail;generalize w.alloc (.cells #[.string zs,.string ds] 35)=w0 at*;refine HP.go HB ?_;clear HB c0 c1;intro w1 HB hb1;obtain⟨c0,c1⟩:=hSB _ HB.out;go_wp2_with fail;go_ret;exact⟨by rw[←HR.out];rfl,B0.trans (HB.out.mono B0.size)⟩
theorem numP_few (z:Int)(d:Nat)(h1:(natS z.natAbs).size≤60)(h2:(natS d).size≤60):(numP z d).size≤1000:=by
 have hz:=intS_le z;have s1:(⟨#[110,117,109,40]⟩:ByteArray).size=4:=rfl;have s2:(⟨#[44,32]⟩:ByteArray).size=2:=rfl;have s3:(⟨#[41]⟩:ByteArray).size=1:=rfl;have s4:(⟨#[45]⟩:ByteArray).size=1:=rfl;have s5:(⟨#[46]⟩:ByteArray).size=1:=rfl;have s6:(⟨#[]⟩:ByteArray).size=0:=rfl;unfold numP;split
 ·split
  ·omega
  ·have hun:=dec_len_mono (Nat.div_le_self (10^(pl d).1) d)
   rw[natS_pow]at hun;have hp:=natS_mulz z.natAbs (10^(pl d).1/d);unfold decP padD;generalize z.natAbs*(10^(pl d).1/d)=x at*;have hr:(⟨(List.replicate ((pl d).1+1-(natS x).size) (48:UInt8)).toArray⟩:ByteArray).size=(pl d).1+1-(natS x).size:=zer_size _;simp only[ByteArray.size_append,ByteArray.size_extract,hr];split<;>omega
 ·simp only[ByteArray.size_append]
  omega
theorem hnv37 (n:Nd):ndV n= .agg #[.int .i64 (opI n),.string (nd37 n).f1.f0,.string (nd37 n).f1.f1,.string (nd37 n).f2,.int .i64 (nd37 n).f3,.int .i64 (nd37 n).f4]:=by cases n<;>rfl
theorem rn_num {M:Nat}{z:Int}{d:Nat}(h:NdOK M (.num z d)):RN (.num z d):=by
 obtain⟨hr,h1,h2⟩:=h;have hz:=intS_le z;have HM:=rmay3_at z d (by omega) (by omega) hr.h0 hr.hg
 have HA:=rabs_at z (by omega)
 have HN:=rnumber_at z d (by omega) (by omega) hr.h0 hr.hg hr.hb
 refine⟨fun w=>?_,fun _ w=>?_,fun h=>absurd h (by simp[ar]),fun l hl=>?_⟩
 ·exact rNodeNum_at (intS z) (natS d) (natS z.natAbs) (by omega) (by omega) (fun w=>Lib.hid (HM w)) (fun w=>Lib.hid (HA w)) w
 ·exact rLeafNum_at (intS z) (natS d) (numP z d) (fun w=>Lib.hid (HN w)) w
 ·have:=numP_few z d h1 h2
  show(numP z d).size≤_
  omega
theorem rn_px {s:ByteArray}{a:Int}(h:NmOK s∧0≤a∧a≤9999):RN (.px s a):=by
 obtain⟨hs,ha⟩:=h;have h20:=hs.h20;have HA:=rasset_at s (by omega) true (by simp[asset_nm hs])
 have HO:=rof_at a.toNat (by omega)
 rw[show((a.toNat:Nat):Int)=a by omega]at HO
 have hp:(natS a.toNat).size≤20:=by
  have e:(natS a.toNat).size=(Lib.decDigits a.toNat).length:=by show(natS a.toNat).data.toList.length=_;rw[natS_list]
  have:=dec_len a.toNat 4 (by omega) (by omega)
  omega
 refine⟨fun w=>?_,fun _ w=>?_,fun h=>absurd h (by simp[ar]),fun l hl=>?_⟩
 ·exact rNodePx_at s a ha (fun w=>Lib.hid (HA w)) w
 ·exact rLeafPx_at s (natS a.toNat) a (by omega) (by omega) (fun w=>Lib.hid (HO w)) w
 ·show(pxP s a).size≤_
  unfold pxP;simp only[ByteArray.size_append,show(⟨#[112,120,40]⟩:ByteArray).size=3 from rfl,show(⟨#[41]⟩:ByteArray).size=1 from rfl,show(⟨#[44,32]⟩:ByteArray).size=2 from rfl]
  omega
theorem rn_op (k:Nat)(hk:5≤k∧k≤9):RN (.op k):=by
 have hk2:k=5∨k=6∨k=7∨k=8∨k=9:=by omega
 refine⟨fun w=>?_,fun h=>?_,?_,?_⟩
 ·have h:=rNodeOp_at k ⟨hk.1,by omega⟩ w
  rw[hnv37]at h;exact h
 ·rcases hk2 with rfl|rfl|rfl|rfl|rfl<;>exact absurd h (by decide)
 ·intro _ bk o c l w hl hlc hsz hcell
  have hm:=szs_mem l;rcases hk2 with rfl|rfl|rfl|rfl|rfl
  ·match l,hl with
   |[x],_=>exact rAbove5_at bk o c x (by have:=hm x (by simp);omega) w (hcell 0 x rfl)
  ·match l,hl with
   |[x,y],_=>exact rAbove6_at bk o c x y (by have:=hm x (by simp);omega) (by have:=hm y (by simp);omega) w (hcell 0 x rfl) (hcell 1 y rfl)
  ·match l,hl with
   |[x,y],_=>exact rAbove7_at bk o c x y (by have:=hm x (by simp);omega) (by have:=hm y (by simp);omega) w (hcell 0 x rfl) (hcell 1 y rfl)
  ·match l,hl with
   |[x,y],_=>exact rAbove8_at bk o c x y (by have:=hm x (by simp);omega) (by have:=hm y (by simp);omega) w (hcell 0 x rfl) (hcell 1 y rfl)
  ·match l,hl with
   |[x,y],_=>exact rAbove9_at bk o c x y (by have:=hm x (by simp);omega) (by have:=hm y (by simp);omega) w (hcell 0 x rfl) (hcell 1 y rfl)
 ·intro l hl
  show(opP k l).size≤_
  unfold opP;rcases hk2 with rfl|rfl|rfl|rfl|rfl
  ·match l,hl with
   |[x],_=>
    rw[if_pos rfl,ByteArray.size_append,ByteArray.size_append];show 2+x.size+1≤(x.size+0)+1000
    omega
  all_goals
   match l,hl with
   |[x,y],_=>
    rw[if_neg (by decide),if_pos (by decide)]
    simp only[ByteArray.size_append];show 1+x.size+1+1+1+y.size+1≤(x.size+(y.size+0))+1000
    omega
theorem numT_int (s:ByteArray)(z:Int)(d:Nat)(hd:allD s.data.toList)(hn:s.data.toList≠[])(hs:s.size≤1000)(h1:rnum (dv s.data.toList:Int) 1=z)(h2:rden (dv s.data.toList:Int) 1=d)(hsh:parse_short.f (intS z) (natS d)=some true):NumT s z d:=by
 refine⟨fun w hg=>?_,hsh⟩
 have h:=decInt_at 10000 div_small (by decide) s hd hn hs w hg
 rw[h1,h2]at h;exact h
theorem numT_frac (a b:List UInt8)(z:Int)(d:Nat)(hM:10^b.length<10000)(ha:allD a)(hb:allD b)(hna:a≠[])(hnb:b≠[])(hs:a.length+b.length≤900)(h1:rnum (dv (a++b):Int) (10^b.length)=z)(h2:rden (dv (a++b):Int) (10^b.length)=d)(hsh:parse_short.f (intS z) (natS d)=some true):NumT ⟨(a++46::b).toArray⟩ z d:=by
 refine⟨fun w hg=>?_,hsh⟩
 have h:=decFrac_at 10000 div_small a b hM ha hb hna hnb hs w hg;rw[h1,h2]at h;exact h
theorem allD1 (c:UInt8)(h:48≤c.toNat∧c.toNat≤57):allD [c]:=fun x hx=>by
 obtain rfl:=List.mem_singleton.1 hx;exact h
theorem allD2 (c d:UInt8)(h:48≤c.toNat∧c.toNat≤57)(h2:48≤d.toNat∧d.toNat≤57):allD [c,d]:=fun x hx=>by
 rcases List.mem_cons.1 hx with rfl|hx
 ·exact h
 ·obtain rfl:=List.mem_singleton.1 hx
  exact h2
theorem numT1:NumT ⟨#[49]⟩ 1 1:=numT_int _ _ _ (allD1 _ (by decide)) (by decide) (by decide) (by kernel_rfl) (by kernel_rfl) (by kernel_rfl)
theorem numT2:NumT ⟨#[50]⟩ 2 1:=numT_int _ _ _ (allD1 _ (by decide)) (by decide) (by decide) (by kernel_rfl) (by kernel_rfl) (by kernel_rfl)
theorem numT32:NumT ⟨#[49,46,53,48]⟩ 3 2:=numT_frac [49] [53,48] _ _ (by decide) (allD1 _ (by decide)) (allD2 _ _ (by decide) (by decide)) (by decide) (by decide) (by decide) (by kernel_rfl) (by kernel_rfl) (by kernel_rfl)
theorem sz1 (n:Nat)(b:UInt8)(h:natS n=⟨#[b]⟩):(natS n).size≤60:=by rw[h];show 1≤60;decide
theorem okB2:NdOK BigM (.num 2 1):=ndOK_num 2 1 (by decide) (by decide) (sz1 2 50 (by kernel_rfl)) (sz1 1 49 (by kernel_rfl))
theorem okB32:NdOK BigM (.num 3 2):=ndOK_num 3 2 (by decide) (by decide) (sz1 3 51 (by kernel_rfl)) (sz1 2 50 (by kernel_rfl))
theorem okpxB:NdOK BigM (.px ⟨#[120]⟩ 5):=⟨⟨by decide,by decide,by decide,by decide,by decide⟩,by decide,by decide⟩
theorem fx1_at_frm:Frm BigM [.px ⟨#[120]⟩ 5,.num 2 1,.num 3 2,.op 5,.op 8,.op 7] ⟨#[40,112,120,40,120,44,32,53,41,32,45,32,40,50,32,42,32,40,45,49,46,53,41,41,41]⟩ 4:=⟨fun n hn=>by
 simp only[List.mem_cons,List.not_mem_nil,or_false]at hn;rcases hn with rfl|rfl|rfl|rfl|rfl|rfl
 ·exact okpxB
 ·exact okB2
 ·exact okB32
 ·exact⟨by decide,by decide⟩
 ·exact⟨by decide,by decide⟩
 ·exact⟨by decide,by decide⟩,by decide,by kernel_rfl,by kernel_rfl⟩
theorem fxPrint_at (A:Option Addr)(c:Nat)(w:World)(hC:Kd.C k37 w A 6 (([.px ⟨#[120]⟩ 5,.num 2 1,.num 3 2,.op 5,.op 8,.op 7]:List Nd).map nd37)):Calls Tryz.prog 14 #[.slice A 6 c] w fun e w'=>e= .returned (.string ⟨#[40,112,120,40,120,44,32,53,41,32,45,32,40,50,32,42,32,40,45,49,46,53,41,41,41]⟩)∧Below w.heap.size w w':=
 rPrint_at [.px ⟨#[120]⟩ 5,.num 2 1,.num 3 2,.op 5,.op 8,.op 7] (fun n hn=>by
  simp only[List.mem_cons,List.not_mem_nil,or_false]at hn;rcases hn with rfl|rfl|rfl|rfl|rfl|rfl<;>first|trivial|exact⟨by decide,by decide⟩) (fun n hn=>by
  simp only[List.mem_cons,List.not_mem_nil,or_false]at hn;rcases hn with rfl|rfl|rfl|rfl|rfl|rfl
  ·exact rn_px okpxB
  ·exact rn_num okB2
  ·exact rn_num okB32
  ·exact rn_op 5 (by decide)
  ·exact rn_op 8 (by decide)
  ·exact rn_op 7 (by decide)) (by decide) (by decide) depF 4 (by kernel_rfl) _ (by kernel_rfl) A c w hC
theorem psi_all (T:List S75)(h:T.all (fun t=>decide (t.f1.size≤1000000))=true):PSI T.length (ps T):=⟨fun t ht=>of_decide_eq_true (List.all_eq_true.1 h t ht),fun _=>⟨rfl,rfl⟩,Nat.le_refl _⟩
theorem oPrice_k {last:S75}(k:Nat)(t:S75)(rest:List S75)(r:List S82)(o:List Nd)(dp:Int)(R:Res)(kk:Nat)(rest':List S75)(n:Nd)(hk:t.f0=0)(ht:t.f1=nmP kk)(hkk:1≤kk∧kk≤4)(e:(ps rest).price kk last=(⟨rest',0,0,0⟩,n))(h:Run2 last k false rest' r (o++[n]) dp R):Run2 last (k+1) true (t::rest) r o dp R:=
 .oPrice k t rest r o dp R kk hk ht hkk (fun _=>by rw[e];exact h) (fun hne=>absurd (by rw[e]) hne)
theorem oFun_k {last:S75}(k:Nat)(t:S75)(rest:List S75)(r:List S82)(o:List Nd)(dp:Int)(R:Res)(kk:Nat)(rest':List S75)(hk:t.f0=0)(ht:t.f1=nmF kk)(hkk:10≤kk∧kk≤12)(e:(ps rest).push dp last=⟨rest',0,0,0⟩)(h:Run2 last k true rest' (⟨kk,0,nmA kk⟩::r) o (dp+1) R):Run2 last (k+1) true (t::rest) r o dp R:=
 .oFun k t rest r o dp R kk hk ht hkk (fun _=>by rw[e];exact h) (fun hne=>absurd (by rw[e]) hne)
theorem fx0_t (w:World)(hg:Glob2 w):Calls Tryz.prog 10 #[.string ⟨#[112,120,40,120,44,32,53,41,32,45,32,50,32,42,32,45,40,49,32,43,32,109,97,120,40,121,49,44,32,50,41,41]⟩] w fun ex w'=>ex= .returned (.tuple #[.slice none 0 0,.int .i64 110,.int .i64 1,.int .i64 26])∧Below w.heap.size w w':=
 parseErr_t _ (by decide) [⟨0,⟨#[112,120]⟩,1,1⟩,⟨2,⟨#[40]⟩,1,3⟩,⟨0,⟨#[120]⟩,1,4⟩,⟨2,⟨#[44]⟩,1,5⟩,⟨1,⟨#[53]⟩,1,7⟩,⟨2,⟨#[41]⟩,1,8⟩,⟨2,⟨#[45]⟩,1,10⟩,⟨1,⟨#[50]⟩,1,12⟩,⟨2,⟨#[42]⟩,1,14⟩,⟨2,⟨#[45]⟩,1,16⟩,⟨2,⟨#[40]⟩,1,17⟩,⟨1,⟨#[49]⟩,1,18⟩,⟨2,⟨#[43]⟩,1,20⟩,⟨0,⟨#[109,97,120]⟩,1,22⟩,⟨2,⟨#[40]⟩,1,25⟩,⟨0,⟨#[121,49]⟩,1,26⟩,⟨2,⟨#[44]⟩,1,28⟩,⟨1,⟨#[50]⟩,1,30⟩,⟨2,⟨#[41]⟩,1,31⟩,⟨2,⟨#[41]⟩,1,32⟩] (by kernel_rfl) (by decide) ⟨2,⟨#[41]⟩,1,32⟩ (.inr ⟨[⟨0,⟨#[112,120]⟩,1,1⟩,⟨2,⟨#[40]⟩,1,3⟩,⟨0,⟨#[120]⟩,1,4⟩,⟨2,⟨#[44]⟩,1,5⟩,⟨1,⟨#[53]⟩,1,7⟩,⟨2,⟨#[41]⟩,1,8⟩,⟨2,⟨#[45]⟩,1,10⟩,⟨1,⟨#[50]⟩,1,12⟩,⟨2,⟨#[42]⟩,1,14⟩,⟨2,⟨#[45]⟩,1,16⟩,⟨2,⟨#[40]⟩,1,17⟩,⟨1,⟨#[49]⟩,1,18⟩,⟨2,⟨#[43]⟩,1,20⟩,⟨0,⟨#[109,97,120]⟩,1,22⟩,⟨2,⟨#[40]⟩,1,25⟩,⟨0,⟨#[121,49]⟩,1,26⟩,⟨2,⟨#[44]⟩,1,28⟩,⟨1,⟨#[50]⟩,1,30⟩,⟨2,⟨#[41]⟩,1,31⟩],rfl⟩) (by decide) 10 110 1 26 (by decide)
  (oPrice_k 9 _ _ _ _ _ _ 1 [⟨2,⟨#[45]⟩,1,10⟩,⟨1,⟨#[50]⟩,1,12⟩,⟨2,⟨#[42]⟩,1,14⟩,⟨2,⟨#[45]⟩,1,16⟩,⟨2,⟨#[40]⟩,1,17⟩,⟨1,⟨#[49]⟩,1,18⟩,⟨2,⟨#[43]⟩,1,20⟩,⟨0,⟨#[109,97,120]⟩,1,22⟩,⟨2,⟨#[40]⟩,1,25⟩,⟨0,⟨#[121,49]⟩,1,26⟩,⟨2,⟨#[44]⟩,1,28⟩,⟨1,⟨#[50]⟩,1,30⟩,⟨2,⟨#[41]⟩,1,31⟩,⟨2,⟨#[41]⟩,1,32⟩] (.px ⟨#[120]⟩ 5) rfl rfl ⟨by decide,by decide⟩ (by kernel_rfl) (Run2.pOp 8 _ _ _ _ _ _ 7 1 [] [.px ⟨#[120]⟩ 5] (by kernel_rfl) (by decide) (by decide) (by decide) (by kernel_rfl) (Run2.oNum 7 _ _ _ _ _ _ 2 1 rfl numT2 (Run2.pOp 6 _ _ _ _ _ _ 8 2 [⟨7,1,0⟩] [.px ⟨#[120]⟩ 5,.num 2 1] (by kernel_rfl) (by decide) (by decide) (by decide) (by kernel_rfl) (Run2.oNeg 5 _ _ _ _ _ _ rfl rfl (Run2.oPar 4 _ _ _ _ _ _ rfl rfl (by decide) (Run2.oNum 3 _ _ _ _ _ _ 1 1 rfl numT1 (Run2.pOp 2 _ _ _ _ _ _ 6 1 [⟨-1,0,0⟩,⟨5,3,0⟩,⟨8,2,0⟩,⟨7,1,0⟩] [.px ⟨#[120]⟩ 5,.num 2 1,.num 1 1] (by kernel_rfl) (by decide) (by decide) (by decide) (by kernel_rfl) (oFun_k 1 _ _ _ _ _ _ 10 [⟨0,⟨#[121,49]⟩,1,26⟩,⟨2,⟨#[44]⟩,1,28⟩,⟨1,⟨#[50]⟩,1,30⟩,⟨2,⟨#[41]⟩,1,31⟩,⟨2,⟨#[41]⟩,1,32⟩] rfl rfl ⟨by decide,by decide⟩ (by kernel_rfl) (Run2.oBad 0 _ _ _ _ _ rfl (by kernel_rfl) (by rw[ByteArray.toList_eq];decide))))))))))) w hg (psi_all _ (by kernel_rfl))
theorem fx1_t (w:World)(hg:Glob2 w):Calls Tryz.prog 10 #[.string ⟨#[112,120,40,120,44,32,53,41,32,45,32,50,32,42,32,45,49,46,53,48]⟩] w fun ex w'=>∃A c,ex= .returned (.tuple #[.slice A 6 c,.int .i64 0,.int .i64 0,.int .i64 0])∧6≤c∧(∀ad,A=some ad→∃tb of,ad=⟨tb,of,none⟩∧tb<w'.heap.size)∧Aside0 (Kd.C k37 w' A 6 (([.px ⟨#[120]⟩ 5,.num 2 1,.num 3 2,.op 5,.op 8,.op 7]:List Nd).map nd37))∧Below w.heap.size w w':=
 parseOk_t _ (by decide) BigM (div_all BigM) (by unfold BigM;decide) [⟨0,⟨#[112,120]⟩,1,1⟩,⟨2,⟨#[40]⟩,1,3⟩,⟨0,⟨#[120]⟩,1,4⟩,⟨2,⟨#[44]⟩,1,5⟩,⟨1,⟨#[53]⟩,1,7⟩,⟨2,⟨#[41]⟩,1,8⟩,⟨2,⟨#[45]⟩,1,10⟩,⟨1,⟨#[50]⟩,1,12⟩,⟨2,⟨#[42]⟩,1,14⟩,⟨2,⟨#[45]⟩,1,16⟩,⟨1,⟨#[49,46,53,48]⟩,1,17⟩] (by kernel_rfl) (by decide) ⟨1,⟨#[49,46,53,48]⟩,1,17⟩ (.inr ⟨[⟨0,⟨#[112,120]⟩,1,1⟩,⟨2,⟨#[40]⟩,1,3⟩,⟨0,⟨#[120]⟩,1,4⟩,⟨2,⟨#[44]⟩,1,5⟩,⟨1,⟨#[53]⟩,1,7⟩,⟨2,⟨#[41]⟩,1,8⟩,⟨2,⟨#[45]⟩,1,10⟩,⟨1,⟨#[50]⟩,1,12⟩,⟨2,⟨#[42]⟩,1,14⟩,⟨2,⟨#[45]⟩,1,16⟩],rfl⟩) (by decide) 7 [.px ⟨#[120]⟩ 5,.num 2 1,.num 3 2,.op 5,.op 8,.op 7]
  (oPrice_k 6 _ _ _ _ _ _ 1 [⟨2,⟨#[45]⟩,1,10⟩,⟨1,⟨#[50]⟩,1,12⟩,⟨2,⟨#[42]⟩,1,14⟩,⟨2,⟨#[45]⟩,1,16⟩,⟨1,⟨#[49,46,53,48]⟩,1,17⟩] (.px ⟨#[120]⟩ 5) rfl rfl ⟨by decide,by decide⟩ (by kernel_rfl) (Run2.pOp 5 _ _ _ _ _ _ 7 1 [] [.px ⟨#[120]⟩ 5] (by kernel_rfl) (by decide) (by decide) (by decide) (by kernel_rfl) (Run2.oNum 4 _ _ _ _ _ _ 2 1 rfl numT2 (Run2.pOp 3 _ _ _ _ _ _ 8 2 [⟨7,1,0⟩] [.px ⟨#[120]⟩ 5,.num 2 1] (by kernel_rfl) (by decide) (by decide) (by decide) (by kernel_rfl) (Run2.oNeg 2 _ _ _ _ _ _ rfl rfl (Run2.oNum 1 _ _ _ _ _ _ 3 2 rfl numT32 (Run2.pEnd 0 _ _ _ [.px ⟨#[120]⟩ 5,.num 2 1,.num 3 2,.op 5,.op 8,.op 7] (by kernel_rfl)))))))) ⟨#[40,112,120,40,120,44,32,53,41,32,45,32,40,50,32,42,32,40,45,49,46,53,41,41,41]⟩ 4 fx1_at_frm (by decide) (by decide) (by decide) w hg (psi_all _ (by kernel_rfl))
theorem fx2_t (w:World)(hg:Glob2 w):Calls Tryz.prog 10 #[.string ⟨#[112,120,40,120,44,32,53,41,32,45,32,50,32,42,32,45,121]⟩] w fun ex w'=>ex= .returned (.tuple #[.slice none 0 0,.int .i64 110,.int .i64 1,.int .i64 17])∧Below w.heap.size w w':=
 parseErr_t _ (by decide) [⟨0,⟨#[112,120]⟩,1,1⟩,⟨2,⟨#[40]⟩,1,3⟩,⟨0,⟨#[120]⟩,1,4⟩,⟨2,⟨#[44]⟩,1,5⟩,⟨1,⟨#[53]⟩,1,7⟩,⟨2,⟨#[41]⟩,1,8⟩,⟨2,⟨#[45]⟩,1,10⟩,⟨1,⟨#[50]⟩,1,12⟩,⟨2,⟨#[42]⟩,1,14⟩,⟨2,⟨#[45]⟩,1,16⟩,⟨0,⟨#[121]⟩,1,17⟩] (by kernel_rfl) (by decide) ⟨0,⟨#[121]⟩,1,17⟩ (.inr ⟨[⟨0,⟨#[112,120]⟩,1,1⟩,⟨2,⟨#[40]⟩,1,3⟩,⟨0,⟨#[120]⟩,1,4⟩,⟨2,⟨#[44]⟩,1,5⟩,⟨1,⟨#[53]⟩,1,7⟩,⟨2,⟨#[41]⟩,1,8⟩,⟨2,⟨#[45]⟩,1,10⟩,⟨1,⟨#[50]⟩,1,12⟩,⟨2,⟨#[42]⟩,1,14⟩,⟨2,⟨#[45]⟩,1,16⟩],rfl⟩) (by decide) 6 110 1 17 (by decide)
  (oPrice_k 5 _ _ _ _ _ _ 1 [⟨2,⟨#[45]⟩,1,10⟩,⟨1,⟨#[50]⟩,1,12⟩,⟨2,⟨#[42]⟩,1,14⟩,⟨2,⟨#[45]⟩,1,16⟩,⟨0,⟨#[121]⟩,1,17⟩] (.px ⟨#[120]⟩ 5) rfl rfl ⟨by decide,by decide⟩ (by kernel_rfl) (Run2.pOp 4 _ _ _ _ _ _ 7 1 [] [.px ⟨#[120]⟩ 5] (by kernel_rfl) (by decide) (by decide) (by decide) (by kernel_rfl) (Run2.oNum 3 _ _ _ _ _ _ 2 1 rfl numT2 (Run2.pOp 2 _ _ _ _ _ _ 8 2 [⟨7,1,0⟩] [.px ⟨#[120]⟩ 5,.num 2 1] (by kernel_rfl) (by decide) (by decide) (by decide) (by kernel_rfl) (Run2.oNeg 1 _ _ _ _ _ _ rfl rfl (Run2.oBad 0 _ _ _ _ _ rfl (by kernel_rfl) (by rw[ByteArray.toList_eq];decide))))))) w hg (psi_all _ (by kernel_rfl))
theorem fx3_t (w:World)(hg:Glob2 w):Calls Tryz.prog 10 #[.string ⟨#[40,49,32,43,10]⟩] w fun ex w'=>ex= .returned (.tuple #[.slice none 0 0,.int .i64 110,.int .i64 1,.int .i64 5])∧Below w.heap.size w w':=
 parseErr_t _ (by decide) [⟨2,⟨#[40]⟩,1,1⟩,⟨1,⟨#[49]⟩,1,2⟩,⟨2,⟨#[43]⟩,1,4⟩] (by kernel_rfl) (by decide) ⟨2,⟨#[43]⟩,1,4⟩ (.inr ⟨[⟨2,⟨#[40]⟩,1,1⟩,⟨1,⟨#[49]⟩,1,2⟩],rfl⟩) (by decide) 4 110 1 5 (by decide)
  (Run2.oPar 3 _ _ _ _ _ _ rfl rfl (by decide) (Run2.oNum 2 _ _ _ _ _ _ 1 1 rfl numT1 (Run2.pOp 1 _ _ _ _ _ _ 6 1 [⟨-1,0,0⟩] [.num 1 1] (by kernel_rfl) (by decide) (by decide) (by decide) (by kernel_rfl) (Run2.oEnd 0 _ _ _)))) w hg (psi_all _ (by kernel_rfl))
theorem fx4_t (w:World)(hg:Glob2 w):Calls Tryz.prog 10 #[.string ⟨#[]⟩] w fun ex w'=>ex= .returned (.tuple #[.slice none 0 0,.int .i64 110,.int .i64 1,.int .i64 1])∧Below w.heap.size w w':=
 parseErr_t _ (by decide) [] (by kernel_rfl) (by decide) ⟨0,⟨#[]⟩,1,1⟩ (.inl ⟨rfl,rfl⟩) (by decide) 1 110 1 1 (by decide)
  (Run2.oEnd 0 _ _ _) w hg (psi_all _ (by kernel_rfl))
set_option maxHeartbeats 4000000 in
theorem fixed_t (w:World)(hg:Glob2 w):Calls Tryz.prog 9 #[] w fun e w'=>e= .returned (.bool true)∧Below w.heap.size w w':=by
 have HG:=Aside0.mk hg;have H0:=fun w hg=>Lib.hid (fx0_t w hg)
 have H1:=fun w hg=>Lib.hid (fx1_t w hg)
 have H2:=fun w hg=>Lib.hid (fx2_t w hg)
 have H3:=fun w hg=>Lib.hid (fx3_t w hg)
 have H4:=fun w hg=>Lib.hid (fx4_t w hg)
 clear hg;go_enter Tryz.func9,Tryz.ntmps9
 go_wp2_with fail;refine(H0 _ HG.out).out.mono ?_;rintro e w0 ⟨rfl,hb⟩;have B0:=Aside0.mk hb;clear hb H0;go_wp2_with fail;refine(H1 _ (HG.out.below B0.out)).out.mono ?_;rintro e w1 ⟨A,c,rfl,hc,hA,hC,hb⟩;have B1:=Aside0.mk (B0.out.trans (hb.mono B0.out.size));clear hb H1 B0 hA hc;go_wp2_with fail;refine(H2 _ (HG.out.below B1.out)).out.mono ?_;rintro e w2 ⟨rfl,hb⟩;have B2:=Aside0.mk (B1.out.trans (hb.mono B1.out.size));have hC2:=Aside0.mk (Kd.C_below hC.out hb);clear hb H2 B1 hC;go_wp2_with fail;refine(H3 _ (HG.out.below B2.out)).out.mono ?_;rintro e w3 ⟨rfl,hb⟩;have B3:=Aside0.mk (B2.out.trans (hb.mono B2.out.size));have hC3:=Aside0.mk (Kd.C_below hC2.out hb);clear hb H3 B2 hC2;go_wp2_with fail;refine(H4 _ (HG.out.below B3.out)).out.mono ?_;rintro e w4 ⟨rfl,hb⟩;have B4:=Aside0.mk (B3.out.trans (hb.mono B3.out.size));have HP:=Lib.hid (fxPrint_at A c w4 (Kd.C_below hC3.out hb));clear hb H4 B3 hC3;go_wp2_with fail;refine HP.out.mono ?_;rintro e w5 ⟨rfl,hb⟩;have B5:=Aside0.mk (B4.out.trans (hb.mono B4.out.size));clear hb HP B4;go_wp2_with fail;go_ret;exact⟨rfl,B5.out⟩
set_option maxHeartbeats 4000000 in
theorem same_at (l:List Nd)(A B:Option Addr)(c d:Nat)(hl:l.length≤2000)(w:World)(hA:Kd.C k37 w A l.length (l.map nd37))(hB:Kd.C k37 w B l.length (l.map nd37)):Calls Tryz.prog 12 #[.slice A l.length c,.slice B l.length d] w fun e w'=>e= .returned (.bool true)∧Below w.heap.size w w':=by
 have HA:=Aside0.mk hA;have HB:=Aside0.mk hB;clear hA hB;go_enter Tryz.func12,Tryz.ntmps12
 go_wp2_with fail;go_loopg [5] (l.length+1) (fun kq v5 w'=>∃(j:Nat),v5= .int .i64 (j:Int)∧j+kq=l.length+1∧j≤l.length∧Aside0 (Below w.heap.size w w'))
 case atStart=>exact⟨0,rfl,by omega,by omega,⟨Below.refl _ _⟩⟩
 case round=>
  obtain⟨j,rfl,hj,hjn,HW⟩:=hrel;by_cases hie:j=l.length
  ·subst hie
   have BB:=HW.out;clear HW HA HB;go_wp2_with fail;go_ret;exact⟨rfl,BB⟩
  ·have hlt:j<l.length:=by omega
   have hilt:(j:Int)<(l.length:Int):=by omega
   obtain⟨ad,hAd,q0,q1,q2,q3,q4,q5⟩:=at_T37 (Kd.C_below HA.out HW.out) (j:Int) (by omega) (by omega)
   obtain⟨be,hBe,r0,r1,r2,r3,r4,r5⟩:=at_T37 (Kd.C_below HB.out HW.out) (j:Int) (by omega) (by omega)
   rw[Int.toNat_natCast]at q0 q1 q2 q3 q4 q5 r0 r1 r2 r3 r4 r5;generalize rd_T37 (l.map nd37) (j:Int)=nn at*;subst hAd hBe;go_wp2_with fail;go_region;have HW2:=Aside0.mk HW.out.drew;clear HW q0 q1 q2 q3 q4 q5 r0 r1 r2 r3 r4 r5;go_wp2_with fail;go_roundg (gk-1)
   case measure=>omega
   case rel=>exact⟨j+1,by go_num,by omega,by omega,HW2⟩
end Go.Proofs.YtjopepfemhckjaaGreatDoor.NW
end
