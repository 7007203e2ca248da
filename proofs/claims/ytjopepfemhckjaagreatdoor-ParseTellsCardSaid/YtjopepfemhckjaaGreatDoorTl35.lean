/-
  Part 35 of the proof of parseTells_holds: texts of this seat, put together.
-/
import Derived.Test.YtjopepfemhckjaaGreatDoorTl31
import Derived.Test.YtjopepfemhckjaaGreatDoorTl34
set_option linter.unusedVariables false
set_option linter.unusedSimpArgs false
set_option maxHeartbeats 16000000
set_option maxRecDepth 100000
section
namespace Go.Proofs.YtjopepfemhckjaaGreatDoor.NW
open Go.Proofs Go.RowKit Go.Shelf Go.Proofs.YtjopepfemhckjaaGreatDoor.PN Go.Proofs.YtjopepfemhckjaaGreatDoorW.PrintWords Go.Proofs.YtjopepfemhckjaaGreatDoor.PParseTells
theorem one_zer (n:Nat):(⟨#[49]⟩:xf)++zer n=natS (10^n):=(pow_isN n).eq
theorem natS_pow (n:Nat):(natS (10^n)).size=n+1:=by
 rw[←one_zer,j8,jg];show 1+n=_
 omega
theorem rprint4_at (z:Int)(d:Nat)(hz:(intS z).size≤1000)(hd:(natS d).size≤1000)(h0:0<d)(hg:z.natAbs.gcd d=1)(hb:Bits d)(hp:(pl d).2=1)(hp20:(pl d).1≤20)(hz0:0≤z):Rt 98 #[ratV z d] (.string (if(pl d).1=0 then intS z else decP z (pl d).1 (10^(pl d).1/d))):=by
 intro w;have HM:=jA z d (by omega) (by omega) h0 hg
 have HP:=rplaces_at z d (by omega) (by omega) h0 hg hb
 rw[if_pos hp,decide_eq_true hp]at HP;have HS:=rsign3_at z d (by omega) (by omega) h0 hg
 by_cases hn:(pl d).1=0
 ·rw[if_pos hn]
  rw[hn]at HP;exact rPrint0_at (intS z) (natS d) (fun w=>Lib.hid (HM w)) (fun w=>Lib.hid (HP w)) w
 ·rw[if_neg hn]
  have hdv:=pl_dvd d h0 hp;generalize (pl d).1=n at*;obtain⟨u,hu⟩:∃u,10^n/d=u:=⟨_,rfl⟩;have hud:10^n=u*d:=by rw[←hu,Nat.div_mul_cancel hdv]
  have hus:(natS u).size≤21:=by
   have h1:=zr (Nat.div_le_self (10^n) d);rw[natS_pow,hu]at h1;omega
  have hge:=qQ z;have hprs:=jO z.natAbs u;have hiz:∀y:Nat,(intS (z*(y:Int))).size≤(natS z.natAbs).size+(natS y).size+1:=by
   intro y;have h1:=intS_le (z*(y:Int));have h2:=jO z.natAbs y;rw[Int.natAbs_mul,Int.natAbs_natCast]at h1;omega
  have hgcd:Nat.gcd (z*((10^n:Nat):Int)).natAbs (d*1)=d:=by
   rw[Int.natAbs_mul,Int.natAbs_natCast,Nat.mul_one,hud];exact Nat.gcd_eq_right (Nat.dvd_trans (Nat.dvd_mul_left d u) (Nat.dvd_mul_left _ _))
  have hge0:0≤z*((10^n:Nat):Int):=Int.mul_nonneg hz0 (Int.natCast_nonneg _);have e1:rnum (z*((10^n:Nat):Int)) (d*1)=z*(u:Int):=by
   unfold rnum;rw[if_neg (by omega),hgcd,Int.natAbs_mul,Int.natAbs_natCast,hud,←Nat.mul_assoc,Nat.mul_div_cancel _ h0,Int.natCast_mul,show(z.natAbs:Int)=z by omega]
  have e2:rden (z*((10^n:Nat):Int)) (d*1)=1:=by
   unfold rden;rw[hgcd,Nat.mul_one,Nat.div_self h0]
  have hpw:=natS_pow n;have hi10:intS ((10^n:Nat):Int)=natS (10^n):=zo _;have M2:=jA ((10^n:Nat):Int) 1 (by rw[hi10];omega) (by rw[natS_1];decide) (by omega) (by rw[Nat.gcd_one_right])
  have MU:=rmul2_at z ((10^n:Nat):Int) (by omega) (by rw[hi10];omega)
  have MN:=rmul1_at d 1 (by omega) (by rw[natS_1];decide)
  have MK:=jB (z*((10^n:Nat):Int)) (d*1) (by have:=hiz (10^n);omega) (by rw[Nat.mul_one];omega) (by omega)
  rw[e1,e2]at MK;unfold ratV at M2 MK;rw[hi10]at M2 MU;have HMU:=rMul3_of (intS z) (natS d) (natS (10^n)) (natS 1) _ _ _ _ HM M2 MU MN MK;rw[←one_zer,natS_1]at HMU;have HA:=rabs_at (z*(u:Int)) (by have:=hiz u;omega)
  rw[Int.natAbs_mul,Int.natAbs_natCast]at HA;have Z1:=rzeros_at n (by omega)
  have Z2:=rzeros_at (n+1-(natS (z.natAbs*u)).size) (by omega)
  have hsg:0≤sgn z:=by unfold sgn;(repeat' split)<;>omega
  have h:=rPrintN_at (intS z) (natS d) (zer n) (intS (z*(u:Int))) ⟨#[49]⟩ (natS (z.natAbs*u)) (zer (n+1-(natS (z.natAbs*u)).size)) n (sgn z) (by omega) (by omega) (jg n) (by omega) (jg _) hsg (fun w=>Lib.hid (HM w)) (fun w=>Lib.hid (HP w)) (fun w=>Lib.hid (Z1 w)) (fun w=>Lib.hid (HMU w)) (fun w=>Lib.hid (HA w)) (fun w=>Lib.hid (Z2 w)) (fun w=>Lib.hid (HS w)) w
  rw[hu];unfold decP;rw[if_neg (by omega)]
  exact h
theorem rnumber_at (z:Int)(d:Nat)(hz:(intS z).size≤1000)(hd:(natS d).size≤1000)(h0:0<d)(hg:z.natAbs.gcd d=1)(hb:Bits d):Rt 58 #[ratV z d] (.string (numP z d)):=by
 intro w;have HP:=rplaces_at z d (by omega) (by omega) h0 hg hb
 have HS:=rsign3_at z d (by omega) (by omega) h0 hg
 unfold numP;by_cases hc:(pl d).2=1∧(pl d).1≤20∧0≤z
 ·rw[if_pos hc]
  rw[if_pos hc.1,decide_eq_true hc.1]at HP;have HR:=rprint4_at z d hz hd h0 hg hb hc.1 hc.2.1 hc.2.2;have hsg:0≤sgn z:=by unfold sgn;(repeat' split)<;>omega
  exact rNumber_at (intS z) (natS d) _ (pl d).1 (sgn z) (by omega) hsg (fun w=>Lib.hid (HP w)) (fun w=>Lib.hid (HS w)) (fun w=>Lib.hid (HR w)) w
 ·rw[if_neg hc]
  have hsn:¬0≤z→¬0≤sgn z:=by unfold sgn;intro h;rw[if_pos (by omega)];decide
  unfold ratV at*;generalize natS d=ds at*;generalize intS z=zs at*;obtain⟨RR,hR⟩:∃RR,((((⟨#[110,117,109,40]⟩:xf)++zs)++(⟨#[44,32]⟩:xf))++ds)++(⟨#[41]⟩:xf)=RR:=⟨_,rfl⟩;rw[hR];have HR:=zc.mk hR;have s1:(⟨#[110,117,109,40]⟩:xf).size=4:=rfl;have s2:(⟨#[44,32]⟩:xf).size=2:=rfl;have s3:(⟨#[41]⟩:xf).size=1:=rfl;have o1:¬9223372036854775807<(⟨#[110,117,109,40]⟩:xf).size+zs.size:=by omega
  have o1':¬9223372036854775807<4+zs.size:=by omega
  have o2:¬9223372036854775807<((⟨#[110,117,109,40]⟩:xf)++zs).size+(⟨#[44,32]⟩:xf).size:=by simp only[j8];omega
  have o2':¬9223372036854775807<((⟨#[110,117,109,40]⟩:xf)++zs).size+2:=by simp only[j8];omega
  have o2'':¬9223372036854775807<4+zs.size+2:=by omega
  have o3:¬9223372036854775807<(((⟨#[110,117,109,40]⟩:xf)++zs)++(⟨#[44,32]⟩:xf)).size+ds.size:=by simp only[j8];omega
  have o3'':¬9223372036854775807<4+zs.size+2+ds.size:=by omega
  have o4:¬9223372036854775807<((((⟨#[110,117,109,40]⟩:xf)++zs)++(⟨#[44,32]⟩:xf))++ds).size+(⟨#[41]⟩:xf).size:=by simp only[j8];omega
  have o4':¬9223372036854775807<((((⟨#[110,117,109,40]⟩:xf)++zs)++(⟨#[44,32]⟩:xf))++ds).size+1:=by simp only[j8];omega
  have o4'':¬9223372036854775807<4+zs.size+2+ds.size+1:=by omega
  have k0:=j7 w (.cells #[.string zs,.string ds] 35);have B0:=(xb w.heap.size w).alloc (xc _) (.cells #[.string zs,.string ds] 35);have HB:=zc.mk (xb (w.alloc (.cells #[.string zs,.string ds] 35)).heap.size (w.alloc (.cells #[.string zs,.string ds] 35)));have hSB:∀w':World,Below (w.alloc (.cells #[.string zs,.string ds] 35)).heap.size (w.alloc (.cells #[.string zs,.string ds] 35)) w'→w'.cell? ⟨w.heap.size,0,none⟩=some (.string zs)∧w'.cell? ⟨w.heap.size,1,none⟩=some (.string ds):=fun w' hb=>by
   have k:=zK hb k0;exact⟨by rw[j6 k];rfl,by rw[j6 k];rfl⟩
  obtain⟨c0,c1⟩:=hSB _ (xb _ _);clear hR s1 s2 s3 hg;by_cases h1:(pl d).2=1
  ·rw[if_pos h1,decide_eq_true h1]at HP
   by_cases h2:(pl d).1≤20
   ·have h3:=hsn (fun h=>hc ⟨h1,h2,h⟩)
    have h4:((pl d).1:Int)≤20:=by omega
    generalize (pl d).1=n at*;generalize sgn z=sz at*;clear hc hsn h1 h2;go_enter Tryz.func58,Tryz.ntmps58
    go_wp2_with fail;generalize w.alloc (.cells #[.string zs,.string ds] 35)=w0 at*;refine HP.go HB ?_;clear HB c0 c1;intro w1 HB hb1;obtain⟨c0,c1⟩:=hSB _ HB.out;go_wp2_with fail;refine HS.go HB ?_;clear HB c0 c1;intro w2 HB hb2;obtain⟨c0,c1⟩:=hSB _ HB.out;go_wp2_with fail;go_ret;exact⟨by rw[←HR.out];rfl,B0.trans (HB.out.mono B0.size)⟩
   ·have h4:¬((pl d).1:Int)≤20:=by omega
    generalize (pl d).1=n at*;clear hc hsn h1 h2 HS;go_enter Tryz.func58,Tryz.ntmps58
    go_wp2_with fail;generalize w.alloc (.cells #[.string zs,.string ds] 35)=w0 at*;refine HP.go HB ?_;clear HB c0 c1;intro w1 HB hb1;obtain⟨c0,c1⟩:=hSB _ HB.out;go_wp2_with fail;go_ret;exact⟨by rw[←HR.out];rfl,B0.trans (HB.out.mono B0.size)⟩
  ·rw[if_neg h1,decide_eq_false h1]at HP
   clear hc hsn h1 HS;go_enter Tryz.func58,Tryz.ntmps58
   go_wp2_with fail;generalize w.alloc (.cells #[.string zs,.string ds] 35)=w0 at*;refine HP.go HB ?_;clear HB c0 c1;intro w1 HB hb1;obtain⟨c0,c1⟩:=hSB _ HB.out;go_wp2_with fail;go_ret;exact⟨by rw[←HR.out];rfl,B0.trans (HB.out.mono B0.size)⟩
theorem numP_few (z:Int)(d:Nat)(h1:(natS z.natAbs).size≤60)(h2:(natS d).size≤60):(numP z d).size≤1000:=by
 have hz:=intS_le z;have s1:(⟨#[110,117,109,40]⟩:xf).size=4:=rfl;have s2:(⟨#[44,32]⟩:xf).size=2:=rfl;have s3:(⟨#[41]⟩:xf).size=1:=rfl;have s4:(⟨#[45]⟩:xf).size=1:=rfl;have s5:(⟨#[46]⟩:xf).size=1:=rfl;have s6:(⟨#[]⟩:xf).size=0:=rfl;unfold numP;split
 ·split
  ·omega
  ·have hun:=zr (Nat.div_le_self (10^(pl d).1) d)
   rw[natS_pow]at hun;have hp:=jO z.natAbs (10^(pl d).1/d);unfold decP padD;generalize z.natAbs*(10^(pl d).1/d)=x at*;have hr:(⟨(List.replicate ((pl d).1+1-(natS x).size) (48:UInt8)).toArray⟩:ByteArray).size=(pl d).1+1-(natS x).size:=jg _;simp only[j8,ByteArray.size_extract,hr];split<;>omega
 ·simp only[j8]
  omega
theorem hnv37 (n:Nd):ndV n= .agg #[.int .i64 (opI n),.string (nd37 n).f1.f0,.string (nd37 n).f1.f1,.string (nd37 n).f2,.int .i64 (nd37 n).f3,.int .i64 (nd37 n).f4]:=by cases n<;>rfl
theorem rn_num {M:Nat}{z:Int}{d:Nat}(h:NdOK M (.num z d)):RN (.num z d):=by
 obtain⟨hr,h1,h2⟩:=h;have hz:=intS_le z;have HM:=jA z d (by omega) (by omega) hr.h0 hr.hg
 have HA:=rabs_at z (by omega)
 have HN:=rnumber_at z d (by omega) (by omega) hr.h0 hr.hg hr.hb
 refine⟨fun w=>?_,fun _ w=>?_,fun h=>absurd h (by simp[ar]),fun l hl=>?_⟩
 ·exact rNodeNum_at (intS z) (natS d) (natS z.natAbs) (by omega) (by omega) (fun w=>Lib.hid (HM w)) (fun w=>Lib.hid (HA w)) w
 ·exact rLeafNum_at (intS z) (natS d) (numP z d) (fun w=>Lib.hid (HN w)) w
 ·have:=numP_few z d h1 h2
  show(numP z d).size≤_
  omega
theorem rn_px {s:ByteArray}{a:Int}(h:NmOK s∧0≤a∧a≤9999):RN (.px s a):=by
 obtain⟨hs,ha⟩:=h;have h20:=hs.h20;have HA:=rasset_at s (by omega) true (by simp[asset_nm hs])
 have HO:=rof_at a.toNat (by omega)
 rw[show((a.toNat:Nat):Int)=a by omega]at HO
 have hp:(natS a.toNat).size≤20:=by
  have e:(natS a.toNat).size=(Lib.decDigits a.toNat).length:=by show(natS a.toNat).data.toList.length=_;rw[zq]
  have:=zH a.toNat 4 (by omega) (by omega)
  omega
 refine⟨fun w=>?_,fun _ w=>?_,fun h=>absurd h (by simp[ar]),fun l hl=>?_⟩
 ·exact rNodePx_at s a ha (fun w=>Lib.hid (HA w)) w
 ·exact rLeafPx_at s (natS a.toNat) a (by omega) (by omega) (fun w=>Lib.hid (HO w)) w
 ·show(pxP s a).size≤_
  unfold pxP;simp only[j8,show(⟨#[112,120,40]⟩:xf).size=3 from rfl,show(⟨#[41]⟩:xf).size=1 from rfl,show(⟨#[44,32]⟩:xf).size=2 from rfl]
  omega
theorem rn_op (k:Nat)(hk:5≤k∧k≤9):RN (.op k):=by
 have hk2:k=5∨k=6∨k=7∨k=8∨k=9:=by omega
 refine⟨fun w=>?_,fun h=>?_,?_,?_⟩
 ·have h:=rNodeOp_at k ⟨hk.1,by omega⟩ w
  rw[hnv37]at h;exact h
 ·rcases hk2 with rfl|rfl|rfl|rfl|rfl<;>exact absurd h (by decide)
 ·intro _ bk o c l w hl hlc hsz hcell
  have hm:=szs_mem l;rcases hk2 with rfl|rfl|rfl|rfl|rfl
  ·match l,hl with
   |[x],_=>exact rAbove5_at bk o c x (by have:=hm x (by simp);omega) w (hcell 0 x rfl)
  ·match l,hl with
   |[x,y],_=>exact jF 6 (by decide) bk o c x y (by have:=hm x (by simp);omega) (by have:=hm y (by simp);omega) w (hcell 0 x rfl) (hcell 1 y rfl)
  ·match l,hl with
   |[x,y],_=>exact jF 7 (by decide) bk o c x y (by have:=hm x (by simp);omega) (by have:=hm y (by simp);omega) w (hcell 0 x rfl) (hcell 1 y rfl)
  ·match l,hl with
   |[x,y],_=>exact jF 8 (by decide) bk o c x y (by have:=hm x (by simp);omega) (by have:=hm y (by simp);omega) w (hcell 0 x rfl) (hcell 1 y rfl)
  ·match l,hl with
   |[x,y],_=>exact jF 9 (by decide) bk o c x y (by have:=hm x (by simp);omega) (by have:=hm y (by simp);omega) w (hcell 0 x rfl) (hcell 1 y rfl)
 ·intro l hl
  show(opP k l).size≤_
  unfold opP;rcases hk2 with rfl|rfl|rfl|rfl|rfl
  ·match l,hl with
   |[x],_=>
    rw[if_pos rfl,j8,j8];show 2+x.size+1≤(x.size+0)+1000
    omega
  all_goals
   match l,hl with
   |[x,y],_=>
    rw[if_neg (by decide),if_pos (by decide)]
    simp only[j8];show 1+x.size+1+1+1+y.size+1≤(x.size+(y.size+0))+1000
    omega
theorem rplain_w (s:ByteArray)(hd:allD s.data.toList)(h0:0<s.size)(hs:s.size≤10000000)(w:World):Calls Tryz.prog 225 #[.string s] w fun e w'=>e= .returned (.string (natS (dv s.data.toList)))∧w'=w:=by
 have HD:=zc.mk hd;clear hd;obtain⟨R,hR⟩:∃R,natS (dv s.data.toList)=R:=⟨_,rfl⟩;rw[hR];have HR:=zc.mk hR;clear hR;go_enter Tryz.func225,Tryz.ntmps225
 go_wp2_with fail;go_loopg [3] (s.size+1) (fun kq v3 w'=>∃n:Nat,v3= .int .i64 n∧n+kq=s.size+1∧n<s.size∧zc (dv (s.data.toList.drop n)=dv s.data.toList)∧w'=w)
 case atStart=>exact⟨0,rfl,by omega,by omega,⟨rfl⟩,rfl⟩
 case round=>
  obtain⟨n,rfl,hn,hlt,HA,rfl⟩:=hrel;have hw:IntKind.i64.wrap ((n:Int)+1)=(n:Int)+1:=by simp[j9];omega
  by_cases he:n+1<s.size
  ·have h1:(n:Int)+1<(s.size:Int):=by omega
   by_cases hz:(s[n]'hlt).toNat=48
   ·have HA2:zc (dv (s.data.toList.drop (n+1))=dv s.data.toList):=⟨by rw[←HA.out,drop_zero48 hlt hz]⟩
    have h2:((s[n]'hlt).toNat:Int)=48:=by omega
    clear HA;go_wp2_with fail;go_roundg (gk-1)
    case measure=>omega
    case rel=>exact⟨n+1,by go_num,by omega,by omega,HA2,rfl⟩
   ·have h2:¬((s[n]'hlt).toNat:Int)=48:=by omega
    have HE:=zc.mk ((jM s n HD.out hlt (.inr hz) HA.out).trans HR.out);clear HA;go_wp2_with fail;go_ret;exact⟨by rw[←HE.out];simp,rfl⟩
  ·have h1:¬(n:Int)+1<(s.size:Int):=by omega
   have HE:=zc.mk ((jM s n HD.out hlt (.inl (by omega)) HA.out).trans HR.out)
   clear HA;go_wp2_with fail;go_ret;exact⟨by rw[←HE.out];simp,rfl⟩
theorem rfind_w (s:ByteArray)(c:UInt8)(k:Nat)(hk:k≤s.size)(hno:∀i (h:i<s.size),i<k→(s[i]'h).toNat≠c.toNat)(hs:s.size≤1000000)(R:Int)(hR:(k=s.size∧R= -1)∨∃h:k<s.size,(s[k]'h).toNat=c.toNat∧R=k):Rs 223 #[.string s,.int .u8 c.toNat] (.int .i64 R):=by
 intro w;go_enter Tryz.func223,Tryz.ntmps223
 go_wp2_with fail;go_loopg [5] (s.size+1) (fun kq v5 w'=>∃n:Nat,v5= .int .i64 n∧n+kq=s.size+1∧n≤k∧w=w')
 case atStart=>exact⟨0,rfl,by omega,by omega,rfl⟩
 case round=>
  obtain⟨n,rfl,hn,hnk,rfl⟩:=hrel;by_cases hlt:n<s.size
  ·by_cases he:n=k
   ·subst he
    have h1:(s[n]'hlt).toNat=c.toNat∧R=n:=by
     rcases hR with⟨h,_⟩|⟨h,h2⟩
     ·omega
     ·exact h2
    obtain⟨h2,rfl⟩:=h1;have h3:((s[n]'hlt).toNat:Int)=(c.toNat:Int):=by omega
    clear hR hno h2;go_wp2_with fail;go_ret;exact⟨rfl,rfl⟩
   ·have h1:=hno n hlt (by omega)
    have h3:¬((s[n]'hlt).toNat:Int)=(c.toNat:Int):=by omega
    go_wp2_with fail;go_roundg (gk-1)
    case measure=>omega
    case rel=>exact⟨n+1,by go_num,by omega,by omega,rfl⟩
  ·have h1:R= -1:=by
    rcases hR with⟨_,h⟩|⟨h,h2⟩
    ·exact h
    ·omega
   subst h1;clear hR hno;go_wp2_with fail;go_ret;exact⟨rfl,rfl⟩
theorem qE (s:ByteArray)(hd:allD s.data.toList)(hs:s.size≤1000000)(h0:0<s.size):Rs 224 #[.string s] (.bool true):=by
 intro w;have hdd:=digd s hd;clear hd;go_enter Tryz.func224,Tryz.ntmps224
 go_wp2_with fail;go_loopg [3] (s.size+1) (fun kq v3 w'=>∃n:Nat,v3= .int .i64 n∧n+kq=s.size+1∧n≤s.size∧w=w')
 case atStart=>exact⟨0,rfl,by omega,by omega,rfl⟩
 case round=>
  obtain⟨n,rfl,hn,hn2,rfl⟩:=hrel;by_cases hlt:n<s.size
  ·have hx:=hdd n hlt
   have h1:¬((s[n]'hlt).toNat:Int)<48:=by omega
   have h2:¬(57:Int)<((s[n]'hlt).toNat:Int):=by omega
   go_wp2_with fail;go_roundg (gk-1)
   case measure=>omega
   case rel=>exact⟨n+1,by go_num,by omega,by omega,rfl⟩
  ·have h1:(0:Int)<(s.size:Int):=by omega
   go_wp2_with fail;go_ret;exact⟨rfl,rfl⟩
theorem allD_ne {l:List UInt8}(h:allD l)(c:UInt8)(hc:c.toNat<48)(i:Nat)(hi:i<l.length):(l[i]'hi).toNat≠c.toNat:=by
 have:=h _ (List.getElem_mem hi);omega
theorem rfind_no (s:ByteArray)(hd:allD s.data.toList)(c:UInt8)(hc:c.toNat<48)(hs:s.size≤1000000):Rs 223 #[.string s,.int .u8 c.toNat] (.int .i64 (-1)):=
 rfind_w s c s.size (xc _) (fun i h _=>allD_ne hd c hc i h) hs _ (.inl ⟨rfl,rfl⟩)
theorem rparse4_no:Rt 195 #[.string ⟨#[]⟩] (.tuple #[.agg #[.string ⟨#[]⟩,.string ⟨#[]⟩],.int .i64 40]):=by
 intro w;have F1:Rs 223 #[.string ⟨#[]⟩,.int .u8 47] (.int .i64 (-1)):=rfind_no ⟨#[]⟩ (fun c hc=>by cases hc) 47 (by decide) (by decide)
 have F2:Rs 223 #[.string ⟨#[]⟩,.int .u8 46] (.int .i64 (-1)):=rfind_no ⟨#[]⟩ (fun c hc=>by cases hc) 46 (by decide) (by decide)
 have D1:Rs 224 #[.string ⟨#[]⟩] (.bool false):=by
  intro w;go_enter Tryz.func224,Tryz.ntmps224
  go_wp2_with fail;go_loopg [3] 1 (fun kq v3 w'=>v3= .int .i64 0∧w=w')
  case atStart=>exact⟨rfl,rfl⟩
  case round=>
   obtain⟨rfl,rfl⟩:=hrel;have h1:¬(0:Int)<((⟨#[]⟩:xf).size:Int):=by decide
   go_wp2_with fail;go_ret;exact⟨rfl,rfl⟩
 have k1:=j7 (w.alloc (.cells #[.string ⟨#[]⟩,.string ⟨#[]⟩] 35)) (.cells #[.string ⟨#[]⟩,.string ⟨#[]⟩] 35);have h1:¬(1000:Int)<((⟨#[]⟩:xf).size:Int):=by decide
 have h2:¬(0:Int)<((⟨#[]⟩:xf).size:Int):=by decide
 have B:Below w.heap.size w ((w.alloc (.cells #[.string ⟨#[]⟩,.string ⟨#[]⟩] 35)).alloc (.cells #[.string ⟨#[]⟩,.string ⟨#[]⟩] 35)):=((xb _ w).alloc (xc _) _).alloc (by simp) _
 go_enter Tryz.func195,Tryz.ntmps195
 go_wp2_with(first|(with_reducible refine F1.go ?_)|(with_reducible refine F2.go ?_)|(with_reducible refine D1.go ?_))
 refine bodyPost_ret (v:= .tuple #[.agg #[.string ⟨#[]⟩,.string ⟨#[]⟩],.int .i64 40]) ?_ rfl ⟨rfl,B⟩;have k0:((w.alloc (.cells #[.string ⟨#[]⟩,.string ⟨#[]⟩] 35)).alloc (.cells #[.string ⟨#[]⟩,.string ⟨#[]⟩] 35)).heap[w.heap.size]? =_:=(Lib.alloc_old _ _ _ (by simp)).trans (j7 w (.cells #[.string ⟨#[]⟩,.string ⟨#[]⟩] 35))
 have q1:=j6 k0 0;have q2:=j6 k0 1;simp[results,Tryz.f195,go_sem,q1,q2]
theorem rparse4_int (s:ByteArray)(hd:allD s.data.toList)(h0:0<s.size)(hs:s.size≤1000):Rt 195 #[.string s] (.tuple #[ratV (rnum (dv s.data.toList:Int) 1) (rden (dv s.data.toList:Int) 1),.int .i64 0]):=by
 intro w;obtain⟨n,hn⟩:∃n,dv s.data.toList=n:=⟨_,rfl⟩;have hns:(natS n).size≤1000:=by
  have h1:=qt _ hd;rw[hn,zv]at h1;exact Nat.le_trans (natS_le n s.size h1 h0) hs
 have F1:Rs 223 #[.string s,.int .u8 47] (.int .i64 (-1)):=rfind_no s hd 47 (by decide) (by omega)
 have F2:Rs 223 #[.string s,.int .u8 46] (.int .i64 (-1)):=rfind_no s hd 46 (by decide) (by omega)
 have d49:allD (⟨#[49]⟩:xf).data.toList:=by intro c hc;simp at hc;subst hc;exact⟨by decide,by decide⟩
 have D1:=qE s hd (by omega) h0
 have D2:=qE ⟨#[49]⟩ d49 (by decide) (by decide)
 have P1:Rs _ _ _:=rplain_w s hd h0 (by omega)
 have P2:Rs _ _ _:=rplain_w ⟨#[49]⟩ d49 (by decide) (by decide)
 rw[show dv (⟨#[49]⟩:xf).data.toList=1 from rfl]at P2
 have MK:=jB (n:Int) 1 (by rw[zo];omega) (by rw[natS_1];decide) (by omega)
 rw[zo]at MK;rw[hn]at P1 ⊢;have hb:¬((s[0]'h0).toNat:Int)=45:=by have:=digd s hd 0 h0;omega
 have h1:¬(1000:Int)<(s.size:Int):=by omega
 have h2:(0:Int)<(s.size:Int):=by omega
 unfold ratV at*;generalize natS (rden (n:Int) 1)=rd' at*;generalize intS (rnum (n:Int) 1)=rn' at*;generalize natS n=ns at*;generalize natS 1=os at*;clear hd d49 hn hns;have k0:((w.alloc (.cells #[.string ⟨#[]⟩,.string ⟨#[]⟩] 35)).alloc (.cells #[.string ⟨#[]⟩,.string ⟨#[]⟩] 35)).heap[w.heap.size]? =_:=(Lib.alloc_old _ _ _ (by simp)).trans (j7 w (.cells #[.string ⟨#[]⟩,.string ⟨#[]⟩] 35))
 have B0:Below w.heap.size w ((w.alloc (.cells #[.string ⟨#[]⟩,.string ⟨#[]⟩] 35)).alloc (.cells #[.string ⟨#[]⟩,.string ⟨#[]⟩] 35)):=((xb _ w).alloc (xc _) _).alloc (by simp) _
 have HB:=zc.mk (xb ((w.alloc (.cells #[.string ⟨#[]⟩,.string ⟨#[]⟩] 35)).alloc (.cells #[.string ⟨#[]⟩,.string ⟨#[]⟩] 35)).heap.size ((w.alloc (.cells #[.string ⟨#[]⟩,.string ⟨#[]⟩] 35)).alloc (.cells #[.string ⟨#[]⟩,.string ⟨#[]⟩] 35)));go_enter Tryz.func195,Tryz.ntmps195
 go_wp2_with(first|(with_reducible refine F1.go ?_)|(with_reducible refine F2.go ?_)|(with_reducible refine D1.go ?_)|(with_reducible refine D2.go ?_)|(with_reducible refine P1.go ?_)|(with_reducible refine P2.go ?_))
 generalize (w.alloc (.cells #[.string ⟨#[]⟩,.string ⟨#[]⟩] 35)).alloc (.cells #[.string ⟨#[]⟩,.string ⟨#[]⟩] 35)=w0 at*;refine MK.go HB ?_;clear HB;intro w8 HB hb8;have k8:=zK HB.out k0;have B8:=B0.trans (HB.out.mono B0.size);clear k0 hb8 F1 F2 D1 D2 P1 P2 MK;have k9:=(Lib.alloc_old w8 (.cells #[.string rn',.string rd'] 35) _ (xe k8).1).trans k8;have l9:=j7 w8 (.cells #[.string rn',.string rd'] 35);have B9:Below w.heap.size w (w8.alloc (.cells #[.string rn',.string rd'] 35)):=B8.alloc B8.size _;have c1:=j6 k9 0;have c2:=j6 k9 1;have f1:=Lib.frozen_of_heap k9 0;have f2:=Lib.frozen_of_heap k9 1;have c3:=j6 l9 0;have c4:=j6 l9 1;simp only[show∀(x y:Value),(#[x,y]:Array Value)[1]? =some y from fun _ _=>rfl,show∀(x y:Value),(#[x,y]:Array Value)[0]? =some x from fun _ _=>rfl]at c1 c2 c3 c4
 go_wp2_with fail;obtain⟨r1,r2⟩:=put2 k9 (.string rn') (.string rd');refine bodyPost_ret (v:= .tuple #[.agg #[.string rn',.string rd'],.int .i64 0]) ?_ rfl ⟨rfl,(B9.setCell (by simp) _).setCell (by simp) _⟩
 simp[results,Tryz.f195,go_sem,r1,r2]
theorem rparse4_frac (s:ByteArray)(a b:List UInt8)(he:s.data.toList=a++46::b)(ha:allD a)(hb:allD b)(hna:a≠[])(hnb:b≠[])(hs:s.size≤900):Rt 195 #[.string s] (.tuple #[ratV (rnum (dv (a++b):Int) (10^b.length)) (rden (dv (a++b):Int) (10^b.length)),.int .i64 0]):=by
 intro w;have hz:s.size=a.length+(b.length+1):=by rw[←zv,he,List.length_append,List.length_cons]
 have hpa:=List.length_pos_iff.2 hna;have hpb:=List.length_pos_iff.2 hnb;have hgl:∀i (h:i<s.size),(s[i]'h)=(a++46::b)[i]'(by rw[←he];exact h):=fun i h=>by
  rw[←ba_at s i h];simp only[he]
 have hga:∀i (h:i<s.size) (h2:i<a.length),(s[i]'h)=a[i]'h2:=fun i h h2=>by
  rw[hgl,List.getElem_append_left h2]
 have hg46:(s[a.length]'(by omega)).toNat=46:=by
  rw[hgl,List.getElem_append_right (xc _)];simp
 have F1:Rs 223 #[.string s,.int .u8 47] (.int .i64 (-1)):=rfind_w s 47 s.size (xc _) (fun i h _=>by
  rw[hgl];intro e;have hm:(a++46::b)[i]'(by rw[←he];exact h)∈a++46::b:=List.getElem_mem _
  have e47:(47:UInt8).toNat=47:=rfl;rcases List.mem_append.1 hm with h1|h1
  ·have:=ha _ h1;omega
  ·rcases List.mem_cons.1 h1 with h1|h1
   ·rw[h1]at e
    exact absurd e (by decide)
   ·have:=hb _ h1;omega) (by omega) _ (.inl ⟨rfl,rfl⟩)
 have F2:Rs 223 #[.string s,.int .u8 46] (.int .i64 (a.length:Int)):=rfind_w s 46 a.length (by omega) (fun i h h2=>by
  rw[hga i h h2];exact allD_ne ha 46 (by decide) i h2) (by omega) _ (.inr ⟨by omega,by rw[hg46];rfl,rfl⟩)
 obtain⟨S1,hS1⟩:∃S1,s.extract 0 a.length=S1:=⟨_,rfl⟩;obtain⟨S2,hS2⟩:∃S2,s.extract (a.length+1) s.size=S2:=⟨_,rfl⟩;have l1:S1.data.toList=a:=by rw[←hS1,ext_toList,he,List.take_append_of_le_length (xc _),List.take_length,List.drop_zero]
 have l2:S2.data.toList=b:=by
  rw[←hS2,ext_toList,List.take_of_length_le (by rw[zv];exact xc _),he,List.drop_append,List.drop_eq_nil_of_le (by omega),show a.length+1-a.length=1 by omega]
  rfl
 have z1:S1.size=a.length:=by rw[←zv,l1]
 have z2:S2.size=b.length:=by rw[←zv,l2]
 have l3:(S1++S2).data.toList=a++b:=by rw[cat_l,l1,l2]
 have z3:(S1++S2).size=a.length+b.length:=by rw[j8,z1,z2]
 have D1:=qE S1 (by rw[l1];exact ha) (by omega) (by omega)
 have D2:=qE S2 (by rw[l2];exact hb) (by omega) (by omega)
 have D3:=qE (S1++S2) (by rw[l3];exact j5 ha hb) (by omega) (by omega)
 obtain⟨n,hn⟩:∃n,dv (a++b)=n:=⟨_,rfl⟩;have P1:Rs _ _ _:=rplain_w (S1++S2) (by rw[l3];exact j5 ha hb) (by omega) (by omega)
 rw[l3,hn]at P1;have hns:(natS n).size≤1000:=by
  have h1:=qt _ (j5 ha hb);rw[hn,List.length_append]at h1;exact Nat.le_trans (natS_le n _ h1 (by omega)) (by omega)
 have hpw:=natS_pow b.length;have D4:=qE (natS (10^b.length)) (zh _).1.dig (by omega) (by omega)
 have P2:Rs _ _ _:=rplain_w (natS (10^b.length)) (zh _).1.dig (by omega) (by omega)
 rw[(zh _).2]at P2;have ZZ:=rzeros_w b.length (by omega)
 have MK:=jB (n:Int) (10^b.length) (by rw[zo];omega) (by omega) (Nat.pow_pos (by omega))
 rw[zo]at MK;have h10:=one_zer b.length;rw[←h10]at D4 P2 MK;rw[hn];have hs0:0<s.size:=by omega
 have hb0:¬((s[0]'hs0).toNat:Int)=45:=by
  rw[hga 0 hs0 hpa];have:=ha _ (List.getElem_mem hpa);omega
 have zb:=jg b.length;have hov:¬9223372036854775807<S1.size+S2.size:=by omega
 have hov2:¬9223372036854775807<(⟨#[49]⟩:xf).size+(zer b.length).size:=by rw[zb];show¬_<1+_;omega
 have hov3:¬9223372036854775807<1+(zer b.length).size:=by rw[zb];omega
 have h1:¬(1000:Int)<(s.size:Int):=by omega
 have h2:(0:Int)<(s.size:Int):=by omega
 have h3:(0:Int)≤(a.length:Int):=by omega
 have h4:(a.length:Int)≤(s.size:Int):=by omega
 have h5:(a.length:Int)+1≤(s.size:Int):=by omega
 have h6:(0:Int)≤(a.length:Int)+1:=by omega
 have h7:((a.length:Int)+1).toNat=a.length+1:=by omega
 have e1:IntKind.i64.wrap ((a.length:Int)+1)=(a.length:Int)+1:=by simp[j9];omega
 have e2:IntKind.i64.wrap ((s.size:Int)-(a.length:Int))=(s.size:Int)-(a.length:Int):=by simp[j9];omega
 have e3:IntKind.i64.wrap ((s.size:Int)-(a.length:Int)-1)=(b.length:Int):=by simp[j9];omega
 unfold ratV at*;generalize natS (rden (n:Int) (10^b.length))=rd' at*;generalize intS (rnum (n:Int) (10^b.length))=rn' at*;generalize natS n=ns at*;clear hgl hga hg46 ha hb hna hnb l1 l2 l3 z1 z2 z3 he hn hns hpw h10 zb hz;subst hS1 hS2;generalize zer b.length=zb at*;generalize b.length=nb at*;generalize a.length=na at*;have k0:((w.alloc (.cells #[.string ⟨#[]⟩,.string ⟨#[]⟩] 35)).alloc (.cells #[.string ⟨#[]⟩,.string ⟨#[]⟩] 35)).heap[w.heap.size]? =_:=(Lib.alloc_old _ _ _ (by simp)).trans (j7 w (.cells #[.string ⟨#[]⟩,.string ⟨#[]⟩] 35))
 have B0:Below w.heap.size w ((w.alloc (.cells #[.string ⟨#[]⟩,.string ⟨#[]⟩] 35)).alloc (.cells #[.string ⟨#[]⟩,.string ⟨#[]⟩] 35)):=((xb _ w).alloc (xc _) _).alloc (by simp) _
 go_enter Tryz.func195,Tryz.ntmps195
 go_wp2_with(first|(with_reducible refine F1.go ?_)|(with_reducible refine F2.go ?_)|(with_reducible refine D1.go ?_)|(with_reducible refine D2.go ?_))
 generalize (w.alloc (.cells #[.string ⟨#[]⟩,.string ⟨#[]⟩] 35)).alloc (.cells #[.string ⟨#[]⟩,.string ⟨#[]⟩] 35)=w0 at*;go_quiet (fail)
 have k0:=zK (ze (xb _ _) nq) k0;have B0:=ze B0 nq;generalize w0.drewN nq=w1 at*;have HB:=zc.mk (xb w1.heap.size w1);go_wp2_with(first|(with_reducible refine ZZ.go ?_)|(with_reducible refine D3.go ?_)|(with_reducible refine D4.go ?_)|(with_reducible refine P1.go ?_)|(with_reducible refine P2.go ?_))
 refine MK.go HB ?_;clear HB;intro w8 HB hb8;have k8:=zK HB.out k0;have B8:=B0.trans (HB.out.mono B0.size);clear k0 hb8 F1 F2 D1 D2 P1 P2 MK;have k9:=(Lib.alloc_old w8 (.cells #[.string rn',.string rd'] 35) _ (xe k8).1).trans k8;have l9:=j7 w8 (.cells #[.string rn',.string rd'] 35);have B9:Below w.heap.size w (w8.alloc (.cells #[.string rn',.string rd'] 35)):=B8.alloc B8.size _;have c1:=j6 k9 0;have c2:=j6 k9 1;have f1:=Lib.frozen_of_heap k9 0;have f2:=Lib.frozen_of_heap k9 1;have c3:=j6 l9 0;have c4:=j6 l9 1;simp only[show∀(x y:Value),(#[x,y]:Array Value)[1]? =some y from fun _ _=>rfl,show∀(x y:Value),(#[x,y]:Array Value)[0]? =some x from fun _ _=>rfl]at c1 c2 c3 c4
 go_wp2_with fail;obtain⟨r1,r2⟩:=put2 k9 (.string rn') (.string rd');refine bodyPost_ret (v:= .tuple #[.agg #[.string rn',.string rd'],.int .i64 0]) ?_ rfl ⟨rfl,(B9.setCell (by simp) _).setCell (by simp) _⟩
 simp[results,Tryz.f195,go_sem,r1,r2]
end Go.Proofs.YtjopepfemhckjaaGreatDoor.NW
end
section
namespace Go.Proofs.YtjopepfemhckjaaGreatDoor.WW
open Go.Proofs Go.RowKit Go.Proofs.YtjopepfemhckjaaGreatDoor.WP Go.Proofs.YtjopepfemhckjaaGreatDoor.Fl Go.Proofs.YtjopepfemhckjaaGreatDoorW.PrintWords Go.Proofs.YtjopepfemhckjaaGreatDoor.PParseTells
theorem jq (a:ByteArray)(i j:Nat):(a.extract i j).data.toList=(a.data.toList.drop i).take (j-i):=by
 rw[ByteArray.data_extract,Array.toList_extract]
theorem toL_rest (a:ByteArray)(i:Nat):(a.extract i a.size).data.toList=a.data.toList.drop i:=by
 rw[jq,List.take_of_length_le];rw[List.length_drop];simp
def mkL (l:List UInt8):ByteArray:=⟨l.toArray⟩
theorem toL_mkL (l:List UInt8):(mkL l).data.toList=l:=rfl
theorem toL_inj {a b:ByteArray}(h:a.data.toList=b.data.toList):a=b:=Go.WideShapes.bytes_inj h
theorem empty_iff (s:ByteArray):s=⟨#[]⟩↔s.data.toList=[]:=⟨fun h=>by rw[h],fun h=>toL_inj (by rw[h])⟩
def lexL:Nat→List UInt8→Nat×Nat→Sum (Nat×Nat) (List S75)
 |0,_,_=> .inr []
 |k+1,l,p=>
  if l.drop (runL isB l)=[]then .inr []else
  if(kindL (l.drop (runL isB l))).2=0 then .inl (advP p (l.take (runL isB l)))else
  match lexL k ((l.drop (runL isB l)).drop (kindL (l.drop (runL isB l))).2) (advP (advP p (l.take (runL isB l))) ((l.drop (runL isB l)).take (kindL (l.drop (runL isB l))).2))with
  | .inl q=> .inl q
  | .inr ts=> .inr (⟨(kindL (l.drop (runL isB l))).1,mkL ((l.drop (runL isB l)).take (kindL (l.drop (runL isB l))).2),(advP p (l.take (runL isB l))).1,(advP p (l.take (runL isB l))).2⟩::ts)
theorem lexB_list (k:Nat)(s:ByteArray)(p:Nat×Nat):lexB k s p=lexL k s.data.toList p:=by
 induction k generalizing s p with
 |zero=>rfl
 |succ k ih=>
  rw[lexB.eq_2,lexL.eq_2];have e1:=toL_rest s (runL isB s.data.toList);simp only[ih,empty_iff,e1,toL_rest];have e2:∀n,(s.extract (runL isB s.data.toList) s.size).extract 0 n=mkL ((s.data.toList.drop (runL isB s.data.toList)).take n):=by
   intro n;apply toL_inj;rw[jq,e1,toL_mkL];rfl
  simp only[e2];rfl
theorem lexL_blank (k:Nat)(c:UInt8)(l:List UInt8)(p:Nat×Nat)(h:isB c.toNat=true):lexL (k+1) (c::l) p=lexL (k+1) l (qA p c):=by
 have hr:runL isB (c::l)=runL isB l+1:=if_pos h;rw[lexL.eq_2,lexL.eq_2,hr];rfl
theorem runL_none (p:Nat→Bool)(c:UInt8)(l:List UInt8)(h:p c.toNat=false):runL p (c::l)=0:=by
 show(if p c.toNat=true then _ else 0)=0
 rw[h];rfl
theorem lexL_tok (k:Nat)(c:UInt8)(l:List UInt8)(p:Nat×Nat)(h:isB c.toNat=false):lexL (k+1) (c::l) p=
 if(kindL (c::l)).2=0 then .inl p else
 match lexL k ((c::l).drop (kindL (c::l)).2) (advP p ((c::l).take (kindL (c::l)).2))with
 | .inl q=> .inl q
 | .inr ts=> .inr (⟨(kindL (c::l)).1,mkL ((c::l).take (kindL (c::l)).2),p.1,p.2⟩::ts):=by
 rw[lexL.eq_2,runL_none isB c l h];rfl
theorem lexL_nil (k:Nat)(p:Nat×Nat):lexL k [] p= .inr []:=by
 cases k with
 |zero=>rfl
 |succ k=>rw[lexL.eq_2];rfl
def tk (t:S75):Int×ByteArray:=(t.f0,t.f1)
def lexT:Nat→List UInt8→Option (List (Int×ByteArray))
 |0,_=>some []
 |k+1,l=>
  if l.drop (runL isB l)=[]then some []else
  if(kindL (l.drop (runL isB l))).2=0 then none else
  (lexT k ((l.drop (runL isB l)).drop (kindL (l.drop (runL isB l))).2)).map fun ts=>(((kindL (l.drop (runL isB l))).1:Int),mkL ((l.drop (runL isB l)).take (kindL (l.drop (runL isB l))).2))::ts
def bare:Sum (Nat×Nat) (List S75)→Option (List (Int×ByteArray))
 | .inl _=>none
 | .inr ts=>some (ts.map tk)
theorem bare_lexL (k:Nat)(l:List UInt8)(p:Nat×Nat):bare (lexL k l p)=lexT k l:=by
 induction k generalizing l p with
 |zero=>rfl
 |succ k ih=>
  rw[lexL.eq_2,lexT.eq_2];split
  ·rfl
  ·split
   ·rfl
   ·rw[←ih _ (advP (advP p (l.take (runL isB l))) ((l.drop (runL isB l)).take (kindL (l.drop (runL isB l))).2))]
    generalize lexL k _ _=R;cases R<;>rfl
theorem run_all (p:Nat→Bool):∀(l:List UInt8),∀x∈l.take (runL p l),p x.toNat=true
 |[],x,hx=>by cases hx
 |c::l,x,hx=>by
  unfold runL at hx;by_cases h:p c.toNat=true
  ·rw[if_pos h,List.take_succ_cons]at hx
   rcases List.mem_cons.1 hx with rfl|hx
   ·exact h
   ·exact run_all p l x hx
  ·rw[if_neg h]at hx
   cases hx
theorem run_head (p:Nat→Bool)(c:UInt8)(l:List UInt8)(h:p c.toNat=true):runL p (c::l)=runL p l+1:=if_pos h
theorem dig_all (l:List UInt8):Go.Proofs.YtjopepfemhckjaaGreatDoor.PN.allD (l.take (runL isD l)):=by
 intro x hx;have:=run_all isD l x hx;unfold isD at this;exact of_decide_eq_true this
theorem kindL_ok (c:UInt8)(l:List UInt8)(h0:(kindL (c::l)).2≠0)(a b:Int):NW.TokOK ⟨((kindL (c::l)).1:Int),mkL ((c::l).take (kindL (c::l)).2),a,b⟩:=by
 have hp:zx (c::l) 0=c.toNat:=rfl;have hk:kindL (c::l)=if isL c.toNat=true then(if 20<runL isLD (c::l)then(0,0)else(0,runL isLD (c::l)))else if isD c.toNat=true then(if 100<numL (c::l)then(0,0)else(1,numL (c::l)))else if isS c.toNat=true then(2,1)else(0,0):=rfl
 by_cases hL:isL c.toNat=true
 ·rw[if_pos hL]at hk
  by_cases h20:20<runL isLD (c::l)
  ·rw[if_pos h20]at hk
   rw[hk]at h0;exact absurd rfl h0
  ·rw[if_neg h20]at hk
   rw[hk];refine .inl ⟨rfl,?_⟩;have hc:isLD c.toNat=true:=by unfold isLD;rw[hL];rfl
   have hr:=run_head isLD c l hc;have hsz:(mkL ((c::l).take (runL isLD (c::l)))).size=runL isLD (c::l):=by
    show((c::l).take (runL isLD (c::l))).length=_
    rw[List.length_take];have:=z8 isLD (c::l);omega
   have hg:(mkL ((c::l).take (runL isLD (c::l)))).get! 0=c:=by
    rw[hr];rfl
   have hLn:97≤c.toNat∧c.toNat≤122:=by unfold isL at hL;exact of_decide_eq_true hL
   refine⟨by show 0<(mkL _).size;rw[hsz];omega,by show(mkL _).size≤20;rw[hsz];omega,?_,by show 97≤((mkL _).get! 0).toNat;rw[hg];exact hLn.1,by show((mkL _).get! 0).toNat≤122;rw[hg];exact hLn.2⟩
   show((c::l).take (runL isLD (c::l))).all NW.nmB=true
   rw[List.all_eq_true];intro x hx;have h1:=run_all isLD (c::l) x hx;unfold isLD isL isD at h1;unfold NW.nmB;simp only[Bool.or_eq_true,Bool.and_eq_true,decide_eq_true_eq]at h1 ⊢;omega
 ·rw[if_neg hL]at hk
  by_cases hD:isD c.toNat=true
  ·rw[if_pos hD]at hk
   by_cases h100:100<numL (c::l)
   ·rw[if_pos h100]at hk
    rw[hk]at h0;exact absurd rfl h0
   ·rw[if_neg h100]at hk
    rw[hk];refine .inr (.inl ⟨rfl,?_,?_⟩)
    ·show((c::l).take (numL (c::l))).length≤100
     rw[List.length_take];omega
    ·have hr:=run_head isD c l hD
     refine⟨(c::l).take (runL isD (c::l)),dig_all _,by rw[hr];simp,?_⟩
     show(c::l).take (numL (c::l))=_∨∃b,_∧_∧(c::l).take (numL (c::l))=_
     unfold numL;by_cases hn:zx (c::l) (runL isD (c::l))=46∧isD (zx (c::l) (runL isD (c::l)+1))=true
     ·rw[if_pos hn]
      refine .inr ⟨((c::l).drop (runL isD (c::l)+1)).take (runL isD ((c::l).drop (runL isD (c::l)+1))),dig_all _,?_,?_⟩
      ·have h1:=hn.2
       generalize (c::l)=L at h1 ⊢;generalize runL isD L+1=j at h1 ⊢;unfold zx at h1;have e:L[j]? =(L.drop j)[0]? :=by rw[List.getElem?_drop,Nat.add_zero]
       rw[e]at h1;cases hd:L.drop j with
       |nil=>rw[hd]at h1;exact absurd h1 (by decide)
       |cons x y=>
        rw[hd]at h1;rw[run_head isD x y h1];simp
      ·have h1:=hn.1
       generalize (c::l)=L at h1 ⊢;generalize runL isD L=j at h1 ⊢;have hlt:j<L.length:=by
        apply Decidable.byContradiction;intro hge;unfold zx at h1;rw[List.getElem?_eq_none (by omega)]at h1
        exact absurd h1 (by decide)
       have hj:L[j]=46:=by
        unfold zx at h1;rw[List.getElem?_eq_getElem hlt]at h1;exact PN.u8_ext h1
       rw[List.take_add,List.drop_eq_getElem_cons hlt,Nat.add_comm 1,List.take_succ_cons,hj]
     ·rw[if_neg hn]
      exact .inl rfl
  ·rw[if_neg hD]at hk
   by_cases hS:isS c.toNat=true
   ·rw[if_pos hS]at hk
    rw[hk];refine .inr (.inr ⟨rfl,c,rfl,?_⟩);unfold isS at hS;have h1:=of_decide_eq_true hS;have key:∀n:Nat,n<256→(n=43∨n=45∨n=42∨n=47∨n=40∨n=41∨n=44)→UInt8.ofNat n∈([43,45,42,47,40,41,44]:List UInt8):=by
     intro n _ h;rcases h with rfl|rfl|rfl|rfl|rfl|rfl|rfl<;>decide
    have:=key c.toNat c.toNat_lt h1;rw[UInt8.ofNat_toNat]at this;exact this
   ·rw[if_neg hS]at hk
    rw[hk]at h0;exact absurd rfl h0
theorem drop_head (l:List UInt8)(h:l.drop (runL isB l)≠[]):∃c r,l.drop (runL isB l)=c::r:=by
 cases hd:l.drop (runL isB l)with
 |nil=>exact absurd hd h
 |cons c r=>exact⟨c,r,rfl⟩
theorem adv_col:∀(l:List UInt8) (p:Nat×Nat) (N:Nat),p.2+l.length≤N→1+l.length≤N→(advP p l).2≤N
 |[],p,N,h,_=>by simpa[advP]using h
 |c::l,p,N,h,h1=>by
  rw[List.length_cons]at h h1;show(advP (qA p c) l).2≤N
  refine adv_col l _ N ?_ (by omega)
  unfold qA;split
  ·show 1+l.length≤N;omega
  ·show p.2+1+l.length≤N;omega
theorem adv_app (p:Nat×Nat)(a b:List UInt8):advP (advP p a) b=advP p (a++b):=by
 unfold advP;rw[List.foldl_append]
theorem lexL_toks (l0:List UInt8)(k:Nat):∀(l:List UInt8) (pre:List UInt8) (ts:List S75),pre++l=l0→lexL k l (advP (1,1) pre)= .inr ts→(∀t∈ts,NW.TokOK t∧0≤t.f3∧t.f3≤((1+l0.length:Nat):Int))∧ts.length≤l.length:=by
 induction k with
 |zero=>
  intro l pre ts hl h;injection h with h;subst h;exact⟨fun t ht=>(by cases ht),Nat.zero_le _⟩
 |succ k ih=>
  intro l pre ts hl h;rw[lexL.eq_2]at h;by_cases hd:l.drop (runL isB l)=[]
  ·rw[if_pos hd]at h
   injection h with h;subst h;exact⟨fun t ht=>(by cases ht),Nat.zero_le _⟩
  ·rw[if_neg hd]at h
   obtain⟨c,r,hcr⟩:=drop_head l hd;by_cases h0:(kindL (l.drop (runL isB l))).2=0
   ·rw[if_pos h0]at h
    cases h
   ·rw[if_neg h0]at h
    have hn0:(kindL (l.drop (runL isB l))).2≤(l.drop (runL isB l)).length:=kindL_le _ hd;rw[adv_app,adv_app]at h;cases hR:lexL k ((l.drop (runL isB l)).drop (kindL (l.drop (runL isB l))).2) (advP (1,1) (pre++(l.take (runL isB l)++(l.drop (runL isB l)).take (kindL (l.drop (runL isB l))).2)))with
    |inl q=>rw[hR]at h;cases h
    |inr ts2=>
     rw[hR]at h;injection h with h;subst h;obtain⟨q1,q2⟩:=ih _ _ _ (by rw[List.append_assoc,List.append_assoc,List.take_append_drop,List.take_append_drop];exact hl) hR
     have hlen:l.length=(l.take (runL isB l)).length+(l.drop (runL isB l)).length:=by rw[←List.length_append,List.take_append_drop]
     rw[List.length_drop]at q2;refine⟨fun t ht=>?_,by rw[List.length_cons];omega⟩
     rcases List.mem_cons.1 ht with rfl|ht
     ·refine⟨?_,Int.natCast_nonneg _,?_⟩
      ·rw[hcr]at h0 ⊢
       exact kindL_ok c r h0 _ _
      ·show((advP (advP (1,1) pre) (l.take (runL isB l))).2:Int)≤_
       have hc:=adv_col (pre++l.take (runL isB l)) (1,1) (1+l0.length) (by show 1+_≤_;rw[←hl,List.length_append,List.length_append];omega) (by rw[←hl,List.length_append,List.length_append];omega)
       rw[←adv_app]at hc;omega
     ·exact q1 t ht
theorem lexD_ways (s:ByteArray):(∃a b:Int,lexD s=([],90,a,b)∧lexT (s.size+1) s.data.toList=none)∨(∃T:List S75,lexD s=(T,0,0,0)∧lexT (s.size+1) s.data.toList=some (T.map tk)∧(∀t∈T,NW.TokOK t∧0≤t.f3∧t.f3≤((1+s.size:Nat):Int))∧T.length≤s.size):=by
 have hb:=bare_lexL (s.size+1) s.data.toList (1,1);have hz:s.data.toList.length=s.size:=rfl;unfold lexD;rw[lexB_list];cases hR:lexL (s.size+1) s.data.toList (1,1)with
 |inl q=>rw[hR]at hb;exact Or.inl ⟨_,_,rfl,hb.symm⟩
 |inr ts=>
  rw[hR]at hb;obtain⟨q1,q2⟩:=lexL_toks s.data.toList (s.size+1) s.data.toList [] ts rfl hR;exact Or.inr ⟨ts,rfl,hb.symm,q1,q2⟩
end Go.Proofs.YtjopepfemhckjaaGreatDoor.WW
end
