/-
  Part 30 of the proof of parseTells_holds: texts of this seat, put together.
-/
import Derived.Test.YtjopepfemhckjaaGreatDoorTl28
import Derived.Test.YtjopepfemhckjaaGreatDoorTl29
set_option linter.unusedVariables false
set_option linter.unusedSimpArgs false
set_option maxHeartbeats 16000000
set_option maxRecDepth 100000
section
namespace Go.Proofs.YtjopepfemhckjaaGreatDoor.NW
open Go.Proofs Go.RowKit Go.Shelf Go.Proofs.YtjopepfemhckjaaGreatDoor.PN Go.Proofs.YtjopepfemhckjaaGreatDoorW.PrintWords Go.Proofs.YtjopepfemhckjaaGreatDoor.PParseTells
def cv:List Int→Nat
 |[]=>0
 |x::l=>x.toNat+10*cv l
theorem RI1.lt {W:World}{base g n c:Nat}{xs:List Int}(h:RI1 W base g (.slice (some ⟨g,0,none⟩) n c) xs):g<W.heap.size:=by
 obtain⟨inner,ho⟩:=Kd.R_own h;exact own_lt ho g rfl
theorem cv_set:∀(l:List Int) (j:Nat) (p:Nat),j<l.length→0≤rd l (j:Int)→cv (l.set j (rd l (j:Int)+(p:Int)))=cv l+p*10^j
 |[],j,p,h,_=>absurd h (by simp)
 |x::l,0,p,_,h0=>by
  have e:rd (x::l) ((0:Nat):Int)=x:=rfl;rw[e]at h0 ⊢;show(x+(p:Int)).toNat+10*cv l=x.toNat+10*cv l+p*10^0
  omega
 |x::l,j+1,p,h,h0=>by
  have e:rd (x::l) ((j+1:Nat):Int)=rd l (j:Int):=rfl;rw[e]at h0 ⊢;have ih:=cv_set l j p (by simpa using h) h0
  show x.toNat+10*cv (l.set j (rd l (j:Int)+(p:Int)))=x.toNat+10*cv l+p*10^(j+1)
  rw[ih,Nat.pow_succ];generalize 10^j=e;grind
theorem cv_drop (l:List Int)(i:Nat)(h:i<l.length):cv (l.drop i)=(rd l (i:Int)).toNat+10*cv (l.drop (i+1)):=by
 rw[drop_at l i h];rfl
theorem rd_put (l:List Int)(j:Nat)(x:Int)(i:Nat)(h:j<l.length):rd (l.set j x) (i:Int)=if i=j then x else rd l (i:Int):=by
 unfold rd;rw[xa,List.getD_eq_getElem?_getD,List.getD_eq_getElem?_getD];by_cases he:i=j
 ·subst he
  rw[if_pos rfl,List.getElem?_set_self h];rfl
 ·rw[if_neg he,List.getElem?_set_ne (fun e=>he e.symm)]
structure CB (N i k:Nat) (l:List Int):Prop where
 len:l.length=N
 lo:∀j:Nat,0≤rd l (j:Int)
 hi:∀j:Nat,rd l (j:Int)≤81*(i:Int)+(if j<i+k then 81 else 0)
theorem CB.step {N i k:Nat}{l:List Int}(h:CB N i k l)(hN:i+k<N)(p:Nat)(hp:p≤81):CB N i (k+1) (l.set (i+k) (rd l ((i+k:Nat):Int)+(p:Int))):=by
 obtain⟨h1,h2,h3⟩:=h;refine⟨by simp[h1],fun j=>?_,fun j=>?_⟩
 ·rw[rd_put _ _ _ _ (by omega)]
  have:=h2 j;have:=h2 (i+k);split<;>omega
 ·rw[rd_put _ _ _ _ (by omega)]
  have a:=h3 j;have b:=h3 (i+k);rw[if_neg (by omega)]at b
  by_cases he:j=i+k
  ·rw[if_pos he,if_pos (by omega)]
   omega
  ·rw[if_neg he]
   by_cases hl:j<i+k
   ·rw[if_pos hl]at a
    rw[if_pos (by omega)]
    exact a
   ·rw[if_neg hl]at a
    rw[if_neg (by omega)]
    exact a
theorem CB.next {N i k:Nat}{l:List Int}(h:CB N i k l):CB N (i+1) 0 l:=by
 refine⟨h.len,h.lo,fun j=>?_⟩
 have:=h.hi j;split at this<;>split<;>omega
theorem CB.cell {N i k:Nat}{l:List Int}(h:CB N i k l)(j:Nat):0≤rd l (j:Int)∧rd l (j:Int)≤81*(i:Int)+81:=by
 have:=h.hi j;have:=h.lo j;split at* <;>omega
theorem mul_cell {c n m i k a b:Nat}(h:c=(n%10^i)*m+a*10^i*(m%10^k))(hb:m/10^k%10=b):c+a*b*10^(i+k)=(n%10^i)*m+a*10^i*(m%10^(k+1)):=by
 rw[mod_step m k,hb,h,Nat.pow_add];generalize 10^i=e;generalize 10^k=f;grind
theorem mul_line {c n m i a L:Nat}(h:c=(n%10^i)*m+a*10^i*(m%10^L))(ha:n/10^i%10=a)(hm:m<10^L):c=(n%10^(i+1))*m:=by
 rw[mod_step n i,ha,h,Nat.mod_eq_of_lt hm];generalize 10^i=e;grind
theorem mul_out {v c x y i r:Nat}(h:v+(c+(x+10*y))*10^i=r):(v+(x+c)%10*10^i)+((x+c)/10+y)*10^(i+1)=r:=by
 have e:=Nat.div_add_mod (x+c) 10;generalize (x+c)%10=s at*;generalize (x+c)/10=t at*;rw[←h,Nat.pow_succ];generalize 10^i=f at*;have:(x+c)*f=(10*t+s)*f:=by rw[e]
 grind
theorem mul_fin {v c r N:Nat}(h:v+c*10^N=r)(hr:r<10^N)(hv:v<10^N):v=r:=by
 cases c with
 |zero=>omega
 |succ c=>
  have:(c+1)*10^N=c*10^N+10^N:=by rw[Nat.add_mul,Nat.one_mul]
  omega
theorem rmul1_at (n m:Nat)(hs:(natS n).size≤100000)(ht:(natS m).size≤100000):Rt 170 #[.string (natS n),.string (natS m)] (.string (natS (n*m))):=by
 intro w;have H1:=(show Rs _ _ _ from zP n (by omega))
 have H2:=(show Rs _ _ _ from zP m (by omega))
 have HX:=fun i hi=>(show Rs _ _ _ from rat_w n i (by omega) hi)
 have HY:=fun i hi=>(show Rs _ _ _ from rat_w m i (by omega) hi)
 have HT:=fun s h1 h2 h3=>(show Rs _ _ _ from rtrim_w s h1 h2 h3)
 have hL0:=qw n;have HP:zc (n<10^(natS n).size∧m<10^(natS m).size):=⟨qk n,qk m⟩;generalize natS n=s at*;generalize natS m=t at*;obtain⟨M,hM⟩:∃M,s.size+t.size=M:=⟨_,rfl⟩;have e1:IntKind.i64.wrap ((s.size:Int)+(t.size:Int))=(M:Int):=by simp[j9];omega
 have e2:IntKind.i64.wrap ((M:Int)+1)=((M+1:Nat):Int):=by simp[j9];omega
 go_enter Tryz.func170,Tryz.ntmps170
 go_wp2_with(first|(with_reducible refine H1.go ?_)|(with_reducible refine H2.go ?_)|((with_reducible refine gate_dst (N:=28) rfl ?_);refine Kd.R_make (Kd.int .i64) (w0:=w) w.heap.size 3 rfl (N:=28) rfl 40 _ _ rfl ((M+1:Nat):Int) rfl rfl Tryz.underlying40 (.int .i64 0) 8 info3 rfl (by decide) (by omega) 0 (ok:=fun _=>True) (okp:=fun _=>True) rfl (fun _ hk=>hk) trivial (by omega) (by omega) (by first|exact xb _ _|exact ze (xb _ _) _) (by simp) ?_;intro vo wo ho hbo hgo hnew;obtain⟨g,hg1,hg2⟩:=hnew;have r1:=RI1.of ho hg1;obtain⟨cap,rfl,hcap⟩:=r1.form hg1;clear hg1 ho;have HR:=zc.mk r1;have HB:=zc.mk hbo;clear r1 hgo hbo))
 have hN:(List.replicate ((M+1:Nat):Int).toNat (0:Int)).length=M+1:=by rw[List.length_replicate,xa]
 have hz0:∀j:Nat,rd (List.replicate ((M+1:Nat):Int).toNat (0:Int)) (j:Int)=0:=fun j=>by
  unfold rd;rw[xa,List.getD_eq_getElem?_getD,List.getElem?_replicate];split<;>rfl
 have HC0:zc (CB (M+1) 0 0 (List.replicate ((M+1:Nat):Int).toNat (0:Int))):=⟨⟨hN,fun j=>by rw[hz0];omega,fun j=>by rw[hz0];split<;>omega⟩⟩
 have HV0:zc (cv (List.replicate ((M+1:Nat):Int).toNat (0:Int))=(n%10^0)*m):=⟨by
  rw[Nat.pow_zero,Nat.mod_one,Nat.zero_mul];generalize ((M+1:Nat):Int).toNat=q;induction q with
  |zero=>rfl
  |succ q ih=>rw[List.replicate_succ];show 0+10*cv _=0;omega⟩
 rw[hN]at HR hcap;try rw[hN]
 generalize List.replicate ((M+1:Nat):Int).toNat (0:Int)=l0 at*;clear hN hz0 H1 H2 e2;have hg2':w.heap.size≤g:=by first|exact hg2|simpa using hg2
 go_loopg [7] (s.size+1) (fun kq v7 w'=>∃(i:Nat) (l:List Int),v7= .int .i64 i∧i+kq=s.size+1∧i≤s.size∧zc (CB (M+1) i 0 l)∧zc (cv l=(n%10^i)*m)∧zc (RI1 w' w.heap.size g (.slice (some ⟨g,0,none⟩) (M+1) cap) l)∧zc (Below w.heap.size w w'))
 case atStart=>exact⟨0,l0,rfl,by omega,by omega,HC0,HV0,HR,HB⟩
 case round=>
  clear HC0 HV0 HR HB;obtain⟨i,l,rfl,hi,hin,HC,HV,HR,HB⟩:=hrel;obtain⟨gq,hgq⟩:∃gq,gk=gq:=⟨_,rfl⟩;by_cases hie:i=s.size
  ·subst hie
   have HV1:zc (cv l=n*m):=⟨by rw[HV.out,Nat.mod_eq_of_lt HP.out.1]⟩
   have HC1:=zc.mk (fun j=>HC.out.cell j)
   have hl:=HC.out.len;have HPP:zc (n*m<10^M):=⟨by rw[←hM,Nat.pow_add];exact Nat.mul_lt_mul_of_lt_of_lt HP.out.1 HP.out.2⟩
   clear HV HC HX HY;have hMp:0<M:=by omega
   go_wp2_with((with_reducible refine gate_dst (N:=57) rfl ?_);refine Kd.R_make (Kd.int .u8) (w0:=w) w.heap.size 5 rfl (N:=57) rfl 121 _ _ rfl (M:Int) rfl rfl Tryz.underlying121 (.int .u8 0) 1 info5 rfl (by decide) (by omega) 0 (ok:=fun k=>k≠g) (okp:=fun _=>False) rfl (fun _ hk=>hk.elim) (by have:=HR.out.lt;omega) (by omega) (by omega) HB.out HB.out.size ?_;intro vo2 wo2 ho2 hbo2 hgo2 hnew2;obtain⟨g2,cap2,rfl,hq1,hq2,hq3⟩:=Kd.R_form ho2 (by simp;omega);have hne:g2≠g:=ho2.1 g2 rfl;have HO:=zc.mk ho2;have HR2:=zc.mk (HR.out.grown hgo2 (fun r e=>by cases e));have HB2:=zc.mk hbo2;clear hgo2 hbo2 ho2 hnew2 hq2 hq3 HR HB)
   have hN2:(List.replicate (M:Int).toNat (0:Int)).length=M:=by rw[List.length_replicate,xa]
   have HF:=zc.mk (Fil.start M _ hN2);rw[hN2]at HO;try rw[hN2]
   generalize List.replicate (M:Int).toNat (0:Int)=lo at*;clear hN2;go_loopg [10,11] (M+1) (fun kq v10 v11 w'=>∃(j c v:Nat) (l2:List Int),v10= .int .i64 c∧v11= .int .i64 j∧j+kq=M+1∧j≤M∧c≤1000000000∧zc (Fil M j l2 v)∧zc (v+(c+cv (l.drop j))*10^j=n*m)∧zc (Kd.R (Kd.int .u8) 5 w' w.heap.size (fun k=>k≠g) (.slice (some ⟨g2,0,none⟩) M cap2) l2)∧zc (RI1 w' w.heap.size g (.slice (some ⟨g,0,none⟩) (M+1) cap) l)∧zc (Below w.heap.size w w'))
   case atStart=>exact⟨0,0,0,lo,rfl,rfl,by omega,by omega,by omega,HF,⟨by rw[List.drop_zero,HV1.out];simp⟩,HO,HR2,HB2⟩
   case round=>
    clear HF HO HR2 HB2;obtain⟨j,c,v,l2,rfl,rfl,hj,hjM,hc,HF,HV,HO,HR,HB⟩:=hrel;by_cases hje:j=M
    ·subst hje
     obtain⟨q1,q2,q3⟩:=HF.out.whole;have hv:v=n*m:=mul_fin HV.out HPP.out (by rw[←q2,←q3];exact qt _ q1)
     have hcv:=own_string (P:=Tryz.prog) Tryz.underlying121 Tryz.underlying5 Tryz.underlying9 (Kd.own_of_R HO.out);have HT2:=HT (strOfNums l2) q1 (by omega) (by omega)
     rw[q2,hv]at HT2;clear HV HF HO HR q1 q2 q3 HT;generalize strOfNums l2=sl at*;go_wp2_with(with_reducible refine HT2.go ?_)
     go_ret;exact⟨rfl,HB.out⟩
    ·have h1:(j:Int)<(M:Int):=by omega
     obtain⟨x0,hx0⟩:∃x0,rd l (j:Int)=x0:=⟨_,rfl⟩;have hcl:=HC1.out j;rw[hx0]at hcl;have q0:=HR.out.cell j (by omega)
     rw[hx0]at q0;obtain⟨x,rfl⟩:=Int.eq_ofNat_of_zero_le hcl.1;have hx8:x≤81*100000+81:=by omega
     obtain⟨z,hz⟩:∃z,x+c=z:=⟨_,rfl⟩;have e4:IntKind.i64.wrap ((x:Int)+(c:Int))=(z:Int):=by simp[j9];omega
     have e5:(z:Int).tmod 10=((z%10:Nat):Int):=by rw[Int.tmod_eq_emod_of_nonneg (by omega)];omega
     have e6:(z:Int).tdiv 10=((z/10:Nat):Int):=by rw[Int.tdiv_eq_ediv_of_nonneg (by omega)];omega
     have e3:IntKind.i64.wrap ((M:Int)-1)=(M:Int)-1:=by simp[j9];omega
     have e7:IntKind.i64.wrap ((M:Int)-1-(j:Int))=((M-1-j:Nat):Int):=by simp[j9];omega
     have HV2:=HV.out;rw[cv_drop l j (by omega),hx0,xa]at HV2
     have HV3:=mul_out HV2;rw[hz]at HV3;obtain⟨d,hd⟩:∃d,z%10=d:=⟨_,rfl⟩;obtain⟨u,hu⟩:∃u,z/10=u:=⟨_,rfl⟩;have hd9:d≤9:=by omega
     have hu9:u≤1000000000:=by omega
     rw[hd]at e5 HV3;rw[hu]at e6 HV3;have e8:IntKind.i64.wrap (48+(d:Int))=48+(d:Int):=by simp[j9];omega
     have e9:IntKind.u8.wrap (48+(d:Int))=48+(d:Int):=by rw[IntKind.wrap_u8];omega
     have e10:IntKind.i64.wrap (d:Int)=(d:Int):=by simp[j9];omega
     have e11:IntKind.i64.wrap (u:Int)=(u:Int):=by simp[j9];omega
     obtain⟨p0,f0⟩:=Kd.R_celln 0 HO.out ((M-1-j:Nat):Int) (by omega) (by omega)
     have HO2:=zc.mk (Kd.R_putn HO.out ((M-1-j:Nat):Int) (48+(d:Int)));have HF2:=zc.mk (HF.out.put (by omega:j<M) d (by omega))
     have HR2:=zc.mk (HR.out.far (p:=⟨g2,M-1-j,none⟩) (fun e=>hne e.symm) (.int .u8 (48+(d:Int))))
     have HB2:=zc.mk (bput HB.out hq1 (M-1-j) (.int .u8 (48+(d:Int))));simp only[xa]at p0 f0 HO2;have HV4:=zc.mk HV3;obtain⟨y,hy⟩:∃y,M-1-j=y:=⟨_,rfl⟩;rw[hy]at p0 f0 HO2 HF2 HR2 HB2 e7;have i1:(0:Int)≤(y:Int):=by omega
     have i2:(y:Int)<(M:Int):=by omega
     have i3:(y:Int).toNat=y:=xa _;have i4:(0:Int)≤(j:Int):=by omega
     have i5:(j:Int)<((M+1:Nat):Int):=by omega
     have i6:(j:Int).toNat=j:=xa _;clear HV2 HV3 HV HF HO HR HB hd hu hy hx0 hz;go_wp2_with fail;go_roundg (gk-1)
     case measure=>omega
     case rel=>exact⟨j+1,u,_,_,rfl,by go_num,by omega,by omega,hu9,HF2,HV4,HO2,HR2,HB2⟩
  ·have h1:(i:Int)<(s.size:Int):=by omega
   have hx:=HX i (by omega)
   obtain⟨a,ha⟩:∃a,n/10^i%10=a:=⟨_,rfl⟩;have ha9:a≤9:=by omega
   have HAA:=zc.mk ha;rw[ha]at hx;clear ha;have HV2:zc (cv l=(n%10^i)*m+a*10^i*(m%10^0)):=⟨by rw[HV.out];simp[Nat.mod_one]⟩
   clear HV;go_wp2_with fail;go_loopg [8] (t.size+1) (fun kq v8 w'=>∃(k:Nat) (l:List Int),v8= .int .i64 k∧k+kq=t.size+1∧k≤t.size∧zc (CB (M+1) i k l)∧zc (cv l=(n%10^i)*m+a*10^i*(m%10^k))∧zc (RI1 w' w.heap.size g (.slice (some ⟨g,0,none⟩) (M+1) cap) l)∧zc (Below w.heap.size w w'))
   case atStart=>exact⟨0,l,rfl,by omega,by omega,HC,HV2,HR,HB⟩
   case round=>
    clear HC HV2 HR HB;obtain⟨k,l2,rfl,hk,hkt,HC,HV,HR,HB⟩:=hrel;by_cases hke:k=t.size
    ·subst hke
     have HV3:=zc.mk (mul_line HV.out HAA.out HP.out.2);have HC3:=zc.mk HC.out.next;clear HV HC;go_wp2_with fail;go_roundg (gq-1)
     case measure=>omega
     case rel=>exact⟨i+1,l2,by go_num,by omega,by omega,HC3,HV3,HR,HB⟩
    ·have h2:(k:Int)<(t.size:Int):=by omega
     have hy:=HY k (by omega)
     obtain⟨b,hb⟩:∃b,m/10^k%10=b:=⟨_,rfl⟩;have hb9:b≤9:=by omega
     rw[hb]at hy;obtain⟨z0,hz0⟩:∃z0,rd l2 ((i+k:Nat):Int)=z0:=⟨_,rfl⟩;have hcl:=HC.out.cell (i+k);rw[hz0]at hcl;have q0:=HR.out.cell (i+k) (by omega)
     rw[hz0]at q0;have e4:IntKind.i64.wrap ((i:Int)+(k:Int))=((i+k:Nat):Int):=by simp[j9];omega
     obtain⟨p,hp⟩:∃p,a*b=p:=⟨_,rfl⟩;have hp81:p≤81:=by rw[←hp];exact Nat.mul_le_mul ha9 hb9
     have e5:IntKind.i64.wrap ((a:Int)*(b:Int))=(p:Int):=by rw[show(a:Int)*(b:Int)=(p:Int) by rw[←hp];simp];simp[j9];omega
     have e6:IntKind.i64.wrap (z0+(p:Int))=z0+(p:Int):=by simp[j9];omega
     have HC2:=HC.out.step (by omega) p hp81
     have HV2:=cv_set l2 (i+k) p (by rw[HC.out.len];omega) (HC.out.lo _)
     rw[hz0]at HC2 HV2;rw[←hp,mul_cell HV.out hb]at HV2;rw[hp]at HV2;have HC3:=zc.mk HC2;have HV3:=zc.mk HV2;obtain⟨ik,hik⟩:∃ik,i+k=ik:=⟨_,rfl⟩;rw[hik]at HC3 HV3 q0 hz0 e4;have i1:(0:Int)≤(ik:Int):=by omega
     have i2:(ik:Int)<((M+1:Nat):Int):=by omega
     have i2':(ik:Int)<(M:Int)+1:=by omega
     have i3:(ik:Int).toNat=ik:=xa _;clear HC2 HV2 HC HV hb hp;have HRd:=zc.mk (show RI1 wr.drew _ _ _ _ from HR.out.drew)
     have f0:=HR.out.frozen (ik);have q1:=HRd.out.cell (ik) (by omega)
     have f1:=HRd.out.frozen (ik);rw[hz0]at q1;have HR2:=zc.mk (HRd.out.put (ik) (by omega) (z0+(p:Int)))
     have HB2:=zc.mk (HB.out.drew.setCell (p:=⟨g,ik,none⟩) hg2' (.int .i64 (z0+(p:Int))));clear HR HB HRd hz0;go_wp2_with fail;go_region_law (first|(go_simp;with_reducible refine hx.go ?_)|(go_simp;with_reducible refine hy.go ?_))
     all_goals
      go_wp2_with fail;go_roundg (gk-1)
      case measure=>omega
      case rel=>exact⟨k+1,_,by go_num,by omega,by omega,HC3,HV3,HR2,HB2⟩
theorem qh (n:Nat):((natS n).toList==([48]:List UInt8))=decide (n=0):=by
 have h:=natS_eqB n 0;rwa [show(natS 0).toList=[48] by rw[nat0,ByteArray.toList_eq]]at h
theorem natS_1:natS 1=⟨#[49]⟩:=(zh 1).inj isN_1
theorem qx {z:Int}(h:z<0):intS z=(⟨#[45]⟩:xf)++natS z.natAbs:=by unfold intS;rw[if_pos h]
theorem jc {z:Int}(h:¬z<0):intS z=natS z.natAbs:=by unfold intS;rw[if_neg h]
theorem qQ (z:Int):(natS z.natAbs).size≤(intS z).size:=by
 by_cases h:z<0
 ·rw[qx h,j8];omega
 ·rw[jc h];exact xc _
theorem intS_le (z:Int):(intS z).size≤(natS z.natAbs).size+1:=by
 by_cases h:z<0
 ·rw[qx h,j8];show 1+_≤_;omega
 ·rw[jc h];omega
theorem zU (z:Int)(hs:(intS z).size≤1000000):Rt 94 #[.string (intS z)] (.tuple #[.string (natS z.natAbs),.bool (decide (z<0))]):=by
 intro w;have hp:=qw z.natAbs;by_cases hz:z<0
 ·have h0:0<(intS z).size:=by have:=qQ z;omega
  have h0':(0:Int)<((intS z).size:Int):=by omega
  have hl:(intS z).data.toList=45::(natS z.natAbs).data.toList:=by rw[qx hz,cat_l];rfl
  have hb:(((intS z)[0]'h0).toNat:Int)=45:=by
   rw[←ba_at (intS z) 0 h0];simp only[hl];rfl
  have he:(intS z).extract 1 (intS z).size=natS z.natAbs:=z7 (by
   rw[ext_toList,List.take_of_length_le (by rw[zv];exact xc _),hl]
   rfl)
  have h1:(1:Int)≤((intS z).size:Int):=by omega
  rw[decide_eq_true hz];generalize natS z.natAbs=a at*;generalize intS z=s at*;clear hl;go_enter Tryz.func94,Tryz.ntmps94
  go_wp2_with fail;refine bodyPost_ret (results_tmp2 rfl _ _ _) rfl ?_;exact⟨by first|rfl|(simp[he];done)|(rw[←he];simp),xb _ _⟩
 ·obtain⟨c,r,hl,hc⟩:=jQ z.natAbs
  rw[jc hz,decide_eq_false hz];have h0':(0:Int)<((natS z.natAbs).size:Int):=by omega
  have hb:¬(((natS z.natAbs)[0]'hp).toNat:Int)=45:=by
   rw[←ba_at (natS z.natAbs) 0 hp];simp only[hl,List.getElem_cons_zero];omega
  generalize natS z.natAbs=a at*;clear hl;go_enter Tryz.func94,Tryz.ntmps94
  go_wp2_with fail;refine bodyPost_ret (results_tmp2 rfl _ _ _) rfl ?_;exact⟨rfl,xb _ _⟩
theorem qf (z:Int)(hs:(intS z).size≤1000000):Rt 91 #[.string (intS z)] (.bool true):=by
 intro w;have HB:=zc.mk (xb w.heap.size w);have hg:=qQ z;have H1:=zU z hs;have H2:=Rt.same (zP z.natAbs (by omega))
 have h0:=qh z.natAbs;have hi:decide (z<0)=true→decide (z.natAbs=0)=false:=fun h=>decide_eq_false (by have:=of_decide_eq_true h;omega)
 generalize decide (z.natAbs=0)=b0 at*;generalize decide (z<0)=b at*;generalize natS z.natAbs=a at*;generalize intS z=s at*;cases b with
 |true=>
  have:=hi rfl;subst this;clear hi;go_enter Tryz.func91,Tryz.ntmps91
  go_wp2_with(first|(with_reducible refine H1.go HB ?_;clear HB;intro w1 HB hb)|(with_reducible refine H2.go HB ?_;clear HB;intro w1 HB hb))
  go_ret;exact⟨by first|rfl|simp[*],HB.out⟩
 |false=>
  clear hi;go_enter Tryz.func91,Tryz.ntmps91
  go_wp2_with(first|(with_reducible refine H1.go HB ?_;clear HB;intro w1 HB hb)|(with_reducible refine H2.go HB ?_;clear HB;intro w1 HB hb))
  go_ret;exact⟨by first|rfl|simp[*],HB.out⟩
theorem rmay2_nat (n:Nat)(hs:(natS n).size≤1000000):Rt 91 #[.string (natS n)] (.bool true):=by
 have h:=qf (n:Int) (by rw[zo];exact hs)
 rwa [zo]at h
theorem rabs_at (z:Int)(hs:(intS z).size≤1000000):Rt 56 #[.string (intS z)] (.string (natS z.natAbs)):=by
 intro w;have HB:=zc.mk (xb w.heap.size w);have H1:=zU z hs;have H2:=qf z hs;generalize decide (z<0)=b at*;generalize natS z.natAbs=a at*;generalize intS z=s at*;go_enter Tryz.func56,Tryz.ntmps56
 go_wp2_with(first|(with_reducible refine H1.go HB ?_;clear HB;intro w1 HB hb)|(with_reducible refine H2.go HB ?_;clear HB;intro w1 HB hb))
 go_ret;exact⟨rfl,HB.out⟩
theorem rsign2_at (z:Int)(hs:(intS z).size≤1000000):Rt 125 #[.string (intS z)] (.int .i64 (sgn z)):=by
 intro w;have HB:=zc.mk (xb w.heap.size w);have H1:=zU z hs;have H2:=qf z hs;have h0:=qh z.natAbs;generalize natS z.natAbs=a at*;generalize intS z=s at*;unfold sgn;by_cases hz:z<0
 ·rw[if_pos hz]
  rw[decide_eq_true hz]at H1;rw[decide_eq_false (by omega)]at h0
  go_enter Tryz.func125,Tryz.ntmps125
  go_wp2_with(first|(with_reducible refine H1.go HB ?_;clear HB;intro w1 HB hb)|(with_reducible refine H2.go HB ?_;clear HB;intro w1 HB hb))
  go_ret;exact⟨rfl,HB.out⟩
 ·rw[if_neg hz]
  rw[decide_eq_false hz]at H1;by_cases hz0:z=0
  ·rw[if_pos hz0]
   rw[decide_eq_true (by omega)]at h0
   clear hz hz0;go_enter Tryz.func125,Tryz.ntmps125
   go_wp2_with(first|(with_reducible refine H1.go HB ?_;clear HB;intro w1 HB hb)|(with_reducible refine H2.go HB ?_;clear HB;intro w1 HB hb))
   go_ret;exact⟨rfl,HB.out⟩
  ·rw[if_neg hz0]
   rw[decide_eq_false (by omega)]at h0
   go_enter Tryz.func125,Tryz.ntmps125
   go_wp2_with(first|(with_reducible refine H1.go HB ?_;clear HB;intro w1 HB hb)|(with_reducible refine H2.go HB ?_;clear HB;intro w1 HB hb))
   go_ret;exact⟨rfl,HB.out⟩
def sg (b:Bool)(n:Nat):Int:=if b=true then-(n:Int)else(n:Int)
theorem rwith_at (n:Nat)(b:Bool)(hs:(natS n).size≤1000000):Rt 200 #[.string (natS n),.bool b] (.string (intS (sg b n))):=by
 intro w;have h0:=qh n;have hov:¬9223372036854775807<(⟨#[45]⟩:xf).size+(natS n).size:=by show¬_<1+_;omega
 have hov2:¬9223372036854775807<1+(natS n).size:=by omega
 have hi:intS (sg b n)=if b=true∧n≠0 then(⟨#[45]⟩:xf)++natS n else natS n:=by
  unfold sg;cases b with
  |false=>rw[if_neg (by decide),if_neg (by simp),zo]
  |true=>
   rw[if_pos rfl];by_cases hn:n=0
   ·rw[if_neg (by simp[hn]),hn];rfl
   ·rw[if_pos ⟨rfl,hn⟩,qx (by omega),show(-(n:Int)).natAbs=n by omega]
 rw[hi];by_cases hn:n=0
 ·rw[decide_eq_true hn]at h0
  rw[if_neg (by simp[hn])]
  generalize natS n=s at*;clear hi hn;cases b
  all_goals
   go_enter Tryz.func200,Tryz.ntmps200
   go_wp2_with fail;go_ret;exact⟨rfl,xb _ _⟩
 ·rw[decide_eq_false hn]at h0
  generalize natS n=s at*;clear hi;cases b
  ·rw[if_neg (by simp)]
   clear hn;go_enter Tryz.func200,Tryz.ntmps200
   go_wp2_with fail;go_ret;exact⟨rfl,xb _ _⟩
  ·rw[if_pos ⟨rfl,hn⟩]
   clear hn;go_enter Tryz.func200,Tryz.ntmps200
   go_wp2_with fail;go_ret;exact⟨rfl,xb _ _⟩
theorem sg_mul (y z:Int):sg (decide (y<0)!=decide (z<0)) (y.natAbs*z.natAbs)=y*z:=by
 unfold sg;by_cases h:y<0<;>by_cases k:z<0
 ·rw[decide_eq_true h,decide_eq_true k,if_neg (by decide),Int.natCast_mul,show(y.natAbs:Int)= -y by omega,show(z.natAbs:Int)= -z by omega,Int.neg_mul_neg]
 ·rw[decide_eq_true h,decide_eq_false k,if_pos (by decide),Int.natCast_mul,show(y.natAbs:Int)= -y by omega,show(z.natAbs:Int)=z by omega];simp[Int.neg_mul]
 ·rw[decide_eq_false h,decide_eq_true k,if_pos (by decide),Int.natCast_mul,show(y.natAbs:Int)=y by omega,show(z.natAbs:Int)= -z by omega];simp[Int.mul_neg]
 ·rw[decide_eq_false h,decide_eq_false k,if_neg (by decide),Int.natCast_mul,show(y.natAbs:Int)=y by omega,show(z.natAbs:Int)=z by omega]
theorem rneg2_at (z:Int)(hs:(intS z).size≤1000000):Rt 197 #[.string (intS z)] (.string (intS (-z))):=by
 intro w;have HB:=zc.mk (xb w.heap.size w);have H1:=zU z hs;have H2:=qf z hs;have hg:=qQ z;have H3:=rwith_at z.natAbs (!decide (z<0)) (by omega)
 have e:sg (!decide (z<0)) z.natAbs= -z:=by
  unfold sg;by_cases h:z<0
  ·rw[decide_eq_true h,if_neg (by decide)];omega
  ·rw[decide_eq_false h,if_pos (by decide)];omega
 rw[e]at H3;clear e;generalize decide (z<0)=b at*;generalize natS z.natAbs=a at*;generalize intS z=s at*;generalize intS (-z)=r at*;go_enter Tryz.func197,Tryz.ntmps197
 go_wp2_with(first|(with_reducible refine H1.go HB ?_;clear HB;intro w1 HB hb)|(with_reducible refine H2.go HB ?_;clear HB;intro w1 HB hb)|(with_reducible refine H3.go HB ?_;clear HB;intro w1 HB hb))
 go_ret;exact⟨rfl,HB.out⟩
theorem jO (n m:Nat):(natS (n*m)).size≤(natS n).size+(natS m).size:=by
 have h:=zH (n*m) ((natS n).size+(natS m).size) (by rw[Nat.pow_add];exact Nat.mul_lt_mul_of_lt_of_lt (qk n) (qk m)) (by have:=qw n;omega)
 have e:(natS (n*m)).size=(Lib.decDigits (n*m)).length:=by show(natS (n*m)).data.toList.length=_;rw[zq]
 omega
theorem rmul2_at (y z:Int)(hy:(intS y).size≤100000)(hz:(intS z).size≤100000):Rt 169 #[.string (intS y),.string (intS z)] (.string (intS (y*z))):=by
 intro w;have HB:=zc.mk (xb w.heap.size w);have gy:=qQ y;have gz:=qQ z;have A1:=zU y (by omega)
 have A2:=zU z (by omega)
 have M1:=qf y (by omega)
 have M2:=qf z (by omega)
 have H1:=rmul1_at y.natAbs z.natAbs (by omega) (by omega)
 have hms:=jO y.natAbs z.natAbs;have H2:=rwith_at (y.natAbs*z.natAbs) (decide (y<0)!=decide (z<0)) (by omega)
 rw[sg_mul]at H2;generalize natS (y.natAbs*z.natAbs)=p at*;generalize intS (y*z)=r at*;generalize decide (y<0)=b at*;generalize decide (z<0)=c at*;generalize natS y.natAbs=u at*;generalize natS z.natAbs=v at*;generalize intS y=s at*;generalize intS z=t at*;have H2:Rt 200 #[.string p,.bool (!(b==c))] (.string r):=H2;go_enter Tryz.func169,Tryz.ntmps169
 go_wp2_with(first|(with_reducible refine M1.go HB ?_;clear HB;intro w1 HB hb)|(with_reducible refine M2.go HB ?_;clear HB;intro w1 HB hb)|(with_reducible refine A1.go HB ?_;clear HB;intro w1 HB hb)|(with_reducible refine A2.go HB ?_;clear HB;intro w1 HB hb)|(with_reducible refine H1.go HB ?_;clear HB;intro w1 HB hb)|(with_reducible refine H2.go HB ?_;clear HB;intro w1 HB hb))
 go_ret;exact⟨rfl,HB.out⟩
theorem rdiv2_at (z:Int)(g:Nat)(hz:(intS z).size≤100000)(hg:(natS g).size≤100000)(h0:0<g)(hd:g∣z.natAbs):Rt 199 #[.string (intS z),.string (natS g)] (.tuple #[.string (intS (sg (decide (z<0)) (z.natAbs/g))),.string (natS 0),.bool true]):=by
 intro w;have HB:=zc.mk (xb w.heap.size w);have gz:=qQ z;have A1:=zU z (by omega)
 have A2:=zU (g:Int) (by rw[zo];omega)
 have M1:=qf z (by omega)
 have M2:=rmay2_nat g (by omega)
 have H1:=rdiv_at z.natAbs g h0 (by omega) hg
 have hle:=zr (Nat.div_le_self z.natAbs g);have H2:=rwith_at (z.natAbs/g) (decide (z<0)) (by omega)
 have hn:=qh g;have h00:=qh 0;rw[decide_eq_false (by omega)]at hn
 rw[decide_eq_true rfl]at h00;rw[Nat.mod_eq_zero_of_dvd hd]at H1;rw[zo,decide_eq_false (by omega),Int.natAbs_natCast]at A2
 generalize intS (sg (decide (z<0)) (z.natAbs/g))=r at*;generalize natS (z.natAbs/g)=q at*;generalize natS 0=o at*;generalize natS g=d at*;generalize natS z.natAbs=u at*;generalize intS z=s at*;generalize decide (z<0)=b at*;clear hd;cases b
 all_goals
  go_enter Tryz.func199,Tryz.ntmps199
  go_wp2_with(first|(with_reducible refine M1.go HB ?_;clear HB;intro w1 HB hb)|(with_reducible refine M2.go HB ?_;clear HB;intro w1 HB hb)|(with_reducible refine A1.go HB ?_;clear HB;intro w1 HB hb)|(with_reducible refine A2.go HB ?_;clear HB;intro w1 HB hb)|(with_reducible refine H1.go HB ?_;clear HB;intro w1 HB hb)|(with_reducible refine H2.go HB ?_;clear HB;intro w1 HB hb))
  refine bodyPost_ret (v:= .tuple #[.string r,.string o,.bool true]) (by simp[results,Tryz.f199,go_sem]) rfl ?_
  exact⟨rfl,HB.out⟩
end Go.Proofs.YtjopepfemhckjaaGreatDoor.NW
end
section
namespace Go.Proofs.YtjopepfemhckjaaGreatDoor.NW
open Go.Proofs Go.RowKit Go.Shelf Go.Proofs.YtjopepfemhckjaaGreatDoor.PN
theorem runN_ended {P:Program}{o:Outcome}{w:World}:∀(n:Nat) (m:Machine),runN P n m= .ended o w→∀k,runN P (n+k) m= .ended o w:=by
 intro n;induction n with
 |zero=>intro m h;cases h
 |succ n ih=>
  intro m h k;rw[show n+1+k=n+k+1 by omega]
  unfold runN at h ⊢;cases hs:step P m with
  |next m'=>
   rw[hs]at h;exact ih m' h k
  |_=>rw[hs]at h;first|exact h|cases h
theorem Calls.agree {P:Program}{f:FuncId}{args:Array Value}{w:World}{R1 R2:Ending→World→Prop}{Q1 Q2:Value→World→Prop}(hi:P.inits.idxOf? f=none)(h1:Calls P f args w R1)(h2:Calls P f args w R2)(q1:∀e w',R1 e w'→∃v,e= .returned v∧Q1 v w')(q2:∀e w',R2 e w'→∃v,e= .returned v∧Q2 v w'):∃v w',Q1 v w'∧Q2 v w':=by
 have k1:Calls P f args w (fun| .returned v,w'=>Q1 v w'|_,_=>False):=h1.mono (fun e w' h=>by obtain⟨v,rfl,hq⟩:=q1 e w' h;exact hq)
 have k2:Calls P f args w (fun| .returned v,w'=>Q2 v w'|_,_=>False):=h2.mono (fun e w' h=>by obtain⟨v,rfl,hq⟩:=q2 e w' h;exact hq)
 obtain⟨n1,v1,w1,r1,g1⟩:=k1.done hi;obtain⟨n2,v2,w2,r2,g2⟩:=k2.done hi;have e1:=runN_ended n1 _ r1 n2;have e2:=runN_ended n2 _ r2 n1;rw[Nat.add_comm n2 n1,e1]at e2;injection e2 with e3 e4;injection e3 with e3;subst e3 e4;exact⟨v1,w1,g1,g2⟩
theorem toL_inj2 {a b:ByteArray}(h:a.data.toList=b.data.toList):a=b:=Go.WideShapes.bytes_inj h
theorem natS_inj {a b:Nat}(h:natS a=natS b):a=b:=by
 have h1:=(zh a).2;rw[h,(zh b).2]at h1;exact h1.symm
theorem intS_dig {z:Int}(n:Nat)(h:(⟨#[45]⟩:xf)++natS z.natAbs=natS n):False:=by
 have h1:allD (natS n).data.toList:=(zh _).1.dig;have h2:=congrArg (fun s:ByteArray=>s.data.toList) h
 have h3:(45:UInt8)∈(natS n).data.toList:=by
  rw[←h2];show(45:UInt8)∈((⟨#[45]⟩:xf)++natS z.natAbs).data.toList
  simp[ByteArray.data_append]
 have h4:=h1 _ h3;exact absurd h4.1 (by decide)
theorem intS_inj {a b:Int}(h:intS a=intS b):a=b:=by
 by_cases ha:a<0<;>by_cases hb:b<0
 ·rw[qx ha,qx hb]at h
  have h1:=natS_inj (a:=a.natAbs) (b:=b.natAbs) (by
   apply toL_inj2;have h2:=congrArg (fun s:ByteArray=>s.data.toList) h
   simpa[ByteArray.data_append]using h2)
  omega
 ·rw[qx ha,jc hb]at h
  exact(intS_dig _ h).elim
 ·rw[jc ha,qx hb]at h
  exact(intS_dig _ h.symm).elim
 ·rw[jc ha,jc hb]at h
  have:=natS_inj h;omega
theorem numT_one {s:ByteArray}{z z':Int}{d d':Nat}{w:World}(hg:Glob w)(h1:NumT s z d)(h2:NumT s z' d'):z=z'∧d=d':=by
 obtain⟨v,w',⟨a1,_⟩,⟨a2,_⟩⟩:=Calls.agree (Q1:=fun v w'=>v= .tuple #[ratV z d,.int .i64 0]∧True) (Q2:=fun v w'=>v= .tuple #[ratV z' d',.int .i64 0]∧True) (by kernel_rfl) (h1.run w hg) (h2.run w hg) (fun e w' h=>⟨_,h.1,rfl,trivial⟩) (fun e w' h=>⟨_,h.1,rfl,trivial⟩)
 rw[a1]at a2;unfold ratV at a2;simp only[Value.tuple.injEq,Array.mk.injEq,List.cons.injEq,Value.agg.injEq,Value.string.injEq,and_true]at a2;exact⟨intS_inj a2.1,natS_inj a2.2⟩
end Go.Proofs.YtjopepfemhckjaaGreatDoor.NW
end
section
namespace Go.Proofs.YtjopepfemhckjaaGreatDoor.NW
open Go.Proofs Go.RowKit Go.Shelf Go.Proofs.YtjopepfemhckjaaGreatDoor.PN Go.Proofs.YtjopepfemhckjaaGreatDoorW.PrintWords Go.Proofs.YtjopepfemhckjaaGreatDoor.PParseTells
def TokOK (t:S75):Prop:=(t.f0=0∧NmOK t.f1)∨(t.f0=1∧NumX t.f1)∨(t.f0=2∧∃c:UInt8,t.f1=⟨#[c]⟩∧c∈([43,45,42,47,40,41,44]:List UInt8))
def PS.nm (s:PS)(last:S75):PS:=if(s.take 0 (fun _=>true)).2.2=true then(s.take 0 (fun _=>true)).1 else(s.take 0 (fun _=>true)).1.fail 110 last
def PS.d1 (s:PS)(last:S75):PS×Int:=(((s.must ⟨#[40]⟩ last).nm last).must ⟨#[44]⟩ last).day last 0 9999
def PS.d2 (d:PS×Int)(last:S75):PS×Int:=(d.1.must ⟨#[44]⟩ last).day last d.2 (d.2+59)
theorem jH (s:PS)(op:Int)(last:S75):s.price op last=if op=1 then((s.d1 last).1.must ⟨#[41]⟩ last,.px ((s.must ⟨#[40]⟩ last).take 0 (fun _=>true)).2.1 (s.d1 last).2)else((PS.d2 (s.d1 last) last).1.must ⟨#[41]⟩ last,.raw ⟨op,⟨⟨#[]⟩,⟨#[]⟩⟩,((s.must ⟨#[40]⟩ last).take 0 (fun _=>true)).2.1,(s.d1 last).2,(PS.d2 (s.d1 last) last).2⟩):=rfl
section
variable {s s':PS} {last last':S75}
theorem sfx_tl:s.tl.toks<:+s.toks:=List.tail_suffix _
theorem sfx_fail (er:Int):(s.fail er last).toks<:+s.toks:=by
 unfold PS.fail;split
 ·exact List.suffix_refl _
 ·exact List.suffix_refl _
theorem qe (x:ByteArray):(s.must x last).toks<:+s.toks:=by
 unfold PS.must;split
 ·exact sfx_tl
 ·exact sfx_fail _
theorem sfx_take (k:Int)(p:ByteArray→Bool):(s.take k p).1.toks<:+s.toks:=by
 unfold PS.take;split
 ·exact sfx_tl
 ·exact List.suffix_refl _
theorem sfx_nat (p:ByteArray→Bool):(s.nat p last).1.toks<:+s.toks:=by
 unfold PS.nat;split
 ·exact sfx_tl
 ·exact sfx_fail _
theorem sfx_name:(s.nm last).toks<:+s.toks:=by
 unfold PS.nm;split
 ·exact sfx_take _ _
 ·exact(sfx_fail _).trans (sfx_take _ _)
theorem sfx_d1:(s.d1 last).1.toks<:+s.toks:=(sfx_nat _).trans ((qe _).trans (sfx_name.trans (qe _)))
theorem sfx_d2 (d:PS×Int):(PS.d2 d last).1.toks<:+d.1.toks:=(sfx_nat _).trans (qe _)
theorem sfx_price (op:Int):(s.price op last).1.toks<:+s.toks:=by
 rw[jH];split
 ·exact(qe _).trans sfx_d1
 ·exact(qe _).trans ((sfx_d2 _).trans sfx_d1)
theorem sfx_num:(s.num last).1.toks<:+s.toks:=
 (qe _).trans ((sfx_nat _).trans ((qe _).trans ((sfx_nat _).trans ((sfx_take _ _).trans (qe _)))))
theorem sfx_push (dp:Int):(s.push dp last).toks<:+s.toks:=by
 unfold PS.push;refine(qe _).trans ?_;split
 ·exact sfx_fail _
 ·exact List.suffix_refl _
theorem fail_e (er:Int)(he:er≠0):(s.fail er last).e≠0:=by
 unfold PS.fail;split
 ·exact he
 ·assumption
theorem has_e {k:Int}{p:ByteArray→Bool}(h:s.has k p=true):s.e=0:=by
 obtain⟨_,_,_,h2,_⟩:=PS.has_cons h;exact h2
theorem must_e {x:ByteArray}(h:(s.must x last).e=0):s.has 2 (fun t=>t.toList==x.toList)=true∧s.must x last=s.tl∧s.e=0:=by
 unfold PS.must at h ⊢;by_cases ho:s.has 2 (fun t=>t.toList==x.toList)=true
 ·exact⟨ho,if_pos ho,has_e ho⟩
 ·rw[if_neg ho]at h
  exact absurd h (fail_e _ (by decide))
theorem nat_e {p:ByteArray→Bool}(h:(s.nat p last).1.e=0):s.has 1 (fun t=>isNatB t.data.toList&&p t)=true∧s.nat p last=(s.tl,hdT s.toks)∧s.e=0:=by
 unfold PS.nat at h ⊢;by_cases ho:s.has 1 (fun t=>isNatB t.data.toList&&p t)=true
 ·exact⟨ho,if_pos ho,has_e ho⟩
 ·rw[if_neg ho]at h
  exact absurd h (fail_e _ (by decide))
theorem name_e (h:(s.nm last).e=0):s.has 0 (fun _=>true)=true∧(s.nm last)=s.tl∧(s.take 0 (fun _=>true)).2.1=hdT s.toks∧s.e=0:=by
 unfold PS.nm PS.take at h;unfold PS.nm PS.take;by_cases ho:s.has 0 (fun _=>true)=true
 ·rw[if_pos ho]
  exact⟨ho,rfl,rfl,has_e ho⟩
 ·rw[if_neg ho]at h
  exact absurd h (fail_e _ (by decide))
end
end Go.Proofs.YtjopepfemhckjaaGreatDoor.NW
end
