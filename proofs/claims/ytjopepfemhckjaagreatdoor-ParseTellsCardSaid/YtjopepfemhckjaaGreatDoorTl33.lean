/-
  Part 33 of the proof of parseTells_holds: texts of this seat, put together.
-/
import Derived.Lib.AtoiAllCases
import Derived.Test.YtjopepfemhckjaaGreatDoorTl32
set_option linter.unusedVariables false
set_option linter.unusedSimpArgs false
set_option maxHeartbeats 16000000
set_option maxRecDepth 100000
section
namespace Go.Proofs.YtjopepfemhckjaaGreatDoor.NW
open Go.Proofs Go.RowKit Go.Shelf Go.Proofs.YtjopepfemhckjaaGreatDoor.PN Go.Proofs.YtjopepfemhckjaaGreatDoorW.PrintWords Go.Proofs.YtjopepfemhckjaaGreatDoor.PParseTells
theorem natS_ten (m:Nat)(h:10≤m):natS m=natS (m/10)++(⟨#[48,49,50,51,52,53,54,55,56,57]⟩:xf).extract (m%10) (m%10+1):=by
 rw[dig10 (m%10) (by omega)]
 apply z7;rw[cat_l,zq,zq];conv=>lhs;rw[Lib.decDigits,dif_neg (by omega)]
theorem natS_dig (m:Nat)(h:m≤9):natS m=(⟨#[48,49,50,51,52,53,54,55,56,57]⟩:xf).extract m (m+1):=by
 rw[dig10 m h];apply z7;rw[zq,Lib.decDigits,dif_pos (by omega)]
theorem rof_at (n:Nat)(hn:n≤9223372036854775807):Rt 16 #[.int .i64 (n:Int)] (.string (natS n)):=by
 refine Rt.same fun w=>?_
 have h0:¬(n:Int)<0:=by omega
 obtain⟨R,hR⟩:∃R,natS n=R:=⟨_,rfl⟩;rw[hR];have hRs:R.size≤1000:=by
  rw[←hR];have h1:=zH n 19 (Nat.lt_of_le_of_lt hn (by decide)) (by omega)
  have e:(natS n).size=(Lib.decDigits n).length:=by show(natS n).data.toList.length=_;rw[zq]
  omega
 have HS:zc (natS n++(⟨#[]⟩:xf)=R):=⟨by rw[hR];exact z7 (by rw[cat_l];exact List.append_nil _)⟩
 clear hR;go_enter Tryz.func16,Tryz.ntmps16
 go_wp2_with fail;go_loopg [0,3] (n+1) (fun kq v0 v3 w'=>∃(m:Nat) (s:ByteArray),v0= .int .i64 m∧v3= .string s∧m<kq∧m≤9223372036854775807∧zc (natS m++s=R)∧w=w')
 case atStart=>exact⟨n,⟨#[]⟩,rfl,rfl,by omega,hn,HS,rfl⟩
 case round=>
  clear HS;obtain⟨m,s,rfl,rfl,hlt,hm,HS,rfl⟩:=hrel;have hss:s.size≤1000:=by
   have:=congrArg ByteArray.size HS.out;rw[j8]at this;omega
  by_cases h9:9<m
  ·have h1:(9:Int)<(m:Int):=by omega
   have e1:(m:Int).tmod 10=((m%10:Nat):Int):=by rw[Int.tmod_eq_emod_of_nonneg (by omega)];omega
   have e2:(m:Int).tdiv 10=((m/10:Nat):Int):=by rw[Int.tdiv_eq_ediv_of_nonneg (by omega)];omega
   have hn10:=natS_ten m (by omega)
   have HS2:zc (natS (m/10)++((⟨#[48,49,50,51,52,53,54,55,56,57]⟩:xf).extract (m%10) (m%10+1)++s)=R):=⟨by rw[←HS.out,hn10,ByteArray.append_assoc]⟩
   obtain⟨d,hd⟩:∃d,m%10=d:=⟨_,rfl⟩;obtain⟨u,hu⟩:∃u,m/10=u:=⟨_,rfl⟩;have hd9:d≤9:=by omega
   have hum:u<m:=by omega
   have hxs:((⟨#[48,49,50,51,52,53,54,55,56,57]⟩:xf).extract d (d+1)).size=1:=by rw[dig10 d hd9];rfl
   have hov:¬9223372036854775807<((⟨#[48,49,50,51,52,53,54,55,56,57]⟩:xf).extract d (d+1)).size+s.size:=by rw[hxs];omega
   rw[hd]at e1 HS2;rw[hu]at e2 HS2;have i1:(0:Int)≤(d:Int):=by omega
   have i2:(d:Int)≤(d:Int)+1:=by omega
   have i3:(d:Int)+1≤10:=by omega
   have i4:((d:Int)+1).toNat=d+1:=by omega
   have e3:IntKind.i64.wrap ((d:Int)+1)=(d:Int)+1:=by simp[j9];omega
   have e4:IntKind.i64.wrap (d:Int)=(d:Int):=by simp[j9];omega
   have e5:IntKind.i64.wrap (u:Int)=(u:Int):=by simp[j9];omega
   clear hn10 HS hxs hd hu;go_wp2_with fail;go_roundg (gk-1)
   case measure=>omega
   case rel=>exact⟨u,_,rfl,rfl,by omega,by omega,HS2,rfl⟩
  ·have h1:¬(9:Int)<(m:Int):=by omega
   have hn9:=natS_dig m (by omega)
   have hr:=HS.out;rw[hn9]at hr;have hxs:((⟨#[48,49,50,51,52,53,54,55,56,57]⟩:xf).extract m (m+1)).size=1:=by rw[dig10 m (by omega)];rfl
   have hov:¬9223372036854775807<((⟨#[48,49,50,51,52,53,54,55,56,57]⟩:xf).extract m (m+1)).size+s.size:=by rw[hxs];omega
   have i1:(0:Int)≤(m:Int):=by omega
   have i2:(m:Int)≤(m:Int)+1:=by omega
   have i3:(m:Int)+1≤10:=by omega
   have i4:((m:Int)+1).toNat=m+1:=by omega
   have e3:IntKind.i64.wrap ((m:Int)+1)=(m:Int)+1:=by simp[j9];omega
   subst hr;clear hn9 HS hxs;go_wp2_with fail;go_ret;exact⟨rfl,rfl⟩
def okC (i:Nat)(c:Nat):Prop:=(97≤c∧c≤122)∨(48≤c∧c≤57)∨(c=33∧i=0)
structure NameP (s:ByteArray):Prop where
 all:∀i (h:i<s.size),okC i (s[i]'h).toNat
 lo:1≤s.size
 hi:s.size≤20
theorem rname_at (s:ByteArray)(hs:s.size≤1000000)(R:Bool)(hR:R=true↔NameP s):Rt 95 #[.string s] (.bool R):=by
 refine Rt.same fun w=>?_
 have HR:=zc.mk hR;clear hR;go_enter Tryz.func95,Tryz.ntmps95
 go_wp2_with fail;go_loopg [3] (s.size+1) (fun kq v3 w'=>∃n:Nat,v3= .int .i64 n∧n+kq=s.size+1∧n≤s.size∧zc (∀i (h:i<s.size),i<n→okC i (s[i]'h).toNat)∧w=w')
 case atStart=>exact⟨0,rfl,by omega,by omega,⟨fun i h h2=>absurd h2 (by omega)⟩,rfl⟩
 case round=>
  obtain⟨n,rfl,hn,hn2,HA,rfl⟩:=hrel;by_cases hlt:n<s.size
  ·have hb:=(s[n]'hlt).toNat_lt
   by_cases hok:okC n (s[n]'hlt).toNat
   ·have HA2:zc (∀i (h:i<s.size),i<n+1→okC i (s[i]'h).toNat):=⟨fun i h h2=>by
     by_cases he:i=n
     ·subst he;exact hok
     ·exact HA.out i h (by omega)⟩
    clear HA;rcases hok with⟨h1,h2⟩|⟨h1,h2⟩|⟨h1,h2⟩
    ·have q1:¬((s[n]'hlt).toNat:Int)<97:=by omega
     have q2:¬(122:Int)<((s[n]'hlt).toNat:Int):=by omega
     go_wp2_with fail;go_roundg (gk-1)
     case measure=>omega
     case rel=>exact⟨n+1,by go_num,by omega,by omega,HA2,rfl⟩
    ·have q1:((s[n]'hlt).toNat:Int)<97:=by omega
     have q2:¬((s[n]'hlt).toNat:Int)<48:=by omega
     have q3:¬(57:Int)<((s[n]'hlt).toNat:Int):=by omega
     go_wp2_with fail;go_roundg (gk-1)
     case measure=>omega
     case rel=>exact⟨n+1,by go_num,by omega,by omega,HA2,rfl⟩
    ·have q1:((s[n]'hlt).toNat:Int)<97:=by omega
     have q2:((s[n]'hlt).toNat:Int)<48:=by omega
     have q3:(((s[n]'hlt).toNat:Int)!=33)=false:=by rw[bne_eq_false_iff_eq];omega
     have q4:¬(0:Int)<(n:Int):=by omega
     clear h1 h2;go_wp2_with fail;go_roundg (gk-1)
     case measure=>omega
     case rel=>exact⟨n+1,by go_num,by omega,by omega,HA2,rfl⟩
   ·have hr:R=false:=by
     cases hR:R with
     |false=>rfl
     |true=>exact absurd ((HR.out.1 hR).all n hlt) hok
    subst hr;unfold okC at hok;clear HR HA;by_cases q1:((s[n]'hlt).toNat:Int)<97
    ·by_cases q2:((s[n]'hlt).toNat:Int)<48
     ·by_cases q3:((s[n]'hlt).toNat:Int)=33
      ·have q4:(0:Int)<(n:Int):=by omega
       have q5:(((s[n]'hlt).toNat:Int)!=33)=false:=by rw[bne_eq_false_iff_eq];omega
       clear hok q3;go_wp2_with fail;go_ret;exact⟨rfl,rfl⟩
      ·clear hok
       go_wp2_with fail;go_ret;exact⟨rfl,rfl⟩
     ·have q3:(57:Int)<((s[n]'hlt).toNat:Int):=by omega
      have q4:¬((s[n]'hlt).toNat:Int)=33:=by omega
      clear hok;go_wp2_with fail;go_ret;exact⟨rfl,rfl⟩
    ·have q2:(122:Int)<((s[n]'hlt).toNat:Int):=by omega
     have q3:¬((s[n]'hlt).toNat:Int)<48:=by omega
     have q4:(57:Int)<((s[n]'hlt).toNat:Int):=by omega
     have q5:¬((s[n]'hlt).toNat:Int)=33:=by omega
     clear hok;go_wp2_with fail;go_ret;exact⟨rfl,rfl⟩
  ·have hr:R=(decide ((1:Int)≤(s.size:Int))&&decide ((s.size:Int)≤20)):=by
    rw[Bool.eq_iff_iff,HR.out,Bool.and_eq_true,decide_eq_true_eq,decide_eq_true_eq];exact⟨fun h=>⟨by have:=h.lo;omega,by have:=h.hi;omega⟩,fun h=>⟨fun i hi=>HA.out i hi (by omega),by omega,by omega⟩⟩
   subst hr;clear HR HA;by_cases h1:(1:Int)≤(s.size:Int)<;>by_cases h2:(s.size:Int)≤20
   all_goals
    go_wp2_with fail;go_ret;exact⟨by first|rfl|(simp[*];done)|simp[h1,h2],rfl⟩
structure AssetP (s:ByteArray):Prop where
 nm:NameP s
 f0:∀h:0<s.size,(s[0]'h).toNat≠33∧¬(48≤(s[0]'h).toNat∧(s[0]'h).toNat≤57)
theorem rasset_at (s:ByteArray)(hs:s.size≤1000000)(R:Bool)(hR:R=true↔AssetP s):Rt 57 #[.string s] (.bool R):=by
 intro w;have HB:=zc.mk (xb w.heap.size w);obtain⟨N,hN⟩:∃N:Bool,N=true↔NameP s:=⟨@decide (NameP s) (Classical.propDecidable _),by simp⟩
 have H1:=rname_at s hs N hN;cases hn:N with
 |false=>
  have hr:R=false:=by
   cases hR2:R with
   |false=>rfl
   |true=>rw[hn]at hN;exact absurd (hN.2 (hR.1 hR2).nm) (by decide)
  subst hr;rw[hn]at H1;clear hR hN hn;go_enter Tryz.func57,Tryz.ntmps57
  go_wp2_with(with_reducible refine H1.go HB ?_;clear HB;intro w1 HB hb)
  go_ret;exact⟨rfl,HB.out⟩
 |true=>
  have hnm:=hN.1 hn;rw[hn]at H1;have h0:0<s.size:=by have:=hnm.lo;omega
  have h0':(0:Int)<(s.size:Int):=by omega
  have hr:R=(!decide (((s[0]'h0).toNat:Int)=33)&&(decide (((s[0]'h0).toNat:Int)<48)||decide ((57:Int)<((s[0]'h0).toNat:Int)))):=by
   rw[Bool.eq_iff_iff,hR];simp only[Bool.and_eq_true,Bool.or_eq_true,Bool.not_eq_true',decide_eq_false_iff_not,decide_eq_true_eq];exact⟨fun h=>by have:=h.f0 h0;omega,fun h=>⟨hnm,fun h0=>by omega⟩⟩
  subst hr;clear hR hN hn hnm;by_cases q1:((s[0]'h0).toNat:Int)=33
  ·go_enter Tryz.func57,Tryz.ntmps57
   go_wp2_with(with_reducible refine H1.go HB ?_;clear HB;intro w1 HB hb)
   go_ret;exact⟨by simp[*],HB.out⟩
  ·by_cases q2:((s[0]'h0).toNat:Int)<48
   all_goals
    go_enter Tryz.func57,Tryz.ntmps57
    go_wp2_with(with_reducible refine H1.go HB ?_;clear HB;intro w1 HB hb)
    go_ret;exact⟨by simp[*],HB.out⟩
theorem nm_get (s:ByteArray)(i:Nat)(h:i<s.size):(s[i]'h)=s.get! i:=(getElem!_pos s.data i h).symm
theorem asset_nm {s:ByteArray}(h:NmOK s):AssetP s:=by
 refine⟨⟨fun i hi=>?_,h.h0,h.h20⟩,fun h0=>?_⟩
 ·have h1:=List.all_eq_true.1 h.hall _ (List.getElem_mem (l:=s.data.toList) (n:=i) hi)
  rw[ba_at s i hi]at h1;unfold nmB at h1;simp only[Bool.or_eq_true,Bool.and_eq_true,decide_eq_true_eq]at h1;unfold okC;omega
 ·rw[nm_get]
  have:=h.hf0;omega
theorem uint_dv:∀(l:List UInt8) (acc:Nat),allD l→Lib.parseUint10 acc l=if acc*10^l.length+dv l<18446744073709551616∨l=[]then .ok (acc*10^l.length+dv l)else .range
 |[],acc,_=>by rw[if_pos (.inr rfl)];simp[Lib.parseUint10,dv_nil]
 |c::r,acc,h=>by
  have hc:=h c (List.mem_cons_self ..);have ih:=uint_dv r (acc*10+(c.toNat-48)) (fun x hx=>h x (List.mem_cons_of_mem _ hx))
  have e:acc*10^(c::r).length+dv (c::r)=(acc*10+(c.toNat-48))*10^r.length+dv r:=by
   rw[z6,List.length_cons,Nat.pow_succ];grind
  rw[e];have hp:1*(acc*10+(c.toNat-48))≤10^r.length*(acc*10+(c.toNat-48)):=Nat.mul_le_mul_right _ (Nat.pow_pos (by omega))
  rw[Nat.mul_comm (10^r.length)]at hp;simp only[Lib.parseUint10];rw[if_pos hc];by_cases h1:1844674407370955162≤acc
  ·rw[if_pos h1,if_neg]
   rintro(h|h)
   ·omega
   ·cases h
  ·rw[if_neg h1]
   by_cases h2:18446744073709551616≤acc*10+(c.toNat-48)
   ·rw[if_pos h2,if_neg]
    rintro(h|h)
    ·omega
    ·cases h
   ·rw[if_neg h2,ih]
    by_cases h3:(acc*10+(c.toNat-48))*10^r.length+dv r<18446744073709551616
    ·rw[if_pos (.inl h3),if_pos (.inl h3)]
    ·rw[if_neg (c:=_∨c::r=[]) (by rintro(h|h);exact h3 h;cases h),if_neg]
     rintro(h|h)
     ·exact h3 h
     ·subst h
      simp[dv_nil]at h3;omega
theorem small_nat (n:Nat):zw (natS n)=if n≤9223372036854775807 then((n:Int),true)else(0,false):=by
 have hd:=zh n;unfold zw;rw[if_pos (qd n)];obtain⟨c,r,hl,hc⟩:=jQ n;have hu:=uint_dv (natS n).data.toList 0 hd.1.dig;rw[Nat.zero_mul,Nat.zero_add,hd.2]at hu;have hm:Lib.parseMag (natS n).data.toList=if n<18446744073709551616 then .ok n else .range:=by
  unfold Lib.parseMag;rw[if_neg hd.1.ne,hu];by_cases h:n<18446744073709551616
  ·rw[if_pos (.inl h),if_pos h]
  ·rw[if_neg (by rintro(h2|h2);exact h h2;exact hd.1.ne h2),if_neg h]
 have ha:Lib.atoiAll (natS n).data.toList=Lib.signless (Lib.parseMag (natS n).data.toList):=by
  rw[hl];exact Lib.atoiAll_plain c r (by omega) (by omega)
 rw[ha,hm];by_cases h1:n<18446744073709551616
 ·rw[if_pos h1]
  simp only[Lib.signless];by_cases h2:n≤9223372036854775807
  ·rw[if_neg (by omega),if_pos h2]
  ·rw[if_pos (by omega),if_neg h2]
 ·rw[if_neg h1,if_neg (by omega)]
  rfl
theorem small_no {s:ByteArray}(h:isNatB s.data.toList=false):zw s=(0,false):=by
 unfold zw;rw[h];rfl
theorem rsmall_at (s:ByteArray)(hs:s.size≤1000000):Rt 226 #[.string s] (.tuple #[.int .i64 (zw s).1,.bool (zw s).2]):=by
 intro w;cases hn:isNatB s.data.toList with
 |false=>
  have H1:Rs _ _ _:=rmay_w s hs;rw[hn]at H1;rw[small_no hn];clear hn;go_enter Tryz.func226,Tryz.ntmps226
  go_wp2_with(with_reducible refine H1.go ?_)
  refine bodyPost_ret (results_tmp2 rfl _ _ _) rfl ?_;exact⟨rfl,xb _ _⟩
 |true=>
  obtain⟨n,rfl⟩:=jU s hn;have H1:Rs _ _ _:=zP n hs;have H2:Rs _ _ _:=rcmp_w n 9223372036854775807 hs (by rw[show natS 9223372036854775807=⟨#[57,50,50,51,51,55,50,48,51,54,56,53,52,55,55,53,56,48,55]⟩ by kernel_rfl];decide)
  rw[show natS 9223372036854775807=⟨#[57,50,50,51,51,55,50,48,51,54,56,53,52,55,55,53,56,48,55]⟩ by kernel_rfl]at H2
  rw[small_nat];clear hn;by_cases hb:n≤9223372036854775807
  ·rw[if_pos hb]
   have hz:¬(0:Int)<cmpZ n 9223372036854775807:=by unfold cmpZ;(repeat' split)<;>omega
   have hd:=digd (natS n) (zh n).1.dig;have hv:=(zh n).2;have HN:=zc.mk (zh n).1.dig;generalize cmpZ n 9223372036854775807=z at*;generalize natS n=s at*;have HV:=zc.mk hv;clear hv;go_enter Tryz.func226,Tryz.ntmps226
   go_wp2_with(first|(with_reducible refine H1.go ?_)|(with_reducible refine H2.go ?_))
   go_loopg [4,5] (s.size+1) (fun kq v4 v5 w'=>∃k:Nat,v4= .int .i64 (dv (s.data.toList.take k):Nat)∧v5= .int .i64 k∧k+kq=s.size+1∧k≤s.size∧w=w')
   case atStart=>exact⟨0,by rw[List.take_zero];rfl,rfl,by omega,by omega,rfl⟩
   case round=>
    obtain⟨k,rfl,rfl,hk,hks,rfl⟩:=hrel;by_cases hke:k=s.size
    ·subst hke
     have e:s.data.toList.take s.size=s.data.toList:=List.take_of_length_le (xc _);have e2:dv (s.data.toList.take s.size)=n:=by rw[e];exact HV.out
     rw[e2];go_wp2_with fail;refine bodyPost_ret (results_tmp2 rfl _ _ _) rfl ?_;exact⟨rfl,xb _ _⟩
    ·have hlt:k<s.size:=by omega
     have h1:(k:Int)<(s.size:Int):=by omega
     have hx:=hd k hlt;have e:dv (s.data.toList.take (k+1))=10*dv (s.data.toList.take k)+((s[k]'hlt).toNat-48):=by
      rw[List.take_succ_eq_append_getElem (by rw[zv];exact hlt),dv_snoc]
      rfl
     have hle:dv (s.data.toList.take (k+1))≤n:=by
      have h5:=je (s.data.toList.take (k+1)) (s.data.toList.drop (k+1));rw[List.take_append_drop,HV.out]at h5;have h6:dv (s.data.toList.take (k+1))*1≤dv (s.data.toList.take (k+1))*10^(s.data.toList.drop (k+1)).length:=Nat.mul_le_mul_left _ (Nat.pow_pos (by omega))
      omega
     obtain⟨v,hv⟩:∃v,dv (s.data.toList.take k)=v:=⟨_,rfl⟩;obtain⟨v2,hv2⟩:∃v2,dv (s.data.toList.take (k+1))=v2:=⟨_,rfl⟩;rw[hv,hv2]at e;rw[hv2]at hle;rw[hv];obtain⟨x,hxx⟩:∃x,(s[k]'hlt).toNat=x:=⟨_,rfl⟩;rw[hxx]at hx e;have e1:IntKind.i64.wrap (10*(v:Int))=10*(v:Int):=by simp[j9];omega
     have e2:IntKind.u8.wrap (((s[k]'hlt).toNat:Int)-48)=((x-48:Nat):Int):=by rw[hxx,IntKind.wrap_u8];omega
     have e3:IntKind.i64.wrap ((x-48:Nat):Int)=((x-48:Nat):Int):=by simp[j9];omega
     have e4:IntKind.i64.wrap (10*(v:Int)+((x-48:Nat):Int))=(v2:Int):=by simp[j9];omega
     generalize x-48=y at*;clear hv hle hx hxx e;go_wp2_with fail;go_roundg (gk-1)
     case measure=>omega
     case rel=>exact⟨k+1,by rw[hv2],by go_num,by omega,by omega,rfl⟩
  ·rw[if_neg hb]
   have hz:(0:Int)<cmpZ n 9223372036854775807:=by unfold cmpZ;(repeat' split)<;>omega
   generalize cmpZ n 9223372036854775807=z at*;generalize natS n=s at*;go_enter Tryz.func226,Tryz.ntmps226
   go_wp2_with(first|(with_reducible refine H1.go ?_)|(with_reducible refine H2.go ?_))
   refine bodyPost_ret (results_tmp2 rfl _ _ _) rfl ?_;exact⟨rfl,xb _ _⟩
theorem rmay2_nil:Rt 91 #[.string ⟨#[]⟩] (.bool false):=by
 intro w;have HB:=zc.mk (xb w.heap.size w);have h0:¬(0:Int)<((⟨#[]⟩:xf).size:Int):=by decide
 have HA:Rt 94 #[.string ⟨#[]⟩] (.tuple #[.string ⟨#[]⟩,.bool false]):=by
  intro w;go_enter Tryz.func94,Tryz.ntmps94
  go_wp2_with fail;refine bodyPost_ret (results_tmp2 rfl _ _ _) rfl ?_;exact⟨rfl,xb _ _⟩
 have HM:Rs 92 #[.string ⟨#[]⟩] (.bool false):=rmay_w ⟨#[]⟩ (by decide)
 go_enter Tryz.func91,Tryz.ntmps91
 go_wp2_with(first|(with_reducible refine HA.go HB ?_;clear HB;intro w1 HB hb)|(with_reducible refine HM.go ?_))
 go_ret;exact⟨rfl,HB.out⟩
theorem rneg2_nil:Rt 197 #[.string ⟨#[]⟩] (.string ⟨#[]⟩):=by
 intro w;have HB:=zc.mk (xb w.heap.size w);have HM:=rmay2_nil;go_enter Tryz.func197,Tryz.ntmps197
 go_wp2_with(with_reducible refine HM.go HB ?_;clear HB;intro w1 HB hb)
 go_ret;exact⟨rfl,HB.out⟩
theorem rmake3_no (a b:ByteArray)(ha:∃p,Rt 91 #[.string a] (.bool p)∧(p=true→Rt 91 #[.string b] (.bool false))):Rt 168 #[.string a,.string b] (.tuple #[.agg #[.string ⟨#[]⟩,.string ⟨#[]⟩],.bool false]):=by
 intro w;obtain⟨p,H1,H2⟩:=ha;have k0:=j7 w (.cells #[.string ⟨#[]⟩,.string ⟨#[]⟩] 35);have B0:=(xb w.heap.size w).alloc (xc _) (.cells #[.string ⟨#[]⟩,.string ⟨#[]⟩] 35);have HB:=zc.mk (xb (w.alloc (.cells #[.string ⟨#[]⟩,.string ⟨#[]⟩] 35)).heap.size (w.alloc (.cells #[.string ⟨#[]⟩,.string ⟨#[]⟩] 35)));cases p with
 |false=>
  clear H2;go_enter Tryz.func168,Tryz.ntmps168
  go_wp2_with fail;generalize w.alloc (.cells #[.string ⟨#[]⟩,.string ⟨#[]⟩] 35)=w0 at*;refine H1.go HB ?_;clear HB;intro w1 HB hb;have k7:=zK HB.out k0;have c0:w1.cell? ⟨w.heap.size,0,none⟩=some (.string ⟨#[]⟩):=by rw[j6 k7];rfl
  have c1:w1.cell? ⟨w.heap.size,1,none⟩=some (.string ⟨#[]⟩):=by rw[j6 k7];rfl
  have f0:w1.frozen? ⟨w.heap.size,0,none⟩=false:=Lib.frozen_of_heap k7 0;have f1:w1.frozen? ⟨w.heap.size,1,none⟩=false:=Lib.frozen_of_heap k7 1;go_wp2_with fail;obtain⟨q1,q2⟩:=put2 k7 (.string ⟨#[]⟩) (.string ⟨#[]⟩);refine bodyPost_ret (v:= .tuple #[.agg #[.string ⟨#[]⟩,.string ⟨#[]⟩],.bool false]) ?_ rfl ⟨rfl,((B0.trans (HB.out.mono B0.size)).setCell (by simp) _).setCell (by simp) _⟩
  simp[results,Tryz.f168,go_sem,q1,q2]
 |true=>
  have H3:=H2 rfl;clear H2;go_enter Tryz.func168,Tryz.ntmps168
  go_wp2_with fail;generalize w.alloc (.cells #[.string ⟨#[]⟩,.string ⟨#[]⟩] 35)=w0 at*;refine H1.go HB ?_;clear HB;intro w1 HB hb;go_wp2_with fail;refine H3.go HB ?_;clear HB;intro w2 HB hb2;have k7:=zK HB.out k0;have c0:w2.cell? ⟨w.heap.size,0,none⟩=some (.string ⟨#[]⟩):=by rw[j6 k7];rfl
  have c1:w2.cell? ⟨w.heap.size,1,none⟩=some (.string ⟨#[]⟩):=by rw[j6 k7];rfl
  have f0:w2.frozen? ⟨w.heap.size,0,none⟩=false:=Lib.frozen_of_heap k7 0;have f1:w2.frozen? ⟨w.heap.size,1,none⟩=false:=Lib.frozen_of_heap k7 1;go_wp2_with fail;obtain⟨q1,q2⟩:=put2 k7 (.string ⟨#[]⟩) (.string ⟨#[]⟩);refine bodyPost_ret (v:= .tuple #[.agg #[.string ⟨#[]⟩,.string ⟨#[]⟩],.bool false]) ?_ rfl ⟨rfl,((B0.trans (HB.out.mono B0.size)).setCell (by simp) _).setCell (by simp) _⟩
  simp[results,Tryz.f168,go_sem,q1,q2]
end Go.Proofs.YtjopepfemhckjaaGreatDoor.NW
end
section
namespace Go.Proofs.YtjopepfemhckjaaGreatDoor.NW
open Go.Proofs Go.RowKit Go.Shelf Go.Proofs.YtjopepfemhckjaaGreatDoor.PN Go.Proofs.YtjopepfemhckjaaGreatDoorW.PrintWords Go.Proofs.YtjopepfemhckjaaGreatDoor.PParseTells
theorem rPrint0_at (zs ds:ByteArray)(HM:∀w,RowKit.Hid (Calls Tryz.prog 55 #[.agg #[.string zs,.string ds]] w fun e w'=>e= .returned (.bool true)∧Below w.heap.size w w'))(HP:∀w,RowKit.Hid (Calls Tryz.prog 96 #[.agg #[.string zs,.string ds]] w fun e w'=>e= .returned (.tuple #[.int .i64 0,.bool true])∧Below w.heap.size w w'))(w:World):
 Calls Tryz.prog 98 #[.agg #[.string zs,.string ds]] w fun e w'=>e= .returned (.string zs)∧Below w.heap.size w w':=by
 have k0:=j7 w (.cells #[.string zs,.string ds] 35);have B0:Below w.heap.size w (w.alloc (.cells #[.string zs,.string ds] 35)):=(xb _ w).alloc (xc _) _;go_enter Tryz.func98,Tryz.ntmps98
 go_wp2_with fail;generalize w.alloc (.cells #[.string zs,.string ds] 35)=w0 at*;refine(HM _).out.mono ?_;rintro e w1 ⟨rfl,hb⟩;have k1:=zK hb k0;have B1:=B0.trans (hb.mono B0.size);clear k0 B0 hb;have c0:w1.cell? ⟨w.heap.size,0,none⟩=some (.string zs):=by rw[j6 k1];rfl
 have c1:w1.cell? ⟨w.heap.size,1,none⟩=some (.string ds):=by rw[j6 k1];rfl
 go_wp2_with fail;refine(HP _).out.mono ?_;rintro e w2 ⟨rfl,hb⟩;have k2:=zK hb k1;have B2:=B1.trans (hb.mono B1.size);clear k1 B1 hb c0 c1;have c0:w2.cell? ⟨w.heap.size,0,none⟩=some (.string zs):=by rw[j6 k2];rfl
 have c1:w2.cell? ⟨w.heap.size,1,none⟩=some (.string ds):=by rw[j6 k2];rfl
 go_wp2_with fail;go_ret;exact⟨rfl,B2⟩
theorem rPrintN_at (zs ds z1 ps d1 pr z2:ByteArray)(n:Nat)(sg:Int)(hn0:0<n)(hn:n≤1000)(hz1:z1.size=n)(hpr:pr.size≤1000000)(hz2:z2.size=n+1-pr.size)(hsg:0≤sg)
 (HM:∀w,RowKit.Hid (Calls Tryz.prog 55 #[.agg #[.string zs,.string ds]] w fun e w'=>e= .returned (.bool true)∧Below w.heap.size w w'))(HP:∀w,RowKit.Hid (Calls Tryz.prog 96 #[.agg #[.string zs,.string ds]] w fun e w'=>e= .returned (.tuple #[.int .i64 (n:Int),.bool true])∧Below w.heap.size w w'))(HZ1:∀w,RowKit.Hid (Calls Tryz.prog 127 #[.int .i64 (n:Int)] w fun e w'=>e= .returned (.string z1)∧Below w.heap.size w w'))(HMU:∀w,RowKit.Hid (Calls Tryz.prog 126 #[.agg #[.string zs,.string ds],.agg #[.string ((⟨#[49]⟩:xf)++z1),.string ⟨#[49]⟩]] w fun e w'=>e= .returned (.agg #[.string ps,.string d1])∧Below w.heap.size w w'))(HAB:∀w,RowKit.Hid (Calls Tryz.prog 56 #[.string ps] w fun e w'=>e= .returned (.string pr)∧Below w.heap.size w w'))(HZ2:∀w,RowKit.Hid (Calls Tryz.prog 127 #[.int .i64 ((n+1-pr.size:Nat):Int)] w fun e w'=>e= .returned (.string z2)∧Below w.heap.size w w'))(HSG:∀w,RowKit.Hid (Calls Tryz.prog 97 #[.agg #[.string zs,.string ds]] w fun e w'=>e= .returned (.int .i64 sg)∧Below w.heap.size w w'))(w:World):
 Calls Tryz.prog 98 #[.agg #[.string zs,.string ds]] w fun e w'=>e= .returned (.string ((((⟨#[]⟩:xf)++(z2++pr).extract 0 ((z2++pr).size-n))++(⟨#[46]⟩:xf))++(z2++pr).extract ((z2++pr).size-n) (z2++pr).size))∧Below w.heap.size w w':=by
 obtain⟨RR,hR⟩:∃RR,((((⟨#[]⟩:xf)++(z2++pr).extract 0 ((z2++pr).size-n))++(⟨#[46]⟩:xf))++(z2++pr).extract ((z2++pr).size-n) (z2++pr).size)=RR:=⟨_,rfl⟩;rw[hR];have HR:=zc.mk hR;have hpa:(z2++pr).size=z2.size+pr.size:=j8;have hn00:¬((n:Int)=0):=by omega
 have hpz:n+1≤(z2++pr).size:=by omega
 have hpz2:(z2++pr).size≤2000001:=by omega
 have ov1:¬9223372036854775807<z2.size+pr.size:=by omega
 have ov2:¬9223372036854775807<1+z1.size:=by omega
 have ov3:¬9223372036854775807<(⟨#[49]⟩:xf).size+z1.size:=by show¬_<1+_;omega
 have HZZ:=zc.mk hz1;have HZY:=zc.mk hz2;clear hR hz1 hz2;have k0:=j7 w (.cells #[.string zs,.string ds] 35);have B0:Below w.heap.size w (w.alloc (.cells #[.string zs,.string ds] 35)):=(xb _ w).alloc (xc _) _;go_enter Tryz.func98,Tryz.ntmps98
 go_wp2_with fail;generalize w.alloc (.cells #[.string zs,.string ds] 35)=w0 at*;refine(HM _).out.mono ?_;rintro e w1 ⟨rfl,hb⟩;have k1:=zK hb k0;have B1:=B0.trans (hb.mono B0.size);clear k0 B0 hb;have c0:w1.cell? ⟨w.heap.size,0,none⟩=some (.string zs):=by rw[j6 k1];rfl
 have c1:w1.cell? ⟨w.heap.size,1,none⟩=some (.string ds):=by rw[j6 k1];rfl
 go_wp2_with fail;refine(HP _).out.mono ?_;rintro e w2 ⟨rfl,hb⟩;have k2:=zK hb k1;have B2:=B1.trans (hb.mono B1.size);clear k1 B1 hb c0 c1;have c0:w2.cell? ⟨w.heap.size,0,none⟩=some (.string zs):=by rw[j6 k2];rfl
 have c1:w2.cell? ⟨w.heap.size,1,none⟩=some (.string ds):=by rw[j6 k2];rfl
 go_wp2_with fail;have hlt:w.heap.size<w2.heap.size:=(xe k2).1;have hSB:∀w':World,Below w2.heap.size w2 w'→w'.cell? ⟨w.heap.size,0,none⟩=some (.string zs)∧w'.cell? ⟨w.heap.size,1,none⟩=some (.string ds):=fun w' hb=>by
  have k:=zK hb k2;exact⟨by rw[j6 k];rfl,by rw[j6 k];rfl⟩
 have HK2:=zc.mk k2;have HB2:=zc.mk B2;have HB:=zc.mk (xb w2.heap.size w2);clear B2 k2;go_region_held3 (fun w':World=>w'.cell? ⟨w.heap.size,0,none⟩=some (.string zs)∧w'.cell? ⟨w.heap.size,1,none⟩=some (.string ds)) (first|exact hSB _ (zD (zD bb (by first|exact xc _|omega) _ _) (by first|exact xc _|omega) _ _)|exact hSB _ (zD bb (by first|exact xc _|omega) _ _)|exact hSB _ bb) (first|(go_at_call 127;with_reducible refine(HZ1 _).out.mono ?_;rintro e w4 ⟨rfl,hb4⟩;obtain⟨hc4,hf4⟩:=bcell hb4;have hz4:=hb4.size;(try simp at hz4);(try have hz4':w2.heap.size<w4.heap.size:=by omega);have n0:=zc.mk (zi bb hb4);clear HB hb4;have HB:=n0;clear n0)|(go_at_call 126;with_reducible refine(HMU _).out.mono ?_;rintro e w5 ⟨rfl,hb5⟩;obtain⟨hc5,hf5⟩:=bcell hb5;have hz5:=hb5.size;(try simp at hz5);(try have hz5':w4.heap.size<w5.heap.size:=by omega);have n0:=zc.mk (zi bb hb5);clear HB hb5;have HB:=n0;clear n0))
 all_goals(
  go_wp2_with fail;refine(HAB _).out.mono ?_;rintro e w6 ⟨rfl,hb6⟩;have hB6:Below w2.heap.size w2 w6:=by first|exact zi (zD (zD bb (by first|exact xc _|omega) _ _) (by first|exact xc _|omega) _ _) hb6|exact zi bb hb6
  have k6:=zK hB6 HK2.out;have B6:=HB2.out.trans (hB6.mono HB2.out.size);clear hB6 hb6 HB HB2 HK2 hc4 hc5 hf4 hf5 hz4 hz5 hSB HAB HZ1 HMU hlt c0 c1
  (try clear hz4')
  (try clear hz5')
  have c0:w6.cell? ⟨w.heap.size,0,none⟩=some (.string zs):=by rw[j6 k6];rfl
  have c1:w6.cell? ⟨w.heap.size,1,none⟩=some (.string ds):=by rw[j6 k6];rfl
  go_wp2_with fail;rw[show max ((n:Int)+1-(pr.size:Int)) 0=((n+1-pr.size:Nat):Int) by omega]
  refine(HZ2 _).out.mono ?_;rintro e w7 ⟨rfl,hb7⟩;have k7:=zK hb7 k6;have B7:=B6.trans (hb7.mono B6.size);clear k6 B6 hb7 HZ2 c0 c1;have c0:w7.cell? ⟨w.heap.size,0,none⟩=some (.string zs):=by rw[j6 k7];rfl
  have c1:w7.cell? ⟨w.heap.size,1,none⟩=some (.string ds):=by rw[j6 k7];rfl
  go_wp2_with fail;refine(HSG _).out.mono ?_;rintro e w8 ⟨rfl,hb8⟩;have B8:=B7.trans (hb8.mono B7.size);clear k7 B7 hb8 HSG c0 c1;have hs2:¬sg<0:=by omega
  clear hpa ov1;generalize z2++pr=P at*;obtain⟨m,hm⟩:∃m,P.size-n=m:=⟨_,rfl⟩;have hmi:(P.size:Int)-(n:Int)=(m:Int):=by omega
  rw[hm]at HR;have o46:(⟨#[46]⟩:xf).size=1:=rfl;have ob:(⟨#[]⟩:xf).size=0:=rfl;have e1:(P.extract 0 m).size=m:=by rw[ByteArray.size_extract];omega
  have e2:(P.extract m P.size).size=n:=by rw[ByteArray.size_extract];omega
  have v1:¬9223372036854775807<(⟨#[]⟩:xf).size+(P.extract 0 m).size:=by omega
  have v1':¬9223372036854775807<0+(P.extract 0 m).size:=by omega
  have v2:¬9223372036854775807<((⟨#[]⟩:xf)++P.extract 0 m).size+(⟨#[46]⟩:xf).size:=by rw[j8];omega
  have v2':¬9223372036854775807<((⟨#[]⟩:xf)++P.extract 0 m).size+1:=by rw[j8];omega
  have v3:¬9223372036854775807<((⟨#[]⟩:xf)++P.extract 0 m++(⟨#[46]⟩:xf)).size+(P.extract m P.size).size:=by rw[j8,j8];omega
  have x1:¬(P.size:Int)<(m:Int):=by omega
  generalize hP1:P.extract 0 m=P1 at*;generalize hP2:P.extract m P.size=P2 at*;go_wp2_with fail;go_quiet (fail)
  go_wp2_with fail;go_ret;exact⟨by rw[←HR.out];rfl,ze B8 _⟩)
theorem rNumber_at (zs ds pr:ByteArray)(n:Nat)(sg:Int)(hn:(n:Int)≤20)(hsg:0≤sg)(HP:∀w,RowKit.Hid (Calls Tryz.prog 96 #[.agg #[.string zs,.string ds]] w fun e w'=>e= .returned (.tuple #[.int .i64 (n:Int),.bool true])∧Below w.heap.size w w'))(HSG:∀w,RowKit.Hid (Calls Tryz.prog 97 #[.agg #[.string zs,.string ds]] w fun e w'=>e= .returned (.int .i64 sg)∧Below w.heap.size w w'))(HPR:∀w,RowKit.Hid (Calls Tryz.prog 98 #[.agg #[.string zs,.string ds]] w fun e w'=>e= .returned (.string pr)∧Below w.heap.size w w'))(w:World):
 Calls Tryz.prog 58 #[.agg #[.string zs,.string ds]] w fun e w'=>e= .returned (.string pr)∧Below w.heap.size w w':=by
 have k0:=j7 w (.cells #[.string zs,.string ds] 35);have B0:Below w.heap.size w (w.alloc (.cells #[.string zs,.string ds] 35)):=(xb _ w).alloc (xc _) _;go_enter Tryz.func58,Tryz.ntmps58
 go_wp2_with fail;generalize w.alloc (.cells #[.string zs,.string ds] 35)=w0 at*;refine(HP _).out.mono ?_;rintro e w1 ⟨rfl,hb⟩;have k1:=zK hb k0;have B1:=B0.trans (hb.mono B0.size);clear k0 B0 hb;have c0:w1.cell? ⟨w.heap.size,0,none⟩=some (.string zs):=by rw[j6 k1];rfl
 have c1:w1.cell? ⟨w.heap.size,1,none⟩=some (.string ds):=by rw[j6 k1];rfl
 go_wp2_with fail;refine(HSG _).out.mono ?_;rintro e w2 ⟨rfl,hb⟩;have k2:=zK hb k1;have B2:=B1.trans (hb.mono B1.size);clear k1 B1 hb c0 c1;have c0:w2.cell? ⟨w.heap.size,0,none⟩=some (.string zs):=by rw[j6 k2];rfl
 have c1:w2.cell? ⟨w.heap.size,1,none⟩=some (.string ds):=by rw[j6 k2];rfl
 go_wp2_with fail;refine(HPR _).out.mono ?_;rintro e w3 ⟨rfl,hb⟩;have k3:=zK hb k2;have B3:=B2.trans (hb.mono B2.size);clear k2 B2 hb c0 c1;go_wp2_with fail;go_ret;exact⟨rfl,B3⟩
theorem rLeafNum_at (zs ds pr:ByteArray)(HN:∀w,RowKit.Hid (Calls Tryz.prog 58 #[.agg #[.string zs,.string ds]] w fun e w'=>e= .returned (.string pr)∧Below w.heap.size w w'))(w:World):
 Calls Tryz.prog 29 #[.agg #[.int .i64 0,.string zs,.string ds,.string ⟨#[]⟩,.int .i64 0,.int .i64 0]] w fun e w'=>e= .returned (.string pr)∧Below w.heap.size w w':=by
 have B0:Below w.heap.size w (w.alloc (.cells #[.int .i64 0,.string zs,.string ds,.string ⟨#[]⟩,.int .i64 0,.int .i64 0] 37)):=(xb _ w).alloc (xc _) _;go_enter Tryz.func29,Tryz.ntmps29
 go_wp2_with fail;generalize w.alloc (.cells #[.int .i64 0,.string zs,.string ds,.string ⟨#[]⟩,.int .i64 0,.int .i64 0] 37)=w0 at*;refine(HN _).out.mono ?_;rintro e w1 ⟨rfl,hb⟩;go_wp2_with fail;go_ret;exact⟨rfl,B0.trans (hb.mono B0.size)⟩
theorem rLeafPx_at (s pr:ByteArray)(a:Int)(hs:s.size≤1000)(hpr:pr.size≤1000)(HO:∀w,RowKit.Hid (Calls Tryz.prog 16 #[.int .i64 a] w fun e w'=>e= .returned (.string pr)∧Below w.heap.size w w'))(w:World):
 Calls Tryz.prog 29 #[.agg #[.int .i64 1,.string ⟨#[]⟩,.string ⟨#[]⟩,.string s,.int .i64 a,.int .i64 0]] w fun e w'=>e= .returned (.string (((((⟨#[112,120,40]⟩:xf)++s)++(⟨#[44,32]⟩:xf))++pr)++(⟨#[41]⟩:xf)))∧Below w.heap.size w w':=by
 obtain⟨RR,hR⟩:∃RR,(((((⟨#[112,120,40]⟩:xf)++s)++(⟨#[44,32]⟩:xf))++pr)++(⟨#[41]⟩:xf))=RR:=⟨_,rfl⟩;rw[hR];have HR:=zc.mk hR;clear hR;have k0:=j7 w (.cells #[.int .i64 1,.string ⟨#[]⟩,.string ⟨#[]⟩,.string s,.int .i64 a,.int .i64 0] 37);have hb0:=(xb w.heap.size w).alloc (xc _) (.cells #[.int .i64 1,.string ⟨#[]⟩,.string ⟨#[]⟩,.string s,.int .i64 a,.int .i64 0] 37);have oa0:¬9223372036854775807<(⟨#[112,120,40]⟩:xf).size+s.size:=by simp only[j8,show(⟨#[112,120,40]⟩:xf).size=3 from rfl,show(⟨#[41]⟩:xf).size=1 from rfl,show(⟨#[44,32]⟩:xf).size=2 from rfl];omega
 have oc0:¬9223372036854775807<3+s.size:=by omega
 have oa1:¬9223372036854775807<((⟨#[112,120,40]⟩:xf)++s).size+(⟨#[44,32]⟩:xf).size:=by simp only[j8,show(⟨#[112,120,40]⟩:xf).size=3 from rfl,show(⟨#[41]⟩:xf).size=1 from rfl,show(⟨#[44,32]⟩:xf).size=2 from rfl];omega
 have ob1:¬9223372036854775807<((⟨#[112,120,40]⟩:xf)++s).size+2:=by simp only[j8,show(⟨#[112,120,40]⟩:xf).size=3 from rfl,show(⟨#[41]⟩:xf).size=1 from rfl,show(⟨#[44,32]⟩:xf).size=2 from rfl];omega
 have oc1:¬9223372036854775807<3+s.size+2:=by omega
 have oa2:¬9223372036854775807<((⟨#[112,120,40]⟩:xf)++s++(⟨#[44,32]⟩:xf)).size+pr.size:=by simp only[j8,show(⟨#[112,120,40]⟩:xf).size=3 from rfl,show(⟨#[41]⟩:xf).size=1 from rfl,show(⟨#[44,32]⟩:xf).size=2 from rfl];omega
 have oc2:¬9223372036854775807<3+s.size+2+pr.size:=by omega
 have oa3:¬9223372036854775807<((⟨#[112,120,40]⟩:xf)++s++(⟨#[44,32]⟩:xf)++pr).size+(⟨#[41]⟩:xf).size:=by simp only[j8,show(⟨#[112,120,40]⟩:xf).size=3 from rfl,show(⟨#[41]⟩:xf).size=1 from rfl,show(⟨#[44,32]⟩:xf).size=2 from rfl];omega
 have ob3:¬9223372036854775807<((⟨#[112,120,40]⟩:xf)++s++(⟨#[44,32]⟩:xf)++pr).size+1:=by simp only[j8,show(⟨#[112,120,40]⟩:xf).size=3 from rfl,show(⟨#[41]⟩:xf).size=1 from rfl,show(⟨#[44,32]⟩:xf).size=2 from rfl];omega
 have oc3:¬9223372036854775807<3+s.size+2+pr.size+1:=by omega
 have hSB:∀w':World,Below (w.alloc (.cells #[.int .i64 1,.string ⟨#[]⟩,.string ⟨#[]⟩,.string s,.int .i64 a,.int .i64 0] 37)).heap.size (w.alloc (.cells #[.int .i64 1,.string ⟨#[]⟩,.string ⟨#[]⟩,.string s,.int .i64 a,.int .i64 0] 37)) w'→w'.cell? ⟨w.heap.size,2+1,none⟩=some (.string s)∧w'.cell? ⟨w.heap.size,3+1,none⟩=some (.int .i64 a):=fun w' hb=>by
  have k:=zK hb k0;exact⟨by rw[j6 k];rfl,by rw[j6 k];rfl⟩
 have HB:=zc.mk (xb (w.alloc (.cells #[.int .i64 1,.string ⟨#[]⟩,.string ⟨#[]⟩,.string s,.int .i64 a,.int .i64 0] 37)).heap.size (w.alloc (.cells #[.int .i64 1,.string ⟨#[]⟩,.string ⟨#[]⟩,.string s,.int .i64 a,.int .i64 0] 37)));go_enter Tryz.func29,Tryz.ntmps29
 go_wp2_with fail;generalize hw0:w.alloc (.cells #[.int .i64 1,.string ⟨#[]⟩,.string ⟨#[]⟩,.string s,.int .i64 a,.int .i64 0] 37)=w0 at*;clear hw0 k0;go_region_held3 (fun w':World=>w'.cell? ⟨w.heap.size,3,none⟩=some (.string s)∧w'.cell? ⟨w.heap.size,4,none⟩=some (.int .i64 a)) (exact hSB _ bb) ((go_at_call 16;with_reducible refine(HO _).out.mono ?_;rintro e w4 ⟨rfl,hb4⟩;have n0:=zc.mk (zi bb hb4);clear HB hb4;have HB:=n0;clear n0))
 go_wp2_with fail;go_ret;exact⟨by rw[←HR.out];rfl,hb0.trans (HB.out.mono hb0.size)⟩
theorem zY (k:Nat)(r:Int)(hk:k≤12)(hr:r=if k<5 then 0 else if k=5 then 1 else if k≤11 then 2 else 3)(w:World):
 Calls Tryz.prog 28 #[.int .i64 (k:Int)] w fun e w'=>e= .returned (.int .i64 r)∧Below w.heap.size w w':=by
 subst hr;have h1:¬(k:Int)<0:=by omega
 have h2:(k:Int)≤12:=by omega
 have h3:¬(12:Int)<(k:Int):=by omega
 have hix:∀w:World,(Instr.index 94 (.agg #[.int .i64 0,.int .i64 0,.int .i64 0,.int .i64 0,.int .i64 0,.int .i64 1,.int .i64 2,.int .i64 2,.int .i64 2,.int .i64 2,.int .i64 2,.int .i64 2,.int .i64 3]) (.int .i64 (k:Int))).run Tryz.prog w= .ok (.int .i64 (if k<5 then 0 else if k=5 then 1 else if k≤11 then 2 else 3)) w:=by
  intro w;have hc:k=0∨k=1∨k=2∨k=3∨k=4∨k=5∨k=6∨k=7∨k=8∨k=9∨k=10∨k=11∨k=12:=by omega
  rcases hc with rfl|rfl|rfl|rfl|rfl|rfl|rfl|rfl|rfl|rfl|rfl|rfl|rfl<;>rfl
 generalize (if k<5 then(0:Int)else if k=5 then 1 else if k≤11 then 2 else 3)=R at*
 generalize (k:Int)=kk at*;go_enter Tryz.func28,Tryz.ntmps28
 go_wp2_with fail;go_ret;exact⟨rfl,xb _ _⟩
end Go.Proofs.YtjopepfemhckjaaGreatDoor.NW
end
