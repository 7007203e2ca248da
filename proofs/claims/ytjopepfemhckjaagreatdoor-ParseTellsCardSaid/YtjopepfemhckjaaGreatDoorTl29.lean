/-
  Part 29 of the proof of parseTells_holds: texts of this seat, put together.
-/
import Derived.Deep.QuietTactic
import Derived.BigQuiet
import Derived.Test.YtjopepfemhckjaaGreatDoorTl8
set_option linter.unusedVariables false
set_option linter.unusedSimpArgs false
set_option maxHeartbeats 16000000
set_option maxRecDepth 100000
section
namespace Go.Proofs.YtjopepfemhckjaaGreatDoor.NW
open Go.Proofs Go.RowKit Go.Shelf Go.Proofs.YtjopepfemhckjaaGreatDoor.PN Go.Proofs.YtjopepfemhckjaaGreatDoorW.PrintWords Go.Proofs.YtjopepfemhckjaaGreatDoor.PParseTells
def Rt (f:FuncId)(args:Array Value)(v:Value):Prop:=∀w,Calls Tryz.prog f args w fun e w'=>e= .returned v∧Below w.heap.size w w'
theorem Rt.go {f:FuncId}{args:Array Value}{v:Value}(h:Rt f args v){w0 w:World}(B:zc (Below w0.heap.size w0 w)){Q:_}(K:∀w',zc (Below w0.heap.size w0 w')→zc (Below w.heap.size w w')→Q (.returned v) w'):Calls Tryz.prog f args w Q:=by
 refine(h w).mono ?_;rintro e w' ⟨rfl,hb⟩;exact K w' ⟨B.out.trans (hb.mono B.out.size)⟩ ⟨hb⟩
def Rs (f:FuncId)(args:Array Value)(v:Value):Prop:=∀w,Calls Tryz.prog f args w fun e w'=>e= .returned v∧w'=w
theorem Rs.go {f:FuncId}{args:Array Value}{v:Value}(h:Rs f args v){w:World}{Q:_}(K:Q (.returned v) w):Calls Tryz.prog f args w Q:=by
 refine(h w).mono ?_;rintro e w' ⟨rfl,rfl⟩;exact K
theorem Rt.same {f:FuncId}{args:Array Value}{v:Value}(h:Rs f args v):Rt f args v:=fun w=>(h w).mono fun e w' ⟨h1,h2⟩=>⟨h1,by rw[h2];exact xb _ _⟩
theorem bput {B:Nat}{w0 w:World}(hb:Below B w0 w){g:Nat}(hg:B≤g)(i:Nat)(u:Value):Below B w0 (w.setCell ⟨g,i,none⟩ u):=
 ⟨hb.os,hb.tape,hb.output,by simpa[World.setCell]using hb.size,fun k hk=>(Below.heap_setCell w ⟨g,i,none⟩ u k (by show k≠g;omega)).trans (hb.block k hk)⟩
theorem zv (s:ByteArray):s.data.toList.length=s.size:=rfl
theorem ba_at (s:ByteArray)(i:Nat)(h:i<s.size):s.data.toList[i]'h=s[i]'h:=rfl
theorem digd (s:ByteArray)(hd:allD s.data.toList)(i:Nat)(h:i<s.size):48≤(s[i]'h).toNat∧(s[i]'h).toNat≤57:=by
 rw[←ba_at s i h];exact hd _ (List.getElem_mem _)
theorem allD_take {s:ByteArray}{n:Nat}(h:n<s.size)(ha:allD (s.data.toList.take n))(hd:48≤(s[n]'h).toNat∧(s[n]'h).toNat≤57):allD (s.data.toList.take (n+1)):=by
 rw[List.take_succ_eq_append_getElem (by rw[zv];exact h)]
 intro c hc;rcases List.mem_append.1 hc with hc|hc
 ·exact ha c hc
 ·rw[List.mem_singleton.1 hc]
  exact hd
theorem allD_bad {s:ByteArray}{n:Nat}(h:n<s.size)(hd:¬(48≤(s[n]'h).toNat∧(s[n]'h).toNat≤57)):¬allD s.data.toList:=fun ha=>hd (digd s ha n h)
theorem dig_at (l:List UInt8)(hd:allD l):∀i,(h:i<l.length)→(l[l.length-1-i]'(by omega)).toNat-48=dv l/10^i%10:=by
 induction l with
 |nil=>intro i h;exact absurd h (by simp)
 |cons c l ih=>
  intro i h;have hl:=qt l (fun d hd'=>hd d (List.mem_cons_of_mem _ hd'))
  have hc:=hd c (List.mem_cons_self ..);rw[z6];rw[List.length_cons]at h;by_cases hi:i=l.length
  ·subst hi
   have e:(c::l)[(c::l).length-1-l.length]'(by simp)=c:=by simp
   rw[e,Nat.mul_comm,Nat.mul_add_div (Nat.pow_pos (by omega)),Nat.div_eq_of_lt hl,Nat.add_zero,Nat.mod_eq_of_lt (by omega)]
  ·have hi2:i<l.length:=by omega
   have e:(c::l)[(c::l).length-1-i]'(by simp;omega)=l[l.length-1-i]'(by omega):=by
    have:(c::l).length-1-i=(l.length-1-i)+1:=by simp;omega
    simp only[this,List.getElem_cons_succ]
   rw[e,ih (fun d hd'=>hd d (List.mem_cons_of_mem _ hd')) i hi2]
   obtain⟨k,hk⟩:∃k,l.length=i+(k+1):=⟨l.length-i-1,by omega⟩
   rw[hk,Nat.pow_add,Nat.pow_succ,show(c.toNat-48)*(10^i*(10^k*10))+dv l=10^i*(10*((c.toNat-48)*10^k))+dv l by grind,Nat.mul_add_div (Nat.pow_pos (by omega)),Nat.mul_add_mod]
theorem less_dv:∀(l m:List UInt8),allD l→allD m→l.length=m.length→Op.bytesLess l m=decide (dv l<dv m)
 |[],[],_,_,_=>rfl
 |[],_::_,_,_,h=>by cases h
 |_::_,[],_,_,h=>by cases h
 |c::l,d::m,hl,hm,h=>by
  have e:l.length=m.length:=by simpa using h
  have b1:=qt l (fun x hx=>hl x (List.mem_cons_of_mem _ hx))
  have b2:=qt m (fun x hx=>hm x (List.mem_cons_of_mem _ hx))
  have c1:=hl c (List.mem_cons_self ..);have d1:=hm d (List.mem_cons_self ..);have ih:=less_dv l m (fun x hx=>hl x (List.mem_cons_of_mem _ hx)) (fun x hx=>hm x (List.mem_cons_of_mem _ hx)) e
  rw[e]at b1;rw[z6,z6,e];unfold Op.bytesLess;by_cases h1:c=d
  ·subst h1
   simp only[UInt8.lt_irrefl,decide_false,Bool.false_or,decide_true,beq_self_eq_true,Bool.true_and,if_true,if_false,ih];exact decide_eq_decide.2 (by omega)
  ·have h2:c.toNat≠d.toNat:=fun e=>h1 (u8_ext e)
   by_cases h3:c.toNat<d.toNat
   ·have h4:(c.toNat-48+1)*10^m.length≤(d.toNat-48)*10^m.length:=Nat.mul_le_mul_right _ (by omega)
    have h5:c<d:=UInt8.lt_iff_toNat_lt.2 h3;have h6:(c.toNat-48)*10^m.length+dv l<(d.toNat-48)*10^m.length+dv m:=by rw[Nat.add_mul]at h4;omega
    rw[decide_eq_true h6];simp[h5]
   ·have h4:(d.toNat-48+1)*10^m.length≤(c.toNat-48)*10^m.length:=Nat.mul_le_mul_right _ (by omega)
    have h5:¬c<d:=fun h=>h3 (UInt8.lt_iff_toNat_lt.1 h)
    have h6:¬(c.toNat-48)*10^m.length+dv l<(d.toNat-48)*10^m.length+dv m:=by rw[Nat.add_mul]at h4;omega
    rw[decide_eq_false h6];simp[h5,h1]
theorem natS_len_lt {n m:Nat}(h:(natS n).size<(natS m).size):n<m:=by
 have h1:=zh n;have h2:=zh m;have a1:=qt _ h1.1.dig;rw[h1.2,zv]at a1;by_cases h0:m=0
 ·subst h0
  have e:natS 0=⟨#[48]⟩:=h2.inj isN_0;have e2:=h1.1.pos_len;rw[zv]at e2;rw[e]at h;have:(⟨#[48]⟩:xf).size=1:=rfl;omega
 ·have b1:=h2.1.ge (by rw[h2.2];exact h0)
  rw[h2.2,zv]at b1;have:10^(natS n).size≤10^((natS m).size-1):=Nat.pow_le_pow_right (by omega) (by omega)
  omega
theorem natS_less {n m:Nat}(h:(natS n).size=(natS m).size):Op.bytesLess (natS n).toList (natS m).toList=decide (n<m):=by
 rw[Lib.toList_data,Lib.toList_data,less_dv _ _ (zh n).1.dig (zh m).1.dig h,(zh n).2,(zh m).2]
theorem natS_eqB (n m:Nat):((natS n).toList==(natS m).toList)=decide (n=m):=by
 rw[Bool.eq_iff_iff,beq_iff_eq,decide_eq_true_eq,Lib.toList_data,Lib.toList_data];constructor
 ·intro h
  have e:natS n=natS m:=by
   cases hn:natS n;cases hm:natS m;rw[hn,hm]at h;congr 1
   exact Array.toList_inj.1 h
  exact(zh n).val (by rw[e];exact zh m)
 ·intro h
  rw[h]
theorem jM (s:ByteArray)(i:Nat)(hd:allD s.data.toList)(h:i<s.size)(hx:i+1=s.size∨(s[i]'h).toNat≠48)(hv:dv (s.data.toList.drop i)=dv s.data.toList):s.extract i s.size=natS (dv s.data.toList):=by
 have hl:(s.extract i s.size).data.toList=s.data.toList.drop i:=by
  rw[ext_toList,List.take_of_length_le (by rw[zv];exact xc _)]
 apply IsN.eq;unfold IsN;rw[hl];refine⟨⟨?_,fun c hc=>hd c (List.mem_of_mem_drop hc),?_⟩,hv⟩
 ·intro e
  have:=congrArg List.length e;rw[List.length_drop,zv]at this;simp at this;omega
 ·intro he
  rw[List.drop_eq_getElem_cons (by rw[zv];exact h)]at he ⊢
  rcases hx with hx|hx
  ·rw[List.drop_eq_nil_of_le (by rw[zv];omega)]
   injection he with he;rw[he]
  ·injection he with he
   exact absurd (congrArg UInt8.toNat he) hx
def byts (l:List Int):List UInt8:=l.map fun n=>UInt8.ofNat n.toNat
theorem byts_cons (d:Nat)(hd:d<10)(l:List Int):dv (byts ((48+(d:Int))::l))=d*10^l.length+dv (byts l)∧(allD (byts l)→allD (byts ((48+(d:Int))::l))):=by
 have h1:UInt8.ofNat (48+(d:Int)).toNat=UInt8.ofNat (48+d):=by congr 1
 have h2:=u8_digit d hd;constructor
 ·show dv (UInt8.ofNat (48+(d:Int)).toNat::byts l)=_
  rw[h1,z6,h2];unfold byts;rw[List.length_map];congr 2
  omega
 ·intro h c hc
  rcases List.mem_cons.1 hc with hc|hc
  ·have e:c=UInt8.ofNat (48+d):=hc.trans h1
   rw[e,h2];omega
  ·exact h c hc
structure Fil (L i:Nat) (l:List Int) (v:Nat):Prop where
 len:l.length=L
 le:i≤L
 all:allD (byts (l.drop (L-i)))
 val:dv (byts (l.drop (L-i)))=v
theorem Fil.start (L:Nat)(l:List Int)(h:l.length=L):Fil L 0 l 0:=⟨h,Nat.zero_le _,(by rw[Nat.sub_zero,←h,List.drop_length];intro c hc;exact absurd hc (by simp[byts])),(by rw[Nat.sub_zero,←h,List.drop_length];rfl)⟩
theorem Fil.put {L i v:Nat}{l:List Int}(h:Fil L i l v)(hi:i<L)(d:Nat)(hd:d<10):Fil L (i+1) (l.set (L-1-i) (48+(d:Int))) (v+d*10^i):=by
 obtain⟨h1,h2,h3,h4⟩:=h;have e:(l.set (L-1-i) (48+(d:Int))).drop (L-(i+1))=(48+(d:Int))::l.drop (L-i):=by
  rw[show L-(i+1)=L-1-i by omega,drop_set _ _ _ (by omega),show L-1-i+1=L-i by omega]
 obtain⟨q1,q2⟩:=byts_cons d hd (l.drop (L-i));refine⟨by simp[h1],hi,by rw[e];exact q2 h3,?_⟩
 rw[e,q1,h4,List.length_drop,h1,show L-(L-i)=i by omega,Nat.add_comm]
theorem Fil.whole {L v:Nat}{l:List Int}(h:Fil L L l v):allD (strOfNums l).data.toList∧dv (strOfNums l).data.toList=v∧(strOfNums l).size=L:=by
 obtain⟨h1,h2,h3,h4⟩:=h;rw[Nat.sub_self,List.drop_zero]at h3 h4;exact⟨h3,h4,by rw[strOfNums_size,h1]⟩
theorem mod_step (n i:Nat):n%10^(i+1)=n%10^i+10^i*(n/10^i%10):=by
 rw[Nat.pow_succ,Nat.mod_mul]
end Go.Proofs.YtjopepfemhckjaaGreatDoor.NW
end
section
namespace Go.Proofs.YtjopepfemhckjaaGreatDoor.NW
open Go.Proofs Go.RowKit Go.Shelf Go.Proofs.YtjopepfemhckjaaGreatDoor.PN Go.Proofs.YtjopepfemhckjaaGreatDoorW.PrintWords Go.Proofs.YtjopepfemhckjaaGreatDoor.PParseTells
theorem natB_bad {s:ByteArray}(h:¬allD s.data.toList):isNatB s.data.toList=false:=by
 rw[Bool.eq_false_iff];intro h2;exact h ((jl _).1 h2).dig
theorem natB_end {s:ByteArray}(ha:allD s.data.toList)(h0:0<s.size):isNatB s.data.toList=((s.toList==[48])|| !decide ((s[0]'h0).toNat=48)):=by
 obtain⟨t,ht⟩:∃t,s.data.toList=s[0]'h0::t:=⟨s.data.toList.drop 1,by
  have:=List.drop_eq_getElem_cons (l:=s.data.toList) (i:=0) (by rw[zv];exact h0)
  rw[List.drop_zero]at this;exact this⟩
 have hall:s.data.toList.all (fun c=>decide (48≤c.toNat)&&decide (c.toNat≤57))=true:=by
  rw[List.all_eq_true];intro c hc;have:=ha c hc;simp[this.1,this.2]
 unfold isNatB;rw[hall,Lib.toList_data,ht];have e:(some (s[0]'h0)==some (48:UInt8))=decide ((s[0]'h0).toNat=48):=by
  rw[Bool.eq_iff_iff,beq_iff_eq,decide_eq_true_eq];exact⟨fun h=>by injection h with h;rw[h];rfl,fun h=>by rw[u8_ext (b:=48) h]⟩
 simp only[List.isEmpty_cons,Bool.not_false,Bool.true_and,Bool.and_true,List.head?_cons,e];rw[Bool.or_comm]
theorem rmay_w (s:ByteArray)(hs:s.size≤1000000)(w:World):Calls Tryz.prog 92 #[.string s] w fun e w'=>e= .returned (.bool (isNatB s.data.toList))∧w'=w:=by
 obtain⟨R,hR⟩:∃R,isNatB s.data.toList=R:=⟨_,rfl⟩;rw[hR];have HR:=zc.mk hR;clear hR;go_enter Tryz.func92,Tryz.ntmps92
 go_wp2_with fail;go_loopg [3] (s.size+1) (fun kq v3 w'=>∃n:Nat,v3= .int .i64 n∧n+kq=s.size+1∧n≤s.size∧zc (allD (s.data.toList.take n))∧w'=w)
 case atStart=>exact⟨0,rfl,by omega,by omega,⟨fun c hc=>by simp at hc⟩,rfl⟩
 case round=>
  obtain⟨n,rfl,hn,hn2,HA,rfl⟩:=hrel;by_cases hlt:n<s.size
  ·by_cases hd:48≤(s[n]'hlt).toNat∧(s[n]'hlt).toNat≤57
   ·have HA2:=zc.mk (allD_take hlt HA.out hd)
    have h1:¬((s[n]'hlt).toNat:Int)<48:=by omega
    have h2:¬(57:Int)<((s[n]'hlt).toNat:Int):=by omega
    clear HA;go_wp2_with fail;go_roundg (gk-1)
    case measure=>omega
    case rel=>exact⟨n+1,by go_num,by omega,by omega,HA2,rfl⟩
   ·have hr:R=false:=HR.out.symm.trans (natB_bad (allD_bad hlt hd))
    subst hr;clear HR HA;by_cases h1:((s[n]'hlt).toNat:Int)<48
    ·go_wp2_with fail
     go_ret;exact⟨rfl,rfl⟩
    ·have h2:(57:Int)<((s[n]'hlt).toNat:Int):=by omega
     go_wp2_with fail;go_ret;exact⟨rfl,rfl⟩
  ·have ha:allD s.data.toList:=by
    have:=HA.out;rwa [List.take_of_length_le (by rw[zv];omega)]at this
   by_cases h0:0<s.size
   ·have hr:=HR.out.symm.trans (natB_end ha h0)
    subst hr;clear HA HR;cases h1:(s.toList==([48]:List UInt8))with
    |true=>
     go_wp2_with fail;go_ret;exact⟨by simp[*],rfl⟩
    |false=>
     by_cases h2:(s[0]'h0).toNat=48
     ·have h3:((s[0]'h0).toNat:Int)=48:=by omega
      go_wp2_with fail;go_ret;exact⟨by simp[*],rfl⟩
     ·have h3:¬((s[0]'h0).toNat:Int)=48:=by omega
      go_wp2_with fail;go_ret;exact⟨by simp[*],rfl⟩
   ·have he:isNatB s.data.toList=false:=by
     have:s.data.toList=[]:=List.length_eq_zero_iff.1 (by rw[zv];omega)
     rw[this];rfl
    have hr:=HR.out.symm.trans he;subst hr;clear HA HR he ha;go_wp2_with fail;go_ret;exact⟨rfl,rfl⟩
theorem zP (n:Nat)(hs:(natS n).size≤1000000)(w:World):Calls Tryz.prog 92 #[.string (natS n)] w fun e w'=>e= .returned (.bool true)∧w'=w:=by
 have h:=rmay_w (natS n) hs w;rwa [qd]at h
theorem rcmp_w (n m:Nat)(hn:(natS n).size≤1000000)(hm:(natS m).size≤1000000)(w:World):Calls Tryz.prog 166 #[.string (natS n),.string (natS m)] w fun e w'=>e= .returned (.int .i64 (cmpZ n m))∧w'=w:=by
 have H1:=(show Rs _ _ _ from zP n hn)
 have H2:=(show Rs _ _ _ from zP m hm)
 have he:=natS_eqB n m;have hl:= @natS_len_lt n m;have hl2:= @natS_len_lt m n;have hb:= @natS_less n m;unfold cmpZ;generalize natS n=s at*;generalize natS m=t at*;by_cases h1:n=m
 ·rw[if_neg (by omega),if_pos h1]
  rw[decide_eq_true h1]at he;clear hl hl2 hb;go_enter Tryz.func166,Tryz.ntmps166
  go_wp2_with(first|(with_reducible refine H1.go ?_)|(with_reducible refine H2.go ?_))
  go_ret;exact⟨rfl,rfl⟩
 ·rw[decide_eq_false h1]at he
  by_cases h2:n<m
  ·rw[if_pos h2]
   have h3:s.size≤t.size:=by omega
   by_cases h4:s.size=t.size
   ·have hb:=hb h4
    rw[decide_eq_true h2]at hb;clear hl hl2;go_enter Tryz.func166,Tryz.ntmps166
    go_wp2_with(first|(with_reducible refine H1.go ?_)|(with_reducible refine H2.go ?_))
    go_ret;exact⟨rfl,rfl⟩
   ·have h5:(s.size:Int)<(t.size:Int):=by omega
    clear hl hl2 hb;go_enter Tryz.func166,Tryz.ntmps166
    go_wp2_with(first|(with_reducible refine H1.go ?_)|(with_reducible refine H2.go ?_))
    go_ret;exact⟨rfl,rfl⟩
  ·rw[if_neg h2,if_neg h1]
   have h3:¬(s.size:Int)<(t.size:Int):=by omega
   by_cases h4:s.size=t.size
   ·have hb:=hb h4
    rw[decide_eq_false h2]at hb;clear hl hl2;go_enter Tryz.func166,Tryz.ntmps166
    go_wp2_with(first|(with_reducible refine H1.go ?_)|(with_reducible refine H2.go ?_))
    go_ret;exact⟨rfl,rfl⟩
   ·have h5:¬(s.size:Int)=(t.size:Int):=by omega
    clear hl hl2 hb;go_enter Tryz.func166,Tryz.ntmps166
    go_wp2_with(first|(with_reducible refine H1.go ?_)|(with_reducible refine H2.go ?_))
    go_ret;exact⟨rfl,rfl⟩
theorem dig_b (s:ByteArray)(hd:allD s.data.toList)(i:Nat)(h:i<s.size):(s[s.size-1-i]'(by omega)).toNat-48=dv s.data.toList/10^i%10:=dig_at s.data.toList hd i h
theorem rat_w (n i:Nat)(hs:(natS n).size≤1000000)(hi:i≤2000000)(w:World):Calls Tryz.prog 99 #[.string (natS n),.int .i64 i] w fun e w'=>e= .returned (.int .i64 ((n/10^i%10:Nat):Int))∧w'=w:=by
 have hd:=dig_b (natS n) (zh n).1.dig i;have hg:=digd (natS n) (zh n).1.dig;have hlt:=qt _ (zh n).1.dig;rw[(zh n).2]at hd hlt;rw[zv]at hlt;generalize natS n=s at*;by_cases h:i<s.size
 ·have h2:((s.size:Int)-1-(i:Int))=((s.size-1-i:Nat):Int):=by omega
  have hy:s.size-1-i<s.size:=by omega
  have hx:(s[s.size-1-i]'hy).toNat-48=n/10^i%10:=hd h;have hz:=hg _ hy;have h3:¬(s.size:Int)≤(i:Int):=by omega
  have hw:IntKind.i64.wrap ((s.size:Int)-1)=(s.size:Int)-1:=by simp[j9];omega
  have hw2:IntKind.i64.wrap ((s.size:Int)-1-(i:Int))=((s.size-1-i:Nat):Int):=by simp[j9];omega
  clear hd;generalize s.size-1-i=j at*;rw[←hx];clear hg hlt hx h2;go_enter Tryz.func99,Tryz.ntmps99
  go_wp2_with fail;go_ret;exact⟨by congr 2;simp[j9];omega,rfl⟩
 ·have h2:n/10^i%10=0:=by
   rw[Nat.div_eq_of_lt (Nat.lt_of_lt_of_le hlt (Nat.pow_le_pow_right (by omega) (by omega)))]
  have h3:(s.size:Int)≤(i:Int):=by omega
  rw[h2];clear hd hg hlt h2;go_enter Tryz.func99,Tryz.ntmps99
  go_wp2_with fail;go_ret;exact⟨rfl,rfl⟩
theorem drop_zero48 {s:ByteArray}{n:Nat}(h:n<s.size)(hz:(s[n]'h).toNat=48):dv (s.data.toList.drop n)=dv (s.data.toList.drop (n+1)):=by
 rw[List.drop_eq_getElem_cons (by rw[zv];exact h),z6,ba_at s n h,hz]
 simp
theorem rtrim_w (s:ByteArray)(hd:allD s.data.toList)(h0:0<s.size)(hs:s.size≤10000000)(w:World):Calls Tryz.prog 100 #[.string s] w fun e w'=>e= .returned (.string (natS (dv s.data.toList)))∧w'=w:=by
 have HD:=zc.mk hd;clear hd;obtain⟨R,hR⟩:∃R,natS (dv s.data.toList)=R:=⟨_,rfl⟩;rw[hR];have HR:=zc.mk hR;clear hR;go_enter Tryz.func100,Tryz.ntmps100
 go_wp2_with fail;go_loopg [3] (s.size+1) (fun kq v3 w'=>∃n:Nat,v3= .int .i64 n∧n+kq=s.size+1∧n<s.size∧zc (dv (s.data.toList.drop n)=dv s.data.toList)∧w'=w)
 case atStart=>exact⟨0,rfl,by omega,by omega,⟨rfl⟩,rfl⟩
 case round=>
  obtain⟨n,rfl,hn,hlt,HA,rfl⟩:=hrel;have hw:IntKind.i64.wrap ((n:Int)+1)=(n:Int)+1:=by simp[j9];omega
  by_cases he:n+1<s.size
  ·have h1:(n:Int)+1<(s.size:Int):=by omega
   by_cases hz:(s[n]'hlt).toNat=48
   ·have HA2:zc (dv (s.data.toList.drop (n+1))=dv s.data.toList):=⟨by rw[←HA.out,drop_zero48 hlt hz]⟩
    have h2:((s[n]'hlt).toNat:Int)=48:=by omega
    clear HA;go_wp2_with fail;go_roundg (gk-1)
    case measure=>omega
    case rel=>exact⟨n+1,by go_num,by omega,by omega,HA2,rfl⟩
   ·have h2:¬((s[n]'hlt).toNat:Int)=48:=by omega
    have HE:=zc.mk ((jM s n HD.out hlt (.inr hz) HA.out).trans HR.out);clear HA;go_wp2_with fail;go_ret;exact⟨by rw[←HE.out];simp,rfl⟩
  ·have h1:¬(n:Int)+1<(s.size:Int):=by omega
   have HE:=zc.mk ((jM s n HD.out hlt (.inl (by omega)) HA.out).trans HR.out)
   clear HA;go_wp2_with fail;go_ret;exact⟨by rw[←HE.out];simp,rfl⟩
theorem qk (n:Nat):n<10^(natS n).size:=by
 have h1:=qt _ (zh n).1.dig;rw[(zh n).2]at h1;exact h1
theorem sub_step {v n m c c' x i:Nat}(h:v+m%10^i=n%10^i+c*10^i)(hx:c+x+m/10^i%10=n/10^i%10+10*c'):(v+x*10^i)+m%10^(i+1)=n%10^(i+1)+c'*10^(i+1):=by
 rw[mod_step,mod_step,Nat.pow_succ];generalize m/10^i%10=b at*;generalize n/10^i%10=a at*;have h2:(c+x+b)*10^i=(a+10*c')*10^i:=by rw[hx]
 generalize m%10^i=p at*;generalize n%10^i=q at*;generalize 10^i=e at*;grind
theorem sub_end {v n m c L:Nat}(h:v+m%10^L=n%10^L+c*10^L)(hn:n<10^L)(hm:m≤n)(hv:v<10^L):v=n-m:=by
 rw[Nat.mod_eq_of_lt hn,Nat.mod_eq_of_lt (by omega)]at h
 cases c with
 |zero=>omega
 |succ c=>
  have:(c+1)*10^L=c*10^L+10^L:=by rw[Nat.add_mul,Nat.one_mul]
  omega
theorem rsub_at (n m:Nat)(hmn:m≤n)(hs:(natS n).size≤1000000):Rt 167 #[.string (natS n),.string (natS m)] (.tuple #[.string (natS (n-m)),.bool true]):=by
 intro w;have hsm:(natS m).size≤1000000:=Nat.le_trans (zr hmn) hs;have H1:=(show Rs _ _ _ from zP n hs)
 have H2:=(show Rs _ _ _ from zP m hsm)
 have H3:=(show Rs _ _ _ from rcmp_w n m hs hsm)
 have hz:¬cmpZ n m<0:=by unfold cmpZ;split;omega;split<;>omega
 have HX:=fun i hi=>(show Rs _ _ _ from rat_w n i hs hi)
 have HY:=fun i hi=>(show Rs _ _ _ from rat_w m i hsm hi)
 have HT:=fun s h1 h2 h3=>(show Rs _ _ _ from rtrim_w s h1 h2 h3)
 have HP:zc (m≤n∧n<10^(natS n).size):=⟨hmn,qk n⟩;have hL0:=qw n;generalize natS n=s at*;generalize natS m=t at*;generalize cmpZ n m=z at*;clear hsm hmn;go_enter Tryz.func167,Tryz.ntmps167
 go_wp2_with(first|(with_reducible refine H1.go ?_)|(with_reducible refine H2.go ?_)|(with_reducible refine H3.go ?_)|((with_reducible refine gate_dst (N:=26) rfl ?_);refine Kd.R_make (Kd.int .u8) (w0:=w) w.heap.size 5 rfl (N:=26) rfl 121 _ _ rfl (s.size:Int) rfl rfl Tryz.underlying121 (.int .u8 0) 1 info5 rfl (by decide) (by omega) 0 (ok:=fun _=>True) (okp:=fun _=>True) rfl (fun _ hk=>hk) trivial (by omega) (by omega) (by first|exact xb _ _|exact ze (xb _ _) _) (by simp) ?_;intro vo wo ho hbo hgo hnew;obtain⟨g,cap,rfl,hg1,hg2,hg3⟩:=Kd.R_form ho (by simp;omega);have HR:=zc.mk ho;have HB:=zc.mk hbo;clear hgo hbo ho hnew hg2 hg3))
 have hN:(List.replicate (s.size:Int).toNat (0:Int)).length=s.size:=by rw[List.length_replicate,xa]
 have HF:=zc.mk (Fil.start s.size _ hN);rw[hN]at HR;try rw[hN]
 generalize List.replicate (s.size:Int).toNat (0:Int)=l0 at*;clear hN H1 H2 H3 hz;go_loopg [7,8] (s.size+1) (fun kq v7 v8 w'=>∃(i c v:Nat) (l:List Int),v7= .int .i64 c∧v8= .int .i64 i∧i+kq=s.size+1∧i≤s.size∧c≤1∧zc (Fil s.size i l v)∧zc (v+m%10^i=n%10^i+c*10^i)∧zc (Kd.R (Kd.int .u8) 5 w' w.heap.size (fun _=>True) (.slice (some ⟨g,0,none⟩) s.size cap) l)∧zc (Below w.heap.size w w'))
 case atStart=>exact⟨0,0,0,l0,rfl,rfl,by omega,by omega,by omega,HF,⟨by simp[Nat.mod_one]⟩,HR,HB⟩
 case round=>
  clear HR HB HF;obtain⟨i,c,v,l,rfl,rfl,hi,hin,hc,HF,HV,HR,HB⟩:=hrel;by_cases hie:i=s.size
  ·subst hie
   obtain⟨q1,q2,q3⟩:=HF.out.whole;have hv:v=n-m:=sub_end HV.out HP.out.2 HP.out.1 (by rw[←q2,←q3];exact qt _ q1)
   have hcv:=own_string (P:=Tryz.prog) Tryz.underlying121 Tryz.underlying5 Tryz.underlying9 (Kd.own_of_R HR.out);have HT2:=HT (strOfNums l) q1 (by omega) (by omega)
   rw[q2,hv]at HT2;clear HV HF HR q1 q2 q3 HT;generalize strOfNums l=sl at*;go_wp2_with(with_reducible refine HT2.go ?_)
   refine bodyPost_ret (results_tmp2 rfl _ _ _) rfl ?_;exact⟨rfl,HB.out⟩
  ·have h1:(i:Int)<(s.size:Int):=by omega
   have hx:=HX i (by omega)
   have hy:=HY i (by omega)
   obtain⟨a,ha⟩:∃a,n/10^i%10=a:=⟨_,rfl⟩;obtain⟨b,hb⟩:∃b,m/10^i%10=b:=⟨_,rfl⟩;have ha9:a≤9:=by omega
   have hb9:b≤9:=by omega
   rw[ha]at hx;rw[hb]at hy;have e1:IntKind.i64.wrap ((a:Int)-(b:Int))=(a:Int)-(b:Int):=by simp[j9];omega
   have e2:IntKind.i64.wrap ((a:Int)-(b:Int)-(c:Int))=(a:Int)-(b:Int)-(c:Int):=by simp[j9];omega
   have e3:IntKind.i64.wrap ((s.size:Int)-1)=(s.size:Int)-1:=by simp[j9];omega
   have e4:IntKind.i64.wrap ((s.size:Int)-1-(i:Int))=((s.size-1-i:Nat):Int):=by simp[j9];omega
   have hj:s.size-1-i<s.size:=by omega
   obtain⟨q0,f0⟩:=Kd.R_celln 0 HR.out ((s.size-1-i:Nat):Int) (by omega) (by omega)
   have HPut:=fun x=>Kd.R_putn HR.out ((s.size-1-i:Nat):Int) x
   have hFP:=HF.out.put (by omega:i<s.size)
   simp only[xa]at q0 f0 HPut;have hss:=fun c' x=>sub_step (c':=c') (x:=x) HV.out
   rw[ha,hb]at hss;obtain⟨j,hjj⟩:∃j,s.size-1-i=j:=⟨_,rfl⟩;rw[hjj]at q0 f0 HPut hFP e4 hj;have i1:(0:Int)≤(j:Int):=by omega
   have i2:(j:Int)<(s.size:Int):=by omega
   have i3:(j:Int).toNat=j:=xa _;by_cases hx0:(a:Int)-(b:Int)-(c:Int)<0
   ·obtain⟨d,hd⟩:∃d:Nat,(a:Int)-(b:Int)-(c:Int)+10=(d:Int):=⟨((a:Int)-(b:Int)-(c:Int)+10).toNat,by omega⟩
    have e5:IntKind.i64.wrap ((a:Int)-(b:Int)-(c:Int)+10)=(d:Int):=by simp[j9];omega
    have e6:IntKind.i64.wrap (48+(d:Int))=48+(d:Int):=by simp[j9];omega
    have e7:IntKind.u8.wrap (48+(d:Int))=48+(d:Int):=by rw[IntKind.wrap_u8];omega
    have HF2:=zc.mk (hFP d (by omega))
    have HV2:=zc.mk (hss 1 d (by omega))
    have HR2:=zc.mk (HPut (48+(d:Int)));have HB2:=zc.mk (bput HB.out hg1 j (.int .u8 (48+(d:Int))));clear HF HV HR HPut hFP hss HB ha hb;go_wp2_with(first|(with_reducible refine hx.go ?_)|(with_reducible refine hy.go ?_))
    go_roundg (gk-1)
    case measure=>omega
    case rel=>exact⟨i+1,1,_,_,rfl,by go_num,by omega,by omega,by omega,HF2,HV2,HR2,HB2⟩
   ·obtain⟨d,hd⟩:∃d:Nat,(a:Int)-(b:Int)-(c:Int)=(d:Int):=⟨((a:Int)-(b:Int)-(c:Int)).toNat,by omega⟩
    have e6:IntKind.i64.wrap (48+(d:Int))=48+(d:Int):=by simp[j9];omega
    have e7:IntKind.u8.wrap (48+(d:Int))=48+(d:Int):=by rw[IntKind.wrap_u8];omega
    have HF2:=zc.mk (hFP d (by omega))
    have HV2:=zc.mk (hss 0 d (by omega))
    have HR2:=zc.mk (HPut (48+(d:Int)));have HB2:=zc.mk (bput HB.out hg1 j (.int .u8 (48+(d:Int))));rw[hd]at e2 hx0;clear HF HV HR HPut hFP hss HB ha hb;go_wp2_with(first|(with_reducible refine hx.go ?_)|(with_reducible refine hy.go ?_))
    go_roundg (gk-1)
    case measure=>omega
    case rel=>exact⟨i+1,0,_,_,rfl,by go_num,by omega,by omega,by omega,HF2,HV2,HR2,HB2⟩
theorem nat0:natS 0=⟨#[48]⟩:=(zh 0).inj isN_0
theorem dig10 (d:Nat)(h:d≤9):(⟨#[48,49,50,51,52,53,54,55,56,57]⟩:xf).extract d (d+1)=⟨#[UInt8.ofNat (48+d)]⟩:=by
 have:d=0∨d=1∨d=2∨d=3∨d=4∨d=5∨d=6∨d=7∨d=8∨d=9:=by omega
 rcases this with rfl|rfl|rfl|rfl|rfl|rfl|rfl|rfl|rfl|rfl<;>rfl
theorem ext1 (s:ByteArray)(i:Nat)(h:i<s.size):(s.extract i (i+1)).data.toList=[s[i]'h]:=by
 rw[ext_toList,List.take_succ_eq_append_getElem (by rw[zv];exact h),List.drop_append_of_le_length (by rw[List.length_take,zv];omega),List.drop_eq_nil_of_le (by rw[List.length_take,zv];omega)]
 rfl
theorem cat_l (a b:ByteArray):(a++b).data.toList=a.data.toList++b.data.toList:=by simp
theorem j5 {a b:List UInt8}(h1:allD a)(h2:allD b):allD (a++b):=fun c hc=>(List.mem_append.1 hc).elim (h1 c) (h2 c)
structure DQ (n:List UInt8) (m i:Nat) (q:ByteArray):Prop where
 all:allD q.data.toList
 len:q.size=i
 val:dv q.data.toList=dv (n.take i)/m
theorem DQ.step {n:List UInt8}{m i:Nat}{q:ByteArray}(h:DQ n m i q)(hm:0<m)(hi:i<n.length)(x d:Nat)(hx:x=10*(dv (n.take i)%m)+((n[i]'hi).toNat-48))(h1:d*m≤x)(h2:x<d*m+m)(hd:d≤9):DQ n m (i+1) (q++(⟨#[UInt8.ofNat (48+d)]⟩:ByteArray))∧dv (n.take (i+1))%m=x-d*m:=by
 obtain⟨a,b,c⟩:=h;have hu:=u8_digit d (by omega)
 have hp:dv (n.take (i+1))=10*dv (n.take i)+((n[i]'hi).toNat-48):=by
  rw[List.take_succ_eq_append_getElem hi,dv_snoc]
 generalize dv (n.take i)=P at*;have hP:=Nat.div_add_mod P m;have e:dv (n.take (i+1))=m*(10*(P/m)+d)+(x-d*m):=by
  rw[hp,Nat.mul_add,Nat.mul_comm m d];have:m*(10*(P/m))=10*(m*(P/m)):=by rw[Nat.mul_left_comm]
  omega
 have hlt:x-d*m<m:=by omega
 refine⟨⟨?_,?_,?_⟩,?_⟩
 ·rw[cat_l]
  refine j5 a fun c hc=>?_
  rw[List.mem_singleton.1 hc,hu];omega
 ·rw[j8,b]
  rfl
 ·rw[cat_l,e,Nat.mul_add_div hm,Nat.div_eq_of_lt hlt]
  show dv (q.data.toList++[UInt8.ofNat (48+d)])=_
  rw[dv_snoc,c,hu];omega
 ·rw[e,Nat.mul_add_mod,Nat.mod_eq_of_lt hlt]
theorem rdiv_at (n m:Nat)(hm0:0<m)(hs:(natS n).size≤100000)(ht:(natS m).size≤100000):Rt 124 #[.string (natS n),.string (natS m)] (.tuple #[.string (natS (n/m)),.string (natS (n%m)),.bool true]):=by
 intro w;have H1:=(show Rs _ _ _ from zP n (by omega))
 have H2:=(show Rs _ _ _ from zP m (by omega))
 have hne:((natS m).toList==([48]:List UInt8))=false:=beq_eq_false_iff_ne.2 (one_ne_zero m (by omega))
 have HC:=fun x h=>(show Rs _ _ _ from rcmp_w x m h (by omega))
 have HS:=fun x h1 h2=>rsub_at x m h1 h2
 have HT:=fun s h1 h2 h3=>(show Rs _ _ _ from rtrim_w s h1 h2 h3)
 have hL0:=qw n;have hD:=(zh n).1.dig;have hV:=(zh n).2;have HB:=zc.mk (xb w.heap.size w);have HM:=zc.mk ht;generalize natS n=s at*;generalize ht2:natS m=t at*;have HQ:zc (DQ s.data.toList m 0 ⟨#[]⟩):=⟨⟨(fun c hc=>by cases hc),rfl,(by show dv []=dv (s.data.toList.take 0)/m;rw[List.take_zero,dv_nil,Nat.zero_div])⟩⟩
 have HDD:=zc.mk (And.intro hD hV);clear hD hV ht;go_enter Tryz.func124,Tryz.ntmps124
 go_wp2_with(first|(with_reducible refine H1.go ?_)|(with_reducible refine H2.go ?_))
 clear H1 H2;go_loopg [7,8,9] (s.size+1) (fun kq v7 v8 v9 w'=>∃(i:Nat) (q:ByteArray),v7= .string q∧v8= .string (natS (dv (s.data.toList.take i)%m))∧v9= .int .i64 i∧i+kq=s.size+1∧i≤s.size∧zc (DQ s.data.toList m i q)∧zc (Below w.heap.size w w'))
 case atStart=>exact⟨0,⟨#[]⟩,rfl,by rw[List.take_zero,dv_nil,Nat.zero_mod,nat0],rfl,by omega,by omega,HQ,HB⟩
 case round=>
  clear HQ HB;obtain⟨i,q,rfl,rfl,rfl,hi,hin,HQ,HB⟩:=hrel;obtain⟨gq,hgq⟩:∃gq,gk=gq:=⟨_,rfl⟩;by_cases hie:i=s.size
  ·subst hie
   have HT2:=HT q HQ.out.all (by rw[HQ.out.len];omega) (by rw[HQ.out.len];omega)
   have hv:=HQ.out.val;have e:s.data.toList.take s.size=s.data.toList:=List.take_of_length_le (xc _);rw[e,HDD.out.2]at hv;rw[hv]at HT2;simp only[e,HDD.out.2];clear hv e HQ HT HS HC;go_wp2_with(with_reducible refine HT2.go ?_)
   refine bodyPost_ret (v:= .tuple #[.string (natS (n/m)),.string (natS (n%m)),.bool true]) (by simp[results,Tryz.f124,go_sem]) rfl ?_
   exact⟨rfl,HB.out⟩
  ·have hlt:i<s.size:=by omega
   have h1:(i:Int)<(s.size:Int):=by omega
   have hw1:IntKind.i64.wrap ((i:Int)+1)=(i:Int)+1:=by simp[j9];omega
   obtain⟨y,hy⟩:∃y,dv (s.data.toList.take i)%m=y:=⟨_,rfl⟩;have hym:y<m:=by rw[←hy];exact Nat.mod_lt _ hm0
   have hys:(natS y).size≤100000:=by
    refine Nat.le_trans (zr (Nat.le_of_lt hym)) ?_;rw[ht2];exact HM.out
   have hdg:=digd s HDD.out.1 i hlt;obtain⟨x,hx⟩:∃x,10*y+((s[i]'hlt).toNat-48)=x:=⟨_,rfl⟩;have hxm:x<10*m:=by omega
   have hxs:(natS x).size≤100001:=by
    have h5:x<10^((natS m).size+1):=by
     have:=qk m;rw[Nat.pow_succ];omega
    have h6:=zH x _ h5 (by omega)
    have e:(natS x).size=(Lib.decDigits x).length:=by show(natS x).data.toList.length=_;rw[zq]
    rw[ht2]at h6;have:=HM.out;omega
   have hcl:(natS y++s.extract i (i+1)).data.toList=(natS y).data.toList++[s[i]'hlt]:=by rw[cat_l,ext1 s i hlt]
   have hcz:(natS y++s.extract i (i+1)).size=(natS y).size+1:=by rw[j8];congr 1;rw[ByteArray.size_extract];omega
   have hes:(s.extract i (i+1)).size=1:=by rw[ByteArray.size_extract];omega
   have HT2:=HT (natS y++s.extract i (i+1)) (by
    rw[hcl];refine j5 (zh y).1.dig fun c hc=>?_
    rw[List.mem_singleton.1 hc];exact hdg) (by omega) (by omega)
   have hcv:dv (natS y++s.extract i (i+1)).data.toList=x:=by rw[hcl,dv_snoc,(zh y).2];exact hx
   rw[hcv]at HT2;have hov:¬9223372036854775807<(natS y).size+(s.extract i (i+1)).size:=by omega
   have hStep:=fun d h2 h3 h4=>HQ.out.step hm0 (show i<s.data.toList.length from hlt) x d (by rw[hy];exact hx.symm) h2 h3 h4
   have hov2:∀d,¬9223372036854775807<q.size+(⟨#[UInt8.ofNat (48+d)]⟩:ByteArray).size:=by
    intro d;rw[HQ.out.len];show¬_<i+1
    omega
   have HStep:=zc.mk hStep;clear hStep hcl hcz hcv hdg hx hys HT HQ;simp only[hy];clear hy;generalize natS y=ys at*;have i1:(0:Int)≤(i:Int):=by omega
   have i2:(i:Int)≤(i:Int)+1:=by omega
   have i3:(i:Int)+1≤(s.size:Int):=by omega
   have i4:((i:Int)+1).toNat=i+1:=by omega
   go_wp2_with(with_reducible refine HT2.go ?_)
   clear HT2 hov;go_loopg [8,10] 11 (fun kq v8 v10 w'=>∃d:Nat,v8= .string (natS (x-d*m))∧v10= .int .i64 d∧d+kq=11∧d≤9∧d*m≤x∧zc (Below w.heap.size w w'))
   case atStart=>exact⟨0,by simp,rfl,by omega,by omega,by omega,HB⟩
   case round=>
    clear HB;obtain⟨d,rfl,rfl,hd,hd9,hdm,HB⟩:=hrel;have hzs:(natS (x-d*m)).size≤1000000:=Nat.le_trans (zr (Nat.sub_le _ _)) (by omega)
    have HC2:=HC (x-d*m) hzs;have i4:(0:Int)≤(d:Int):=by omega
    have hw2:IntKind.i64.wrap ((d:Int)+1)=(d:Int)+1:=by simp[j9];omega
    by_cases hge:m≤x-d*m
    ·have hz:¬cmpZ (x-d*m) m<0:=by unfold cmpZ;split;omega;split<;>omega
     have hz2:(0:Int)≤cmpZ (x-d*m) m:=by omega
     have HS2:=HS (x-d*m) hge hzs;have e:x-d*m-m=x-(d+1)*m:=by rw[Nat.add_mul];omega
     rw[e]at HS2;have hd2:d+1≤9∧(d+1)*m≤x:=by
      have h5:(d+1)*m≤x:=by rw[Nat.add_mul];omega
      refine⟨?_,h5⟩;by_cases h6:d+1≤9
      ·exact h6
      ·have:10*m≤(d+1)*m:=Nat.mul_le_mul_right _ (by omega)
       omega
     clear e hge;generalize cmpZ (x-d*m) m=z at*;generalize natS (x-d*m)=zs at*;go_wp2_with(first|(with_reducible refine HC2.go ?_)|(with_reducible refine HS2.go HB ?_;clear HB;intro w1 HB1 hb1))
     go_roundg (gk-1)
     case measure=>omega
     case rel=>exact⟨d+1,rfl,by go_num,by omega,hd2.1,hd2.2,HB1⟩
    ·have hz2:¬(0:Int)≤cmpZ (x-d*m) m:=by unfold cmpZ;rw[if_pos (by omega)];decide
     obtain⟨k1,k2⟩:=HStep.out d hdm (by omega) hd9
     have hq:=dig10 d hd9;rw[←hq]at k1;have HQ2:=zc.mk k1;have hov3:=hov2 d;rw[←hq]at hov3;clear hq;have i5:(d:Int)≤(d:Int)+1:=by omega
     have i6:(d:Int)+1≤10:=by omega
     have i7:((d:Int)+1).toNat=d+1:=by omega
     clear k1;generalize cmpZ (x-d*m) m=z at*;rw[←k2]at HC2;rw[←k2];clear k2 HStep hov2;go_wp2_with(with_reducible refine HC2.go ?_)
     go_roundg (gq-1)
     case measure=>omega
     case rel=>exact⟨i+1,_,rfl,rfl,by go_num,by omega,by omega,HQ2,HB⟩
theorem rgcd_at (n m:Nat)(hs:(natS n).size≤100000)(ht:(natS m).size≤100000):Rt 93 #[.string (natS n),.string (natS m)] (.string (natS (Nat.gcd n m))):=by
 intro w;have H1:=(show Rs _ _ _ from zP n (by omega))
 have H2:=(show Rs _ _ _ from zP m (by omega))
 have HB:=zc.mk (xb w.heap.size w);obtain⟨g,hg⟩:∃g,Nat.gcd n m=g:=⟨_,rfl⟩;have HI:zc (Nat.gcd n m=g∧(natS n).size≤100000∧(natS m).size≤100000):=⟨hg,hs,ht⟩;rw[hg];clear hg hs ht;go_enter Tryz.func93,Tryz.ntmps93
 go_wp2_with(first|(with_reducible refine H1.go ?_)|(with_reducible refine H2.go ?_))
 clear H1 H2;go_loopg [0,1] (m+1) (fun kq v0 v1 w'=>∃x y:Nat,v0= .string (natS x)∧v1= .string (natS y)∧zc (Nat.gcd x y=g∧(natS x).size≤100000∧(natS y).size≤100000)∧y<kq∧zc (Below w.heap.size w w'))
 case atStart=>exact⟨n,m,rfl,rfl,HI,by omega,HB⟩
 case round=>
  clear HI HB;obtain⟨x,y,rfl,rfl,HI,hlt,HB⟩:=hrel;by_cases hy:y=0
  ·subst hy
   have hz:((natS 0).toList==([48]:List UInt8))=true:=by rw[nat0,ByteArray.toList_eq];rfl
   have hz2:((natS 0).toList !=([48]:List UInt8))=false:=by rw[bne,hz];rfl
   have hg:=HI.out.1;rw[Nat.gcd_zero_right]at hg;subst hg;clear HI;generalize natS 0=zs at*;go_wp2_with fail;go_ret;exact⟨rfl,HB.out⟩
  ·have hz:((natS y).toList==([48]:List UInt8))=false:=beq_eq_false_iff_ne.2 (one_ne_zero y hy)
   have hz2:((natS y).toList !=([48]:List UInt8))=true:=by rw[bne,hz];rfl
   have HD:=rdiv_at x y (by omega) HI.out.2.1 HI.out.2.2
   have hmod:=Nat.mod_lt x (show 0<y by omega)
   have HI2:zc (Nat.gcd y (x%y)=g∧(natS y).size≤100000∧(natS (x%y)).size≤100000):=by
    obtain⟨i1,i2,i3⟩:=HI.out;exact⟨by rw[←i1,Nat.gcd_comm x y,Nat.gcd_rec y x,Nat.gcd_comm],i3,Nat.le_trans (zr (Nat.le_of_lt hmod)) i3⟩
   generalize x%y=z at*;clear HI hy;generalize natS (x/y)=qs at*;go_wp2_with(with_reducible refine HD.go HB ?_;clear HB;intro w1 HB1 hb1)
   go_roundg (gk-1)
   case measure=>omega
   case rel=>exact⟨y,z,by first|rfl|assumption,by first|rfl|assumption,HI2,by omega,HB1⟩
end Go.Proofs.YtjopepfemhckjaaGreatDoor.NW
end
