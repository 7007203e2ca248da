/-
  Part 35 of the proof of parseBlanks_holds: texts of this seat, put together.
-/
import Derived.Test.YtjopepfemhckjaaGreatDoorBk34
set_option linter.unusedVariables false
set_option linter.unusedSimpArgs false
section
set_option maxRecDepth 100000
namespace Go.Proofs.YtjopepfemhckjaaGreatDoor.NW
open Go.Proofs Go.RowKit Go.Shelf Go.Proofs.YtjopepfemhckjaaGreatDoor.PN Go.Proofs.YtjopepfemhckjaaGreatDoorW.PrintWords Go.Proofs.YtjopepfemhckjaaGreatDoor.PParseTells
theorem nat0:natS 0=⟨#[48]⟩:=(natS_isN 0).inj isN_0
theorem dig10 (d:Nat)(h:d≤9):(⟨#[48,49,50,51,52,53,54,55,56,57]⟩:ByteArray).extract d (d+1)=⟨#[UInt8.ofNat (48+d)]⟩:=by
 have:d=0∨d=1∨d=2∨d=3∨d=4∨d=5∨d=6∨d=7∨d=8∨d=9:=by omega
 rcases this with rfl|rfl|rfl|rfl|rfl|rfl|rfl|rfl|rfl|rfl<;>rfl
theorem ext1 (s:ByteArray)(i:Nat)(h:i<s.size):(s.extract i (i+1)).data.toList=[s[i]'h]:=by
 rw[ext_toList,List.take_succ_eq_append_getElem (by rw[ba_len];exact h),List.drop_append_of_le_length (by rw[List.length_take,ba_len];omega),List.drop_eq_nil_of_le (by rw[List.length_take,ba_len];omega)]
 rfl
theorem cat_l (a b:ByteArray):(a++b).data.toList=a.data.toList++b.data.toList:=by simp
theorem allD_app {a b:List UInt8}(h1:allD a)(h2:allD b):allD (a++b):=fun c hc=>(List.mem_append.1 hc).elim (h1 c) (h2 c)
structure DQ (n:List UInt8) (m i:Nat) (q:ByteArray):Prop where
 all:allD q.data.toList
 len:q.size=i
 val:dv q.data.toList=dv (n.take i)/m
theorem DQ.step {n:List UInt8}{m i:Nat}{q:ByteArray}(h:DQ n m i q)(hm:0<m)(hi:i<n.length)(x d:Nat)(hx:x=10*(dv (n.take i)%m)+((n[i]'hi).toNat-48))(h1:d*m≤x)(h2:x<d*m+m)(hd:d≤9):DQ n m (i+1) (q++(⟨#[UInt8.ofNat (48+d)]⟩:ByteArray))∧dv (n.take (i+1))%m=x-d*m:=by
 obtain⟨a,b,c⟩:=h;have hu:=u8_digit d (by omega)
 have hp:dv (n.take (i+1))=10*dv (n.take i)+((n[i]'hi).toNat-48):=by
  rw[List.take_succ_eq_append_getElem hi,dv_snoc]
 generalize dv (n.take i)=P at*;have hP:=Nat.div_add_mod P m;have e:dv (n.take (i+1))=m*(10*(P/m)+d)+(x-d*m):=by
  rw[hp,Nat.mul_add,Nat.mul_comm m d];have:m*(10*(P/m))=10*(m*(P/m)):=by rw[Nat.mul_left_comm]
  omega
 have hlt:x-d*m<m:=by omega
 refine⟨⟨?_,?_,?_⟩,?_⟩
 ·rw[cat_l]
  refine allD_app a fun c hc=>?_
  rw[List.mem_singleton.1 hc,hu];omega
 ·rw[ByteArray.size_append,b]
  rfl
 ·rw[cat_l,e,Nat.mul_add_div hm,Nat.div_eq_of_lt hlt]
  show dv (q.data.toList++[UInt8.ofNat (48+d)])=_
  rw[dv_snoc,c,hu];omega
 ·rw[e,Nat.mul_add_mod,Nat.mod_eq_of_lt hlt]
set_option maxHeartbeats 8000000 in
theorem rdiv_at (n m:Nat)(hm0:0<m)(hs:(natS n).size≤100000)(ht:(natS m).size≤100000):Rt 124 #[.string (natS n),.string (natS m)] (.tuple #[.string (natS (n/m)),.string (natS (n%m)),.bool true]):=by
 intro w;have H1:=(show Rs _ _ _ from rmay_nat n (by omega))
 have H2:=(show Rs _ _ _ from rmay_nat m (by omega))
 have hne:((natS m).toList==([48]:List UInt8))=false:=beq_eq_false_iff_ne.2 (one_ne_zero m (by omega))
 have HC:=fun x h=>(show Rs _ _ _ from rcmp_w x m h (by omega))
 have HS:=fun x h1 h2=>rsub_at x m h1 h2
 have HT:=fun s h1 h2 h3=>(show Rs _ _ _ from rtrim_w s h1 h2 h3)
 have hL0:=natS_pos n;have hD:=(natS_isN n).1.dig;have hV:=(natS_isN n).2;have HB:=Aside0.mk (Below.refl w.heap.size w);have HM:=Aside0.mk ht;generalize natS n=s at*;generalize ht2:natS m=t at*;have HQ:Aside0 (DQ s.data.toList m 0 ⟨#[]⟩):=⟨⟨(fun c hc=>by cases hc),rfl,(by show dv []=dv (s.data.toList.take 0)/m;rw[List.take_zero,dv_nil,Nat.zero_div])⟩⟩
 have HDD:=Aside0.mk (And.intro hD hV);clear hD hV ht;go_enter Tryz.func124,Tryz.ntmps124
 go_wp2_with(first|(with_reducible refine H1.go ?_)|(with_reducible refine H2.go ?_))
 clear H1 H2;go_loopg [7,8,9] (s.size+1) (fun kq v7 v8 v9 w'=>∃(i:Nat) (q:ByteArray),v7= .string q∧v8= .string (natS (dv (s.data.toList.take i)%m))∧v9= .int .i64 i∧i+kq=s.size+1∧i≤s.size∧Aside0 (DQ s.data.toList m i q)∧Aside0 (Below w.heap.size w w'))
 case atStart=>exact⟨0,⟨#[]⟩,rfl,by rw[List.take_zero,dv_nil,Nat.zero_mod,nat0],rfl,by omega,by omega,HQ,HB⟩
 case round=>
  clear HQ HB;obtain⟨i,q,rfl,rfl,rfl,hi,hin,HQ,HB⟩:=hrel;obtain⟨gq,hgq⟩:∃gq,gk=gq:=⟨_,rfl⟩;by_cases hie:i=s.size
  ·subst hie
   have HT2:=HT q HQ.out.all (by rw[HQ.out.len];omega) (by rw[HQ.out.len];omega)
   have hv:=HQ.out.val;have e:s.data.toList.take s.size=s.data.toList:=List.take_of_length_le (Nat.le_refl _);rw[e,HDD.out.2]at hv;rw[hv]at HT2;simp only[e,HDD.out.2];clear hv e HQ HT HS HC;go_wp2_with(with_reducible refine HT2.go ?_)
   refine bodyPost_ret (v:= .tuple #[.string (natS (n/m)),.string (natS (n%m)),.bool true]) (by simp[results,Tryz.f124,go_sem]) rfl ?_
   exact⟨rfl,HB.out⟩
  ·have hlt:i<s.size:=by omega
   have h1:(i:Int)<(s.size:Int):=by omega
   have hw1:IntKind.i64.wrap ((i:Int)+1)=(i:Int)+1:=by simp[IntKind.wrap_i64];omega
   obtain⟨y,hy⟩:∃y,dv (s.data.toList.take i)%m=y:=⟨_,rfl⟩;have hym:y<m:=by rw[←hy];exact Nat.mod_lt _ hm0
   have hys:(natS y).size≤100000:=by
    refine Nat.le_trans (dec_len_mono (Nat.le_of_lt hym)) ?_;rw[ht2];exact HM.out
   have hdg:=digd s HDD.out.1 i hlt;obtain⟨x,hx⟩:∃x,10*y+((s[i]'hlt).toNat-48)=x:=⟨_,rfl⟩;have hxm:x<10*m:=by omega
   have hxs:(natS x).size≤100001:=by
    have h5:x<10^((natS m).size+1):=by
     have:=natS_below m;rw[Nat.pow_succ];omega
    have h6:=dec_len x _ h5 (by omega)
    have e:(natS x).size=(Lib.decDigits x).length:=by show(natS x).data.toList.length=_;rw[natS_list]
    rw[ht2]at h6;have:=HM.out;omega
   have hcl:(natS y++s.extract i (i+1)).data.toList=(natS y).data.toList++[s[i]'hlt]:=by rw[cat_l,ext1 s i hlt]
   have hcz:(natS y++s.extract i (i+1)).size=(natS y).size+1:=by rw[ByteArray.size_append];congr 1;rw[ByteArray.size_extract];omega
   have hes:(s.extract i (i+1)).size=1:=by rw[ByteArray.size_extract];omega
   have HT2:=HT (natS y++s.extract i (i+1)) (by
    rw[hcl];refine allD_app (natS_isN y).1.dig fun c hc=>?_
    rw[List.mem_singleton.1 hc];exact hdg) (by omega) (by omega)
   have hcv:dv (natS y++s.extract i (i+1)).data.toList=x:=by rw[hcl,dv_snoc,(natS_isN y).2];exact hx
   rw[hcv]at HT2;have hov:¬9223372036854775807<(natS y).size+(s.extract i (i+1)).size:=by omega
   have hStep:=fun d h2 h3 h4=>HQ.out.step hm0 (show i<s.data.toList.length from hlt) x d (by rw[hy];exact hx.symm) h2 h3 h4
   have hov2:∀d,¬9223372036854775807<q.size+(⟨#[UInt8.ofNat (48+d)]⟩:ByteArray).size:=by
    intro d;rw[HQ.out.len];show¬_<i+1
    omega
   have HStep:=Aside0.mk hStep;clear hStep hcl hcz hcv hdg hx hys HT HQ;simp only[hy];clear hy;generalize natS y=ys at*;have i1:(0:Int)≤(i:Int):=by omega
   have i2:(i:Int)≤(i:Int)+1:=by omega
   have i3:(i:Int)+1≤(s.size:Int):=by omega
   have i4:((i:Int)+1).toNat=i+1:=by omega
   go_wp2_with(with_reducible refine HT2.go ?_)
   clear HT2 hov;go_loopg [8,10] 11 (fun kq v8 v10 w'=>∃d:Nat,v8= .string (natS (x-d*m))∧v10= .int .i64 d∧d+kq=11∧d≤9∧d*m≤x∧Aside0 (Below w.heap.size w w'))
   case atStart=>exact⟨0,by simp,rfl,by omega,by omega,by omega,HB⟩
   case round=>
    clear HB;obtain⟨d,rfl,rfl,hd,hd9,hdm,HB⟩:=hrel;have hzs:(natS (x-d*m)).size≤1000000:=Nat.le_trans (dec_len_mono (Nat.sub_le _ _)) (by omega)
    have HC2:=HC (x-d*m) hzs;have i4:(0:Int)≤(d:Int):=by omega
    have hw2:IntKind.i64.wrap ((d:Int)+1)=(d:Int)+1:=by simp[IntKind.wrap_i64];omega
    by_cases hge:m≤x-d*m
    ·have hz:¬cmpZ (x-d*m) m<0:=by unfold cmpZ;split;omega;split<;>omega
     have hz2:(0:Int)≤cmpZ (x-d*m) m:=by omega
     have HS2:=HS (x-d*m) hge hzs;have e:x-d*m-m=x-(d+1)*m:=by rw[Nat.add_mul];omega
     rw[e]at HS2;have hd2:d+1≤9∧(d+1)*m≤x:=by
      have h5:(d+1)*m≤x:=by rw[Nat.add_mul];omega
      refine⟨?_,h5⟩;by_cases h6:d+1≤9
      ·exact h6
      ·have:10*m≤(d+1)*m:=Nat.mul_le_mul_right _ (by omega)
       omega
     clear e hge;generalize cmpZ (x-d*m) m=z at*;generalize natS (x-d*m)=zs at*;go_wp2_with(first|(with_reducible refine HC2.go ?_)|(with_reducible refine HS2.go HB ?_;clear HB;intro w1 HB1 hb1))
     go_roundg (gk-1)
     case measure=>omega
     case rel=>exact⟨d+1,rfl,by go_num,by omega,hd2.1,hd2.2,HB1⟩
    ·have hz2:¬(0:Int)≤cmpZ (x-d*m) m:=by unfold cmpZ;rw[if_pos (by omega)];decide
     obtain⟨k1,k2⟩:=HStep.out d hdm (by omega) hd9
     have hq:=dig10 d hd9;rw[←hq]at k1;have HQ2:=Aside0.mk k1;have hov3:=hov2 d;rw[←hq]at hov3;clear hq;have i5:(d:Int)≤(d:Int)+1:=by omega
     have i6:(d:Int)+1≤10:=by omega
     have i7:((d:Int)+1).toNat=d+1:=by omega
     clear k1;generalize cmpZ (x-d*m) m=z at*;rw[←k2]at HC2;rw[←k2];clear k2 HStep hov2;go_wp2_with(with_reducible refine HC2.go ?_)
     go_roundg (gq-1)
     case measure=>omega
     case rel=>exact⟨i+1,_,rfl,rfl,by go_num,by omega,by omega,HQ2,HB⟩
set_option maxHeartbeats 4000000 in
theorem rgcd_at (n m:Nat)(hs:(natS n).size≤100000)(ht:(natS m).size≤100000):Rt 93 #[.string (natS n),.string (natS m)] (.string (natS (Nat.gcd n m))):=by
 intro w;have H1:=(show Rs _ _ _ from rmay_nat n (by omega))
 have H2:=(show Rs _ _ _ from rmay_nat m (by omega))
 have HB:=Aside0.mk (Below.refl w.heap.size w);obtain⟨g,hg⟩:∃g,Nat.gcd n m=g:=⟨_,rfl⟩;have HI:Aside0 (Nat.gcd n m=g∧(natS n).size≤100000∧(natS m).size≤100000):=⟨hg,hs,ht⟩;rw[hg];clear hg hs ht;go_enter Tryz.func93,Tryz.ntmps93
 go_wp2_with(first|(with_reducible refine H1.go ?_)|(with_reducible refine H2.go ?_))
 clear H1 H2;go_loopg [0,1] (m+1) (fun kq v0 v1 w'=>∃x y:Nat,v0= .string (natS x)∧v1= .string (natS y)∧Aside0 (Nat.gcd x y=g∧(natS x).size≤100000∧(natS y).size≤100000)∧y<kq∧Aside0 (Below w.heap.size w w'))
 case atStart=>exact⟨n,m,rfl,rfl,HI,by omega,HB⟩
 case round=>
  clear HI HB;obtain⟨x,y,rfl,rfl,HI,hlt,HB⟩:=hrel;by_cases hy:y=0
  ·subst hy
   have hz:((natS 0).toList==([48]:List UInt8))=true:=by rw[nat0,ByteArray.toList_eq];rfl
   have hz2:((natS 0).toList !=([48]:List UInt8))=false:=by rw[bne,hz];rfl
   have hg:=HI.out.1;rw[Nat.gcd_zero_right]at hg;subst hg;clear HI;generalize natS 0=zs at*;go_wp2_with fail;go_ret;exact⟨rfl,HB.out⟩
  ·have hz:((natS y).toList==([48]:List UInt8))=false:=beq_eq_false_iff_ne.2 (one_ne_zero y hy)
   have hz2:((natS y).toList !=([48]:List UInt8))=true:=by rw[bne,hz];rfl
   have HD:=rdiv_at x y (by omega) HI.out.2.1 HI.out.2.2
   have hmod:=Nat.mod_lt x (show 0<y by omega)
   have HI2:Aside0 (Nat.gcd y (x%y)=g∧(natS y).size≤100000∧(natS (x%y)).size≤100000):=by
    obtain⟨i1,i2,i3⟩:=HI.out;exact⟨by rw[←i1,Nat.gcd_comm x y,Nat.gcd_rec y x,Nat.gcd_comm],i3,Nat.le_trans (dec_len_mono (Nat.le_of_lt hmod)) i3⟩
   generalize x%y=z at*;clear HI hy;generalize natS (x/y)=qs at*;go_wp2_with(with_reducible refine HD.go HB ?_;clear HB;intro w1 HB1 hb1)
   go_roundg (gk-1)
   case measure=>omega
   case rel=>exact⟨y,z,by first|rfl|assumption,by first|rfl|assumption,HI2,by omega,HB1⟩
def cv:List Int→Nat
 |[]=>0
 |x::l=>x.toNat+10*cv l
theorem RI1.lt {W:World}{base g n c:Nat}{xs:List Int}(h:RI1 W base g (.slice (some ⟨g,0,none⟩) n c) xs):g<W.heap.size:=by
 obtain⟨inner,ho⟩:=Kd.R_own h;exact own_lt ho g rfl
theorem cv_set:∀(l:List Int) (j:Nat) (p:Nat),j<l.length→0≤rd l (j:Int)→cv (l.set j (rd l (j:Int)+(p:Int)))=cv l+p*10^j
 |[],j,p,h,_=>absurd h (by simp)
 |x::l,0,p,_,h0=>by
  have e:rd (x::l) ((0:Nat):Int)=x:=rfl;rw[e]at h0 ⊢;show(x+(p:Int)).toNat+10*cv l=x.toNat+10*cv l+p*10^0
  omega
 |x::l,j+1,p,h,h0=>by
  have e:rd (x::l) ((j+1:Nat):Int)=rd l (j:Int):=rfl;rw[e]at h0 ⊢;have ih:=cv_set l j p (by simpa using h) h0
  show x.toNat+10*cv (l.set j (rd l (j:Int)+(p:Int)))=x.toNat+10*cv l+p*10^(j+1)
  rw[ih,Nat.pow_succ];generalize 10^j=e;grind
theorem cv_drop (l:List Int)(i:Nat)(h:i<l.length):cv (l.drop i)=(rd l (i:Int)).toNat+10*cv (l.drop (i+1)):=by
 rw[drop_at l i h];rfl
theorem rd_put (l:List Int)(j:Nat)(x:Int)(i:Nat)(h:j<l.length):rd (l.set j x) (i:Int)=if i=j then x else rd l (i:Int):=by
 unfold rd;rw[Int.toNat_natCast,List.getD_eq_getElem?_getD,List.getD_eq_getElem?_getD];by_cases he:i=j
 ·subst he
  rw[if_pos rfl,List.getElem?_set_self h];rfl
 ·rw[if_neg he,List.getElem?_set_ne (fun e=>he e.symm)]
structure CB (N i k:Nat) (l:List Int):Prop where
 len:l.length=N
 lo:∀j:Nat,0≤rd l (j:Int)
 hi:∀j:Nat,rd l (j:Int)≤81*(i:Int)+(if j<i+k then 81 else 0)
theorem CB.step {N i k:Nat}{l:List Int}(h:CB N i k l)(hN:i+k<N)(p:Nat)(hp:p≤81):CB N i (k+1) (l.set (i+k) (rd l ((i+k:Nat):Int)+(p:Int))):=by
 obtain⟨h1,h2,h3⟩:=h;refine⟨by simp[h1],fun j=>?_,fun j=>?_⟩
 ·rw[rd_put _ _ _ _ (by omega)]
  have:=h2 j;have:=h2 (i+k);split<;>omega
 ·rw[rd_put _ _ _ _ (by omega)]
  have a:=h3 j;have b:=h3 (i+k);rw[if_neg (by omega)]at b
  by_cases he:j=i+k
  ·rw[if_pos he,if_pos (by omega)]
   omega
  ·rw[if_neg he]
   by_cases hl:j<i+k
   ·rw[if_pos hl]at a
    rw[if_pos (by omega)]
    exact a
   ·rw[if_neg hl]at a
    rw[if_neg (by omega)]
    exact a
theorem CB.next {N i k:Nat}{l:List Int}(h:CB N i k l):CB N (i+1) 0 l:=by
 refine⟨h.len,h.lo,fun j=>?_⟩
 have:=h.hi j;split at this<;>split<;>omega
theorem CB.cell {N i k:Nat}{l:List Int}(h:CB N i k l)(j:Nat):0≤rd l (j:Int)∧rd l (j:Int)≤81*(i:Int)+81:=by
 have:=h.hi j;have:=h.lo j;split at* <;>omega
theorem mul_cell {c n m i k a b:Nat}(h:c=(n%10^i)*m+a*10^i*(m%10^k))(hb:m/10^k%10=b):c+a*b*10^(i+k)=(n%10^i)*m+a*10^i*(m%10^(k+1)):=by
 rw[mod_step m k,hb,h,Nat.pow_add];generalize 10^i=e;generalize 10^k=f;grind
theorem mul_line {c n m i a L:Nat}(h:c=(n%10^i)*m+a*10^i*(m%10^L))(ha:n/10^i%10=a)(hm:m<10^L):c=(n%10^(i+1))*m:=by
 rw[mod_step n i,ha,h,Nat.mod_eq_of_lt hm];generalize 10^i=e;grind
theorem mul_out {v c x y i r:Nat}(h:v+(c+(x+10*y))*10^i=r):(v+(x+c)%10*10^i)+((x+c)/10+y)*10^(i+1)=r:=by
 have e:=Nat.div_add_mod (x+c) 10;generalize (x+c)%10=s at*;generalize (x+c)/10=t at*;rw[←h,Nat.pow_succ];generalize 10^i=f at*;have:(x+c)*f=(10*t+s)*f:=by rw[e]
 grind
theorem mul_fin {v c r N:Nat}(h:v+c*10^N=r)(hr:r<10^N)(hv:v<10^N):v=r:=by
 cases c with
 |zero=>omega
 |succ c=>
  have:(c+1)*10^N=c*10^N+10^N:=by rw[Nat.add_mul,Nat.one_mul]
  omega
set_option maxHeartbeats 8000000 in
theorem rmul1_at (n m:Nat)(hs:(natS n).size≤100000)(ht:(natS m).size≤100000):Rt 170 #[.string (natS n),.string (natS m)] (.string (natS (n*m))):=by
 intro w;have H1:=(show Rs _ _ _ from rmay_nat n (by omega))
 have H2:=(show Rs _ _ _ from rmay_nat m (by omega))
 have HX:=fun i hi=>(show Rs _ _ _ from rat_w n i (by omega) hi)
 have HY:=fun i hi=>(show Rs _ _ _ from rat_w m i (by omega) hi)
 have HT:=fun s h1 h2 h3=>(show Rs _ _ _ from rtrim_w s h1 h2 h3)
 have hL0:=natS_pos n;have HP:Aside0 (n<10^(natS n).size∧m<10^(natS m).size):=⟨natS_below n,natS_below m⟩;generalize natS n=s at*;generalize natS m=t at*;obtain⟨M,hM⟩:∃M,s.size+t.size=M:=⟨_,rfl⟩;have e1:IntKind.i64.wrap ((s.size:Int)+(t.size:Int))=(M:Int):=by simp[IntKind.wrap_i64];omega
 have e2:IntKind.i64.wrap ((M:Int)+1)=((M+1:Nat):Int):=by simp[IntKind.wrap_i64];omega
 go_enter Tryz.func170,Tryz.ntmps170
 go_wp2_with(first|(with_reducible refine H1.go ?_)|(with_reducible refine H2.go ?_)|((with_reducible refine gate_dst (N:=28) rfl ?_);refine Kd.R_make (Kd.int .i64) (w0:=w) w.heap.size 3 rfl (N:=28) rfl 40 _ _ rfl ((M+1:Nat):Int) rfl rfl Tryz.underlying40 (.int .i64 0) 8 info3 rfl (by decide) (by omega) 0 (ok:=fun _=>True) (okp:=fun _=>True) rfl (fun _ hk=>hk) trivial (by omega) (by omega) (by first|exact Below.refl _ _|exact pw_below_drewN (Below.refl _ _) _) (by simp) ?_;intro vo wo ho hbo hgo hnew;obtain⟨g,hg1,hg2⟩:=hnew;have r1:=RI1.of ho hg1;obtain⟨cap,rfl,hcap⟩:=r1.form hg1;clear hg1 ho;have HR:=Aside0.mk r1;have HB:=Aside0.mk hbo;clear r1 hgo hbo))
 have hN:(List.replicate ((M+1:Nat):Int).toNat (0:Int)).length=M+1:=by rw[List.length_replicate,Int.toNat_natCast]
 have hz0:∀j:Nat,rd (List.replicate ((M+1:Nat):Int).toNat (0:Int)) (j:Int)=0:=fun j=>by
  unfold rd;rw[Int.toNat_natCast,List.getD_eq_getElem?_getD,List.getElem?_replicate];split<;>rfl
 have HC0:Aside0 (CB (M+1) 0 0 (List.replicate ((M+1:Nat):Int).toNat (0:Int))):=⟨⟨hN,fun j=>by rw[hz0];omega,fun j=>by rw[hz0];split<;>omega⟩⟩
 have HV0:Aside0 (cv (List.replicate ((M+1:Nat):Int).toNat (0:Int))=(n%10^0)*m):=⟨by
  rw[Nat.pow_zero,Nat.mod_one,Nat.zero_mul];generalize ((M+1:Nat):Int).toNat=q;induction q with
  |zero=>rfl
  |succ q ih=>rw[List.replicate_succ];show 0+10*cv _=0;omega⟩
 rw[hN]at HR hcap;try rw[hN]
 generalize List.replicate ((M+1:Nat):Int).toNat (0:Int)=l0 at*;clear hN hz0 H1 H2 e2;have hg2':w.heap.size≤g:=by first|exact hg2|simpa using hg2
 go_loopg [7] (s.size+1) (fun kq v7 w'=>∃(i:Nat) (l:List Int),v7= .int .i64 i∧i+kq=s.size+1∧i≤s.size∧Aside0 (CB (M+1) i 0 l)∧Aside0 (cv l=(n%10^i)*m)∧Aside0 (RI1 w' w.heap.size g (.slice (some ⟨g,0,none⟩) (M+1) cap) l)∧Aside0 (Below w.heap.size w w'))
 case atStart=>exact⟨0,l0,rfl,by omega,by omega,HC0,HV0,HR,HB⟩
 case round=>
  clear HC0 HV0 HR HB;obtain⟨i,l,rfl,hi,hin,HC,HV,HR,HB⟩:=hrel;obtain⟨gq,hgq⟩:∃gq,gk=gq:=⟨_,rfl⟩;by_cases hie:i=s.size
  ·subst hie
   have HV1:Aside0 (cv l=n*m):=⟨by rw[HV.out,Nat.mod_eq_of_lt HP.out.1]⟩
   have HC1:=Aside0.mk (fun j=>HC.out.cell j)
   have hl:=HC.out.len;have HPP:Aside0 (n*m<10^M):=⟨by rw[←hM,Nat.pow_add];exact Nat.mul_lt_mul_of_lt_of_lt HP.out.1 HP.out.2⟩
   clear HV HC HX HY;have hMp:0<M:=by omega
   go_wp2_with((with_reducible refine gate_dst (N:=57) rfl ?_);refine Kd.R_make (Kd.int .u8) (w0:=w) w.heap.size 5 rfl (N:=57) rfl 121 _ _ rfl (M:Int) rfl rfl Tryz.underlying121 (.int .u8 0) 1 info5 rfl (by decide) (by omega) 0 (ok:=fun k=>k≠g) (okp:=fun _=>False) rfl (fun _ hk=>hk.elim) (by have:=HR.out.lt;omega) (by omega) (by omega) HB.out HB.out.size ?_;intro vo2 wo2 ho2 hbo2 hgo2 hnew2;obtain⟨g2,cap2,rfl,hq1,hq2,hq3⟩:=Kd.R_form ho2 (by simp;omega);have hne:g2≠g:=ho2.1 g2 rfl;have HO:=Aside0.mk ho2;have HR2:=Aside0.mk (HR.out.grown hgo2 (fun r e=>by cases e));have HB2:=Aside0.mk hbo2;clear hgo2 hbo2 ho2 hnew2 hq2 hq3 HR HB)
   have hN2:(List.replicate (M:Int).toNat (0:Int)).length=M:=by rw[List.length_replicate,Int.toNat_natCast]
   have HF:=Aside0.mk (Fil.start M _ hN2);rw[hN2]at HO;try rw[hN2]
   generalize List.replicate (M:Int).toNat (0:Int)=lo at*;clear hN2;go_loopg [10,11] (M+1) (fun kq v10 v11 w'=>∃(j c v:Nat) (l2:List Int),v10= .int .i64 c∧v11= .int .i64 j∧j+kq=M+1∧j≤M∧c≤1000000000∧Aside0 (Fil M j l2 v)∧Aside0 (v+(c+cv (l.drop j))*10^j=n*m)∧Aside0 (Kd.R (Kd.int .u8) 5 w' w.heap.size (fun k=>k≠g) (.slice (some ⟨g2,0,none⟩) M cap2) l2)∧Aside0 (RI1 w' w.heap.size g (.slice (some ⟨g,0,none⟩) (M+1) cap) l)∧Aside0 (Below w.heap.size w w'))
   case atStart=>exact⟨0,0,0,lo,rfl,rfl,by omega,by omega,by omega,HF,⟨by rw[List.drop_zero,HV1.out];simp⟩,HO,HR2,HB2⟩
   case round=>
    clear HF HO HR2 HB2;obtain⟨j,c,v,l2,rfl,rfl,hj,hjM,hc,HF,HV,HO,HR,HB⟩:=hrel;by_cases hje:j=M
    ·subst hje
     obtain⟨q1,q2,q3⟩:=HF.out.whole;have hv:v=n*m:=mul_fin HV.out HPP.out (by rw[←q2,←q3];exact dv_lt _ q1)
     have hcv:=own_string (P:=Tryz.prog) Tryz.underlying121 Tryz.underlying5 Tryz.underlying9 (Kd.own_of_R HO.out);have HT2:=HT (strOfNums l2) q1 (by omega) (by omega)
     rw[q2,hv]at HT2;clear HV HF HO HR q1 q2 q3 HT;generalize strOfNums l2=sl at*;go_wp2_with(with_reducible refine HT2.go ?_)
     go_ret;exact⟨rfl,HB.out⟩
    ·have h1:(j:Int)<(M:Int):=by omega
     obtain⟨x0,hx0⟩:∃x0,rd l (j:Int)=x0:=⟨_,rfl⟩;have hcl:=HC1.out j;rw[hx0]at hcl;have q0:=HR.out.cell j (by omega)
     rw[hx0]at q0;obtain⟨x,rfl⟩:=Int.eq_ofNat_of_zero_le hcl.1;have hx8:x≤81*100000+81:=by omega
     obtain⟨z,hz⟩:∃z,x+c=z:=⟨_,rfl⟩;have e4:IntKind.i64.wrap ((x:Int)+(c:Int))=(z:Int):=by simp[IntKind.wrap_i64];omega
     have e5:(z:Int).tmod 10=((z%10:Nat):Int):=by rw[Int.tmod_eq_emod_of_nonneg (by omega)];omega
     have e6:(z:Int).tdiv 10=((z/10:Nat):Int):=by rw[Int.tdiv_eq_ediv_of_nonneg (by omega)];omega
     have e3:IntKind.i64.wrap ((M:Int)-1)=(M:Int)-1:=by simp[IntKind.wrap_i64];omega
     have e7:IntKind.i64.wrap ((M:Int)-1-(j:Int))=((M-1-j:Nat):Int):=by simp[IntKind.wrap_i64];omega
     have HV2:=HV.out;rw[cv_drop l j (by omega),hx0,Int.toNat_natCast]at HV2
     have HV3:=mul_out HV2;rw[hz]at HV3;obtain⟨d,hd⟩:∃d,z%10=d:=⟨_,rfl⟩;obtain⟨u,hu⟩:∃u,z/10=u:=⟨_,rfl⟩;have hd9:d≤9:=by omega
     have hu9:u≤1000000000:=by omega
     rw[hd]at e5 HV3;rw[hu]at e6 HV3;have e8:IntKind.i64.wrap (48+(d:Int))=48+(d:Int):=by simp[IntKind.wrap_i64];omega
     have e9:IntKind.u8.wrap (48+(d:Int))=48+(d:Int):=by rw[IntKind.wrap_u8];omega
     have e10:IntKind.i64.wrap (d:Int)=(d:Int):=by simp[IntKind.wrap_i64];omega
     have e11:IntKind.i64.wrap (u:Int)=(u:Int):=by simp[IntKind.wrap_i64];omega
     obtain⟨p0,f0⟩:=Kd.R_celln 0 HO.out ((M-1-j:Nat):Int) (by omega) (by omega)
     have HO2:=Aside0.mk (Kd.R_putn HO.out ((M-1-j:Nat):Int) (48+(d:Int)));have HF2:=Aside0.mk (HF.out.put (by omega:j<M) d (by omega))
     have HR2:=Aside0.mk (HR.out.far (p:=⟨g2,M-1-j,none⟩) (fun e=>hne e.symm) (.int .u8 (48+(d:Int))))
     have HB2:=Aside0.mk (bput HB.out hq1 (M-1-j) (.int .u8 (48+(d:Int))));simp only[Int.toNat_natCast]at p0 f0 HO2;have HV4:=Aside0.mk HV3;obtain⟨y,hy⟩:∃y,M-1-j=y:=⟨_,rfl⟩;rw[hy]at p0 f0 HO2 HF2 HR2 HB2 e7;have i1:(0:Int)≤(y:Int):=by omega
     have i2:(y:Int)<(M:Int):=by omega
     have i3:(y:Int).toNat=y:=Int.toNat_natCast _;have i4:(0:Int)≤(j:Int):=by omega
     have i5:(j:Int)<((M+1:Nat):Int):=by omega
     have i6:(j:Int).toNat=j:=Int.toNat_natCast _;clear HV2 HV3 HV HF HO HR HB hd hu hy hx0 hz;go_wp2_with fail;go_roundg (gk-1)
     case measure=>omega
     case rel=>exact⟨j+1,u,_,_,rfl,by go_num,by omega,by omega,hu9,HF2,HV4,HO2,HR2,HB2⟩
  ·have h1:(i:Int)<(s.size:Int):=by omega
   have hx:=HX i (by omega)
   obtain⟨a,ha⟩:∃a,n/10^i%10=a:=⟨_,rfl⟩;have ha9:a≤9:=by omega
   have HAA:=Aside0.mk ha;rw[ha]at hx;clear ha;have HV2:Aside0 (cv l=(n%10^i)*m+a*10^i*(m%10^0)):=⟨by rw[HV.out];simp[Nat.mod_one]⟩
   clear HV;go_wp2_with fail;go_loopg [8] (t.size+1) (fun kq v8 w'=>∃(k:Nat) (l:List Int),v8= .int .i64 k∧k+kq=t.size+1∧k≤t.size∧Aside0 (CB (M+1) i k l)∧Aside0 (cv l=(n%10^i)*m+a*10^i*(m%10^k))∧Aside0 (RI1 w' w.heap.size g (.slice (some ⟨g,0,none⟩) (M+1) cap) l)∧Aside0 (Below w.heap.size w w'))
   case atStart=>exact⟨0,l,rfl,by omega,by omega,HC,HV2,HR,HB⟩
   case round=>
    clear HC HV2 HR HB;obtain⟨k,l2,rfl,hk,hkt,HC,HV,HR,HB⟩:=hrel;by_cases hke:k=t.size
    ·subst hke
     have HV3:=Aside0.mk (mul_line HV.out HAA.out HP.out.2);have HC3:=Aside0.mk HC.out.next;clear HV HC;go_wp2_with fail;go_roundg (gq-1)
     case measure=>omega
     case rel=>exact⟨i+1,l2,by go_num,by omega,by omega,HC3,HV3,HR,HB⟩
    ·have h2:(k:Int)<(t.size:Int):=by omega
     have hy:=HY k (by omega)
     obtain⟨b,hb⟩:∃b,m/10^k%10=b:=⟨_,rfl⟩;have hb9:b≤9:=by omega
     rw[hb]at hy;obtain⟨z0,hz0⟩:∃z0,rd l2 ((i+k:Nat):Int)=z0:=⟨_,rfl⟩;have hcl:=HC.out.cell (i+k);rw[hz0]at hcl;have q0:=HR.out.cell (i+k) (by omega)
     rw[hz0]at q0;have e4:IntKind.i64.wrap ((i:Int)+(k:Int))=((i+k:Nat):Int):=by simp[IntKind.wrap_i64];omega
     obtain⟨p,hp⟩:∃p,a*b=p:=⟨_,rfl⟩;have hp81:p≤81:=by rw[←hp];exact Nat.mul_le_mul ha9 hb9
     have e5:IntKind.i64.wrap ((a:Int)*(b:Int))=(p:Int):=by rw[show(a:Int)*(b:Int)=(p:Int) by rw[←hp];simp];simp[IntKind.wrap_i64];omega
     have e6:IntKind.i64.wrap (z0+(p:Int))=z0+(p:Int):=by simp[IntKind.wrap_i64];omega
     have HC2:=HC.out.step (by omega) p hp81
     have HV2:=cv_set l2 (i+k) p (by rw[HC.out.len];omega) (HC.out.lo _)
     rw[hz0]at HC2 HV2;rw[←hp,mul_cell HV.out hb]at HV2;rw[hp]at HV2;have HC3:=Aside0.mk HC2;have HV3:=Aside0.mk HV2;obtain⟨ik,hik⟩:∃ik,i+k=ik:=⟨_,rfl⟩;rw[hik]at HC3 HV3 q0 hz0 e4;have i1:(0:Int)≤(ik:Int):=by omega
     have i2:(ik:Int)<((M+1:Nat):Int):=by omega
     have i2':(ik:Int)<(M:Int)+1:=by omega
     have i3:(ik:Int).toNat=ik:=Int.toNat_natCast _;clear HC2 HV2 HC HV hb hp;have HRd:=Aside0.mk (show RI1 wr.drew _ _ _ _ from HR.out.drew)
     have f0:=HR.out.frozen (ik);have q1:=HRd.out.cell (ik) (by omega)
     have f1:=HRd.out.frozen (ik);rw[hz0]at q1;have HR2:=Aside0.mk (HRd.out.put (ik) (by omega) (z0+(p:Int)))
     have HB2:=Aside0.mk (HB.out.drew.setCell (p:=⟨g,ik,none⟩) hg2' (.int .i64 (z0+(p:Int))));clear HR HB HRd hz0;go_wp2_with fail;go_region_law (first|(go_simp;with_reducible refine hx.go ?_)|(go_simp;with_reducible refine hy.go ?_))
     all_goals
      go_wp2_with fail;go_roundg (gk-1)
      case measure=>omega
      case rel=>exact⟨k+1,_,by go_num,by omega,by omega,HC3,HV3,HR2,HB2⟩
theorem natS_is0 (n:Nat):((natS n).toList==([48]:List UInt8))=decide (n=0):=by
 have h:=natS_eqB n 0;rwa [show(natS 0).toList=[48] by rw[nat0,ByteArray.toList_eq]]at h
theorem natS_1:natS 1=⟨#[49]⟩:=(natS_isN 1).inj isN_1
theorem intS_neg {z:Int}(h:z<0):intS z=(⟨#[45]⟩:ByteArray)++natS z.natAbs:=by unfold intS;rw[if_pos h]
theorem intS_pl {z:Int}(h:¬z<0):intS z=natS z.natAbs:=by unfold intS;rw[if_neg h]
theorem intS_ge (z:Int):(natS z.natAbs).size≤(intS z).size:=by
 by_cases h:z<0
 ·rw[intS_neg h,ByteArray.size_append];omega
 ·rw[intS_pl h];exact Nat.le_refl _
theorem intS_le (z:Int):(intS z).size≤(natS z.natAbs).size+1:=by
 by_cases h:z<0
 ·rw[intS_neg h,ByteArray.size_append];show 1+_≤_;omega
 ·rw[intS_pl h];omega
set_option maxHeartbeats 4000000 in
theorem ramount_at (z:Int)(hs:(intS z).size≤1000000):Rt 94 #[.string (intS z)] (.tuple #[.string (natS z.natAbs),.bool (decide (z<0))]):=by
 intro w;have hp:=natS_pos z.natAbs;by_cases hz:z<0
 ·have h0:0<(intS z).size:=by have:=intS_ge z;omega
  have h0':(0:Int)<((intS z).size:Int):=by omega
  have hl:(intS z).data.toList=45::(natS z.natAbs).data.toList:=by rw[intS_neg hz,cat_l];rfl
  have hb:(((intS z)[0]'h0).toNat:Int)=45:=by
   rw[←ba_at (intS z) 0 h0];simp only[hl];rfl
  have he:(intS z).extract 1 (intS z).size=natS z.natAbs:=ba_ext (by
   rw[ext_toList,List.take_of_length_le (by rw[ba_len];exact Nat.le_refl _),hl]
   rfl)
  have h1:(1:Int)≤((intS z).size:Int):=by omega
  rw[decide_eq_true hz];generalize natS z.natAbs=a at*;generalize intS z=s at*;clear hl;go_enter Tryz.func94,Tryz.ntmps94
  go_wp2_with fail;refine bodyPost_ret (results_tmp2 rfl _ _ _) rfl ?_;exact⟨by first|rfl|(simp[he];done)|(rw[←he];simp),Below.refl _ _⟩
 ·obtain⟨c,r,hl,hc⟩:=natS_head z.natAbs
  rw[intS_pl hz,decide_eq_false hz];have h0':(0:Int)<((natS z.natAbs).size:Int):=by omega
  have hb:¬(((natS z.natAbs)[0]'hp).toNat:Int)=45:=by
   rw[←ba_at (natS z.natAbs) 0 hp];simp only[hl,List.getElem_cons_zero];omega
  generalize natS z.natAbs=a at*;clear hl;go_enter Tryz.func94,Tryz.ntmps94
  go_wp2_with fail;refine bodyPost_ret (results_tmp2 rfl _ _ _) rfl ?_;exact⟨rfl,Below.refl _ _⟩
set_option maxHeartbeats 4000000 in
theorem rmay2_at (z:Int)(hs:(intS z).size≤1000000):Rt 91 #[.string (intS z)] (.bool true):=by
 intro w;have HB:=Aside0.mk (Below.refl w.heap.size w);have hg:=intS_ge z;have H1:=ramount_at z hs;have H2:=Rt.same (rmay_nat z.natAbs (by omega))
 have h0:=natS_is0 z.natAbs;have hi:decide (z<0)=true→decide (z.natAbs=0)=false:=fun h=>decide_eq_false (by have:=of_decide_eq_true h;omega)
 generalize decide (z.natAbs=0)=b0 at*;generalize decide (z<0)=b at*;generalize natS z.natAbs=a at*;generalize intS z=s at*;cases b with
 |true=>
  have:=hi rfl;subst this;clear hi;go_enter Tryz.func91,Tryz.ntmps91
  go_wp2_with(first|(with_reducible refine H1.go HB ?_;clear HB;intro w1 HB hb)|(with_reducible refine H2.go HB ?_;clear HB;intro w1 HB hb))
  go_ret;exact⟨by first|rfl|simp[*],HB.out⟩
 |false=>
  clear hi;go_enter Tryz.func91,Tryz.ntmps91
  go_wp2_with(first|(with_reducible refine H1.go HB ?_;clear HB;intro w1 HB hb)|(with_reducible refine H2.go HB ?_;clear HB;intro w1 HB hb))
  go_ret;exact⟨by first|rfl|simp[*],HB.out⟩
theorem rmay2_nat (n:Nat)(hs:(natS n).size≤1000000):Rt 91 #[.string (natS n)] (.bool true):=by
 have h:=rmay2_at (n:Int) (by rw[intS_nat];exact hs)
 rwa [intS_nat]at h
set_option maxHeartbeats 4000000 in
theorem rabs_at (z:Int)(hs:(intS z).size≤1000000):Rt 56 #[.string (intS z)] (.string (natS z.natAbs)):=by
 intro w;have HB:=Aside0.mk (Below.refl w.heap.size w);have H1:=ramount_at z hs;have H2:=rmay2_at z hs;generalize decide (z<0)=b at*;generalize natS z.natAbs=a at*;generalize intS z=s at*;go_enter Tryz.func56,Tryz.ntmps56
 go_wp2_with(first|(with_reducible refine H1.go HB ?_;clear HB;intro w1 HB hb)|(with_reducible refine H2.go HB ?_;clear HB;intro w1 HB hb))
 go_ret;exact⟨rfl,HB.out⟩
set_option maxHeartbeats 4000000 in
theorem rsign2_at (z:Int)(hs:(intS z).size≤1000000):Rt 125 #[.string (intS z)] (.int .i64 (sgn z)):=by
 intro w;have HB:=Aside0.mk (Below.refl w.heap.size w);have H1:=ramount_at z hs;have H2:=rmay2_at z hs;have h0:=natS_is0 z.natAbs;generalize natS z.natAbs=a at*;generalize intS z=s at*;unfold sgn;by_cases hz:z<0
 ·rw[if_pos hz]
  rw[decide_eq_true hz]at H1;rw[decide_eq_false (by omega)]at h0
  go_enter Tryz.func125,Tryz.ntmps125
  go_wp2_with(first|(with_reducible refine H1.go HB ?_;clear HB;intro w1 HB hb)|(with_reducible refine H2.go HB ?_;clear HB;intro w1 HB hb))
  go_ret;exact⟨rfl,HB.out⟩
 ·rw[if_neg hz]
  rw[decide_eq_false hz]at H1;by_cases hz0:z=0
  ·rw[if_pos hz0]
   rw[decide_eq_true (by omega)]at h0
   clear hz hz0;go_enter Tryz.func125,Tryz.ntmps125
   go_wp2_with(first|(with_reducible refine H1.go HB ?_;clear HB;intro w1 HB hb)|(with_reducible refine H2.go HB ?_;clear HB;intro w1 HB hb))
   go_ret;exact⟨rfl,HB.out⟩
  ·rw[if_neg hz0]
   rw[decide_eq_false (by omega)]at h0
   go_enter Tryz.func125,Tryz.ntmps125
   go_wp2_with(first|(with_reducible refine H1.go HB ?_;clear HB;intro w1 HB hb)|(with_reducible refine H2.go HB ?_;clear HB;intro w1 HB hb))
   go_ret;exact⟨rfl,HB.out⟩
def sg (b:Bool)(n:Nat):Int:=if b=true then-(n:Int)else(n:Int)
set_option maxHeartbeats 4000000 in
theorem rwith_at (n:Nat)(b:Bool)(hs:(natS n).size≤1000000):Rt 200 #[.string (natS n),.bool b] (.string (intS (sg b n))):=by
 intro w;have h0:=natS_is0 n;have hov:¬9223372036854775807<(⟨#[45]⟩:ByteArray).size+(natS n).size:=by show¬_<1+_;omega
 have hov2:¬9223372036854775807<1+(natS n).size:=by omega
 have hi:intS (sg b n)=if b=true∧n≠0 then(⟨#[45]⟩:ByteArray)++natS n else natS n:=by
  unfold sg;cases b with
  |false=>rw[if_neg (by decide),if_neg (by simp),intS_nat]
  |true=>
   rw[if_pos rfl];by_cases hn:n=0
   ·rw[if_neg (by simp[hn]),hn];rfl
   ·rw[if_pos ⟨rfl,hn⟩,intS_neg (by omega),show(-(n:Int)).natAbs=n by omega]
 rw[hi];by_cases hn:n=0
 ·rw[decide_eq_true hn]at h0
  rw[if_neg (by simp[hn])]
  generalize natS n=s at*;clear hi hn;cases b
  all_goals
   go_enter Tryz.func200,Tryz.ntmps200
   go_wp2_with fail;go_ret;exact⟨rfl,Below.refl _ _⟩
 ·rw[decide_eq_false hn]at h0
  generalize natS n=s at*;clear hi;cases b
  ·rw[if_neg (by simp)]
   clear hn;go_enter Tryz.func200,Tryz.ntmps200
   go_wp2_with fail;go_ret;exact⟨rfl,Below.refl _ _⟩
  ·rw[if_pos ⟨rfl,hn⟩]
   clear hn;go_enter Tryz.func200,Tryz.ntmps200
   go_wp2_with fail;go_ret;exact⟨rfl,Below.refl _ _⟩
theorem sg_mul (y z:Int):sg (decide (y<0)!=decide (z<0)) (y.natAbs*z.natAbs)=y*z:=by
 unfold sg;by_cases h:y<0<;>by_cases k:z<0
 ·rw[decide_eq_true h,decide_eq_true k,if_neg (by decide),Int.natCast_mul,show(y.natAbs:Int)= -y by omega,show(z.natAbs:Int)= -z by omega,Int.neg_mul_neg]
 ·rw[decide_eq_true h,decide_eq_false k,if_pos (by decide),Int.natCast_mul,show(y.natAbs:Int)= -y by omega,show(z.natAbs:Int)=z by omega];simp[Int.neg_mul]
 ·rw[decide_eq_false h,decide_eq_true k,if_pos (by decide),Int.natCast_mul,show(y.natAbs:Int)=y by omega,show(z.natAbs:Int)= -z by omega];simp[Int.mul_neg]
 ·rw[decide_eq_false h,decide_eq_false k,if_neg (by decide),Int.natCast_mul,show(y.natAbs:Int)=y by omega,show(z.natAbs:Int)=z by omega]
theorem natS_mulz (n m:Nat):(natS (n*m)).size≤(natS n).size+(natS m).size:=by
 have h:=dec_len (n*m) ((natS n).size+(natS m).size) (by rw[Nat.pow_add];exact Nat.mul_lt_mul_of_lt_of_lt (natS_below n) (natS_below m)) (by have:=natS_pos n;omega)
 have e:(natS (n*m)).size=(Lib.decDigits (n*m)).length:=by show(natS (n*m)).data.toList.length=_;rw[natS_list]
 omega
set_option maxHeartbeats 4000000 in
theorem rmul2_at (y z:Int)(hy:(intS y).size≤100000)(hz:(intS z).size≤100000):Rt 169 #[.string (intS y),.string (intS z)] (.string (intS (y*z))):=by
 intro w;have HB:=Aside0.mk (Below.refl w.heap.size w);have gy:=intS_ge y;have gz:=intS_ge z;have A1:=ramount_at y (by omega)
 have A2:=ramount_at z (by omega)
 have M1:=rmay2_at y (by omega)
 have M2:=rmay2_at z (by omega)
 have H1:=rmul1_at y.natAbs z.natAbs (by omega) (by omega)
 have hms:=natS_mulz y.natAbs z.natAbs;have H2:=rwith_at (y.natAbs*z.natAbs) (decide (y<0)!=decide (z<0)) (by omega)
 rw[sg_mul]at H2;generalize natS (y.natAbs*z.natAbs)=p at*;generalize intS (y*z)=r at*;generalize decide (y<0)=b at*;generalize decide (z<0)=c at*;generalize natS y.natAbs=u at*;generalize natS z.natAbs=v at*;generalize intS y=s at*;generalize intS z=t at*;have H2:Rt 200 #[.string p,.bool (!(b==c))] (.string r):=H2;go_enter Tryz.func169,Tryz.ntmps169
 go_wp2_with(first|(with_reducible refine M1.go HB ?_;clear HB;intro w1 HB hb)|(with_reducible refine M2.go HB ?_;clear HB;intro w1 HB hb)|(with_reducible refine A1.go HB ?_;clear HB;intro w1 HB hb)|(with_reducible refine A2.go HB ?_;clear HB;intro w1 HB hb)|(with_reducible refine H1.go HB ?_;clear HB;intro w1 HB hb)|(with_reducible refine H2.go HB ?_;clear HB;intro w1 HB hb))
 go_ret;exact⟨rfl,HB.out⟩
set_option maxHeartbeats 4000000 in
theorem rdiv2_at (z:Int)(g:Nat)(hz:(intS z).size≤100000)(hg:(natS g).size≤100000)(h0:0<g)(hd:g∣z.natAbs):Rt 199 #[.string (intS z),.string (natS g)] (.tuple #[.string (intS (sg (decide (z<0)) (z.natAbs/g))),.string (natS 0),.bool true]):=by
 intro w;have HB:=Aside0.mk (Below.refl w.heap.size w);have gz:=intS_ge z;have A1:=ramount_at z (by omega)
 have A2:=ramount_at (g:Int) (by rw[intS_nat];omega)
 have M1:=rmay2_at z (by omega)
 have M2:=rmay2_nat g (by omega)
 have H1:=rdiv_at z.natAbs g h0 (by omega) hg
 have hle:=dec_len_mono (Nat.div_le_self z.natAbs g);have H2:=rwith_at (z.natAbs/g) (decide (z<0)) (by omega)
 have hn:=natS_is0 g;have h00:=natS_is0 0;rw[decide_eq_false (by omega)]at hn
 rw[decide_eq_true rfl]at h00;rw[Nat.mod_eq_zero_of_dvd hd]at H1;rw[intS_nat,decide_eq_false (by omega),Int.natAbs_natCast]at A2
 generalize intS (sg (decide (z<0)) (z.natAbs/g))=r at*;generalize natS (z.natAbs/g)=q at*;generalize natS 0=o at*;generalize natS g=d at*;generalize natS z.natAbs=u at*;generalize intS z=s at*;generalize decide (z<0)=b at*;clear hd;cases b
 all_goals
  go_enter Tryz.func199,Tryz.ntmps199
  go_wp2_with(first|(with_reducible refine M1.go HB ?_;clear HB;intro w1 HB hb)|(with_reducible refine M2.go HB ?_;clear HB;intro w1 HB hb)|(with_reducible refine A1.go HB ?_;clear HB;intro w1 HB hb)|(with_reducible refine A2.go HB ?_;clear HB;intro w1 HB hb)|(with_reducible refine H1.go HB ?_;clear HB;intro w1 HB hb)|(with_reducible refine H2.go HB ?_;clear HB;intro w1 HB hb))
  refine bodyPost_ret (v:= .tuple #[.string r,.string o,.bool true]) (by simp[results,Tryz.f199,go_sem]) rfl ?_
  exact⟨rfl,HB.out⟩
end Go.Proofs.YtjopepfemhckjaaGreatDoor.NW
end
