/-
  Part 24 of the proof of parseTells_holds: texts of this seat, put together.
-/
import Derived.Deep.QuietTactic
import Derived.BigQuiet
import Derived.Test.YtjopepfemhckjaaGreatDoorTl23
set_option linter.unusedVariables false
set_option linter.unusedSimpArgs false
set_option maxHeartbeats 16000000
set_option maxRecDepth 100000
section
namespace Go.Proofs.YtjopepfemhckjaaGreatDoor.NW
open Go.Proofs Go.RowKit Go.Proofs.YtjopepfemhckjaaGreatDoor.PN Go.Proofs.YtjopepfemhckjaaGreatDoorW.PrintWords
theorem rd_cons0 (y:Int)(l:List Int):rd (y::l) ((0:Nat):Int)=y:=rfl
theorem rd_consS (y:Int)(l:List Int)(i:Nat):rd (y::l) ((i+1:Nat):Int)=rd l (i:Int):=by
 unfold rd;rw[xa,xa];rfl
theorem qc (l:List Int)(h:wfL l)(i:Nat):0≤rd l (i:Int)∧rd l (i:Int)<10000:=by
 unfold rd;rw[xa,List.getD_eq_getElem?_getD];by_cases hi:i<l.length
 ·rw[List.getElem?_eq_getElem hi]
  exact h _ (List.getElem_mem hi)
 ·rw[List.getElem?_eq_none (by omega)]
  exact⟨by decide,by decide⟩
theorem rd_none (l:List Int)(i:Nat)(h:l.length≤i):rd l (i:Int)=0:=by
 unfold rd;rw[xa,List.getD_eq_getElem?_getD,List.getElem?_eq_none h];rfl
theorem rd_set (l:List Int)(i k:Nat)(x:Int)(hi:i<l.length):rd (l.set i x) (k:Int)=if k=i then x else rd l (k:Int):=by
 unfold rd;rw[xa,List.getD_eq_getElem?_getD,List.getD_eq_getElem?_getD,List.getElem?_set];by_cases h:i=k
 ·subst h
  rw[if_pos rfl,if_pos hi,if_pos rfl];rfl
 ·rw[if_neg h,if_neg (fun e=>h e.symm)]
theorem wfL_set {l:List Int}(h:wfL l)(i:Nat)(x:Int)(h0:0≤x)(h1:x<10000):wfL (l.set i x):=by
 intro z hz;rcases List.mem_or_eq_of_mem_set hz with h'|h'
 ·exact h z h'
 ·rw[h'];exact⟨h0,h1⟩
theorem lv_set (l:List Int):∀(i:Nat) (x:Int),i<l.length→wfL l→0≤x→((lv (l.set i x):Nat):Int)=lv l+(x-rd l (i:Int))*10000^i:=by
 induction l with
 |nil=>intro i x h;simp at h
 |cons y l ih=>
  intro i x hi hw hx;have hy:=(hw y (by simp)).1
  cases i with
  |zero=>
   rw[rd_cons0];show((x.toNat+10000*lv l:Nat):Int)=((y.toNat+10000*lv l:Nat):Int)+_
   simp only[Int.pow_zero,Int.mul_one];omega
  |succ i=>
   have h:=ih i x (by simpa using hi) (fun z hz=>hw z (by simp[hz])) hx
   rw[rd_consS];show((y.toNat+10000*lv (l.set i x):Nat):Int)=((y.toNat+10000*lv l:Nat):Int)+_
   rw[Int.natCast_add,Int.natCast_mul,h,Int.natCast_add,Int.natCast_mul,Int.pow_succ];grind
theorem lv_take (b:List Int)(hw:wfL b):∀k,((lv (b.take (k+1)):Nat):Int)=lv (b.take k)+10000^k*rd b (k:Int):=by
 intro k;by_cases hk:k<b.length
 ·rw[List.take_succ_eq_append_getElem hk,lv_snoc,List.length_take,Nat.min_eq_left (by omega)]
  have e:rd b (k:Int)=b[k]:=by
   unfold rd;rw[xa,List.getD_eq_getElem?_getD,List.getElem?_eq_getElem hk];rfl
  have h0:=(hw _ (List.getElem_mem hk)).1;rw[e];generalize b[k]=x at*;rw[Int.natCast_add,Int.natCast_mul,Int.natCast_pow,Int.toNat_of_nonneg h0];rfl
 ·rw[List.take_of_length_le (by omega),List.take_of_length_le (by omega),rd_none b k (by omega)]
  omega
structure TkI (l0 b:List Int) (a:Nat) (q:Int) (k:Nat) (c:Int) (l:List Int):Prop where
 len:l.length=l0.length
 wf:wfL l
 lo: -20000≤c
 hi:c≤10000
 out:∀i:Nat,i<a∨a+k≤i→rd l (i:Int)=rd l0 (i:Int)
 val:((lv l:Nat):Int)+c*10000^(a+k)=lv l0-q*(10000^a*lv (b.take k))
theorem TkI.start (l0 b:List Int)(a:Nat)(q:Int)(hw:wfL l0):TkI l0 b a q 0 0 l0:=
 ⟨rfl,hw,by omega,by omega,fun _ _=>rfl,by simp[lv]⟩
theorem TkI.next {l0 b:List Int}{a:Nat}{q:Int}{k:Nat}{c:Int}{l:List Int}(h:TkI l0 b a q k c l)(hb:wfL b)(hk:a+k<l0.length)(x c':Int)(hx:0≤x∧x<10000)(hc: -20000≤c'∧c'≤10000)
 (hn:x+c'*10000=rd l ((a+k:Nat):Int)-q*rd b (k:Int)+c):TkI l0 b a q (k+1) c' (l.set (a+k) x):=by
 have hkl:a+k<l.length:=by rw[h.len];exact hk
 refine⟨by rw[List.length_set,h.len],wfL_set h.wf _ _ hx.1 hx.2,hc.1,hc.2,?_,?_⟩
 ·intro i hi
  rw[rd_set _ _ _ _ hkl,if_neg (by omega)]
  exact h.out i (by omega)
 ·rw[lv_set _ _ _ hkl h.wf hx.1,lv_take b hb]
  have hv:=h.val;have e1:(10000:Int)^(a+(k+1))=10000^(a+k)*10000:=by rw[←Nat.add_assoc,Int.pow_succ]
  have e2:(10000:Int)^(a+k)=10000^a*10000^k:=Int.pow_add ..;rw[e1];rw[e2]at hv ⊢;generalize (10000:Int)^a=PA at*;generalize (10000:Int)^k=PK at*;generalize rd l ((a+k:Nat):Int)=y at*;generalize rd b (k:Int)=z at*;have:x=y-q*z+c-c'*10000:=by omega
  subst this;grind
theorem TkI.take {l0 b:List Int}{a:Nat}{q:Int}{k:Nat}{c:Int}{l:List Int}(h:TkI l0 b a q k c l)(hb:wfL b)(hk:a+k<l0.length)(hq0:0≤q)(hq:q<10000)(hc0:c≤0):
 let n:=rd l ((a+k:Nat):Int)-q*rd b (k:Int)+c
 let c':=if n<0 then-((-n+9999)/10000)else 0
 c'≤0∧TkI l0 b a q (k+1) c' (l.set (a+k) (n-c'*10000))∧ -100020000≤n∧n<10000∧0≤q*rd b (k:Int)∧q*rd b (k:Int)≤99990000:=by
 intro n c';have hy:=qc l h.wf (a+k);have hz:=qc b hb k;have hlo:=h.lo;have hp:0≤q*rd b (k:Int):=Int.mul_nonneg hq0 hz.1;have hp2:q*rd b (k:Int)≤9999*9999:=Int.mul_le_mul (by omega) (by omega) hz.1 (by omega)
 have hn1:n<10000:=by show rd l ((a+k:Nat):Int)-q*rd b (k:Int)+c<10000;omega
 have hn2: -100020000≤n:=by show-100020000≤rd l ((a+k:Nat):Int)-q*rd b (k:Int)+c;omega
 have hc': -20000≤c'∧c'≤0∧0≤n-c'*10000∧n-c'*10000<10000:=by
  show-20000≤(if n<0 then-((-n+9999)/10000)else 0)∧(if n<0 then-((-n+9999)/10000)else 0)≤0∧0≤n-(if n<0 then-((-n+9999)/10000)else 0)*10000∧n-(if n<0 then-((-n+9999)/10000)else 0)*10000<10000
  split<;>omega
 refine⟨hc'.2.1,h.next hb hk _ _ ⟨hc'.2.2.1,hc'.2.2.2⟩ ⟨hc'.1,by omega⟩ ?_,hn2,hn1,hp,by omega⟩
 show n-c'*10000+c'*10000=n
 omega
theorem TkI.give {l0 b:List Int}{a:Nat}{k:Nat}{c:Int}{l:List Int}(h:TkI l0 b a (-1) k c l)(hb:wfL b)(hk:a+k<l0.length)(hc0:0≤c):
 let n:=rd l ((a+k:Nat):Int)+rd b (k:Int)+c
 0≤n∧n<30000∧0≤n/10000∧TkI l0 b a (-1) (k+1) (n/10000) (l.set (a+k) (n%10000)):=by
 intro n;have hy:=qc l h.wf (a+k);have hz:=qc b hb k;have hhi:=h.hi;have hn0:0≤n:=by show 0≤rd l ((a+k:Nat):Int)+rd b (k:Int)+c;omega
 have hn1:n<30000:=by show rd l ((a+k:Nat):Int)+rd b (k:Int)+c<30000;omega
 refine⟨hn0,by omega,by omega,h.next hb hk _ _ ⟨by omega,by omega⟩ ⟨by omega,by omega⟩ ?_⟩
 have:n=rd l ((a+k:Nat):Int)+rd b (k:Int)+c:=rfl;omega
theorem TkI.mul {l0 b:List Int}{a:Nat}{q:Int}{k:Nat}{c:Int}{l:List Int}(h:TkI l0 b a (-q) k c l)(hb:wfL b)(hk:a+k<l0.length)(hq0:0≤q)(hq:q<10000)(hc0:0≤c):
 let n:=c+(rd l ((a+k:Nat):Int)+q*rd b (k:Int))
 0≤n∧n≤100000000∧0≤n/10000∧TkI l0 b a (-q) (k+1) (n/10000) (l.set (a+k) (n%10000))∧0≤q*rd b (k:Int)∧q*rd b (k:Int)≤99990000:=by
 intro n;have hy:=qc l h.wf (a+k);have hz:=qc b hb k;have hhi:=h.hi;have hp:0≤q*rd b (k:Int):=Int.mul_nonneg hq0 hz.1;have hp2:q*rd b (k:Int)≤9999*9999:=Int.mul_le_mul (by omega) (by omega) hz.1 (by omega)
 have hn0:0≤n:=by show 0≤c+(rd l ((a+k:Nat):Int)+q*rd b (k:Int));omega
 have hn1:n≤100000000:=by show c+(rd l ((a+k:Nat):Int)+q*rd b (k:Int))≤100000000;omega
 refine⟨hn0,hn1,by omega,h.next hb hk _ _ ⟨by omega,by omega⟩ ⟨by omega,by omega⟩ ?_,hp,by omega⟩
 have:n=c+(rd l ((a+k:Nat):Int)+q*rd b (k:Int)):=rfl;rw[Int.neg_mul];omega
theorem qP (l:List Int)(k:Nat):lv l=lv (l.take k)+10000^k*lv (l.drop k):=by
 by_cases h:k≤l.length
 ·have:=lv_append (l.take k) (l.drop k)
  rw[List.take_append_drop,List.length_take,Nat.min_eq_left h]at this;exact this
 ·rw[List.take_of_length_le (by omega),List.drop_eq_nil_of_le (by omega)]
  simp[lv]
theorem ql (l:List Int)(h:wfL l)(k:Nat):lv (l.take k)<10000^k:=by
 refine Nat.lt_of_lt_of_le (lv_lt _ (fun x hx=>h x (List.mem_of_mem_take hx))) (Nat.pow_le_pow_right (by omega) ?_)
 rw[List.length_take];omega
theorem jT (l:List Int)(h:∀i:Nat,rd l (i:Int)=0):lv l=0:=by
 induction l with
 |nil=>rfl
 |cons y l ih=>
  have h0:y=0:=h 0;have h1:=ih (fun i=>by have:=h (i+1);rw[rd_consS]at this;exact this)
  show y.toNat+10000*lv l=0
  rw[h0,h1];rfl
theorem rd_drop (l:List Int)(k i:Nat):rd (l.drop k) (i:Int)=rd l ((k+i:Nat):Int):=by
 unfold rd;rw[xa,xa,List.getD_eq_getElem?_getD,List.getD_eq_getElem?_getD,List.getElem?_drop]
theorem lv_small (l:List Int)(hw:wfL l)(k:Nat)(h:∀i:Nat,k≤i→rd l (i:Int)=0):lv l<10000^k:=by
 rw[qP l k,jT (l.drop k) (fun i=>by rw[rd_drop];exact h _ (by omega)),Nat.mul_zero,Nat.add_zero]
 exact ql l hw k
theorem jt (l:List Int)(hw:wfL l)(i:Nat):lv (l.drop i)=(rd l (i:Int)).toNat+10000*lv (l.drop (i+1)):=by
 by_cases h:i<l.length
 ·rw[drop_at l i h]
  rfl
 ·rw[List.drop_eq_nil_of_le (by omega),List.drop_eq_nil_of_le (by omega),rd_none l i (by omega)]
  rfl
theorem rd_zero (l:List Int)(hw:wfL l)(k:Nat)(h:lv l<10000^k)(i:Nat)(hi:k≤i):rd l (i:Int)=0:=by
 have h1:=qP l i;have h2:10000^k≤10000^i:=Nat.pow_le_pow_right (by omega) hi
 have h3:lv (l.drop i)=0:=by
  apply Classical.byContradiction;intro hn;have:10000^i*1≤10000^i*lv (l.drop i):=Nat.mul_le_mul_left _ (by omega)
  omega
 have h4:=jt l hw i;have h5:=(qc l hw i).1;omega
theorem mul_row {la lb l u:List Int}{i:Nat}{c:Int}(hla:wfL la)(hlb:wfL lb)(hi:i<la.length)(hl:lv l=lv (la.take i)*lv lb)(h:TkI l lb i (-(rd la (i:Int))) (lb.length+1) c u)(hlw:wfL l)(hc:0≤c)(hlen:l.length=la.length+lb.length+1):
 lv u=lv (la.take (i+1))*lv lb:=by
 have h1:=lv_take la hla i;have h2:=h.val;rw[List.take_of_length_le (by omega),hl]at h2
 have h3:=ql la hla (i+1);have h4:=lv_lt lb hlb;have hr:=(qc la hla i).1;have h5:lv (la.take (i+1))*lv lb<10000^(i+(lb.length+1)):=by
  have e:10000^(i+(lb.length+1))=10000^(i+1)*10000^lb.length:=by rw[←Nat.pow_add];congr 1;omega
  rw[e];rcases Nat.eq_zero_or_pos (lv lb)with h0|h0
  ·rw[h0,Nat.mul_zero]
   exact Nat.mul_pos (Nat.pow_pos (by omega)) (Nat.pow_pos (by omega))
  ·exact Nat.mul_lt_mul_of_lt_of_le h3 (Nat.le_of_lt h4) (Nat.pow_pos (by omega))
 have h6:((lv (la.take (i+1))*lv lb:Nat):Int)=(lv (la.take i)*lv lb:Nat)+rd la (i:Int)*(10000^i*lv lb):=by
  rw[Int.natCast_mul,h1,Int.natCast_mul];grind
 have h7:((lv u:Nat):Int)+c*10000^(i+(lb.length+1))=((lv (la.take (i+1))*lv lb:Nat):Int):=by
  rw[h2,h6,Int.neg_mul];omega
 have hP:(10000:Int)^(i+(lb.length+1))=((10000^(i+(lb.length+1)):Nat):Int):=by rw[Int.natCast_pow];rfl
 rw[hP]at h7;generalize 10000^(i+(lb.length+1))=P at*;generalize lv (la.take (i+1))*lv lb=R at*;have:c=0:=by
  rcases Int.lt_trichotomy c 0 with h0|h0|h0
  ·omega
  ·exact h0
  ·have:=Int.mul_le_mul_of_nonneg_right (show 1≤c by omega) (Int.natCast_nonneg P)
   omega
 subst this;omega
structure Gs (X V head vt vs x2:Nat):Prop where
 vt0:0<vt
 lt:X<V*10000
 top:X/V≤head/vt
 less:∀q rest,q*vt+rest=head→X/V≤q→(10000≤q∨rest*10000+x2<q*vs)→X/V<q
 done:∀q rest,q*vt+rest=head→q<10000→q*vs≤rest*10000+x2→q≤X/V+1
 far:∀q rest,q*vt+rest=head→10000≤rest→q<10000∧q≤X/V+1
theorem gs_of (u v:List Int)(V n j:Nat)(hu:wfL u)(hv:wfL v)(hV:lv v=V)(hn:v.length=n)(h2:2≤n)(ht:0<rd v ((n-1:Nat):Int))(hlt:lv u<V*10000^(j+1)):
 Gs (lv (u.drop j)) V ((rd u ((j+n:Nat):Int)).toNat*10000+(rd u ((j+n-1:Nat):Int)).toNat) (rd v ((n-1:Nat):Int)).toNat (rd v ((n-2:Nat):Int)).toNat (rd u ((j+n-2:Nat):Int)).toNat:=by
 obtain⟨m,rfl⟩:∃m,n=m+2:=⟨n-2,by omega⟩
 have e1:m+2-1=m+1:=by omega
 have e2:m+2-2=m:=by omega
 have e3:j+(m+2)-1=j+m+1:=by omega
 have e4:j+(m+2)-2=j+m:=by omega
 have e5:j+(m+2)=j+m+2:=by omega
 rw[e1]at ht;rw[e1,e2,e3,e4,e5];have hVlt:V<10000^(m+2):=by rw[←hV,←hn];exact lv_lt v hv
 have hul:lv u<10000^(j+m+3):=by
  have h1:V*10000^(j+1)≤10000^(m+2)*10000^(j+1):=Nat.mul_le_mul_right _ (by omega)
  rw[←Nat.pow_add]at h1;rw[show j+m+3=m+2+(j+1)from by omega]
  omega
 have hu3:lv (u.drop (j+m+3))=0:=jT _ (fun i=>by rw[rd_drop];exact rd_zero u hu _ hul _ (by omega))
 have hv2:lv (v.drop (m+2))=0:=jT _ (fun i=>by rw[rd_drop];exact rd_none v _ (by omega))
 have a1:=jt u hu (j+m);have a2:=jt u hu (j+m+1);have a3:=jt u hu (j+m+2);rw[hu3]at a3;have b1:=jt v hv m;have b2:=jt v hv (m+1);rw[hv2]at b2;have hX:=qP (u.drop j) m;rw[List.drop_drop]at hX;have hVs:=qP v m;rw[hV]at hVs;have hxl:=ql (u.drop j) (fun x hx=>hu x (List.mem_of_mem_drop hx)) m
 have hvl:=ql v hv m;have hW:0<10000^m:=Nat.pow_pos (by omega)
 have hx2:=qc u hu (j+m);have hvs:=qc v hv m;have hX0:=qP u j;have hXV:lv (u.drop j)<V*10000:=by
  apply Nat.lt_of_mul_lt_mul_left (a:=10000^j);have:10000^j*(V*10000)=V*10000^(j+1):=by rw[Nat.pow_succ];grind
  omega
 generalize lv (u.drop j)=X at*;generalize lv ((u.drop j).take m)=xl at*;generalize lv (v.take m)=vl at*;generalize 10000^m=W at*;rw[a1,a2,a3]at hX;rw[b1,b2]at hVs;have hx22:(rd u ((j+m:Nat):Int)).toNat<10000:=by omega
 generalize (rd u ((j+m:Nat):Int)).toNat=x2 at*;generalize (rd u ((j+m+1:Nat):Int)).toNat=x1 at*;generalize (rd u ((j+m+2:Nat):Int)).toNat=x0 at*;have hvt0:0<(rd v ((m+1:Nat):Int)).toNat:=by omega
 have hvs2:(rd v (m:Int)).toNat<10000:=by omega
 generalize (rd v (m:Int)).toNat=vs at*;generalize (rd v ((m+1:Nat):Int)).toNat=vt at*;have HX:X=((x0*10000+x1)*10000+x2)*W+xl:=by rw[hX];grind
 have HV:V=(vt*10000+vs)*W+vl:=by rw[hVs];grind
 refine⟨hvt0,hXV,PK.L1 _ _ _ _ _ _ _ _ _ _ hW HX HV hxl hx22 hvt0,fun q rest h1 h2 h3=>PK.L2 _ _ _ _ _ _ _ _ _ _ q rest hW HX HV hxl hXV h1 h2 h3,fun q rest h1 h2 h3=>PK.L3 _ _ _ _ _ _ _ _ _ _ q rest hW HX HV hvl hvt0 h1 h2 h3,fun q rest h1 h2=>?_⟩
 have h4:=PK.L4 _ _ _ _ _ _ _ _ _ _ hW HX HV hvl hvs2 hXV;obtain⟨h5,h6⟩:=PK.L3b 10000 vt vs x2 _ q rest h1 h2 h4 hvs2 hvt0;exact⟨h5,PK.L3 _ _ _ _ _ _ _ _ _ _ q rest hW HX HV hvl hvt0 h1 h5 h6⟩
structure DvI (N V n lu jj:Nat) (u out:List Int):Prop where
 ulen:u.length=lu
 olen:out.length=lu-n
 uwf:wfL u
 owf:wfL out
 oz:∀i:Nat,i<jj→rd out (i:Int)=0
 val:lv u+V*lv out=N
 lt:lv u<V*10000^jj
theorem DvI.set {N V n lu j:Nat}{u out:List Int}(h:DvI N V n lu (j+1) u out)(hj:j<lu-n)(q:Nat)(hq:q<10000)(u':List Int)(hl:u'.length=lu)(hw:wfL u')(hval:lv u'+q*(10000^j*V)=lv u)(hlt:lv u'<V*10000^j):DvI N V n lu j u' (out.set j (q:Int)):=by
 refine⟨hl,by rw[List.length_set];exact h.olen,hw,wfL_set h.owf _ _ (by omega) (by omega),?_,?_,hlt⟩
 ·intro i hi
  rw[rd_set _ _ _ _ (by rw[h.olen];exact hj),if_neg (by omega)]
  exact h.oz i (by omega)
 ·have h1:=lv_set out j (q:Int) (by rw[h.olen];exact hj) h.owf (by omega)
  rw[h.oz j (by omega)]at h1
  have h2:lv (out.set j (q:Int))=lv out+q*10000^j:=by
   apply Int.ofNat.inj;show((lv (out.set j (q:Int)):Nat):Int)=((lv out+q*10000^j:Nat):Int)
   rw[h1,Int.natCast_add,Int.natCast_mul,Int.natCast_pow,Int.sub_zero];rfl
  have h3:=h.val;rw[h2];generalize 10000^j=Z at*;grind
theorem dv_facts {V j n:Nat}{u:List Int}(hu:wfL u)(hV0:0<V)(hV:V<10000^n)(hlt:lv u<V*10000^(j+1)):
 lv (u.take j)<10000^j∧lv u=lv (u.take j)+10000^j*lv (u.drop j)∧(∀i:Nat,j+(n+1)≤i→rd u (i:Int)=0)∧10000^j*V<10000^(j+(n+1)):=by
 have h1:V*10000^(j+1)≤10000^n*10000^(j+1):=Nat.mul_le_mul_right _ (by omega)
 rw[←Nat.pow_add,show n+(j+1)=j+(n+1)from by omega]at h1
 refine⟨ql u hu j,qP u j,fun i hi=>rd_zero u hu _ (Nat.lt_of_lt_of_le hlt h1) i hi,?_⟩
 have h2:V*10000^(j+1)=10000^j*V*10000:=by rw[Nat.pow_succ];grind
 have h3:0<10000^j*V:=Nat.mul_pos (Nat.pow_pos (by omega)) hV0
 omega
theorem DvI.took {N V n lu j:Nat}{u out v u':List Int}{c:Int}(h:DvI N V n lu (j+1) u out)(hj:j<lu-n)(hv:wfL v)(hV:lv v=V)(hn:v.length=n)(hV0:0<V)(hX:lv (u.drop j)<V*10000)(q:Nat)(h1:lv (u.drop j)/V≤q)(h2:q≤lv (u.drop j)/V+1)(ht:TkI u v j (q:Int) (n+1) c u')(hc0:c≤0):
 (¬c<0→DvI N V n lu j u' (out.set j (q:Int)))∧(c<0→1≤q∧∀c2 u2,TkI u' v j (-1) (n+1) c2 u2→DvI N V n lu j u2 (out.set j ((q-1:Nat):Int))):=by
 have hVlt:V<10000^n:=by rw[←hV,←hn];exact lv_lt v hv
 obtain⟨f1,f2,f3,f4⟩:=dv_facts h.uwf hV0 hVlt h.lt;have hlu':lv u'<10000^(j+(n+1)):=lv_small u' ht.wf _ (fun i hi=>by rw[ht.out i (.inr hi)];exact f3 i hi)
 have hdm:=Nat.div_add_mod (lv (u.drop j)) V;have hR:=Nat.mod_lt (lv (u.drop j)) hV0;have hQ:lv (u.drop j)/V<10000:=Nat.div_lt_of_lt_mul hX;have hval:=ht.val;rw[List.take_of_length_le (by omega),hV]at hval
 have hlen':u'.length=lu:=ht.len.trans h.ulen;have HS:=fun q hq u3 a b c d=>h.set hj q hq u3 a b c d
 generalize lv (u.drop j)/V=Q at*;generalize lv (u.drop j)%V=R at*;generalize lv (u.drop j)=X at*;generalize hP:10000^(j+(n+1))=P at*;have hPI:(10000:Int)^(j+(n+1))=(P:Int):=by rw[←hP,Int.natCast_pow];rfl
 rw[hPI]at hval;generalize hZ:10000^j=Z at*;have hZI:(10000:Int)^j=(Z:Int):=by rw[←hZ,Int.natCast_pow];rfl
 rw[hZI]at hval;generalize lv (u.take j)=Ul at*;have hZR:Z*(R+1)≤Z*V:=Nat.mul_le_mul_left _ hR;have hU:lv u=Ul+Z*R+Q*(Z*V):=by rw[f2,←hdm];grind
 have hZR1:Z*(R+1)=Z*R+Z:=by grind
 have hZV:V*Z=Z*V:=Nat.mul_comm _ _;have hcast:(q:Int)*((Z:Int)*(V:Int))=((q*(Z*V):Nat):Int):=by simp
 rw[hcast]at hval;rcases Nat.lt_or_ge Q q with hlt|hge
 ·obtain rfl:q=Q+1:=by omega
  have hq1:(Q+1)*(Z*V)=Q*(Z*V)+Z*V:=by grind
  rw[hq1]at hval;refine⟨fun hc=>?_,fun hc=>⟨by omega,fun c2 u2 h3=>?_⟩⟩
  ·obtain rfl:c=0:=by omega
   omega
  ·have hv2:=h3.val
   rw[List.take_of_length_le (by omega),hV,hPI,hZI]at hv2
   have hlu2:lv u2<P:=by
    rw[←hP];exact lv_small u2 h3.wf _ (fun i hi=>by rw[h3.out i (.inr hi),ht.out i (.inr hi)];exact f3 i hi)
   have hcz:(Z:Int)*(V:Int)=((Z*V:Nat):Int):=by simp
   rw[hcz]at hv2;have hs:((lv u2:Nat):Int)+(c+c2)*P=Ul+(Z*R:Nat):=by
    rw[Int.add_mul];omega
   have hcc:c+c2=0:=by
    rcases Int.lt_trichotomy (c+c2) 0 with h0|h0|h0
    ·have:=Int.mul_le_mul_of_nonneg_right (show c+c2≤ -1 by omega) (Int.natCast_nonneg P)
     omega
    ·exact h0
    ·have:=Int.mul_le_mul_of_nonneg_right (show 1≤c+c2 by omega) (Int.natCast_nonneg P)
     omega
   rw[hcc]at hs;rw[show Q+1-1=Q from rfl]
   exact HS Q hQ u2 (h3.len.trans hlen') h3.wf (by omega) (by omega)
 ·obtain rfl:q=Q:=by omega
  have hs:((lv u':Nat):Int)+c*P=Ul+(Z*R:Nat):=by omega
  have hcc:c=0:=by
   rcases Int.lt_trichotomy c 0 with h0|h0|h0
   ·have:=Int.mul_le_mul_of_nonneg_right (show c≤ -1 by omega) (Int.natCast_nonneg P)
    omega
   ·exact h0
   ·omega
  subst hcc;exact⟨fun _=>HS q hQ u' hlen' ht.wf (by omega) (by omega),fun hc=>by omega⟩
end Go.Proofs.YtjopepfemhckjaaGreatDoor.NW
end
section
namespace Go.Proofs.YtjopepfemhckjaaGreatDoor.NW
open Go.Proofs Go.RowKit Go.Shelf Go.Proofs.YtjopepfemhckjaaGreatDoor.PN Go.Proofs.YtjopepfemhckjaaGreatDoorW.PrintWords Go.Proofs.YtjopepfemhckjaaGreatDoor.PParseTells
theorem gdrewN {w w1:World}{r:Option Nat}(h:w.grownBy w1 r)(n:Nat):w.grownBy (w1.drewN n) r:=⟨h.os,h.tape,h.output,h.size,h.block⟩
theorem gset {w w1:World}{g:Nat}(h:w.grownBy w1 (some g))(j:Nat)(v:Value):w.grownBy (w1.setCell ⟨g,j,none⟩ v) (some g):=
 ⟨h.os,h.tape,h.output,by simpa[World.setCell]using h.size,fun k hk hr=>(Below.heap_setCell w1 ⟨g,j,none⟩ v k (fun e=>hr (by rw[e]))).trans (h.block k hk hr)⟩
theorem RI1.drewN {W:World}{base g:Nat}{v:Value}{xs:List Int}(h:RI1 W base g v xs)(n:Nat):RI1 (W.drewN n) base g v xs:=h.below (ze (xb _ _) n)
theorem RI1.gr {W w1:World}{base g h:Nat}{v:Value}{xs:List Int}(hr:RI1 W base g v xs)(hg:W.grownBy w1 (some h))(hne:g≠h):RI1 w1 base g v xs:=
 Kd.R_grown hr hg (fun k hk e=>hne (by rw[←hk];injection e))
theorem trim_big (A:Option Addr)(c:Nat)(l:List Int)(w:World)(hC:Kd.C (Kd.int .i64) w A l.length l)(hl:l.length≤5000000)(hlc:l.length≤c):
 Calls Tryz.prog 213 #[.slice A l.length c] w fun e w'=>e= .returned (.slice A (zA l).length c)∧w'=w:=by
 obtain⟨r,hr⟩:∃r,zA l=r:=⟨_,rfl⟩;rw[hr];have HC:=zc.mk hC;have HT:=zc.mk hr;clear hC hr;go_enter Tryz.func213,Tryz.ntmps213
 go_wp2;go_loopg [0] (l.length+1) (fun kq v0 w'=>∃(l1:List Int),v0= .slice A l1.length c∧zc (Kd.C (Kd.int .i64) w A l1.length l1)∧zc (zA l1=r)∧l1.length<kq∧kq≤5000001∧l1.length≤c∧w'=w)
 case atStart=>exact⟨l,rfl,HC,HT,by omega,by omega,hlc,rfl⟩
 case round=>
  clear HC HT;obtain⟨l1,rfl,HC,HT,hlt,hkq,hl1,rfl⟩:=hrel;by_cases h0:l1=[]
  ·subst h0
   go_wp2_with fail;go_ret;have hr:r=[]:=HT.out.symm;subst hr;exact⟨rfl,rfl⟩
  ·have h1:0<l1.length:=List.length_pos_iff.2 h0
   have hlast:l1=l1.take (l1.length-1)++[rd l1 ((l1.length:Int)-1)]:=by
    have e:=drop_last l1 h1;rw[←e,List.take_append_drop]
   obtain⟨ad,hA,hcell⟩:=Kd.at_int HC.out ((l1.length:Int)-1) (by omega) (by omega)
   rw[show((l1.length:Int)-1).toNat=l1.length-1 by omega]at hcell
   have HL:=zc.mk hlast;clear hlast h0;obtain⟨x,hx⟩:∃x,rd l1 ((l1.length:Int)-1)=x:=⟨_,rfl⟩;rw[hx]at hcell HL;clear hx;by_cases hx:x=0
   ·subst hx
    have HC2:=zc.mk (C_take HC.out (l1.length-1) (by omega))
    have HT2:zA (l1.take (l1.length-1))=r:=by
     have h:=HT.out;rw[HL.out,qp]at h;exact h
    have HT3:=zc.mk HT2;have hlen:(l1.take (l1.length-1)).length=l1.length-1:=by rw[List.length_take];omega
    clear HC HT HT2 HL;subst hA;generalize l1.take (l1.length-1)=l2 at*;generalize l1.length=n at*;go_wp2_with fail;go_roundg (gk-1)
    case measure=>omega
    case rel=>exact⟨l2,by rw[hlen],by rw[hlen];exact HC2,HT3,by omega,by omega,by omega,rfl⟩
   ·have hr:r=l1:=by
     have h:=HT.out;rw[HL.out,qC _ _ hx,←HL.out]at h;exact h.symm
    subst hr;clear HC HT HL;subst hA;go_wp2_with fail;go_ret;exact⟨rfl,rfl⟩
theorem trim_bigN (A:Option Addr)(c n:Nat)(l:List Int)(w:World)(hn:l.length=n)(hC:Kd.C (Kd.int .i64) w A n l)(hl:n≤5000000)(hlc:n≤c):
 Calls Tryz.prog 213 #[.slice A n c] w fun e w'=>e= .returned (.slice A (zA l).length c)∧w'=w:=by
 subst hn;exact trim_big A c l w hC hl hlc
theorem lat_at (A:Option Addr)(c:Nat)(l:List Int)(k n:Nat)(hn:n=l.length)(W:World)(hC:Kd.C (Kd.int .i64) W A n l):
 Calls Tryz.prog 229 #[.slice A n c,.int .i64 (k:Int)] W fun e w'=>e= .returned (.int .i64 (rd l (k:Int)))∧w'=W:=by
 subst hn;by_cases hk:k<l.length
 ·obtain⟨ad,hA,q0⟩:=Kd.at_int hC (k:Int) (by omega) (by omega)
  have h1:(k:Int)<(l.length:Int):=by omega
  have h2:(0:Int)≤(k:Int):=by omega
  rw[xa]at q0;generalize rd l (k:Int)=x at*;subst hA;clear hC;go_enter Tryz.func229,Tryz.ntmps229
  go_wp2_with fail;go_ret;exact⟨rfl,rfl⟩
 ·rw[rd_none l k (by omega)]
  have h1:¬(k:Int)<(l.length:Int):=by omega
  clear hC;go_enter Tryz.func229,Tryz.ntmps229
  go_wp2_with fail;go_ret;exact⟨rfl,rfl⟩
theorem take_at (g base ca:Nat)(la lb:List Int)(cb:Nat)(j q:Nat)(w:World)(hR:RI1 w base g (.slice (some ⟨g,0,none⟩) la.length ca) la)(g2 b2:Nat)(hne:g2≠g)(hB:RI1 w b2 g2 (.slice (some ⟨g2,0,none⟩) lb.length cb) lb)(hla:wfL la)(hlb:wfL lb)(hq:q<10000)(hj:j+lb.length<la.length)(hsz:la.length≤5000000):
 Calls Tryz.prog 211 #[.slice (some ⟨g,0,none⟩) la.length ca,.slice (some ⟨g2,0,none⟩) lb.length cb,.int .i64 (j:Int),.int .i64 (q:Int)] w fun e w'=>∃c,e= .returned (.int .i64 c)∧c≤0∧∃u,TkI la lb j (q:Int) (lb.length+1) c u∧RI1 w' base g (.slice (some ⟨g,0,none⟩) la.length ca) u∧w.grownBy w' (some g):=by
 have HR:=zc.mk hR;have HB:=zc.mk hB;have HW:=zc.mk (And.intro hla hlb);have HT:=zc.mk (TkI.start la lb j (q:Int) hla);have HG:=zc.mk (World.grownBy.refl w (some g));obtain⟨n,hn⟩:∃n,la.length=n:=⟨_,rfl⟩;obtain⟨m,hm⟩:∃m,lb.length=m:=⟨_,rfl⟩;rw[hn]at HR hj hsz ⊢;rw[hm]at HB hj ⊢;have e1:IntKind.i64.wrap ((m:Int)+1)=(m:Int)+1:=by simp[j9];omega
 have hgw:g<w.heap.size:=by
  obtain⟨inner,ho⟩:=Kd.R_own HR.out;exact own_lt ho g rfl
 have hgw2:g2<w.heap.size:=by
  obtain⟨inner,ho⟩:=Kd.R_own HB.out;exact own_lt ho g2 rfl
 clear hR hB hla hlb;go_enter Tryz.func211,Tryz.ntmps211
 go_wp2_with fail;go_loopg [9,15] (m+2) (fun kq v9 v15 w'=>∃(k:Nat) (c:Int) (l:List Int),v15= .int .i64 (k:Int)∧v9= .int .i64 c∧k+kq=m+2∧k≤m+1∧c≤0∧zc (TkI la lb j (q:Int) k c l)∧zc (RI1 w' base g (.slice (some ⟨g,0,none⟩) n ca) l)∧zc (w.grownBy w' (some g)))
 case atStart=>exact⟨0,0,la,rfl,rfl,by omega,by omega,by omega,HT,HR,HG⟩
 case round=>
  clear HR HT HG;obtain⟨k,c,l,rfl,rfl,hk,hkm,hc0,HT,HR,HG⟩:=hrel;by_cases hie:k=m+1
  ·subst hie
   have h1:¬((m+1:Nat):Int)<(m:Int)+1:=by omega
   go_wp2_with fail;go_ret;exact⟨c,rfl,hc0,l,HT.out,HR.out,HG.out⟩
  ·have h1:(k:Int)<(m:Int)+1:=by omega
   obtain⟨x,hx⟩:∃x,rd l ((j+k:Nat):Int)=x:=⟨_,rfl⟩;obtain⟨y,hy⟩:∃y,rd lb (k:Int)=y:=⟨_,rfl⟩;have hs:=HT.out.take HW.out.2 (by rw[hn];omega) (Int.natCast_nonneg q) (by omega) hc0
   simp only[hx,hy]at hs;obtain⟨hc',hT',hn1,hn2,hp1,hp2⟩:=hs;have q0:=HR.out.cell (j+k) (by omega)
   rw[hx]at q0;have f0:=HR.out.frozen (j+k);have HA:=fun W h=>Lib.hid (lat_at (some ⟨g2,0,none⟩) cb lb k m hm.symm W h)
   rw[hy]at HA;have e2:IntKind.i64.wrap ((j:Int)+(k:Int))=((j+k:Nat):Int):=by simp[j9];omega
   have e3:IntKind.i64.wrap ((q:Int)*y)=(q:Int)*y:=by simp[j9];omega
   obtain⟨p,hp⟩:∃p,(q:Int)*y=p:=⟨_,rfl⟩;rw[hp]at e3 hp1 hp2 hT' hn1 hn2 hc';have hx0:=qc l HT.out.wf (j+k);rw[hx]at hx0;have hlo:=HT.out.lo;have e4:IntKind.i64.wrap (x-p)=x-p:=by simp[j9];omega
   have e5:IntKind.i64.wrap (x-p+c)=x-p+c:=by simp[j9];omega
   have i1:(0:Int)≤((j+k:Nat):Int):=by omega
   have i2:((j+k:Nat):Int)<(n:Int):=by omega
   have i3:((j+k:Nat):Int).toNat=j+k:=xa _;have HBk:=HB.out.gr HG.out hne;have HBC:=zc.mk HBk.C;go_wp2_with fail;go_quiet ((go_at_call 229;exact Calls.quiet_of_same (HA _ (Kd.C_below HBC.out (ze (xb _ _) _))).out))
   have HRd:=zc.mk (HR.out.drewN nq);have HGd:=zc.mk (gdrewN HG.out nq);have q1:=HRd.out.cell (j+k) (by omega)
   have f1:=HRd.out.frozen (j+k);generalize wr.drewN nq=W1 at*;obtain⟨z,hz⟩:∃z,x-p+c=z:=⟨_,rfl⟩;rw[hz]at hT' hn1 hn2 hc' ⊢;clear e4 e5 e3 HA HBC HBk q0 f0 HR HG hp hz;by_cases hz0:z<0
   ·rw[if_pos hz0]at hT' hc'
    obtain⟨u,hu⟩:∃u,(-z+9999)/10000=u:=⟨_,rfl⟩;rw[hu]at hT' hc';have e6:IntKind.i64.wrap (-z)= -z:=by simp[j9];omega
    have e7:IntKind.i64.wrap (-z+10000)= -z+10000:=by simp[j9];omega
    have e8:IntKind.i64.wrap (-z+10000-1)= -z+9999:=by simp[j9];omega
    have e9:(-z+9999).tdiv 10000=u:=by rw[Int.tdiv_eq_ediv_of_nonneg (by omega),hu]
    have e10:IntKind.i64.wrap u=u:=by simp[j9];omega
    have e11:IntKind.i64.wrap (-u)= -u:=by simp[j9];omega
    have e12:IntKind.i64.wrap (-u*10000)= -u*10000:=by simp[j9];omega
    have e13:IntKind.i64.wrap (z- -u*10000)=z- -u*10000:=by simp[j9];omega
    have HR2:=zc.mk (HRd.out.put (j+k) (by omega) (z- -u*10000))
    have HG2:=zc.mk (gset HGd.out (j+k) (.int .i64 (z- -u*10000)));have HT2:=zc.mk hT';clear hT' hn1 hn2 HT HRd HGd hx hy hu;go_wp2_with fail;go_roundg (gk-1)
    case measure=>omega
    case rel=>exact⟨k+1,-u,_,by go_num,rfl,by omega,by omega,hc',HT2,HR2,HG2⟩
   ·rw[if_neg hz0]at hT' hc'
    have e12:IntKind.i64.wrap z=z:=by simp[j9];omega
    have e13:z-0*10000=z:=by omega
    rw[e13]at hT';have HR2:=zc.mk (HRd.out.put (j+k) (by omega) z)
    have HG2:=zc.mk (gset HGd.out (j+k) (.int .i64 z));have HT2:=zc.mk hT';clear hT' hn1 hn2 HT HRd HGd hx hy;go_wp2_with fail;go_roundg (gk-1)
    case measure=>omega
    case rel=>exact⟨k+1,0,_,by go_num,rfl,by omega,by omega,by omega,HT2,HR2,HG2⟩
theorem give_at (g base ca:Nat)(la lb:List Int)(cb:Nat)(j:Nat)(w:World)(hR:RI1 w base g (.slice (some ⟨g,0,none⟩) la.length ca) la)(g2 b2:Nat)(hne:g2≠g)(hB:RI1 w b2 g2 (.slice (some ⟨g2,0,none⟩) lb.length cb) lb)(hla:wfL la)(hlb:wfL lb)(hj:j+lb.length<la.length)(hsz:la.length≤5000000):
 Calls Tryz.prog 212 #[.slice (some ⟨g,0,none⟩) la.length ca,.slice (some ⟨g2,0,none⟩) lb.length cb,.int .i64 (j:Int)] w fun e w'=>e= .returned (.tuple #[])∧∃c,0≤c∧∃u,TkI la lb j (-1) (lb.length+1) c u∧RI1 w' base g (.slice (some ⟨g,0,none⟩) la.length ca) u∧w.grownBy w' (some g):=by
 have HR:=zc.mk hR;have HB:=zc.mk hB;have HW:=zc.mk (And.intro hla hlb);have HT:=zc.mk (TkI.start la lb j (-1) hla);have HG:=zc.mk (World.grownBy.refl w (some g));obtain⟨n,hn⟩:∃n,la.length=n:=⟨_,rfl⟩;obtain⟨m,hm⟩:∃m,lb.length=m:=⟨_,rfl⟩;rw[hn]at HR hj hsz ⊢;rw[hm]at HB hj ⊢;have e1:IntKind.i64.wrap ((m:Int)+1)=(m:Int)+1:=by simp[j9];omega
 have hgw:g<w.heap.size:=by
  obtain⟨inner,ho⟩:=Kd.R_own HR.out;exact own_lt ho g rfl
 clear hR hB hla hlb;go_enter Tryz.func212,Tryz.ntmps212
 go_wp2_with fail;go_loopg [6,12] (m+2) (fun kq v6 v12 w'=>∃(k:Nat) (c:Int) (l:List Int),v12= .int .i64 (k:Int)∧v6= .int .i64 c∧k+kq=m+2∧k≤m+1∧0≤c∧zc (TkI la lb j (-1) k c l)∧zc (RI1 w' base g (.slice (some ⟨g,0,none⟩) n ca) l)∧zc (w.grownBy w' (some g)))
 case atStart=>exact⟨0,0,la,rfl,rfl,by omega,by omega,by omega,HT,HR,HG⟩
 case round=>
  clear HR HT HG;obtain⟨k,c,l,rfl,rfl,hk,hkm,hc0,HT,HR,HG⟩:=hrel;by_cases hie:k=m+1
  ·subst hie
   have h1:¬((m+1:Nat):Int)<(m:Int)+1:=by omega
   go_wp2_with fail;refine bodyPost_end (v:= .tuple #[]) (by simp[results,Tryz.f212,go_sem]) rfl ?_
   exact⟨rfl,c,hc0,l,HT.out,HR.out,HG.out⟩
  ·have h1:(k:Int)<(m:Int)+1:=by omega
   obtain⟨x,hx⟩:∃x,rd l ((j+k:Nat):Int)=x:=⟨_,rfl⟩;obtain⟨y,hy⟩:∃y,rd lb (k:Int)=y:=⟨_,rfl⟩;have hs:=HT.out.give HW.out.2 (by rw[hn];omega) hc0
   simp only[hx,hy]at hs;obtain⟨hn1,hn2,hc',hT'⟩:=hs;have q0:=HR.out.cell (j+k) (by omega)
   rw[hx]at q0;have f0:=HR.out.frozen (j+k);have HA:=fun W h=>Lib.hid (lat_at (some ⟨g2,0,none⟩) cb lb k m hm.symm W h)
   rw[hy]at HA;have e2:IntKind.i64.wrap ((j:Int)+(k:Int))=((j+k:Nat):Int):=by simp[j9];omega
   have hx0:=qc l HT.out.wf (j+k);rw[hx]at hx0;have hhi:=HT.out.hi;have e4:IntKind.i64.wrap (x+y)=x+y:=by simp[j9];omega
   have e5:IntKind.i64.wrap (x+y+c)=x+y+c:=by simp[j9];omega
   have i1:(0:Int)≤((j+k:Nat):Int):=by omega
   have i2:((j+k:Nat):Int)<(n:Int):=by omega
   have i3:((j+k:Nat):Int).toNat=j+k:=xa _;have HBk:=HB.out.gr HG.out hne;have HBC:=zc.mk HBk.C;go_wp2_with fail;go_quiet ((go_at_call 229;exact Calls.quiet_of_same (HA _ (Kd.C_below HBC.out (ze (xb _ _) _))).out))
   have HRd:=zc.mk (HR.out.drewN nq);have HGd:=zc.mk (gdrewN HG.out nq);have q1:=HRd.out.cell (j+k) (by omega)
   have f1:=HRd.out.frozen (j+k);generalize wr.drewN nq=W1 at*;obtain⟨z,hz⟩:∃z,x+y+c=z:=⟨_,rfl⟩;rw[hz]at hT' hn1 hn2 hc' ⊢;have e9:z.tdiv 10000=z/10000:=Int.tdiv_eq_ediv_of_nonneg (by omega)
   have e10:z.tmod 10000=z%10000:=Int.tmod_eq_emod_of_nonneg (by omega)
   obtain⟨u,hu⟩:∃u,z/10000=u:=⟨_,rfl⟩;obtain⟨s,hs⟩:∃s,z%10000=s:=⟨_,rfl⟩;rw[hu]at hT' hc' e9;rw[hs]at hT' e10;have e11:IntKind.i64.wrap u=u:=by simp[j9];omega
   have e12:IntKind.i64.wrap s=s:=by simp[j9];omega
   have HR2:=zc.mk (HRd.out.put (j+k) (by omega) s)
   have HG2:=zc.mk (gset HGd.out (j+k) (.int .i64 s));have HT2:=zc.mk hT';clear hT' HT HRd HGd hx hy hu hs e4 e5 HA HBC HBk q0 f0 HR HG hz;go_wp2_with fail;go_roundg (gk-1)
   case measure=>omega
   case rel=>exact⟨k+1,u,_,by go_num,rfl,by omega,by omega,hc',HT2,HR2,HG2⟩
theorem mul_at (A B:Option Addr)(c0 c1:Nat)(la lb:List Int)(w:World)(hla:wfL la)(hlb:wfL lb)(hA:Kd.C (Kd.int .i64) w A la.length la)(hB:Kd.C (Kd.int .i64) w B lb.length lb)(h1:la.length≤2000000)(h2:lb.length≤2000000):
 Calls Tryz.prog 210 #[.slice A la.length c0,.slice B lb.length c1] w fun e w'=>∃g l cap,e= .returned (.slice (some ⟨g,0,none⟩) l.length cap)∧RI1 w' w.heap.size g (.slice (some ⟨g,0,none⟩) l.length cap) l∧w.heap.size≤g∧isL l (lv la*lv lb)∧Below w.heap.size w w':=by
 have HA:=zc.mk hA;have HB:=zc.mk hB;have HW:=zc.mk (And.intro hla hlb);obtain⟨n,hn⟩:∃n,la.length=n:=⟨_,rfl⟩;obtain⟨m,hm⟩:∃m,lb.length=m:=⟨_,rfl⟩;rw[hn]at HA h1 ⊢;rw[hm]at HB h2 ⊢;have e1:IntKind.i64.wrap ((n:Int)+(m:Int))=((n+m:Nat):Int):=by simp[j9];omega
 obtain⟨N,hNN⟩:∃N,n+m+1=N:=⟨_,rfl⟩;obtain⟨N1,hN1⟩:∃N1,n+m=N1:=⟨_,rfl⟩;rw[hN1]at e1;have e2:IntKind.i64.wrap ((N1:Int)+1)=(N:Int):=by simp[j9];omega
 have e3:IntKind.i64.wrap ((m:Int)+1)=(m:Int)+1:=by simp[j9];omega
 clear hA hB hla hlb;go_enter Tryz.func210,Tryz.ntmps210
 go_wp2_with((with_reducible refine gate_dst (N:=16) rfl ?_);refine Kd.R_make (Kd.int .i64) (w0:=w) w.heap.size 3 rfl (N:=16) rfl 167 _ _ rfl (N:Int) rfl rfl Tryz.underlying167 (.int .i64 0) 8 info3 rfl (by decide) (by omega) 0 (ok:=fun _=>True) (okp:=fun _=>True) rfl (fun _ hk=>hk) trivial (by omega) (by omega) (xb _ _) (by simp) ?_;intro vo wo ho hbo hgo hnew;obtain⟨g,hg1,hg2⟩:=hnew;have r1:=RI1.of ho hg1;obtain⟨cap,rfl,hcap⟩:=r1.form hg1;clear hg1 ho;have HR:=zc.mk r1;have HG:=zc.mk hbo;clear r1 hgo hbo)
 have hN:(List.replicate (N:Int).toNat (0:Int)).length=N:=by rw[List.length_replicate,xa]
 rw[hN]at HR hcap;rw[xa]at HR;try rw[hN]
 try rw[List.length_replicate]
 try rw[xa]
 have hz0:zc (wfL (List.replicate N (0:Int))∧lv (List.replicate N (0:Int))=lv (la.take 0)*lv lb∧(List.replicate N (0:Int)).length=N):=by
  refine⟨fun x hx=>?_,?_,by simp⟩
  ·have:=List.eq_of_mem_replicate hx
   omega
  ·rw[jT (List.replicate N (0:Int)) (fun i=>by
    unfold rd;rw[xa,List.getD_eq_getElem?_getD,List.getElem?_replicate];split<;>rfl)]
   simp[lv]
 generalize List.replicate N (0:Int)=l0 at*;clear e1 e2 hN;go_loopg [19] (n+1) (fun kq v19 w'=>∃(i:Nat) (l:List Int),v19= .int .i64 (i:Int)∧i+kq=n+1∧i≤n∧zc (wfL l∧lv l=lv (la.take i)*lv lb∧l.length=N)∧zc (RI1 w' w.heap.size g (.slice (some ⟨g,0,none⟩) N cap) l)∧zc (Below w.heap.size w w'))
 case atStart=>exact⟨0,l0,rfl,by omega,by omega,hz0,HR,HG⟩
 case round=>
  clear HR HG hz0;obtain⟨i,l,rfl,hi,hin,HL,HR,HG⟩:=hrel;obtain⟨gq,hgq⟩:∃gq,gk=gq:=⟨_,rfl⟩;by_cases hie:i=n
  ·have h3:¬(i:Int)<(n:Int):=by omega
   subst hie;have hTR:=Lib.hid (trim_bigN (some ⟨g,0,none⟩) cap N l wr HL.out.2.2 (by have:=HR.out.C;exact this) (by omega) (by omega))
   go_wp2_with fail;refine hTR.out.mono ?_;rintro e w1 ⟨rfl,rfl⟩;go_wp2_with fail;go_ret;have hle:=(zO l).2.2.2;have hRT:=Kd.R_take HR.out (m:=(zA l).length) hle;rw[←ji]at hRT;refine⟨g,zA l,cap,rfl,hRT,by simpa using hg2,?_,HG.out⟩
   have h5:=qD l HL.out.1;rw[HL.out.2.1,←hn,List.take_length]at h5;exact h5
  ·have h3:(i:Int)<(n:Int):=by omega
   have hKA:=Kd.C_below HA.out HG.out;obtain⟨ad,hAd,qa⟩:=Kd.at_int hKA (i:Int) (by omega) (by omega)
   obtain⟨x,hx⟩:∃x,rd la (i:Int)=x:=⟨_,rfl⟩;rw[hx,xa]at qa;have hx0:=qc la HW.out.1 i;rw[hx]at hx0;have hi0:(0:Int)≤(i:Int):=by omega
   have HT:=zc.mk (TkI.start l lb i (-x) HL.out.1);clear hKA;subst hAd;go_wp2_with fail;go_loopg [8,27] (m+2) (fun kq v8 v27 w'=>∃(k:Nat) (c:Int) (l2:List Int),v27= .int .i64 (k:Int)∧v8= .int .i64 c∧k+kq=m+2∧k≤m+1∧0≤c∧zc (TkI l lb i (-x) k c l2)∧zc (RI1 w' w.heap.size g (.slice (some ⟨g,0,none⟩) N cap) l2)∧zc (Below w.heap.size w w'))
   case atStart=>exact⟨0,0,l,rfl,rfl,by omega,by omega,by omega,HT,HR,HG⟩
   case round=>
    clear HR HG HT qa;obtain⟨k,c,l2,rfl,rfl,hk,hkm,hc0,HT,HR,HG⟩:=hrel;by_cases hke:k=m+1
    ·subst hke
     have h4:¬((m+1:Nat):Int)<(m:Int)+1:=by omega
     have HL2:zc (wfL l2∧lv l2=lv (la.take (i+1))*lv lb∧l2.length=N):=by
      refine⟨HT.out.wf,?_,HT.out.len.trans HL.out.2.2⟩;refine mul_row HW.out.1 HW.out.2 (by omega) HL.out.2.1 ?_ HL.out.1 hc0 (by rw[HL.out.2.2,hn,hm];omega)
      rw[hx,hm];exact HT.out
     clear HT HL hx;go_wp2_with fail;go_roundg (gq-1)
     case measure=>omega
     case rel=>exact⟨i+1,l2,by go_num,by omega,by omega,HL2,HR,HG⟩
    ·have h4:(k:Int)<(m:Int)+1:=by omega
     obtain⟨y,hy⟩:∃y,rd lb (k:Int)=y:=⟨_,rfl⟩;obtain⟨z0,hz0⟩:∃z0,rd l2 ((i+k:Nat):Int)=z0:=⟨_,rfl⟩;have hs:=HT.out.mul HW.out.2 (by rw[HL.out.2.2];omega) hx0.1 hx0.2 hc0
     simp only[hz0,hy]at hs;obtain⟨hn1,hn2,hc',hT',hp1,hp2⟩:=hs;have q0:=HR.out.cell (i+k) (by omega)
     rw[hz0]at q0;have hHA:=fun W h=>Lib.hid (lat_at B c1 lb k m hm.symm W h)
     rw[hy]at hHA;have e4:IntKind.i64.wrap ((i:Int)+(k:Int))=((i+k:Nat):Int):=by simp[j9];omega
     have hz1:=qc l2 HT.out.wf (i+k);rw[hz0]at hz1;have hhi:=HT.out.hi;have e5:IntKind.i64.wrap (x*y)=x*y:=by simp[j9];omega
     obtain⟨p,hp⟩:∃p,x*y=p:=⟨_,rfl⟩;rw[hp]at e5 hp1 hp2 hT' hn1 hn2 hc';have e6:IntKind.i64.wrap (z0+p)=z0+p:=by simp[j9];omega
     have e7:IntKind.i64.wrap (c+(z0+p))=c+(z0+p):=by simp[j9];omega
     have i1:(0:Int)≤((i+k:Nat):Int):=by omega
     have i2:((i+k:Nat):Int)<(N:Int):=by omega
     have i3:((i+k:Nat):Int).toNat=i+k:=xa _;have HBC:=zc.mk (Kd.C_below HB.out HG.out);go_wp2_with fail;go_quiet ((go_at_call 229;exact Calls.quiet_of_same (hHA _ (Kd.C_below HBC.out (ze (xb _ _) _))).out))
     have HRd:=zc.mk (HR.out.drewN nq);have HGd:=zc.mk (ze HG.out nq);have q1:=HRd.out.cell (i+k) (by omega)
     have f1:=HRd.out.frozen (i+k);generalize wr.drewN nq=W1 at*;obtain⟨z,hz⟩:∃z,c+(z0+p)=z:=⟨_,rfl⟩;rw[hz]at hT' hn1 hn2 hc' ⊢;have e9:z.tdiv 10000=z/10000:=Int.tdiv_eq_ediv_of_nonneg (by omega)
     have e10:z.tmod 10000=z%10000:=Int.tmod_eq_emod_of_nonneg (by omega)
     obtain⟨u,hu⟩:∃u,z/10000=u:=⟨_,rfl⟩;obtain⟨s,hs⟩:∃s,z%10000=s:=⟨_,rfl⟩;rw[hu]at hT' hc' e9;rw[hs]at hT' e10;have e11:IntKind.i64.wrap u=u:=by simp[j9];omega
     have e12:IntKind.i64.wrap s=s:=by simp[j9];omega
     have HR2:=zc.mk (HRd.out.put (i+k) (by omega) s)
     have HG2:=zc.mk (HGd.out.setCell (p:=⟨g,i+k,none⟩) (by simpa using hg2) (.int .i64 s))
     have HT2:=zc.mk hT';clear hT' HT HRd HGd hy hz0 hu hs e5 e6 e7 hHA HBC q0 HR HG hz hp;go_wp2_with fail;go_roundg (gk-1)
     case measure=>omega
     case rel=>exact⟨k+1,u,_,by go_num,rfl,by omega,by omega,hc',HT2,HR2,HG2⟩
end Go.Proofs.YtjopepfemhckjaaGreatDoor.NW
end
