/-
  Part 3 of the proof of parseTells_holds: texts of this seat, put together.
-/
import Derived.Deep.LoopGhost
import Derived.Test.YtjopepfemhckjaaGreatDoorTl2
set_option linter.unusedVariables false
set_option linter.unusedSimpArgs false
set_option maxHeartbeats 16000000
set_option maxRecDepth 100000
section
namespace Go.Proofs.YtjopepfemhckjaaGreatDoor.PN
open Go.Proofs Go.RowKit Go.Proofs.YtjopepfemhckjaaGreatDoorW.PrintWords Go.Proofs.YtjopepfemhckjaaGreatDoor.PParseTells
theorem wrap_id (a:Int)(h1: -9223372036854775808≤a)(h2:a≤9223372036854775807):wrap64 a=a:=by
 unfold wrap64;omega
def lv:List Int→Nat
 |[]=>0
 |x::l=>x.toNat+10000*lv l
def wfL (l:List Int):Prop:=∀x∈l,0≤x∧x<10000
def trd (l:List Int):Prop:=l.getLast?≠some 0
structure isL (l:List Int) (n:Nat):Prop where
 wf:wfL l
 tr:trd l
 val:lv l=n
theorem lv_append (a b:List Int):lv (a++b)=lv a+10000^a.length*lv b:=by
 induction a with
 |nil=>simp[lv]
 |cons x a ih=>
  show x.toNat+10000*lv (a++b)=x.toNat+10000*lv a+10000^(a.length+1)*lv b
  rw[ih,Nat.pow_succ];grind
theorem lv_one (x:Int):lv [x]=x.toNat:=by simp[lv]
theorem lv_snoc (a:List Int)(x:Int):lv (a++[x])=lv a+10000^a.length*x.toNat:=by rw[lv_append,lv_one]
theorem lv_lt (l:List Int)(h:wfL l):lv l<10000^l.length:=by
 induction l with
 |nil=>simp[lv]
 |cons x l ih=>
  have h1:=h x (by simp)
  have h2:=ih (fun y hy=>h y (by simp[hy]))
  show x.toNat+10000*lv l<10000^(l.length+1)
  rw[Nat.pow_succ];omega
theorem wfL_app {a b:List Int}:wfL (a++b)↔wfL a∧wfL b:=by
 unfold wfL;constructor
 ·intro h
  exact⟨fun x hx=>h x (by simp[hx]),fun x hx=>h x (by simp[hx])⟩
 ·rintro⟨h1,h2⟩ x hx
  rcases List.mem_append.1 hx with h|h
  ·exact h1 x h
  ·exact h2 x h
theorem trd_ge (l:List Int)(hw:wfL l)(ht:trd l)(hn:l≠[]):10000^(l.length-1)≤lv l:=by
 rcases List.eq_nil_or_concat l with rfl|⟨a,x,rfl⟩
 ·exact absurd rfl hn
 ·rw[List.concat_eq_append]at*
  have hx:=hw x (by simp)
  have:x≠0:=by
   intro e;apply ht;rw[e];simp
  rw[lv_snoc];simp only[List.length_append,List.length_cons,List.length_nil,Nat.add_sub_cancel];have:10000^a.length*1≤10000^a.length*x.toNat:=Nat.mul_le_mul_left _ (by omega)
  omega
theorem same_limbs (l m:List Int)(hl:wfL l)(hm:wfL m)(e:l.length=m.length)(h:lv l=lv m):l=m:=by
 induction l generalizing m with
 |nil=>cases m with
  |nil=>rfl
  |cons _ _=>cases e
 |cons x l ih=>
  cases m with
  |nil=>cases e
  |cons y m=>
   have hx:=hl x (by simp)
   have hy:=hm y (by simp)
   have h':x.toNat+10000*lv l=y.toNat+10000*lv m:=h;have e1:x=y:=by omega
   rw[e1,ih m (fun z hz=>hl z (by simp[hz])) (fun z hz=>hm z (by simp[hz])) (by simpa using e) (by omega)]
theorem isL.len_lt {l m:List Int}{n k:Nat}(h:isL l n)(g:isL m k)(hl:l.length<m.length):n<k:=by
 have h1:=lv_lt l h.wf;have h2:=trd_ge m g.wf g.tr (by intro e;rw[e]at hl;simp at hl)
 rw[h.val]at h1;rw[g.val]at h2;have:10000^l.length≤10000^(m.length-1):=Nat.pow_le_pow_right (by omega) (by omega)
 omega
theorem isL.inj {l m:List Int}{n:Nat}(h:isL l n)(g:isL m n):l=m:=by
 refine same_limbs l m h.wf g.wf ?_ (h.val.trans g.val.symm);rcases Nat.lt_trichotomy l.length m.length with c|c|c
 ·have:=h.len_lt g c;omega
 ·exact c
 ·have:=g.len_lt h c;omega
theorem isL.nil:isL [] 0:=⟨fun _ h=>(by cases h),by simp[trd],rfl⟩
theorem isL.nil_iff {l:List Int}{n:Nat}(h:isL l n):l=[]↔n=0:=
 ⟨fun e=>by subst e;exact h.val.symm,fun e=>by subst e;exact h.inj isL.nil⟩
theorem isL.len {l:List Int}{n:Nat}(h:isL l n)(k:Nat)(hk:n<10000^k):l.length≤k:=by
 by_cases hn:l=[]
 ·subst hn;simp
 ·have h2:=trd_ge l h.wf h.tr hn
  rw[h.val]at h2;have:l.length-1<k:=(Nat.pow_lt_pow_iff_right (a:=10000) (by omega)).1 (by omega)
  omega
theorem isL.one {l:List Int}{n:Nat}(h:isL l n)(h1:l.length=1):l=[(n:Int)]:=by
 match l,h1 with
 |[x],_=>
  have hx:=h.wf x (by simp)
  have:=h.val;rw[lv_one]at this;congr 1
  omega
def zA:List Int→List Int
 |l=>(l.reverse.dropWhile (·==0)).reverse
theorem qp (l:List Int):zA (l++[0])=zA l:=by simp[zA]
theorem qC (l:List Int)(x:Int)(h:x≠0):zA (l++[x])=l++[x]:=by simp[zA,h]
theorem trim_law (n:Nat):∀(l:List Int) (k:Nat),l.length=n→n<k→l.length≤4611686018427387904→nat_limbs_trim.f k l=some (zA l):=by
 induction n with
 |zero=>
  intro l k h hk _;obtain rfl:=List.length_eq_zero_iff.1 h;obtain⟨k,rfl⟩:∃k',k=k'+1:=⟨k-1,by omega⟩
  rfl
 |succ n ih=>
  intro l k h hk hm;obtain⟨k,rfl⟩:∃k',k=k'+1:=⟨k-1,by omega⟩
  rcases List.eq_nil_or_concat l with rfl|⟨a,x,rfl⟩
  ·simp at h
  ·rw[List.concat_eq_append]at*
   have hl:(a++[x]).length=a.length+1:=by simp
   have ha:a.length=n:=by omega
   unfold nat_limbs_trim.f nat_limbs_trim.l0;have hw:wrap64 (((a++[x]).length:Int)-1)=(a.length:Int):=by rw[wrap_id _ (by omega) (by omega)];omega
   have hr:rd (a++[x]) (a.length:Int)=x:=by
    unfold rd;rw[Int.toNat_natCast,List.getD_eq_getElem?_getD];simp
   rw[hw,hr,if_pos (by omega),if_pos (by omega),if_pos (by omega)]
   by_cases hx:x=0
   ·subst hx
    rw[if_pos rfl,if_pos (by omega),Int.toNat_natCast,qp]
    have:(a++[(0:Int)]).take a.length=a:=by simp
    rw[this];exact ih a k ha (by omega) (by omega)
   ·rw[if_neg hx,qC a x hx]
theorem zO (l:List Int):lv (zA l)=lv l∧trd (zA l)∧(wfL l→wfL (zA l))∧(zA l).length≤l.length:=by
 induction hn:l.length generalizing l with
 |zero=>
  obtain rfl:=List.length_eq_zero_iff.1 hn;exact⟨rfl,by simp[trd,zA],fun h=>h,Nat.le_refl _⟩
 |succ n ih=>
  rcases List.eq_nil_or_concat l with rfl|⟨a,x,rfl⟩
  ·simp at hn
  ·rw[List.concat_eq_append]at*
   by_cases hx:x=0
   ·subst hx
    obtain⟨h1,h2,h3,h4⟩:=ih a (by simpa using hn)
    rw[qp];refine⟨by rw[h1,lv_snoc];simp,h2,fun h=>h3 (wfL_app.1 h).1,by simp at hn;omega⟩
   ·rw[qC a x hx]
    exact⟨rfl,by simp[trd,hx],fun h=>h,Nat.le_of_eq hn⟩
theorem qD (l:List Int)(h:wfL l):isL (zA l) (lv l):=⟨(zO l).2.2.1 h,(zO l).2.1,(zO l).1⟩
end Go.Proofs.YtjopepfemhckjaaGreatDoor.PN
end
section
namespace Go.Proofs.YtjopepfemhckjaaGreatDoor.NW
open Go.Proofs Go.RowKit Go.Proofs.YtjopepfemhckjaaGreatDoor.PN Go.Proofs.YtjopepfemhckjaaGreatDoorW.PrintWords Go.Proofs.YtjopepfemhckjaaGreatDoor.PParseTells
variable {w w1 W:World} {g n c base:Nat} {xs:List Int} {ok:Nat→Prop} {v:Value}
def RI1 (W:World)(base g:Nat)(v:Value)(xs:List Int):Prop:=Kd.R (Kd.int .i64) 3 W base (fun k=>k=g) v xs
theorem RI1.of (h:Kd.R (Kd.int .i64) 3 W base ok v xs)(hb:v.ownBlock=some g):RI1 W base g v xs:=⟨fun k hk=>by rw[hb]at hk;injection hk with hk;exact hk.symm,h.2⟩
theorem RI1.below (h:RI1 W base g v xs)(hb:Below W.heap.size W w1):RI1 w1 base g v xs:=Kd.R_below h hb
theorem RI1.far (h:RI1 W base g v xs){p:Addr}(hp:g≠p.block)(u:Value):RI1 (W.setCell p u) base g v xs:=Kd.R_far h (fun k hk=>by rw[hk];exact hp) u
theorem RI1.grown (h:RI1 W base g v xs){row:Option Nat}(hg:W.grownBy w1 row)(hr:∀r,row=some r→∃o,W.heap[r]? =some o∧o.isCells=false):RI1 w1 base g v xs:=by
 refine Kd.R_mono (Kd.R_grown (Kd.R_bound h) hg ?_) (fun k hk=>hk.1)
 rintro k ⟨_,_,_,q,_,cells,hc⟩ e;obtain⟨o,ho,hoc⟩:=hr k e.symm;rw[hc]at ho;injection ho with ho;subst ho;simp[Obj.isCells]at hoc
theorem RI1.form (h:RI1 W base g v xs)(hb:v.ownBlock=some g):∃cap,v= .slice (some ⟨g,0,none⟩) xs.length cap∧xs.length≤cap:=by
 obtain⟨inner,ho,hr⟩:=h.2;rcases ho.2 with⟨rfl,_⟩|⟨g',cap,cur,rfl,_,_,hc,_⟩
 ·simp[Value.ownBlock]at hb
 ·simp[Value.ownBlock]at hb
  subst hb;exact⟨cap,rfl,hc⟩
theorem RI1.C (h:RI1 W base g (.slice (some ⟨g,0,none⟩) n c) xs):Kd.C (Kd.int .i64) W (some ⟨g,0,none⟩) n xs:=by
 obtain⟨h1,_,h3⟩:=Kd.R_reads' h;rw[h1];exact h3
theorem RI1.len (h:RI1 W base g (.slice (some ⟨g,0,none⟩) n c) xs):n=xs.length∧n≤c:=⟨(Kd.R_reads' h).1,(Kd.R_reads' h).2.1⟩
theorem RI1.cell (h:RI1 W base g (.slice (some ⟨g,0,none⟩) n c) xs)(i:Nat)(hi:i<n):W.cell? ⟨g,i,none⟩=some (.int .i64 (rd xs (i:Int))):=by
 obtain⟨ad,he,hc⟩:=Kd.at_int h.C (i:Int) (by omega) (by omega)
 injection he with he;subst he;rw[Int.toNat_natCast,add_plain]at hc;exact hc
theorem RI1.frozen (h:RI1 W base g (.slice (some ⟨g,0,none⟩) n c) xs)(i:Nat):W.frozen? ⟨g,i,none⟩=false:=by
 obtain⟨inner,ho,hr⟩:=h.2;rcases ho.2 with⟨hv,_⟩|⟨g',cap,cur,hv,_,hh,_⟩
 ·cases hv
 ·injection hv with h1
  injection h1 with h1;injection h1 with h1;subst h1;unfold World.frozen?;rw[hh];simp
theorem RI1.put (h:RI1 W base g (.slice (some ⟨g,0,none⟩) n c) xs)(i:Nat)(hi:i<n)(x:Int):RI1 (W.setCell ⟨g,i,none⟩ (.int .i64 x)) base g (.slice (some ⟨g,0,none⟩) n c) (xs.set i x):=by
 have hz:(Kd.int .i64).sz=1:=rfl;have h1:=Kd.R_seg (d:=Kd.int .i64) h (i:Int) (by omega) (by omega) (c:=[.int .i64 (rd xs (i:Int))]) (seg:=[.int .i64 x]) (j:=0) rfl
  (by
   intro j u hu;cases j with
   |zero=>
    simp at hu;subst hu;have:=h.cell i hi;rw[hz,Int.toNat_natCast,Nat.mul_one,Nat.add_zero];exact this
   |succ j=>simp at hu)
  (by rw[hz];simp) (x':=x) (okp:=fun _=>False) rfl (fun _ hk=>hk.elim)
 have h2:=h1.1;rw[hz,Int.toNat_natCast,Nat.mul_one,Nat.add_zero]at h2;exact h2
theorem RI1.V (h:RI1 W base g v xs)(hb:base≤g)(b0:Nat)(hb0:b0≤base):Kd.V (Kd.int .i64) 3 W b0 (fun k=>b0≤k) v xs:=
 Kd.V_mono (Kd.R_V (base':=b0) h) (fun k hk=>by rw[hk];omega)
end Go.Proofs.YtjopepfemhckjaaGreatDoor.NW
end
section
namespace Go.Proofs.YtjopepfemhckjaaGreatDoor.NW
open Go.Proofs Go.RowKit Go.Proofs.YtjopepfemhckjaaGreatDoor.PN Go.Proofs.YtjopepfemhckjaaGreatDoorW.PrintWords Go.Proofs.YtjopepfemhckjaaGreatDoor.PParseTells
theorem C_take {w:World}{A:Option Addr}{l:List Int}(h:Kd.C (Kd.int .i64) w A l.length l)(n:Nat)(hn:n≤l.length):Kd.C (Kd.int .i64) w A n (l.take n):=by
 obtain⟨h1,h2,h3⟩:=h;refine⟨by rw[List.length_take];omega,by omega,fun hp=>?_⟩
 obtain⟨ad,e,hc⟩:=h3 (by omega)
 refine⟨ad,e,fun j p hj=>hc j p ?_⟩
 rw[List.getElem?_take]at hj;split at hj
 ·exact hj
 ·cases hj
theorem drop_last (l:List Int)(h:0<l.length):l.drop (l.length-1)=[rd l ((l.length:Int)-1)]:=by
 rw[List.drop_eq_getElem_cons (by omega),List.drop_eq_nil_of_le (by omega)]
 congr 1
 unfold rd;rw[show((l.length:Int)-1).toNat=l.length-1 by omega,List.getD_eq_getElem?_getD,List.getElem?_eq_getElem (by omega)]
 rfl
theorem trim_at (A:Option Addr)(c:Nat)(l:List Int)(w:World)(hC:Kd.C (Kd.int .i64) w A l.length l)(hl:l.length≤1000000)(hlc:l.length≤c):
 Calls Tryz.prog 213 #[.slice A l.length c] w fun e w'=>e= .returned (.slice A (zA l).length c)∧w'=w:=by
 obtain⟨r,hr⟩:∃r,zA l=r:=⟨_,rfl⟩;rw[hr];have HC:=zc.mk hC;have HT:=zc.mk hr;clear hC hr;go_enter Tryz.func213,Tryz.ntmps213
 go_wp2;go_loopg [0] (l.length+1) (fun kq v0 w'=>∃(l1:List Int),v0= .slice A l1.length c∧zc (Kd.C (Kd.int .i64) w A l1.length l1)∧zc (zA l1=r)∧l1.length<kq∧kq≤1000001∧l1.length≤c∧w'=w)
 case atStart=>exact⟨l,rfl,HC,HT,by omega,by omega,hlc,rfl⟩
 case round=>
  clear HC HT;obtain⟨l1,rfl,HC,HT,hlt,hkq,hl1,rfl⟩:=hrel;by_cases h0:l1=[]
  ·subst h0
   go_wp2_with fail;go_ret;have hr:r=[]:=HT.out.symm;subst hr;exact⟨rfl,rfl⟩
  ·have h1:0<l1.length:=List.length_pos_iff.2 h0
   have hlast:l1=l1.take (l1.length-1)++[rd l1 ((l1.length:Int)-1)]:=by
    have e:=drop_last l1 h1;rw[←e,List.take_append_drop]
   obtain⟨ad,hA,hcell⟩:=Kd.at_int HC.out ((l1.length:Int)-1) (by omega) (by omega)
   rw[show((l1.length:Int)-1).toNat=l1.length-1 by omega]at hcell
   have HL:=zc.mk hlast;clear hlast h0;obtain⟨x,hx⟩:∃x,rd l1 ((l1.length:Int)-1)=x:=⟨_,rfl⟩;rw[hx]at hcell HL;clear hx;by_cases hx:x=0
   ·subst hx
    have HC2:=zc.mk (C_take HC.out (l1.length-1) (by omega))
    have HT2:zA (l1.take (l1.length-1))=r:=by
     have h:=HT.out;rw[HL.out,qp]at h;exact h
    have HT3:=zc.mk HT2;have hlen:(l1.take (l1.length-1)).length=l1.length-1:=by rw[List.length_take];omega
    clear HC HT HT2 HL;subst hA;generalize l1.take (l1.length-1)=l2 at*;generalize l1.length=n at*;go_wp2_with fail;go_roundg (gk-1)
    case measure=>omega
    case rel=>exact⟨l2,by rw[hlen],by rw[hlen];exact HC2,HT3,by omega,by omega,by omega,rfl⟩
   ·have hr:r=l1:=by
     have h:=HT.out;rw[HL.out,qC _ _ hx,←HL.out]at h;exact h.symm
    subst hr;clear HC HT HL;subst hA;go_wp2_with fail;go_ret;exact⟨rfl,rfl⟩
end Go.Proofs.YtjopepfemhckjaaGreatDoor.NW
end
