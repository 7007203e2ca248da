/-
  Part 31 of the proof of parseTells_holds: texts of this seat, put together.
-/
import Derived.Test.YtjopepfemhckjaaGreatDoorTl30
set_option linter.unusedVariables false
set_option linter.unusedSimpArgs false
set_option maxHeartbeats 16000000
set_option maxRecDepth 100000
section
namespace Go.Proofs.YtjopepfemhckjaaGreatDoor.NW
open Go.Proofs Go.RowKit Go.Shelf Go.Proofs.YtjopepfemhckjaaGreatDoor.PN Go.Proofs.YtjopepfemhckjaaGreatDoorW.PrintWords Go.Proofs.YtjopepfemhckjaaGreatDoor.PParseTells
def HG (o:List Nd)(h:Nat):Prop:=∀(α:Type) (f:Nd→List α→α),∃st,runF f o []=some st∧st.length=h
theorem runF_app {α:Type}(f:Nd→List α→α)(a b:List Nd):∀st,runF f (a++b) st=(runF f a st).bind (runF f b):=by
 induction a with
 |nil=>intro st;rfl
 |cons n t ih=>
  intro st;show(stp f n st).bind (runF f (t++b))=((stp f n st).bind (runF f t)).bind (runF f b)
  cases stp f n st with
  |none=>rfl
  |some s=>exact ih s
theorem HG.nil:HG [] 0:=fun _ _=>⟨[],rfl,rfl⟩
theorem HG.snoc {o:List Nd}{h:Nat}(hg:HG o h)(x:Nd)(hx:ar x≤h):HG (o++[x]) (h-ar x+1):=by
 intro α f;obtain⟨st,h1,h2⟩:=hg α f;refine⟨st.take (st.length-ar x)++[f x (st.drop (st.length-ar x))],?_,?_⟩
 ·rw[runF_app,h1]
  show runF f [x] st=_
  show(stp f x st).bind (runF f [])=_
  unfold stp;rw[if_pos (by omega)]
  rfl
 ·rw[List.length_append,List.length_take]
  simp only[List.length_cons,List.length_nil];omega
inductive XOK:S82→Nat→Prop
 |bin (op rank:Int) (h:6≤op∧op≤9) (hr:rank=1∨rank=2):XOK ⟨op,rank,0⟩ 1
 |neg:XOK ⟨5,3,0⟩ 0
 |par:XOK ⟨-1,0,0⟩ 0
 |fn (kk a:Nat) (q:Int) (h:10≤kk∧kk≤12) (h1:1≤q) (h2:q+a=nmA kk):XOK ⟨kk,0,q⟩ a
inductive ROK:List S82→Nat→Prop
 |nil:ROK [] 0
 |cons {x r a b} (h:XOK x a) (hr:ROK r b):ROK (x::r) (a+b)
def NdOKs (o:List Nd):Prop:=∀x∈o,NdOK BigM x
theorem NdOKs.snoc {o:List Nd}(h:NdOKs o){x:Nd}(hx:NdOK BigM x):NdOKs (o++[x]):=by
 intro y hy;rcases List.mem_append.1 hy with hy|hy
 ·exact h y hy
 ·rw[List.mem_singleton.1 hy]
  exact hx
def wr:List S82→Int
 |[]=>0
 |x::r=>(if x.f0<0 then-1 else 1)+wr r
theorem wr_pos (x:S82)(r:List S82)(h:¬x.f0<0):wr (x::r)=1+wr r:=by
 show(if x.f0<0 then(-1:Int)else 1)+wr r=_
 rw[if_neg h]
theorem wr_neg (x:S82)(r:List S82)(h:x.f0<0):wr (x::r)= -1+wr r:=by
 show(if x.f0<0 then(-1:Int)else 1)+wr r=_
 rw[if_pos h]
structure Iv (m:Bool) (r:List S82) (o:List Nd) (n:Int):Prop where
 ex:∃h,ROK r h∧HG o (if m=true then h else h+1)
 ok:NdOKs o
 len:(o.length:Int)+wr r≤n
theorem pop_iv (rank:Int)(hr:1≤rank):∀(r:List S82) (o:List Nd) (r':List S82) (o':List Nd) (n:Int),popR rank r o=(r',o')→Iv false r o n→Iv false r' o' n:=by
 intro r;induction r with
 |nil=>
  intro o r' o' n h hi;unfold popR at h;injection h with h1 h2;subst h1 h2;exact hi
 |cons x r ih=>
  intro o r' o' n h hi;unfold popR at h;by_cases hx:rank≤x.f1
  ·rw[if_pos hx]at h
   refine ih _ _ _ _ h ?_;obtain⟨⟨hh,h1,h2⟩,h3,h4⟩:=hi;rw[if_neg (by decide)]at h2
   cases h1 with| @cons _ _ a b hxo hro=>
   have hlen:¬x.f0<0→((o++[Nd.op x.f0.toNat]).length:Int)+wr r≤n:=by
    intro hx0;rw[wr_pos x r hx0]at h4;rw[List.length_append];simp only[List.length_cons,List.length_nil];omega
   cases hxo with
   |bin op rank' hop hrk=>
    refine⟨⟨b,hro,?_⟩,h3.snoc (by show 5≤op.toNat∧op.toNat≤12;omega),hlen (by show¬op<0;omega)⟩
    have ha:ar (.op op.toNat)=2:=by
     show(if op.toNat=5 then 1 else if op.toNat≤11 then 2 else 3)=2
     rw[if_neg (by omega),if_pos (by omega)]
    have:=h2.snoc (.op op.toNat) (by rw[ha];omega)
    rw[ha]at this;rw[if_neg (by decide)]
    rw[show b+1=1+b+1-2+1 by omega]
    exact this
   |neg=>
    refine⟨⟨b,hro,?_⟩,h3.snoc (by show 5≤(5:Nat)∧5≤12;omega),hlen (by decide)⟩
    have:=h2.snoc (.op 5) (by show 1≤_;omega)
    rw[if_neg (by decide)]
    rw[show b+1=0+b+1-1+1 by omega]
    exact this
   |par=>exact absurd hx (by show¬rank≤0;omega)
   |fn kk a q h h1 h2=>exact absurd hx (by show¬rank≤0;omega)
  ·rw[if_neg hx]at h
   injection h with h1 h2;subst h1 h2;exact hi
theorem pop_top (rank:Int):∀(r:List S82) (o:List Nd) (x:S82) (r':List S82) (o':List Nd),popR rank r o=(x::r',o')→x.f1<rank:=by
 intro r;induction r with
 |nil=>intro o x r' o' h;cases h
 |cons y r ih=>
  intro o x r' o' h;unfold popR at h;by_cases hx:rank≤y.f1
  ·rw[if_pos hx]at h
   exact ih _ _ _ _ h
  ·rw[if_neg hx]at h
   injection h with h1 h2;injection h1 with h3 h4;subst h3;omega
theorem op_tot (t:S75):∃op rk,parse_operator.f t.f0 t.f1 t.f2 t.f3=some (op,rk)∧((6≤op∧op≤9∧(rk=1∨rk=2))∨rk=0):=by
 unfold parse_operator.f;repeat' split
 all_goals exact⟨_,_,rfl,by omega⟩
theorem known_tot (s:ByteArray):parse_known.f s=some false∨(∃kk,1≤kk∧kk≤4∧s=nmP kk)∨(∃kk,10≤kk∧kk≤12∧s=nmF kk)∨s=⟨#[110,117,109]⟩:=by
 have key:∀(l:List UInt8),s.toList=l→s=⟨l.toArray⟩:=by
  intro l h;rw[Lib.toList_data]at h;subst h;exact(mkB s).symm
 unfold parse_known.f;by_cases h1:s.toList=[112,120]
 ·exact .inr (.inl ⟨1,by omega,by omega,key _ h1⟩)
 rw[if_neg h1];by_cases h2:s.toList=[97,118,103]
 ·exact .inr (.inl ⟨2,by omega,by omega,key _ h2⟩)
 rw[if_neg h2];by_cases h3:s.toList=[104,105]
 ·exact .inr (.inl ⟨3,by omega,by omega,key _ h3⟩)
 rw[if_neg h3];by_cases h4:s.toList=[108,111]
 ·exact .inr (.inl ⟨4,by omega,by omega,key _ h4⟩)
 rw[if_neg h4];by_cases h5:s.toList=[109,97,120]
 ·exact .inr (.inr (.inl ⟨10,by omega,by omega,key _ h5⟩))
 rw[if_neg h5];by_cases h6:s.toList=[109,105,110]
 ·exact .inr (.inr (.inl ⟨11,by omega,by omega,key _ h6⟩))
 rw[if_neg h6];by_cases h7:s.toList=[105,102]
 ·exact .inr (.inr (.inl ⟨12,by omega,by omega,key _ h7⟩))
 rw[if_neg h7];by_cases h8:s.toList=[110,117,109]
 ·exact .inr (.inr (.inr (key _ h8)))
 rw[if_neg h8];exact .inl rfl
section
variable {s:PS} {last:S75}
theorem d1_ok (ht:∀t∈s.toks,TokOK t)(he:(s.d1 last).1.e=0):NmOK ((s.must ⟨#[40]⟩ last).take 0 (fun _=>true)).2.1∧0≤(s.d1 last).2∧(s.d1 last).2≤9999:=by
 obtain⟨k1,k2,k3⟩:=nat_e (show((((s.must ⟨#[40]⟩ last).nm last).must ⟨#[44]⟩ last).nat (dayP 0 9999) last).1.e=0 from he)
 have e2:=(must_e k3).2.2;obtain⟨q1,q2,q3,q4⟩:=name_e e2;constructor
 ·rw[q3]
  obtain⟨t,r,h1,h2,h3,h4⟩:=PS.has_cons q1;rw[h1];show NmOK t.f1
  have hm:t∈s.toks:=(qe (s:=s) (last:=last) ⟨#[40]⟩).subset (by rw[h1];exact List.mem_cons_self ..)
  rcases ht t hm with⟨_,h⟩|⟨h,_⟩|⟨h,_⟩
  ·exact h
  ·rw[h3]at h;exact absurd h (by decide)
  ·rw[h3]at h;exact absurd h (by decide)
 ·obtain⟨t,r,h1,h2,h3,h4⟩:=PS.has_cons k1
  have h5:(s.d1 last).2=(zw t.f1).1:=by
   show(zw ((((s.must ⟨#[40]⟩ last).nm last).must ⟨#[44]⟩ last).nat (dayP 0 9999) last).2).1=_
   rw[k2,h1];rfl
  rw[h5];rw[Bool.and_eq_true]at h4;have h6:=h4.2;unfold dayP at h6;simp only[Bool.and_eq_true,decide_eq_true_eq]at h6;omega
theorem price_ok (ht:∀t∈s.toks,TokOK t)(kk:Nat)(hkk:1≤kk∧kk≤4)(he:(s.price kk last).1.e=0):NdOK BigM (s.price kk last).2∧ar (s.price kk last).2=0:=by
 rw[jH]at he ⊢;by_cases ho:(kk:Int)=1
 ·rw[if_pos ho]at he ⊢
  obtain⟨g1,g2,g3⟩:=d1_ok ht (must_e he).2.2;exact⟨⟨g1,g2,g3⟩,rfl⟩
 ·rw[if_neg ho]at he ⊢
  have e1:=(must_e he).2.2;obtain⟨k1,k2,k3⟩:=nat_e (show(((s.d1 last).1.must ⟨#[44]⟩ last).nat (dayP (s.d1 last).2 ((s.d1 last).2+59)) last).1.e=0 from e1)
  have e3:=(must_e k3).2.2;obtain⟨g1,g2,g3⟩:=d1_ok ht e3;obtain⟨t,r,h1,h2,h3,h4⟩:=PS.has_cons k1;have h5:(PS.d2 (s.d1 last) last).2=(zw t.f1).1:=by
   show(zw (((s.d1 last).1.must ⟨#[44]⟩ last).nat (dayP (s.d1 last).2 ((s.d1 last).2+59)) last).2).1=_
   rw[k2,h1];rfl
  rw[Bool.and_eq_true]at h4;have h6:=h4.2;unfold dayP at h6;simp only[Bool.and_eq_true,decide_eq_true_eq]at h6;refine⟨?_,rfl⟩;show SpOK ⟨kk,⟨⟨#[]⟩,⟨#[]⟩⟩,((s.must ⟨#[40]⟩ last).take 0 (fun _=>true)).2.1,(s.d1 last).2,(PS.d2 (s.d1 last) last).2⟩
  rw[h5];exact⟨by show(kk:Int)=2∨(kk:Int)=3∨(kk:Int)=4;omega,rfl,g1,g2,by show(s.d1 last).2≤(zw t.f1).1;omega,by show(zw t.f1).1≤9999;omega,by show(zw t.f1).1-(s.d1 last).2<60;omega⟩
theorem num_ok (he:(s.num last).1.e=0):NdOK BigM (s.num last).2∧ar (s.num last).2=0:=by
 have e1:=(must_e (show((((((s.must ⟨#[40]⟩ last).take 2 (fun t=>t.toList==(⟨#[45]⟩:xf).toList)).1.nat fewP last).1.must ⟨#[44]⟩ last).nat qI last).1.must ⟨#[41]⟩ last).e=0 from he)).2.2
 obtain⟨k1,k2,k3⟩:=nat_e e1;obtain⟨q1,q2,q3⟩:=nat_e (must_e k3).2.2;obtain⟨tb,rb,hb0,_,_,hb⟩:=PS.has_cons k1;obtain⟨ta,ra,ha0,_,_,ha⟩:=PS.has_cons q1;have hE:(s.num last).2=jn ((s.must ⟨#[40]⟩ last).take 2 (fun t=>t.toList==(⟨#[45]⟩:xf).toList)).2.2 ta.f1 tb.f1:=by
  have eb:=congrArg Prod.snd k2;have ea:=congrArg Prod.snd q2;rw[hb0]at eb;rw[ha0]at ea;unfold PS.num;simp only;rw[eb,ea];rfl
 rw[Bool.and_eq_true]at ha hb;obtain⟨ha1,ha2⟩:=ha;obtain⟨hb1,hb2⟩:=hb;unfold fewP at ha2;unfold qI fewP at hb2;simp only[Bool.and_eq_true,decide_eq_true_eq,Bool.not_eq_true',beq_eq_false_iff_ne]at ha2 hb2;obtain⟨z,d,h3,h4⟩:=ndOK_numNd ((s.must ⟨#[40]⟩ last).take 2 (fun t=>t.toList==(⟨#[45]⟩:xf).toList)).2.2 ta.f1 tb.f1 ha1 ha2 hb1 hb2.1 (by
  intro h0;have h5:=natB_dv tb.f1 hb1;rw[h0]at h5;apply hb2.2;rw[←h5,show natS 0=⟨#[48]⟩ by kernel_rfl,ByteArray.toList_eq])
 rw[hE,h3];exact⟨h4,rfl⟩
end
structure Fin2 (N:Int) (R:Res):Prop where
 ok:∀o,R= .ok o→HG o 1∧NdOKs o∧(o.length:Int)≤N
 err:∀e a b,R= .err e a b→e≠0
theorem Fin2.bad (N:Int)(e a b:Int)(he:e≠0):Fin2 N (.err e a b):=⟨fun o h=>(by cases h),fun e' a' b' h=>(by injection h with h1;rw[←h1];exact he)⟩
theorem run_ex (last:S75)(N:Int):∀(k:Nat) (toks:List S75) (m:Bool) (r:List S82) (o:List Nd) (dp:Int) (n:Int),toks.length<k→(∀t∈toks,TokOK t)→Iv m r o n→n+(toks.length:Int)≤N→∃R,Run2 last k m toks r o dp R∧Fin2 N R:=by
 intro k;induction k with
 |zero=>intro toks m r o dp n h;exact absurd h (by omega)
 |succ k ih=>
  intro toks m r o dp n hk ht hi hN;cases m with
  |true=>
   obtain⟨⟨h,hi1,hi2⟩,hi3,hi4⟩:=hi;rw[if_pos rfl]at hi2;cases toks with
   |nil=>exact⟨_,.oEnd k r o dp,.bad _ _ _ _ (by decide)⟩
   |cons t rest=>
    have hkr:rest.length<k:=by rw[List.length_cons]at hk;omega
    have htr:∀t∈rest,TokOK t:=fun x hx=>ht x (List.mem_cons_of_mem _ hx)
    rw[List.length_cons]at hN;have leaf:∀(x:Nd),ar x=0→NdOK BigM x→Iv false r (o++[x]) (n+1):=by
     intro x hx hx2;refine⟨⟨h,hi1,?_⟩,hi3.snoc hx2,by rw[List.length_append];simp only[List.length_cons,List.length_nil];omega⟩
     have:=hi2.snoc x (by omega)
     rw[hx]at this;exact this
    rcases ht t (List.mem_cons_self ..)with⟨hk0,hnm⟩|⟨hk1,hnx⟩|⟨hk2,c,hc,hcm⟩
    ·rcases known_tot t.f1 with h0|⟨kk,h1,h2,h3⟩|⟨kk,h1,h2,h3⟩|h3
     ·refine⟨_,.oBad k t rest r o dp hk0 h0 ?_,.bad _ _ _ _ (by decide)⟩
      intro he;have h5:=hnm.hall;rw[Lib.toList_data]at he;rw[he]at h5;exact absurd h5 (by decide)
     ·by_cases he:((ps rest).price kk last).1.e=0
      ·obtain⟨g1,g2⟩:=price_ok (s:=ps rest) (last:=last) htr kk ⟨h1,h2⟩ he
       have hsf:=sfx_price (s:=ps rest) (last:=last) (kk:Int);obtain⟨R,q1,q2⟩:=ih ((ps rest).price kk last).1.toks false r (o++[((ps rest).price kk last).2]) dp (n+1) (Nat.lt_of_le_of_lt hsf.length_le hkr) (fun x hx=>htr x (hsf.subset hx)) (leaf _ g2 g1) (by have:=hsf.length_le;have e:(ps rest).toks.length=rest.length:=rfl;omega)
       exact⟨R,.oPrice k t rest r o dp R kk hk0 h3 ⟨h1,h2⟩ (fun _=>q1) (fun hne=>absurd he hne),q2⟩
      ·exact⟨_,.oPrice k t rest r o dp _ kk hk0 h3 ⟨h1,h2⟩ (fun h0=>absurd h0 he) (fun _=>rfl),.bad _ _ _ _ he⟩
     ·by_cases he:((ps rest).push dp last).e=0
      ·have hsf:=sfx_push (s:=ps rest) (last:=last) dp
       have hA:∃A:Nat,nmA kk=A∧1≤A:=by
        unfold nmA;split
        ·exact⟨3,rfl,by omega⟩
        ·exact⟨2,rfl,by omega⟩
       obtain⟨A,hA1,hA2⟩:=hA;obtain⟨R,q1,q2⟩:=ih ((ps rest).push dp last).toks true (⟨kk,0,nmA kk⟩::r) o (dp+1) (n+1) (Nat.lt_of_le_of_lt hsf.length_le hkr) (fun x hx=>htr x (hsf.subset hx)) ⟨⟨0+h,.cons (.fn kk 0 _ ⟨h1,h2⟩ (by omega) (by omega)) hi1,by rw[if_pos rfl,Nat.zero_add];exact hi2⟩,hi3,by rw[wr_pos _ _ (by show¬(kk:Int)<0;omega)];omega⟩ (by have:=hsf.length_le;have e:(ps rest).toks.length=rest.length:=rfl;omega)
       exact⟨R,.oFun k t rest r o dp R kk hk0 h3 ⟨h1,h2⟩ (fun _=>q1) (fun hne=>absurd he hne),q2⟩
      ·exact⟨_,.oFun k t rest r o dp _ kk hk0 h3 ⟨h1,h2⟩ (fun h0=>absurd h0 he) (fun _=>rfl),.bad _ _ _ _ he⟩
     ·by_cases he:((ps rest).num last).1.e=0
      ·obtain⟨g1,g2⟩:=num_ok (s:=ps rest) (last:=last) he
       have hsf:=sfx_num (s:=ps rest) (last:=last);obtain⟨R,q1,q2⟩:=ih ((ps rest).num last).1.toks false r (o++[((ps rest).num last).2]) dp (n+1) (Nat.lt_of_le_of_lt hsf.length_le hkr) (fun x hx=>htr x (hsf.subset hx)) (leaf _ g2 g1) (by have:=hsf.length_le;have e:(ps rest).toks.length=rest.length:=rfl;omega)
       exact⟨R,.oNumF k t rest r o dp R hk0 h3 (fun _=>q1) (fun hne=>absurd he hne),q2⟩
      ·exact⟨_,.oNumF k t rest r o dp _ hk0 h3 (fun h0=>absurd h0 he) (fun _=>rfl),.bad _ _ _ _ he⟩
    ·rcases num_ways t.f1 hnx with⟨z,d,hn,hok⟩|⟨z,d,hn⟩
     ·obtain⟨R,q1,q2⟩:=ih rest false r (o++[.num z d]) dp (n+1) hkr htr (leaf _ rfl hok) (by omega)
      exact⟨R,.oNum k t rest r o dp R z d hk1 hn q1,q2⟩
     ·exact⟨_,.oNumB k t rest r o dp z d hk1 hn,.bad _ _ _ _ (by decide)⟩
    ·have htl:t.f1.toList=[c]:=by rw[hc,ByteArray.toList_eq]
     by_cases h1:c=45
     ·subst h1
      obtain⟨R,q1,q2⟩:=ih rest true (⟨5,3,0⟩::r) o dp (n+1) hkr htr ⟨⟨0+h,.cons .neg hi1,by rw[if_pos rfl,Nat.zero_add];exact hi2⟩,hi3,by rw[wr_pos _ _ (by decide)];omega⟩ (by omega)
      exact⟨R,.oNeg k t rest r o dp R hk2 hc q1,q2⟩
     by_cases h2:c=40
     ·subst h2
      by_cases hd:dp<200
      ·obtain⟨R,q1,q2⟩:=ih rest true (⟨-1,0,0⟩::r) o (dp+1) (n-1) hkr htr ⟨⟨0+h,.cons .par hi1,by rw[if_pos rfl,Nat.zero_add];exact hi2⟩,hi3,by rw[wr_neg _ _ (by decide)];omega⟩ (by omega)
       exact⟨R,.oPar k t rest r o dp R hk2 hc hd q1,q2⟩
      ·exact⟨_,.oDeep k t rest r o dp hk2 hc (by omega),.bad _ _ _ _ (by decide)⟩
     ·exact⟨_,.oSign k t rest r o dp hk2 (by rw[htl];simpa using h1) (by rw[htl];simpa using h2),.bad _ _ _ _ (by decide)⟩
  |false=>
   cases toks with
   |nil=>
    rcases hp:popR 1 r o with⟨r',o'⟩
    have hi':=pop_iv 1 (by omega) r o r' o' n hp hi
    cases r' with
    |nil=>
     refine⟨_,.pEnd k r o dp o' hp,⟨fun o2 he=>?_,fun _ _ _ h=>(by cases h)⟩⟩
     injection he with he;subst he;obtain⟨⟨h,q1,q2⟩,q3,q4⟩:=hi';cases q1;have q5:wr []=0:=rfl;rw[q5]at q4;simp only[List.length_nil]at hN;exact⟨q2,q3,by omega⟩
    |cons x r'=>exact⟨_,.pEndW k r o dp x r' o' hp,.bad _ _ _ _ (by decide)⟩
   |cons t rest=>
    have hkr:rest.length<k:=by rw[List.length_cons]at hk;omega
    have htr:∀t∈rest,TokOK t:=fun x hx=>ht x (List.mem_cons_of_mem _ hx)
    rw[List.length_cons]at hN;obtain⟨op,rk,ho,hw⟩:=op_tot t;rcases hw with⟨ho1,ho2,hrk⟩|hrk
    ·rcases hp:popR rk r o with⟨r',o'⟩
     obtain⟨⟨h,q1,q2⟩,q3,q4⟩:=pop_iv rk (by omega) r o r' o' n hp hi
     rw[if_neg (by decide)]at q2
     obtain⟨R,e1,e2⟩:=ih rest true (⟨op,rk,0⟩::r') o' dp (n+1) hkr htr ⟨⟨1+h,.cons (.bin op rk ⟨ho1,ho2⟩ hrk) q1,by rw[if_pos rfl,Nat.add_comm];exact q2⟩,q3,by rw[wr_pos _ _ (by show¬op<0;omega)];omega⟩ (by omega)
     exact⟨R,.pOp k t rest r o dp R op rk r' o' ho (by omega) (by omega) (by omega) hp e1,e2⟩
    ·rcases hp:popR 1 r o with⟨r',o'⟩
     have hi':=pop_iv 1 (by omega) r o r' o' n hp hi
     cases r' with
     |nil=>exact⟨_,.pBadN k t rest r o dp o' op rk ho (by omega) hp,.bad _ _ _ _ (by decide)⟩
     |cons x r'=>
      have hx1:=pop_top 1 r o x r' o' hp;obtain⟨⟨h,q1,q2⟩,q3,q4⟩:=hi';rw[if_neg (by decide)]at q2
      cases q1 with| @cons _ _ a b hxo hro=>
      by_cases hs:t.f1.toList=[41]∧x.f2≤1
      ·have hk2:t.f0=2∧t.f1=⟨#[41]⟩:=by
        rcases ht t (List.mem_cons_self ..)with⟨_,hnm⟩|⟨_,hnx⟩|⟨hk2,c,hc,_⟩
        ·have h5:=hnm.hall
         have h6:=hs.1;rw[Lib.toList_data]at h6;rw[h6]at h5;exact absurd h5 (by decide)
        ·obtain⟨_,a,ha,hna,h7⟩:=hnx
         have h6:=hs.1;rw[Lib.toList_data]at h6;rw[h6]at h7;cases a with
         |nil=>exact absurd rfl hna
         |cons a0 a1=>
          have h8:a0=41:=by
           rcases h7 with h7|⟨_,_,_,h7⟩
           ·injection h7 with h8 _;exact h8.symm
           ·injection h7 with h8 _;exact h8.symm
          have:=ha a0 (List.mem_cons_self ..);subst h8;exact absurd this.1 (by decide)
        ·refine⟨hk2,?_⟩
         have h6:=hs.1;rw[hc,ByteArray.toList_eq]at h6;have:c=41:=by simpa using h6
         rw[hc,this]
       cases hxo with
       |bin op' rank' hop hrk'=>exact absurd hx1 (by show¬rank'<1;omega)
       |neg=>exact absurd hx1 (by decide)
       |par=>
        rw[wr_neg _ _ (by decide)]at q4
        obtain⟨R,e1,e2⟩:=ih rest false r' o' (dp-1) (n+1) hkr htr ⟨⟨b,hro,by rw[if_neg (by decide)];rw[Nat.zero_add]at q2;exact q2⟩,q3,by omega⟩ (by omega)
        exact⟨R,.pShutP k t rest r o dp R ⟨-1,0,0⟩ r' o' hk2.1 hk2.2 hp hs.2 (by decide) e1,e2⟩
       |fn kk a q hkk h1 h2=>
        have hq:q=1:=by
         have:=hs.2;dsimp only at this;omega
        subst hq;have ha:ar (.op kk)=a+1:=by
         show(if kk=5 then 1 else if kk≤11 then 2 else 3)=a+1
         rw[if_neg (by omega)]
         unfold nmA at h2;split at h2
         ·rw[if_neg (by omega)];omega
         ·rw[if_pos (by omega)];omega
        have hq3:=q2.snoc (.op kk) (by rw[ha];omega)
        rw[ha]at hq3;rw[wr_pos _ _ (by show¬(kk:Int)<0;omega)]at q4
        obtain⟨R,e1,e2⟩:=ih rest false r' (o'++[.op kk]) (dp-1) n hkr htr ⟨⟨b,hro,by rw[if_neg (by decide)];rw[show b+1=a+b+1-(a+1)+1 by omega];exact hq3⟩,q3.snoc (by show 5≤kk∧kk≤12;omega),by rw[List.length_append];simp only[List.length_cons,List.length_nil];omega⟩ (by omega)
        exact⟨R,.pShutF k t rest r o dp R ⟨kk,0,1⟩ r' o' kk hk2.1 hk2.2 hp hs.2 rfl e1,e2⟩
      by_cases hc:t.f0=2∧t.f1.toList=[44]∧1<x.f2
      ·have h44:t.f1=⟨#[44]⟩:=by
        have h6:=hc.2.1;rw[Lib.toList_data]at h6;rw[←mkB t.f1,h6]
       cases hxo with
       |bin op' rank' hop hrk'=>exact absurd hc.2.2 (by show¬(1:Int)<0;decide)
       |neg=>exact absurd hc.2.2 (by decide)
       |par=>exact absurd hc.2.2 (by decide)
       |fn kk a q hkk h1 h2=>
        have hq:1<q:=hc.2.2;obtain⟨R,e1,e2⟩:=ih rest true (⟨kk,0,q-1⟩::r') o' dp n hkr htr ⟨⟨(a+1)+b,.cons (.fn kk (a+1) (q-1) hkk (by omega) (by omega)) hro,by rw[if_pos rfl,show a+1+b=a+b+1 by omega];exact q2⟩,q3,by rw[wr_pos _ _ (by show¬(kk:Int)<0;omega)]at q4 ⊢;omega⟩ (by omega)
        exact⟨R,.pComma k t rest r o dp R ⟨kk,0,q⟩ r' o' hc.1 h44 hp hq e1,e2⟩
      ·refine⟨_,.pBadX k t rest r o dp x r' o' op rk ho (by omega) hp ?_,.bad _ _ _ _ (by decide)⟩
       by_cases h1:t.f1.toList=[44]
       ·refine .inl ⟨h1,?_⟩
        by_cases h2:t.f0=2
        ·refine .inr ?_
         have:¬1<x.f2:=fun h3=>hc ⟨h2,h1,h3⟩
         omega
        ·exact .inl h2
       ·by_cases h2:t.f1.toList=[41]
        ·refine .inr (.inl ⟨h2,?_⟩)
         have:¬x.f2≤1:=fun h3=>hs ⟨h2,h3⟩
         omega
        ·exact .inr (.inr ⟨h1,h2⟩)
end Go.Proofs.YtjopepfemhckjaaGreatDoor.NW
end
section
namespace Go.Proofs.YtjopepfemhckjaaGreatDoor.NW
open Go.Proofs Go.RowKit Go.Shelf Go.Proofs.YtjopepfemhckjaaGreatDoor.PN Go.Proofs.YtjopepfemhckjaaGreatDoorW.PrintWords Go.Proofs.YtjopepfemhckjaaGreatDoor.PParseTells
theorem numTB {s:ByteArray}{z z':Int}{d d':Nat}{w:World}(hg:Glob w)(h1:NumT s z d)(h2:NumB s z' d'):False:=by
 obtain⟨v,w',⟨a1,_⟩,⟨a2,_⟩⟩:=Calls.agree (Q1:=fun v w'=>v= .tuple #[ratV z d,.int .i64 0]∧True) (Q2:=fun v w'=>v= .tuple #[ratV z' d',.int .i64 0]∧True) (by kernel_rfl) (h1.run w hg) (h2.run w hg) (fun e w' h=>⟨_,h.1,rfl,trivial⟩) (fun e w' h=>⟨_,h.1,rfl,trivial⟩)
 rw[a1]at a2;unfold ratV at a2;simp only[Value.tuple.injEq,Array.mk.injEq,List.cons.injEq,Value.agg.injEq,Value.string.injEq,and_true]at a2;have e1:=intS_inj a2.1;have e2:=natS_inj a2.2;subst e1 e2;have h3:=h1.sh.symm.trans h2.sh;cases h3
theorem known_P (kk:Nat)(h:1≤kk∧kk≤4):parse_known.f (nmP kk)≠some false:=by
 obtain rfl|rfl|rfl|rfl:kk=1∨kk=2∨kk=3∨kk=4:=by omega
 all_goals(unfold parse_known.f;rw[Lib.toList_data];decide)
theorem known_F (kk:Nat)(h:10≤kk∧kk≤12):parse_known.f (nmF kk)≠some false:=by
 obtain rfl|rfl|rfl:kk=10∨kk=11∨kk=12:=by omega
 all_goals(unfold parse_known.f;rw[Lib.toList_data];decide)
theorem known_N:parse_known.f ⟨#[110,117,109]⟩≠some false:=by unfold parse_known.f;rw[Lib.toList_data];decide
theorem nmP_inj {a b:Nat}(ha:1≤a∧a≤4)(hb:1≤b∧b≤4)(h:nmP a=nmP b):a=b:=by
 revert h
 obtain rfl|rfl|rfl|rfl:a=1∨a=2∨a=3∨a=4:=by omega
 all_goals(obtain rfl|rfl|rfl|rfl:b=1∨b=2∨b=3∨b=4:=by omega)
 all_goals decide
theorem nmF_inj {a b:Nat}(ha:10≤a∧a≤12)(hb:10≤b∧b≤12)(h:nmF a=nmF b):a=b:=by
 revert h
 obtain rfl|rfl|rfl:a=10∨a=11∨a=12:=by omega
 all_goals(obtain rfl|rfl|rfl:b=10∨b=11∨b=12:=by omega)
 all_goals decide
theorem nmPF {a b:Nat}(ha:1≤a∧a≤4)(hb:10≤b∧b≤12)(h:nmP a=nmF b):False:=by
 revert h
 obtain rfl|rfl|rfl|rfl:a=1∨a=2∨a=3∨a=4:=by omega
 all_goals(obtain rfl|rfl|rfl:b=10∨b=11∨b=12:=by omega)
 all_goals decide
theorem nmPN {a:Nat}(ha:1≤a∧a≤4)(h:nmP a=⟨#[110,117,109]⟩):False:=by
 revert h
 obtain rfl|rfl|rfl|rfl:a=1∨a=2∨a=3∨a=4:=by omega
 all_goals decide
theorem nmFN {a:Nat}(ha:10≤a∧a≤12)(h:nmF a=⟨#[110,117,109]⟩):False:=by
 revert h
 obtain rfl|rfl|rfl:a=10∨a=11∨a=12:=by omega
 all_goals decide
theorem tl1 (c:UInt8):(⟨#[c]⟩:ByteArray).toList=[c]:=by rw[ByteArray.toList_eq]
inductive InT (last:S75) (t:S75) (rest:List S75) (r:List S82) (o:List Nd) (dp:Int) (R:Res):Prop
 |num (z d k) (hk:t.f0=1) (hn:NumT t.f1 z d) (h:Run2 last k false rest r (o++[.num z d]) dp R)
 |numB (z d) (hk:t.f0=1) (hn:NumB t.f1 z d) (h:R= .err 110 t.f2 t.f3)
 |neg (k) (hk:t.f0=2) (ht:t.f1.toList=[45]) (h:Run2 last k true rest (⟨5,3,0⟩::r) o dp R)
 |par (k) (hk:t.f0=2) (ht:t.f1.toList=[40]) (hd:dp<200) (h:Run2 last k true rest (⟨-1,0,0⟩::r) o (dp+1) R)
 |deep (hk:t.f0=2) (ht:t.f1.toList=[40]) (hd:200≤dp) (h:R= .err 111 t.f2 t.f3)
 |bad (hk:t.f0=0) (hb:parse_known.f t.f1=some false) (h:R= .err 110 t.f2 t.f3)
 |sign (hk:t.f0=2) (h1:t.f1.toList≠[45]) (h2:t.f1.toList≠[40]) (h:R= .err 110 t.f2 t.f3)
 |price (kk k) (hk:t.f0=0) (ht:t.f1=nmP kk) (hkk:1≤kk∧kk≤4) (h:((ps rest).price kk last).1.e=0→Run2 last k false ((ps rest).price kk last).1.toks r (o++[((ps rest).price kk last).2]) dp R) (h2:((ps rest).price kk last).1.e≠0→R= .err ((ps rest).price kk last).1.e ((ps rest).price kk last).1.p0 ((ps rest).price kk last).1.p1)
 |fn (kk k) (hk:t.f0=0) (ht:t.f1=nmF kk) (hkk:10≤kk∧kk≤12) (h:((ps rest).push dp last).e=0→Run2 last k true ((ps rest).push dp last).toks (⟨kk,0,nmA kk⟩::r) o (dp+1) R) (h2:((ps rest).push dp last).e≠0→R= .err ((ps rest).push dp last).e ((ps rest).push dp last).p0 ((ps rest).push dp last).p1)
 |numF (k) (hk:t.f0=0) (ht:t.f1=⟨#[110,117,109]⟩) (h:((ps rest).num last).1.e=0→Run2 last k false ((ps rest).num last).1.toks r (o++[((ps rest).num last).2]) dp R) (h2:((ps rest).num last).1.e≠0→R= .err ((ps rest).num last).1.e ((ps rest).num last).1.p0 ((ps rest).num last).1.p1)
theorem inT {last:S75}{t:S75}{rest:List S75}{r:List S82}{o:List Nd}{dp:Int}{R:Res}{k:Nat}(h:Run2 last k true (t::rest) r o dp R):InT last t rest r o dp R:=by
 cases h with
 |oNum k _ _ _ _ _ _ z d hk hn h=>exact .num z d k hk hn h
 |oNumB k _ _ _ _ _ z d hk hn=>exact .numB z d hk hn rfl
 |oNeg k _ _ _ _ _ _ hk ht h=>exact .neg k hk (by rw[ht,tl1]) h
 |oPar k _ _ _ _ _ _ hk ht hd h=>exact .par k hk (by rw[ht,tl1]) hd h
 |oDeep k _ _ _ _ _ hk ht hd=>exact .deep hk (by rw[ht,tl1]) hd rfl
 |oBad k _ _ _ _ _ hk hb ht=>exact .bad hk hb rfl
 |oSign k _ _ _ _ _ hk h1 h2=>exact .sign hk h1 h2 rfl
 |oPrice k _ _ _ _ _ _ kk hk ht hkk h h2=>exact .price kk k hk ht hkk h h2
 |oFun k _ _ _ _ _ _ kk hk ht hkk h h2=>exact .fn kk k hk ht hkk h h2
 |oNumF k _ _ _ _ _ _ hk ht h h2=>exact .numF k hk ht h h2
inductive InF (last:S75) (t:S75) (rest:List S75) (r:List S82) (o:List Nd) (dp:Int) (R:Res):Prop
 |op (k op rank r' o') (ho:parse_operator.f t.f0 t.f1 t.f2 t.f3=some (op,rank)) (hr:1≤rank) (hp:popR rank r o=(r',o')) (h:Run2 last k true rest (⟨op,rank,0⟩::r') o' dp R)
 |shutP (k x r' o') (hk:t.f0=2) (ht:t.f1.toList=[41]) (hp:popR 1 r o=(x::r',o')) (hx:x.f2≤1) (hx0:x.f0<0) (h:Run2 last k false rest r' o' (dp-1) R)
 |shutF (k x r' o' kk) (hk:t.f0=2) (ht:t.f1.toList=[41]) (hp:popR 1 r o=(x::r',o')) (hx:x.f2≤1) (hx0:x.f0=Int.ofNat kk) (h:Run2 last k false rest r' (o'++[.op kk]) (dp-1) R)
 |comma (k x r' o') (hk:t.f0=2) (ht:t.f1.toList=[44]) (hp:popR 1 r o=(x::r',o')) (hx:1<x.f2) (h:Run2 last k true rest (⟨x.f0,x.f1,x.f2-1⟩::r') o' dp R)
 |badN (o' op0 rk0) (ho:parse_operator.f t.f0 t.f1 t.f2 t.f3=some (op0,rk0)) (hr:rk0≤0) (hp:popR 1 r o=([],o')) (h:R= .err 110 t.f2 t.f3)
 |badX (x r' o' op0 rk0) (ho:parse_operator.f t.f0 t.f1 t.f2 t.f3=some (op0,rk0)) (hr:rk0≤0) (hp:popR 1 r o=(x::r',o')) (hbad:(t.f1.toList=[44]∧(t.f0≠2∨x.f2≤1))∨(t.f1.toList=[41]∧1<x.f2)∨(t.f1.toList≠[44]∧t.f1.toList≠[41])) (h:R= .err 110 t.f2 t.f3)
theorem inF {last:S75}{t:S75}{rest:List S75}{r:List S82}{o:List Nd}{dp:Int}{R:Res}{k:Nat}(h:Run2 last k false (t::rest) r o dp R):InF last t rest r o dp R:=by
 cases h with
 |pOp k _ _ _ _ _ _ op rank r' o' ho hop hr hr2 hp h=>exact .op k op rank r' o' ho hr hp h
 |pShutP k _ _ _ _ _ _ x r' o' hk ht hp hx hx0 h=>exact .shutP k x r' o' hk (by rw[ht,tl1]) hp hx hx0 h
 |pShutF k _ _ _ _ _ _ x r' o' kk hk ht hp hx hx0 h=>exact .shutF k x r' o' kk hk (by rw[ht,tl1]) hp hx hx0 h
 |pComma k _ _ _ _ _ _ x r' o' hk ht hp hx h=>exact .comma k x r' o' hk (by rw[ht,tl1]) hp hx h
 |pBadN k _ _ _ _ _ o' op0 rk0 ho hr hp=>exact .badN o' op0 rk0 ho hr hp rfl
 |pBadX k _ _ _ _ _ x r' o' op0 rk0 ho hr hp hb=>exact .badX x r' o' op0 rk0 ho hr hp hb rfl
theorem op_zero {t:S75}{op rk:Int}{c:UInt8}(ht:t.f1.toList=[c])(h3:c≠43)(h5:c≠45)(h2:c≠42)(h7:c≠47)(h:parse_operator.f t.f0 t.f1 t.f2 t.f3=some (op,rk)):rk=0:=by
 unfold parse_operator.f at h;rw[ht]at h;simp[h3,h5,h2,h7]at h;exact h.2.symm
theorem run_det {last:S75}{w:World}(hg:Glob w):∀{k:Nat} {m:Bool} {toks:List S75} {r:List S82} {o:List Nd} {dp:Int} {R:Res},Run2 last k m toks r o dp R→∀{k':Nat} {R':Res},Run2 last k' m toks r o dp R'→R=R':=by
 intro k m toks r o dp R h;induction h with
 |oEnd=>intro k' R' h';cases h';rfl
 |oNum k t rest r o dp R z d hk hn h ih=>
  intro k' R' h';cases inT h' with
  |num z' d' k2 hk' hn' h2=>obtain⟨rfl,rfl⟩:=numT_one hg hn hn';exact ih h2
  |numB z' d' hk' hn' h2=>exact(numTB hg hn hn').elim
  |_=>omega
 |oNumB k t rest r o dp z d hk hn=>
  intro k' R' h';cases inT h' with
  |num z' d' k2 hk' hn' h2=>exact(numTB hg hn' hn).elim
  |numB z' d' hk' hn' h2=>exact h2.symm
  |_=>omega
 |oNeg k t rest r o dp R hk ht h ih=>
  intro k' R' h';have ht:t.f1.toList=[45]:=by rw[ht,tl1]
  cases inT h' with
  |neg k2 _ _ h2=>exact ih h2
  |par k2 _ ht2 _ _=>rw[ht]at ht2;cases ht2
  |deep _ ht2 _ _=>rw[ht]at ht2;cases ht2
  |sign _ h1 _ _=>exact absurd ht h1
  |_=>omega
 |oPar k t rest r o dp R hk ht hd h ih=>
  intro k' R' h';have ht:t.f1.toList=[40]:=by rw[ht,tl1]
  cases inT h' with
  |neg k2 _ ht2 h2=>rw[ht]at ht2;cases ht2
  |par k2 _ ht2 _ h2=>exact ih h2
  |deep _ ht2 _ _=>omega
  |sign _ _ h1 _=>exact absurd ht h1
  |_=>omega
 |oDeep k t rest r o dp hk ht hd=>
  intro k' R' h';have ht:t.f1.toList=[40]:=by rw[ht,tl1]
  cases inT h' with
  |neg k2 _ ht2 h2=>rw[ht]at ht2;cases ht2
  |par k2 _ ht2 _ h2=>omega
  |deep _ ht2 _ h2=>exact h2.symm
  |sign _ _ h1 _=>exact absurd ht h1
  |_=>omega
 |oBad k t rest r o dp hk hb ht=>
  intro k' R' h';cases inT h' with
  |bad _ _ h2=>exact h2.symm
  |price kk k2 _ ht2 hkk _ _=>rw[ht2]at hb;exact absurd hb (known_P kk hkk)
  |fn kk k2 _ ht2 hkk _ _=>rw[ht2]at hb;exact absurd hb (known_F kk hkk)
  |numF k2 _ ht2 _ _=>rw[ht2]at hb;exact absurd hb known_N
  |_=>omega
 |oSign k t rest r o dp hk h1 h2=>
  intro k' R' h';cases inT h' with
  |neg k2 _ ht2 _=>exact absurd ht2 h1
  |par k2 _ ht2 _ _=>exact absurd ht2 h2
  |deep _ ht2 _ _=>exact absurd ht2 h2
  |sign _ _ _ h3=>exact h3.symm
  |_=>omega
 |oPrice k t rest r o dp R kk hk ht hkk h h2 ih=>
  intro k' R' h';cases inT h' with
  |bad _ hb _=>rw[ht]at hb;exact absurd hb (known_P kk hkk)
  |price kk' k2 _ ht2 hkk' h3 h4=>
   have e:=nmP_inj hkk hkk' (ht.symm.trans ht2);subst e;by_cases he:((ps rest).price kk last).1.e=0
   ·exact ih he (h3 he)
   ·rw[h2 he,h4 he]
  |fn kk' k2 _ ht2 hkk' _ _=>exact(nmPF hkk hkk' (ht.symm.trans ht2)).elim
  |numF k2 _ ht2 _ _=>exact(nmPN hkk (ht.symm.trans ht2)).elim
  |_=>omega
 |oFun k t rest r o dp R kk hk ht hkk h h2 ih=>
  intro k' R' h';cases inT h' with
  |bad _ hb _=>rw[ht]at hb;exact absurd hb (known_F kk hkk)
  |price kk' k2 _ ht2 hkk' _ _=>exact(nmPF hkk' hkk (ht2.symm.trans ht)).elim
  |fn kk' k2 _ ht2 hkk' h3 h4=>
   have e:=nmF_inj hkk hkk' (ht.symm.trans ht2);subst e;by_cases he:((ps rest).push dp last).e=0
   ·exact ih he (h3 he)
   ·rw[h2 he,h4 he]
  |numF k2 _ ht2 _ _=>exact(nmFN hkk (ht.symm.trans ht2)).elim
  |_=>omega
 |oNumF k t rest r o dp R hk ht h h2 ih=>
  intro k' R' h';cases inT h' with
  |bad _ hb _=>rw[ht]at hb;exact absurd hb known_N
  |price kk' k2 _ ht2 hkk' _ _=>exact(nmPN hkk' (ht2.symm.trans ht)).elim
  |fn kk' k2 _ ht2 hkk' _ _=>exact(nmFN hkk' (ht2.symm.trans ht)).elim
  |numF k2 _ ht2 h3 h4=>
   by_cases he:((ps rest).num last).1.e=0
   ·exact ih he (h3 he)
   ·rw[h2 he,h4 he]
  |_=>omega
 |pEnd k r o dp o' hp=>
  intro k' R' h';cases h' with
  |pEnd _ _ _ _ o2 hp2=>rw[hp]at hp2;injection hp2 with _ e;rw[e]
  |pEndW _ _ _ _ x r2 o2 hp2=>rw[hp]at hp2;injection hp2 with e _;cases e
 |pEndW k r o dp x r' o' hp=>
  intro k' R' h';cases h' with
  |pEnd _ _ _ _ o2 hp2=>rw[hp]at hp2;injection hp2 with e _;cases e
  |pEndW _ _ _ _ x r2 o2 hp2=>rfl
 |pOp k t rest r o dp R op rank r' o' ho hop hr hr2 hp h ih=>
  intro k' R' h';cases inF h' with
  |op k2 op2 rank2 r2 o2 ho2 hr3 hp2 h2=>
   rw[ho]at ho2;injection ho2 with e;injection e with e1 e2;subst e1 e2;rw[hp]at hp2;injection hp2 with e3 e4;subst e3 e4;exact ih h2
  |shutP _ _ _ _ _ ht _ _ _ _=>have:=op_zero ht (by decide) (by decide) (by decide) (by decide) ho;omega
  |shutF _ _ _ _ _ _ ht _ _ _ _=>have:=op_zero ht (by decide) (by decide) (by decide) (by decide) ho;omega
  |comma _ _ _ _ _ ht _ _ _=>have:=op_zero ht (by decide) (by decide) (by decide) (by decide) ho;omega
  |badN _ _ _ ho2 hr3 _ _=>rw[ho]at ho2;injection ho2 with e;injection e with e1 e2;omega
  |badX _ _ _ _ _ ho2 hr3 _ _ _=>rw[ho]at ho2;injection ho2 with e;injection e with e1 e2;omega
 |pShutP k t rest r o dp R x r' o' hk ht hp hx hx0 h ih=>
  intro k' R' h';have ht:t.f1.toList=[41]:=by rw[ht,tl1]
  cases inF h' with
  |op k2 op2 rank2 r2 o2 ho2 hr3 hp2 h2=>have:=op_zero ht (by decide) (by decide) (by decide) (by decide) ho2;omega
  |shutP k2 x2 r2 o2 _ _ hp2 _ _ h2=>rw[hp]at hp2;injection hp2 with e1 e2;injection e1 with e3 e4;subst e2 e3 e4;exact ih h2
  |shutF k2 x2 r2 o2 kk _ _ hp2 _ hx2 h2=>rw[hp]at hp2;injection hp2 with e1 e2;injection e1 with e3 e4;subst e3;rw[hx2]at hx0;exact absurd hx0 (by show¬(kk:Int)<0;omega)
  |comma _ _ _ _ _ ht2 _ _ _=>rw[ht]at ht2;cases ht2
  |badN _ _ _ _ _ hp2 _=>rw[hp]at hp2;injection hp2 with e1 _;cases e1
  |badX x2 _ _ _ _ _ _ hp2 hb _=>
   rw[hp]at hp2;injection hp2 with e1 e2;injection e1 with e3 e4;subst e3;rcases hb with⟨hb,_⟩|⟨_,hb⟩|⟨_,hb⟩
   ·rw[ht]at hb;cases hb
   ·omega
   ·exact absurd ht hb
 |pShutF k t rest r o dp R x r' o' kk hk ht hp hx hx0 h ih=>
  intro k' R' h';have ht:t.f1.toList=[41]:=by rw[ht,tl1]
  cases inF h' with
  |op k2 op2 rank2 r2 o2 ho2 hr3 hp2 h2=>have:=op_zero ht (by decide) (by decide) (by decide) (by decide) ho2;omega
  |shutP k2 x2 r2 o2 _ _ hp2 _ hx2 h2=>rw[hp]at hp2;injection hp2 with e1 e2;injection e1 with e3 e4;subst e3;rw[hx0]at hx2;exact absurd hx2 (by show¬(kk:Int)<0;omega)
  |shutF k2 x2 r2 o2 kk2 _ _ hp2 _ hx2 h2=>
   rw[hp]at hp2;injection hp2 with e1 e2;injection e1 with e3 e4;subst e2 e3 e4;rw[hx0]at hx2;injection hx2 with hx2;subst hx2;exact ih h2
  |comma _ _ _ _ _ ht2 _ _ _=>rw[ht]at ht2;cases ht2
  |badN _ _ _ _ _ hp2 _=>rw[hp]at hp2;injection hp2 with e1 _;cases e1
  |badX x2 _ _ _ _ _ _ hp2 hb _=>
   rw[hp]at hp2;injection hp2 with e1 e2;injection e1 with e3 e4;subst e3;rcases hb with⟨hb,_⟩|⟨_,hb⟩|⟨_,hb⟩
   ·rw[ht]at hb;cases hb
   ·omega
   ·exact absurd ht hb
 |pComma k t rest r o dp R x r' o' hk ht hp hx h ih=>
  intro k' R' h';have ht:t.f1.toList=[44]:=by rw[ht,tl1]
  cases inF h' with
  |op k2 op2 rank2 r2 o2 ho2 hr3 hp2 h2=>have:=op_zero ht (by decide) (by decide) (by decide) (by decide) ho2;omega
  |shutP _ _ _ _ _ ht2 _ _ _ _=>rw[ht]at ht2;cases ht2
  |shutF _ _ _ _ _ _ ht2 _ _ _ _=>rw[ht]at ht2;cases ht2
  |comma k2 x2 r2 o2 _ _ hp2 _ h2=>rw[hp]at hp2;injection hp2 with e1 e2;injection e1 with e3 e4;subst e2 e3 e4;exact ih h2
  |badN _ _ _ _ _ hp2 _=>rw[hp]at hp2;injection hp2 with e1 _;cases e1
  |badX x2 _ _ _ _ _ _ hp2 hb _=>
   rw[hp]at hp2;injection hp2 with e1 e2;injection e1 with e3 e4;subst e3;rcases hb with⟨_,hb⟩|⟨hb,_⟩|⟨hb,_⟩
   ·omega
   ·rw[ht]at hb;cases hb
   ·exact absurd ht hb
 |pBadN k t rest r o dp o' op0 rk0 ho hr hp=>
  intro k' R' h';cases inF h' with
  |op k2 op2 rank2 r2 o2 ho2 hr3 hp2 h2=>rw[ho]at ho2;injection ho2 with e;injection e with e1 e2;omega
  |badN _ _ _ _ _ _ h2=>exact h2.symm
  |badX _ _ _ _ _ _ _ _ _ h2=>exact h2.symm
  |shutP _ _ _ _ _ _ hp2 _ _ _=>rw[hp]at hp2;injection hp2 with e1 _;cases e1
  |shutF _ _ _ _ _ _ _ hp2 _ _ _=>rw[hp]at hp2;injection hp2 with e1 _;cases e1
  |comma _ _ _ _ _ _ hp2 _ _=>rw[hp]at hp2;injection hp2 with e1 _;cases e1
 |pBadX k t rest r o dp x r' o' op0 rk0 ho hr hp hb=>
  intro k' R' h';cases inF h' with
  |op k2 op2 rank2 r2 o2 ho2 hr3 hp2 h2=>rw[ho]at ho2;injection ho2 with e;injection e with e1 e2;omega
  |badN _ _ _ _ _ _ h2=>exact h2.symm
  |badX _ _ _ _ _ _ _ _ _ h2=>exact h2.symm
  |shutP k2 x2 r2 o2 hk ht hp2 hx _ _=>
   rw[hp]at hp2;injection hp2 with e1 e2;injection e1 with e3 e4;subst e3;rcases hb with⟨hb,_⟩|⟨_,hb⟩|⟨_,hb⟩
   ·rw[ht]at hb;cases hb
   ·omega
   ·exact absurd ht hb
  |shutF k2 x2 r2 o2 kk hk ht hp2 hx _ _=>
   rw[hp]at hp2;injection hp2 with e1 e2;injection e1 with e3 e4;subst e3;rcases hb with⟨hb,_⟩|⟨_,hb⟩|⟨_,hb⟩
   ·rw[ht]at hb;cases hb
   ·omega
   ·exact absurd ht hb
  |comma k2 x2 r2 o2 hk ht hp2 hx _=>
   rw[hp]at hp2;injection hp2 with e1 e2;injection e1 with e3 e4;subst e3;rcases hb with⟨_,hb⟩|⟨hb,_⟩|⟨hb,_⟩
   ·omega
   ·rw[ht]at hb;cases hb
   ·exact absurd ht hb
end Go.Proofs.YtjopepfemhckjaaGreatDoor.NW
end
