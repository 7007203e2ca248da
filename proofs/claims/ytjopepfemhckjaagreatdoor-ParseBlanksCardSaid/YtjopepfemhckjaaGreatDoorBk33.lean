/-
  Part 33 of the proof of parseBlanks_holds: texts of this seat, put together.
-/
import Derived.Test.YtjopepfemhckjaaGreatDoorBk32
set_option linter.unusedVariables false
set_option linter.unusedSimpArgs false
section
set_option maxRecDepth 100000
namespace Go.Proofs.YtjopepfemhckjaaGreatDoor.NW
open Go.Proofs Go.RowKit Go.Shelf Go.Proofs.YtjopepfemhckjaaGreatDoor.PN Go.Proofs.YtjopepfemhckjaaGreatDoorW.PrintWords Go.Proofs.YtjopepfemhckjaaGreatDoor.PParseTells
def HG (o:List Nd)(h:Nat):Prop:=∀(α:Type) (f:Nd→List α→α),∃st,runF f o []=some st∧st.length=h
theorem runF_app {α:Type}(f:Nd→List α→α)(a b:List Nd):∀st,runF f (a++b) st=(runF f a st).bind (runF f b):=by
 induction a with
 |nil=>intro st;rfl
 |cons n t ih=>
  intro st;show(stp f n st).bind (runF f (t++b))=((stp f n st).bind (runF f t)).bind (runF f b)
  cases stp f n st with
  |none=>rfl
  |some s=>exact ih s
theorem HG.nil:HG [] 0:=fun _ _=>⟨[],rfl,rfl⟩
theorem HG.snoc {o:List Nd}{h:Nat}(hg:HG o h)(x:Nd)(hx:ar x≤h):HG (o++[x]) (h-ar x+1):=by
 intro α f;obtain⟨st,h1,h2⟩:=hg α f;refine⟨st.take (st.length-ar x)++[f x (st.drop (st.length-ar x))],?_,?_⟩
 ·rw[runF_app,h1]
  show runF f [x] st=_
  show(stp f x st).bind (runF f [])=_
  unfold stp;rw[if_pos (by omega)]
  rfl
 ·rw[List.length_append,List.length_take]
  simp only[List.length_cons,List.length_nil];omega
inductive XOK:S82→Nat→Prop
 |bin (op rank:Int) (h:6≤op∧op≤9) (hr:rank=1∨rank=2):XOK ⟨op,rank,0⟩ 1
 |neg:XOK ⟨5,3,0⟩ 0
 |par:XOK ⟨-1,0,0⟩ 0
 |fn (kk a:Nat) (q:Int) (h:10≤kk∧kk≤12) (h1:1≤q) (h2:q+a=nmA kk):XOK ⟨kk,0,q⟩ a
inductive ROK:List S82→Nat→Prop
 |nil:ROK [] 0
 |cons {x r a b} (h:XOK x a) (hr:ROK r b):ROK (x::r) (a+b)
def NdOKs (o:List Nd):Prop:=∀x∈o,NdOK BigM x
theorem NdOKs.snoc {o:List Nd}(h:NdOKs o){x:Nd}(hx:NdOK BigM x):NdOKs (o++[x]):=by
 intro y hy;rcases List.mem_append.1 hy with hy|hy
 ·exact h y hy
 ·rw[List.mem_singleton.1 hy]
  exact hx
def wr:List S82→Int
 |[]=>0
 |x::r=>(if x.f0<0 then-1 else 1)+wr r
theorem wr_pos (x:S82)(r:List S82)(h:¬x.f0<0):wr (x::r)=1+wr r:=by
 show(if x.f0<0 then(-1:Int)else 1)+wr r=_
 rw[if_neg h]
theorem wr_neg (x:S82)(r:List S82)(h:x.f0<0):wr (x::r)= -1+wr r:=by
 show(if x.f0<0 then(-1:Int)else 1)+wr r=_
 rw[if_pos h]
structure Iv (m:Bool) (r:List S82) (o:List Nd) (n:Int):Prop where
 ex:∃h,ROK r h∧HG o (if m=true then h else h+1)
 ok:NdOKs o
 len:(o.length:Int)+wr r≤n
theorem pop_iv (rank:Int)(hr:1≤rank):∀(r:List S82) (o:List Nd) (r':List S82) (o':List Nd) (n:Int),popR rank r o=(r',o')→Iv false r o n→Iv false r' o' n:=by
 intro r;induction r with
 |nil=>
  intro o r' o' n h hi;unfold popR at h;injection h with h1 h2;subst h1 h2;exact hi
 |cons x r ih=>
  intro o r' o' n h hi;unfold popR at h;by_cases hx:rank≤x.f1
  ·rw[if_pos hx]at h
   refine ih _ _ _ _ h ?_;obtain⟨⟨hh,h1,h2⟩,h3,h4⟩:=hi;rw[if_neg (by decide)]at h2
   cases h1 with| @cons _ _ a b hxo hro=>
   have hlen:¬x.f0<0→((o++[Nd.op x.f0.toNat]).length:Int)+wr r≤n:=by
    intro hx0;rw[wr_pos x r hx0]at h4;rw[List.length_append];simp only[List.length_cons,List.length_nil];omega
   cases hxo with
   |bin op rank' hop hrk=>
    refine⟨⟨b,hro,?_⟩,h3.snoc (by show 5≤op.toNat∧op.toNat≤12;omega),hlen (by show¬op<0;omega)⟩
    have ha:ar (.op op.toNat)=2:=by
     show(if op.toNat=5 then 1 else if op.toNat≤11 then 2 else 3)=2
     rw[if_neg (by omega),if_pos (by omega)]
    have:=h2.snoc (.op op.toNat) (by rw[ha];omega)
    rw[ha]at this;rw[if_neg (by decide)]
    rw[show b+1=1+b+1-2+1 by omega]
    exact this
   |neg=>
    refine⟨⟨b,hro,?_⟩,h3.snoc (by show 5≤(5:Nat)∧5≤12;omega),hlen (by decide)⟩
    have:=h2.snoc (.op 5) (by show 1≤_;omega)
    rw[if_neg (by decide)]
    rw[show b+1=0+b+1-1+1 by omega]
    exact this
   |par=>exact absurd hx (by show¬rank≤0;omega)
   |fn kk a q h h1 h2=>exact absurd hx (by show¬rank≤0;omega)
  ·rw[if_neg hx]at h
   injection h with h1 h2;subst h1 h2;exact hi
theorem pop_top (rank:Int):∀(r:List S82) (o:List Nd) (x:S82) (r':List S82) (o':List Nd),popR rank r o=(x::r',o')→x.f1<rank:=by
 intro r;induction r with
 |nil=>intro o x r' o' h;cases h
 |cons y r ih=>
  intro o x r' o' h;unfold popR at h;by_cases hx:rank≤y.f1
  ·rw[if_pos hx]at h
   exact ih _ _ _ _ h
  ·rw[if_neg hx]at h
   injection h with h1 h2;injection h1 with h3 h4;subst h3;omega
theorem op_tot (t:S75):∃op rk,parse_operator.f t.f0 t.f1 t.f2 t.f3=some (op,rk)∧((6≤op∧op≤9∧(rk=1∨rk=2))∨rk=0):=by
 unfold parse_operator.f;repeat' split
 all_goals exact⟨_,_,rfl,by omega⟩
theorem known_tot (s:ByteArray):parse_known.f s=some false∨(∃kk,1≤kk∧kk≤4∧s=nmP kk)∨(∃kk,10≤kk∧kk≤12∧s=nmF kk)∨s=⟨#[110,117,109]⟩:=by
 have key:∀(l:List UInt8),s.toList=l→s=⟨l.toArray⟩:=by
  intro l h;rw[Lib.toList_data]at h;subst h;exact(mkB s).symm
 unfold parse_known.f;by_cases h1:s.toList=[112,120]
 ·exact .inr (.inl ⟨1,by omega,by omega,key _ h1⟩)
 rw[if_neg h1];by_cases h2:s.toList=[97,118,103]
 ·exact .inr (.inl ⟨2,by omega,by omega,key _ h2⟩)
 rw[if_neg h2];by_cases h3:s.toList=[104,105]
 ·exact .inr (.inl ⟨3,by omega,by omega,key _ h3⟩)
 rw[if_neg h3];by_cases h4:s.toList=[108,111]
 ·exact .inr (.inl ⟨4,by omega,by omega,key _ h4⟩)
 rw[if_neg h4];by_cases h5:s.toList=[109,97,120]
 ·exact .inr (.inr (.inl ⟨10,by omega,by omega,key _ h5⟩))
 rw[if_neg h5];by_cases h6:s.toList=[109,105,110]
 ·exact .inr (.inr (.inl ⟨11,by omega,by omega,key _ h6⟩))
 rw[if_neg h6];by_cases h7:s.toList=[105,102]
 ·exact .inr (.inr (.inl ⟨12,by omega,by omega,key _ h7⟩))
 rw[if_neg h7];by_cases h8:s.toList=[110,117,109]
 ·exact .inr (.inr (.inr (key _ h8)))
 rw[if_neg h8];exact .inl rfl
section
variable {s:PS} {last:S75}
theorem d1_ok (ht:∀t∈s.toks,TokOK t)(he:(s.d1 last).1.e=0):NmOK ((s.must ⟨#[40]⟩ last).take 0 (fun _=>true)).2.1∧0≤(s.d1 last).2∧(s.d1 last).2≤9999:=by
 obtain⟨k1,k2,k3⟩:=nat_e (show((((s.must ⟨#[40]⟩ last).nm last).must ⟨#[44]⟩ last).nat (dayP 0 9999) last).1.e=0 from he)
 have e2:=(must_e k3).2.2;obtain⟨q1,q2,q3,q4⟩:=name_e e2;constructor
 ·rw[q3]
  obtain⟨t,r,h1,h2,h3,h4⟩:=PS.has_cons q1;rw[h1];show NmOK t.f1
  have hm:t∈s.toks:=(sfx_must (s:=s) (last:=last) ⟨#[40]⟩).subset (by rw[h1];exact List.mem_cons_self ..)
  rcases ht t hm with⟨_,h⟩|⟨h,_⟩|⟨h,_⟩
  ·exact h
  ·rw[h3]at h;exact absurd h (by decide)
  ·rw[h3]at h;exact absurd h (by decide)
 ·obtain⟨t,r,h1,h2,h3,h4⟩:=PS.has_cons k1
  have h5:(s.d1 last).2=(smallF t.f1).1:=by
   show(smallF ((((s.must ⟨#[40]⟩ last).nm last).must ⟨#[44]⟩ last).nat (dayP 0 9999) last).2).1=_
   rw[k2,h1];rfl
  rw[h5];rw[Bool.and_eq_true]at h4;have h6:=h4.2;unfold dayP at h6;simp only[Bool.and_eq_true,decide_eq_true_eq]at h6;omega
theorem price_ok (ht:∀t∈s.toks,TokOK t)(kk:Nat)(hkk:1≤kk∧kk≤4)(he:(s.price kk last).1.e=0):NdOK BigM (s.price kk last).2∧ar (s.price kk last).2=0:=by
 rw[price_def]at he ⊢;by_cases ho:(kk:Int)=1
 ·rw[if_pos ho]at he ⊢
  obtain⟨g1,g2,g3⟩:=d1_ok ht (must_e he).2.2;exact⟨⟨g1,g2,g3⟩,rfl⟩
 ·rw[if_neg ho]at he ⊢
  have e1:=(must_e he).2.2;obtain⟨k1,k2,k3⟩:=nat_e (show(((s.d1 last).1.must ⟨#[44]⟩ last).nat (dayP (s.d1 last).2 ((s.d1 last).2+59)) last).1.e=0 from e1)
  have e3:=(must_e k3).2.2;obtain⟨g1,g2,g3⟩:=d1_ok ht e3;obtain⟨t,r,h1,h2,h3,h4⟩:=PS.has_cons k1;have h5:(PS.d2 (s.d1 last) last).2=(smallF t.f1).1:=by
   show(smallF (((s.d1 last).1.must ⟨#[44]⟩ last).nat (dayP (s.d1 last).2 ((s.d1 last).2+59)) last).2).1=_
   rw[k2,h1];rfl
  rw[Bool.and_eq_true]at h4;have h6:=h4.2;unfold dayP at h6;simp only[Bool.and_eq_true,decide_eq_true_eq]at h6;refine⟨?_,rfl⟩;show SpOK ⟨kk,⟨⟨#[]⟩,⟨#[]⟩⟩,((s.must ⟨#[40]⟩ last).take 0 (fun _=>true)).2.1,(s.d1 last).2,(PS.d2 (s.d1 last) last).2⟩
  rw[h5];exact⟨by show(kk:Int)=2∨(kk:Int)=3∨(kk:Int)=4;omega,rfl,g1,g2,by show(s.d1 last).2≤(smallF t.f1).1;omega,by show(smallF t.f1).1≤9999;omega,by show(smallF t.f1).1-(s.d1 last).2<60;omega⟩
theorem num_ok (he:(s.num last).1.e=0):NdOK BigM (s.num last).2∧ar (s.num last).2=0:=by
 have e1:=(must_e (show((((((s.must ⟨#[40]⟩ last).take 2 (fun t=>t.toList==(⟨#[45]⟩:ByteArray).toList)).1.nat fewP last).1.must ⟨#[44]⟩ last).nat few2P last).1.must ⟨#[41]⟩ last).e=0 from he)).2.2
 obtain⟨k1,k2,k3⟩:=nat_e e1;obtain⟨q1,q2,q3⟩:=nat_e (must_e k3).2.2;obtain⟨tb,rb,hb0,_,_,hb⟩:=PS.has_cons k1;obtain⟨ta,ra,ha0,_,_,ha⟩:=PS.has_cons q1;have hE:(s.num last).2=numNd ((s.must ⟨#[40]⟩ last).take 2 (fun t=>t.toList==(⟨#[45]⟩:ByteArray).toList)).2.2 ta.f1 tb.f1:=by
  have eb:=congrArg Prod.snd k2;have ea:=congrArg Prod.snd q2;rw[hb0]at eb;rw[ha0]at ea;unfold PS.num;simp only;rw[eb,ea];rfl
 rw[Bool.and_eq_true]at ha hb;obtain⟨ha1,ha2⟩:=ha;obtain⟨hb1,hb2⟩:=hb;unfold fewP at ha2;unfold few2P fewP at hb2;simp only[Bool.and_eq_true,decide_eq_true_eq,Bool.not_eq_true',beq_eq_false_iff_ne]at ha2 hb2;obtain⟨z,d,h3,h4⟩:=ndOK_numNd ((s.must ⟨#[40]⟩ last).take 2 (fun t=>t.toList==(⟨#[45]⟩:ByteArray).toList)).2.2 ta.f1 tb.f1 ha1 ha2 hb1 hb2.1 (by
  intro h0;have h5:=natB_dv tb.f1 hb1;rw[h0]at h5;apply hb2.2;rw[←h5,show natS 0=⟨#[48]⟩ by kernel_rfl,ByteArray.toList_eq])
 rw[hE,h3];exact⟨h4,rfl⟩
end
structure Fin2 (N:Int) (R:Res):Prop where
 ok:∀o,R= .ok o→HG o 1∧NdOKs o∧(o.length:Int)≤N
 err:∀e a b,R= .err e a b→e≠0
theorem Fin2.bad (N:Int)(e a b:Int)(he:e≠0):Fin2 N (.err e a b):=⟨fun o h=>(by cases h),fun e' a' b' h=>(by injection h with h1;rw[←h1];exact he)⟩
set_option maxHeartbeats 4000000 in
theorem run_ex (last:S75)(N:Int):∀(k:Nat) (toks:List S75) (m:Bool) (r:List S82) (o:List Nd) (dp:Int) (n:Int),toks.length<k→(∀t∈toks,TokOK t)→Iv m r o n→n+(toks.length:Int)≤N→∃R,Run2 last k m toks r o dp R∧Fin2 N R:=by
 intro k;induction k with
 |zero=>intro toks m r o dp n h;exact absurd h (by omega)
 |succ k ih=>
  intro toks m r o dp n hk ht hi hN;cases m with
  |true=>
   obtain⟨⟨h,hi1,hi2⟩,hi3,hi4⟩:=hi;rw[if_pos rfl]at hi2;cases toks with
   |nil=>exact⟨_,.oEnd k r o dp,.bad _ _ _ _ (by decide)⟩
   |cons t rest=>
    have hkr:rest.length<k:=by rw[List.length_cons]at hk;omega
    have htr:∀t∈rest,TokOK t:=fun x hx=>ht x (List.mem_cons_of_mem _ hx)
    rw[List.length_cons]at hN;have leaf:∀(x:Nd),ar x=0→NdOK BigM x→Iv false r (o++[x]) (n+1):=by
     intro x hx hx2;refine⟨⟨h,hi1,?_⟩,hi3.snoc hx2,by rw[List.length_append];simp only[List.length_cons,List.length_nil];omega⟩
     have:=hi2.snoc x (by omega)
     rw[hx]at this;exact this
    rcases ht t (List.mem_cons_self ..)with⟨hk0,hnm⟩|⟨hk1,hnx⟩|⟨hk2,c,hc,hcm⟩
    ·rcases known_tot t.f1 with h0|⟨kk,h1,h2,h3⟩|⟨kk,h1,h2,h3⟩|h3
     ·refine⟨_,.oBad k t rest r o dp hk0 h0 ?_,.bad _ _ _ _ (by decide)⟩
      intro he;have h5:=hnm.hall;rw[Lib.toList_data]at he;rw[he]at h5;exact absurd h5 (by decide)
     ·by_cases he:((ps rest).price kk last).1.e=0
      ·obtain⟨g1,g2⟩:=price_ok (s:=ps rest) (last:=last) htr kk ⟨h1,h2⟩ he
       have hsf:=sfx_price (s:=ps rest) (last:=last) (kk:Int);obtain⟨R,q1,q2⟩:=ih ((ps rest).price kk last).1.toks false r (o++[((ps rest).price kk last).2]) dp (n+1) (Nat.lt_of_le_of_lt hsf.length_le hkr) (fun x hx=>htr x (hsf.subset hx)) (leaf _ g2 g1) (by have:=hsf.length_le;have e:(ps rest).toks.length=rest.length:=rfl;omega)
       exact⟨R,.oPrice k t rest r o dp R kk hk0 h3 ⟨h1,h2⟩ (fun _=>q1) (fun hne=>absurd he hne),q2⟩
      ·exact⟨_,.oPrice k t rest r o dp _ kk hk0 h3 ⟨h1,h2⟩ (fun h0=>absurd h0 he) (fun _=>rfl),.bad _ _ _ _ he⟩
     ·by_cases he:((ps rest).push dp last).e=0
      ·have hsf:=sfx_push (s:=ps rest) (last:=last) dp
       have hA:∃A:Nat,nmA kk=A∧1≤A:=by
        unfold nmA;split
        ·exact⟨3,rfl,by omega⟩
        ·exact⟨2,rfl,by omega⟩
       obtain⟨A,hA1,hA2⟩:=hA;obtain⟨R,q1,q2⟩:=ih ((ps rest).push dp last).toks true (⟨kk,0,nmA kk⟩::r) o (dp+1) (n+1) (Nat.lt_of_le_of_lt hsf.length_le hkr) (fun x hx=>htr x (hsf.subset hx)) ⟨⟨0+h,.cons (.fn kk 0 _ ⟨h1,h2⟩ (by omega) (by omega)) hi1,by rw[if_pos rfl,Nat.zero_add];exact hi2⟩,hi3,by rw[wr_pos _ _ (by show¬(kk:Int)<0;omega)];omega⟩ (by have:=hsf.length_le;have e:(ps rest).toks.length=rest.length:=rfl;omega)
       exact⟨R,.oFun k t rest r o dp R kk hk0 h3 ⟨h1,h2⟩ (fun _=>q1) (fun hne=>absurd he hne),q2⟩
      ·exact⟨_,.oFun k t rest r o dp _ kk hk0 h3 ⟨h1,h2⟩ (fun h0=>absurd h0 he) (fun _=>rfl),.bad _ _ _ _ he⟩
     ·by_cases he:((ps rest).num last).1.e=0
      ·obtain⟨g1,g2⟩:=num_ok (s:=ps rest) (last:=last) he
       have hsf:=sfx_num (s:=ps rest) (last:=last);obtain⟨R,q1,q2⟩:=ih ((ps rest).num last).1.toks false r (o++[((ps rest).num last).2]) dp (n+1) (Nat.lt_of_le_of_lt hsf.length_le hkr) (fun x hx=>htr x (hsf.subset hx)) (leaf _ g2 g1) (by have:=hsf.length_le;have e:(ps rest).toks.length=rest.length:=rfl;omega)
       exact⟨R,.oNumF k t rest r o dp R hk0 h3 (fun _=>q1) (fun hne=>absurd he hne),q2⟩
      ·exact⟨_,.oNumF k t rest r o dp _ hk0 h3 (fun h0=>absurd h0 he) (fun _=>rfl),.bad _ _ _ _ he⟩
    ·rcases num_ways t.f1 hnx with⟨z,d,hn,hok⟩|⟨z,d,hn⟩
     ·obtain⟨R,q1,q2⟩:=ih rest false r (o++[.num z d]) dp (n+1) hkr htr (leaf _ rfl hok) (by omega)
      exact⟨R,.oNum k t rest r o dp R z d hk1 hn q1,q2⟩
     ·exact⟨_,.oNumB k t rest r o dp z d hk1 hn,.bad _ _ _ _ (by decide)⟩
    ·have htl:t.f1.toList=[c]:=by rw[hc,ByteArray.toList_eq]
     by_cases h1:c=45
     ·subst h1
      obtain⟨R,q1,q2⟩:=ih rest true (⟨5,3,0⟩::r) o dp (n+1) hkr htr ⟨⟨0+h,.cons .neg hi1,by rw[if_pos rfl,Nat.zero_add];exact hi2⟩,hi3,by rw[wr_pos _ _ (by decide)];omega⟩ (by omega)
      exact⟨R,.oNeg k t rest r o dp R hk2 hc q1,q2⟩
     by_cases h2:c=40
     ·subst h2
      by_cases hd:dp<200
      ·obtain⟨R,q1,q2⟩:=ih rest true (⟨-1,0,0⟩::r) o (dp+1) (n-1) hkr htr ⟨⟨0+h,.cons .par hi1,by rw[if_pos rfl,Nat.zero_add];exact hi2⟩,hi3,by rw[wr_neg _ _ (by decide)];omega⟩ (by omega)
       exact⟨R,.oPar k t rest r o dp R hk2 hc hd q1,q2⟩
      ·exact⟨_,.oDeep k t rest r o dp hk2 hc (by omega),.bad _ _ _ _ (by decide)⟩
     ·exact⟨_,.oSign k t rest r o dp hk2 (by rw[htl];simpa using h1) (by rw[htl];simpa using h2),.bad _ _ _ _ (by decide)⟩
  |false=>
   cases toks with
   |nil=>
    rcases hp:popR 1 r o with⟨r',o'⟩
    have hi':=pop_iv 1 (by omega) r o r' o' n hp hi
    cases r' with
    |nil=>
     refine⟨_,.pEnd k r o dp o' hp,⟨fun o2 he=>?_,fun _ _ _ h=>(by cases h)⟩⟩
     injection he with he;subst he;obtain⟨⟨h,q1,q2⟩,q3,q4⟩:=hi';cases q1;have q5:wr []=0:=rfl;rw[q5]at q4;simp only[List.length_nil]at hN;exact⟨q2,q3,by omega⟩
    |cons x r'=>exact⟨_,.pEndW k r o dp x r' o' hp,.bad _ _ _ _ (by decide)⟩
   |cons t rest=>
    have hkr:rest.length<k:=by rw[List.length_cons]at hk;omega
    have htr:∀t∈rest,TokOK t:=fun x hx=>ht x (List.mem_cons_of_mem _ hx)
    rw[List.length_cons]at hN;obtain⟨op,rk,ho,hw⟩:=op_tot t;rcases hw with⟨ho1,ho2,hrk⟩|hrk
    ·rcases hp:popR rk r o with⟨r',o'⟩
     obtain⟨⟨h,q1,q2⟩,q3,q4⟩:=pop_iv rk (by omega) r o r' o' n hp hi
     rw[if_neg (by decide)]at q2
     obtain⟨R,e1,e2⟩:=ih rest true (⟨op,rk,0⟩::r') o' dp (n+1) hkr htr ⟨⟨1+h,.cons (.bin op rk ⟨ho1,ho2⟩ hrk) q1,by rw[if_pos rfl,Nat.add_comm];exact q2⟩,q3,by rw[wr_pos _ _ (by show¬op<0;omega)];omega⟩ (by omega)
     exact⟨R,.pOp k t rest r o dp R op rk r' o' ho (by omega) (by omega) (by omega) hp e1,e2⟩
    ·rcases hp:popR 1 r o with⟨r',o'⟩
     have hi':=pop_iv 1 (by omega) r o r' o' n hp hi
     cases r' with
     |nil=>exact⟨_,.pBadN k t rest r o dp o' op rk ho (by omega) hp,.bad _ _ _ _ (by decide)⟩
     |cons x r'=>
      have hx1:=pop_top 1 r o x r' o' hp;obtain⟨⟨h,q1,q2⟩,q3,q4⟩:=hi';rw[if_neg (by decide)]at q2
      cases q1 with| @cons _ _ a b hxo hro=>
      by_cases hs:t.f1.toList=[41]∧x.f2≤1
      ·have hk2:t.f0=2∧t.f1=⟨#[41]⟩:=by
        rcases ht t (List.mem_cons_self ..)with⟨_,hnm⟩|⟨_,hnx⟩|⟨hk2,c,hc,_⟩
        ·have h5:=hnm.hall
         have h6:=hs.1;rw[Lib.toList_data]at h6;rw[h6]at h5;exact absurd h5 (by decide)
        ·obtain⟨_,a,ha,hna,h7⟩:=hnx
         have h6:=hs.1;rw[Lib.toList_data]at h6;rw[h6]at h7;cases a with
         |nil=>exact absurd rfl hna
         |cons a0 a1=>
          have h8:a0=41:=by
           rcases h7 with h7|⟨_,_,_,h7⟩
           ·injection h7 with h8 _;exact h8.symm
           ·injection h7 with h8 _;exact h8.symm
          have:=ha a0 (List.mem_cons_self ..);subst h8;exact absurd this.1 (by decide)
        ·refine⟨hk2,?_⟩
         have h6:=hs.1;rw[hc,ByteArray.toList_eq]at h6;have:c=41:=by simpa using h6
         rw[hc,this]
       cases hxo with
       |bin op' rank' hop hrk'=>exact absurd hx1 (by show¬rank'<1;omega)
       |neg=>exact absurd hx1 (by decide)
       |par=>
        rw[wr_neg _ _ (by decide)]at q4
        obtain⟨R,e1,e2⟩:=ih rest false r' o' (dp-1) (n+1) hkr htr ⟨⟨b,hro,by rw[if_neg (by decide)];rw[Nat.zero_add]at q2;exact q2⟩,q3,by omega⟩ (by omega)
        exact⟨R,.pShutP k t rest r o dp R ⟨-1,0,0⟩ r' o' hk2.1 hk2.2 hp hs.2 (by decide) e1,e2⟩
       |fn kk a q hkk h1 h2=>
        have hq:q=1:=by
         have:=hs.2;dsimp only at this;omega
        subst hq;have ha:ar (.op kk)=a+1:=by
         show(if kk=5 then 1 else if kk≤11 then 2 else 3)=a+1
         rw[if_neg (by omega)]
         unfold nmA at h2;split at h2
         ·rw[if_neg (by omega)];omega
         ·rw[if_pos (by omega)];omega
        have hq3:=q2.snoc (.op kk) (by rw[ha];omega)
        rw[ha]at hq3;rw[wr_pos _ _ (by show¬(kk:Int)<0;omega)]at q4
        obtain⟨R,e1,e2⟩:=ih rest false r' (o'++[.op kk]) (dp-1) n hkr htr ⟨⟨b,hro,by rw[if_neg (by decide)];rw[show b+1=a+b+1-(a+1)+1 by omega];exact hq3⟩,q3.snoc (by show 5≤kk∧kk≤12;omega),by rw[List.length_append];simp only[List.length_cons,List.length_nil];omega⟩ (by omega)
        exact⟨R,.pShutF k t rest r o dp R ⟨kk,0,1⟩ r' o' kk hk2.1 hk2.2 hp hs.2 rfl e1,e2⟩
      by_cases hc:t.f0=2∧t.f1.toList=[44]∧1<x.f2
      ·have h44:t.f1=⟨#[44]⟩:=by
        have h6:=hc.2.1;rw[Lib.toList_data]at h6;rw[←mkB t.f1,h6]
       cases hxo with
       |bin op' rank' hop hrk'=>exact absurd hc.2.2 (by show¬(1:Int)<0;decide)
       |neg=>exact absurd hc.2.2 (by decide)
       |par=>exact absurd hc.2.2 (by decide)
       |fn kk a q hkk h1 h2=>
        have hq:1<q:=hc.2.2;obtain⟨R,e1,e2⟩:=ih rest true (⟨kk,0,q-1⟩::r') o' dp n hkr htr ⟨⟨(a+1)+b,.cons (.fn kk (a+1) (q-1) hkk (by omega) (by omega)) hro,by rw[if_pos rfl,show a+1+b=a+b+1 by omega];exact q2⟩,q3,by rw[wr_pos _ _ (by show¬(kk:Int)<0;omega)]at q4 ⊢;omega⟩ (by omega)
        exact⟨R,.pComma k t rest r o dp R ⟨kk,0,q⟩ r' o' hc.1 h44 hp hq e1,e2⟩
      ·refine⟨_,.pBadX k t rest r o dp x r' o' op rk ho (by omega) hp ?_,.bad _ _ _ _ (by decide)⟩
       by_cases h1:t.f1.toList=[44]
       ·refine .inl ⟨h1,?_⟩
        by_cases h2:t.f0=2
        ·refine .inr ?_
         have:¬1<x.f2:=fun h3=>hc ⟨h2,h1,h3⟩
         omega
        ·exact .inl h2
       ·by_cases h2:t.f1.toList=[41]
        ·refine .inr (.inl ⟨h2,?_⟩)
         have:¬x.f2≤1:=fun h3=>hs ⟨h2,h3⟩
         omega
        ·exact .inr (.inr ⟨h1,h2⟩)
end Go.Proofs.YtjopepfemhckjaaGreatDoor.NW
end
section
set_option maxRecDepth 100000
namespace Go.Proofs.YtjopepfemhckjaaGreatDoor.WW
open Go.Proofs Go.RowKit Go.Proofs.YtjopepfemhckjaaGreatDoor.WP Go.Proofs.YtjopepfemhckjaaGreatDoor.Fl Go.Proofs.YtjopepfemhckjaaGreatDoorW.PrintWords Go.Proofs.YtjopepfemhckjaaGreatDoor.PParseTells
theorem toL_extract (a:ByteArray)(i j:Nat):(a.extract i j).data.toList=(a.data.toList.drop i).take (j-i):=by
 rw[ByteArray.data_extract,Array.toList_extract]
theorem toL_rest (a:ByteArray)(i:Nat):(a.extract i a.size).data.toList=a.data.toList.drop i:=by
 rw[toL_extract,List.take_of_length_le];rw[List.length_drop];simp
def mkL (l:List UInt8):ByteArray:=⟨l.toArray⟩
theorem toL_mkL (l:List UInt8):(mkL l).data.toList=l:=rfl
theorem toL_inj {a b:ByteArray}(h:a.data.toList=b.data.toList):a=b:=Go.WideShapes.bytes_inj h
theorem empty_iff (s:ByteArray):s=⟨#[]⟩↔s.data.toList=[]:=⟨fun h=>by rw[h],fun h=>toL_inj (by rw[h])⟩
def lexL:Nat→List UInt8→Nat×Nat→Sum (Nat×Nat) (List S75)
 |0,_,_=> .inr []
 |k+1,l,p=>
  if l.drop (runL isB l)=[]then .inr []else
  if(kindL (l.drop (runL isB l))).2=0 then .inl (advP p (l.take (runL isB l)))else
  match lexL k ((l.drop (runL isB l)).drop (kindL (l.drop (runL isB l))).2) (advP (advP p (l.take (runL isB l))) ((l.drop (runL isB l)).take (kindL (l.drop (runL isB l))).2))with
  | .inl q=> .inl q
  | .inr ts=> .inr (⟨(kindL (l.drop (runL isB l))).1,mkL ((l.drop (runL isB l)).take (kindL (l.drop (runL isB l))).2),(advP p (l.take (runL isB l))).1,(advP p (l.take (runL isB l))).2⟩::ts)
theorem lexB_list (k:Nat)(s:ByteArray)(p:Nat×Nat):lexB k s p=lexL k s.data.toList p:=by
 induction k generalizing s p with
 |zero=>rfl
 |succ k ih=>
  rw[lexB.eq_2,lexL.eq_2];have e1:=toL_rest s (runL isB s.data.toList);simp only[ih,empty_iff,e1,toL_rest];have e2:∀n,(s.extract (runL isB s.data.toList) s.size).extract 0 n=mkL ((s.data.toList.drop (runL isB s.data.toList)).take n):=by
   intro n;apply toL_inj;rw[toL_extract,e1,toL_mkL];rfl
  simp only[e2];rfl
theorem lexL_blank (k:Nat)(c:UInt8)(l:List UInt8)(p:Nat×Nat)(h:isB c.toNat=true):lexL (k+1) (c::l) p=lexL (k+1) l (stepP p c):=by
 have hr:runL isB (c::l)=runL isB l+1:=if_pos h;rw[lexL.eq_2,lexL.eq_2,hr];rfl
theorem runL_none (p:Nat→Bool)(c:UInt8)(l:List UInt8)(h:p c.toNat=false):runL p (c::l)=0:=by
 show(if p c.toNat=true then _ else 0)=0
 rw[h];rfl
theorem lexL_nil (k:Nat)(p:Nat×Nat):lexL k [] p= .inr []:=by
 cases k with
 |zero=>rfl
 |succ k=>rw[lexL.eq_2];rfl
def tk (t:S75):Int×ByteArray:=(t.f0,t.f1)
def lexT:Nat→List UInt8→Option (List (Int×ByteArray))
 |0,_=>some []
 |k+1,l=>
  if l.drop (runL isB l)=[]then some []else
  if(kindL (l.drop (runL isB l))).2=0 then none else
  (lexT k ((l.drop (runL isB l)).drop (kindL (l.drop (runL isB l))).2)).map fun ts=>(((kindL (l.drop (runL isB l))).1:Int),mkL ((l.drop (runL isB l)).take (kindL (l.drop (runL isB l))).2))::ts
def bare:Sum (Nat×Nat) (List S75)→Option (List (Int×ByteArray))
 | .inl _=>none
 | .inr ts=>some (ts.map tk)
theorem bare_lexL (k:Nat)(l:List UInt8)(p:Nat×Nat):bare (lexL k l p)=lexT k l:=by
 induction k generalizing l p with
 |zero=>rfl
 |succ k ih=>
  rw[lexL.eq_2,lexT.eq_2];split
  ·rfl
  ·split
   ·rfl
   ·rw[←ih _ (advP (advP p (l.take (runL isB l))) ((l.drop (runL isB l)).take (kindL (l.drop (runL isB l))).2))]
    generalize lexL k _ _=R;cases R<;>rfl
theorem lexT_blank (k:Nat)(c:UInt8)(l:List UInt8)(h:isB c.toNat=true):lexT (k+1) (c::l)=lexT (k+1) l:=by
 rw[←bare_lexL (k+1) (c::l) (1,1),lexL_blank k c l _ h,bare_lexL]
theorem lexT_nil (k:Nat):lexT k []=some []:=by
 rw[←bare_lexL k [] (1,1),lexL_nil];rfl
theorem lexT_tok (k:Nat)(c:UInt8)(l:List UInt8)(h:isB c.toNat=false):lexT (k+1) (c::l)=
 if(kindL (c::l)).2=0 then none else(lexT k ((c::l).drop (kindL (c::l)).2)).map fun ts=>(((kindL (c::l)).1:Int),mkL ((c::l).take (kindL (c::l)).2))::ts:=by
 rw[lexT.eq_2,runL_none isB c l h];rfl
theorem lexT_fuel (m:Nat):∀(k k':Nat) (l:List UInt8),l.length≤m→l.length<k→l.length<k'→lexT k l=lexT k' l:=by
 induction m with
 |zero=>
  intro k k' l h1 _ _;obtain rfl:l=[]:=List.length_eq_zero_iff.1 (by omega)
  rw[lexT_nil,lexT_nil]
 |succ m ih=>
  intro k k' l h1 h2 h3;obtain⟨k,rfl⟩:∃j,k=j+1:=⟨k-1,by omega⟩
  obtain⟨k',rfl⟩:∃j,k'=j+1:=⟨k'-1,by omega⟩
  cases l with
  |nil=>rw[lexT_nil,lexT_nil]
  |cons c l=>
   rw[List.length_cons]at h1 h2 h3;cases hb:isB c.toNat
   ·rw[lexT_tok k c l hb,lexT_tok k' c l hb]
    by_cases h0:(kindL (c::l)).2=0
    ·rw[if_pos h0,if_pos h0]
    ·rw[if_neg h0,if_neg h0]
     have hd:((c::l).drop (kindL (c::l)).2).length≤l.length:=by rw[List.length_drop,List.length_cons];omega
     rw[ih k k' _ (by omega) (by omega) (by omega)]
   ·rw[lexT_blank k c l hb,lexT_blank k' c l hb]
    exact ih (k+1) (k'+1) l (by omega) (by omega) (by omega)
theorem runL_sep (x:UInt8)(p:Nat→Bool)(hp:p x.toNat=false)(l r:List UInt8):runL p (l++x::r)=runL p l:=by
 induction l with
 |nil=>show(if p x.toNat=true then _ else 0)=0;rw[hp];rfl
 |cons c l ih=>
  show(if p c.toNat=true then runL p (l++x::r)+1 else 0)=if p c.toNat=true then runL p l+1 else 0
  rw[ih]
theorem peekL_sep (x:UInt8)(l r:List UInt8)(n:Nat)(h:n≤l.length):peekL (l++x::r) n=if n<l.length then peekL l n else x.toNat:=by
 unfold peekL;by_cases hn:n<l.length
 ·rw[if_pos hn,List.getElem?_append_left hn]
 ·rw[if_neg hn,List.getElem?_append_right (by omega),show n-l.length=0 by omega]
  rfl
theorem numL_sep (x:UInt8)(hx:isD x.toNat=false)(hx2:x.toNat≠46)(l r:List UInt8):numL (l++x::r)=numL l:=by
 have hle:=runL_le isD l;unfold numL;rw[runL_sep x isD hx,peekL_sep x l r _ hle];by_cases h1:runL isD l<l.length
 ·rw[if_pos h1,peekL_sep x l r _ (by omega)]
  by_cases h2:runL isD l+1<l.length
  ·rw[if_pos h2,List.drop_append_of_le_length (by omega),runL_sep x isD hx]
  ·rw[if_neg h2]
   have e:peekL l (runL isD l+1)=0:=by unfold peekL;rw[List.getElem?_eq_none (by omega)];rfl
   rw[e,if_neg (by rintro⟨_,h⟩;rw[hx]at h;exact absurd h (by decide)),if_neg (by rintro⟨_,h⟩;exact absurd h (by decide))]
 ·rw[if_neg h1]
  have e:peekL l (runL isD l)=0:=by unfold peekL;rw[List.getElem?_eq_none (by omega)];rfl
  rw[e,if_neg (by rintro⟨h,_⟩;exact hx2 h),if_neg (by rintro⟨h,_⟩;exact absurd h (by decide))]
theorem kindL_sep (x:UInt8)(hxl:isLD x.toNat=false)(hx:isD x.toNat=false)(hx2:x.toNat≠46)(l r:List UInt8)(h:l≠[]):kindL (l++x::r)=kindL l:=by
 have hp:0<l.length:=List.length_pos_iff.mpr h;unfold kindL;rw[peekL_sep x l r 0 (by omega),if_pos hp,runL_sep x isLD hxl,numL_sep x hx hx2]
theorem lexT_join (x:UInt8)(hxl:isLD x.toNat=false)(hx:isD x.toNat=false)(hx2:x.toNat≠46)(r:List UInt8)(m:Nat):∀(l:List UInt8) (K:Nat),l.length≤m→l.length+1+r.length<K→
 lexT K (l++x::r)=(lexT K l).bind fun a=>(lexT K (x::r)).map fun b=>a++b:=by
 induction m with
 |zero=>
  intro l K h1 h2;obtain rfl:l=[]:=List.length_eq_zero_iff.1 (by omega)
  rw[List.nil_append,lexT_nil];cases lexT K (x::r)<;>rfl
 |succ m ih=>
  intro l K h1 h2;obtain⟨k,rfl⟩:∃j,K=j+1:=⟨K-1,by omega⟩
  cases l with
  |nil=>
   rw[List.nil_append,lexT_nil];cases lexT (k+1) (x::r)<;>rfl
  |cons c l=>
   rw[List.length_cons]at h1 h2;cases hb:isB c.toNat
   ·have hne:(c::l)≠[]:=by simp
    have hks:=kindL_sep x hxl hx hx2 (c::l) r hne;have hle:=kindL_le (c::l) hne;have hlen:(c::l).length=l.length+1:=rfl;rw[List.cons_append]at hks ⊢;rw[lexT_tok k c _ hb,lexT_tok k c l hb,hks];by_cases h0:(kindL (c::l)).2=0
    ·rw[if_pos h0,if_pos h0];rfl
    ·rw[if_neg h0,if_neg h0,←List.cons_append,List.drop_append_of_le_length hle,List.take_append_of_le_length hle]
     have hd:((c::l).drop (kindL (c::l)).2).length=l.length+1-(kindL (c::l)).2:=by rw[List.length_drop,hlen]
     rw[ih _ k (by omega) (by omega),lexT_fuel (r.length+1) (k+1) k (x::r) (Nat.le_refl _) (by rw[List.length_cons];omega) (by rw[List.length_cons];omega)]
     cases lexT k ((c::l).drop (kindL (c::l)).2)with
     |none=>rfl
     |some a=>cases lexT k (x::r)<;>rfl
   ·rw[List.cons_append,lexT_blank k c _ hb,lexT_blank k c l hb]
    exact ih l (k+1) (by omega) (by omega)
theorem run_all (p:Nat→Bool):∀(l:List UInt8),∀x∈l.take (runL p l),p x.toNat=true
 |[],x,hx=>by cases hx
 |c::l,x,hx=>by
  unfold runL at hx;by_cases h:p c.toNat=true
  ·rw[if_pos h,List.take_succ_cons]at hx
   rcases List.mem_cons.1 hx with rfl|hx
   ·exact h
   ·exact run_all p l x hx
  ·rw[if_neg h]at hx
   cases hx
theorem run_head (p:Nat→Bool)(c:UInt8)(l:List UInt8)(h:p c.toNat=true):runL p (c::l)=runL p l+1:=if_pos h
theorem dig_all (l:List UInt8):Go.Proofs.YtjopepfemhckjaaGreatDoor.PN.allD (l.take (runL isD l)):=by
 intro x hx;have:=run_all isD l x hx;unfold isD at this;exact of_decide_eq_true this
theorem kindL_ok (c:UInt8)(l:List UInt8)(h0:(kindL (c::l)).2≠0)(a b:Int):NW.TokOK ⟨((kindL (c::l)).1:Int),mkL ((c::l).take (kindL (c::l)).2),a,b⟩:=by
 have hp:peekL (c::l) 0=c.toNat:=rfl;have hk:kindL (c::l)=if isL c.toNat=true then(if 20<runL isLD (c::l)then(0,0)else(0,runL isLD (c::l)))else if isD c.toNat=true then(if 100<numL (c::l)then(0,0)else(1,numL (c::l)))else if isS c.toNat=true then(2,1)else(0,0):=rfl
 by_cases hL:isL c.toNat=true
 ·rw[if_pos hL]at hk
  by_cases h20:20<runL isLD (c::l)
  ·rw[if_pos h20]at hk
   rw[hk]at h0;exact absurd rfl h0
  ·rw[if_neg h20]at hk
   rw[hk];refine .inl ⟨rfl,?_⟩;have hc:isLD c.toNat=true:=by unfold isLD;rw[hL];rfl
   have hr:=run_head isLD c l hc;have hsz:(mkL ((c::l).take (runL isLD (c::l)))).size=runL isLD (c::l):=by
    show((c::l).take (runL isLD (c::l))).length=_
    rw[List.length_take];have:=runL_le isLD (c::l);omega
   have hg:(mkL ((c::l).take (runL isLD (c::l)))).get! 0=c:=by
    rw[hr];rfl
   have hLn:97≤c.toNat∧c.toNat≤122:=by unfold isL at hL;exact of_decide_eq_true hL
   refine⟨by show 0<(mkL _).size;rw[hsz];omega,by show(mkL _).size≤20;rw[hsz];omega,?_,by show 97≤((mkL _).get! 0).toNat;rw[hg];exact hLn.1,by show((mkL _).get! 0).toNat≤122;rw[hg];exact hLn.2⟩
   show((c::l).take (runL isLD (c::l))).all NW.nmB=true
   rw[List.all_eq_true];intro x hx;have h1:=run_all isLD (c::l) x hx;unfold isLD isL isD at h1;unfold NW.nmB;simp only[Bool.or_eq_true,Bool.and_eq_true,decide_eq_true_eq]at h1 ⊢;omega
 ·rw[if_neg hL]at hk
  by_cases hD:isD c.toNat=true
  ·rw[if_pos hD]at hk
   by_cases h100:100<numL (c::l)
   ·rw[if_pos h100]at hk
    rw[hk]at h0;exact absurd rfl h0
   ·rw[if_neg h100]at hk
    rw[hk];refine .inr (.inl ⟨rfl,?_,?_⟩)
    ·show((c::l).take (numL (c::l))).length≤100
     rw[List.length_take];omega
    ·have hr:=run_head isD c l hD
     refine⟨(c::l).take (runL isD (c::l)),dig_all _,by rw[hr];simp,?_⟩
     show(c::l).take (numL (c::l))=_∨∃b,_∧_∧(c::l).take (numL (c::l))=_
     unfold numL;by_cases hn:peekL (c::l) (runL isD (c::l))=46∧isD (peekL (c::l) (runL isD (c::l)+1))=true
     ·rw[if_pos hn]
      refine .inr ⟨((c::l).drop (runL isD (c::l)+1)).take (runL isD ((c::l).drop (runL isD (c::l)+1))),dig_all _,?_,?_⟩
      ·have h1:=hn.2
       generalize (c::l)=L at h1 ⊢;generalize runL isD L+1=j at h1 ⊢;unfold peekL at h1;have e:L[j]? =(L.drop j)[0]? :=by rw[List.getElem?_drop,Nat.add_zero]
       rw[e]at h1;cases hd:L.drop j with
       |nil=>rw[hd]at h1;exact absurd h1 (by decide)
       |cons x y=>
        rw[hd]at h1;rw[run_head isD x y h1];simp
      ·have h1:=hn.1
       generalize (c::l)=L at h1 ⊢;generalize runL isD L=j at h1 ⊢;have hlt:j<L.length:=by
        apply Decidable.byContradiction;intro hge;unfold peekL at h1;rw[List.getElem?_eq_none (by omega)]at h1
        exact absurd h1 (by decide)
       have hj:L[j]=46:=by
        unfold peekL at h1;rw[List.getElem?_eq_getElem hlt]at h1;exact PN.u8_ext h1
       rw[List.take_add,List.drop_eq_getElem_cons hlt,Nat.add_comm 1,List.take_succ_cons,hj]
     ·rw[if_neg hn]
      exact .inl rfl
  ·rw[if_neg hD]at hk
   by_cases hS:isS c.toNat=true
   ·rw[if_pos hS]at hk
    rw[hk];refine .inr (.inr ⟨rfl,c,rfl,?_⟩);unfold isS at hS;have h1:=of_decide_eq_true hS;have key:∀n:Nat,n<256→(n=43∨n=45∨n=42∨n=47∨n=40∨n=41∨n=44)→UInt8.ofNat n∈([43,45,42,47,40,41,44]:List UInt8):=by
     intro n _ h;rcases h with rfl|rfl|rfl|rfl|rfl|rfl|rfl<;>decide
    have:=key c.toNat c.toNat_lt h1;rw[UInt8.ofNat_toNat]at this;exact this
   ·rw[if_neg hS]at hk
    rw[hk]at h0;exact absurd rfl h0
theorem drop_head (l:List UInt8)(h:l.drop (runL isB l)≠[]):∃c r,l.drop (runL isB l)=c::r:=by
 cases hd:l.drop (runL isB l)with
 |nil=>exact absurd hd h
 |cons c r=>exact⟨c,r,rfl⟩
theorem adv_col:∀(l:List UInt8) (p:Nat×Nat) (N:Nat),p.2+l.length≤N→1+l.length≤N→(advP p l).2≤N
 |[],p,N,h,_=>by simpa[advP]using h
 |c::l,p,N,h,h1=>by
  rw[List.length_cons]at h h1;show(advP (stepP p c) l).2≤N
  refine adv_col l _ N ?_ (by omega)
  unfold stepP;split
  ·show 1+l.length≤N;omega
  ·show p.2+1+l.length≤N;omega
theorem adv_app (p:Nat×Nat)(a b:List UInt8):advP (advP p a) b=advP p (a++b):=by
 unfold advP;rw[List.foldl_append]
theorem lexL_toks (l0:List UInt8)(k:Nat):∀(l:List UInt8) (pre:List UInt8) (ts:List S75),pre++l=l0→lexL k l (advP (1,1) pre)= .inr ts→(∀t∈ts,NW.TokOK t∧0≤t.f3∧t.f3≤((1+l0.length:Nat):Int))∧ts.length≤l.length:=by
 induction k with
 |zero=>
  intro l pre ts hl h;injection h with h;subst h;exact⟨fun t ht=>(by cases ht),Nat.zero_le _⟩
 |succ k ih=>
  intro l pre ts hl h;rw[lexL.eq_2]at h;by_cases hd:l.drop (runL isB l)=[]
  ·rw[if_pos hd]at h
   injection h with h;subst h;exact⟨fun t ht=>(by cases ht),Nat.zero_le _⟩
  ·rw[if_neg hd]at h
   obtain⟨c,r,hcr⟩:=drop_head l hd;by_cases h0:(kindL (l.drop (runL isB l))).2=0
   ·rw[if_pos h0]at h
    cases h
   ·rw[if_neg h0]at h
    have hn0:(kindL (l.drop (runL isB l))).2≤(l.drop (runL isB l)).length:=kindL_le _ hd;rw[adv_app,adv_app]at h;cases hR:lexL k ((l.drop (runL isB l)).drop (kindL (l.drop (runL isB l))).2) (advP (1,1) (pre++(l.take (runL isB l)++(l.drop (runL isB l)).take (kindL (l.drop (runL isB l))).2)))with
    |inl q=>rw[hR]at h;cases h
    |inr ts2=>
     rw[hR]at h;injection h with h;subst h;obtain⟨q1,q2⟩:=ih _ _ _ (by rw[List.append_assoc,List.append_assoc,List.take_append_drop,List.take_append_drop];exact hl) hR
     have hlen:l.length=(l.take (runL isB l)).length+(l.drop (runL isB l)).length:=by rw[←List.length_append,List.take_append_drop]
     rw[List.length_drop]at q2;refine⟨fun t ht=>?_,by rw[List.length_cons];omega⟩
     rcases List.mem_cons.1 ht with rfl|ht
     ·refine⟨?_,Int.natCast_nonneg _,?_⟩
      ·rw[hcr]at h0 ⊢
       exact kindL_ok c r h0 _ _
      ·show((advP (advP (1,1) pre) (l.take (runL isB l))).2:Int)≤_
       have hc:=adv_col (pre++l.take (runL isB l)) (1,1) (1+l0.length) (by show 1+_≤_;rw[←hl,List.length_append,List.length_append];omega) (by rw[←hl,List.length_append,List.length_append];omega)
       rw[←adv_app]at hc;omega
     ·exact q1 t ht
theorem lexD_ways (s:ByteArray):(∃a b:Int,lexD s=([],90,a,b)∧lexT (s.size+1) s.data.toList=none)∨(∃T:List S75,lexD s=(T,0,0,0)∧lexT (s.size+1) s.data.toList=some (T.map tk)∧(∀t∈T,NW.TokOK t∧0≤t.f3∧t.f3≤((1+s.size:Nat):Int))∧T.length≤s.size):=by
 have hb:=bare_lexL (s.size+1) s.data.toList (1,1);have hz:s.data.toList.length=s.size:=rfl;unfold lexD;rw[lexB_list];cases hR:lexL (s.size+1) s.data.toList (1,1)with
 |inl q=>rw[hR]at hb;exact Or.inl ⟨_,_,rfl,hb.symm⟩
 |inr ts=>
  rw[hR]at hb;obtain⟨q1,q2⟩:=lexL_toks s.data.toList (s.size+1) s.data.toList [] ts rfl hR;exact Or.inr ⟨ts,rfl,hb.symm,q1,q2⟩
end Go.Proofs.YtjopepfemhckjaaGreatDoor.WW
end
