/-
  Part 32 of the proof of parseBlanks_holds: texts of this seat, put together.
-/
import Derived.Test.YtjopepfemhckjaaGreatDoorBk31
set_option linter.unusedVariables false
set_option linter.unusedSimpArgs false
section
set_option maxRecDepth 100000
namespace Go.Proofs.YtjopepfemhckjaaGreatDoor.NW
open Go.Proofs Go.RowKit Go.Shelf Go.Proofs.YtjopepfemhckjaaGreatDoor.PN Go.Proofs.YtjopepfemhckjaaGreatDoorW.PrintWords Go.Proofs.YtjopepfemhckjaaGreatDoor.PParseTells
theorem natS_lt (n:Nat):n<10^(natS n).size:=by
 have h1:=dv_lt _ (natS_isN n).1.dig;rw[(natS_isN n).2]at h1;exact h1
theorem natS_le (n k:Nat)(h:n<10^k)(hk:0<k):(natS n).size≤k:=by
 have h1:=dec_len n k h hk;have e:(natS n).size=(Lib.decDigits n).length:=by show(natS n).data.toList.length=_;rw[natS_list]
 omega
set_option maxHeartbeats 4000000 in
theorem mulOK_all (n m:Nat)(hn:(natS n).size≤100000)(hm:(natS m).size≤100000):MulOK n m:=by
 intro w hg;have H1:=Lib.hid (both_at n m (by omega) (by omega) w)
 have hf:Fits (n*m):=by
  refine⟨(natS n).size+(natS m).size,by omega,?_⟩
  have h1:n<10000^(natS n).size:=Nat.lt_of_lt_of_le (natS_lt n) (Nat.pow_le_pow_left (show 10≤10000 by omega) _)
  have h2:m<10000^(natS m).size:=Nat.lt_of_lt_of_le (natS_lt m) (Nat.pow_le_pow_left (show 10≤10000 by omega) _)
  rw[Nat.pow_add];exact Nat.mul_lt_mul_of_lt_of_lt h1 h2
 have H2:∀(w w':World) (a b:Value),Below w.heap.size w w'→Glob w→LS w' a n→LS w' b m→RowKit.Hid (Calls Tryz.prog 210 #[a,b] w' fun e w2=>∃v,e= .returned v∧LS w2 v (n*m)∧Below w'.heap.size w' w2):=by
  intro w w' a b hb hg ha hb';obtain⟨A,c,l,rfl,q1,q2,q3,q4⟩:=ha.ex;obtain⟨B,d,l',rfl,r1,r2,r3,r4⟩:=hb'.ex;refine Lib.hid ((mul_at A B c d l l' w' q3.wf r3.wf q4 r4 (by omega) (by omega)).mono ?_)
  rintro e w2 ⟨g,l2,cap,rfl,hR,hg2,hl2,hb2⟩;rw[q3.val,r3.val]at hl2;exact⟨_,rfl,LS.of_V (base:=0) (Kd.R_V hR) hl2 hf,hb2⟩
 have HG:=Aside0.mk hg;clear hg hf hn hm;go_enter Tryz.func192,Tryz.ntmps192
 go_wp2_with fail;refine H1.out.mono ?_;rintro e w1 ⟨a,b,rfl,ha,hb,hb1⟩;have H3:=H2 w w1 a b hb1 HG.out ha hb;have HB1:=Aside0.mk hb1;clear H1 H2 ha hb hb1;go_wp2_with fail;refine H3.out.mono ?_;rintro e w2 ⟨v,rfl,hv,hb2⟩;have H4:=Lib.hid (LS.text hv (HG.out.below (HB1.out.trans (hb2.mono HB1.out.size))));have HB2:=Aside0.mk (HB1.out.trans (hb2.mono HB1.out.size));clear H3 hv hb2 HB1;go_wp2_with fail;refine H4.out.mono ?_;rintro e w3 ⟨rfl,hb3⟩;go_wp2_with fail;go_ret;exact⟨rfl,HB2.out.trans (hb3.mono HB2.out.size)⟩
theorem trimP_nat (n:Nat):strings_TrimPrefix.f (natS n) ⟨#[45]⟩=some (natS n):=by
 obtain⟨c,r,h1,h2,h3⟩:=natS_head n;have hz:=natS_pos n;have hh:stringslite_HasPrefix.f (natS n) ⟨#[45]⟩=some false:=by
  unfold stringslite_HasPrefix.f;have e1:((⟨#[45]⟩:ByteArray).size:Int)=1:=rfl;rw[e1,if_pos (by omega),if_pos (by omega),if_pos (by omega)]
  congr 1
  rw[beq_eq_false_iff_ne];intro h;rw[Lib.toList_data,ext_toList,Lib.toList_data,h1]at h;have:c=45:=by simpa using h
  subst this;exact absurd h2 (by decide)
 unfold strings_TrimPrefix.f stringslite_TrimPrefix.f;rw[hh];rfl
theorem trimP_neg (n:Nat):strings_TrimPrefix.f ((⟨#[45]⟩:ByteArray)++natS n) ⟨#[45]⟩=some (natS n):=by
 have hs:((⟨#[45]⟩:ByteArray)++natS n).size=1+(natS n).size:=ByteArray.size_append;have hl:((⟨#[45]⟩:ByteArray)++natS n).data.toList=45::(natS n).data.toList:=by simp
 have hh:stringslite_HasPrefix.f ((⟨#[45]⟩:ByteArray)++natS n) ⟨#[45]⟩=some true:=by
  unfold stringslite_HasPrefix.f;have e1:((⟨#[45]⟩:ByteArray).size:Int)=1:=rfl;rw[e1,if_pos (by omega),if_pos (by omega),if_pos (by omega)]
  congr 1
  rw[beq_iff_eq,Lib.toList_data,ext_toList,Lib.toList_data,hl];rfl
 unfold strings_TrimPrefix.f stringslite_TrimPrefix.f;rw[hh];have e1:((⟨#[45]⟩:ByteArray).size:Int)=1:=rfl;simp only[Option.bind_some];rw[if_pos trivial,e1,if_pos (by omega),if_pos (by omega)]
 simp only[Option.bind_some];congr 1
 apply ba_ext;have h2:=ext_toList ((⟨#[45]⟩:ByteArray)++natS n) 1 ((⟨#[45]⟩:ByteArray)++natS n).size;rw[hl]at h2;have h3:(((⟨#[45]⟩:ByteArray)++natS n).extract 1 ((⟨#[45]⟩:ByteArray)++natS n).size).data.toList=(natS n).data.toList:=by
  rw[h2,List.take_of_length_le (by rw[List.length_cons];have:(natS n).data.toList.length=(natS n).size:=rfl;omega)]
  rfl
 exact h3
theorem short_tot (z:Int)(d:Nat):parse_short.f (intS z) (natS d)=some (decide ((natS z.natAbs).size≤60)&&decide ((natS d).size≤60)):=by
 have h:strings_TrimPrefix.f (intS z) ⟨#[45]⟩=some (natS z.natAbs):=by
  unfold intS;split
  ·exact trimP_neg _
  ·exact trimP_nat _
 unfold parse_short.f;rw[h];show(if((natS z.natAbs).size:Int)≤60 then _ else _)=_
 by_cases h1:(natS z.natAbs).size≤60
 ·rw[if_pos (by omega),decide_eq_true h1,Bool.true_and]
  congr 1
  exact decide_eq_decide.2 (by omega)
 ·rw[if_neg (by omega),decide_eq_false h1,Bool.false_and]
def NumX (s:ByteArray):Prop:=s.size≤100∧∃a,allD a∧a≠[]∧(s.data.toList=a∨∃b,allD b∧b≠[]∧s.data.toList=a++46::b)
def BigM:Nat:=10^200
theorem rnum_rden (x:Nat)(d:Nat)(hd:0<d):0<rden x d∧rden x d≤d∧(rnum x d).natAbs.gcd (rden x d)=1:=by
 have hg:0<Nat.gcd x d:=Nat.gcd_pos_of_pos_right _ hd;have hn:rnum (x:Int) d=((x/Nat.gcd x d:Nat):Int):=by
  unfold rnum;rw[if_neg (by omega),Int.natAbs_natCast]
 have hr:rden (x:Int) d=d/Nat.gcd x d:=by
  unfold rden;rw[Int.natAbs_natCast]
 rw[hn,hr];refine⟨Nat.div_pos (Nat.le_of_dvd hd (Nat.gcd_dvd_right _ _)) hg,Nat.div_le_self _ _,?_⟩;rw[Int.natAbs_natCast,Nat.gcd_div (Nat.gcd_dvd_left _ _) (Nat.gcd_dvd_right _ _)];exact Nat.div_self hg
theorem num_run (s:ByteArray)(h:NumX s):∃z d,(∀w,Glob w→Calls Tryz.prog 40 #[.string s] w fun e w'=>e= .returned (.tuple #[ratV z d,.int .i64 0])∧Below w.heap.size w w')∧0<d∧z.natAbs.gcd d=1:=by
 obtain⟨hs,a,ha,hna,h|⟨b,hb,hnb,h⟩⟩:=h
 ·have h1:=rnum_rden (dv s.data.toList) 1 (by omega)
  exact⟨_,_,fun w hg=>decInt_at BigM (div_all BigM) (by unfold BigM;exact Nat.one_lt_pow (by omega) (by omega)) s (by rw[h];exact ha) (by rw[h];exact hna) (by omega) w hg,h1.1,h1.2.2⟩
 ·have hz:s.size=a.length+(b.length+1):=by
   show s.data.toList.length=_
   rw[h,List.length_append,List.length_cons]
  have h1:=rnum_rden (dv (a++b)) (10^b.length) (Nat.pow_pos (by omega))
  refine⟨rnum (dv (a++b):Int) (10^b.length),rden (dv (a++b):Int) (10^b.length),fun w hg=>?_,h1.1,h1.2.2⟩
  have h2:=decFrac_at BigM (div_all BigM) a b (Nat.pow_lt_pow_right (by omega) (by omega)) ha hb hna hnb (by omega) w hg
  rw[←h]at h2;rw[mkB]at h2;exact h2
theorem ndOK_num (z:Int)(d:Nat)(h0:0<d)(hg:z.natAbs.gcd d=1)(h1:(natS z.natAbs).size≤60)(h2:(natS d).size≤60):NdOK BigM (.num z d):=by
 have hlt:d<10^60:=Nat.lt_of_lt_of_le (natS_lt d) (Nat.pow_le_pow_right (by omega) h2)
 refine⟨⟨?_,by omega,h0,Nat.lt_of_lt_of_le hlt (Nat.pow_le_pow_right (by omega) (by omega)),⟨200,by omega,Nat.lt_of_lt_of_le hlt (by decide)⟩,hg,?_⟩,h1,h2⟩
 ·unfold intS
  split
  ·have:((⟨#[45]⟩:ByteArray)++natS z.natAbs).size=1+(natS z.natAbs).size:=ByteArray.size_append
   omega
  ·omega
 ·intro h3 h4 h5
  refine mulOK_all _ _ (by omega) (Nat.le_trans (natS_le _ 21 ?_ (by omega)) (by omega))
  refine Nat.lt_of_le_of_lt (Nat.div_le_self _ _) (Nat.lt_of_le_of_lt (Nat.pow_le_pow_right (by omega) h4) (Nat.pow_lt_pow_right (by omega) (by omega)))
theorem num_ways (s:ByteArray)(h:NumX s):(∃z d,NumT s z d∧NdOK BigM (.num z d))∨∃z d,NumB s z d:=by
 obtain⟨z,d,h1,h0,hg⟩:=num_run s h;have h2:=short_tot z d;rcases hb:(decide ((natS z.natAbs).size≤60)&&decide ((natS d).size≤60))with _|_
 ·rw[hb]at h2
  exact .inr ⟨z,d,h1,h2⟩
 ·rw[hb]at h2
  rw[Bool.and_eq_true,decide_eq_true_iff,decide_eq_true_iff]at hb;exact .inl ⟨z,d,⟨h1,h2⟩,ndOK_num z d h0 hg hb.1 hb.2⟩
theorem natB_dv (s:ByteArray)(h:isNatB s.data.toList=true):natS (dv s.data.toList)=s:=by
 obtain⟨n,rfl⟩:=isNatB_ex s h;rw[(natS_isN n).2]
theorem ndOK_numNd (neg:Bool)(a b:ByteArray)(ha:isNatB a.data.toList=true)(ha60:a.size≤60)(hb:isNatB b.data.toList=true)(hb60:b.size≤60)(hb0:dv b.data.toList≠0):∃z d,numNd neg a b= .num z d∧NdOK BigM (.num z d):=by
 have ea:=natB_dv a ha;have eb:=natB_dv b hb;have hA:dv a.data.toList<10^60:=by
  have:=natS_lt (dv a.data.toList);rw[ea]at this;exact Nat.lt_of_lt_of_le this (Nat.pow_le_pow_right (by omega) ha60)
 have hB:dv b.data.toList<10^60:=by
  have:=natS_lt (dv b.data.toList);rw[eb]at this;exact Nat.lt_of_lt_of_le this (Nat.pow_le_pow_right (by omega) hb60)
 unfold numNd;rw[if_pos (by rw[ha,hb];rfl)]
 refine⟨_,_,rfl,?_⟩;generalize hz:(if neg=true then-(dv a.data.toList:Int)else(dv a.data.toList:Int))=z
 have hza:z.natAbs=dv a.data.toList:=by
  subst hz;split<;>omega
 generalize dv b.data.toList=d at*;have hg:0<Nat.gcd z.natAbs d:=Nat.gcd_pos_of_pos_right _ (by omega)
 have hn:(rnum z d).natAbs=z.natAbs/Nat.gcd z.natAbs d:=by
  unfold rnum;generalize z.natAbs/Nat.gcd z.natAbs d=q;split<;>omega
 refine ndOK_num _ _ ?_ ?_ ?_ ?_
 ·exact Nat.div_pos (Nat.le_of_dvd (by omega) (Nat.gcd_dvd_right _ _)) hg
 ·rw[hn]
  show Nat.gcd _ (d/_)=1
  rw[Nat.gcd_div (Nat.gcd_dvd_left _ _) (Nat.gcd_dvd_right _ _)];exact Nat.div_self hg
 ·rw[hn,hza]
  exact natS_le _ 60 (Nat.lt_of_le_of_lt (Nat.div_le_self _ _) hA) (by omega)
 ·exact natS_le _ 60 (Nat.lt_of_le_of_lt (Nat.div_le_self _ _) hB) (by omega)
end Go.Proofs.YtjopepfemhckjaaGreatDoor.NW
end
section
set_option maxRecDepth 100000
namespace Go.Proofs.YtjopepfemhckjaaGreatDoor.NW
open Go.Proofs Go.RowKit Go.Shelf Go.Proofs.YtjopepfemhckjaaGreatDoor.PN Go.Proofs.YtjopepfemhckjaaGreatDoorW.PrintWords Go.Proofs.YtjopepfemhckjaaGreatDoor.PParseTells
def TokOK (t:S75):Prop:=(t.f0=0∧NmOK t.f1)∨(t.f0=1∧NumX t.f1)∨(t.f0=2∧∃c:UInt8,t.f1=⟨#[c]⟩∧c∈([43,45,42,47,40,41,44]:List UInt8))
def PS.nm (s:PS)(last:S75):PS:=if(s.take 0 (fun _=>true)).2.2=true then(s.take 0 (fun _=>true)).1 else(s.take 0 (fun _=>true)).1.fail 110 last
def PS.d1 (s:PS)(last:S75):PS×Int:=(((s.must ⟨#[40]⟩ last).nm last).must ⟨#[44]⟩ last).day last 0 9999
def PS.d2 (d:PS×Int)(last:S75):PS×Int:=(d.1.must ⟨#[44]⟩ last).day last d.2 (d.2+59)
theorem price_def (s:PS)(op:Int)(last:S75):s.price op last=if op=1 then((s.d1 last).1.must ⟨#[41]⟩ last,.px ((s.must ⟨#[40]⟩ last).take 0 (fun _=>true)).2.1 (s.d1 last).2)else((PS.d2 (s.d1 last) last).1.must ⟨#[41]⟩ last,.raw ⟨op,⟨⟨#[]⟩,⟨#[]⟩⟩,((s.must ⟨#[40]⟩ last).take 0 (fun _=>true)).2.1,(s.d1 last).2,(PS.d2 (s.d1 last) last).2⟩):=rfl
section
variable {s s':PS} {last last':S75}
theorem sfx_tl:s.tl.toks<:+s.toks:=List.tail_suffix _
theorem sfx_fail (er:Int):(s.fail er last).toks<:+s.toks:=by
 unfold PS.fail;split
 ·exact List.suffix_refl _
 ·exact List.suffix_refl _
theorem sfx_must (x:ByteArray):(s.must x last).toks<:+s.toks:=by
 unfold PS.must;split
 ·exact sfx_tl
 ·exact sfx_fail _
theorem sfx_take (k:Int)(p:ByteArray→Bool):(s.take k p).1.toks<:+s.toks:=by
 unfold PS.take;split
 ·exact sfx_tl
 ·exact List.suffix_refl _
theorem sfx_nat (p:ByteArray→Bool):(s.nat p last).1.toks<:+s.toks:=by
 unfold PS.nat;split
 ·exact sfx_tl
 ·exact sfx_fail _
theorem sfx_name:(s.nm last).toks<:+s.toks:=by
 unfold PS.nm;split
 ·exact sfx_take _ _
 ·exact(sfx_fail _).trans (sfx_take _ _)
theorem sfx_d1:(s.d1 last).1.toks<:+s.toks:=(sfx_nat _).trans ((sfx_must _).trans (sfx_name.trans (sfx_must _)))
theorem sfx_d2 (d:PS×Int):(PS.d2 d last).1.toks<:+d.1.toks:=(sfx_nat _).trans (sfx_must _)
theorem sfx_price (op:Int):(s.price op last).1.toks<:+s.toks:=by
 rw[price_def];split
 ·exact(sfx_must _).trans sfx_d1
 ·exact(sfx_must _).trans ((sfx_d2 _).trans sfx_d1)
theorem sfx_num:(s.num last).1.toks<:+s.toks:=
 (sfx_must _).trans ((sfx_nat _).trans ((sfx_must _).trans ((sfx_nat _).trans ((sfx_take _ _).trans (sfx_must _)))))
theorem sfx_push (dp:Int):(s.push dp last).toks<:+s.toks:=by
 unfold PS.push;refine(sfx_must _).trans ?_;split
 ·exact sfx_fail _
 ·exact List.suffix_refl _
theorem fail_e (er:Int)(he:er≠0):(s.fail er last).e≠0:=by
 unfold PS.fail;split
 ·exact he
 ·assumption
theorem has_e {k:Int}{p:ByteArray→Bool}(h:s.has k p=true):s.e=0:=by
 obtain⟨_,_,_,h2,_⟩:=PS.has_cons h;exact h2
theorem must_e {x:ByteArray}(h:(s.must x last).e=0):s.has 2 (fun t=>t.toList==x.toList)=true∧s.must x last=s.tl∧s.e=0:=by
 unfold PS.must at h ⊢;by_cases ho:s.has 2 (fun t=>t.toList==x.toList)=true
 ·exact⟨ho,if_pos ho,has_e ho⟩
 ·rw[if_neg ho]at h
  exact absurd h (fail_e _ (by decide))
theorem nat_e {p:ByteArray→Bool}(h:(s.nat p last).1.e=0):s.has 1 (fun t=>isNatB t.data.toList&&p t)=true∧s.nat p last=(s.tl,hdT s.toks)∧s.e=0:=by
 unfold PS.nat at h ⊢;by_cases ho:s.has 1 (fun t=>isNatB t.data.toList&&p t)=true
 ·exact⟨ho,if_pos ho,has_e ho⟩
 ·rw[if_neg ho]at h
  exact absurd h (fail_e _ (by decide))
theorem name_e (h:(s.nm last).e=0):s.has 0 (fun _=>true)=true∧(s.nm last)=s.tl∧(s.take 0 (fun _=>true)).2.1=hdT s.toks∧s.e=0:=by
 unfold PS.nm PS.take at h;unfold PS.nm PS.take;by_cases ho:s.has 0 (fun _=>true)=true
 ·rw[if_pos ho]
  exact⟨ho,rfl,rfl,has_e ho⟩
 ·rw[if_neg ho]at h
  exact absurd h (fail_e _ (by decide))
theorem take_e {k:Int}{p:ByteArray→Bool}(h:(s.take k p).1.e=0):s.e=0:=by
 unfold PS.take at h;split at h
 ·exact h
 ·exact h
def TS (t t':S75):Prop:=t.f0=t'.f0∧t.f1=t'.f1
inductive TSs:List S75→List S75→Prop
 |nil:TSs [] []
 |cons {t t' l l'} (h:TS t t') (hl:TSs l l'):TSs (t::l) (t'::l')
structure SS (s s':PS):Prop where
 e:s.e=s'.e
 t:TSs s.toks s'.toks
theorem SS.has (h:SS s s')(k:Int)(p:ByteArray→Bool):s.has k p=s'.has k p:=by
 obtain⟨l,e,a,b⟩:=s;obtain⟨l',e',a',b'⟩:=s';obtain⟨he,ht⟩:=h;dsimp at he ht;subst he;cases ht with
 |nil=>rfl
 |cons h1 hl=>simp only[PS.has,tkOK,h1.1,h1.2]
theorem TSs.hd {l l':List S75}(h:TSs l l'):hdT l=hdT l':=by
 cases h with
 |nil=>rfl
 |cons h1 hl=>exact h1.2
theorem TSs.tl {l l':List S75}(h:TSs l l'):TSs l.tail l'.tail:=by
 cases h with
 |nil=>exact .nil
 |cons h1 hl=>exact hl
theorem SS.hd (h:SS s s'):hdT s.toks=hdT s'.toks:=h.t.hd
theorem SS.tl (h:SS s s'):SS s.tl s'.tl:=⟨h.e,h.t.tl⟩
theorem SS.fail (h:SS s s')(er:Int):SS (s.fail er last) (s'.fail er last'):=by
 unfold PS.fail;rw[←h.e];split
 ·exact⟨rfl,h.t⟩
 ·exact h
theorem SS.must (h:SS s s')(x:ByteArray):SS (s.must x last) (s'.must x last'):=by
 unfold PS.must;rw[h.has];split
 ·exact h.tl
 ·exact h.fail _
theorem SS.take (h:SS s s')(k:Int)(p:ByteArray→Bool):SS (s.take k p).1 (s'.take k p).1∧(s.take k p).2=(s'.take k p).2:=by
 unfold PS.take;rw[h.has];split
 ·exact⟨h.tl,by show(hdT _,true)=(hdT _,true);rw[h.hd]⟩
 ·exact⟨h,rfl⟩
theorem SS.nat (h:SS s s')(p:ByteArray→Bool):SS (s.nat p last).1 (s'.nat p last').1∧(s.nat p last).2=(s'.nat p last').2:=by
 unfold PS.nat;rw[h.has];split
 ·exact⟨h.tl,h.hd⟩
 ·exact⟨h.fail _,rfl⟩
theorem SS.name (h:SS s s'):SS (s.nm last) (s'.nm last'):=by
 obtain⟨h1,h2⟩:=h.take 0 (fun _=>true)
 unfold PS.nm;rw[h2];split
 ·exact h1
 ·exact h1.fail _
theorem SS.day (h:SS s s')(lo hi:Int):SS (s.day last lo hi).1 (s'.day last' lo hi).1∧(s.day last lo hi).2=(s'.day last' lo hi).2:=by
 obtain⟨h1,h2⟩:=h.nat (last:=last) (last':=last') (dayP lo hi);exact⟨h1,by unfold PS.day;dsimp only;rw[h2]⟩
theorem SS.price (h:SS s s')(op:Int):SS (s.price op last).1 (s'.price op last').1∧(s.price op last).2=(s'.price op last').2:=by
 have h1:=h.must (last:=last) (last':=last') ⟨#[40]⟩;have h2:=h1.name (last:=last) (last':=last');have h2':=(h1.take 0 (fun _=>true)).2
 have h3:SS (s.d1 last).1 (s'.d1 last').1∧(s.d1 last).2=(s'.d1 last').2:=(h2.must (last:=last) (last':=last') ⟨#[44]⟩).day (last:=last) (last':=last') 0 9999;have h4:SS (PS.d2 (s.d1 last) last).1 (PS.d2 (s'.d1 last') last').1∧(PS.d2 (s.d1 last) last).2=(PS.d2 (s'.d1 last') last').2:=by
  have:=(h3.1.must (last:=last) (last':=last') ⟨#[44]⟩).day (last:=last) (last':=last') (s.d1 last).2 ((s.d1 last).2+59);unfold PS.d2;rw[←h3.2];exact this
 rw[price_def,price_def,h2',h3.2,h4.2];split
 ·exact⟨h3.1.must _,rfl⟩
 ·exact⟨h4.1.must _,rfl⟩
theorem SS.num (h:SS s s'):SS (s.num last).1 (s'.num last').1∧(s.num last).2=(s'.num last').2:=by
 have h1:=(h.must (last:=last) (last':=last') ⟨#[40]⟩).take 2 (fun t=>t.toList==(⟨#[45]⟩:ByteArray).toList)
 have h2:=h1.1.nat (last:=last) (last':=last') fewP;have h3:=(h2.1.must (last:=last) (last':=last') ⟨#[44]⟩).nat (last:=last) (last':=last') few2P;unfold PS.num;simp only;rw[h1.2,h2.2,h3.2];exact⟨h3.1.must _,rfl⟩
theorem SS.push (h:SS s s')(dp:Int):SS (s.push dp last) (s'.push dp last'):=by
 unfold PS.push;rw[h.hd];split
 ·exact(h.fail _).must _
 ·exact h.must _
end
end Go.Proofs.YtjopepfemhckjaaGreatDoor.NW
end
section
set_option maxRecDepth 100000
namespace Go.Proofs.YtjopepfemhckjaaGreatDoor.NW
open Go.Proofs Go.RowKit Go.Shelf Go.Proofs.YtjopepfemhckjaaGreatDoor.PN Go.Proofs.YtjopepfemhckjaaGreatDoorW.PrintWords Go.Proofs.YtjopepfemhckjaaGreatDoor.PParseTells
inductive RS:Res→Res→Prop
 |ok (o):RS (.ok o) (.ok o)
 |err (e a b a' b'):RS (.err e a b) (.err e a' b')
set_option maxHeartbeats 2000000 in
theorem run_ss {last last':S75}{k:Nat}{m:Bool}{toks:List S75}{r:List S82}{o:List Nd}{dp:Int}{R:Res}(h:Run2 last k m toks r o dp R):∀toks',TSs toks toks'→∃R',Run2 last' k m toks' r o dp R'∧RS R R':=by
 induction h with
 |oEnd k r o dp=>intro toks' ht;cases ht;exact⟨_,.oEnd k r o dp,.err _ _ _ _ _⟩
 |oNum k t rest r o dp R z d hk hn h ih=>
  intro toks' ht;cases ht with|cons h1 hl=>
  obtain⟨R',q1,q2⟩:=ih _ hl;exact⟨R',.oNum k _ _ r o dp R' z d (h1.1▸hk) (h1.2▸hn) q1,q2⟩
 |oNumB k t rest r o dp z d hk hn=>
  intro toks' ht;cases ht with|cons h1 hl=>
  exact⟨_,.oNumB k _ _ r o dp z d (h1.1▸hk) (h1.2▸hn),.err _ _ _ _ _⟩
 |oNeg k t rest r o dp R hk hn h ih=>
  intro toks' ht;cases ht with|cons h1 hl=>
  obtain⟨R',q1,q2⟩:=ih _ hl;exact⟨R',.oNeg k _ _ r o dp R' (h1.1▸hk) (h1.2▸hn) q1,q2⟩
 |oPar k t rest r o dp R hk hn hd h ih=>
  intro toks' ht;cases ht with|cons h1 hl=>
  obtain⟨R',q1,q2⟩:=ih _ hl;exact⟨R',.oPar k _ _ r o dp R' (h1.1▸hk) (h1.2▸hn) hd q1,q2⟩
 |oDeep k t rest r o dp hk hn hd=>
  intro toks' ht;cases ht with|cons h1 hl=>
  exact⟨_,.oDeep k _ _ r o dp (h1.1▸hk) (h1.2▸hn) hd,.err _ _ _ _ _⟩
 |oBad k t rest r o dp hk hb hn=>
  intro toks' ht;cases ht with|cons h1 hl=>
  exact⟨_,.oBad k _ _ r o dp (h1.1▸hk) (h1.2▸hb) (h1.2▸hn),.err _ _ _ _ _⟩
 |oSign k t rest r o dp hk hb hn=>
  intro toks' ht;cases ht with|cons h1 hl=>
  exact⟨_,.oSign k _ _ r o dp (h1.1▸hk) (h1.2▸hb) (h1.2▸hn),.err _ _ _ _ _⟩
 |oPrice k t rest r o dp R kk hk hn hkk h h2 ih=>
  intro toks' ht;cases ht with| @cons _ t' _ rest' h1 hl=>
  obtain⟨s1,s2⟩:=SS.price (last:=last) (last':=last') (s:=ps rest) (s':=ps rest') ⟨rfl,hl⟩ kk;by_cases he:((ps rest).price kk last).1.e=0
  ·obtain⟨R',q1,q2⟩:=ih he _ s1.t
   rw[s2]at q1;exact⟨R',.oPrice k _ _ r o dp R' kk (h1.1▸hk) (h1.2▸hn) hkk (fun _=>q1) (fun hne=>absurd (s1.e.symm.trans he) hne),q2⟩
  ·have hR:=h2 he
   subst hR;exact⟨_,.oPrice k _ _ r o dp _ kk (h1.1▸hk) (h1.2▸hn) hkk (fun h0=>absurd (s1.e.trans h0) he) (fun _=>rfl),by rw[s1.e];exact .err _ _ _ _ _⟩
 |oFun k t rest r o dp R kk hk hn hkk h h2 ih=>
  intro toks' ht;cases ht with| @cons _ t' _ rest' h1 hl=>
  have s1:=SS.push (last:=last) (last':=last') (s:=ps rest) (s':=ps rest') ⟨rfl,hl⟩ dp;by_cases he:((ps rest).push dp last).e=0
  ·obtain⟨R',q1,q2⟩:=ih he _ s1.t
   exact⟨R',.oFun k _ _ r o dp R' kk (h1.1▸hk) (h1.2▸hn) hkk (fun _=>q1) (fun hne=>absurd (s1.e.symm.trans he) hne),q2⟩
  ·have hR:=h2 he
   subst hR;exact⟨_,.oFun k _ _ r o dp _ kk (h1.1▸hk) (h1.2▸hn) hkk (fun h0=>absurd (s1.e.trans h0) he) (fun _=>rfl),by rw[s1.e];exact .err _ _ _ _ _⟩
 |oNumF k t rest r o dp R hk hn h h2 ih=>
  intro toks' ht;cases ht with| @cons _ t' _ rest' h1 hl=>
  obtain⟨s1,s2⟩:=SS.num (last:=last) (last':=last') (s:=ps rest) (s':=ps rest') ⟨rfl,hl⟩;by_cases he:((ps rest).num last).1.e=0
  ·obtain⟨R',q1,q2⟩:=ih he _ s1.t
   rw[s2]at q1;exact⟨R',.oNumF k _ _ r o dp R' (h1.1▸hk) (h1.2▸hn) (fun _=>q1) (fun hne=>absurd (s1.e.symm.trans he) hne),q2⟩
  ·have hR:=h2 he
   subst hR;exact⟨_,.oNumF k _ _ r o dp _ (h1.1▸hk) (h1.2▸hn) (fun h0=>absurd (s1.e.trans h0) he) (fun _=>rfl),by rw[s1.e];exact .err _ _ _ _ _⟩
 |pEnd k r o dp o' h=>intro toks' ht;cases ht;exact⟨_,.pEnd k r o dp o' h,.ok _⟩
 |pEndW k r o dp x r' o' h=>intro toks' ht;cases ht;exact⟨_,.pEndW k r o dp x r' o' h,.err _ _ _ _ _⟩
 |pOp k t rest r o dp R op rank r' o' ho hop hr hr2 hp h ih=>
  intro toks' ht;cases ht with| @cons _ t' _ rest' h1 hl=>
  obtain⟨R',q1,q2⟩:=ih _ hl;refine⟨R',.pOp k _ _ r o dp R' op rank r' o' ?_ hop hr hr2 hp q1,q2⟩;rw[h1.1,h1.2]at ho;exact ho
 |pShutP k t rest r o dp R x r' o' hk hn hp hx hx0 h ih=>
  intro toks' ht;cases ht with|cons h1 hl=>
  obtain⟨R',q1,q2⟩:=ih _ hl;exact⟨R',.pShutP k _ _ r o dp R' x r' o' (h1.1▸hk) (h1.2▸hn) hp hx hx0 q1,q2⟩
 |pShutF k t rest r o dp R x r' o' kk hk hn hp hx hx0 h ih=>
  intro toks' ht;cases ht with|cons h1 hl=>
  obtain⟨R',q1,q2⟩:=ih _ hl;exact⟨R',.pShutF k _ _ r o dp R' x r' o' kk (h1.1▸hk) (h1.2▸hn) hp hx hx0 q1,q2⟩
 |pComma k t rest r o dp R x r' o' hk hn hp hx h ih=>
  intro toks' ht;cases ht with|cons h1 hl=>
  obtain⟨R',q1,q2⟩:=ih _ hl;exact⟨R',.pComma k _ _ r o dp R' x r' o' (h1.1▸hk) (h1.2▸hn) hp hx q1,q2⟩
 |pBadN k t rest r o dp o' op0 rk0 ho hr hp=>
  intro toks' ht;cases ht with|cons h1 hl=>
  refine⟨_,.pBadN k _ _ r o dp o' op0 rk0 ?_ hr hp,.err _ _ _ _ _⟩;rw[h1.1,h1.2]at ho;exact ho
 |pBadX k t rest r o dp x r' o' op0 rk0 ho hr hp hbad=>
  intro toks' ht;cases ht with|cons h1 hl=>
  refine⟨_,.pBadX k _ _ r o dp x r' o' op0 rk0 ?_ hr hp (by rw[←h1.1,←h1.2];exact hbad),.err _ _ _ _ _⟩
  rw[h1.1,h1.2]at ho;exact ho
structure SX (cl:S75) (s s':PS):Prop where
 e:s.e=0
 e':s'.e=0
 t:s'.toks=s.toks++[cl]
section
variable {cl:S75} {s s':PS} {last last':S75}
theorem SX.has (h:SX cl s s'){k:Int}{p:ByteArray→Bool}(hh:s.has k p=true):s'.has k p=true∧SX cl s.tl s'.tl∧hdT s'.toks=hdT s.toks:=by
 obtain⟨t,r,h1,h2,h3,h4⟩:=PS.has_cons hh;have h5:=h.t;rw[h1]at h5;refine⟨?_,⟨h.e,h.e',?_⟩,?_⟩
 ·unfold PS.has
  rw[h5];show(decide (s'.e=0)&&decide (t.f0=k)&&p t.f1)=true
  rw[decide_eq_true h.e',decide_eq_true h3,h4];rfl
 ·show s'.toks.tail=s.toks.tail++[cl]
  rw[h5,h1];rfl
 ·rw[h5,h1]
  rfl
theorem SX.must (h:SX cl s s'){x:ByteArray}(he:(s.must x last).e=0):SX cl (s.must x last) (s'.must x last'):=by
 obtain⟨h1,h2,_⟩:=must_e he;obtain⟨k1,k2,_⟩:=h.has h1;rw[h2];unfold PS.must;rw[if_pos k1];exact k2
theorem SX.nat (h:SX cl s s'){p:ByteArray→Bool}(he:(s.nat p last).1.e=0):SX cl (s.nat p last).1 (s'.nat p last').1∧(s'.nat p last').2=(s.nat p last).2:=by
 obtain⟨h1,h2,_⟩:=nat_e he;obtain⟨k1,k2,k3⟩:=h.has h1;rw[h2];unfold PS.nat;rw[if_pos k1];exact⟨k2,k3⟩
theorem SX.nm (h:SX cl s s')(he:(s.nm last).e=0):SX cl (s.nm last) (s'.nm last')∧(s'.take 0 (fun _=>true)).2.1=(s.take 0 (fun _=>true)).2.1:=by
 obtain⟨h1,h2,h3,_⟩:=name_e he;obtain⟨k1,k2,k3⟩:=h.has h1;rw[h2,h3];unfold PS.nm PS.take;rw[if_pos k1];exact⟨k2,k3⟩
theorem SX.take (h:SX cl s s'){p:ByteArray→Bool}(k:Int)(hp:p cl.f1=false):SX cl (s.take k p).1 (s'.take k p).1∧(s'.take k p).2=(s.take k p).2:=by
 by_cases hh:s.has k p=true
 ·obtain⟨k1,k2,k3⟩:=h.has hh
  unfold PS.take;rw[if_pos k1,if_pos hh];exact⟨k2,by rw[k3]⟩
 ·have h2:¬s'.has k p=true:=by
   intro h3;obtain⟨t,r,h4,h5,h6,h7⟩:=PS.has_cons h3;have ht:=h.t;rcases hs:s.toks with _|⟨t2,r2⟩
   ·rw[hs,h4]at ht
    injection ht with e1 _;subst e1;rw[h7]at hp;cases hp
   ·rw[hs,h4]at ht
    injection ht with e1 _;subst e1;apply hh;unfold PS.has;rw[hs];show(decide (s.e=0)&&decide (t.f0=k)&&p t.f1)=true
    rw[decide_eq_true h.e,decide_eq_true h6,h7];rfl
  unfold PS.take;rw[if_neg hh,if_neg h2];exact⟨h,rfl⟩
theorem SX.day (h:SX cl s s'){lo hi:Int}(he:(s.day last lo hi).1.e=0):SX cl (s.day last lo hi).1 (s'.day last' lo hi).1∧(s'.day last' lo hi).2=(s.day last lo hi).2:=by
 obtain⟨h1,h2⟩:=h.nat (last':=last') he;exact⟨h1,by unfold PS.day;dsimp only;rw[h2]⟩
theorem SX.d1 (h:SX cl s s')(he:(s.d1 last).1.e=0):SX cl (s.d1 last).1 (s'.d1 last').1∧(s'.d1 last').2=(s.d1 last).2∧((s'.must ⟨#[40]⟩ last').take 0 (fun _=>true)).2.1=((s.must ⟨#[40]⟩ last).take 0 (fun _=>true)).2.1:=by
 have e1:=(nat_e (show((((s.must ⟨#[40]⟩ last).nm last).must ⟨#[44]⟩ last).nat (dayP 0 9999) last).1.e=0 from he)).2.2
 have e2:=(must_e e1).2.2;have e3:=(name_e e2).2.2.2;have g1:=h.must (last':=last') e3;have g2:=g1.nm (last':=last') e2;have g3:=(g2.1.must (last':=last') e1).day (last':=last') he;exact⟨g3.1,g3.2,g2.2⟩
theorem SX.price (h:SX cl s s')(op:Int)(he:(s.price op last).1.e=0):SX cl (s.price op last).1 (s'.price op last').1∧(s'.price op last').2=(s.price op last).2:=by
 rw[price_def]at he ⊢;rw[price_def s'];by_cases ho:op=1
 ·rw[if_pos ho]at he ⊢
  rw[if_pos ho];have e1:=(must_e he).2.2;obtain⟨g1,g2,g3⟩:=h.d1 (last':=last') e1;exact⟨g1.must he,by show Nd.px _ _=Nd.px _ _;rw[g2,g3]⟩
 ·rw[if_neg ho]at he ⊢
  rw[if_neg ho];have e1:=(must_e he).2.2;have e2:=(nat_e (show(((s.d1 last).1.must ⟨#[44]⟩ last).nat (dayP (s.d1 last).2 ((s.d1 last).2+59)) last).1.e=0 from e1)).2.2
  have e3:=(must_e e2).2.2;obtain⟨g1,g2,g3⟩:=h.d1 (last':=last') e3;have g4:SX cl (PS.d2 (s.d1 last) last).1 (PS.d2 (s'.d1 last') last').1∧(PS.d2 (s'.d1 last') last').2=(PS.d2 (s.d1 last) last).2:=by
   have:=(g1.must (last':=last') e2).day (last':=last') e1;unfold PS.d2;rw[g2];exact this
  exact⟨g4.1.must he,by show Nd.raw _=Nd.raw _;rw[g2,g3,g4.2]⟩
theorem SX.num (h:SX cl s s')(hcl:cl.f1=⟨#[41]⟩)(he:(s.num last).1.e=0):SX cl (s.num last).1 (s'.num last').1∧(s'.num last').2=(s.num last).2:=by
 have e1:=(must_e (show((((((s.must ⟨#[40]⟩ last).take 2 (fun t=>t.toList==(⟨#[45]⟩:ByteArray).toList)).1.nat fewP last).1.must ⟨#[44]⟩ last).nat few2P last).1.must ⟨#[41]⟩ last).e=0 from he)).2.2
 have e2:=(nat_e e1).2.2;have e3:=(must_e e2).2.2;have e4:=(nat_e e3).2.2;have e5:=take_e e4;have g1:=(h.must (last':=last') e5).take (p:=fun t=>t.toList==(⟨#[45]⟩:ByteArray).toList) 2 (by rw[hcl];rw[ByteArray.toList_eq,ByteArray.toList_eq];rfl)
 have g2:=g1.1.nat (last':=last') e3;have g3:=(g2.1.must (last':=last') e2).nat (last':=last') e1;refine⟨g3.1.must he,?_⟩;unfold PS.num;simp only;rw[g1.2,g2.2,g3.2]
end
theorem popR_par (rank:Int)(hr:1≤rank)(r:List S82):∀(o:List Nd) (r':List S82) (o':List Nd),popR rank r o=(r',o')→popR rank (r++[⟨-1,0,0⟩]) o=(r'++[⟨-1,0,0⟩],o'):=by
 induction r with
 |nil=>
  intro o r' o' h;unfold popR at h;injection h with h1 h2;subst h1 h2;show popR rank [⟨-1,0,0⟩] o=([⟨-1,0,0⟩],o)
  unfold popR;rw[if_neg (by show¬rank≤0;omega)]
 |cons x r ih=>
  intro o r' o' h;unfold popR at h;show popR rank (x::(r++[⟨-1,0,0⟩])) o=_
  unfold popR;split at h
  ·rename_i hx
   rw[if_pos hx];exact ih _ _ _ h
  ·rename_i hx
   rw[if_neg hx];injection h with h1 h2;subst h1 h2;rfl
end Go.Proofs.YtjopepfemhckjaaGreatDoor.NW
end
section
set_option maxRecDepth 100000
namespace Go.Proofs.YtjopepfemhckjaaGreatDoor.NW
open Go.Proofs Go.RowKit Go.Shelf Go.Proofs.YtjopepfemhckjaaGreatDoor.PN Go.Proofs.YtjopepfemhckjaaGreatDoorW.PrintWords Go.Proofs.YtjopepfemhckjaaGreatDoor.PParseTells
abbrev P0:S82:=⟨-1,0,0⟩
def OD (o:List Nd)(R:Res):Prop:=R= .ok o∨∃a b,R= .err 111 a b
theorem push_deep {s:PS}{last:S75}(dp:Int)(hd:200≤dp)(he:s.e=0)(hh:(hdT s.toks).toList=[40]):(s.push dp last).e=111:=by
 have h1:(s.fail 111 last).e=111:=by
  unfold PS.fail;rw[if_pos he]
 unfold PS.push;rw[if_pos ⟨hh,hd⟩];unfold PS.must;split
 ·rename_i h
  have:=has_e h;rw[h1]at this;exact absurd this (by decide)
 ·unfold PS.fail at h1 ⊢
  rw[if_pos he]at h1 ⊢;rfl
theorem push_e {s:PS}{last:S75}(dp:Int)(h:(s.push dp last).e=0):dp<200∧(hdT s.toks).toList=[40]∧s.push dp last=s.must ⟨#[40]⟩ last∧s.e=0:=by
 unfold PS.push at h ⊢;obtain⟨h1,h2,h3⟩:=must_e h;by_cases hc:(hdT s.toks).toList=[40]∧200≤dp
 ·rw[if_pos hc]at h3
  exact absurd h3 (fail_e _ (by decide))
 ·rw[if_neg hc]at h1 h3 ⊢
  obtain⟨t,r,k1,k2,k3,k4⟩:=PS.has_cons h1;have h5:(hdT s.toks).toList=[40]:=by
   rw[k1];show t.f1.toList=_
   have:=eq_of_beq k4;rw[this,ByteArray.toList_eq]
  refine⟨?_,h5,rfl,h3⟩;have:¬200≤dp:=fun hd=>hc ⟨h5,hd⟩
  omega
set_option maxHeartbeats 2000000 in
theorem run_par {last last':S75}{k:Nat}{m:Bool}{toks:List S75}{r:List S82}{o:List Nd}{dp:Int}{R:Res}(h:Run2 last k m toks r o dp R)(cl:S75)(hk0:cl.f0=2)(ht0:cl.f1=⟨#[41]⟩):∀o',R= .ok o'→∃R',Run2 last' (k+1) m (toks++[cl]) (r++[P0]) o (dp+1) R'∧OD o' R':=by
 induction h with
 |oEnd k r o dp=>intro o' h;cases h
 |oNum k t rest r o dp R z d hk hn h ih=>
  intro o' hR;obtain⟨R',q1,q2⟩:=ih o' hR;exact⟨R',.oNum (k+1) t (rest++[cl]) _ o _ R' z d hk hn q1,q2⟩
 |oNumB k t rest r o dp z d hk hn=>intro o' h;cases h
 |oNeg k t rest r o dp R hk hn h ih=>
  intro o' hR;obtain⟨R',q1,q2⟩:=ih o' hR;exact⟨R',.oNeg (k+1) t (rest++[cl]) _ o _ R' hk hn q1,q2⟩
 |oPar k t rest r o dp R hk hn hd h ih=>
  intro o' hR;by_cases hd2:dp+1<200
  ·obtain⟨R',q1,q2⟩:=ih o' hR
   exact⟨R',.oPar (k+1) t (rest++[cl]) _ o _ R' hk hn hd2 q1,q2⟩
  ·exact⟨_,.oDeep (k+1) t (rest++[cl]) _ o _ hk hn (by omega),.inr ⟨_,_,rfl⟩⟩
 |oDeep k t rest r o dp hk hn hd=>intro o' h;cases h
 |oBad k t rest r o dp hk hb hn=>intro o' h;cases h
 |oSign k t rest r o dp hk hb hn=>intro o' h;cases h
 |oPrice k t rest r o dp R kk hk hn hkk h h2 ih=>
  intro o' hR;by_cases he:((ps rest).price kk last).1.e=0
  ·obtain⟨R',q1,q2⟩:=ih he o' hR
   obtain⟨s1,s2⟩:=SX.price (cl:=cl) (last:=last) (last':=last') (s:=ps rest) (s':=ps (rest++[cl])) ⟨rfl,rfl,rfl⟩ kk he;rw[←s1.t,←s2]at q1;exact⟨R',.oPrice (k+1) t (rest++[cl]) _ o _ R' kk hk hn hkk (fun _=>q1) (fun hne=>absurd s1.e' hne),q2⟩
  ·rw[h2 he]at hR
   cases hR
 |oFun k t rest r o dp R kk hk hn hkk h h2 ih=>
  intro o' hR;by_cases he:((ps rest).push dp last).e=0
  ·obtain⟨g1,g2,g3,g4⟩:=push_e dp he
   have g5:SX cl (ps rest) (ps (rest++[cl])):=⟨rfl,rfl,rfl⟩;have g6:(hdT (ps (rest++[cl])).toks).toList=[40]:=by
    have h1:=(must_e (g3▸he)).1;rw[(g5.has h1).2.2];exact g2
   by_cases hd2:dp+1<200
   ·obtain⟨R',q1,q2⟩:=ih he o' hR
    have e2:(ps (rest++[cl])).push (dp+1) last'=(ps (rest++[cl])).must ⟨#[40]⟩ last':=by
     unfold PS.push;rw[if_neg (fun hc=>by have:=hc.2;omega)]
    have s1:=g5.must (last:=last) (last':=last') (g3▸he);rw[g3,←s1.t,←e2]at q1;rw[←e2]at s1;exact⟨R',.oFun (k+1) t (rest++[cl]) _ o _ R' kk hk hn hkk (fun _=>q1) (fun hne=>absurd s1.e' hne),q2⟩
   ·have e3:=push_deep (s:=ps (rest++[cl])) (last:=last') (dp+1) (by omega) rfl g6
    exact⟨_,.oFun (k+1) t (rest++[cl]) _ o _ _ kk hk hn hkk (fun h0=>by rw[e3]at h0;exact absurd h0 (by decide)) (fun _=>rfl),.inr ⟨_,_,by rw[e3]⟩⟩
  ·rw[h2 he]at hR
   cases hR
 |oNumF k t rest r o dp R hk hn h h2 ih=>
  intro o' hR;by_cases he:((ps rest).num last).1.e=0
  ·obtain⟨R',q1,q2⟩:=ih he o' hR
   obtain⟨s1,s2⟩:=SX.num (cl:=cl) (last:=last) (last':=last') (s:=ps rest) (s':=ps (rest++[cl])) ⟨rfl,rfl,rfl⟩ ht0 he;rw[←s1.t,←s2]at q1;exact⟨R',.oNumF (k+1) t (rest++[cl]) _ o _ R' hk hn (fun _=>q1) (fun hne=>absurd s1.e' hne),q2⟩
  ·rw[h2 he]at hR
   cases hR
 |pEnd k r o dp o' h=>
  intro o2 hR;injection hR with hR;subst hR;exact⟨.ok o',.pShutP (k+1) cl [] _ o _ _ ⟨-1,0,0⟩ [] o' hk0 ht0 (popR_par 1 (by omega) r o [] o' h) (by decide) (by decide) (.pEnd k [] o' _ o' rfl),.inl rfl⟩
 |pEndW k r o dp x r' o' h=>intro o' h;cases h
 |pOp k t rest r o dp R op rank r' o' ho hop hr hr2 hp h ih=>
  intro o2 hR;obtain⟨R',q1,q2⟩:=ih o2 hR;exact⟨R',.pOp (k+1) t (rest++[cl]) _ o _ R' op rank (r'++[P0]) o' ho hop hr hr2 (popR_par rank hr r o r' o' hp) q1,q2⟩
 |pShutP k t rest r o dp R x r' o' hk hn hp hx hx0 h ih=>
  intro o2 hR;obtain⟨R',q1,q2⟩:=ih o2 hR;rw[show dp-1+1=dp+1-1 by omega]at q1
  exact⟨R',.pShutP (k+1) t (rest++[cl]) _ o _ R' x (r'++[P0]) o' hk hn (popR_par 1 (by omega) r o _ o' hp) hx hx0 q1,q2⟩
 |pShutF k t rest r o dp R x r' o' kk hk hn hp hx hx0 h ih=>
  intro o2 hR;obtain⟨R',q1,q2⟩:=ih o2 hR;rw[show dp-1+1=dp+1-1 by omega]at q1
  exact⟨R',.pShutF (k+1) t (rest++[cl]) _ o _ R' x (r'++[P0]) o' kk hk hn (popR_par 1 (by omega) r o _ o' hp) hx hx0 q1,q2⟩
 |pComma k t rest r o dp R x r' o' hk hn hp hx h ih=>
  intro o2 hR;obtain⟨R',q1,q2⟩:=ih o2 hR;exact⟨R',.pComma (k+1) t (rest++[cl]) _ o _ R' x (r'++[P0]) o' hk hn (popR_par 1 (by omega) r o _ o' hp) hx q1,q2⟩
 |pBadN k t rest r o dp o' op0 rk0 ho hr hp=>intro o' h;cases h
 |pBadX k t rest r o dp x r' o' op0 rk0 ho hr hp hbad=>intro o' h;cases h
theorem run_parens {last last':S75}{k:Nat}{T:List S75}{o:List Nd}(h:Run2 last k true T [] [] 0 (.ok o))(a cl:S75)(ha0:a.f0=2)(ha1:a.f1=⟨#[40]⟩)(hk0:cl.f0=2)(ht0:cl.f1=⟨#[41]⟩):∃R',Run2 last' (k+2) true (a::(T++[cl])) [] [] 0 R'∧OD o R':=by
 obtain⟨R',q1,q2⟩:=run_par (last':=last') h cl hk0 ht0 o rfl;exact⟨R',.oPar (k+1) a _ [] [] 0 R' ha0 ha1 (by decide) q1,q2⟩
end Go.Proofs.YtjopepfemhckjaaGreatDoor.NW
end
