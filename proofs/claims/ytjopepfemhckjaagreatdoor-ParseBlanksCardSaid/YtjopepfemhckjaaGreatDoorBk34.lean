/-
  Part 34 of the proof of parseBlanks_holds: texts of this seat, put together.
-/
import Derived.Deep.QuietTactic
import Derived.BigQuiet
import Derived.Test.YtjopepfemhckjaaGreatDoorBk33
set_option linter.unusedVariables false
set_option linter.unusedSimpArgs false
section
set_option maxRecDepth 100000
namespace Go.Proofs.YtjopepfemhckjaaGreatDoor.NW
open Go.Proofs Go.RowKit Go.Shelf Go.Proofs.YtjopepfemhckjaaGreatDoor.PN Go.Proofs.YtjopepfemhckjaaGreatDoorW.PrintWords Go.Proofs.YtjopepfemhckjaaGreatDoor.PParseTells Go.Proofs.YtjopepfemhckjaaGreatDoor.WP
theorem intS_pos (z:Int):0<(intS z).size:=by
 unfold intS;split
 ·rw[ByteArray.size_append]
  show 0<1+_
  omega
 ·exact natS_pos _
theorem ndP_pos (n:Nd)(l:List ByteArray):0<(ndP n l).size:=by
 cases n with
 |num z d=>
  show 0<(numP z d).size
  unfold numP;split
  ·split
   ·exact intS_pos z
   ·unfold decP
    rw[ByteArray.size_append,ByteArray.size_append];show 0<_+1+_
    omega
  ·rw[ByteArray.size_append]
   show 0<_+1
   omega
 |px s a=>
  show 0<(pxP s a).size
  unfold pxP;rw[ByteArray.size_append];show 0<_+1
  omega
 |op k=>
  show 0<(opP k l).size
  unfold opP;split
  ·rw[ByteArray.size_append]
   show 0<_+1
   omega
  ·split
   ·rw[ByteArray.size_append]
    show 0<_+1
    omega
   ·rw[ByteArray.size_append]
    show 0<_+1
    omega
 |raw x=>
  show 0<(spP x).size
  unfold spP;rw[ByteArray.size_append];show 0<_+1
  omega
theorem runF_pos:∀(o:List Nd) (st st':List ByteArray),(∀x∈st,0<x.size)→runF ndP o st=some st'→∀x∈st',0<x.size
 |[],st,st',h,hr=>by
  injection hr with hr;subst hr;exact h
 |n::o,st,st',h,hr=>by
  have hr2:(stp ndP n st).bind (runF ndP o)=some st':=hr;unfold stp at hr2;by_cases ha:ar n≤st.length
  ·rw[if_pos ha]at hr2
   refine runF_pos o _ st' ?_ hr2;intro x hx;rcases List.mem_append.1 hx with hx|hx
   ·exact h x (List.mem_of_mem_take hx)
   ·rw[List.mem_singleton.1 hx]
    exact ndP_pos _ _
  ·rw[if_neg ha]at hr2
   cases hr2
inductive Ans where
 |ok (o:List Nd)
 |err (e:Int)
def PsTo (s:ByteArray):Ans→Prop
 | .ok o=>NdOKs o∧o.length≤2000∧∀w,Glob2 w→Calls Tryz.prog 10 #[.string s] w fun ex w'=>∃A c,ex= .returned (.tuple #[.slice A o.length c,.int .i64 0,.int .i64 0,.int .i64 0])∧o.length≤c∧(∀ad,A=some ad→∃tb of,ad=⟨tb,of,none⟩∧tb<w'.heap.size)∧Aside0 (Kd.C k37 w' A o.length (o.map nd37))∧Below w.heap.size w w'
 | .err e=>e≠0∧∀w,Glob2 w→Calls Tryz.prog 10 #[.string s] w fun ex w'=>∃l c,ex= .returned (.tuple #[.slice none 0 0,.int .i64 e,.int .i64 l,.int .i64 c])∧Below w.heap.size w w'
def ansO (o:List Nd):Ans:=match runF ndP o [],runF depF o []with
 |some [S],some [D]=>if S.size≤20000∧D≤150 then .ok o else .err 100
 |_,_=> .err 100
def ansR:Res→Ans
 | .ok o=>ansO o
 | .err e _ _=> .err e
theorem tok_size {t:S75}(h:TokOK t):t.f1.size≤100:=by
 rcases h with⟨_,h⟩|⟨_,h⟩|⟨_,c,h,_⟩
 ·have:=h.h20;omega
 ·exact h.1
 ·rw[h]
  show 1≤100
  omega
structure ToksOK (s:ByteArray) (T:List S75):Prop where
 sz:s.size≤2010
 D:WW.lexD s=(T,0,0,0)
 ok:∀t∈T,TokOK t∧0≤t.f3∧t.f3≤((1+s.size:Nat):Int)
 len:T.length≤s.size
theorem last_of (T:List S75):∃last,(T=[]∧last=⟨0,⟨#[]⟩,1,1⟩)∨(∃pre,T=pre++[last]):=by
 rcases List.eq_nil_or_concat T with h|⟨pre,x,h⟩
 ·exact⟨_,.inl ⟨h,rfl⟩⟩
 ·exact⟨x,.inr ⟨pre,by rw[h,List.concat_eq_append]⟩⟩
theorem ps_of {s:ByteArray}{T:List S75}(h:ToksOK s T)(last:S75)(hlast:(T=[]∧last=⟨0,⟨#[]⟩,1,1⟩)∨(∃pre,T=pre++[last]))(k:Nat)(R:Res)(hrun:Run2 last k true T [] [] 0 R)(hf:Fin2 2000 R):PsTo s (ansR R):=by
 have hsz:=h.sz;have hlen:=h.len;have hla:0≤last.f3∧last.f3+last.f1.size≤1000000:=by
  rcases hlast with⟨_,hl⟩|⟨pre,hl⟩
  ·rw[hl]
   decide
  ·have h1:=h.ok last (by rw[hl];simp)
   have h2:=tok_size h1.1;omega
 have hpsi:PSI T.length (ps T):=⟨fun t ht=>by have:=tok_size (h.ok t ht).1;omega,fun _=>⟨rfl,rfl⟩,Nat.le_refl _⟩
 cases R with
 |err e a b=>
  refine⟨hf.err e a b rfl,fun w hg=>?_⟩
  refine(parseErr_t s (by omega) T h.D (by omega) last hlast hla k e a b (hf.err e a b rfl) hrun w hg hpsi).mono ?_
  rintro ex w' ⟨h1,h2⟩;exact⟨a,b,h1,h2⟩
 |ok o=>
  obtain⟨h1,h2,h3⟩:=hf.ok o rfl;obtain⟨stS,q1,q2⟩:=h1 _ ndP;obtain⟨stD,q3,q4⟩:=h1 _ depF;obtain⟨S,rfl⟩:=List.length_eq_one_iff.1 q2;obtain⟨D,rfl⟩:=List.length_eq_one_iff.1 q4;have hS0:0<S.size:=runF_pos o [] [S] (fun x hx=>by cases hx) q1 S (List.mem_singleton.2 rfl)
  have hF:Frm BigM o S D:=⟨h2,by omega,q1,q3⟩
  have hM5:5<BigM:=by unfold BigM;decide
  show PsTo s (ansO o)
  have eA:ansO o=if S.size≤20000∧D≤150 then .ok o else .err 100:=by
   unfold ansO;rw[q1,q3]
  rw[eA];by_cases hb:S.size≤20000∧D≤150
  ·rw[if_pos hb]
   exact⟨h2,by omega,fun w hg=>parseOk_t s (by omega) BigM (div_all BigM) hM5 T h.D (by omega) last hlast hla k o hrun S D hF hS0 hb.1 hb.2 w hg hpsi⟩
  ·rw[if_neg hb]
   refine⟨by decide,fun w hg=>?_⟩
   refine(parseBig_t s (by omega) BigM (div_all BigM) hM5 T h.D (by omega) last hlast hla k o hrun S D hF hS0 hb w hg hpsi).mono ?_
   rintro ex w' ⟨h1,h2⟩;exact⟨1,1,h1,h2⟩
theorem ps_lex {s:ByteArray}(hs:s.size≤2010)(a b:Int)(hD:WW.lexD s=([],90,a,b)):PsTo s (.err 90):=
 ⟨by decide,fun w hg=>(parseLex_at s (by omega) 90 a b (by decide) hD w hg.g).mono fun ex w' ⟨h1,h2⟩=>⟨a,b,h1,h2⟩⟩
theorem iv0:Iv true [] [] 0:=⟨⟨0,.nil,HG.nil⟩,fun x hx=>(by cases hx),by show((0:Nat):Int)+0≤0;decide⟩
theorem ss_of:∀(a b:List S75),a.map WW.tk=b.map WW.tk→TSs a b
 |[],[],_=> .nil
 |[],_::_,h=>by cases h
 |_::_,[],h=>by cases h
 |x::a,y::b,h=>by
  rw[List.map_cons,List.map_cons]at h;injection h with h1 h2;unfold WW.tk at h1;injection h1 with h3 h4;exact .cons ⟨h3,h4⟩ (ss_of a b h2)
def padW (s:ByteArray):ByteArray:=((⟨#[32,10]⟩:ByteArray)++s)++(⟨#[32,10]⟩:ByteArray)
def parW (s:ByteArray):ByteArray:=((⟨#[40]⟩:ByteArray)++s)++(⟨#[41]⟩:ByteArray)
theorem padW_l (s:ByteArray):(padW s).data.toList=32::10::(s.data.toList++32::[10]):=by
 unfold padW;simp
theorem parW_l (s:ByteArray):(parW s).data.toList=40::(s.data.toList++41::[]):=by
 unfold parW;simp
theorem padW_size (s:ByteArray):(padW s).size=s.size+4:=by
 show(padW s).data.toList.length=s.data.toList.length+4
 rw[padW_l];simp
theorem parW_size (s:ByteArray):(parW s).size=s.size+2:=by
 show(parW s).data.toList.length=s.data.toList.length+2
 rw[parW_l];simp
theorem lexT_pad (s:ByteArray):WW.lexT ((padW s).size+1) (padW s).data.toList=WW.lexT (s.size+1) s.data.toList:=by
 have hz:s.data.toList.length=s.size:=rfl;rw[padW_l,padW_size,WW.lexT_blank _ 32 _ (by decide),WW.lexT_blank _ 10 _ (by decide),WW.lexT_join 32 (by decide) (by decide) (by decide) [10] s.size s.data.toList _ (by omega) (by simp only[List.length_cons,List.length_nil];omega),WW.lexT_blank _ 32 _ (by decide),WW.lexT_blank _ 10 _ (by decide),WW.lexT_nil,WW.lexT_fuel s.size (s.size+4+1) (s.size+1) s.data.toList (by omega) (by omega) (by omega)]
 cases WW.lexT (s.size+1) s.data.toList with
 |none=>rfl
 |some a=>
  show some (a++[])=some a
  rw[List.append_nil]
theorem lexT_par (s:ByteArray):WW.lexT ((parW s).size+1) (parW s).data.toList=(WW.lexT (s.size+1) s.data.toList).map fun a=>(2,(⟨#[40]⟩:ByteArray))::(a++[(2,(⟨#[41]⟩:ByteArray))]):=by
 have hz:s.data.toList.length=s.size:=rfl;have hk:∀l,WW.kindL (40::l)=(2,1):=fun l=>rfl
 rw[parW_l,parW_size,WW.lexT_tok _ 40 _ (by decide),hk]
 show(WW.lexT (s.size+2) (s.data.toList++41::[])).map (fun ts=>((2:Int),(⟨#[40]⟩:ByteArray))::ts)=_
 rw[WW.lexT_join 41 (by decide) (by decide) (by decide) [] s.size s.data.toList _ (by omega) (by simp only[List.length_nil];omega),WW.lexT_fuel s.size (s.size+2) (s.size+1) s.data.toList (by omega) (by omega) (by omega)]
 have h1:WW.lexT (s.size+2) [41]=some [(2,(⟨#[41]⟩:ByteArray))]:=by
  rw[WW.lexT_tok (s.size+1) 41 [] (by decide)]
  show(WW.lexT (s.size+1) []).map (fun ts=>((2:Int),(⟨#[41]⟩:ByteArray))::ts)=_
  rw[WW.lexT_nil];rfl
 rw[h1];cases WW.lexT (s.size+1) s.data.toList with
 |none=>rfl
 |some a=>rfl
theorem blanks_law (s:ByteArray)(hs:s.size≤2000):∃a b,PsTo s a∧PsTo (padW s) a∧PsTo (parW s) b∧∀o,a= .ok o→b= .ok o∨b= .err 111:=by
 rcases WW.lexD_ways s with⟨x,y,h1,h2⟩|⟨T,h1,h2,h3,h4⟩
 ·refine⟨.err 90,.err 90,ps_lex (by omega) x y h1,?_,?_,fun o h=>by cases h⟩
  ·rcases WW.lexD_ways (padW s)with⟨x',y',k1,k2⟩|⟨T',k1,k2,_⟩
   ·exact ps_lex (by rw[padW_size];omega) x' y' k1
   ·rw[lexT_pad,h2]at k2
    cases k2
  ·rcases WW.lexD_ways (parW s)with⟨x',y',k1,k2⟩|⟨T',k1,k2,_⟩
   ·exact ps_lex (by rw[parW_size];omega) x' y' k1
   ·rw[lexT_par,h2]at k2
    cases k2
 ·have hT:ToksOK s T:=⟨by omega,h1,h3,h4⟩
  obtain⟨last,hlast⟩:=last_of T;obtain⟨R,hR,hF⟩:=run_ex last 2000 (T.length+1) T true [] [] 0 0 (by omega) (fun t ht=>(h3 t ht).1) iv0 (by omega)
  have hPad:PsTo (padW s) (ansR R):=by
   rcases WW.lexD_ways (padW s)with⟨x',y',k1,k2⟩|⟨T',k1,k2,k3,k4⟩
   ·rw[lexT_pad,h2]at k2
    cases k2
   ·rw[lexT_pad,h2]at k2
    injection k2 with k2;have hT':ToksOK (padW s) T':=⟨by rw[padW_size];omega,k1,k3,k4⟩
    obtain⟨last',hlast'⟩:=last_of T';obtain⟨R',q1,q2⟩:=run_ss (last':=last') hR T' (ss_of _ _ k2);have hF':Fin2 2000 R':=by
     cases q2 with
     |ok o=>exact hF
     |err e a b a' b'=>exact .bad _ _ _ _ (hF.err e a b rfl)
    have h5:=ps_of hT' last' hlast' _ R' q1 hF';cases q2 with
    |ok o=>exact h5
    |err e a b a' b'=>exact h5
  have hPar:∃b,PsTo (parW s) b∧∀o,R= .ok o→b=ansO o∨b= .err 111:=by
   rcases WW.lexD_ways (parW s)with⟨x',y',k1,k2⟩|⟨T',k1,k2,k3,k4⟩
   ·rw[lexT_par,h2]at k2
    cases k2
   ·rw[lexT_par,h2]at k2
    have k5:T'.map WW.tk=(2,(⟨#[40]⟩:ByteArray))::(T.map WW.tk++[(2,(⟨#[41]⟩:ByteArray))]):=by
     injection k2 with k2;exact k2.symm
    have hT':ToksOK (parW s) T':=⟨by rw[parW_size];omega,k1,k3,k4⟩
    obtain⟨last',hlast'⟩:=last_of T';rw[parW_size]at k4;by_cases hok:∃o,R= .ok o
    ·obtain⟨o,rfl⟩:=hok
     obtain⟨R1,q1,q2⟩:=run_parens (last':=last') hR ⟨2,⟨#[40]⟩,1,1⟩ ⟨2,⟨#[41]⟩,1,1⟩ rfl rfl rfl rfl;obtain⟨R2,q3,q4⟩:=run_ss (last':=last') q1 T' (ss_of _ _ (by rw[k5,List.map_cons,List.map_append];rfl))
     rcases q2 with rfl|⟨x,y,rfl⟩
     ·cases q4
      exact⟨_,ps_of hT' last' hlast' _ _ q3 hF,fun o' ho=>by injection ho with ho;subst ho;exact .inl rfl⟩
     ·cases q4
      exact⟨_,ps_of hT' last' hlast' _ _ q3 (.bad _ _ _ _ (by decide)),fun o' ho=> .inr rfl⟩
    ·cases T' with
     |nil=>cases k5
     |cons t0 T1=>
      rw[List.map_cons]at k5;injection k5 with k6 k7;unfold WW.tk at k6;injection k6 with k8 k9;rw[List.length_cons]at k4;obtain⟨R2,q3,q4⟩:=run_ex last' 2000 (T1.length+1) T1 true [⟨-1,0,0⟩] [] 1 (-1) (by omega) (fun t ht=>(k3 t (List.mem_cons_of_mem _ ht)).1) ⟨⟨0,.cons (a:=0) (b:=0) .par .nil,HG.nil⟩,fun x hx=>(by cases hx),by decide⟩ (by omega)
      exact⟨_,ps_of hT' last' hlast' _ _ (.oPar (T1.length+1) t0 T1 [] [] 0 R2 k8 k9 (by decide) q3) q4,fun o ho=>absurd ⟨o,ho⟩ hok⟩
  obtain⟨b,hb1,hb2⟩:=hPar;refine⟨ansR R,b,ps_of hT last hlast _ R hR hF,hPad,hb1,?_⟩;intro o ho;cases R with
  |err e x y=>cases ho
  |ok o2=>
   have h6:ansO o2= .ok o:=ho;have h7:o=o2:=by
    unfold ansO at h6;split at h6
    ·split at h6
     ·injection h6 with h6;exact h6.symm
     ·cases h6
    ·cases h6
   rcases hb2 o2 rfl with h8|h8
   ·exact .inl (h8.trans h6)
   ·exact .inr h8
end Go.Proofs.YtjopepfemhckjaaGreatDoor.NW
end
section
namespace Go.Proofs.YtjopepfemhckjaaGreatDoor.NW
open Go.Proofs Go.RowKit Go.Shelf Go.Proofs.YtjopepfemhckjaaGreatDoor.PN Go.Proofs.YtjopepfemhckjaaGreatDoorW.PrintWords Go.Proofs.YtjopepfemhckjaaGreatDoor.PParseTells
def Rt (f:FuncId)(args:Array Value)(v:Value):Prop:=∀w,Calls Tryz.prog f args w fun e w'=>e= .returned v∧Below w.heap.size w w'
theorem Rt.go {f:FuncId}{args:Array Value}{v:Value}(h:Rt f args v){w0 w:World}(B:Aside0 (Below w0.heap.size w0 w)){Q:_}(K:∀w',Aside0 (Below w0.heap.size w0 w')→Aside0 (Below w.heap.size w w')→Q (.returned v) w'):Calls Tryz.prog f args w Q:=by
 refine(h w).mono ?_;rintro e w' ⟨rfl,hb⟩;exact K w' ⟨B.out.trans (hb.mono B.out.size)⟩ ⟨hb⟩
def Rs (f:FuncId)(args:Array Value)(v:Value):Prop:=∀w,Calls Tryz.prog f args w fun e w'=>e= .returned v∧w'=w
theorem Rs.go {f:FuncId}{args:Array Value}{v:Value}(h:Rs f args v){w:World}{Q:_}(K:Q (.returned v) w):Calls Tryz.prog f args w Q:=by
 refine(h w).mono ?_;rintro e w' ⟨rfl,rfl⟩;exact K
theorem Rt.same {f:FuncId}{args:Array Value}{v:Value}(h:Rs f args v):Rt f args v:=fun w=>(h w).mono fun e w' ⟨h1,h2⟩=>⟨h1,by rw[h2];exact Below.refl _ _⟩
theorem bput {B:Nat}{w0 w:World}(hb:Below B w0 w){g:Nat}(hg:B≤g)(i:Nat)(u:Value):Below B w0 (w.setCell ⟨g,i,none⟩ u):=
 ⟨hb.os,hb.tape,hb.output,by simpa[World.setCell]using hb.size,fun k hk=>(Below.heap_setCell w ⟨g,i,none⟩ u k (by show k≠g;omega)).trans (hb.block k hk)⟩
theorem ba_len (s:ByteArray):s.data.toList.length=s.size:=rfl
theorem ba_at (s:ByteArray)(i:Nat)(h:i<s.size):s.data.toList[i]'h=s[i]'h:=rfl
theorem digd (s:ByteArray)(hd:allD s.data.toList)(i:Nat)(h:i<s.size):48≤(s[i]'h).toNat∧(s[i]'h).toNat≤57:=by
 rw[←ba_at s i h];exact hd _ (List.getElem_mem _)
theorem allD_take {s:ByteArray}{n:Nat}(h:n<s.size)(ha:allD (s.data.toList.take n))(hd:48≤(s[n]'h).toNat∧(s[n]'h).toNat≤57):allD (s.data.toList.take (n+1)):=by
 rw[List.take_succ_eq_append_getElem (by rw[ba_len];exact h)]
 intro c hc;rcases List.mem_append.1 hc with hc|hc
 ·exact ha c hc
 ·rw[List.mem_singleton.1 hc]
  exact hd
theorem allD_bad {s:ByteArray}{n:Nat}(h:n<s.size)(hd:¬(48≤(s[n]'h).toNat∧(s[n]'h).toNat≤57)):¬allD s.data.toList:=fun ha=>hd (digd s ha n h)
theorem dig_at (l:List UInt8)(hd:allD l):∀i,(h:i<l.length)→(l[l.length-1-i]'(by omega)).toNat-48=dv l/10^i%10:=by
 induction l with
 |nil=>intro i h;exact absurd h (by simp)
 |cons c l ih=>
  intro i h;have hl:=dv_lt l (fun d hd'=>hd d (List.mem_cons_of_mem _ hd'))
  have hc:=hd c (List.mem_cons_self ..);rw[dv_cons];rw[List.length_cons]at h;by_cases hi:i=l.length
  ·subst hi
   have e:(c::l)[(c::l).length-1-l.length]'(by simp)=c:=by simp
   rw[e,Nat.mul_comm,Nat.mul_add_div (Nat.pow_pos (by omega)),Nat.div_eq_of_lt hl,Nat.add_zero,Nat.mod_eq_of_lt (by omega)]
  ·have hi2:i<l.length:=by omega
   have e:(c::l)[(c::l).length-1-i]'(by simp;omega)=l[l.length-1-i]'(by omega):=by
    have:(c::l).length-1-i=(l.length-1-i)+1:=by simp;omega
    simp only[this,List.getElem_cons_succ]
   rw[e,ih (fun d hd'=>hd d (List.mem_cons_of_mem _ hd')) i hi2]
   obtain⟨k,hk⟩:∃k,l.length=i+(k+1):=⟨l.length-i-1,by omega⟩
   rw[hk,Nat.pow_add,Nat.pow_succ,show(c.toNat-48)*(10^i*(10^k*10))+dv l=10^i*(10*((c.toNat-48)*10^k))+dv l by grind,Nat.mul_add_div (Nat.pow_pos (by omega)),Nat.mul_add_mod]
theorem less_dv:∀(l m:List UInt8),allD l→allD m→l.length=m.length→Op.bytesLess l m=decide (dv l<dv m)
 |[],[],_,_,_=>rfl
 |[],_::_,_,_,h=>by cases h
 |_::_,[],_,_,h=>by cases h
 |c::l,d::m,hl,hm,h=>by
  have e:l.length=m.length:=by simpa using h
  have b1:=dv_lt l (fun x hx=>hl x (List.mem_cons_of_mem _ hx))
  have b2:=dv_lt m (fun x hx=>hm x (List.mem_cons_of_mem _ hx))
  have c1:=hl c (List.mem_cons_self ..);have d1:=hm d (List.mem_cons_self ..);have ih:=less_dv l m (fun x hx=>hl x (List.mem_cons_of_mem _ hx)) (fun x hx=>hm x (List.mem_cons_of_mem _ hx)) e
  rw[e]at b1;rw[dv_cons,dv_cons,e];unfold Op.bytesLess;by_cases h1:c=d
  ·subst h1
   simp only[UInt8.lt_irrefl,decide_false,Bool.false_or,decide_true,beq_self_eq_true,Bool.true_and,if_true,if_false,ih];exact decide_eq_decide.2 (by omega)
  ·have h2:c.toNat≠d.toNat:=fun e=>h1 (u8_ext e)
   by_cases h3:c.toNat<d.toNat
   ·have h4:(c.toNat-48+1)*10^m.length≤(d.toNat-48)*10^m.length:=Nat.mul_le_mul_right _ (by omega)
    have h5:c<d:=UInt8.lt_iff_toNat_lt.2 h3;have h6:(c.toNat-48)*10^m.length+dv l<(d.toNat-48)*10^m.length+dv m:=by rw[Nat.add_mul]at h4;omega
    rw[decide_eq_true h6];simp[h5]
   ·have h4:(d.toNat-48+1)*10^m.length≤(c.toNat-48)*10^m.length:=Nat.mul_le_mul_right _ (by omega)
    have h5:¬c<d:=fun h=>h3 (UInt8.lt_iff_toNat_lt.1 h)
    have h6:¬(c.toNat-48)*10^m.length+dv l<(d.toNat-48)*10^m.length+dv m:=by rw[Nat.add_mul]at h4;omega
    rw[decide_eq_false h6];simp[h5,h1]
theorem natS_len_lt {n m:Nat}(h:(natS n).size<(natS m).size):n<m:=by
 have h1:=natS_isN n;have h2:=natS_isN m;have a1:=dv_lt _ h1.1.dig;rw[h1.2,ba_len]at a1;by_cases h0:m=0
 ·subst h0
  have e:natS 0=⟨#[48]⟩:=h2.inj isN_0;have e2:=h1.1.pos_len;rw[ba_len]at e2;rw[e]at h;have:(⟨#[48]⟩:ByteArray).size=1:=rfl;omega
 ·have b1:=h2.1.ge (by rw[h2.2];exact h0)
  rw[h2.2,ba_len]at b1;have:10^(natS n).size≤10^((natS m).size-1):=Nat.pow_le_pow_right (by omega) (by omega)
  omega
theorem natS_less {n m:Nat}(h:(natS n).size=(natS m).size):Op.bytesLess (natS n).toList (natS m).toList=decide (n<m):=by
 rw[Lib.toList_data,Lib.toList_data,less_dv _ _ (natS_isN n).1.dig (natS_isN m).1.dig h,(natS_isN n).2,(natS_isN m).2]
theorem natS_eqB (n m:Nat):((natS n).toList==(natS m).toList)=decide (n=m):=by
 rw[Bool.eq_iff_iff,beq_iff_eq,decide_eq_true_eq,Lib.toList_data,Lib.toList_data];constructor
 ·intro h
  have e:natS n=natS m:=by
   cases hn:natS n;cases hm:natS m;rw[hn,hm]at h;congr 1
   exact Array.toList_inj.1 h
  exact(natS_isN n).val (by rw[e];exact natS_isN m)
 ·intro h
  rw[h]
theorem natS_trim (s:ByteArray)(i:Nat)(hd:allD s.data.toList)(h:i<s.size)(hx:i+1=s.size∨(s[i]'h).toNat≠48)(hv:dv (s.data.toList.drop i)=dv s.data.toList):s.extract i s.size=natS (dv s.data.toList):=by
 have hl:(s.extract i s.size).data.toList=s.data.toList.drop i:=by
  rw[ext_toList,List.take_of_length_le (by rw[ba_len];exact Nat.le_refl _)]
 apply IsN.eq;unfold IsN;rw[hl];refine⟨⟨?_,fun c hc=>hd c (List.mem_of_mem_drop hc),?_⟩,hv⟩
 ·intro e
  have:=congrArg List.length e;rw[List.length_drop,ba_len]at this;simp at this;omega
 ·intro he
  rw[List.drop_eq_getElem_cons (by rw[ba_len];exact h)]at he ⊢
  rcases hx with hx|hx
  ·rw[List.drop_eq_nil_of_le (by rw[ba_len];omega)]
   injection he with he;rw[he]
  ·injection he with he
   exact absurd (congrArg UInt8.toNat he) hx
def byts (l:List Int):List UInt8:=l.map fun n=>UInt8.ofNat n.toNat
theorem byts_cons (d:Nat)(hd:d<10)(l:List Int):dv (byts ((48+(d:Int))::l))=d*10^l.length+dv (byts l)∧(allD (byts l)→allD (byts ((48+(d:Int))::l))):=by
 have h1:UInt8.ofNat (48+(d:Int)).toNat=UInt8.ofNat (48+d):=by congr 1
 have h2:=u8_digit d hd;constructor
 ·show dv (UInt8.ofNat (48+(d:Int)).toNat::byts l)=_
  rw[h1,dv_cons,h2];unfold byts;rw[List.length_map];congr 2
  omega
 ·intro h c hc
  rcases List.mem_cons.1 hc with hc|hc
  ·have e:c=UInt8.ofNat (48+d):=hc.trans h1
   rw[e,h2];omega
  ·exact h c hc
structure Fil (L i:Nat) (l:List Int) (v:Nat):Prop where
 len:l.length=L
 le:i≤L
 all:allD (byts (l.drop (L-i)))
 val:dv (byts (l.drop (L-i)))=v
theorem Fil.start (L:Nat)(l:List Int)(h:l.length=L):Fil L 0 l 0:=⟨h,Nat.zero_le _,(by rw[Nat.sub_zero,←h,List.drop_length];intro c hc;exact absurd hc (by simp[byts])),(by rw[Nat.sub_zero,←h,List.drop_length];rfl)⟩
theorem Fil.put {L i v:Nat}{l:List Int}(h:Fil L i l v)(hi:i<L)(d:Nat)(hd:d<10):Fil L (i+1) (l.set (L-1-i) (48+(d:Int))) (v+d*10^i):=by
 obtain⟨h1,h2,h3,h4⟩:=h;have e:(l.set (L-1-i) (48+(d:Int))).drop (L-(i+1))=(48+(d:Int))::l.drop (L-i):=by
  rw[show L-(i+1)=L-1-i by omega,drop_set _ _ _ (by omega),show L-1-i+1=L-i by omega]
 obtain⟨q1,q2⟩:=byts_cons d hd (l.drop (L-i));refine⟨by simp[h1],hi,by rw[e];exact q2 h3,?_⟩
 rw[e,q1,h4,List.length_drop,h1,show L-(L-i)=i by omega,Nat.add_comm]
theorem Fil.whole {L v:Nat}{l:List Int}(h:Fil L L l v):allD (strOfNums l).data.toList∧dv (strOfNums l).data.toList=v∧(strOfNums l).size=L:=by
 obtain⟨h1,h2,h3,h4⟩:=h;rw[Nat.sub_self,List.drop_zero]at h3 h4;exact⟨h3,h4,by rw[strOfNums_size,h1]⟩
theorem mod_step (n i:Nat):n%10^(i+1)=n%10^i+10^i*(n/10^i%10):=by
 rw[Nat.pow_succ,Nat.mod_mul]
end Go.Proofs.YtjopepfemhckjaaGreatDoor.NW
end
section
set_option maxRecDepth 100000
namespace Go.Proofs.YtjopepfemhckjaaGreatDoor.NW
open Go.Proofs Go.RowKit Go.Shelf Go.Proofs.YtjopepfemhckjaaGreatDoor.PN Go.Proofs.YtjopepfemhckjaaGreatDoorW.PrintWords Go.Proofs.YtjopepfemhckjaaGreatDoor.PParseTells
theorem natB_bad {s:ByteArray}(h:¬allD s.data.toList):isNatB s.data.toList=false:=by
 rw[Bool.eq_false_iff];intro h2;exact h ((isNatB_iff _).1 h2).dig
theorem natB_end {s:ByteArray}(ha:allD s.data.toList)(h0:0<s.size):isNatB s.data.toList=((s.toList==[48])|| !decide ((s[0]'h0).toNat=48)):=by
 obtain⟨t,ht⟩:∃t,s.data.toList=s[0]'h0::t:=⟨s.data.toList.drop 1,by
  have:=List.drop_eq_getElem_cons (l:=s.data.toList) (i:=0) (by rw[ba_len];exact h0)
  rw[List.drop_zero]at this;exact this⟩
 have hall:s.data.toList.all (fun c=>decide (48≤c.toNat)&&decide (c.toNat≤57))=true:=by
  rw[List.all_eq_true];intro c hc;have:=ha c hc;simp[this.1,this.2]
 unfold isNatB;rw[hall,Lib.toList_data,ht];have e:(some (s[0]'h0)==some (48:UInt8))=decide ((s[0]'h0).toNat=48):=by
  rw[Bool.eq_iff_iff,beq_iff_eq,decide_eq_true_eq];exact⟨fun h=>by injection h with h;rw[h];rfl,fun h=>by rw[u8_ext (b:=48) h]⟩
 simp only[List.isEmpty_cons,Bool.not_false,Bool.true_and,Bool.and_true,List.head?_cons,e];rw[Bool.or_comm]
set_option maxHeartbeats 4000000 in
theorem rmay_w (s:ByteArray)(hs:s.size≤1000000)(w:World):Calls Tryz.prog 92 #[.string s] w fun e w'=>e= .returned (.bool (isNatB s.data.toList))∧w'=w:=by
 obtain⟨R,hR⟩:∃R,isNatB s.data.toList=R:=⟨_,rfl⟩;rw[hR];have HR:=Aside0.mk hR;clear hR;go_enter Tryz.func92,Tryz.ntmps92
 go_wp2_with fail;go_loopg [3] (s.size+1) (fun kq v3 w'=>∃n:Nat,v3= .int .i64 n∧n+kq=s.size+1∧n≤s.size∧Aside0 (allD (s.data.toList.take n))∧w'=w)
 case atStart=>exact⟨0,rfl,by omega,by omega,⟨fun c hc=>by simp at hc⟩,rfl⟩
 case round=>
  obtain⟨n,rfl,hn,hn2,HA,rfl⟩:=hrel;by_cases hlt:n<s.size
  ·by_cases hd:48≤(s[n]'hlt).toNat∧(s[n]'hlt).toNat≤57
   ·have HA2:=Aside0.mk (allD_take hlt HA.out hd)
    have h1:¬((s[n]'hlt).toNat:Int)<48:=by omega
    have h2:¬(57:Int)<((s[n]'hlt).toNat:Int):=by omega
    clear HA;go_wp2_with fail;go_roundg (gk-1)
    case measure=>omega
    case rel=>exact⟨n+1,by go_num,by omega,by omega,HA2,rfl⟩
   ·have hr:R=false:=HR.out.symm.trans (natB_bad (allD_bad hlt hd))
    subst hr;clear HR HA;by_cases h1:((s[n]'hlt).toNat:Int)<48
    ·go_wp2_with fail
     go_ret;exact⟨rfl,rfl⟩
    ·have h2:(57:Int)<((s[n]'hlt).toNat:Int):=by omega
     go_wp2_with fail;go_ret;exact⟨rfl,rfl⟩
  ·have ha:allD s.data.toList:=by
    have:=HA.out;rwa [List.take_of_length_le (by rw[ba_len];omega)]at this
   by_cases h0:0<s.size
   ·have hr:=HR.out.symm.trans (natB_end ha h0)
    subst hr;clear HA HR;cases h1:(s.toList==([48]:List UInt8))with
    |true=>
     go_wp2_with fail;go_ret;exact⟨by simp[*],rfl⟩
    |false=>
     by_cases h2:(s[0]'h0).toNat=48
     ·have h3:((s[0]'h0).toNat:Int)=48:=by omega
      go_wp2_with fail;go_ret;exact⟨by simp[*],rfl⟩
     ·have h3:¬((s[0]'h0).toNat:Int)=48:=by omega
      go_wp2_with fail;go_ret;exact⟨by simp[*],rfl⟩
   ·have he:isNatB s.data.toList=false:=by
     have:s.data.toList=[]:=List.length_eq_zero_iff.1 (by rw[ba_len];omega)
     rw[this];rfl
    have hr:=HR.out.symm.trans he;subst hr;clear HA HR he ha;go_wp2_with fail;go_ret;exact⟨rfl,rfl⟩
theorem rmay_nat (n:Nat)(hs:(natS n).size≤1000000)(w:World):Calls Tryz.prog 92 #[.string (natS n)] w fun e w'=>e= .returned (.bool true)∧w'=w:=by
 have h:=rmay_w (natS n) hs w;rwa [isNatB_nat]at h
set_option maxHeartbeats 4000000 in
theorem rcmp_w (n m:Nat)(hn:(natS n).size≤1000000)(hm:(natS m).size≤1000000)(w:World):Calls Tryz.prog 166 #[.string (natS n),.string (natS m)] w fun e w'=>e= .returned (.int .i64 (cmpZ n m))∧w'=w:=by
 have H1:=(show Rs _ _ _ from rmay_nat n hn)
 have H2:=(show Rs _ _ _ from rmay_nat m hm)
 have he:=natS_eqB n m;have hl:= @natS_len_lt n m;have hl2:= @natS_len_lt m n;have hb:= @natS_less n m;unfold cmpZ;generalize natS n=s at*;generalize natS m=t at*;by_cases h1:n=m
 ·rw[if_neg (by omega),if_pos h1]
  rw[decide_eq_true h1]at he;clear hl hl2 hb;go_enter Tryz.func166,Tryz.ntmps166
  go_wp2_with(first|(with_reducible refine H1.go ?_)|(with_reducible refine H2.go ?_))
  go_ret;exact⟨rfl,rfl⟩
 ·rw[decide_eq_false h1]at he
  by_cases h2:n<m
  ·rw[if_pos h2]
   have h3:s.size≤t.size:=by omega
   by_cases h4:s.size=t.size
   ·have hb:=hb h4
    rw[decide_eq_true h2]at hb;clear hl hl2;go_enter Tryz.func166,Tryz.ntmps166
    go_wp2_with(first|(with_reducible refine H1.go ?_)|(with_reducible refine H2.go ?_))
    go_ret;exact⟨rfl,rfl⟩
   ·have h5:(s.size:Int)<(t.size:Int):=by omega
    clear hl hl2 hb;go_enter Tryz.func166,Tryz.ntmps166
    go_wp2_with(first|(with_reducible refine H1.go ?_)|(with_reducible refine H2.go ?_))
    go_ret;exact⟨rfl,rfl⟩
  ·rw[if_neg h2,if_neg h1]
   have h3:¬(s.size:Int)<(t.size:Int):=by omega
   by_cases h4:s.size=t.size
   ·have hb:=hb h4
    rw[decide_eq_false h2]at hb;clear hl hl2;go_enter Tryz.func166,Tryz.ntmps166
    go_wp2_with(first|(with_reducible refine H1.go ?_)|(with_reducible refine H2.go ?_))
    go_ret;exact⟨rfl,rfl⟩
   ·have h5:¬(s.size:Int)=(t.size:Int):=by omega
    clear hl hl2 hb;go_enter Tryz.func166,Tryz.ntmps166
    go_wp2_with(first|(with_reducible refine H1.go ?_)|(with_reducible refine H2.go ?_))
    go_ret;exact⟨rfl,rfl⟩
theorem dig_b (s:ByteArray)(hd:allD s.data.toList)(i:Nat)(h:i<s.size):(s[s.size-1-i]'(by omega)).toNat-48=dv s.data.toList/10^i%10:=dig_at s.data.toList hd i h
set_option maxHeartbeats 4000000 in
theorem rat_w (n i:Nat)(hs:(natS n).size≤1000000)(hi:i≤2000000)(w:World):Calls Tryz.prog 99 #[.string (natS n),.int .i64 i] w fun e w'=>e= .returned (.int .i64 ((n/10^i%10:Nat):Int))∧w'=w:=by
 have hd:=dig_b (natS n) (natS_isN n).1.dig i;have hg:=digd (natS n) (natS_isN n).1.dig;have hlt:=dv_lt _ (natS_isN n).1.dig;rw[(natS_isN n).2]at hd hlt;rw[ba_len]at hlt;generalize natS n=s at*;by_cases h:i<s.size
 ·have h2:((s.size:Int)-1-(i:Int))=((s.size-1-i:Nat):Int):=by omega
  have hy:s.size-1-i<s.size:=by omega
  have hx:(s[s.size-1-i]'hy).toNat-48=n/10^i%10:=hd h;have hz:=hg _ hy;have h3:¬(s.size:Int)≤(i:Int):=by omega
  have hw:IntKind.i64.wrap ((s.size:Int)-1)=(s.size:Int)-1:=by simp[IntKind.wrap_i64];omega
  have hw2:IntKind.i64.wrap ((s.size:Int)-1-(i:Int))=((s.size-1-i:Nat):Int):=by simp[IntKind.wrap_i64];omega
  clear hd;generalize s.size-1-i=j at*;rw[←hx];clear hg hlt hx h2;go_enter Tryz.func99,Tryz.ntmps99
  go_wp2_with fail;go_ret;exact⟨by congr 2;simp[IntKind.wrap_i64];omega,rfl⟩
 ·have h2:n/10^i%10=0:=by
   rw[Nat.div_eq_of_lt (Nat.lt_of_lt_of_le hlt (Nat.pow_le_pow_right (by omega) (by omega)))]
  have h3:(s.size:Int)≤(i:Int):=by omega
  rw[h2];clear hd hg hlt h2;go_enter Tryz.func99,Tryz.ntmps99
  go_wp2_with fail;go_ret;exact⟨rfl,rfl⟩
theorem drop_zero48 {s:ByteArray}{n:Nat}(h:n<s.size)(hz:(s[n]'h).toNat=48):dv (s.data.toList.drop n)=dv (s.data.toList.drop (n+1)):=by
 rw[List.drop_eq_getElem_cons (by rw[ba_len];exact h),dv_cons,ba_at s n h,hz]
 simp
set_option maxHeartbeats 4000000 in
theorem rtrim_w (s:ByteArray)(hd:allD s.data.toList)(h0:0<s.size)(hs:s.size≤10000000)(w:World):Calls Tryz.prog 100 #[.string s] w fun e w'=>e= .returned (.string (natS (dv s.data.toList)))∧w'=w:=by
 have HD:=Aside0.mk hd;clear hd;obtain⟨R,hR⟩:∃R,natS (dv s.data.toList)=R:=⟨_,rfl⟩;rw[hR];have HR:=Aside0.mk hR;clear hR;go_enter Tryz.func100,Tryz.ntmps100
 go_wp2_with fail;go_loopg [3] (s.size+1) (fun kq v3 w'=>∃n:Nat,v3= .int .i64 n∧n+kq=s.size+1∧n<s.size∧Aside0 (dv (s.data.toList.drop n)=dv s.data.toList)∧w'=w)
 case atStart=>exact⟨0,rfl,by omega,by omega,⟨rfl⟩,rfl⟩
 case round=>
  obtain⟨n,rfl,hn,hlt,HA,rfl⟩:=hrel;have hw:IntKind.i64.wrap ((n:Int)+1)=(n:Int)+1:=by simp[IntKind.wrap_i64];omega
  by_cases he:n+1<s.size
  ·have h1:(n:Int)+1<(s.size:Int):=by omega
   by_cases hz:(s[n]'hlt).toNat=48
   ·have HA2:Aside0 (dv (s.data.toList.drop (n+1))=dv s.data.toList):=⟨by rw[←HA.out,drop_zero48 hlt hz]⟩
    have h2:((s[n]'hlt).toNat:Int)=48:=by omega
    clear HA;go_wp2_with fail;go_roundg (gk-1)
    case measure=>omega
    case rel=>exact⟨n+1,by go_num,by omega,by omega,HA2,rfl⟩
   ·have h2:¬((s[n]'hlt).toNat:Int)=48:=by omega
    have HE:=Aside0.mk ((natS_trim s n HD.out hlt (.inr hz) HA.out).trans HR.out);clear HA;go_wp2_with fail;go_ret;exact⟨by rw[←HE.out];simp,rfl⟩
  ·have h1:¬(n:Int)+1<(s.size:Int):=by omega
   have HE:=Aside0.mk ((natS_trim s n HD.out hlt (.inl (by omega)) HA.out).trans HR.out)
   clear HA;go_wp2_with fail;go_ret;exact⟨by rw[←HE.out];simp,rfl⟩
theorem natS_below (n:Nat):n<10^(natS n).size:=by
 have h1:=dv_lt _ (natS_isN n).1.dig;rw[(natS_isN n).2]at h1;exact h1
theorem sub_step {v n m c c' x i:Nat}(h:v+m%10^i=n%10^i+c*10^i)(hx:c+x+m/10^i%10=n/10^i%10+10*c'):(v+x*10^i)+m%10^(i+1)=n%10^(i+1)+c'*10^(i+1):=by
 rw[mod_step,mod_step,Nat.pow_succ];generalize m/10^i%10=b at*;generalize n/10^i%10=a at*;have h2:(c+x+b)*10^i=(a+10*c')*10^i:=by rw[hx]
 generalize m%10^i=p at*;generalize n%10^i=q at*;generalize 10^i=e at*;grind
theorem sub_end {v n m c L:Nat}(h:v+m%10^L=n%10^L+c*10^L)(hn:n<10^L)(hm:m≤n)(hv:v<10^L):v=n-m:=by
 rw[Nat.mod_eq_of_lt hn,Nat.mod_eq_of_lt (by omega)]at h
 cases c with
 |zero=>omega
 |succ c=>
  have:(c+1)*10^L=c*10^L+10^L:=by rw[Nat.add_mul,Nat.one_mul]
  omega
set_option maxHeartbeats 8000000 in
theorem rsub_at (n m:Nat)(hmn:m≤n)(hs:(natS n).size≤1000000):Rt 167 #[.string (natS n),.string (natS m)] (.tuple #[.string (natS (n-m)),.bool true]):=by
 intro w;have hsm:(natS m).size≤1000000:=Nat.le_trans (dec_len_mono hmn) hs;have H1:=(show Rs _ _ _ from rmay_nat n hs)
 have H2:=(show Rs _ _ _ from rmay_nat m hsm)
 have H3:=(show Rs _ _ _ from rcmp_w n m hs hsm)
 have hz:¬cmpZ n m<0:=by unfold cmpZ;split;omega;split<;>omega
 have HX:=fun i hi=>(show Rs _ _ _ from rat_w n i hs hi)
 have HY:=fun i hi=>(show Rs _ _ _ from rat_w m i hsm hi)
 have HT:=fun s h1 h2 h3=>(show Rs _ _ _ from rtrim_w s h1 h2 h3)
 have HP:Aside0 (m≤n∧n<10^(natS n).size):=⟨hmn,natS_below n⟩;have hL0:=natS_pos n;generalize natS n=s at*;generalize natS m=t at*;generalize cmpZ n m=z at*;clear hsm hmn;go_enter Tryz.func167,Tryz.ntmps167
 go_wp2_with(first|(with_reducible refine H1.go ?_)|(with_reducible refine H2.go ?_)|(with_reducible refine H3.go ?_)|((with_reducible refine gate_dst (N:=26) rfl ?_);refine Kd.R_make (Kd.int .u8) (w0:=w) w.heap.size 5 rfl (N:=26) rfl 121 _ _ rfl (s.size:Int) rfl rfl Tryz.underlying121 (.int .u8 0) 1 info5 rfl (by decide) (by omega) 0 (ok:=fun _=>True) (okp:=fun _=>True) rfl (fun _ hk=>hk) trivial (by omega) (by omega) (by first|exact Below.refl _ _|exact pw_below_drewN (Below.refl _ _) _) (by simp) ?_;intro vo wo ho hbo hgo hnew;obtain⟨g,cap,rfl,hg1,hg2,hg3⟩:=Kd.R_form ho (by simp;omega);have HR:=Aside0.mk ho;have HB:=Aside0.mk hbo;clear hgo hbo ho hnew hg2 hg3))
 have hN:(List.replicate (s.size:Int).toNat (0:Int)).length=s.size:=by rw[List.length_replicate,Int.toNat_natCast]
 have HF:=Aside0.mk (Fil.start s.size _ hN);rw[hN]at HR;try rw[hN]
 generalize List.replicate (s.size:Int).toNat (0:Int)=l0 at*;clear hN H1 H2 H3 hz;go_loopg [7,8] (s.size+1) (fun kq v7 v8 w'=>∃(i c v:Nat) (l:List Int),v7= .int .i64 c∧v8= .int .i64 i∧i+kq=s.size+1∧i≤s.size∧c≤1∧Aside0 (Fil s.size i l v)∧Aside0 (v+m%10^i=n%10^i+c*10^i)∧Aside0 (Kd.R (Kd.int .u8) 5 w' w.heap.size (fun _=>True) (.slice (some ⟨g,0,none⟩) s.size cap) l)∧Aside0 (Below w.heap.size w w'))
 case atStart=>exact⟨0,0,0,l0,rfl,rfl,by omega,by omega,by omega,HF,⟨by simp[Nat.mod_one]⟩,HR,HB⟩
 case round=>
  clear HR HB HF;obtain⟨i,c,v,l,rfl,rfl,hi,hin,hc,HF,HV,HR,HB⟩:=hrel;by_cases hie:i=s.size
  ·subst hie
   obtain⟨q1,q2,q3⟩:=HF.out.whole;have hv:v=n-m:=sub_end HV.out HP.out.2 HP.out.1 (by rw[←q2,←q3];exact dv_lt _ q1)
   have hcv:=own_string (P:=Tryz.prog) Tryz.underlying121 Tryz.underlying5 Tryz.underlying9 (Kd.own_of_R HR.out);have HT2:=HT (strOfNums l) q1 (by omega) (by omega)
   rw[q2,hv]at HT2;clear HV HF HR q1 q2 q3 HT;generalize strOfNums l=sl at*;go_wp2_with(with_reducible refine HT2.go ?_)
   refine bodyPost_ret (results_tmp2 rfl _ _ _) rfl ?_;exact⟨rfl,HB.out⟩
  ·have h1:(i:Int)<(s.size:Int):=by omega
   have hx:=HX i (by omega)
   have hy:=HY i (by omega)
   obtain⟨a,ha⟩:∃a,n/10^i%10=a:=⟨_,rfl⟩;obtain⟨b,hb⟩:∃b,m/10^i%10=b:=⟨_,rfl⟩;have ha9:a≤9:=by omega
   have hb9:b≤9:=by omega
   rw[ha]at hx;rw[hb]at hy;have e1:IntKind.i64.wrap ((a:Int)-(b:Int))=(a:Int)-(b:Int):=by simp[IntKind.wrap_i64];omega
   have e2:IntKind.i64.wrap ((a:Int)-(b:Int)-(c:Int))=(a:Int)-(b:Int)-(c:Int):=by simp[IntKind.wrap_i64];omega
   have e3:IntKind.i64.wrap ((s.size:Int)-1)=(s.size:Int)-1:=by simp[IntKind.wrap_i64];omega
   have e4:IntKind.i64.wrap ((s.size:Int)-1-(i:Int))=((s.size-1-i:Nat):Int):=by simp[IntKind.wrap_i64];omega
   have hj:s.size-1-i<s.size:=by omega
   obtain⟨q0,f0⟩:=Kd.R_celln 0 HR.out ((s.size-1-i:Nat):Int) (by omega) (by omega)
   have HPut:=fun x=>Kd.R_putn HR.out ((s.size-1-i:Nat):Int) x
   have hFP:=HF.out.put (by omega:i<s.size)
   simp only[Int.toNat_natCast]at q0 f0 HPut;have hss:=fun c' x=>sub_step (c':=c') (x:=x) HV.out
   rw[ha,hb]at hss;obtain⟨j,hjj⟩:∃j,s.size-1-i=j:=⟨_,rfl⟩;rw[hjj]at q0 f0 HPut hFP e4 hj;have i1:(0:Int)≤(j:Int):=by omega
   have i2:(j:Int)<(s.size:Int):=by omega
   have i3:(j:Int).toNat=j:=Int.toNat_natCast _;by_cases hx0:(a:Int)-(b:Int)-(c:Int)<0
   ·obtain⟨d,hd⟩:∃d:Nat,(a:Int)-(b:Int)-(c:Int)+10=(d:Int):=⟨((a:Int)-(b:Int)-(c:Int)+10).toNat,by omega⟩
    have e5:IntKind.i64.wrap ((a:Int)-(b:Int)-(c:Int)+10)=(d:Int):=by simp[IntKind.wrap_i64];omega
    have e6:IntKind.i64.wrap (48+(d:Int))=48+(d:Int):=by simp[IntKind.wrap_i64];omega
    have e7:IntKind.u8.wrap (48+(d:Int))=48+(d:Int):=by rw[IntKind.wrap_u8];omega
    have HF2:=Aside0.mk (hFP d (by omega))
    have HV2:=Aside0.mk (hss 1 d (by omega))
    have HR2:=Aside0.mk (HPut (48+(d:Int)));have HB2:=Aside0.mk (bput HB.out hg1 j (.int .u8 (48+(d:Int))));clear HF HV HR HPut hFP hss HB ha hb;go_wp2_with(first|(with_reducible refine hx.go ?_)|(with_reducible refine hy.go ?_))
    go_roundg (gk-1)
    case measure=>omega
    case rel=>exact⟨i+1,1,_,_,rfl,by go_num,by omega,by omega,by omega,HF2,HV2,HR2,HB2⟩
   ·obtain⟨d,hd⟩:∃d:Nat,(a:Int)-(b:Int)-(c:Int)=(d:Int):=⟨((a:Int)-(b:Int)-(c:Int)).toNat,by omega⟩
    have e6:IntKind.i64.wrap (48+(d:Int))=48+(d:Int):=by simp[IntKind.wrap_i64];omega
    have e7:IntKind.u8.wrap (48+(d:Int))=48+(d:Int):=by rw[IntKind.wrap_u8];omega
    have HF2:=Aside0.mk (hFP d (by omega))
    have HV2:=Aside0.mk (hss 0 d (by omega))
    have HR2:=Aside0.mk (HPut (48+(d:Int)));have HB2:=Aside0.mk (bput HB.out hg1 j (.int .u8 (48+(d:Int))));rw[hd]at e2 hx0;clear HF HV HR HPut hFP hss HB ha hb;go_wp2_with(first|(with_reducible refine hx.go ?_)|(with_reducible refine hy.go ?_))
    go_roundg (gk-1)
    case measure=>omega
    case rel=>exact⟨i+1,0,_,_,rfl,by go_num,by omega,by omega,by omega,HF2,HV2,HR2,HB2⟩
end Go.Proofs.YtjopepfemhckjaaGreatDoor.NW
end
