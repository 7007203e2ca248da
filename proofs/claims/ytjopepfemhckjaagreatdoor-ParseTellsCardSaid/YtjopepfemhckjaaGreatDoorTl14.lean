/-
  Part 14 of the proof of parseTells_holds: texts of this seat, put together.
-/
import Derived.RowKit
import Derived.Laws.ComplexArith
import Derived.Test.YtjopepfemhckjaaGreatDoorProg
import Derived.WalkKit
import Derived.WalkSpells
import Derived.WalkLawsBesides
import Derived.IntWalk
import Derived.LoopTactic
import Derived.Deep.LoopGhost
import Derived.Lib.Hide
import Derived.Lib.Builder
import Derived.Outline
import Derived.Deep.RegionWith
import Derived.Deep.RegionHeld3
import Derived.Test.YtjopepfemhckjaaGreatDoorTl13
set_option linter.unusedVariables false
set_option linter.unusedSimpArgs false
set_option maxHeartbeats 16000000
set_option maxRecDepth 100000
section
namespace Go.Proofs.YtjopepfemhckjaaGreatDoor.NW
open Go.Proofs Go.RowKit Go.Shelf Go.Proofs.YtjopepfemhckjaaGreatDoor.PN Go.Proofs.YtjopepfemhckjaaGreatDoorW.PrintWords Go.Proofs.YtjopepfemhckjaaGreatDoor.PParseTells
def szs (l:List ByteArray):Nat:=(l.map (·.size)).sum
theorem szs_app (a b:List ByteArray):szs (a++b)=szs a+szs b:=by unfold szs;rw[List.map_append,List.sum_append]
theorem szs_take (l:List ByteArray)(k:Nat):szs (l.take k)+szs (l.drop k)=szs l:=by rw[←szs_app,List.take_append_drop]
theorem szs_mem (l:List ByteArray)(x:ByteArray)(h:x∈l):x.size≤szs l:=by
 induction l with
 |nil=>cases h
 |cons y t ih=>
  show _≤y.size+szs t
  rcases List.mem_cons.1 h with rfl|h
  ·omega
  ·have:=ih h;omega
theorem join_len (sep:List UInt8):∀l:List ByteArray,(Lib.join (l.map (·.data.toList)) sep).length≤szs l+l.length*sep.length:=by
 intro l;induction l with
 |nil=>simp[Lib.join,szs]
 |cons x t ih=>
  have hx:szs (x::t)=x.size+szs t:=rfl;have hxl:x.data.toList.length=x.size:=by simp
  cases t with
  |nil=>simp[Lib.join,szs]
  |cons y t=>
   have e:Lib.join ((x::y::t).map (·.data.toList)) sep=x.data.toList++sep++Lib.join ((y::t).map (·.data.toList)) sep:=by simp[Lib.join]
   rw[e,List.length_append,List.length_append,hxl,hx];have e2:(x::y::t).length=(y::t).length+1:=rfl;rw[e2,Nat.add_mul];omega
theorem joinB_size (l:List ByteArray):(joinB l).size≤szs l+l.length*2:=by
 have h:=join_len [44,32] l;have e:(joinB l).size=(Lib.join (l.map (·.data.toList)) [44,32]).length:=by unfold joinB;show Array.size (List.toArray _)=_;rw[List.size_toArray]
 rw[e];exact h
theorem numP_size (M:Nat)(z:Int)(d:Nat)(h:RatOK M z d):(numP z d).size≤1500000:=by
 obtain⟨hz,hd,h0,hM,hb,hg,hmul⟩:=h;have s1:(⟨#[110,117,109,40]⟩:xf).size=4:=rfl;have s2:(⟨#[44,32]⟩:xf).size=2:=rfl;have s3:(⟨#[41]⟩:xf).size=1:=rfl;have s4:(⟨#[45]⟩:xf).size=1:=rfl;have s5:(⟨#[46]⟩:xf).size=1:=rfl;have s6:(⟨#[]⟩:xf).size=0:=rfl;unfold numP;split
 ·rename_i hc
  split
  ·omega
  ·have hun:(natS (10^(pl d).1/d)).size≤1000:=by
    have h1:(natS (10^(pl d).1)).size=1+(pl d).1:=by
     rw[←(pow_isN (pl d).1).eq,j8];show 1+(List.replicate (pl d).1 (48:UInt8)).toArray.size=_
     simp
    have h2:=zr (Nat.div_le_self (10^(pl d).1) d);omega
   have hza:(natS z.natAbs).size≤1000:=by
    unfold intS at hz;rw[if_neg (by omega)]at hz
    exact hz
   have hp:=jP _ _ hza hun;unfold decP padD;generalize z.natAbs*(10^(pl d).1/d)=x at*;have hr:(⟨(List.replicate ((pl d).1+1-(natS x).size) (48:UInt8)).toArray⟩:ByteArray).size=(pl d).1+1-(natS x).size:=by show Array.size (List.toArray _)=_;rw[List.size_toArray,List.length_replicate]
   simp only[j8,ByteArray.size_extract,hr];split<;>omega
 ·simp only[j8]
  omega
theorem getD_size (l:List ByteArray)(k:Nat):(l.getD k ByteArray.empty).size≤szs l:=by
 rw[List.getD_eq_getElem?_getD];cases h:l[k]? with
 |none=>exact Nat.zero_le _
 |some x=>exact szs_mem l x (List.mem_of_getElem? h)
theorem getD_size2 (l:List ByteArray):(l.getD 0 ByteArray.empty).size+(l.getD 1 ByteArray.empty).size≤szs l:=by
 have he:ByteArray.empty.size=0:=rfl;match l with
 |[]=>exact xc 0
 |[x]=>show x.size+0≤x.size+0;exact xc _
 |x::y::t=>show x.size+y.size≤x.size+(y.size+szs t);omega
theorem wd_size (k:Nat):(wd k).size≤3:=by
 unfold wd;split<;>decide
theorem ndP_size (M:Nat)(n:Nd)(hn:NdOK M n)(l:List ByteArray)(hl:l.length≤3):(ndP n l).size≤szs l+1600000:=by
 have s1:(⟨#[112,120,40]⟩:xf).size=3:=rfl;have s2:(⟨#[44,32]⟩:xf).size=2:=rfl;have s3:(⟨#[41]⟩:xf).size=1:=rfl;have s4:(⟨#[40,45]⟩:xf).size=2:=rfl;have s5:(⟨#[40]⟩:xf).size=1:=rfl;have s6:(⟨#[32]⟩:xf).size=1:=rfl;cases n with
 |num z d=>have:=numP_size M z d hn.1;show(numP z d).size≤_;omega
 |px s a=>
  obtain⟨hs,h0,h1⟩:=hn;have:=hs.h20;have hat:(natS a.toNat).size≤10:=by
   have e:(natS a.toNat).size=(Lib.decDigits a.toNat).length:=by show(natS a.toNat).data.toList.length=_;rw[zq]
   have:=zH a.toNat 4 (by omega) (by omega)
   omega
  show(pxP s a).size≤_
  unfold pxP;simp only[j8];omega
 |raw x=>
  obtain⟨h1,h2,h3,h4,h5,h6,h7⟩:=hn;have:=h3.h20;have hd10:∀n:Int,0≤n→n≤9999→(natS n.toNat).size≤10:=fun n g0 g1=>by
   have e:(natS n.toNat).size=(Lib.decDigits n.toNat).length:=by show(natS n.toNat).data.toList.length=_;rw[zq]
   have:=zH n.toNat 4 (by omega) (by omega)
   omega
  have hat:=hd10 x.f3 h4 (by omega)
  have hbt:=hd10 x.f4 (by omega) h6
  have hw:(spW x.f0).size≤3:=by
   unfold spW;split
   ·decide
   ·split<;>decide
  show(spP x).size≤_
  unfold spP;simp only[j8];omega
 |op k=>
  show(opP k l).size≤_
  have h0:=getD_size l 0;have h1:=getD_size2 l;have hj:=joinB_size l;have hw:=wd_size k;unfold opP;split
  ·simp only[j8];omega
  ·split
   ·simp only[j8];omega
   ·simp only[j8];omega
theorem textNode (M:Nat)(hD:zX M)(hM5:5<M):foldSNode M ndP (fun _ st=>szs st≤4000000000):=by
 intro n st A c w hn har hok hg hc hA hC v hv0 hv;cases n with
 |num z d=>exact nodeNum_at M hD hM5 z d hn v w hg
 |px s a=>exact nodePx_at M hD s a hn v w hg
 |raw x=>exact nodeSp_at M hD x hn v w hg
 |op k=>
  obtain⟨hk5,hk12⟩:=hn;have hk:k=5∨k=6∨k=7∨k=8∨k=9∨k=10∨k=11∨k=12:=by omega
  have ha:1≤ar (.op k)∧ar (.op k)≤3:=by show 1≤(if k=5 then 1 else if k≤11 then 2 else 3)∧(if k=5 then 1 else if k≤11 then 2 else 3)≤3;split<;>(try split)<;>omega
  obtain⟨a,hae⟩:∃a,ar (.op k)=a:=⟨_,rfl⟩;rw[hae]at ha har hv ⊢;obtain⟨g,rfl,hgw⟩:=hA (by omega)
  have hv1:=hv _ rfl;rw[if_neg (by omega)]at hv1
  have hsub:st.length-(st.length-a)=a:=by omega
  rw[hsub]at hv1;subst hv1;obtain⟨m,hm⟩:∃m,st.length-a=m:=⟨_,rfl⟩;have hcell:∀(j:Nat) x,(st.drop m)[j]? =some x→w.cell? ⟨g,m+j,none⟩=some (.string x):=by
   intro j x hj;rw[List.getElem?_drop]at hj;have hlt:m+j<st.length:=by
    rcases Nat.lt_or_ge (m+j) st.length with h|h
    ·exact h
    ·rw[List.getElem?_eq_none h]at hj;cases hj
   obtain⟨ad,e,q⟩:=Kd.at_string hC ((m+j:Nat):Int) (by omega) (by omega)
   injection e with e;subst e;rw[xa]at q;have e2:(Addr.add ⟨g,0,none⟩ (m+j))=⟨g,m+j,none⟩:=by
    simp[Addr.add];intros
    omega
   rw[e2]at q;rw[q];unfold rdOf;rw[xa,List.getD_eq_getElem?_getD,hj];rfl
  have hlen:(st.drop m).length=a:=by rw[List.length_drop];omega
  have hsz:szs (st.drop m)≤4000000000:=by have:=szs_take st m;omega
  have hmem:=szs_mem (st.drop m);have hj:=joinB_size (st.drop m);rw[hm];have e2:(Addr.add ⟨g,0,none⟩ m)=⟨g,m,none⟩:=by
   simp[Addr.add];intros
   omega
  rw[e2];have hca:a≤c-m:=by omega
  generalize c-m=c2 at*;generalize st.drop m=l at*;show Calls _ _ _ _ fun e w'=>e= .returned (.tuple #[.string (opP k l),.bool true])∧_
  clear hC hA hv hv0 hok hc hm har hsub;have hae2:(if k=5 then 1 else if k≤11 then 2 else 3)=a:=hae
  rcases hk with rfl|rfl|rfl|rfl|rfl|rfl|rfl|rfl
  ·have ha1:a=1:=hae2.symm
   subst ha1;match l,hlen with
   |[x],_=>exact nodeNeg_at M hD g m c2 x (by have:=hmem x (by simp);omega) w (hcell 0 x rfl) hgw hg
  ·have ha1:a=2:=hae2.symm
   subst ha1;match l,hlen with
   |[x,y],_=>exact jk M hD 6 (by decide) g m c2 x y (by have:=hmem x (by simp);omega) (by have:=hmem y (by simp);omega) w (hcell 0 x rfl) (hcell 1 y rfl) hgw hg
  ·have ha1:a=2:=hae2.symm
   subst ha1;match l,hlen with
   |[x,y],_=>exact jk M hD 7 (by decide) g m c2 x y (by have:=hmem x (by simp);omega) (by have:=hmem y (by simp);omega) w (hcell 0 x rfl) (hcell 1 y rfl) hgw hg
  ·have ha1:a=2:=hae2.symm
   subst ha1;match l,hlen with
   |[x,y],_=>exact jk M hD 8 (by decide) g m c2 x y (by have:=hmem x (by simp);omega) (by have:=hmem y (by simp);omega) w (hcell 0 x rfl) (hcell 1 y rfl) hgw hg
  ·have ha1:a=2:=hae2.symm
   subst ha1;match l,hlen with
   |[x,y],_=>exact jk M hD 9 (by decide) g m c2 x y (by have:=hmem x (by simp);omega) (by have:=hmem y (by simp);omega) w (hcell 0 x rfl) (hcell 1 y rfl) hgw hg
  ·have h:=nodeFun_at M hD 10 (by decide) g m c2 l (by omega) (by omega) (by omega) w hcell hgw hg
   rw[hlen]at h;exact h
  ·have h:=nodeFun_at M hD 11 (by decide) g m c2 l (by omega) (by omega) (by omega) w hcell hgw hg
   rw[hlen]at h;exact h
  ·have h:=nodeFun_at M hD 12 (by decide) g m c2 l (by omega) (by omega) (by omega) w hcell hgw hg
   rw[hlen]at h;exact h
structure Frm (M:Nat) (ns:List Nd) (S:ByteArray) (D:Int):Prop where
 hns:∀n∈ns,NdOK M n
 hlen:ns.length≤2000
 hS:runF ndP ns []=some [S]
 hD:runF depF ns []=some [D]
theorem szs_step (M:Nat)(n:Nd)(hn:NdOK M n)(st st':List ByteArray)(h:stp ndP n st=some st'):szs st'≤szs st+1600000:=by
 unfold stp at h;split at h
 ·injection h with h
  subst h;rw[szs_app];have h1:=szs_take st (st.length-ar n);have har3:ar n≤3:=by
   cases n with
   |num z d=>exact Nat.zero_le _
   |px s a=>exact Nat.zero_le _
   |raw x=>exact Nat.zero_le _
   |op k=>show(if k=5 then 1 else if k≤11 then 2 else 3)≤3;split<;>(try split)<;>omega
  have h2:=ndP_size M n hn (st.drop (st.length-ar n)) (by rw[List.length_drop];omega)
  have e:szs [ndP n (st.drop (st.length-ar n))]=(ndP n (st.drop (st.length-ar n))).size:=by simp[szs]
  omega
 ·cases h
theorem termPrint_at (M:Nat)(hD:zX M)(hM5:5<M)(ns:List Nd)(S:ByteArray)(D:Int)(hf:Frm M ns S D)(A:Option Addr)(c:Nat)(w:World)(hC:Kd.C k37 w A ns.length (ns.map nd37))(hc:ns.length≤c)(hA:∀ad,A=some ad→ad.block<w.heap.size)(hg:Glob w):
 Calls Tryz.prog 49 #[.slice A ns.length c] w fun e w'=>e= .returned (.string S)∧Below w.heap.size w w':=by
 obtain⟨hns,hlen,hS,hDd⟩:=hf;have H:=Lib.hid (foldS_at M ndP (fun t st=>(∀n∈t,NdOK M n)∧szs st+t.length*1600000≤3200000000) (fun _ st=>szs st≤4000000000) (textNode M hD hM5) (fun n t st st' hJ hst=>by
  have:=szs_step M n (hJ.1 n (by simp)) st st' hst
  have e:(n::t).length=t.length+1:=rfl;have h2:=hJ.2;rw[e]at h2;exact⟨by omega,fun x hx=>hJ.1 x (by simp[hx]),by omega⟩) ns hns hlen S hS ⟨hns,by show 0+_≤_;omega⟩ A c w hC hc hA hg)
 clear hns hlen hS hDd hC hc hA hg hD;go_enter Tryz.func49,Tryz.ntmps49
 go_wp2_with fail;refine H.out.mono ?_;rintro e w1 ⟨rfl,hb1⟩;go_wp2_with fail;go_ret;exact⟨rfl,hb1⟩
theorem termDepth_at (M:Nat)(ns:List Nd)(S:ByteArray)(D:Int)(hf:Frm M ns S D)(A:Option Addr)(c:Nat)(w:World)(hC:Kd.C k37 w A ns.length (ns.map nd37))(hc:ns.length≤c)(hA:∀ad,A=some ad→ad.block<w.heap.size)(hg:Glob w):
 Calls Tryz.prog 50 #[.slice A ns.length c] w fun e w'=>e= .returned (.int .i64 D)∧Below w.heap.size w w':=by
 obtain⟨hns,hlen,hS,hDd⟩:=hf;have H:=Lib.hid (foldI_at M depF (fun t st=>t.length≤2000∧∀x∈st,x+t.length≤2000) (fun _ st=>∀x∈st,x≤2000) (depthNode M) (fun n t st st' hJ hst=>by
  have e:(n::t).length=t.length+1:=rfl;rw[e]at hJ;obtain⟨hJ0,hJ⟩:=hJ;refine⟨fun x hx=>by have:=hJ x hx;omega,by omega,?_⟩
  unfold stp at hst;split at hst
  ·injection hst with hst
   subst hst;intro x hx;rcases List.mem_append.1 hx with h|h
   ·have:=hJ x (List.mem_of_mem_take h);omega
   ·rw[List.mem_singleton]at h
    subst h;unfold depF;have:=jd (st.drop (st.length-ar n)) 0 (1999-t.length) (by omega) (fun y hy=>by have:=hJ y (List.mem_of_mem_drop hy);omega)
    omega
  ·cases hst) ns hns hlen D hDd ⟨hlen,by intro x hx;cases hx⟩ A c w hC hc hA hg)
 clear hns hlen hS hDd hC hc hA hg;go_enter Tryz.func50,Tryz.ntmps50
 go_wp2_with fail;refine H.out.mono ?_;rintro e w1 ⟨rfl,hb1⟩;go_wp2_with fail;go_ret;exact⟨rfl,hb1⟩
theorem termCheck_at (M:Nat)(hD:zX M)(hM5:5<M)(ns:List Nd)(S:ByteArray)(D:Int)(hf:Frm M ns S D)(hS0:0<S.size)(A:Option Addr)(c:Nat)(w:World)(hC:Kd.C k37 w A ns.length (ns.map nd37))(hc:ns.length≤c)(hA:∀ad,A=some ad→ad.block<w.heap.size)(hg:Glob w):
 Calls Tryz.prog 20 #[.slice A ns.length c] w fun e w'=>e= .returned (.int .i64 (if S.size≤20000∧D≤150 then 0 else 100))∧Below w.heap.size w w':=by
 have H1:=Lib.hid (termPrint_at M hD hM5 ns S D hf A c w hC hc hA hg);have H2:∀W,Below w.heap.size w W→RowKit.Hid (Calls Tryz.prog 50 #[.slice A ns.length c] W fun e w'=>e= .returned (.int .i64 D)∧Below W.heap.size W w'):=fun W hb=>Lib.hid (termDepth_at M ns S D hf A c W (Kd.C_below hC hb) hc (fun ad e=>Nat.lt_of_lt_of_le (hA ad e) hb.size) (hg.below hb))
 obtain⟨r,hr⟩:∃r:Int,(if S.size≤20000∧D≤150 then 0 else 100)=r:=⟨_,rfl⟩
 rw[hr];have HR:=zc.mk hr;have hne:(S.toList==([]:List UInt8))=false:=by
  rw[Lib.toList_data];cases hl:S.data.toList with
  |nil=>have:S.data.toList.length=S.size:=by simp
        rw[hl]at this;simp at this;omega
  |cons _ _=>rfl
 have hne2:¬S.toList=([]:List UInt8):=by intro e;rw[e]at hne;cases hne
 have he:S.toList.isEmpty=false:=by cases hl:S.toList with
  |nil=>exact absurd hl hne2
  |cons _ _=>rfl
 clear hf hC hc hA hg hD hr hS0;by_cases h1:S.size≤20000
 ·have h1':¬(20000:Int)<(S.size:Int):=by omega
  by_cases h2:D≤150
  ·have h2':¬(150:Int)<D:=by omega
   have hr0:r=0:=by have h:=HR.out;rw[if_pos ⟨h1,h2⟩]at h;exact h.symm
   subst hr0;clear HR;go_enter Tryz.func20,Tryz.ntmps20
   go_wp2_with fail;refine H1.out.mono ?_;rintro e w1 ⟨rfl,hb1⟩;go_wp2_with fail;refine(H2 _ hb1).out.mono ?_;rintro e w2 ⟨rfl,hb2⟩;have B2:=hb1.trans (hb2.mono hb1.size);go_wp2_with fail;go_ret;exact⟨rfl,B2⟩
  ·have h2':(150:Int)<D:=by omega
   have hr0:r=100:=by have h:=HR.out;rw[if_neg (fun h=>h2 h.2)]at h;exact h.symm
   subst hr0;clear HR;go_enter Tryz.func20,Tryz.ntmps20
   go_wp2_with fail;refine H1.out.mono ?_;rintro e w1 ⟨rfl,hb1⟩;go_wp2_with fail;refine(H2 _ hb1).out.mono ?_;rintro e w2 ⟨rfl,hb2⟩;have B2:=hb1.trans (hb2.mono hb1.size);go_wp2_with fail;go_ret;exact⟨rfl,B2⟩
 ·have h1':(20000:Int)<(S.size:Int):=by omega
  have hr0:r=100:=by have h:=HR.out;rw[if_neg (fun h=>h1 h.1)]at h;exact h.symm
  subst hr0;clear HR;go_enter Tryz.func20,Tryz.ntmps20
  go_wp2_with fail;refine H1.out.mono ?_;rintro e w1 ⟨rfl,hb1⟩;go_wp2_with fail;go_ret;exact⟨rfl,hb1⟩
end Go.Proofs.YtjopepfemhckjaaGreatDoor.NW
end
section
namespace Go.Proofs.YtjopepfemhckjaaGreatDoor.WP
def isL (c:Nat):Bool:=decide (97≤c∧c≤122)
def isD (c:Nat):Bool:=decide (48≤c∧c≤57)
def isB (c:Nat):Bool:=decide (c=32∨c=10)
def isLD (c:Nat):Bool:=isL c||isD c
def isS (c:Nat):Bool:=decide (c=43∨c=45∨c=42∨c=47∨c=40∨c=41∨c=44)
def qA (p:Nat×Nat)(c:UInt8):Nat×Nat:=if c.toNat=10 then(p.1+1,1)else(p.1,p.2+1)
def advP (p:Nat×Nat)(l:List UInt8):Nat×Nat:=l.foldl qA p
def runL (p:Nat→Bool):List UInt8→Nat
 |[]=>0
 |c::l=>if p c.toNat then runL p l+1 else 0
theorem z8 (p:Nat→Bool)(l:List UInt8):runL p l≤l.length:=by
 induction l with
 |nil=>exact xc _
 |cons c l ih=>unfold runL;split<;>simp<;>omega
def zx (l:List UInt8)(n:Nat):Nat:=((l[n]?).map (·.toNat)).getD 0
end Go.Proofs.YtjopepfemhckjaaGreatDoor.WP
end
section
namespace Go.Proofs.YtjopepfemhckjaaGreatDoor.Fl
open Go
def fb (n:Nat):Nat:=Ieee.double.nearest false n 0
theorem log2_lt (n:Nat)(h0:n≠0)(h:n<2^40):n.log2<40:=(Nat.log2_lt h0).2 h
theorem shl (a b:Nat):a <<< b=a*2^b:=Nat.shiftLeft_eq a b
theorem near (n k:Nat)(h0:n≠0)(h:n<2^40):
 Ieee.double.nearest false (n*2^k) (-(k:Int))=(n.log2+1022)*2^52+n*2^(52-n.log2):=by
 have hl:=log2_lt n h0 h;have hlog:(n*2^k).log2=n.log2+k:=by
  rw[Nat.log2_eq_iff (by have:=Nat.two_pow_pos k;exact Nat.mul_ne_zero h0 (by omega))]
  have h1:=Nat.log2_self_le h0;have h2:= @Nat.lt_log2_self n;constructor
  ·rw[Nat.pow_add];exact Nat.mul_le_mul_right _ h1
  ·rw[show n.log2+k+1=(n.log2+1)+k from by omega,Nat.pow_add]
   exact Nat.mul_lt_mul_of_pos_right h2 (Nat.two_pow_pos k)
 have hne:n*2^k≠0:=Nat.mul_ne_zero h0 (by have:=Nat.two_pow_pos k;omega)
 unfold Ieee.Format.nearest;rw[if_neg hne,hlog];have e1:max (-(k:Int)+((n.log2+k:Nat):Int)-(Ieee.double.fractionBits:Int)) Ieee.double.leastPlace=(n.log2:Int)-52:=by
  have e:(Ieee.double.fractionBits:Int)=52:=rfl;have e2:Ieee.double.leastPlace= -1074:=by decide
  rw[e,e2];omega
 simp only[e1];have e3:((n.log2:Int)-52-Ieee.double.leastPlace).toNat=n.log2+1022:=by
  have e2:Ieee.double.leastPlace= -1074:=by decide
  rw[e2];omega
 rw[e3];have hcut:Ieee.Toward.even.cut false ((n*2^k) <<< (-(k:Int)-((n.log2:Int)-52)).toNat) ((n.log2:Int)-52- -(k:Int)).toNat=n*2^(52-n.log2):=by
  unfold Ieee.Toward.cut;simp only[shl];by_cases hc:k+n.log2≤52
  ·rw[show((n.log2:Int)-52- -(k:Int)).toNat=0 from by omega]
   rw[show(-(k:Int)-((n.log2:Int)-52)).toNat=52-n.log2-k from by omega]
   simp only[Nat.zero_min,Nat.pow_zero,Nat.one_mul,Nat.div_one,Nat.mod_one];rw[Nat.mul_assoc,←Nat.pow_add,show k+(52-n.log2-k)=52-n.log2 from by omega]
   simp
  ·obtain⟨d,hd⟩:∃d,k+n.log2=52+d:=⟨k+n.log2-52,by omega⟩
   rw[show((n.log2:Int)-52- -(k:Int)).toNat=d from by omega]
   rw[show(-(k:Int)-((n.log2:Int)-52)).toNat=0 from by omega]
   simp only[Nat.pow_zero,Nat.mul_one];rw[hlog,show min d (n.log2+k+2)=d from by omega,Nat.one_mul]
   have e4:n*2^k=n*2^(52-n.log2)*2^d:=by
    rw[Nat.mul_assoc,←Nat.pow_add,show 52-n.log2+d=k from by omega]
   have hp:=Nat.two_pow_pos d;rw[e4,Nat.mul_div_cancel _ hp,Nat.mul_mod_left];simp
 rw[hcut];have hb:Ieee.double.binade=2^52:=rfl;have hi:Ieee.double.infRung=2047*2^52:=rfl;have hw:n*2^(52-n.log2)<2^53:=by
  have h2:= @Nat.lt_log2_self n;have:n*2^(52-n.log2)<2^(n.log2+1)*2^(52-n.log2):=Nat.mul_lt_mul_of_pos_right h2 (Nat.two_pow_pos _);rw[←Nat.pow_add,show n.log2+1+(52-n.log2)=53 from by omega]at this
  exact this
 rw[hb,hi];have hm:min ((n.log2+1022)*2^52+n*2^(52-n.log2)) (2047*2^52)=(n.log2+1022)*2^52+n*2^(52-n.log2):=by
  apply Nat.min_eq_left;generalize n*2^(52-n.log2)=x at*;omega
 rw[hm];rfl
theorem fb_eq (n:Nat)(h0:n≠0)(h:n<2^40):fb n=(n.log2+1022)*2^52+n*2^(52-n.log2):=by
 have:=near n 0 h0 h;simpa[fb]using this
theorem read_fb (n:Nat)(h0:n≠0)(h:n<2^40):Ieee.double.read (fb n)= .number false (n*2^(52-n.log2)) ((n.log2:Int)-52):=by
 have hl:=log2_lt n h0 h;have h1:=Nat.log2_self_le h0;have h2:= @Nat.lt_log2_self n;have hlo:2^52≤n*2^(52-n.log2):=by
  have:2^n.log2*2^(52-n.log2)≤n*2^(52-n.log2):=Nat.mul_le_mul_right _ h1;rw[←Nat.pow_add,show n.log2+(52-n.log2)=52 from by omega]at this
  exact this
 have hw:n*2^(52-n.log2)<2^53:=by
  have:n*2^(52-n.log2)<2^(n.log2+1)*2^(52-n.log2):=Nat.mul_lt_mul_of_pos_right h2 (Nat.two_pow_pos _);rw[←Nat.pow_add,show n.log2+1+(52-n.log2)=53 from by omega]at this
  exact this
 rw[fb_eq n h0 h];generalize n*2^(52-n.log2)=x at*;unfold Ieee.Format.read;have hs:Ieee.double.signWeight=2^63:=rfl;have hb:Ieee.double.binade=2^52:=rfl;have hi:Ieee.double.infRung=2047*2^52:=rfl;have hp:Ieee.double.leastPlace= -1074:=by decide
 rw[hs,hb,hi,hp];have r1:((n.log2+1022)*2^52+x)/2^63=0:=by omega
 have r2:((n.log2+1022)*2^52+x)%2^63=(n.log2+1022)*2^52+x:=by omega
 simp only[r1,r2];rw[if_neg (by omega),if_pos (by omega)]
 congr 1
 ·omega
 ·omega
theorem near_one:Ieee.double.read (fb 1)= .number false (2^52) (-52):=by
 have:=read_fb 1 (by decide) (by decide)
 have e:Nat.log2 1=0:=by decide
 rw[e]at this;simpa using this
theorem fb_succ (n:Nat)(h0:n≠0)(h:n<2^39):floatBits .add .f64 (fb n) (fb 1)=some (fb (n+1)):=by
 have hl:=log2_lt n h0 (by omega)
 show Ieee.double.add (fb n) (fb 1)=some (fb (n+1))
 unfold Ieee.Format.add;rw[read_fb n h0 (by omega),near_one]
 simp only[Ieee.Datum.sum,Option.map_some];have hbase:min ((n.log2:Int)-52) (-52)= -52:=by omega
 rw[hbase,show((n.log2:Int)-52- -52).toNat=n.log2 from by omega,show((-52:Int)- -52).toNat=0 from by omega]
 have htot:Ieee.signed false (n*2^(52-n.log2)) n.log2+Ieee.signed false (2^52) 0=(((n+1)*2^52:Nat):Int):=by
  simp only[Ieee.signed,Bool.false_eq_true,if_false,shl];rw[Nat.mul_assoc,←Nat.pow_add,show 52-n.log2+n.log2=52 from by omega]
  omega
 rw[htot];have hpos:(((n+1)*2^52:Nat):Int)≠0:=by omega
 rw[if_neg hpos];have hneg:decide ((((n+1)*2^52:Nat):Int)<0)=false:=decide_eq_false (by omega)
 rw[hneg,Int.natAbs_natCast];show some (Ieee.double.nearest false ((n+1)*2^52) (-52))=some (fb (n+1))
 rw[show(-52:Int)= -((52:Nat):Int)from rfl,near (n+1) 52 (by omega) (by omega),fb_eq (n+1) (by omega) (by omega)]
theorem sum_zero (n k:Nat)(m:Nat)(e:Nat)(h:m*2^e=n*2^k)(hn:n≠0)(i:Int)(hi:(i- -(k:Int)).toNat=e)(hm: -(k:Int)≤i):
 (Ieee.Datum.number false m i).sum (.number false 0 (-(k:Int)))=some (.number false (n*2^k) (-(k:Int))):=by
 simp only[Ieee.Datum.sum];have hbase:min i (-(k:Int))= -(k:Int):=by omega
 rw[hbase,hi];have htot:Ieee.signed false m e+Ieee.signed false 0 (-(k:Int)- -(k:Int)).toNat=((n*2^k:Nat):Int):=by
  simp only[Ieee.signed,Bool.false_eq_true,if_false,shl,h,Nat.zero_mul];simp
 rw[htot];have hp:=Nat.two_pow_pos k;have hpos:n*2^k≠0:=Nat.mul_ne_zero hn (by omega)
 generalize n*2^k=x at*;rw[if_neg (by omega),Int.natAbs_natCast,decide_eq_false (by omega)]
theorem fb_zero (n:Nat)(h0:n≠0)(h:n<2^40):floatBits .add .f64 (fb n) 0=some (fb n):=by
 have hl:=log2_lt n h0 h;show Ieee.double.add (fb n) 0=some (fb n)
 unfold Ieee.Format.add;obtain⟨k,hk⟩:∃k:Nat,k=1074:=⟨_,rfl⟩;have hz:Ieee.double.read 0= .number false 0 (-(k:Int)):=by rw[hk];decide
 rw[read_fb n h0 h,hz,sum_zero n k (n*2^(52-n.log2)) (n.log2+k-52) (by rw[Nat.mul_assoc,←Nat.pow_add];congr 2;omega) h0 _ (by omega) (by omega)]
 show some (Ieee.double.nearest false (n*2^k) (-(k:Int)))=some (fb n)
 rw[near n k h0 h,fb_eq n h0 h]
theorem fb_int (n:Nat)(h0:n≠0)(h:n<2^40):floatToIntVal .f64 (fb n) .i64=some (n:Int):=by
 have hl:=log2_lt n h0 h;have hr:(FloatKind.f64).decode (fb n)= .number false (n*2^(52-n.log2)) ((n.log2:Int)-52):=read_fb n h0 h;unfold floatToIntVal;rw[hr];have hne:n*2^(52-n.log2)≠0:=Nat.mul_ne_zero h0 (by have:=Nat.two_pow_pos (52-n.log2);omega)
 have hlog:(n*2^(52-n.log2)).log2=52:=by
  rw[Nat.log2_eq_iff hne];have h1:=Nat.log2_self_le h0;have h2:= @Nat.lt_log2_self n;constructor
  ·have:2^n.log2*2^(52-n.log2)≤n*2^(52-n.log2):=Nat.mul_le_mul_right _ h1
   rw[←Nat.pow_add,show n.log2+(52-n.log2)=52 from by omega]at this
   exact this
  ·have:n*2^(52-n.log2)<2^(n.log2+1)*2^(52-n.log2):=Nat.mul_lt_mul_of_pos_right h2 (Nat.two_pow_pos _)
   rw[←Nat.pow_add,show n.log2+1+(52-n.log2)=53 from by omega]at this
   exact this
 have hi:(Ieee.Datum.number false (n*2^(52-n.log2)) ((n.log2:Int)-52)).toInt .zero=some (n:Int):=by
  unfold Ieee.Datum.toInt Ieee.Datum.integral;simp only;rw[show((n.log2:Int)-52).toNat=0 from by omega,show(-((n.log2:Int)-52)).toNat=52-n.log2 from by omega]
  unfold Ieee.Toward.cut;simp only[shl,Nat.pow_zero,Nat.mul_one,Nat.one_mul,hlog];rw[show min (52-n.log2) (52+2)=52-n.log2 from by omega,Nat.mul_div_cancel _ (Nat.two_pow_pos _)]
  simp[Ieee.signed,shl]
 rw[hi];simp only;rw[if_pos];have hmin:IntKind.i64.min= -9223372036854775808:=by decide
 have hmax:IntKind.i64.max=9223372036854775807:=by decide
 rw[hmin,hmax];omega
end Go.Proofs.YtjopepfemhckjaaGreatDoor.Fl
end
section
namespace Go.Proofs.YtjopepfemhckjaaGreatDoor.WW
open Go.RowKit Go.Proofs.YtjopepfemhckjaaGreatDoor.WP Go.Proofs.YtjopepfemhckjaaGreatDoor.Fl Go.Proofs.YtjopepfemhckjaaGreatDoorW.PrintWords
theorem letter (c:Nat)(w:World)(hc:c<256):
 Calls Tryz.prog 62 #[.int .u8 c] w fun e w'=>e= .returned (.bool (isL c))∧w=w':=by
 by_cases h1:97≤c
 ·by_cases h2:c≤122
  ·have H:=Lib.hid (show isL c=true by simp[isL,h1,h2])
   rw[H.out];go_enter Tryz.func62,Tryz.ntmps62
   go_wp2;go_ret;exact⟨by first|rfl|(simp;done)|(simp;omega),rfl⟩
  ·have H:=Lib.hid (show isL c=false by simp[isL,h1,h2])
   rw[H.out];go_enter Tryz.func62,Tryz.ntmps62
   go_wp2;go_ret;exact⟨by first|rfl|(simp;done)|(simp;omega),rfl⟩
 ·have H:=Lib.hid (show isL c=false by simp[isL,h1])
  rw[H.out];go_enter Tryz.func62,Tryz.ntmps62
  go_wp2;go_ret;exact⟨by first|rfl|(simp;done)|(simp;omega),rfl⟩
theorem digit (c:Nat)(w:World)(hc:c<256):
 Calls Tryz.prog 64 #[.int .u8 c] w fun e w'=>e= .returned (.bool (isD c))∧w=w':=by
 by_cases h1:48≤c
 ·by_cases h2:c≤57
  ·have H:=Lib.hid (show isD c=true by simp[isD,h1,h2])
   rw[H.out];go_enter Tryz.func64,Tryz.ntmps64
   go_wp2;go_ret;exact⟨by first|rfl|(simp;done)|(simp;omega),rfl⟩
  ·have H:=Lib.hid (show isD c=false by simp[isD,h1,h2])
   rw[H.out];go_enter Tryz.func64,Tryz.ntmps64
   go_wp2;go_ret;exact⟨by first|rfl|(simp;done)|(simp;omega),rfl⟩
 ·have H:=Lib.hid (show isD c=false by simp[isD,h1])
  rw[H.out];go_enter Tryz.func64,Tryz.ntmps64
  go_wp2;go_ret;exact⟨by first|rfl|(simp;done)|(simp;omega),rfl⟩
theorem blank (c:Nat)(w:World)(hc:c<256):
 Calls Tryz.prog 35 #[.int .u8 c] w fun e w'=>e= .returned (.bool (isB c))∧w=w':=by
 by_cases h1:c=32
 ·have H:=Lib.hid (show isB c=true by simp[isB,h1])
  have t1:((c:Int)==32)=true:=by rw[h1];rfl
  clear h1;rw[H.out];go_enter Tryz.func35,Tryz.ntmps35
  go_wp2;go_ret;exact⟨rfl,rfl⟩
 ·have t1:((c:Int)==32)=false:=by rw[beq_eq_false_iff_ne];omega
  by_cases h2:c=10
  ·have H:=Lib.hid (show isB c=true by simp[isB,h2])
   have t2:((c:Int)==10)=true:=by rw[h2];rfl
   clear h1 h2;rw[H.out];go_enter Tryz.func35,Tryz.ntmps35
   go_wp2;go_ret;exact⟨rfl,rfl⟩
  ·have H:=Lib.hid (show isB c=false by simp[isB,h1,h2])
   have t2:((c:Int)==10)=false:=by rw[beq_eq_false_iff_ne];omega
   clear h1 h2;rw[H.out];go_enter Tryz.func35,Tryz.ntmps35
   go_wp2;go_ret;exact⟨rfl,rfl⟩
theorem namely (c:Nat)(w:World)(hc:c<256):
 Calls Tryz.prog 63 #[.int .u8 c] w fun e w'=>e= .returned (.bool (isLD c))∧w=w':=by
 cases hl:isL c
 ·have H:=Lib.hid (show isLD c=isD c by simp[isLD,hl])
  have HL:=Lib.hid hl;clear hl;rw[H.out];go_enter Tryz.func63,Tryz.ntmps63
  go_wp2_with fail;refine(letter c w hc).mono ?_;rw[HL.out];rintro e w1 ⟨rfl,rfl⟩;go_wp2_with fail;refine(digit c w hc).mono ?_;rintro e w1 ⟨rfl,rfl⟩;go_wp2;go_ret;exact⟨rfl,rfl⟩
 ·have H:=Lib.hid (show isLD c=true by simp[isLD,hl])
  have HL:=Lib.hid hl;clear hl;rw[H.out];go_enter Tryz.func63,Tryz.ntmps63
  go_wp2_with fail;refine(letter c w hc).mono ?_;rw[HL.out];rintro e w1 ⟨rfl,rfl⟩;go_wp2;go_ret;exact⟨rfl,rfl⟩
theorem one_bits:fb 1=4607182418800017408:=by decide+kernel
theorem at_place (l c:Nat)(w:World)(h1:l≠0)(h2:l<1099511627776)(h3:c≠0)(h4:c<1099511627776):
 Calls Tryz.prog 36 #[.complex .f64 (fb l) (fb c)] w fun e w'=>e= .returned (.tuple #[.int .i64 l,.int .i64 c])∧w=w':=by
 have k1:=fun W=>run_convert_float_int (P:=Tryz.prog) W 98 3 .f64 .i64 (fb l) l (by kernel_rfl) Tryz.underlying3 (fb_int l h1 h2)
 have k2:=fun W=>run_convert_float_int (P:=Tryz.prog) W 98 3 .f64 .i64 (fb c) c (by kernel_rfl) Tryz.underlying3 (fb_int c h3 h4)
 go_enter Tryz.func36,Tryz.ntmps36
 go_wp2;go_ret2
 exact⟨rfl,rfl⟩
theorem behind (l c b:Nat)(w:World)(hb:b<256)(h1:l≠0)(h2:l<549755813888)(h3:c≠0)(h4:c<549755813888):
 Calls Tryz.prog 60 #[.complex .f64 (fb l) (fb c),.int .u8 b] w fun e w'=>e= .returned (if b=10 then .complex .f64 (fb (l+1)) (fb 1)else .complex .f64 (fb l) (fb (c+1)))∧w=w':=by
 by_cases hb10:b=10
 ·rw[if_pos hb10]
  have t1:((b:Int)==10)=true:=by rw[hb10];rfl
  clear hb10;have f1:=fb_succ l h1 h2;rw[one_bits]at f1;have k1:=fun W=>run_float_arith (P:=Tryz.prog) W .add 98 .f64 (fb l) 4607182418800017408 (fb (l+1)) f1
  rw[one_bits];go_enter Tryz.func60,Tryz.ntmps60
  go_wp2;go_ret;exact⟨rfl,rfl⟩
 ·rw[if_neg hb10]
  have t1:((b:Int)==10)=false:=by rw[beq_eq_false_iff_ne];omega
  clear hb10;have f1:=fb_succ c h3 h4;rw[one_bits]at f1;have f0:=fb_zero l h1 (by omega)
  have hs:cSumBits .add .f64 (fb l) (fb c) 0 4607182418800017408=some (fb l,fb (c+1)):=by
   unfold cSumBits;rw[f0,f1];rfl
  have k1:=fun W=>run_complex_sum (P:=Tryz.prog) W .add (Or.inl rfl) 68 .f64 (fb l) (fb c) 0 4607182418800017408 _ _ hs
  go_enter Tryz.func60,Tryz.ntmps60
  go_wp2;go_ret;exact⟨rfl,rfl⟩
def Scan (b:Nat)(s:ByteArray)(p:Nat×Nat)(w:World):Prop:=w.heap[b]? =some (.cells #[.string s,.complex .f64 (fb p.1) (fb p.2)] 70 (0,0))
theorem Scan.s {b:Nat}{s:ByteArray}{p:Nat×Nat}{w:World}(h:Scan b s p w):w.cell? ⟨b,0,none⟩=some (.string s):=j6 h 0
theorem Scan.at {b:Nat}{s:ByteArray}{p:Nat×Nat}{w:World}(h:Scan b s p w):w.cell? ⟨b,1,none⟩=some (.complex .f64 (fb p.1) (fb p.2)):=j6 h 1
theorem Scan.free {b:Nat}{s:ByteArray}{p:Nat×Nat}{w:World}(h:Scan b s p w)(j:Nat):w.frozen? ⟨b,j,none⟩=false:=Lib.frozen_of_heap h j
theorem peek (b:Nat)(s:ByteArray)(p:Nat×Nat)(n:Int)(w:World)(h:Scan b s p w)(hs:s.size≤1000000000)(h0:0≤n)(h1:n≤1000000000):
 Calls Tryz.prog 61 #[.pointer (some ⟨b,0,none⟩),.int .i64 n] w fun e w'=>e= .returned (.int .u8 (zx s.data.toList n.toNat))∧w=w':=by
 have hc:=h.s;obtain⟨n,rfl⟩:=Int.eq_ofNat_of_zero_le h0;rw[xa];by_cases hlt:n<s.size
 ·have H:Hid (zx s.data.toList n=s[n].toNat):=Lib.hid (by
   unfold zx;rw[List.getElem?_eq_getElem (by simpa using hlt)]
   rfl)
  rw[H.out];go_enter Tryz.func61,Tryz.ntmps61
  go_wp2;go_ret;exact⟨rfl,rfl⟩
 ·have H:Hid (zx s.data.toList n=0):=Lib.hid (by
   unfold zx;rw[List.getElem?_eq_none (by simpa using Nat.le_of_not_lt hlt)]
   rfl)
  rw[H.out];go_enter Tryz.func61,Tryz.ntmps61
  go_wp2;go_ret;exact⟨rfl,rfl⟩
theorem runL_step (p:Nat→Bool)(s:ByteArray)(n:Nat)(h:n<s.size):
 runL p (s.data.toList.drop n)=if p (s[n].toNat)then runL p (s.data.toList.drop (n+1))+1 else 0:=by
 rw[List.drop_eq_getElem_cons (by simpa using h)]
 rfl
theorem run (g:FuncId)(p:Nat→Bool)(hg:∀(c:Nat) (w:World),c<256→Calls Tryz.prog g #[.int .u8 c] w fun e w'=>e= .returned (.bool (p c))∧w=w')
 (hf:∀(args:Array Value) (w:World),(callFunc g args).run Tryz.prog w= .ok (.enter g args) w)
 (b:Nat)(s:ByteArray)(pl:Nat×Nat)(m:Int)(w:World)(h:Scan b s pl w)(hs:s.size≤1000000000)(h0:0≤m)(h1:m≤s.size):
 Calls Tryz.prog 34 #[.pointer (some ⟨b,0,none⟩),.int .i64 m,.func (.func g) #[] #[]] w fun e w'=>e= .returned (.int .i64 (runL p (s.data.toList.drop m.toNat)))∧w=w':=by
 have hc:=h.s;clear h;obtain⟨m,rfl⟩:=Int.eq_ofNat_of_zero_le h0;rw[xa];have HG:=Lib.hid hg;clear hg;go_enter Tryz.func34,Tryz.ntmps34
 go_wp2;go_loopg [7] s.size (fun q v w'=>∃n:Nat,v= .int .i64 n∧zc (n≤s.size)∧zc (m≤n)∧zc (s.size≤q+n)∧zc (runL p (s.data.toList.drop m)=n-m+runL p (s.data.toList.drop n))∧zc (w=w'))
 case atStart=>exact⟨m,rfl,⟨by omega⟩,⟨xc _⟩,⟨by omega⟩,⟨by omega⟩,⟨rfl⟩⟩
 case round=>
  obtain⟨n,rfl,HN,HM,HQ,HR,HW⟩:=hrel;obtain rfl:=HW.out;have hn:=HN.out;have hm:=HM.out;by_cases hlt:n<s.size
  ·have hst:=runL_step p s n hlt
   have hb:=s[n].toNat_lt;have HP:=Lib.hid (HG.out s[n].toNat w (by omega))
   cases hp:p s[n].toNat
   ·rw[hp]at hst HP
    have HE:zc (runL p (s.data.toList.drop m)=n-m):=⟨by rw[HR.out,hst];rfl⟩
    clear hst hp;go_wp2_with fail;refine HP.out.mono ?_;rintro e w1 ⟨rfl,rfl⟩;go_wp2;go_ret;rw[HE.out];exact⟨by congr 1;simp;omega,rfl⟩
   ·rw[hp]at hst HP
    have HE:zc (runL p (s.data.toList.drop m)=n+1-m+runL p (s.data.toList.drop (n+1))):=⟨by rw[HR.out,hst,if_pos rfl];omega⟩
    have HQ2:zc (s.size≤gk-1+(n+1)):=⟨by have:=HQ.out;omega⟩
    have hq:gk-1<gk:=by have:=HQ.out;omega
    clear hst hp HR HQ;go_wp2_with fail;refine HP.out.mono ?_;rintro e w1 ⟨rfl,rfl⟩;go_wp2;go_roundg (gk-1)
    case measure=>exact hq
    case rel=>exact⟨n+1,by go_num,⟨by omega⟩,⟨by omega⟩,HQ2,HE,⟨rfl⟩⟩
  ·have HE:zc (runL p (s.data.toList.drop m)=n-m):=⟨by
    rw[HR.out,List.drop_eq_nil_of_le (by simp;omega)];rfl⟩
   go_wp2;go_ret;rw[HE.out];exact⟨by congr 1;simp;omega,rfl⟩
theorem advP_take (p:Nat×Nat)(s:ByteArray)(j:Nat)(h:j<s.size):advP p (s.data.toList.take (j+1))=qA (advP p (s.data.toList.take j)) s[j]:=by
 rw[List.take_succ_eq_append_getElem (by simpa using h)]
 unfold advP;rw[List.foldl_append];rfl
theorem stepP_le (p:Nat×Nat)(c:UInt8):(qA p c).1≤p.1+1∧(qA p c).2≤p.2+1∧p.1≤(qA p c).1∧1≤(qA p c).2:=by
 unfold qA;split<;>simp<;>omega
theorem advP_le (p:Nat×Nat)(l:List UInt8)(h:1≤p.2):(advP p l).1≤p.1+l.length∧(advP p l).2≤p.2+l.length∧p.1≤(advP p l).1∧1≤(advP p l).2:=by
 induction l generalizing p with
 |nil=>exact⟨by simp[advP],by simp[advP],by simp[advP],h⟩
 |cons c l ih=>
  have h1:=stepP_le p c;have h2:=ih (qA p c) h1.2.2.2;show(advP (qA p c) l).1≤_∧(advP (qA p c) l).2≤_∧_≤(advP (qA p c) l).1∧_
  rw[List.length_cons];exact⟨by omega,by omega,by omega,h2.2.2.2⟩
theorem grown_refl (w:World)(r:Option Nat):w.grownBy w r:=⟨rfl,rfl,rfl,xc _,fun _ _ _=>rfl⟩
theorem grown_drew {w w1:World}{r:Option Nat}(h:w.grownBy w1 r):w.grownBy w1.drew r:=⟨h.os,h.tape,h.output,h.size,h.block⟩
theorem grown_set {w w1:World}{b j:Nat}(h:w.grownBy w1 (some b))(v:Value):w.grownBy (w1.setCell ⟨b,j,none⟩ v) (some b):=
 ⟨h.os,h.tape,h.output,by simpa[World.setCell]using h.size,fun k hk hr=>(Below.heap_setCell w1 ⟨b,j,none⟩ v k (fun e=>hr (by rw[e]))).trans (h.block k hk hr)⟩
theorem Scan.set_at {b:Nat}{s:ByteArray}{p q:Nat×Nat}{w:World}(h:Scan b s p w):Scan b s q (w.setCell ⟨b,1,none⟩ (.complex .f64 (fb q.1) (fb q.2))):=by
 unfold Scan at h ⊢;simp[World.setCell,Array.getElem?_modify,h]
theorem Scan.set_s {b:Nat}{s t:ByteArray}{p:Nat×Nat}{w:World}(h:Scan b s p w):Scan b t p (w.setCell ⟨b,0,none⟩ (.string t)):=by
 unfold Scan at h ⊢;simp[World.setCell,Array.getElem?_modify,h]
theorem Scan.store {b:Nat}{s:ByteArray}{p:Nat×Nat}{w:World}(h:Scan b s p w)(x y:Nat):(Go.store ⟨b,1,none⟩ (.complex .f64 x y)).run Tryz.prog w= .ok () (w.setCell ⟨b,1,none⟩ (.complex .f64 x y)):=by
 rw[run_store _ _ _ _ _ rfl,h.at];simp[h.free]
theorem Scan.drew {b:Nat}{s:ByteArray}{p:Nat×Nat}{w:World}(h:Scan b s p w):Scan b s p w.drew:=h
theorem behind' (p:Nat×Nat)(b:UInt8)(w:World)(h1:1≤p.1)(h2:p.1≤500000000000)(h3:1≤p.2)(h4:p.2≤500000000000):
 Calls Tryz.prog 60 #[.complex .f64 (fb p.1) (fb p.2),.int .u8 b.toNat] w fun e w'=>e= .returned (.complex .f64 (fb (qA p b).1) (fb (qA p b).2))∧w=w':=by
 refine(behind p.1 p.2 b.toNat w b.toNat_lt (by omega) (by omega) (by omega) (by omega)).mono ?_
 intro e w' h;refine⟨h.1.trans ?_,h.2⟩;unfold qA;split<;>rfl
theorem take (b:Nat)(s:ByteArray)(p:Nat×Nat)(n:Int)(w:World)(h:Scan b s p w)(hs:s.size≤1000000000)(h0:0≤n)(h1:n≤s.size)(hp1:1≤p.1)(hp2:1≤p.2)(hp3:p.1+s.size≤500000000000)(hp4:p.2+s.size≤500000000000):
 Calls Tryz.prog 33 #[.pointer (some ⟨b,0,none⟩),.int .i64 n] w fun e w'=>e= .returned (.string (s.extract 0 n.toNat))∧Scan b (s.extract n.toNat s.size) (advP p (s.data.toList.take n.toNat)) w'∧w.grownBy w' (some b):=by
 obtain⟨n,rfl⟩:=Int.eq_ofNat_of_zero_le h0;rw[xa];have hc:=h.s;have HS:=zc.mk h;clear h;have hx:(s.extract 0 n).size=n:=by simp;omega
 have hxi:∀(j:Nat) (h:j<(s.extract 0 n).size) (h':j<s.size),(s.extract 0 n)[j]=s[j]:=by
  intro j h h';rw[ByteArray.getElem_extract];simp
 obtain⟨t,ht⟩:∃t,t=s.extract 0 n:=⟨_,rfl⟩;have HX:zc (∀(j:Nat) (h:j<t.size) (h':j<s.size),t[j]=s[j]):=⟨by subst ht;exact hxi⟩
 rw[←ht]at hx ⊢;have HT:zc (s.extract 0 n=t):=⟨ht.symm⟩;clear ht hxi;go_enter Tryz.func33,Tryz.ntmps33
 go_wp2;rw[HT.out];go_loopg [14] n (fun g v w'=>∃j:Nat,v= .int .i64 j∧zc (j≤n)∧zc (n≤g+j)∧zc (Scan b s (advP p (s.data.toList.take j)) w')∧zc (w.grownBy w' (some b)))
 case atStart=>exact⟨0,rfl,⟨Nat.zero_le _⟩,⟨by omega⟩,⟨HS.out⟩,⟨grown_refl _ _⟩⟩
 case round=>
  clear HS hc;obtain⟨j,rfl,HJ,HG,HS,HW⟩:=hrel;have hj:=HJ.out;by_cases hlt:j<n
  ·have hle:=advP_le p (s.data.toList.take j) hp2
   have hll:(s.data.toList.take j).length≤s.size:=by simp;omega
   have hn1:n≤gk-1+(j+1):=by have:=HG.out;omega
   have hn2:gk-1<gk:=by have:=HG.out;omega
   have HN:=Lib.hid (And.intro hn1 hn2);clear hn1 hn2;have hy:=HX.out j (by omega) (by omega)
   have HR:=Lib.hid (advP_take p s j (by omega))
   clear HX HG;generalize hc':s[j]=c at hy HR;clear hc';obtain⟨q,hq⟩:∃q,q=advP p (s.data.toList.take j):=⟨_,rfl⟩;rw[←hq]at hle HR HS;clear hq;have HB:=Lib.hid (fun W=>behind' q c W (by omega) (by omega) (by omega) (by omega))
   have hat:=HS.out.at;have hf1:=HS.out.free 1;have hst:=HS.out.drew.store;go_wp2_with fail;have hat2:=HS.out.drew.at;have hf2:=HS.out.drew.free 1;go_region_with (first|(go_at_call 60;refine(HB.out _).mono ?_;intro e w1 hh;obtain⟨rfl,rfl⟩:=hh))
   all_goals
    go_wp2;go_roundg (gk-1)
    case measure=>exact HN.out.2
    case rel=>exact⟨j+1,by go_num,⟨by omega⟩,⟨HN.out.1⟩,⟨by rw[HR.out];exact HS.out.drew.set_at⟩,⟨grown_set (grown_drew HW.out) _⟩⟩
  ·have e:j=n:=by omega
   subst e;have hc:=HS.out.s;have hf0:=HS.out.free 0;go_wp2;go_ret;exact⟨rfl,HS.out.set_s,grown_set HW.out _⟩
end Go.Proofs.YtjopepfemhckjaaGreatDoor.WW
end
