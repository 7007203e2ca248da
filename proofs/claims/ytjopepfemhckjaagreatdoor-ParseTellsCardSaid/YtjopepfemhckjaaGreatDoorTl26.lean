/-
  Part 26 of the proof of parseTells_holds: texts of this seat, put together.
-/
import Derived.Test.YtjopepfemhckjaaGreatDoorTl25
set_option linter.unusedVariables false
set_option linter.unusedSimpArgs false
set_option maxHeartbeats 16000000
set_option maxRecDepth 100000
section
namespace Go.Proofs.YtjopepfemhckjaaGreatDoor.NW
open Go.Proofs Go.RowKit Go.Shelf Go.Proofs.YtjopepfemhckjaaGreatDoor.PN Go.Proofs.YtjopepfemhckjaaGreatDoorW.PrintWords Go.Proofs.YtjopepfemhckjaaGreatDoor.PParseTells
def fewP (t:ByteArray):Bool:=decide (t.size≤60)
def qI (t:ByteArray):Bool:=fewP t&& !(t.toList==[48])
def jn (neg:Bool)(a b:ByteArray):Nd:=
 if(isNatB a.data.toList&&isNatB b.data.toList)=true then .num (rnum (if neg=true then-(dv a.data.toList:Int)else(dv a.data.toList:Int)) (dv b.data.toList)) (rden (if neg=true then-(dv a.data.toList:Int)else(dv a.data.toList:Int)) (dv b.data.toList))
 else .raw ⟨0,⟨⟨#[]⟩,⟨#[]⟩⟩,⟨#[]⟩,0,0⟩
def PS.num (s:PS)(last:S75):PS×Nd:=
 let r:=(s.must ⟨#[40]⟩ last).take 2 (fun t=>t.toList==(⟨#[45]⟩:xf).toList)
 let n1:=r.1.nat fewP last
 let n2:=(n1.1.must ⟨#[44]⟩ last).nat qI last
 (n2.1.must ⟨#[41]⟩ last,jn r.2.2 n1.2 n2.2)
theorem nat_res (s:PS)(p:ByteArray→Bool)(last:S75):(s.nat p last).2=⟨#[]⟩∨(isNatB (s.nat p last).2.data.toList=true∧p (s.nat p last).2=true):=by
 unfold PS.nat;split
 ·rename_i ho
  obtain⟨t,r,h1,h2,h3,h4⟩:=PS.has_cons ho;rw[Bool.and_eq_true]at h4;right
  show isNatB (hdT s.toks).data.toList=true∧p (hdT s.toks)=true
  rw[h1];exact h4
 ·exact .inl rfl
theorem enters_n1:∀(args:Array Value) (w:World),(callFunc 114 args).run Tryz.prog w= .ok (.enter 114 args) w:=Go.Proofs.enters_of Tryz.func114 (by kernel_rfl) rfl
theorem enters_n2:∀(args:Array Value) (w:World),(callFunc 116 args).run Tryz.prog w= .ok (.enter 116 args) w:=Go.Proofs.enters_of Tryz.func116 (by kernel_rfl) rfl
theorem num1_t (t:ByteArray)(w:World):Calls Tryz.prog 114 #[.string t] w fun ex w'=>ex= .returned (.bool (fewP t))∧Below w.heap.size w w':=by
 have hd:decide ((t.size:Int)≤60)=fewP t:=by
  unfold fewP;exact decide_eq_decide.2 (by omega)
 go_enter Tryz.func114,Tryz.ntmps114
 go_wp2_with fail;go_ret;exact⟨by first|rfl|(rw[←hd];done)|(simp[←hd];done),xb _ _⟩
theorem num2_t (t:ByteArray)(b:Nat)(w:World)(hc:w.cell? ⟨b,0,none⟩=some (.func (.func 114) #[] #[])):Calls Tryz.prog 116 #[.string t,.pointer (some ⟨b,0,none⟩)] w fun ex w'=>ex= .returned (.bool (qI t))∧Below w.heap.size w w':=by
 have H1:=fun W=>Lib.hid (num1_t t W)
 unfold qI;cases hf:fewP t with
 |true=>
  rw[hf]at H1;cases hz:(t.toList==([48]:List UInt8))with
  |true=>
   have hz2:t.toList=([48]:List UInt8):=by simpa using hz
   have hz3:(t.toList !=([48]:List UInt8))=false:=by rw[bne,hz];rfl
   clear hf;go_enter Tryz.func116,Tryz.ntmps116
   go_wp2_with fail;refine(H1 _).out.mono ?_;rintro ex w1 ⟨rfl,hb1⟩;clear hc H1;go_wp2_with fail;go_ret;exact⟨by first|rfl|(simp;done)|(simp[*];done),hb1⟩
  |false=>
   have hz2:¬t.toList=([48]:List UInt8):=by simpa using hz
   have hz3:(t.toList !=([48]:List UInt8))=true:=by rw[bne,hz];rfl
   clear hf;go_enter Tryz.func116,Tryz.ntmps116
   go_wp2_with fail;refine(H1 _).out.mono ?_;rintro ex w1 ⟨rfl,hb1⟩;clear hc H1;go_wp2_with fail;go_ret;exact⟨by first|rfl|(simp;done)|(simp[*];done),hb1⟩
 |false=>
  rw[hf]at H1;clear hf;go_enter Tryz.func116,Tryz.ntmps116
  go_wp2_with fail;refine(H1 _).out.mono ?_;rintro ex w1 ⟨rfl,hb1⟩;clear hc H1;go_wp2_with fail;go_ret;exact⟨by first|rfl|(simp;done)|(simp[*];done),hb1⟩
theorem makeBad_t (k k2:Nat)(s t:ByteArray)(b1 b2:Bool)(h1:whole_May.f k s=some b1)(h2:whole_May.f k2 t=some b2)(hb:b1=false∨b2=false)(w:World):
 Calls Tryz.prog 72 #[.string s,.string t] w fun e w'=>e= .returned (.tuple #[.agg #[.string ⟨#[]⟩,.string ⟨#[]⟩],.bool false])∧Below w.heap.size w w':=by
 have H1:=fun W=>Lib.hid (whole_May.calls k s b1 W h1)
 have H2:=fun W=>Lib.hid (whole_May.calls k2 t b2 W h2)
 have k0:=j7 w (.cells #[.string ⟨#[]⟩,.string ⟨#[]⟩] 35);have B0:Below w.heap.size w (w.alloc (.cells #[.string ⟨#[]⟩,.string ⟨#[]⟩] 35)):=(xb _ w).alloc (xc _) _;have HB:=zc.mk hb;clear h1 h2 hb;go_enter Tryz.func72,Tryz.ntmps72
 go_wp2_with fail;generalize w.alloc (.cells #[.string ⟨#[]⟩,.string ⟨#[]⟩] 35)=w0 at*;refine(H1 _).out.mono ?_;rintro e w1 ⟨rfl,hb1⟩;have k1:=(hb1.block _ (xe k0).1).trans k0;have B1:=B0.trans (hb1.mono B0.size);clear k0 B0 hb1;cases b1 with
 |false=>
  have c1:=j6 k1 0;have c2:=j6 k1 1;have f1:=Lib.frozen_of_heap k1 0;have f2:=Lib.frozen_of_heap k1 1;clear H1 H2 HB;go_wp2_with fail;obtain⟨q1,q2⟩:=put2 k1 (.string ⟨#[]⟩) (.string ⟨#[]⟩);refine bodyPost_ret (v:= .tuple #[.agg #[.string ⟨#[]⟩,.string ⟨#[]⟩],.bool false]) ?_ rfl ⟨rfl,(B1.setCell (by simp) _).setCell (by simp) _⟩
  simp[results,Tryz.f72,go_sem,q1,q2]
 |true=>
  have hb2:b2=false:=by rcases HB.out with h|h;cases h;exact h
  subst hb2;clear HB;go_wp2_with fail;refine(H2 _).out.mono ?_;rintro e w2 ⟨rfl,hb2⟩;have k2:=(hb2.block _ (xe k1).1).trans k1;have B2:=B1.trans (hb2.mono B1.size);clear k1 B1 hb2;have c1:=j6 k2 0;have c2:=j6 k2 1;have f1:=Lib.frozen_of_heap k2 0;have f2:=Lib.frozen_of_heap k2 1;clear H1 H2;go_wp2_with fail;obtain⟨q1,q2⟩:=put2 k2 (.string ⟨#[]⟩) (.string ⟨#[]⟩);refine bodyPost_ret (v:= .tuple #[.agg #[.string ⟨#[]⟩,.string ⟨#[]⟩],.bool false]) ?_ rfl ⟨rfl,(B2.setCell (by simp) _).setCell (by simp) _⟩
  simp[results,Tryz.f72,go_sem,q1,q2]
theorem heap_put1 {W:World}{b T:Nat}{x:Value}(h:W.heap[b]? =some (.cells #[x] T (0,0)))(y:Value):(W.setCell ⟨b,0,none⟩ y).heap[b]? =some (.cells #[y] T (0,0)):=by
 simp[World.setCell,Array.getElem?_modify,h]
theorem nat_of {a:ByteArray}(h:isNatB a.data.toList=true):a=natS (dv a.data.toList):=IsN.eq ⟨(jl _).1 h,rfl⟩
theorem wmay_law (z:Int)(hs:(intS z).size≤1000000):whole_May.f 1000010 (intS z)=some true:=by unfold whole_May.f;rw[qV z hs];rfl
theorem emp_app (a:ByteArray):(⟨#[]⟩:xf)++a=a:=by
 apply z7;rw[ByteArray.data_append];show((#[]:Array UInt8)++a.data).toList=_
 simp
def sgnN (neg:Bool)(a:ByteArray):ByteArray:=if(a.toList==([48]:List UInt8))=true then⟨#[]⟩else if neg=true then⟨#[45]⟩else⟨#[]⟩
theorem sgn_int (neg:Bool)(a:ByteArray)(h:isNatB a.data.toList=true)(hs:a.size≤60):sgnN neg a++a=intS (if neg=true then-(dv a.data.toList:Int)else(dv a.data.toList:Int))∧(intS (if neg=true then-(dv a.data.toList:Int)else(dv a.data.toList:Int))).size≤100:=by
 have hn:=nat_of h;obtain⟨n,hd⟩:∃n,dv a.data.toList=n:=⟨_,rfl⟩;rw[hd]at hn ⊢;have hsz:(natS n).size≤60:=by rw[←hn];exact hs
 unfold sgnN;by_cases hz:n=0
 ·have h48:(a.toList==([48]:List UInt8))=true:=by
   rw[hn,hz];kernel_rfl
  rw[if_pos h48,emp_app,hn,hz];cases neg<;>exact⟨by kernel_rfl,by decide+kernel⟩
 ·have h48:¬(a.toList==([48]:List UInt8))=true:=by
   intro e;rw[hn]at e;exact one_ne_zero n hz (by simpa using e)
  rw[if_neg h48];cases neg with
  |true=>
   rw[if_pos rfl,if_pos rfl];have e:intS (-(n:Int))=(⟨#[45]⟩:xf)++natS n:=by
    unfold intS;rw[if_pos (by omega),Int.natAbs_neg,Int.natAbs_natCast]
   rw[e,hn];refine⟨rfl,?_⟩;rw[j8];have:(⟨#[45]⟩:xf).size=1:=rfl;omega
  |false=>
   rw[if_neg (by decide),if_neg (by decide),emp_app,zo]
   exact⟨hn,by omega⟩
theorem make_num (neg:Bool)(a b:ByteArray)(ha:a=⟨#[]⟩∨(isNatB a.data.toList=true∧fewP a=true))(hb:b=⟨#[]⟩∨(isNatB b.data.toList=true∧qI b=true)):
 ∃xn xd ok,nd37 (jn neg a b)=⟨0,⟨xn,xd⟩,⟨#[]⟩,0,0⟩∧∀W,Glob W→Calls Tryz.prog 72 #[.string (sgnN neg a++a),.string b] W fun e w'=>e= .returned (.tuple #[.agg #[.string xn,.string xd],.bool ok])∧Below W.heap.size W w':=by
 have hbm:∃k b2,whole_May.f k b=some b2∧(b=⟨#[]⟩→b2=false):=by
  rcases hb with rfl|⟨h1,h2⟩
  ·exact⟨60,false,by kernel_rfl,fun _=>rfl⟩
  ·have h3:b.size≤60:=by
    unfold qI fewP at h2;simp only[Bool.and_eq_true,decide_eq_true_eq]at h2;exact h2.1
   have h4:=nat_of h1;refine⟨1000010,true,?_,fun e=>by rw[e]at h1;exact absurd h1 (by decide)⟩
   have h5:=wmay_law (dv b.data.toList:Int) (by rw[zo,←h4];omega)
   rw[zo,←h4]at h5;exact h5
 obtain⟨kb,b2,hk2,hb2⟩:=hbm;rcases ha with rfl|⟨h1,h2⟩
 ·refine⟨⟨#[]⟩,⟨#[]⟩,false,?_,fun W hW=>?_⟩
  ·unfold jn
   rw[if_neg (by rw[Bool.and_eq_true];exact fun h=>absurd h.1 (by decide))]
   rfl
  ·have h1:whole_May.f 60 (sgnN neg ⟨#[]⟩++⟨#[]⟩)=some false:=by cases neg<;>kernel_rfl
   exact makeBad_t 60 kb _ b false b2 h1 hk2 (.inl rfl) W
 ·have hs:a.size≤60:=by
   unfold fewP at h2;simpa using h2
  obtain⟨e1,e2⟩:=sgn_int neg a h1 hs;have h3:=wmay_law _ (Nat.le_trans e2 (by omega))
  rcases hb with rfl|⟨g1,g2⟩
  ·refine⟨⟨#[]⟩,⟨#[]⟩,false,?_,fun W hW=>makeBad_t 1000010 kb _ _ true b2 (by rw[e1];exact h3) hk2 (.inr (hb2 rfl)) W⟩
   unfold jn;rw[if_neg (by rw[Bool.and_eq_true];exact fun h=>absurd h.2 (by decide))]
   rfl
  ·have hbs:b.size≤60∧¬b.toList=[48]:=by
    unfold qI fewP at g2;simpa using g2
   have h4:=nat_of g1;have h0:0<dv b.data.toList:=by
    apply Nat.pos_of_ne_zero;intro e;rw[e]at h4;apply hbs.2;rw[h4];kernel_rfl
   refine⟨intS (rnum (if neg=true then-(dv a.data.toList:Int)else(dv a.data.toList:Int)) (dv b.data.toList)),natS (rden (if neg=true then-(dv a.data.toList:Int)else(dv a.data.toList:Int)) (dv b.data.toList)),true,?_,fun W hW=>?_⟩
   ·unfold jn
    rw[if_pos (by rw[h1,g1];rfl)]
    rfl
   ·rw[e1]
    have h5:=make_at (dv b.data.toList+1) (jf _) (if neg=true then-(dv a.data.toList:Int)else(dv a.data.toList:Int)) (dv b.data.toList) (by omega) (by rw[←h4];omega) h0 (by omega) W hW
    rw[←h4]at h5;exact h5
theorem num_t {w0:World}{g:Nat}{wv:Value}{wait:List S82}{ov:Value}{out:List Nd}{dp:Int}{s:PS}{w:World}(h:PBS w0 g wv wait ov out dp s w)(hg:Glob2 w0)(hsz:SzOK s)(last:S75)(hl:qz last)(hout:out.length≤100000):
 Calls Tryz.prog 80 #[.pointer (some ⟨g,0,none⟩),tkV last] w fun ex w'=>ex= .returned (.tuple #[])∧(∃ov',PBS w0 g wv wait ov' (out++[(s.num last).2]) dp (s.num last).1 w')∧Fr w w':=by
 have hb0:=(xb w.heap.size w).alloc (xc _) (.cells #[.int .i64 last.f0,.string last.f1,.int .i64 last.f2,.int .i64 last.f3] 75);have HQ:=zc.mk (h.step hb0);have K0:=zc.mk (j7 w (.cells #[.int .i64 last.f0,.string last.f1,.int .i64 last.f2,.int .i64 last.f3] 75));have HFR:=zc.mk (Fr.below hb0);have HO:=zc.mk hout;have HG:=zc.mk hg;have HM1:=jb HQ.out ⟨#[40]⟩ last hl;have HZ1:=zc.mk (hsz.must ⟨#[40]⟩ last);unfold tkV at*;have HM1:=Lib.hid HM1;obtain⟨l0,l1,l2,l3⟩:=qr K0.out;obtain⟨P,hP⟩:∃P,s.num last=P:=⟨_,rfl⟩;rw[hP];unfold PS.num at hP;simp only at hP;have HP:=zc.mk hP;clear h hb0 hg hsz hout hP;generalize s.must ⟨#[40]⟩ last=s1 at*;go_enter Tryz.func80,Tryz.ntmps80
 go_wp2_with fail;generalize w.alloc (.cells #[.int .i64 last.f0,.string last.f1,.int .i64 last.f2,.int .i64 last.f3] 75)=wa at*;refine HM1.out.mono ?_;rintro ex wb ⟨rfl,hq,hg⟩;have HF1:=zc.mk (HFR.out.trans (HQ.out.fr hg));have K1:=zc.mk ((HQ.out.fr hg) _ _ K0.out);have HQ1:=zc.mk hq;clear l0 l1 l2 l3 HM1 HQ HFR K0 hq hg;have HT:=Lib.hid (sign_t HQ1.out ⟨#[45]⟩);have HZ2:=zc.mk (HZ1.out.take 2 (fun t=>t.toList==(⟨#[45]⟩:xf).toList))
 obtain⟨s2,hs2⟩:∃s2,(s1.take 2 (fun t=>t.toList==(⟨#[45]⟩:xf).toList)).1=s2:=⟨_,rfl⟩
 obtain⟨neg,hneg⟩:∃neg,(s1.take 2 (fun t=>t.toList==(⟨#[45]⟩:xf).toList)).2.2=neg:=⟨_,rfl⟩
 rw[hs2,hneg]at HP;rw[hs2]at HZ2;rw[hs2,hneg]at HT;clear hs2 hneg;go_wp2_with fail;refine HT.out.mono ?_;rintro ex wc ⟨rfl,hq,hg⟩;have HF2:=zc.mk (HF1.out.trans (HQ1.out.fr hg));have K2:=zc.mk ((HQ1.out.fr hg) _ _ K1.out);have HQ2:=zc.mk hq;clear HT HQ1 HF1 K1 HZ1 hq hg;obtain⟨sg,hsg⟩:∃sg,(if neg=true then(⟨#[45]⟩:xf)else⟨#[]⟩)=sg:=⟨_,rfl⟩
 have hsgs:sg.size≤1:=by rw[←hsg];cases neg<;>decide
 have hc0:(wc.alloc (.cells #[.nilFunc] 29)).cell? ⟨wc.heap.size,0,none⟩=some .nilFunc:=by rw[j6 (j7 wc _)];rfl
 have hf0:(wc.alloc (.cells #[.nilFunc] 29)).frozen? ⟨wc.heap.size,0,none⟩=false:=Lib.frozen_of_heap (j7 wc _) 0;have hst:(Go.store ⟨wc.heap.size,0,none⟩ (.func (.func 114) #[] #[])).run Tryz.prog (wc.alloc (.cells #[.nilFunc] 29))= .ok () ((wc.alloc (.cells #[.nilFunc] 29)).setCell ⟨wc.heap.size,0,none⟩ (.func (.func 114) #[] #[])):=by
  rw[run_store _ _ _ _ _ rfl,hc0];simp[hf0]
 obtain⟨wd,hwd⟩:∃wd,(wc.alloc (.cells #[.nilFunc] 29)).setCell ⟨wc.heap.size,0,none⟩ (.func (.func 114) #[] #[])=wd:=⟨_,rfl⟩;have hb1:Below wc.heap.size wc wd:=by
  rw[←hwd];exact((xb wc.heap.size wc).alloc (xc _) _).setCell (by simp) _
 have hn1:wd.heap[wc.heap.size]? =some (.cells #[.func (.func 114) #[] #[]] 29):=by
  rw[←hwd];exact heap_put1 (j7 wc (.cells #[.nilFunc] 29)) _
 rw[hwd]at hst;have mf:wd.cell? ⟨wc.heap.size,0,none⟩=some (.func (.func 114) #[] #[]):=by rw[j6 hn1];rfl
 clear hwd hc0 hf0;have hgw:g<wc.heap.size:=by
  obtain⟨A9,c9,h9⟩:=HQ2.out;exact h9.lt
 have HQ3:=zc.mk (HQ2.out.step hb1);have HF3:=zc.mk (HF2.out.trans (Fr.below hb1));have K3:=zc.mk ((Fr.below hb1) _ _ K2.out);have N3:=zc.mk hn1;have HN:=natural0_t HQ3.out HZ2.out last hl 114 fewP enters_n1 (fun t ht W hb=>num1_t t.f1 W)
 unfold tkV at HN;have HN:=Lib.hid HN;have HZ3:=zc.mk (HZ2.out.nat fewP last).1;have HZa:=zc.mk (HZ2.out.nat fewP last).2;have HRa:=zc.mk (nat_res s2 fewP last);obtain⟨s3,hs3⟩:∃s3,(s2.nat fewP last).1=s3:=⟨_,rfl⟩;obtain⟨a,ha⟩:∃a,(s2.nat fewP last).2=a:=⟨_,rfl⟩;rw[hs3,ha]at HP HN;rw[hs3]at HZ3;rw[ha]at HRa HZa;clear hs3 ha hb1 hn1 HQ2 HF2 K2;obtain⟨l0,l1,l2,l3⟩:=qr K3.out;have HSG:=zc.mk hsg;rcases Bool.eq_false_or_eq_true neg with hneg|hneg
 all_goals
  have hsg:=HSG.out;rw[hneg]at hsg;first
  |rw[if_neg (by decide)]at hsg
  |rw[if_pos rfl]at hsg
  subst hsg;have HNG:=zc.mk hneg;go_wp2_with fail;clear hneg;refine HN.out.mono ?_;rintro ex we ⟨rfl,hq,hg⟩;have HF4:=zc.mk (HF3.out.trans (HQ3.out.fr hg));have K4:=zc.mk ((HQ3.out.fr hg) _ _ K3.out);have HQ4:=zc.mk hq;have N4:=zc.mk ((hg.block _ (xe N3.out).1 (fun he=>(Nat.ne_of_gt hgw) (by injection he))).trans N3.out)
  clear HN HQ3 HF3 K3 HZ2 N3 hq hg l0 l1 l2 l3 mf hst;obtain⟨l0,l1,l2,l3⟩:=qr K4.out;have HM2:=jb HQ4.out ⟨#[44]⟩ last hl;unfold tkV at HM2;have HM2:=Lib.hid HM2;have HZ4:=zc.mk (HZ3.out.must ⟨#[44]⟩ last);generalize s3.must ⟨#[44]⟩ last=s4 at*;go_wp2_with fail;refine HM2.out.mono ?_;rintro ex wf ⟨rfl,hq,hg⟩;have HF5:=zc.mk (HF4.out.trans (HQ4.out.fr hg));have K5:=zc.mk ((HQ4.out.fr hg) _ _ K4.out);have HQ5:=zc.mk hq;have N5:=zc.mk ((hg.block _ (xe N4.out).1 (fun he=>(Nat.ne_of_gt hgw) (by injection he))).trans N4.out)
  clear HM2 HQ4 HF4 K4 HZ3 N4 hq hg l0 l1 l2 l3;obtain⟨l0,l1,l2,l3⟩:=qr K5.out;have HN:=natural1_t HQ5.out HZ4.out last hl 116 (.pointer (some ⟨wc.heap.size,0,none⟩)) qI enters_n2 (fun t ht W hb=>num2_t t.f1 wc.heap.size W (by
   have h9:=(hb.block _ (xe N5.out).1).trans N5.out;rw[j6 h9];rfl))
  unfold tkV at HN;have HN:=Lib.hid HN;have HZ5:=zc.mk (HZ4.out.nat qI last).1;have HRb:=zc.mk (nat_res s4 qI last);obtain⟨s5,hs5⟩:∃s5,(s4.nat qI last).1=s5:=⟨_,rfl⟩;obtain⟨b,hb⟩:∃b,(s4.nat qI last).2=b:=⟨_,rfl⟩;rw[hs5,hb]at HP HN;rw[hs5]at HZ5;rw[hb]at HRb;clear hs5 hb;go_wp2_with fail;refine HN.out.mono ?_;rintro ex wg ⟨rfl,hq,hg⟩;have HF6:=zc.mk (HF5.out.trans (HQ5.out.fr hg));have K6:=zc.mk ((HQ5.out.fr hg) _ _ K5.out);have HQ6:=zc.mk hq;clear HN HQ5 HF5 K5 HZ4 N5 hq hg l0 l1 l2 l3;obtain⟨l0,l1,l2,l3⟩:=qr K6.out;have HM3:=jb HQ6.out ⟨#[41]⟩ last hl;unfold tkV at HM3;have HM3:=Lib.hid HM3;generalize s5.must ⟨#[41]⟩ last=s6 at*;go_wp2_with fail;refine HM3.out.mono ?_;rintro ex wh ⟨rfl,hq,hg⟩;have HF7:=zc.mk (HF6.out.trans (HQ6.out.fr hg));have K7:=zc.mk ((HQ6.out.fr hg) _ _ K6.out);have HQ7:=zc.mk hq;clear HM3 HQ6 HF6 K6 HZ5 hq hg l0 l1 l2 l3 K7;obtain⟨xn,xd,ok,hnd,hmk⟩:=make_num neg a b HRa.out HRb.out;have HMK:=fun W hW=>Lib.hid (hmk W hW)
  have HND:=zc.mk hnd;have HP2:zc (P=(s6,jn neg a b)):=⟨HP.out.symm⟩;have haz:=HZa.out;clear HP hmk hnd HSG;unfold sgnN at HMK;rw[HNG.out]at HMK;by_cases hz:(a.toList==([48]:List UInt8))=true
  all_goals
   first
   |rw[if_pos hz]at HMK
   |rw[if_neg hz]at HMK
   (try rw[if_neg (by decide)]at HMK)
   (try rw[if_pos rfl]at HMK)
   have hz2:=hz;rw[beq_iff_eq]at hz2
   (try have hz3:(a.toList==([48]:List UInt8))=false:=by simpa using hz)
   have oc1:¬9223372036854775807<a.size:=by omega
   have oc2:¬9223372036854775807<1+a.size:=by omega
   have oc3:¬9223372036854775807<0+a.size:=by omega
   go_wp2_with fail;refine(HMK wh (HQ7.out.gl HG.out).g).out.mono ?_;rintro ex wi ⟨rfl,hbm⟩;have hb2:=(xb wi.heap.size wi).alloc (xc _) (.cells #[.string xn,.string xd] 35);have HQ9:=(HQ7.out.step hbm).step hb2;have HF9:=zc.mk ((HF7.out.trans (Fr.below hbm)).trans (Fr.below hb2));have N9:=zc.mk (j7 wi (.cells #[.string xn,.string xd] 35));obtain⟨Af,cf,hPB⟩:=HQ9;have HQa:=zc.mk hPB;clear hPB hbm hb2 HMK HQ7 HF7 hz hz2 oc1 oc2 oc3;have m1:(wi.alloc (.cells #[.string xn,.string xd] 35)).cell? ⟨wi.heap.size,0,none⟩=some (.string xn):=by rw[j6 N9.out];rfl
   have m2:(wi.alloc (.cells #[.string xn,.string xd] 35)).cell? ⟨wi.heap.size,1,none⟩=some (.string xd):=by rw[j6 N9.out];rfl
   obtain⟨d0,d1,d2,d3,d4,d5,d6⟩:=HQa.out.cells;obtain⟨r0,r1,r2,r3,r4,r5,r6⟩:=(HQa.out.step ((xb _ _).drew)).cells;have hbytes:((out.map nd37).length+1)*72≤140737488355328:=by rw[List.length_map];have:=HO.out;omega
   have HQD:=zc.mk (HQa.out.step ((xb _ _).drew));have hgl:=HQa.out.lt;go_wp2_with fail;generalize wi.alloc (.cells #[.string xn,.string xd] 35)=wk at*;go_region_law ((refine Kd.R_append_step k37 (w0:=w0) (W:=wk.drew) w0.heap.size (by rfl) (.tmp 43) (.tmp 46) 24 37 (.agg #[.int .i64 0,.string ⟨#[]⟩,.string ⟨#[]⟩,.string ⟨#[]⟩,.int .i64 0,.int .i64 0]) 72 (by rfl) Tryz.underlying24 zS (by rfl) (by decide) (by omega) ov (out.map nd37) (⟨0,⟨xn,xd⟩,⟨#[]⟩,0,0⟩:S37) [.int .i64 0,.string xn,.string xd,.string ⟨#[]⟩,.int .i64 0,.int .i64 0] (fun k=>k≠g) (fun _=>False) (by rfl) (by rfl) (zE _ _ _ (⟨0,⟨xn,xd⟩,⟨#[]⟩,0,0⟩:S37)) (fun _ hk=>hk.elim) (fun k hk=>by have:=HQa.out.lt;have:=HQD.out.lt;omega) HQD.out.ou HQD.out.bl HQD.out.bl.size hbytes ?_;intro v1 w1 hv1 hb1 hg1 ho1;have hl1:(out.map nd37++[(⟨0,⟨xn,xd⟩,⟨#[]⟩,0,0⟩:S37)]).length=out.length+1:=(by simp);obtain⟨Av,cv,hvv⟩:=Kd.R_slice hv1;rw[hl1]at hvv;subst hvv;have hk1:=(hg1.block g HQD.out.lt (fun hh=>HQD.out.ou.1 _ hh.symm rfl)).trans HQD.out.blk;have hz1:w1.frozen? ⟨g,2,none⟩=false:=Lib.frozen_of_heap hk1 2;have hc1:w1.cell? ⟨g,2,none⟩=some ov:=(by rw[j6 hk1];rfl);have HK1:=zc.mk hk1;clear hk1))
   all_goals(
    have HQ6':=HQD.out.newO hb1 hg1 (out1:=out++[(jn neg a b)]) (by rw[List.map_append,List.map_cons,List.map_nil,HND.out];exact hv1)
    have HF7':=(HF9.out.trans ((Fr.below ((xb wk.heap.size wk).drew)).trans (HQD.out.frO hg1))).trans (Fr.grown (gst (World.grownBy.refl w1 (some g)) 2 (.slice Av (out.length+1) cv)) (fun k hk=>by injection hk with hk;subst hk;exact⟨_,_,HK1.out,by decide⟩))
    go_wp2_with fail;first
    |(refine bodyPost_end (v:= .tuple #[]) (by simp[results,Tryz.f80,go_sem]) rfl ?_;rw[HP2.out];exact⟨rfl,⟨_,Af,cf,HQ6'⟩,HF7'⟩)
    |(refine bodyPost_end (v:= .tuple #[]) (by simp[results,Tryz.f80,go_sem]) rfl ?_;rw[HP2.out];exact⟨rfl,⟨_,Af,cf,HQ6'.step ((xb _ _).drew)⟩,HF7'.trans (Fr.below ((xb _ _).drew))⟩))
def PS.push (s:PS)(dp:Int)(last:S75):PS:=(if(hdT s.toks).toList=[40]∧200≤dp then s.fail 111 last else s).must ⟨#[40]⟩ last
theorem push_t {w0:World}{g:Nat}{wv:Value}{wait:List S82}{ov:Value}{out:List Nd}{dp:Int}{s:PS}{w:World}(h:PBS w0 g wv wait ov out dp s w)(x:S82)(last:S75)(hl:qz last)(hwt:wait.length≤100000)(hdp: -100000≤dp∧dp≤100000):
 Calls Tryz.prog 43 #[.pointer (some ⟨g,0,none⟩),.agg #[.int .i64 x.f0,.int .i64 x.f1,.int .i64 x.f2],tkV last] w fun ex w'=>ex= .returned (.tuple #[])∧(∃wv',PBS w0 g wv' (wait++[x]) ov out (dp+1) (s.push dp last) w')∧Fr w w':=by
 have hb0:=((xb w.heap.size w).alloc (xc _) (.cells #[.int .i64 x.f0,.int .i64 x.f1,.int .i64 x.f2] 82)).alloc (by simp) (.cells #[.int .i64 last.f0,.string last.f1,.int .i64 last.f2,.int .i64 last.f3] 75)
 have hs1:(w.alloc (.cells #[.int .i64 x.f0,.int .i64 x.f1,.int .i64 x.f2] 82)).heap.size=w.heap.size+1:=by simp
 have KX:=zc.mk ((Lib.alloc_old (w.alloc (.cells #[.int .i64 x.f0,.int .i64 x.f1,.int .i64 x.f2] 82)) (.cells #[.int .i64 last.f0,.string last.f1,.int .i64 last.f2,.int .i64 last.f3] 75) w.heap.size (by simp)).trans (j7 w (.cells #[.int .i64 x.f0,.int .i64 x.f1,.int .i64 x.f2] 82)))
 have KL:=zc.mk (j7 (w.alloc (.cells #[.int .i64 x.f0,.int .i64 x.f1,.int .i64 x.f2] 82)) (.cells #[.int .i64 last.f0,.string last.f1,.int .i64 last.f2,.int .i64 last.f3] 75));rw[hs1]at KL;have HQ:=zc.mk (h.step hb0);have HFR:=zc.mk (Fr.below hb0);obtain⟨Ah,ch,hPh⟩:=HQ.out;have HP:=Lib.hid (peek_at w0 g Ah ch s.toks wv wait ov out dp s.e s.p0 s.p1 _ hPh);have hwd:IntKind.i64.wrap (dp+1)=dp+1:=by simp[j9];omega
 have HWT:=zc.mk hwt;obtain⟨l0,l1,l2,l3⟩:=qr KL.out;obtain⟨c0,c1,c2,c3,c4,c5,c6⟩:=hPh.cells;obtain⟨s2,hs2⟩:∃s2,(if(hdT s.toks).toList=[40]∧200≤dp then s.fail 111 last else s)=s2:=⟨_,rfl⟩
 obtain⟨P,hP⟩:∃P,s.push dp last=P:=⟨_,rfl⟩;rw[hP];unfold PS.push at hP;rw[hs2]at hP;have HPP:=zc.mk hP;have HFL:=fun(hc:(hdT s.toks).toList=[40]∧200≤dp)=>fail_t HQ.out 111 last hl
 have HS2:=zc.mk hs2;obtain⟨hdt,hhd⟩:∃hdt,hdT s.toks=hdt:=⟨_,rfl⟩;rw[hhd]at HP HS2 HFL;clear h hb0 hs1 hwt hdp hPh hP hs2 hhd;unfold tkV at*;have h3:(hdt.toList=[40]∧200≤dp)∨(hdt.toList=[40]∧¬200≤dp)∨¬hdt.toList=[40]:=by
  by_cases h1:hdt.toList=[40]
  ·by_cases h2:200≤dp
   ·exact .inl ⟨h1,h2⟩
   ·exact .inr (.inl ⟨h1,h2⟩)
  ·exact .inr (.inr h1)
 rcases h3 with⟨hh,hd⟩|⟨hh,hd⟩|hh
 have hhb:(hdt.toList==([40]:List UInt8))=true:=beq_iff_eq.2 hh;have hs2:=HS2.out;rw[if_pos ⟨hh,hd⟩]at hs2;have HFL:=HFL ⟨hh,hd⟩;rw[hs2]at HFL;have HFL:=Lib.hid HFL;clear hs2;go_enter Tryz.func43,Tryz.ntmps43
 go_wp2_with fail;generalize (w.alloc (.cells #[.int .i64 x.f0,.int .i64 x.f1,.int .i64 x.f2] 82)).alloc (.cells #[.int .i64 last.f0,.string last.f1,.int .i64 last.f2,.int .i64 last.f3] 75)=wa at*;refine HP.out.mono ?_;rintro ex wb ⟨rfl,rfl⟩;go_wp2_with fail;refine HFL.out.mono ?_;rintro ex wc ⟨rfl,hq,hg⟩;have HF1:=zc.mk (HFR.out.trans (HQ.out.fr hg));have KL1:=zc.mk ((HQ.out.fr hg) _ _ KL.out);have HQ1:=zc.mk hq;have KX1:=zc.mk ((hg.block _ (xe KX.out).1 (fun he=>by injection he with he;obtain⟨A9,c9,h9⟩:=HQ.out;have h1:=KX.out;rw[he,h9.blk]at h1;injection h1 with h1;injection h1 with _ h2;cases h2)).trans KX.out)
 clear HP HFL HQ HFR KX KL l0 l1 l2 l3 c0 c1 c2 c3 c4 c5 c6 hq hg;obtain⟨l0,l1,l2,l3⟩:=qr KL1.out;rotate_left;have hhb:(hdt.toList==([40]:List UInt8))=true:=beq_iff_eq.2 hh;have hs2:=HS2.out;rw[if_neg (fun hc=>by have h9:=hc.2;omega)]at hs2
 have hd':¬(200:Int)≤dp:=by omega
 have HQ1:=HQ;rw[hs2]at HQ1;clear HFL hs2;go_enter Tryz.func43,Tryz.ntmps43
 go_wp2_with fail;generalize (w.alloc (.cells #[.int .i64 x.f0,.int .i64 x.f1,.int .i64 x.f2] 82)).alloc (.cells #[.int .i64 last.f0,.string last.f1,.int .i64 last.f2,.int .i64 last.f3] 75)=wc at*;refine HP.out.mono ?_;rintro ex wb ⟨rfl,rfl⟩;have HF1:=HFR;have KL1:=KL;have KX1:=KX;clear HQ HFR KX KL HP;rotate_left;have hhb:(hdt.toList==([40]:List UInt8))=false:=beq_eq_false_iff_ne.2 hh;have hs2:=HS2.out;rw[if_neg (fun hc=>hh hc.1)]at hs2
 have HQ1:=HQ;rw[hs2]at HQ1;clear HFL hs2;go_enter Tryz.func43,Tryz.ntmps43
 go_wp2_with fail;generalize (w.alloc (.cells #[.int .i64 x.f0,.int .i64 x.f1,.int .i64 x.f2] 82)).alloc (.cells #[.int .i64 last.f0,.string last.f1,.int .i64 last.f2,.int .i64 last.f3] 75)=wc at*;refine HP.out.mono ?_;rintro ex wb ⟨rfl,rfl⟩;have HF1:=HFR;have KL1:=KL;have KX1:=KX;clear HQ HFR KX KL HP;rotate_left
 all_goals
  have HM:=jb HQ1.out ⟨#[40]⟩ last hl;rw[HPP.out]at HM;unfold tkV at HM;have HM:=Lib.hid HM;go_wp2_with fail;refine HM.out.mono ?_;rintro ex wd ⟨rfl,hq,hg⟩;have HF3:=zc.mk (HF1.out.trans (HQ1.out.fr hg));have KX3:=zc.mk ((hg.block _ (xe KX1.out).1 (fun he=>by injection he with he;obtain⟨A9,c9,h9⟩:=HQ1.out;have h1:=KX1.out;rw[he,h9.blk]at h1;injection h1 with h1;injection h1 with _ h2;cases h2)).trans KX1.out)
  obtain⟨A3,c3',hq3⟩:=hq;have HQ3:=zc.mk hq3;clear HM HQ1 HF1 KX1 KL1 hg hq3 l0 l1 l2 l3
  (try clear c0 c1 c2 c3 c4 c5 c6)
  have hne:w.heap.size≠g:=by
   intro he;have h1:=KX3.out;rw[he,HQ3.out.blk]at h1;injection h1 with h1;injection h1 with _ h2;cases h2
  obtain⟨c0,c1,c2,c3,c4,c5,c6⟩:=HQ3.out.cells;have f3:=HQ3.out.frozen 3;have HQ4:=zc.mk (HQ3.out.setD (dp+1));have HF4:=zc.mk (HF3.out.trans (HQ3.out.fr (gst (World.grownBy.refl wd (some g)) 3 (.int .i64 (dp+1)))));have KX4:=zc.mk ((Below.heap_setCell wd ⟨g,3,none⟩ (.int .i64 (dp+1)) _ hne).trans KX3.out);go_wp2_with fail;generalize wd.setCell ⟨g,3,none⟩ (.int .i64 (dp+1))=we at*;clear c0 c1 c2 c3 c4 c5 c6 f3 HQ3 HF3 KX3;obtain⟨d0,d1,d2,d3,d4,d5,d6⟩:=HQ4.out.cells;obtain⟨r0,r1,r2,r3,r4,r5,r6⟩:=(HQ4.out.step ((xb _ _).drew)).cells;have m0:we.cell? ⟨w.heap.size,0,none⟩=some (.int .i64 x.f0):=by rw[j6 KX4.out];rfl
  have m1:we.cell? ⟨w.heap.size,1,none⟩=some (.int .i64 x.f1):=by rw[j6 KX4.out];rfl
  have m2:we.cell? ⟨w.heap.size,2,none⟩=some (.int .i64 x.f2):=by rw[j6 KX4.out];rfl
  have hbytes:(wait.length+1)*24≤140737488355328:=by have:=HWT.out;omega
  have HQD:=zc.mk (HQ4.out.step ((xb _ _).drew));have hgl:=HQ4.out.lt;go_wp2_with fail;go_region_law ((refine Kd.R_append_step k82 (w0:=w0) (W:=we.drew) w0.heap.size (by rfl) (.tmp 33) (.tmp 35) 48 82 (.agg #[.int .i64 0,.int .i64 0,.int .i64 0]) 24 (by rfl) Tryz.underlying48 info82 (by rfl) (by decide) (by omega) wv wait x [.int .i64 x.f0,.int .i64 x.f1,.int .i64 x.f2] (fun k=>k≠g) (fun _=>False) (by rfl) (by rfl) (k82_mkM _ _ _ x) (fun _ hk=>hk.elim) (fun k hk=>by have:=HQD.out.lt;omega) HQD.out.wt HQD.out.bl HQD.out.bl.size hbytes ?_;intro v1 w1 hv1 hb1 hg1 ho1;have hl1:(wait++[x]).length=wait.length+1:=(by simp);obtain⟨Av,cv,hvv⟩:=Kd.R_slice hv1;rw[hl1]at hvv;subst hvv;have hk1:=(hg1.block g HQD.out.lt (fun hh=>HQD.out.wt.1 _ hh.symm rfl)).trans HQD.out.blk;have hz1:w1.frozen? ⟨g,1,none⟩=false:=Lib.frozen_of_heap hk1 1;have hc1:w1.cell? ⟨g,1,none⟩=some wv:=(by rw[j6 hk1];rfl);have HK1:=zc.mk hk1;clear hk1))
  all_goals(
   have HQ6:=HQD.out.newW hb1 hg1 (wait1:=wait++[x]) hv1;have HF7:=(HF4.out.trans ((Fr.below ((xb we.heap.size we).drew)).trans (HQD.out.frW hg1))).trans (Fr.grown (gst (World.grownBy.refl w1 (some g)) 1 (.slice Av (wait.length+1) cv)) (fun k hk=>by injection hk with hk;subst hk;exact⟨_,_,HK1.out,by decide⟩))
   go_wp2_with fail;first
   |(refine bodyPost_end (v:= .tuple #[]) (by simp[results,Tryz.f43,go_sem]) rfl ?_;exact⟨rfl,⟨_,_,_,HQ6⟩,HF7⟩)
   |(refine bodyPost_end (v:= .tuple #[]) (by simp[results,Tryz.f43,go_sem]) rfl ?_;exact⟨rfl,⟨_,_,_,HQ6.step ((xb _ _).drew)⟩,HF7.trans (Fr.below ((xb _ _).drew))⟩))
def nmP (k:Nat):ByteArray:=if k=1 then⟨#[112,120]⟩else if k=2 then⟨#[97,118,103]⟩else if k=3 then⟨#[104,105]⟩else⟨#[108,111]⟩
def nmF (k:Nat):ByteArray:=if k=10 then⟨#[109,97,120]⟩else if k=11 then⟨#[109,105,110]⟩else⟨#[105,102]⟩
def nmA (k:Nat):Int:=if k=12 then 3 else 2
theorem nmA_le (k:Nat):nmA k≤3:=by unfold nmA;split<;>decide
theorem nmP_c {k:Nat}(h:1≤k∧k≤4):k=1∨k=2∨k=3∨k=4:=by omega
theorem nmF_c {k:Nat}(h:10≤k∧k≤12):k=10∨k=11∨k=12:=by omega
theorem nmP_map {k:Nat}(h:1≤k∧k≤4):(nmP k).size≤100∧DP.atKey (.string (nmP k).data.toList) (.lit (.int .i64 0))= .lit (.int .i64 k)∧Maps.has DP (.string (nmP k).data.toList)=true:=by
 rcases nmP_c h with rfl|rfl|rfl|rfl<;>exact⟨by decide,by kernel_rfl,by kernel_rfl⟩
theorem nmF_map {k:Nat}(h:10≤k∧k≤12):(nmF k).size≤100∧DP.atKey (.string (nmF k).data.toList) (.lit (.int .i64 0))= .lit (.int .i64 0)∧Maps.has DP (.string (nmF k).data.toList)=false∧DF.atKey (.string (nmF k).data.toList) (.lit (.int .i64 0))= .lit (.int .i64 k)∧Maps.has DF (.string (nmF k).data.toList)=true:=by
 rcases nmF_c h with rfl|rfl|rfl<;>exact⟨by decide,by kernel_rfl,by kernel_rfl,by kernel_rfl,by kernel_rfl⟩
theorem nmF_ar {k:Nat}(h:10≤k∧k≤12):term_Arity.f 20 (k:Int)=some (nmA k):=by
 rcases nmF_c h with rfl|rfl|rfl<;>rfl
theorem nmP_kn {k:Nat}(h:1≤k∧k≤4):(nmP k).toList≠[40]∧parse_known.f (nmP k)=some true:=by
 rcases nmP_c h with rfl|rfl|rfl|rfl<;>exact⟨by simp[nmP,ByteArray.toList_eq],by unfold parse_known.f;simp[nmP,ByteArray.toList_eq]⟩
theorem nmF_kn {k:Nat}(h:10≤k∧k≤12):(nmF k).toList≠[40]∧parse_known.f (nmF k)=some true:=by
 rcases nmF_c h with rfl|rfl|rfl<;>exact⟨by simp[nmF,ByteArray.toList_eq],by unfold parse_known.f;simp[nmF,ByteArray.toList_eq]⟩
theorem price_t {w0:World}{g:Nat}{wv:Value}{wait:List S82}{ov:Value}{out:List Nd}{dp:Int}{s:PS}{w:World}(h:PBS w0 g wv wait ov out dp s w)(hg:Glob2 w0)(hsz:SzOK s)(op:Int)(last:S75)(hl:qz last)(hout:out.length≤100000):
 Calls Tryz.prog 78 #[.pointer (some ⟨g,0,none⟩),.int .i64 op,tkV last] w fun ex w'=>ex= .returned (.tuple #[])∧(∃ov',PBS w0 g wv wait ov' (out++[(s.price op last).2]) dp (s.price op last).1 w')∧Fr w w':=by
 by_cases h1:op=1
 ·subst h1
  exact price1_t h hg hsz last hl hout
 ·exact price2_t h hg hsz op h1 last hl hout
theorem nameP_t {w0:World}{g:Nat}{wv:Value}{wait:List S82}{ov:Value}{out:List Nd}{dp:Int}{s:PS}{w:World}(h:PBS w0 g wv wait ov out dp s w)(hg:Glob2 w0)(hsz:SzOK s)(ho:s.has 0 (fun _=>true)=true)(kk:Nat)(hkk:1≤kk∧kk≤4)(ht:hdT s.toks=nmP kk)(last:S75)(hl:qz last)(hout:out.length≤100000)(hwt:wait.length≤100000)(hdp: -100000≤dp∧dp≤100000):
 Calls Tryz.prog 45 #[.pointer (some ⟨g,0,none⟩),tkV last] w fun ex w'=>ex= .returned (.bool false)∧(∃wv' ov',PBS w0 g wv' wait ov' (out++[(s.tl.price kk last).2]) dp (s.tl.price kk last).1 w')∧Fr w w':=by
 have hb0:=(xb w.heap.size w).alloc (xc _) (.cells #[.int .i64 last.f0,.string last.f1,.int .i64 last.f2,.int .i64 last.f3] 75);have HQ:=zc.mk (h.step hb0);have K0:=zc.mk (j7 w (.cells #[.int .i64 last.f0,.string last.f1,.int .i64 last.f2,.int .i64 last.f3] 75));have HFR:=zc.mk (Fr.below hb0);have HT:=take0_t HQ.out 0 77 (fun _=>true) qJ (fun t r _ _ _=>nm1_at t.f1 _)
 unfold PS.take at HT;rw[if_pos ho,ht]at HT;have HZ:=zc.mk hsz.tl;have HC:=zc.mk (And.intro hg (And.intro hout (And.intro hwt hdp)));obtain⟨z1,z2,z3⟩:=nmP_map hkk;generalize nmP kk=tx at*;have HT:=Lib.hid HT;clear h hb0 hg hsz ho ht hout hwt hdp hkk;generalize (kk:Int)=k at*;generalize s.tl=s1 at*;unfold tkV at*;go_enter Tryz.func45,Tryz.ntmps45
 go_wp2_with fail;generalize w.alloc (.cells #[.int .i64 last.f0,.string last.f1,.int .i64 last.f2,.int .i64 last.f3] 75)=wa at*;refine HT.out.mono ?_;rintro ex wb ⟨rfl,hq,hg⟩;have HQ1:=zc.mk hq;have HF1:=zc.mk (HFR.out.trans (HQ.out.fr hg));have K1:=zc.mk ((HQ.out.fr hg) _ _ K0.out);clear HQ HFR K0 hq hg HT;obtain⟨wm1,wm2,wm3,wm4,wm5,wm6,wm7,r1,r2,r3,r4,r5,r6,r7,bm,mP,mF⟩:=maps_at wb;have hmm:= @run_makeMap Tryz.prog;have HQ2:=zc.mk (HQ1.out.step bm);have HF2:=zc.mk (HF1.out.trans (Fr.below bm));have K2:=zc.mk ((Fr.below bm) _ _ K1.out);obtain⟨l0,l1,l2,l3⟩:=qr K2.out;have x1:=get_at mP tx z1 k z2 true z3;have HPR:=price_t HQ2.out HC.out.1 HZ.out k last hl HC.out.2.1;clear z1 z2 z3;unfold tkV at HPR;have HPR:=Lib.hid HPR;clear mP mF bm HQ1 HF1 K1;go_wp2_with fail;refine HPR.out.mono ?_;rintro ex wc ⟨rfl,hq,hf⟩;have HF3:=zc.mk (HF2.out.trans hf);have HQ3:=zc.mk hq;clear hq hf HPR HQ2 HF2 K2 r1 r2 r3 r4 r5 r6 r7 x1 l0 l1 l2 l3;go_wp2_with fail;go_ret;exact⟨rfl,⟨_,HQ3.out⟩,HF3.out⟩
theorem nameF_t {w0:World}{g:Nat}{wv:Value}{wait:List S82}{ov:Value}{out:List Nd}{dp:Int}{s:PS}{w:World}(h:PBS w0 g wv wait ov out dp s w)(hg:Glob2 w0)(hsz:SzOK s)(ho:s.has 0 (fun _=>true)=true)(kk:Nat)(hkk:10≤kk∧kk≤12)(ht:hdT s.toks=nmF kk)(last:S75)(hl:qz last)(hout:out.length≤100000)(hwt:wait.length≤100000)(hdp: -100000≤dp∧dp≤100000):
 Calls Tryz.prog 45 #[.pointer (some ⟨g,0,none⟩),tkV last] w fun ex w'=>ex= .returned (.bool true)∧(∃wv' ov',PBS w0 g wv' (wait++[⟨kk,0,nmA kk⟩]) ov' out (dp+1) (s.tl.push dp last) w')∧Fr w w':=by
 have hb0:=(xb w.heap.size w).alloc (xc _) (.cells #[.int .i64 last.f0,.string last.f1,.int .i64 last.f2,.int .i64 last.f3] 75);have HQ:=zc.mk (h.step hb0);have K0:=zc.mk (j7 w (.cells #[.int .i64 last.f0,.string last.f1,.int .i64 last.f2,.int .i64 last.f3] 75));have HFR:=zc.mk (Fr.below hb0);have HT:=take0_t HQ.out 0 77 (fun _=>true) qJ (fun t r _ _ _=>nm1_at t.f1 _)
 unfold PS.take at HT;rw[if_pos ho,ht]at HT;have HZ:=zc.mk hsz.tl;have HC:=zc.mk (And.intro hg (And.intro hout (And.intro hwt hdp)));obtain⟨z1,z2,z3,z4,z5⟩:=nmF_map hkk;have HAR:∀W,RowKit.Hid (Calls Tryz.prog 79 #[.int .i64 (kk:Int)] W fun ex w'=>ex= .returned (.int .i64 (nmA kk))∧Below W.heap.size W w'):=fun W=>Lib.hid ((term_Arity.calls 20 kk (nmA kk) W (nmF_ar hkk)).mono (fun ex w' hh=>by obtain⟨h1,nd,rfl⟩:=hh;exact⟨h1,ze (xb _ _) nd⟩))
 generalize nmF kk=tx at*;generalize nmA kk=na at*;have HT:=Lib.hid HT;clear h hb0 hg hsz ho ht hout hwt hdp hkk;generalize (kk:Int)=k at*;generalize s.tl=s1 at*;unfold tkV at*;go_enter Tryz.func45,Tryz.ntmps45
 go_wp2_with fail;generalize w.alloc (.cells #[.int .i64 last.f0,.string last.f1,.int .i64 last.f2,.int .i64 last.f3] 75)=wa at*;refine HT.out.mono ?_;rintro ex wb ⟨rfl,hq,hg⟩;have HQ1:=zc.mk hq;have HF1:=zc.mk (HFR.out.trans (HQ.out.fr hg));have K1:=zc.mk ((HQ.out.fr hg) _ _ K0.out);clear HQ HFR K0 hq hg HT;obtain⟨wm1,wm2,wm3,wm4,wm5,wm6,wm7,r1,r2,r3,r4,r5,r6,r7,bm,mP,mF⟩:=maps_at wb;have hmm:= @run_makeMap Tryz.prog;have HQ2:=zc.mk (HQ1.out.step bm);have HF2:=zc.mk (HF1.out.trans (Fr.below bm));have K2:=zc.mk ((Fr.below bm) _ _ K1.out);obtain⟨l0,l1,l2,l3⟩:=qr K2.out;have x1:=get_at mP tx z1 0 z2 false z3;have x2:=get_at mF tx z1 k z4 true z5;clear z1 z2 z3 z4 z5;have HB:=zc.mk (xb wm7.heap.size wm7);have hLB:∀w':World,Below wm7.heap.size wm7 w'→w'.cell? ⟨w.heap.size,0,none⟩=some (.int .i64 last.f0)∧w'.cell? ⟨w.heap.size,1,none⟩=some (.string last.f1)∧w'.cell? ⟨w.heap.size,2,none⟩=some (.int .i64 last.f2)∧w'.cell? ⟨w.heap.size,3,none⟩=some (.int .i64 last.f3):=fun w' hb=>qr ((hb.block _ (xe K2.out).1).trans K2.out)
 have HPU:∀W,Below wm7.heap.size wm7 W→RowKit.Hid (Calls Tryz.prog 43 #[.pointer (some ⟨g,0,none⟩),.agg #[.int .i64 k,.int .i64 0,.int .i64 na],.agg #[.int .i64 last.f0,.string last.f1,.int .i64 last.f2,.int .i64 last.f3]] W fun ex w'=>ex= .returned (.tuple #[])∧(∃wv',PBS w0 g wv' (wait++[⟨k,0,na⟩]) ov out (dp+1) (s1.push dp last) w')∧Fr wm7 w'):=by
  intro W hb;exact Lib.hid ((push_t (HQ2.out.step hb) ⟨k,0,na⟩ last hl HC.out.2.2.1 HC.out.2.2.2).mono (fun ex w' hh=>⟨hh.1,hh.2.1,(Fr.below hb).trans hh.2.2⟩))
 clear mP mF bm HQ1 HF1 K1;go_wp2_with fail;go_region_held3 (fun w':World=>w'.cell? ⟨w.heap.size,0,none⟩=some (.int .i64 last.f0)∧w'.cell? ⟨w.heap.size,1,none⟩=some (.string last.f1)∧w'.cell? ⟨w.heap.size,2,none⟩=some (.int .i64 last.f2)∧w'.cell? ⟨w.heap.size,3,none⟩=some (.int .i64 last.f3)) (first|(refine⟨?_,?_,?_,?_⟩<;>(rw[j6 HK3.out];rfl))|exact hLB _ bb) (first|(go_at_call 79;with_reducible refine(HAR _).out.mono ?_;rintro ex w' ⟨rfl,hb⟩;have n0:=zc.mk (zi bb hb);clear HB hb;have HB:=n0;clear n0)|(go_at_call 43;refine(HPU _ ?_).out.mono ?_;(exact bb);rintro ex w' ⟨rfl,hq,hf⟩;have HK3:=zc.mk (hf _ _ K2.out);have HQ3:=zc.mk hq;have HF3:=zc.mk (HF2.out.trans hf);clear hq hf))
 go_wp2_with fail;go_ret;exact⟨rfl,(by obtain⟨wv',h⟩:=HQ3.out;exact⟨wv',_,h⟩),HF3.out⟩
theorem nameN_t {w0:World}{g:Nat}{wv:Value}{wait:List S82}{ov:Value}{out:List Nd}{dp:Int}{s:PS}{w:World}(h:PBS w0 g wv wait ov out dp s w)(hg:Glob2 w0)(hsz:SzOK s)(ho:s.has 0 (fun _=>true)=true)(ht:hdT s.toks=⟨#[110,117,109]⟩)(last:S75)(hl:qz last)(hout:out.length≤100000)(hwt:wait.length≤100000)(hdp: -100000≤dp∧dp≤100000):
 Calls Tryz.prog 45 #[.pointer (some ⟨g,0,none⟩),tkV last] w fun ex w'=>ex= .returned (.bool false)∧(∃wv' ov',PBS w0 g wv' wait ov' (out++[(s.tl.num last).2]) dp (s.tl.num last).1 w')∧Fr w w':=by
 have hb0:=(xb w.heap.size w).alloc (xc _) (.cells #[.int .i64 last.f0,.string last.f1,.int .i64 last.f2,.int .i64 last.f3] 75);have HQ:=zc.mk (h.step hb0);have K0:=zc.mk (j7 w (.cells #[.int .i64 last.f0,.string last.f1,.int .i64 last.f2,.int .i64 last.f3] 75));have HFR:=zc.mk (Fr.below hb0);have HT:=take0_t HQ.out 0 77 (fun _=>true) qJ (fun t r _ _ _=>nm1_at t.f1 _)
 unfold PS.take at HT;rw[if_pos ho,ht]at HT;have HZ:=zc.mk hsz.tl;have HC:=zc.mk (And.intro hg (And.intro hout (And.intro hwt hdp)));have HT:=Lib.hid HT;clear h hb0 hg hsz ho ht hout hwt hdp;generalize s.tl=s1 at*;unfold tkV at*;go_enter Tryz.func45,Tryz.ntmps45
 go_wp2_with fail;generalize w.alloc (.cells #[.int .i64 last.f0,.string last.f1,.int .i64 last.f2,.int .i64 last.f3] 75)=wa at*;refine HT.out.mono ?_;rintro ex wb ⟨rfl,hq,hg⟩;have HQ1:=zc.mk hq;have HF1:=zc.mk (HFR.out.trans (HQ.out.fr hg));have K1:=zc.mk ((HQ.out.fr hg) _ _ K0.out);clear HQ HFR K0 hq hg HT;obtain⟨wm1,wm2,wm3,wm4,wm5,wm6,wm7,r1,r2,r3,r4,r5,r6,r7,bm,mP,mF⟩:=maps_at wb;have hmm:= @run_makeMap Tryz.prog;have HQ2:=zc.mk (HQ1.out.step bm);have HF2:=zc.mk (HF1.out.trans (Fr.below bm));have K2:=zc.mk ((Fr.below bm) _ _ K1.out);obtain⟨l0,l1,l2,l3⟩:=qr K2.out;have x1:=get_at mP ⟨#[110,117,109]⟩ (by decide) 0 (show DP.atKey (.string [110,117,109]) (.lit (.int .i64 0))= .lit (.int .i64 0) by kernel_rfl) false (show Maps.has DP (.string [110,117,109])=false by kernel_rfl)
 have x2:=get_at mF ⟨#[110,117,109]⟩ (by decide) 0 (show DF.atKey (.string [110,117,109]) (.lit (.int .i64 0))= .lit (.int .i64 0) by kernel_rfl) false (show Maps.has DF (.string [110,117,109])=false by kernel_rfl)
 have HPR:=num_t HQ2.out HC.out.1 HZ.out last hl HC.out.2.1;unfold tkV at HPR;have HPR:=Lib.hid HPR;clear mP mF bm HQ1 HF1 K1;go_wp2_with fail;refine HPR.out.mono ?_;rintro ex wc ⟨rfl,hq,hf⟩;have HF3:=zc.mk (HF2.out.trans hf);have HQ3:=zc.mk hq;clear hq hf HPR HQ2 HF2 K2 r1 r2 r3 r4 r5 r6 r7 x1 x2 l0 l1 l2 l3;go_wp2_with fail;go_ret;exact⟨rfl,⟨_,HQ3.out⟩,HF3.out⟩
end Go.Proofs.YtjopepfemhckjaaGreatDoor.NW
end
