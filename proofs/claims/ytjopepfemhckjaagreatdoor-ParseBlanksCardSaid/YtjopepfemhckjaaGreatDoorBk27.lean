/-
  Part 27 of the proof of parseBlanks_holds: texts of this seat, put together.
-/
import Derived.Test.YtjopepfemhckjaaGreatDoorBk26
set_option linter.unusedVariables false
set_option linter.unusedSimpArgs false
section
set_option maxRecDepth 100000
namespace Go.Proofs.YtjopepfemhckjaaGreatDoor.NW
open Go.Proofs Go.RowKit Go.Shelf Go.Proofs.YtjopepfemhckjaaGreatDoor.PN Go.Proofs.YtjopepfemhckjaaGreatDoorW.PrintWords Go.Proofs.YtjopepfemhckjaaGreatDoor.PParseTells
def fewP (t:ByteArray):Bool:=decide (t.size≤60)
def few2P (t:ByteArray):Bool:=fewP t&& !(t.toList==[48])
def numNd (neg:Bool)(a b:ByteArray):Nd:=
 if(isNatB a.data.toList&&isNatB b.data.toList)=true then .num (rnum (if neg=true then-(dv a.data.toList:Int)else(dv a.data.toList:Int)) (dv b.data.toList)) (rden (if neg=true then-(dv a.data.toList:Int)else(dv a.data.toList:Int)) (dv b.data.toList))
 else .raw ⟨0,⟨⟨#[]⟩,⟨#[]⟩⟩,⟨#[]⟩,0,0⟩
def PS.num (s:PS)(last:S75):PS×Nd:=
 let r:=(s.must ⟨#[40]⟩ last).take 2 (fun t=>t.toList==(⟨#[45]⟩:ByteArray).toList)
 let n1:=r.1.nat fewP last
 let n2:=(n1.1.must ⟨#[44]⟩ last).nat few2P last
 (n2.1.must ⟨#[41]⟩ last,numNd r.2.2 n1.2 n2.2)
theorem nat_res (s:PS)(p:ByteArray→Bool)(last:S75):(s.nat p last).2=⟨#[]⟩∨(isNatB (s.nat p last).2.data.toList=true∧p (s.nat p last).2=true):=by
 unfold PS.nat;split
 ·rename_i ho
  obtain⟨t,r,h1,h2,h3,h4⟩:=PS.has_cons ho;rw[Bool.and_eq_true]at h4;right
  show isNatB (hdT s.toks).data.toList=true∧p (hdT s.toks)=true
  rw[h1];exact h4
 ·exact .inl rfl
theorem enters_n1:∀(args:Array Value) (w:World),(callFunc 114 args).run Tryz.prog w= .ok (.enter 114 args) w:=Go.Proofs.enters_of Tryz.func114 (by kernel_rfl) rfl
theorem enters_n2:∀(args:Array Value) (w:World),(callFunc 116 args).run Tryz.prog w= .ok (.enter 116 args) w:=Go.Proofs.enters_of Tryz.func116 (by kernel_rfl) rfl
theorem num1_t (t:ByteArray)(w:World):Calls Tryz.prog 114 #[.string t] w fun ex w'=>ex= .returned (.bool (fewP t))∧Below w.heap.size w w':=by
 have hd:decide ((t.size:Int)≤60)=fewP t:=by
  unfold fewP;exact decide_eq_decide.2 (by omega)
 go_enter Tryz.func114,Tryz.ntmps114
 go_wp2_with fail;go_ret;exact⟨by first|rfl|(rw[←hd];done)|(simp[←hd];done),Below.refl _ _⟩
theorem num2_t (t:ByteArray)(b:Nat)(w:World)(hc:w.cell? ⟨b,0,none⟩=some (.func (.func 114) #[] #[])):Calls Tryz.prog 116 #[.string t,.pointer (some ⟨b,0,none⟩)] w fun ex w'=>ex= .returned (.bool (few2P t))∧Below w.heap.size w w':=by
 have H1:=fun W=>Lib.hid (num1_t t W)
 unfold few2P;cases hf:fewP t with
 |true=>
  rw[hf]at H1;cases hz:(t.toList==([48]:List UInt8))with
  |true=>
   have hz2:t.toList=([48]:List UInt8):=by simpa using hz
   have hz3:(t.toList !=([48]:List UInt8))=false:=by rw[bne,hz];rfl
   clear hf;go_enter Tryz.func116,Tryz.ntmps116
   go_wp2_with fail;refine(H1 _).out.mono ?_;rintro ex w1 ⟨rfl,hb1⟩;clear hc H1;go_wp2_with fail;go_ret;exact⟨by first|rfl|(simp;done)|(simp[*];done),hb1⟩
  |false=>
   have hz2:¬t.toList=([48]:List UInt8):=by simpa using hz
   have hz3:(t.toList !=([48]:List UInt8))=true:=by rw[bne,hz];rfl
   clear hf;go_enter Tryz.func116,Tryz.ntmps116
   go_wp2_with fail;refine(H1 _).out.mono ?_;rintro ex w1 ⟨rfl,hb1⟩;clear hc H1;go_wp2_with fail;go_ret;exact⟨by first|rfl|(simp;done)|(simp[*];done),hb1⟩
 |false=>
  rw[hf]at H1;clear hf;go_enter Tryz.func116,Tryz.ntmps116
  go_wp2_with fail;refine(H1 _).out.mono ?_;rintro ex w1 ⟨rfl,hb1⟩;clear hc H1;go_wp2_with fail;go_ret;exact⟨by first|rfl|(simp;done)|(simp[*];done),hb1⟩
theorem makeBad_t (k k2:Nat)(s t:ByteArray)(b1 b2:Bool)(h1:whole_May.f k s=some b1)(h2:whole_May.f k2 t=some b2)(hb:b1=false∨b2=false)(w:World):
 Calls Tryz.prog 72 #[.string s,.string t] w fun e w'=>e= .returned (.tuple #[.agg #[.string ⟨#[]⟩,.string ⟨#[]⟩],.bool false])∧Below w.heap.size w w':=by
 have H1:=fun W=>Lib.hid (whole_May.calls k s b1 W h1)
 have H2:=fun W=>Lib.hid (whole_May.calls k2 t b2 W h2)
 have k0:=World.alloc_heap_new w (.cells #[.string ⟨#[]⟩,.string ⟨#[]⟩] 35);have B0:Below w.heap.size w (w.alloc (.cells #[.string ⟨#[]⟩,.string ⟨#[]⟩] 35)):=(Below.refl _ w).alloc (Nat.le_refl _) _;have HB:=Aside0.mk hb;clear h1 h2 hb;go_enter Tryz.func72,Tryz.ntmps72
 go_wp2_with fail;generalize w.alloc (.cells #[.string ⟨#[]⟩,.string ⟨#[]⟩] 35)=w0 at*;refine(H1 _).out.mono ?_;rintro e w1 ⟨rfl,hb1⟩;have k1:=(hb1.block _ (Array.getElem?_eq_some_iff.1 k0).1).trans k0;have B1:=B0.trans (hb1.mono B0.size);clear k0 B0 hb1;cases b1 with
 |false=>
  have c1:=Lib.cell_of_heap k1 0;have c2:=Lib.cell_of_heap k1 1;have f1:=Lib.frozen_of_heap k1 0;have f2:=Lib.frozen_of_heap k1 1;clear H1 H2 HB;go_wp2_with fail;obtain⟨q1,q2⟩:=put2 k1 (.string ⟨#[]⟩) (.string ⟨#[]⟩);refine bodyPost_ret (v:= .tuple #[.agg #[.string ⟨#[]⟩,.string ⟨#[]⟩],.bool false]) ?_ rfl ⟨rfl,(B1.setCell (by simp) _).setCell (by simp) _⟩
  simp[results,Tryz.f72,go_sem,q1,q2]
 |true=>
  have hb2:b2=false:=by rcases HB.out with h|h;cases h;exact h
  subst hb2;clear HB;go_wp2_with fail;refine(H2 _).out.mono ?_;rintro e w2 ⟨rfl,hb2⟩;have k2:=(hb2.block _ (Array.getElem?_eq_some_iff.1 k1).1).trans k1;have B2:=B1.trans (hb2.mono B1.size);clear k1 B1 hb2;have c1:=Lib.cell_of_heap k2 0;have c2:=Lib.cell_of_heap k2 1;have f1:=Lib.frozen_of_heap k2 0;have f2:=Lib.frozen_of_heap k2 1;clear H1 H2;go_wp2_with fail;obtain⟨q1,q2⟩:=put2 k2 (.string ⟨#[]⟩) (.string ⟨#[]⟩);refine bodyPost_ret (v:= .tuple #[.agg #[.string ⟨#[]⟩,.string ⟨#[]⟩],.bool false]) ?_ rfl ⟨rfl,(B2.setCell (by simp) _).setCell (by simp) _⟩
  simp[results,Tryz.f72,go_sem,q1,q2]
theorem heap_put1 {W:World}{b T:Nat}{x:Value}(h:W.heap[b]? =some (.cells #[x] T (0,0)))(y:Value):(W.setCell ⟨b,0,none⟩ y).heap[b]? =some (.cells #[y] T (0,0)):=by
 simp[World.setCell,Array.getElem?_modify,h]
theorem nat_of {a:ByteArray}(h:isNatB a.data.toList=true):a=natS (dv a.data.toList):=IsN.eq ⟨(isNatB_iff _).1 h,rfl⟩
theorem wmay_law (z:Int)(hs:(intS z).size≤1000000):whole_May.f 1000010 (intS z)=some true:=by unfold whole_May.f;rw[wread_law z hs];rfl
theorem emp_app (a:ByteArray):(⟨#[]⟩:ByteArray)++a=a:=by
 apply ba_ext;rw[ByteArray.data_append];show((#[]:Array UInt8)++a.data).toList=_
 simp
def sgnN (neg:Bool)(a:ByteArray):ByteArray:=if(a.toList==([48]:List UInt8))=true then⟨#[]⟩else if neg=true then⟨#[45]⟩else⟨#[]⟩
theorem sgn_int (neg:Bool)(a:ByteArray)(h:isNatB a.data.toList=true)(hs:a.size≤60):sgnN neg a++a=intS (if neg=true then-(dv a.data.toList:Int)else(dv a.data.toList:Int))∧(intS (if neg=true then-(dv a.data.toList:Int)else(dv a.data.toList:Int))).size≤100:=by
 have hn:=nat_of h;obtain⟨n,hd⟩:∃n,dv a.data.toList=n:=⟨_,rfl⟩;rw[hd]at hn ⊢;have hsz:(natS n).size≤60:=by rw[←hn];exact hs
 unfold sgnN;by_cases hz:n=0
 ·have h48:(a.toList==([48]:List UInt8))=true:=by
   rw[hn,hz];kernel_rfl
  rw[if_pos h48,emp_app,hn,hz];cases neg<;>exact⟨by kernel_rfl,by decide+kernel⟩
 ·have h48:¬(a.toList==([48]:List UInt8))=true:=by
   intro e;rw[hn]at e;exact one_ne_zero n hz (by simpa using e)
  rw[if_neg h48];cases neg with
  |true=>
   rw[if_pos rfl,if_pos rfl];have e:intS (-(n:Int))=(⟨#[45]⟩:ByteArray)++natS n:=by
    unfold intS;rw[if_pos (by omega),Int.natAbs_neg,Int.natAbs_natCast]
   rw[e,hn];refine⟨rfl,?_⟩;rw[ByteArray.size_append];have:(⟨#[45]⟩:ByteArray).size=1:=rfl;omega
  |false=>
   rw[if_neg (by decide),if_neg (by decide),emp_app,intS_nat]
   exact⟨hn,by omega⟩
theorem make_num (neg:Bool)(a b:ByteArray)(ha:a=⟨#[]⟩∨(isNatB a.data.toList=true∧fewP a=true))(hb:b=⟨#[]⟩∨(isNatB b.data.toList=true∧few2P b=true)):
 ∃xn xd ok,nd37 (numNd neg a b)=⟨0,⟨xn,xd⟩,⟨#[]⟩,0,0⟩∧∀W,Glob W→Calls Tryz.prog 72 #[.string (sgnN neg a++a),.string b] W fun e w'=>e= .returned (.tuple #[.agg #[.string xn,.string xd],.bool ok])∧Below W.heap.size W w':=by
 have hbm:∃k b2,whole_May.f k b=some b2∧(b=⟨#[]⟩→b2=false):=by
  rcases hb with rfl|⟨h1,h2⟩
  ·exact⟨60,false,by kernel_rfl,fun _=>rfl⟩
  ·have h3:b.size≤60:=by
    unfold few2P fewP at h2;simp only[Bool.and_eq_true,decide_eq_true_eq]at h2;exact h2.1
   have h4:=nat_of h1;refine⟨1000010,true,?_,fun e=>by rw[e]at h1;exact absurd h1 (by decide)⟩
   have h5:=wmay_law (dv b.data.toList:Int) (by rw[intS_nat,←h4];omega)
   rw[intS_nat,←h4]at h5;exact h5
 obtain⟨kb,b2,hk2,hb2⟩:=hbm;rcases ha with rfl|⟨h1,h2⟩
 ·refine⟨⟨#[]⟩,⟨#[]⟩,false,?_,fun W hW=>?_⟩
  ·unfold numNd
   rw[if_neg (by rw[Bool.and_eq_true];exact fun h=>absurd h.1 (by decide))]
   rfl
  ·have h1:whole_May.f 60 (sgnN neg ⟨#[]⟩++⟨#[]⟩)=some false:=by cases neg<;>kernel_rfl
   exact makeBad_t 60 kb _ b false b2 h1 hk2 (.inl rfl) W
 ·have hs:a.size≤60:=by
   unfold fewP at h2;simpa using h2
  obtain⟨e1,e2⟩:=sgn_int neg a h1 hs;have h3:=wmay_law _ (Nat.le_trans e2 (by omega))
  rcases hb with rfl|⟨g1,g2⟩
  ·refine⟨⟨#[]⟩,⟨#[]⟩,false,?_,fun W hW=>makeBad_t 1000010 kb _ _ true b2 (by rw[e1];exact h3) hk2 (.inr (hb2 rfl)) W⟩
   unfold numNd;rw[if_neg (by rw[Bool.and_eq_true];exact fun h=>absurd h.2 (by decide))]
   rfl
  ·have hbs:b.size≤60∧¬b.toList=[48]:=by
    unfold few2P fewP at g2;simpa using g2
   have h4:=nat_of g1;have h0:0<dv b.data.toList:=by
    apply Nat.pos_of_ne_zero;intro e;rw[e]at h4;apply hbs.2;rw[h4];kernel_rfl
   refine⟨intS (rnum (if neg=true then-(dv a.data.toList:Int)else(dv a.data.toList:Int)) (dv b.data.toList)),natS (rden (if neg=true then-(dv a.data.toList:Int)else(dv a.data.toList:Int)) (dv b.data.toList)),true,?_,fun W hW=>?_⟩
   ·unfold numNd
    rw[if_pos (by rw[h1,g1];rfl)]
    rfl
   ·rw[e1]
    have h5:=make_at (dv b.data.toList+1) (div_all _) (if neg=true then-(dv a.data.toList:Int)else(dv a.data.toList:Int)) (dv b.data.toList) (by omega) (by rw[←h4];omega) h0 (by omega) W hW
    rw[←h4]at h5;exact h5
set_option maxHeartbeats 16000000 in
theorem num_t {w0:World}{g:Nat}{wv:Value}{wait:List S82}{ov:Value}{out:List Nd}{dp:Int}{s:PS}{w:World}(h:PBS w0 g wv wait ov out dp s w)(hg:Glob2 w0)(hsz:SzOK s)(last:S75)(hl:LastOK last)(hout:out.length≤100000):
 Calls Tryz.prog 80 #[.pointer (some ⟨g,0,none⟩),tkV last] w fun ex w'=>ex= .returned (.tuple #[])∧(∃ov',PBS w0 g wv wait ov' (out++[(s.num last).2]) dp (s.num last).1 w')∧Fr w w':=by
 have hb0:=(Below.refl w.heap.size w).alloc (Nat.le_refl _) (.cells #[.int .i64 last.f0,.string last.f1,.int .i64 last.f2,.int .i64 last.f3] 75);have HQ:=Aside0.mk (h.step hb0);have K0:=Aside0.mk (World.alloc_heap_new w (.cells #[.int .i64 last.f0,.string last.f1,.int .i64 last.f2,.int .i64 last.f3] 75));have HFR:=Aside0.mk (Fr.below hb0);have HO:=Aside0.mk hout;have HG:=Aside0.mk hg;have HM1:=must_t HQ.out ⟨#[40]⟩ last hl;have HZ1:=Aside0.mk (hsz.must ⟨#[40]⟩ last);unfold tkV at*;have HM1:=Lib.hid HM1;obtain⟨l0,l1,l2,l3⟩:=lastC K0.out;obtain⟨P,hP⟩:∃P,s.num last=P:=⟨_,rfl⟩;rw[hP];unfold PS.num at hP;simp only at hP;have HP:=Aside0.mk hP;clear h hb0 hg hsz hout hP;generalize s.must ⟨#[40]⟩ last=s1 at*;go_enter Tryz.func80,Tryz.ntmps80
 go_wp2_with fail;generalize w.alloc (.cells #[.int .i64 last.f0,.string last.f1,.int .i64 last.f2,.int .i64 last.f3] 75)=wa at*;refine HM1.out.mono ?_;rintro ex wb ⟨rfl,hq,hg⟩;have HF1:=Aside0.mk (HFR.out.trans (HQ.out.fr hg));have K1:=Aside0.mk ((HQ.out.fr hg) _ _ K0.out);have HQ1:=Aside0.mk hq;clear l0 l1 l2 l3 HM1 HQ HFR K0 hq hg;have HT:=Lib.hid (sign_t HQ1.out ⟨#[45]⟩);have HZ2:=Aside0.mk (HZ1.out.take 2 (fun t=>t.toList==(⟨#[45]⟩:ByteArray).toList))
 obtain⟨s2,hs2⟩:∃s2,(s1.take 2 (fun t=>t.toList==(⟨#[45]⟩:ByteArray).toList)).1=s2:=⟨_,rfl⟩
 obtain⟨neg,hneg⟩:∃neg,(s1.take 2 (fun t=>t.toList==(⟨#[45]⟩:ByteArray).toList)).2.2=neg:=⟨_,rfl⟩
 rw[hs2,hneg]at HP;rw[hs2]at HZ2;rw[hs2,hneg]at HT;clear hs2 hneg;go_wp2_with fail;refine HT.out.mono ?_;rintro ex wc ⟨rfl,hq,hg⟩;have HF2:=Aside0.mk (HF1.out.trans (HQ1.out.fr hg));have K2:=Aside0.mk ((HQ1.out.fr hg) _ _ K1.out);have HQ2:=Aside0.mk hq;clear HT HQ1 HF1 K1 HZ1 hq hg;obtain⟨sg,hsg⟩:∃sg,(if neg=true then(⟨#[45]⟩:ByteArray)else⟨#[]⟩)=sg:=⟨_,rfl⟩
 have hsgs:sg.size≤1:=by rw[←hsg];cases neg<;>decide
 have hc0:(wc.alloc (.cells #[.nilFunc] 29)).cell? ⟨wc.heap.size,0,none⟩=some .nilFunc:=by rw[Lib.cell_of_heap (World.alloc_heap_new wc _)];rfl
 have hf0:(wc.alloc (.cells #[.nilFunc] 29)).frozen? ⟨wc.heap.size,0,none⟩=false:=Lib.frozen_of_heap (World.alloc_heap_new wc _) 0;have hst:(Go.store ⟨wc.heap.size,0,none⟩ (.func (.func 114) #[] #[])).run Tryz.prog (wc.alloc (.cells #[.nilFunc] 29))= .ok () ((wc.alloc (.cells #[.nilFunc] 29)).setCell ⟨wc.heap.size,0,none⟩ (.func (.func 114) #[] #[])):=by
  rw[run_store _ _ _ _ _ rfl,hc0];simp[hf0]
 obtain⟨wd,hwd⟩:∃wd,(wc.alloc (.cells #[.nilFunc] 29)).setCell ⟨wc.heap.size,0,none⟩ (.func (.func 114) #[] #[])=wd:=⟨_,rfl⟩;have hb1:Below wc.heap.size wc wd:=by
  rw[←hwd];exact((Below.refl wc.heap.size wc).alloc (Nat.le_refl _) _).setCell (by simp) _
 have hn1:wd.heap[wc.heap.size]? =some (.cells #[.func (.func 114) #[] #[]] 29):=by
  rw[←hwd];exact heap_put1 (World.alloc_heap_new wc (.cells #[.nilFunc] 29)) _
 rw[hwd]at hst;have mf:wd.cell? ⟨wc.heap.size,0,none⟩=some (.func (.func 114) #[] #[]):=by rw[Lib.cell_of_heap hn1];rfl
 clear hwd hc0 hf0;have hgw:g<wc.heap.size:=by
  obtain⟨A9,c9,h9⟩:=HQ2.out;exact h9.lt
 have HQ3:=Aside0.mk (HQ2.out.step hb1);have HF3:=Aside0.mk (HF2.out.trans (Fr.below hb1));have K3:=Aside0.mk ((Fr.below hb1) _ _ K2.out);have N3:=Aside0.mk hn1;have HN:=natural0_t HQ3.out HZ2.out last hl 114 fewP enters_n1 (fun t ht W hb=>num1_t t.f1 W)
 unfold tkV at HN;have HN:=Lib.hid HN;have HZ3:=Aside0.mk (HZ2.out.nat fewP last).1;have HZa:=Aside0.mk (HZ2.out.nat fewP last).2;have HRa:=Aside0.mk (nat_res s2 fewP last);obtain⟨s3,hs3⟩:∃s3,(s2.nat fewP last).1=s3:=⟨_,rfl⟩;obtain⟨a,ha⟩:∃a,(s2.nat fewP last).2=a:=⟨_,rfl⟩;rw[hs3,ha]at HP HN;rw[hs3]at HZ3;rw[ha]at HRa HZa;clear hs3 ha hb1 hn1 HQ2 HF2 K2;obtain⟨l0,l1,l2,l3⟩:=lastC K3.out;have HSG:=Aside0.mk hsg;rcases Bool.eq_false_or_eq_true neg with hneg|hneg
 all_goals
  have hsg:=HSG.out;rw[hneg]at hsg;first
  |rw[if_neg (by decide)]at hsg
  |rw[if_pos rfl]at hsg
  subst hsg;have HNG:=Aside0.mk hneg;go_wp2_with fail;clear hneg;refine HN.out.mono ?_;rintro ex we ⟨rfl,hq,hg⟩;have HF4:=Aside0.mk (HF3.out.trans (HQ3.out.fr hg));have K4:=Aside0.mk ((HQ3.out.fr hg) _ _ K3.out);have HQ4:=Aside0.mk hq;have N4:=Aside0.mk ((hg.block _ (Array.getElem?_eq_some_iff.1 N3.out).1 (fun he=>(Nat.ne_of_gt hgw) (by injection he))).trans N3.out)
  clear HN HQ3 HF3 K3 HZ2 N3 hq hg l0 l1 l2 l3 mf hst;obtain⟨l0,l1,l2,l3⟩:=lastC K4.out;have HM2:=must_t HQ4.out ⟨#[44]⟩ last hl;unfold tkV at HM2;have HM2:=Lib.hid HM2;have HZ4:=Aside0.mk (HZ3.out.must ⟨#[44]⟩ last);generalize s3.must ⟨#[44]⟩ last=s4 at*;go_wp2_with fail;refine HM2.out.mono ?_;rintro ex wf ⟨rfl,hq,hg⟩;have HF5:=Aside0.mk (HF4.out.trans (HQ4.out.fr hg));have K5:=Aside0.mk ((HQ4.out.fr hg) _ _ K4.out);have HQ5:=Aside0.mk hq;have N5:=Aside0.mk ((hg.block _ (Array.getElem?_eq_some_iff.1 N4.out).1 (fun he=>(Nat.ne_of_gt hgw) (by injection he))).trans N4.out)
  clear HM2 HQ4 HF4 K4 HZ3 N4 hq hg l0 l1 l2 l3;obtain⟨l0,l1,l2,l3⟩:=lastC K5.out;have HN:=natural1_t HQ5.out HZ4.out last hl 116 (.pointer (some ⟨wc.heap.size,0,none⟩)) few2P enters_n2 (fun t ht W hb=>num2_t t.f1 wc.heap.size W (by
   have h9:=(hb.block _ (Array.getElem?_eq_some_iff.1 N5.out).1).trans N5.out;rw[Lib.cell_of_heap h9];rfl))
  unfold tkV at HN;have HN:=Lib.hid HN;have HZ5:=Aside0.mk (HZ4.out.nat few2P last).1;have HRb:=Aside0.mk (nat_res s4 few2P last);obtain⟨s5,hs5⟩:∃s5,(s4.nat few2P last).1=s5:=⟨_,rfl⟩;obtain⟨b,hb⟩:∃b,(s4.nat few2P last).2=b:=⟨_,rfl⟩;rw[hs5,hb]at HP HN;rw[hs5]at HZ5;rw[hb]at HRb;clear hs5 hb;go_wp2_with fail;refine HN.out.mono ?_;rintro ex wg ⟨rfl,hq,hg⟩;have HF6:=Aside0.mk (HF5.out.trans (HQ5.out.fr hg));have K6:=Aside0.mk ((HQ5.out.fr hg) _ _ K5.out);have HQ6:=Aside0.mk hq;clear HN HQ5 HF5 K5 HZ4 N5 hq hg l0 l1 l2 l3;obtain⟨l0,l1,l2,l3⟩:=lastC K6.out;have HM3:=must_t HQ6.out ⟨#[41]⟩ last hl;unfold tkV at HM3;have HM3:=Lib.hid HM3;generalize s5.must ⟨#[41]⟩ last=s6 at*;go_wp2_with fail;refine HM3.out.mono ?_;rintro ex wh ⟨rfl,hq,hg⟩;have HF7:=Aside0.mk (HF6.out.trans (HQ6.out.fr hg));have K7:=Aside0.mk ((HQ6.out.fr hg) _ _ K6.out);have HQ7:=Aside0.mk hq;clear HM3 HQ6 HF6 K6 HZ5 hq hg l0 l1 l2 l3 K7;obtain⟨xn,xd,ok,hnd,hmk⟩:=make_num neg a b HRa.out HRb.out;have HMK:=fun W hW=>Lib.hid (hmk W hW)
  have HND:=Aside0.mk hnd;have HP2:Aside0 (P=(s6,numNd neg a b)):=⟨HP.out.symm⟩;have haz:=HZa.out;clear HP hmk hnd HSG;unfold sgnN at HMK;rw[HNG.out]at HMK;by_cases hz:(a.toList==([48]:List UInt8))=true
  all_goals
   first
   |rw[if_pos hz]at HMK
   |rw[if_neg hz]at HMK
   (try rw[if_neg (by decide)]at HMK)
   (try rw[if_pos rfl]at HMK)
   have hz2:=hz;rw[beq_iff_eq]at hz2
   (try have hz3:(a.toList==([48]:List UInt8))=false:=by simpa using hz)
   have oc1:¬9223372036854775807<a.size:=by omega
   have oc2:¬9223372036854775807<1+a.size:=by omega
   have oc3:¬9223372036854775807<0+a.size:=by omega
   go_wp2_with fail;refine(HMK wh (HQ7.out.gl HG.out).g).out.mono ?_;rintro ex wi ⟨rfl,hbm⟩;have hb2:=(Below.refl wi.heap.size wi).alloc (Nat.le_refl _) (.cells #[.string xn,.string xd] 35);have HQ9:=(HQ7.out.step hbm).step hb2;have HF9:=Aside0.mk ((HF7.out.trans (Fr.below hbm)).trans (Fr.below hb2));have N9:=Aside0.mk (World.alloc_heap_new wi (.cells #[.string xn,.string xd] 35));obtain⟨Af,cf,hPB⟩:=HQ9;have HQa:=Aside0.mk hPB;clear hPB hbm hb2 HMK HQ7 HF7 hz hz2 oc1 oc2 oc3;have m1:(wi.alloc (.cells #[.string xn,.string xd] 35)).cell? ⟨wi.heap.size,0,none⟩=some (.string xn):=by rw[Lib.cell_of_heap N9.out];rfl
   have m2:(wi.alloc (.cells #[.string xn,.string xd] 35)).cell? ⟨wi.heap.size,1,none⟩=some (.string xd):=by rw[Lib.cell_of_heap N9.out];rfl
   obtain⟨d0,d1,d2,d3,d4,d5,d6⟩:=HQa.out.cells;obtain⟨r0,r1,r2,r3,r4,r5,r6⟩:=(HQa.out.step ((Below.refl _ _).drew)).cells;have hbytes:((out.map nd37).length+1)*72≤140737488355328:=by rw[List.length_map];have:=HO.out;omega
   have HQD:=Aside0.mk (HQa.out.step ((Below.refl _ _).drew));have hgl:=HQa.out.lt;go_wp2_with fail;generalize wi.alloc (.cells #[.string xn,.string xd] 35)=wk at*;go_region_law ((refine Kd.R_append_step k37 (w0:=w0) (W:=wk.drew) w0.heap.size (by rfl) (.tmp 43) (.tmp 46) 24 37 (.agg #[.int .i64 0,.string ⟨#[]⟩,.string ⟨#[]⟩,.string ⟨#[]⟩,.int .i64 0,.int .i64 0]) 72 (by rfl) Tryz.underlying24 info37 (by rfl) (by decide) (by omega) ov (out.map nd37) (⟨0,⟨xn,xd⟩,⟨#[]⟩,0,0⟩:S37) [.int .i64 0,.string xn,.string xd,.string ⟨#[]⟩,.int .i64 0,.int .i64 0] (fun k=>k≠g) (fun _=>False) (by rfl) (by rfl) (k37_mkM _ _ _ (⟨0,⟨xn,xd⟩,⟨#[]⟩,0,0⟩:S37)) (fun _ hk=>hk.elim) (fun k hk=>by have:=HQa.out.lt;have:=HQD.out.lt;omega) HQD.out.ou HQD.out.bl HQD.out.bl.size hbytes ?_;intro v1 w1 hv1 hb1 hg1 ho1;have hl1:(out.map nd37++[(⟨0,⟨xn,xd⟩,⟨#[]⟩,0,0⟩:S37)]).length=out.length+1:=(by simp);obtain⟨Av,cv,hvv⟩:=Kd.R_slice hv1;rw[hl1]at hvv;subst hvv;have hk1:=(hg1.block g HQD.out.lt (fun hh=>HQD.out.ou.1 _ hh.symm rfl)).trans HQD.out.blk;have hz1:w1.frozen? ⟨g,2,none⟩=false:=Lib.frozen_of_heap hk1 2;have hc1:w1.cell? ⟨g,2,none⟩=some ov:=(by rw[Lib.cell_of_heap hk1];rfl);have HK1:=Aside0.mk hk1;clear hk1))
   all_goals(
    have HQ6':=HQD.out.newO hb1 hg1 (out1:=out++[(numNd neg a b)]) (by rw[List.map_append,List.map_cons,List.map_nil,HND.out];exact hv1)
    have HF7':=(HF9.out.trans ((Fr.below ((Below.refl wk.heap.size wk).drew)).trans (HQD.out.frO hg1))).trans (Fr.grown (gst (World.grownBy.refl w1 (some g)) 2 (.slice Av (out.length+1) cv)) (fun k hk=>by injection hk with hk;subst hk;exact⟨_,_,HK1.out,by decide⟩))
    go_wp2_with fail;first
    |(refine bodyPost_end (v:= .tuple #[]) (by simp[results,Tryz.f80,go_sem]) rfl ?_;rw[HP2.out];exact⟨rfl,⟨_,Af,cf,HQ6'⟩,HF7'⟩)
    |(refine bodyPost_end (v:= .tuple #[]) (by simp[results,Tryz.f80,go_sem]) rfl ?_;rw[HP2.out];exact⟨rfl,⟨_,Af,cf,HQ6'.step ((Below.refl _ _).drew)⟩,HF7'.trans (Fr.below ((Below.refl _ _).drew))⟩))
end Go.Proofs.YtjopepfemhckjaaGreatDoor.NW
end
