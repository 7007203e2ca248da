/-
  Part 13 of the proof of parseTells_holds: texts of this seat, put together.
-/
import Derived.Test.YtjopepfemhckjaaGreatDoorTl12
set_option linter.unusedVariables false
set_option linter.unusedSimpArgs false
set_option maxHeartbeats 16000000
set_option maxRecDepth 100000
section
namespace Go.Proofs.YtjopepfemhckjaaGreatDoor.NW
open Go.Proofs Go.RowKit Go.Shelf Go.Proofs.YtjopepfemhckjaaGreatDoor.PN Go.Proofs.YtjopepfemhckjaaGreatDoorW.PrintWords Go.Proofs.YtjopepfemhckjaaGreatDoor.PParseTells
def ar:Nd→Nat
 | .num _ _=>0
 | .px _ _=>0
 | .raw _=>0
 | .op k=>if k=5 then 1 else if k≤11 then 2 else 3
def nd37:Nd→S37
 | .num z d=>⟨0,⟨intS z,natS d⟩,⟨#[]⟩,0,0⟩
 | .px s a=>⟨1,⟨⟨#[]⟩,⟨#[]⟩⟩,s,a,0⟩
 | .raw x=>x
 | .op k=>⟨k,⟨⟨#[]⟩,⟨#[]⟩⟩,⟨#[]⟩,0,0⟩
def opI:Nd→Int
 | .num _ _=>0
 | .px _ _=>1
 | .raw x=>x.f0
 | .op k=>k
theorem arity_at (n:Nd)(h:match n with| .op k=>5≤k∧k≤12| .raw x=>0≤x.f0∧x.f0≤4|_=>True)(w:World):
 Calls Tryz.prog 79 #[.int .i64 (opI n)] w fun e w'=>e= .returned (.int .i64 (ar n))∧Below w.heap.size w w':=by
 refine(term_Arity.calls 20 _ _ w ?_).mono (fun e w' h=>by obtain⟨h1,nd,rfl⟩:=h;exact⟨h1,ze (xb _ _) nd⟩)
 cases n with
 |num z d=>rfl
 |px s a=>rfl
 |op k=>
  obtain⟨h1,h2⟩:=h;have:k=5∨k=6∨k=7∨k=8∨k=9∨k=10∨k=11∨k=12:=by omega
  rcases this with rfl|rfl|rfl|rfl|rfl|rfl|rfl|rfl<;>rfl
 |raw x=>
  obtain⟨k,p,s,a,b⟩:=x;obtain⟨h1,h2⟩:=h;simp only at h1 h2;have:k=0∨k=1∨k=2∨k=3∨k=4:=by omega
  rcases this with rfl|rfl|rfl|rfl|rfl<;>rfl
theorem NdOK.range {M:Nat}{n:Nd}:NdOK M n→match n with| .op k=>5≤k∧k≤12| .raw x=>0≤x.f0∧x.f0≤4|_=>True:=by
 intro h;cases n with
 |num z d=>trivial
 |px s a=>trivial
 |op k=>exact h
 |raw x=>
  have:=h.k;show 0≤x.f0∧x.f0≤4
  omega
def stp {α:Type}(f:Nd→List α→α)(n:Nd)(st:List α):Option (List α):=
 if ar n≤st.length then some (st.take (st.length-ar n)++[f n (st.drop (st.length-ar n))])else none
def runF {α:Type}(f:Nd→List α→α):List Nd→List α→Option (List α)
 |[],st=>some st
 |n::t,st=>(stp f n st).bind (runF f t)
theorem qS:(Tryz.prog.info? 9).map (fun i=>(i.zero,i.size,i.bytes))=some (some (.string ⟨#[]⟩),1,16):=by kernel_rfl
theorem zZ:(Tryz.prog.info? 3).map (fun i=>(i.zero,i.size,i.bytes))=some (some (.int .i64 0),1,8):=by kernel_rfl
def foldSNode (M:Nat)(f:Nd→List ByteArray→ByteArray)(ok:Nd→List ByteArray→Prop):Prop:=
 ∀(n:Nd) (st:List ByteArray) (A:Option Addr) (c:Nat) (w:World),NdOK M n→ar n≤st.length→ok n st→Glob w→st.length≤c→(0<st.length→∃g,A=some ⟨g,0,none⟩∧g<w.heap.size)→Kd.C Kd.string w A st.length st→
  ∀v,(A=none→v= .slice none 0 0)→(∀ad,A=some ad→v= .slice (if c=st.length-ar n then some ad else some (ad.add (st.length-ar n))) (st.length-(st.length-ar n)) (c-(st.length-ar n)))→
  Calls Tryz.prog 82 #[ndV n,v] w fun e w'=>e= .returned (.tuple #[.string (f n (st.drop (st.length-ar n))),.bool true])∧Below w.heap.size w w'
theorem foldS_at (M:Nat)(f:Nd→List ByteArray→ByteArray)(J:List Nd→List ByteArray→Prop)(ok:Nd→List ByteArray→Prop)(HN:foldSNode M f ok)(hJ:∀n t st st',J (n::t) st→stp f n st=some st'→ok n st∧J t st')(ns:List Nd)(hns:∀n∈ns,NdOK M n)(hlen:ns.length≤2000)(R:ByteArray)(hrun:runF f ns []=some [R])(hJ0:J ns [])(A:Option Addr)(c:Nat)(w:World)(hC:Kd.C k37 w A ns.length (ns.map nd37))(hc:ns.length≤c)(hA:∀ad,A=some ad→ad.block<w.heap.size)(hg:Glob w):
 Calls Tryz.prog 81 #[.slice A ns.length c,.func (.func 82) #[] #[]] w fun e w'=>e= .returned (.tuple #[.string R,.bool true])∧Below w.heap.size w w':=by
 have HG:=zc.mk hg;have HC:=zc.mk hC;have HRUN:=zc.mk hrun;have HJ0:=zc.mk hJ0;have HL:=zc.mk hlen;have hl2:(ns.length:Int)≤2000:=by omega
 clear hC hrun hg hlen hJ0;go_enter Tryz.func81,Tryz.ntmps81
 go_wp2_with fail;go_loopg [7,19] (ns.length+1) (fun kq v7 v19 w'=>∃(i:Nat) (st:List ByteArray),v19= .int .i64 (i:Int)∧i+kq=ns.length+1∧i≤ns.length∧zc (Kd.R Kd.string 9 w' w.heap.size (fun _=>True) v7 st)∧zc (Below w.heap.size w w')∧zc (runF f (ns.drop i) st=some [R])∧zc (J (ns.drop i) st)∧st.length≤i)
 case atStart=>exact⟨0,[],rfl,by omega,by omega,⟨Kd.R_nil _ _ _ _ _⟩,⟨xb _ _⟩,HRUN,HJ0,by simp⟩
 case round=>
  obtain⟨i,st,rfl,hi,hin,HR,HB,HS,HJ,hst⟩:=hrel;by_cases hie:i=ns.length
  ·subst hie
   have hst1:st=[R]:=by
    have h:=HS.out;rw[List.drop_length]at h;simpa[runF]using h
   subst hst1;obtain⟨g,cap,rfl,hbg,hgw,_⟩:=Kd.R_form HR.out (by simp)
   have hcell:wr.cell? ⟨g,0,none⟩=some (.string R):=(Kd.R_cell (ByteArray.empty) HR.out 0 (by omega) (by simp)).1
   have BB:=HB.out;clear HR HB HS HJ hJ HN hns HC HRUN HJ0 HL hgw hbg;go_wp2_with fail;refine bodyPost_ret (results_tmp2 rfl _ _ _) rfl ?_;exact⟨rfl,BB⟩
  ·have hlt:i<ns.length:=by omega
   have hilt:(i:Int)<(ns.length:Int):=by omega
   obtain⟨n,hn⟩:∃n,ns[i]=n:=⟨_,rfl⟩;have hd:ns.drop i=n::ns.drop (i+1):=by rw[List.drop_eq_getElem_cons hlt,hn]
   have HS2:=HS.out;rw[hd]at HS2;have HJ2:=HJ.out;rw[hd]at HJ2;obtain⟨st2,hst2⟩:∃st2,stp f n st=some st2:=by
    cases h:stp f n st with
    |none=>rw[runF,h]at HS2;cases HS2
    |some x=>exact⟨x,rfl⟩
   rw[runF,hst2]at HS2;have hok:=(hJ n _ st st2 HJ2 hst2).1;have HJ3:=zc.mk (hJ n _ st st2 HJ2 hst2).2;have hnm:=hns n (by rw[←hn];exact List.getElem_mem hlt)
   have har:ar n≤st.length:=by
    unfold stp at hst2;split at hst2
    ·assumption
    ·cases hst2
   have hst3:st2=st.take (st.length-ar n)++[f n (st.drop (st.length-ar n))]:=by
    unfold stp at hst2;rw[if_pos har]at hst2;exact(Option.some.inj hst2).symm
   subst hst3;have HS3:zc (runF f (ns.drop (i+1)) (st.take (st.length-ar n)++[f n (st.drop (st.length-ar n))])=some [R]):=⟨HS2⟩;have hx:rd_T37 (ns.map nd37) (i:Int)=nd37 n:=by
    unfold rd_T37;rw[xa,List.getD_eq_getElem?_getD,List.getElem?_map,List.getElem?_eq_getElem hlt,hn];rfl
   obtain⟨ad,hAd,q0,q1,q2,q3,q4,q5⟩:=at_T37 (Kd.C_below HC.out HB.out) (i:Int) (by omega) (by omega)
   rw[hx]at q0 q1 q2 q3 q4 q5;rw[xa]at q0 q1 q2 q3 q4 q5;have H1:=fun W=>Lib.hid (arity_at n (NdOK.range hnm) W)
   have hop:(nd37 n).f0=opI n:=by cases n<;>rfl
   rw[hop]at q0;obtain⟨A7,c7,rfl,hc7,hC7⟩:=Kd.R_reads HR.out;have hA7:0<st.length→∃g,A7=some ⟨g,0,none⟩∧g<wr.heap.size:=by
    intro hp;obtain⟨g,cap,e,_,hgw,_⟩:=Kd.R_form HR.out hp;injection e with e1 _ _;exact⟨_,e1,hgw⟩
   have hc70:A7=none→c7=0:=by
    intro e;obtain⟨inner,hown⟩:=Kd.R_own HR.out;rcases hown.2 with⟨hv,h0⟩|⟨g,cap,cur,hv,_⟩
    ·injection hv with _ _ h
    ·rw[e]at hv;injection hv with h;cases h
   have k0:=j7 wr (.cells #[.int .i64 (opI n),.string (nd37 n).f1.f0,.string (nd37 n).f1.f1,.string (nd37 n).f2,.int .i64 (nd37 n).f3,.int .i64 (nd37 n).f4] 37);have B0:Below wr.heap.size wr (wr.alloc (.cells #[.int .i64 (opI n),.string (nd37 n).f1.f0,.string (nd37 n).f1.f1,.string (nd37 n).f2,.int .i64 (nd37 n).f3,.int .i64 (nd37 n).f4] 37)):=(xb _ wr).alloc (xc _) _;have hnv:ndV n= .agg #[.int .i64 (opI n),.string (nd37 n).f1.f0,.string (nd37 n).f1.f1,.string (nd37 n).f2,.int .i64 (nd37 n).f3,.int .i64 (nd37 n).f4]:=by cases n<;>rfl
   obtain⟨m,hm⟩:∃m,st.length-ar n=m:=⟨_,rfl⟩;have H2:∀W v,Below wr.heap.size wr W→(A7=none→v= .slice none 0 0)→(∀ad,A7=some ad→v= .slice (if c7=m then some ad else some (ad.add m)) (st.length-m) (c7-m))→Calls Tryz.prog 82 #[.agg #[.int .i64 (opI n),.string (nd37 n).f1.f0,.string (nd37 n).f1.f1,.string (nd37 n).f2,.int .i64 (nd37 n).f3,.int .i64 (nd37 n).f4],v] W fun e w'=>e= .returned (.tuple #[.string (f n (st.drop m)),.bool true])∧Below W.heap.size W w':=by
    intro W v hb hv0 hv;have h:=HN n st A7 c7 W hnm har hok (HG.out.below (HB.out.trans (hb.mono HB.out.size))) hc7 (fun hp=>by obtain⟨ad,e,hl⟩:=hA7 hp;exact⟨ad,e,Nat.lt_of_lt_of_le hl hb.size⟩) (Kd.C_below hC7 hb) v hv0 (by rw[hm];exact hv)
    rw[hm,hnv]at h;exact h
   have hmL:(m:Int)≤(st.length:Int):=by omega
   have hm0:0≤(m:Int):=by omega
   have harI:(ar n:Int)≤(st.length:Int):=by omega
   have har0:¬(ar n:Int)<0:=by omega
   have har1:¬(st.length:Int)<(ar n:Int):=by omega
   have hw1:IntKind.i64.wrap ((st.length:Int)-(ar n:Int))=(m:Int):=by simp[j9];omega
   rw[hm]at HS3 HJ3;have hstm:(st.take m).length=m:=by rw[List.length_take];omega
   have hmi:m≤i:=by omega
   have hmc:m≤c7:=by omega
   have hmcI:(m:Int)≤(c7:Int):=by omega
   generalize f n (st.drop m)=x at*;have HST:=zc.mk hstm;clear HS HJ HS2 HJ2 hst2 hd hx hC7 hok hnm HN hJ hns hnv hstm HRUN HJ0 HC;subst hAd;generalize (nd37 n).f1.f0=z1 at*;generalize (nd37 n).f1.f1=z2 at*;generalize (nd37 n).f2=z3 at*;generalize (nd37 n).f3=z4 at*;generalize (nd37 n).f4=z5 at*;generalize opI n=z0 at*;generalize ar n=a at*;generalize hL:st.length=L at*;have hdec:(decide ((a:Int)<0)||decide (L<a))=false:=by simp;omega
   have harN:¬L<a:=by omega
   go_wp2_with fail;generalize wr.alloc (.cells #[.int .i64 z0,.string z1,.string z2,.string z3,.int .i64 z4,.int .i64 z5] 37)=w0 at*;refine(H1 _).out.mono ?_;rintro e w1 ⟨rfl,hb1⟩;have k1:=(hb1.block _ (xe k0).1).trans k0;have B1:=B0.trans (hb1.mono B0.size);clear k0 B0 hb1 H1 q0 q1 q2 q3 q4 q5;have hSB:∀w':World,Below w1.heap.size w1 w'→w'.cell? ⟨wr.heap.size,0,none⟩=some (.int .i64 z0)∧w'.cell? ⟨wr.heap.size,1,none⟩=some (.string z1)∧w'.cell? ⟨wr.heap.size,2,none⟩=some (.string z2)∧w'.cell? ⟨wr.heap.size,3,none⟩=some (.string z3)∧w'.cell? ⟨wr.heap.size,4,none⟩=some (.int .i64 z4)∧w'.cell? ⟨wr.heap.size,5,none⟩=some (.int .i64 z5):=by
    intro w' hb;have k':=(hb.block _ (xe k1).1).trans k1;refine⟨?_,?_,?_,?_,?_,?_⟩<;>(rw[j6 k'];rfl)
   have HBB:=zc.mk B1;have HB1:=zc.mk HB.out;have HR1:=zc.mk HR.out;clear HB HR;have HB:=zc.mk (xb w1.heap.size w1);have H2':∀W v,Below w1.heap.size w1 W→(A7=none→v= .slice none 0 0)→(∀ad,A7=some ad→v= .slice (if c7=m then some ad else some (ad.add m)) (L-m) (c7-m))→RowKit.Hid (Calls Tryz.prog 82 #[.agg #[.int .i64 z0,.string z1,.string z2,.string z3,.int .i64 z4,.int .i64 z5],v] W fun e w'=>e= .returned (.tuple #[.string x,.bool true])∧Below W.heap.size W w'):=fun W v hb hv0 hv=>Lib.hid (H2 W v (HBB.out.trans (hb.mono HBB.out.size)) hv0 hv)
   clear H2;cases A7 with
   |none=>
    have hL0:L=0:=by
     rcases Nat.eq_zero_or_pos L with h|h
     ·exact h
     ·obtain⟨ad,e,_⟩:=hA7 h
      cases e
    subst hL0;have hc7z:=hc70 rfl;subst hc7z;have hm00:m=0:=by omega
    have ha00:a=0:=by omega
    have hwz:IntKind.i64.wrap 0=0:=rfl;subst hm00 ha00;go_wp2_with fail;go_region_held3 (fun w':World=>w'.cell? ⟨wr.heap.size,0,none⟩=some (.int .i64 z0)∧w'.cell? ⟨wr.heap.size,1,none⟩=some (.string z1)∧w'.cell? ⟨wr.heap.size,2,none⟩=some (.string z2)∧w'.cell? ⟨wr.heap.size,3,none⟩=some (.string z3)∧w'.cell? ⟨wr.heap.size,4,none⟩=some (.int .i64 z4)∧w'.cell? ⟨wr.heap.size,5,none⟩=some (.int .i64 z5)) (exact hSB _ bb) (first|(go_at_call 82;with_reducible refine(H2' _ _ ?_ ?_ ?_).out.mono ?_;(exact bb);(intro _;rfl);(intro ad e;cases e);rintro e w' ⟨rfl,hb⟩;have n0:=zc.mk (zi bb hb);clear HB hb;have HB:=n0;clear n0))
    have B2:=HBB.out.trans (HB.out.mono HBB.out.size);have HR2:=Kd.R_take (Kd.R_below HR1.out B2) (m:=0) (by rw[hL];omega)
    have HO:=zc.mk HR2;have HB2:=zc.mk (HB1.out.trans (B2.mono HB1.out.size));have hbytes:(((st.take 0).length+1)*16)≤140737488355328:=by rw[HST.out];omega
    clear HR2 B2 hSB HB H2' HBB HR1 HB1;go_wp2_with(at_builtin;refine Kd.R_append Kd.string (w0:=w) w.heap.size rfl (.tmp 55) (.tmp 57) 60 9 (.string ⟨#[]⟩) 16 rfl Tryz.underlying60 qS rfl (by decide) (by omega) (.slice none 0 0) (st.take 0) x [.string x] (fun _=>True) (fun _=>False) rfl rfl rfl (fun _ hk=>hk.elim) ?aF ?aO ?aB ?aS ?aL ?_)
    case aF=>exact fun _ _=>trivial
    case aO=>exact HO.out
    case aB=>exact HB2.out
    case aS=>exact HB2.out.size
    case aL=>exact hbytes
    intro v4 w4 hv4 hb4 hg4 ho4;go_wp2;go_roundg (gk-1)
    case measure=>omega
    case rel=>exact⟨i+1,_,rfl,by omega,by omega,⟨hv4⟩,⟨hb4⟩,HS3,HJ3,by first|(rw[List.length_append,HST.out];simp;omega)|(simp;omega)|simp⟩
   |some ad7=>
    by_cases hcm:c7=m
    ·subst hcm
     go_wp2_with fail;go_region_held3 (fun w':World=>w'.cell? ⟨wr.heap.size,0,none⟩=some (.int .i64 z0)∧w'.cell? ⟨wr.heap.size,1,none⟩=some (.string z1)∧w'.cell? ⟨wr.heap.size,2,none⟩=some (.string z2)∧w'.cell? ⟨wr.heap.size,3,none⟩=some (.string z3)∧w'.cell? ⟨wr.heap.size,4,none⟩=some (.int .i64 z4)∧w'.cell? ⟨wr.heap.size,5,none⟩=some (.int .i64 z5)) (exact hSB _ bb) (first|(go_at_call 82;with_reducible refine(H2' _ _ ?_ ?_ ?_).out.mono ?_;(exact bb);(intro e;cases e);(intro ad e;injection e with e;subst e;simp;omega);rintro e w' ⟨rfl,hb⟩;have n0:=zc.mk (zi bb hb);clear HB hb;have HB:=n0;clear n0))
     have B2:=HBB.out.trans (HB.out.mono HBB.out.size);have HR2:=Kd.R_take (Kd.R_below HR1.out B2) (m:=c7) (by rw[hL];omega)
     have HO:=zc.mk HR2;have HB2:=zc.mk (HB1.out.trans (B2.mono HB1.out.size));have hbytes:(((st.take c7).length+1)*16)≤140737488355328:=by rw[HST.out];omega
     clear HR2 B2 hSB HB H2' HBB HR1 HB1;go_wp2_with(at_builtin;refine Kd.R_append Kd.string (w0:=w) w.heap.size rfl (.tmp 55) (.tmp 57) 60 9 (.string ⟨#[]⟩) 16 rfl Tryz.underlying60 qS rfl (by decide) (by omega) (.slice (some ad7) c7 c7) (st.take c7) x [.string x] (fun _=>True) (fun _=>False) rfl rfl rfl (fun _ hk=>hk.elim) ?aF ?aO ?aB ?aS ?aL ?_)
     case aF=>exact fun _ _=>trivial
     case aO=>exact HO.out
     case aB=>exact HB2.out
     case aS=>exact HB2.out.size
     case aL=>exact hbytes
     intro v4 w4 hv4 hb4 hg4 ho4;go_wp2;go_roundg (gk-1)
     case measure=>omega
     case rel=>exact⟨i+1,_,rfl,by omega,by omega,⟨hv4⟩,⟨hb4⟩,HS3,HJ3,by first|(rw[List.length_append,HST.out];simp;omega)|(simp;omega)|simp⟩
    ·skip
     go_wp2_with fail;go_region_held3 (fun w':World=>w'.cell? ⟨wr.heap.size,0,none⟩=some (.int .i64 z0)∧w'.cell? ⟨wr.heap.size,1,none⟩=some (.string z1)∧w'.cell? ⟨wr.heap.size,2,none⟩=some (.string z2)∧w'.cell? ⟨wr.heap.size,3,none⟩=some (.string z3)∧w'.cell? ⟨wr.heap.size,4,none⟩=some (.int .i64 z4)∧w'.cell? ⟨wr.heap.size,5,none⟩=some (.int .i64 z5)) (exact hSB _ bb) (first|(go_at_call 82;with_reducible refine(H2' _ _ ?_ ?_ ?_).out.mono ?_;(exact bb);(intro e;cases e);(intro ad e;injection e with e;subst e;rw[if_neg hcm]);rintro e w' ⟨rfl,hb⟩;have n0:=zc.mk (zi bb hb);clear HB hb;have HB:=n0;clear n0))
     have B2:=HBB.out.trans (HB.out.mono HBB.out.size);have HR2:=Kd.R_take (Kd.R_below HR1.out B2) (m:=m) (by rw[hL];omega)
     have HO:=zc.mk HR2;have HB2:=zc.mk (HB1.out.trans (B2.mono HB1.out.size));have hbytes:(((st.take m).length+1)*16)≤140737488355328:=by rw[HST.out];omega
     clear HR2 B2 hSB HB H2' HBB HR1 HB1;go_wp2_with(at_builtin;refine Kd.R_append Kd.string (w0:=w) w.heap.size rfl (.tmp 55) (.tmp 57) 60 9 (.string ⟨#[]⟩) 16 rfl Tryz.underlying60 qS rfl (by decide) (by omega) (.slice (some ad7) m c7) (st.take m) x [.string x] (fun _=>True) (fun _=>False) rfl rfl rfl (fun _ hk=>hk.elim) ?aF ?aO ?aB ?aS ?aL ?_)
     case aF=>exact fun _ _=>trivial
     case aO=>exact HO.out
     case aB=>exact HB2.out
     case aS=>exact HB2.out.size
     case aL=>exact hbytes
     intro v4 w4 hv4 hb4 hg4 ho4;go_wp2;go_roundg (gk-1)
     case measure=>omega
     case rel=>exact⟨i+1,_,rfl,by omega,by omega,⟨hv4⟩,⟨hb4⟩,HS3,HJ3,by first|(rw[List.length_append,HST.out];simp;omega)|(simp;omega)|simp⟩
def foldINode (M:Nat)(f:Nd→List Int→Int)(ok:Nd→List Int→Prop):Prop:=
 ∀(n:Nd) (st:List Int) (A:Option Addr) (c:Nat) (w:World),NdOK M n→ar n≤st.length→ok n st→Glob w→st.length≤c→(0<st.length→∃g,A=some ⟨g,0,none⟩∧g<w.heap.size)→Kd.C (Kd.int .i64) w A st.length st→
  ∀v,(A=none→v= .slice none 0 0)→(∀ad,A=some ad→v= .slice (if c=st.length-ar n then some ad else some (ad.add (st.length-ar n))) (st.length-(st.length-ar n)) (c-(st.length-ar n)))→
  Calls Tryz.prog 84 #[ndV n,v] w fun e w'=>e= .returned (.tuple #[.int .i64 (f n (st.drop (st.length-ar n))),.bool true])∧Below w.heap.size w w'
theorem foldI_at (M:Nat)(f:Nd→List Int→Int)(J:List Nd→List Int→Prop)(ok:Nd→List Int→Prop)(HN:foldINode M f ok)(hJ:∀n t st st',J (n::t) st→stp f n st=some st'→ok n st∧J t st')(ns:List Nd)(hns:∀n∈ns,NdOK M n)(hlen:ns.length≤2000)(R:Int)(hrun:runF f ns []=some [R])(hJ0:J ns [])(A:Option Addr)(c:Nat)(w:World)(hC:Kd.C k37 w A ns.length (ns.map nd37))(hc:ns.length≤c)(hA:∀ad,A=some ad→ad.block<w.heap.size)(hg:Glob w):
 Calls Tryz.prog 83 #[.slice A ns.length c,.func (.func 84) #[] #[]] w fun e w'=>e= .returned (.tuple #[.int .i64 R,.bool true])∧Below w.heap.size w w':=by
 have HG:=zc.mk hg;have HC:=zc.mk hC;have HRUN:=zc.mk hrun;have HJ0:=zc.mk hJ0;have HL:=zc.mk hlen;have hl2:(ns.length:Int)≤2000:=by omega
 clear hC hrun hg hlen hJ0;go_enter Tryz.func83,Tryz.ntmps83
 go_wp2_with fail;go_loopg [7,19] (ns.length+1) (fun kq v7 v19 w'=>∃(i:Nat) (st:List Int),v19= .int .i64 (i:Int)∧i+kq=ns.length+1∧i≤ns.length∧zc (Kd.R (Kd.int .i64) 3 w' w.heap.size (fun _=>True) v7 st)∧zc (Below w.heap.size w w')∧zc (runF f (ns.drop i) st=some [R])∧zc (J (ns.drop i) st)∧st.length≤i)
 case atStart=>exact⟨0,[],rfl,by omega,by omega,⟨Kd.R_nil _ _ _ _ _⟩,⟨xb _ _⟩,HRUN,HJ0,by simp⟩
 case round=>
  obtain⟨i,st,rfl,hi,hin,HR,HB,HS,HJ,hst⟩:=hrel;by_cases hie:i=ns.length
  ·subst hie
   have hst1:st=[R]:=by
    have h:=HS.out;rw[List.drop_length]at h;simpa[runF]using h
   subst hst1;obtain⟨g,cap,rfl,hbg,hgw,_⟩:=Kd.R_form HR.out (by simp)
   have hcell:wr.cell? ⟨g,0,none⟩=some (.int .i64 R):=(Kd.R_cell (0) HR.out 0 (by omega) (by simp)).1
   have BB:=HB.out;clear HR HB HS HJ hJ HN hns HC HRUN HJ0 HL hgw hbg;go_wp2_with fail;refine bodyPost_ret (results_tmp2 rfl _ _ _) rfl ?_;exact⟨rfl,BB⟩
  ·have hlt:i<ns.length:=by omega
   have hilt:(i:Int)<(ns.length:Int):=by omega
   obtain⟨n,hn⟩:∃n,ns[i]=n:=⟨_,rfl⟩;have hd:ns.drop i=n::ns.drop (i+1):=by rw[List.drop_eq_getElem_cons hlt,hn]
   have HS2:=HS.out;rw[hd]at HS2;have HJ2:=HJ.out;rw[hd]at HJ2;obtain⟨st2,hst2⟩:∃st2,stp f n st=some st2:=by
    cases h:stp f n st with
    |none=>rw[runF,h]at HS2;cases HS2
    |some x=>exact⟨x,rfl⟩
   rw[runF,hst2]at HS2;have hok:=(hJ n _ st st2 HJ2 hst2).1;have HJ3:=zc.mk (hJ n _ st st2 HJ2 hst2).2;have hnm:=hns n (by rw[←hn];exact List.getElem_mem hlt)
   have har:ar n≤st.length:=by
    unfold stp at hst2;split at hst2
    ·assumption
    ·cases hst2
   have hst3:st2=st.take (st.length-ar n)++[f n (st.drop (st.length-ar n))]:=by
    unfold stp at hst2;rw[if_pos har]at hst2;exact(Option.some.inj hst2).symm
   subst hst3;have HS3:zc (runF f (ns.drop (i+1)) (st.take (st.length-ar n)++[f n (st.drop (st.length-ar n))])=some [R]):=⟨HS2⟩;have hx:rd_T37 (ns.map nd37) (i:Int)=nd37 n:=by
    unfold rd_T37;rw[xa,List.getD_eq_getElem?_getD,List.getElem?_map,List.getElem?_eq_getElem hlt,hn];rfl
   obtain⟨ad,hAd,q0,q1,q2,q3,q4,q5⟩:=at_T37 (Kd.C_below HC.out HB.out) (i:Int) (by omega) (by omega)
   rw[hx]at q0 q1 q2 q3 q4 q5;rw[xa]at q0 q1 q2 q3 q4 q5;have H1:=fun W=>Lib.hid (arity_at n (NdOK.range hnm) W)
   have hop:(nd37 n).f0=opI n:=by cases n<;>rfl
   rw[hop]at q0;obtain⟨A7,c7,rfl,hc7,hC7⟩:=Kd.R_reads HR.out;have hA7:0<st.length→∃g,A7=some ⟨g,0,none⟩∧g<wr.heap.size:=by
    intro hp;obtain⟨g,cap,e,_,hgw,_⟩:=Kd.R_form HR.out hp;injection e with e1 _ _;exact⟨_,e1,hgw⟩
   have hc70:A7=none→c7=0:=by
    intro e;obtain⟨inner,hown⟩:=Kd.R_own HR.out;rcases hown.2 with⟨hv,h0⟩|⟨g,cap,cur,hv,_⟩
    ·injection hv with _ _ h
    ·rw[e]at hv;injection hv with h;cases h
   have k0:=j7 wr (.cells #[.int .i64 (opI n),.string (nd37 n).f1.f0,.string (nd37 n).f1.f1,.string (nd37 n).f2,.int .i64 (nd37 n).f3,.int .i64 (nd37 n).f4] 37);have B0:Below wr.heap.size wr (wr.alloc (.cells #[.int .i64 (opI n),.string (nd37 n).f1.f0,.string (nd37 n).f1.f1,.string (nd37 n).f2,.int .i64 (nd37 n).f3,.int .i64 (nd37 n).f4] 37)):=(xb _ wr).alloc (xc _) _;have hnv:ndV n= .agg #[.int .i64 (opI n),.string (nd37 n).f1.f0,.string (nd37 n).f1.f1,.string (nd37 n).f2,.int .i64 (nd37 n).f3,.int .i64 (nd37 n).f4]:=by cases n<;>rfl
   obtain⟨m,hm⟩:∃m,st.length-ar n=m:=⟨_,rfl⟩;have H2:∀W v,Below wr.heap.size wr W→(A7=none→v= .slice none 0 0)→(∀ad,A7=some ad→v= .slice (if c7=m then some ad else some (ad.add m)) (st.length-m) (c7-m))→Calls Tryz.prog 84 #[.agg #[.int .i64 (opI n),.string (nd37 n).f1.f0,.string (nd37 n).f1.f1,.string (nd37 n).f2,.int .i64 (nd37 n).f3,.int .i64 (nd37 n).f4],v] W fun e w'=>e= .returned (.tuple #[.int .i64 (f n (st.drop m)),.bool true])∧Below W.heap.size W w':=by
    intro W v hb hv0 hv;have h:=HN n st A7 c7 W hnm har hok (HG.out.below (HB.out.trans (hb.mono HB.out.size))) hc7 (fun hp=>by obtain⟨ad,e,hl⟩:=hA7 hp;exact⟨ad,e,Nat.lt_of_lt_of_le hl hb.size⟩) (Kd.C_below hC7 hb) v hv0 (by rw[hm];exact hv)
    rw[hm,hnv]at h;exact h
   have hmL:(m:Int)≤(st.length:Int):=by omega
   have hm0:0≤(m:Int):=by omega
   have harI:(ar n:Int)≤(st.length:Int):=by omega
   have har0:¬(ar n:Int)<0:=by omega
   have har1:¬(st.length:Int)<(ar n:Int):=by omega
   have hw1:IntKind.i64.wrap ((st.length:Int)-(ar n:Int))=(m:Int):=by simp[j9];omega
   rw[hm]at HS3 HJ3;have hstm:(st.take m).length=m:=by rw[List.length_take];omega
   have hmi:m≤i:=by omega
   have hmc:m≤c7:=by omega
   have hmcI:(m:Int)≤(c7:Int):=by omega
   generalize f n (st.drop m)=x at*;have HST:=zc.mk hstm;clear HS HJ HS2 HJ2 hst2 hd hx hC7 hok hnm HN hJ hns hnv hstm HRUN HJ0 HC;subst hAd;generalize (nd37 n).f1.f0=z1 at*;generalize (nd37 n).f1.f1=z2 at*;generalize (nd37 n).f2=z3 at*;generalize (nd37 n).f3=z4 at*;generalize (nd37 n).f4=z5 at*;generalize opI n=z0 at*;generalize ar n=a at*;generalize hL:st.length=L at*;have hdec:(decide ((a:Int)<0)||decide (L<a))=false:=by simp;omega
   have harN:¬L<a:=by omega
   go_wp2_with fail;generalize wr.alloc (.cells #[.int .i64 z0,.string z1,.string z2,.string z3,.int .i64 z4,.int .i64 z5] 37)=w0 at*;refine(H1 _).out.mono ?_;rintro e w1 ⟨rfl,hb1⟩;have k1:=(hb1.block _ (xe k0).1).trans k0;have B1:=B0.trans (hb1.mono B0.size);clear k0 B0 hb1 H1 q0 q1 q2 q3 q4 q5;have hSB:∀w':World,Below w1.heap.size w1 w'→w'.cell? ⟨wr.heap.size,0,none⟩=some (.int .i64 z0)∧w'.cell? ⟨wr.heap.size,1,none⟩=some (.string z1)∧w'.cell? ⟨wr.heap.size,2,none⟩=some (.string z2)∧w'.cell? ⟨wr.heap.size,3,none⟩=some (.string z3)∧w'.cell? ⟨wr.heap.size,4,none⟩=some (.int .i64 z4)∧w'.cell? ⟨wr.heap.size,5,none⟩=some (.int .i64 z5):=by
    intro w' hb;have k':=(hb.block _ (xe k1).1).trans k1;refine⟨?_,?_,?_,?_,?_,?_⟩<;>(rw[j6 k'];rfl)
   have HBB:=zc.mk B1;have HB1:=zc.mk HB.out;have HR1:=zc.mk HR.out;clear HB HR;have HB:=zc.mk (xb w1.heap.size w1);have H2':∀W v,Below w1.heap.size w1 W→(A7=none→v= .slice none 0 0)→(∀ad,A7=some ad→v= .slice (if c7=m then some ad else some (ad.add m)) (L-m) (c7-m))→RowKit.Hid (Calls Tryz.prog 84 #[.agg #[.int .i64 z0,.string z1,.string z2,.string z3,.int .i64 z4,.int .i64 z5],v] W fun e w'=>e= .returned (.tuple #[.int .i64 x,.bool true])∧Below W.heap.size W w'):=fun W v hb hv0 hv=>Lib.hid (H2 W v (HBB.out.trans (hb.mono HBB.out.size)) hv0 hv)
   clear H2;cases A7 with
   |none=>
    have hL0:L=0:=by
     rcases Nat.eq_zero_or_pos L with h|h
     ·exact h
     ·obtain⟨ad,e,_⟩:=hA7 h
      cases e
    subst hL0;have hc7z:=hc70 rfl;subst hc7z;have hm00:m=0:=by omega
    have ha00:a=0:=by omega
    have hwz:IntKind.i64.wrap 0=0:=rfl;subst hm00 ha00;go_wp2_with fail;go_region_held3 (fun w':World=>w'.cell? ⟨wr.heap.size,0,none⟩=some (.int .i64 z0)∧w'.cell? ⟨wr.heap.size,1,none⟩=some (.string z1)∧w'.cell? ⟨wr.heap.size,2,none⟩=some (.string z2)∧w'.cell? ⟨wr.heap.size,3,none⟩=some (.string z3)∧w'.cell? ⟨wr.heap.size,4,none⟩=some (.int .i64 z4)∧w'.cell? ⟨wr.heap.size,5,none⟩=some (.int .i64 z5)) (exact hSB _ bb) (first|(go_at_call 84;with_reducible refine(H2' _ _ ?_ ?_ ?_).out.mono ?_;(exact bb);(intro _;rfl);(intro ad e;cases e);rintro e w' ⟨rfl,hb⟩;have n0:=zc.mk (zi bb hb);clear HB hb;have HB:=n0;clear n0))
    have B2:=HBB.out.trans (HB.out.mono HBB.out.size);have HR2:=Kd.R_take (Kd.R_below HR1.out B2) (m:=0) (by rw[hL];omega)
    have HO:=zc.mk HR2;have HB2:=zc.mk (HB1.out.trans (B2.mono HB1.out.size));have hbytes:(((st.take 0).length+1)*8)≤140737488355328:=by rw[HST.out];omega
    clear HR2 B2 hSB HB H2' HBB HR1 HB1;go_wp2_with(at_builtin;refine Kd.R_append (Kd.int .i64) (w0:=w) w.heap.size rfl (.tmp 55) (.tmp 57) 40 3 (.int .i64 0) 8 rfl Tryz.underlying40 zZ rfl (by decide) (by omega) (.slice none 0 0) (st.take 0) x [.int .i64 x] (fun _=>True) (fun _=>False) rfl rfl rfl (fun _ hk=>hk.elim) ?aF ?aO ?aB ?aS ?aL ?_)
    case aF=>exact fun _ _=>trivial
    case aO=>exact HO.out
    case aB=>exact HB2.out
    case aS=>exact HB2.out.size
    case aL=>exact hbytes
    intro v4 w4 hv4 hb4 hg4 ho4;go_wp2;go_roundg (gk-1)
    case measure=>omega
    case rel=>exact⟨i+1,_,rfl,by omega,by omega,⟨hv4⟩,⟨hb4⟩,HS3,HJ3,by first|(rw[List.length_append,HST.out];simp;omega)|(simp;omega)|simp⟩
   |some ad7=>
    by_cases hcm:c7=m
    ·subst hcm
     go_wp2_with fail;go_region_held3 (fun w':World=>w'.cell? ⟨wr.heap.size,0,none⟩=some (.int .i64 z0)∧w'.cell? ⟨wr.heap.size,1,none⟩=some (.string z1)∧w'.cell? ⟨wr.heap.size,2,none⟩=some (.string z2)∧w'.cell? ⟨wr.heap.size,3,none⟩=some (.string z3)∧w'.cell? ⟨wr.heap.size,4,none⟩=some (.int .i64 z4)∧w'.cell? ⟨wr.heap.size,5,none⟩=some (.int .i64 z5)) (exact hSB _ bb) (first|(go_at_call 84;with_reducible refine(H2' _ _ ?_ ?_ ?_).out.mono ?_;(exact bb);(intro e;cases e);(intro ad e;injection e with e;subst e;simp;omega);rintro e w' ⟨rfl,hb⟩;have n0:=zc.mk (zi bb hb);clear HB hb;have HB:=n0;clear n0))
     have B2:=HBB.out.trans (HB.out.mono HBB.out.size);have HR2:=Kd.R_take (Kd.R_below HR1.out B2) (m:=c7) (by rw[hL];omega)
     have HO:=zc.mk HR2;have HB2:=zc.mk (HB1.out.trans (B2.mono HB1.out.size));have hbytes:(((st.take c7).length+1)*8)≤140737488355328:=by rw[HST.out];omega
     clear HR2 B2 hSB HB H2' HBB HR1 HB1;go_wp2_with(at_builtin;refine Kd.R_append (Kd.int .i64) (w0:=w) w.heap.size rfl (.tmp 55) (.tmp 57) 40 3 (.int .i64 0) 8 rfl Tryz.underlying40 zZ rfl (by decide) (by omega) (.slice (some ad7) c7 c7) (st.take c7) x [.int .i64 x] (fun _=>True) (fun _=>False) rfl rfl rfl (fun _ hk=>hk.elim) ?aF ?aO ?aB ?aS ?aL ?_)
     case aF=>exact fun _ _=>trivial
     case aO=>exact HO.out
     case aB=>exact HB2.out
     case aS=>exact HB2.out.size
     case aL=>exact hbytes
     intro v4 w4 hv4 hb4 hg4 ho4;go_wp2;go_roundg (gk-1)
     case measure=>omega
     case rel=>exact⟨i+1,_,rfl,by omega,by omega,⟨hv4⟩,⟨hb4⟩,HS3,HJ3,by first|(rw[List.length_append,HST.out];simp;omega)|(simp;omega)|simp⟩
    ·skip
     go_wp2_with fail;go_region_held3 (fun w':World=>w'.cell? ⟨wr.heap.size,0,none⟩=some (.int .i64 z0)∧w'.cell? ⟨wr.heap.size,1,none⟩=some (.string z1)∧w'.cell? ⟨wr.heap.size,2,none⟩=some (.string z2)∧w'.cell? ⟨wr.heap.size,3,none⟩=some (.string z3)∧w'.cell? ⟨wr.heap.size,4,none⟩=some (.int .i64 z4)∧w'.cell? ⟨wr.heap.size,5,none⟩=some (.int .i64 z5)) (exact hSB _ bb) (first|(go_at_call 84;with_reducible refine(H2' _ _ ?_ ?_ ?_).out.mono ?_;(exact bb);(intro e;cases e);(intro ad e;injection e with e;subst e;rw[if_neg hcm]);rintro e w' ⟨rfl,hb⟩;have n0:=zc.mk (zi bb hb);clear HB hb;have HB:=n0;clear n0))
     have B2:=HBB.out.trans (HB.out.mono HBB.out.size);have HR2:=Kd.R_take (Kd.R_below HR1.out B2) (m:=m) (by rw[hL];omega)
     have HO:=zc.mk HR2;have HB2:=zc.mk (HB1.out.trans (B2.mono HB1.out.size));have hbytes:(((st.take m).length+1)*8)≤140737488355328:=by rw[HST.out];omega
     clear HR2 B2 hSB HB H2' HBB HR1 HB1;go_wp2_with(at_builtin;refine Kd.R_append (Kd.int .i64) (w0:=w) w.heap.size rfl (.tmp 55) (.tmp 57) 40 3 (.int .i64 0) 8 rfl Tryz.underlying40 zZ rfl (by decide) (by omega) (.slice (some ad7) m c7) (st.take m) x [.int .i64 x] (fun _=>True) (fun _=>False) rfl rfl rfl (fun _ hk=>hk.elim) ?aF ?aO ?aB ?aS ?aL ?_)
     case aF=>exact fun _ _=>trivial
     case aO=>exact HO.out
     case aB=>exact HB2.out
     case aS=>exact HB2.out.size
     case aL=>exact hbytes
     intro v4 w4 hv4 hb4 hg4 ho4;go_wp2;go_roundg (gk-1)
     case measure=>omega
     case rel=>exact⟨i+1,_,rfl,by omega,by omega,⟨hv4⟩,⟨hb4⟩,HS3,HJ3,by first|(rw[List.length_append,HST.out];simp;omega)|(simp;omega)|simp⟩
def depF (_:Nd)(l:List Int):Int:=l.foldl max 0+1
theorem hnv (n:Nd):ndV n= .agg #[.int .i64 (opI n),.string (nd37 n).f1.f0,.string (nd37 n).f1.f1,.string (nd37 n).f2,.int .i64 (nd37 n).f3,.int .i64 (nd37 n).f4]:=by cases n<;>rfl
theorem jd (l:List Int)(a b:Int)(ha:a≤b)(h:∀x∈l,x≤b):l.foldl max a≤b:=by
 induction l generalizing a with
 |nil=>exact ha
 |cons x t ih=>
  rw[List.foldl_cons];exact ih (max a x) (by have:=h x (by simp);omega) (fun y hy=>h y (by simp[hy]))
theorem foldl_max_ge (l:List Int)(a:Int):a≤l.foldl max a:=by
 induction l generalizing a with
 |nil=>exact Int.le_refl _
 |cons x t ih=>rw[List.foldl_cons];have:=ih (max a x);omega
theorem depth1_at (n:Nd)(A:Option Addr)(c:Nat)(l:List Int)(hl:l.length≤3)(hlc:l.length≤c)(hb:∀x∈l,x≤2000)(w:World)(hC:Kd.C (Kd.int .i64) w A l.length l):
 Calls Tryz.prog 84 #[ndV n,.slice A l.length c] w fun e w'=>e= .returned (.tuple #[.int .i64 (l.foldl max 0+1),.bool true])∧Below w.heap.size w w':=by
 have HC:=zc.mk hC;have HB:=zc.mk hb;have hl2:(l.length:Int)≤3:=by omega
 clear hC hb;obtain⟨r,hr⟩:∃r,l.foldl max 0=r:=⟨_,rfl⟩;have hr1:r≤2000:=by rw[←hr];exact jd l 0 2000 (by omega) HB.out
 have hr0:0≤r:=by rw[←hr];exact foldl_max_ge l 0
 rw[hr,hnv];have HR:=zc.mk hr;clear hr;generalize (nd37 n).f1.f0=z1 at*;generalize (nd37 n).f1.f1=z2 at*;generalize (nd37 n).f2=z3 at*;generalize (nd37 n).f3=z4 at*;generalize (nd37 n).f4=z5 at*;generalize opI n=z0 at*;go_enter Tryz.func84,Tryz.ntmps84
 go_wp2_with fail;go_loopg [6,11] (l.length+1) (fun kq v6 v11 w'=>∃(i:Nat) (a:Int),v6= .int .i64 a∧v11= .int .i64 (i:Int)∧i+kq=l.length+1∧i≤l.length∧zc ((l.drop i).foldl max a=r)∧zc (Below w.heap.size w w')∧a≤2000)
 case atStart=>exact⟨0,0,rfl,rfl,by omega,by omega,HR,⟨(xb _ _).alloc (xc _) _⟩,by omega⟩
 case round=>
  obtain⟨i,a,rfl,rfl,hi,hin,HF,HW,ha⟩:=hrel;by_cases hie:i=l.length
  ·subst hie
   have h:a=r:=by
    have h:=HF.out;rw[List.drop_length]at h;exact h
   subst h;have hwr:IntKind.i64.wrap (a+1)=a+1:=by simp[j9];omega
   have BB:=HW.out;clear HF HW HR HB HC;go_wp2_with fail;refine bodyPost_ret (results_tmp2 rfl _ _ _) rfl ?_;exact⟨rfl,BB⟩
  ·have hlt:i<l.length:=by omega
   have hilt:(i:Int)<(l.length:Int):=by omega
   obtain⟨ad,hAd,q0⟩:=Kd.at_int (Kd.C_below HC.out HW.out) (i:Int) (by omega) (by omega)
   rw[xa]at q0;have hd:l.drop i=rd l (i:Int)::l.drop (i+1):=by
    rw[List.drop_eq_getElem_cons hlt];congr 1
    unfold rd;rw[xa,List.getD_eq_getElem?_getD,List.getElem?_eq_getElem hlt];rfl
   have hx:rd l (i:Int)≤2000:=HB.out _ (List.mem_of_mem_drop (i:=i) (by rw[hd];simp))
   have HF2:=HF.out;rw[hd,List.foldl_cons]at HF2;have HF3:=zc.mk HF2;generalize rd l (i:Int)=x at*;clear HF HF2 hd HB HC HR;subst hAd;go_wp2_with fail;go_roundg (gk-1)
   case measure=>omega
   case rel=>exact⟨i+1,max a x,rfl,rfl,by omega,by omega,HF3,HW,by omega⟩
theorem depthNode (M:Nat):foldINode M depF (fun _ st=>∀x∈st,x≤2000):=by
 intro n st A c w hn har hok hg hc hA hC v hv0 hv;have har3:ar n≤3:=by
  cases n with
  |num z d=>exact Nat.zero_le _
  |px s a=>exact Nat.zero_le _
  |raw x=>exact Nat.zero_le _
  |op k=>show(if k=5 then 1 else if k≤11 then 2 else 3)≤3;split<;>(try split)<;>omega
 cases A with
 |none=>
  have h0:st=[]:=by
   cases st with
   |nil=>rfl
   |cons x t=>obtain⟨ad,e,_⟩:=hA (by simp);cases e
  subst h0;rw[hv0 rfl];have:=depth1_at n none 0 [] (by simp) (by simp) (by simp) w hC
  simpa[depF]using this
 |some ad=>
  rw[hv ad rfl];have hC2:=Kd.C_drop hC (m:=st.length-ar n) (c:=c) (by omega) hc
  have e:(st.drop (st.length-ar n)).length=st.length-(st.length-ar n):=List.length_drop;have:=depth1_at n (if c=st.length-ar n then some ad else some (ad.add (st.length-ar n))) (c-(st.length-ar n)) (st.drop (st.length-ar n)) (by rw[e];omega) (by rw[e];omega) (fun x hx=>hok x (List.mem_of_mem_drop hx)) w (by
   have h1:(Kd.int .i64).sz=1:=rfl;rw[h1,Nat.mul_one]at hC2;exact hC2)
  rw[e]at this;exact this
end Go.Proofs.YtjopepfemhckjaaGreatDoor.NW
end
