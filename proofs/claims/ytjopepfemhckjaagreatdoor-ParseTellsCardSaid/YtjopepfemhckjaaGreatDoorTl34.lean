/-
  Part 34 of the proof of parseTells_holds: texts of this seat, put together.
-/
import Derived.Test.YtjopepfemhckjaaGreatDoorTl33
set_option linter.unusedVariables false
set_option linter.unusedSimpArgs false
set_option maxHeartbeats 16000000
set_option maxRecDepth 100000
section
namespace Go.Proofs.YtjopepfemhckjaaGreatDoor.NW
open Go.Proofs Go.RowKit Go.Shelf Go.Proofs.YtjopepfemhckjaaGreatDoor.PN Go.Proofs.YtjopepfemhckjaaGreatDoorW.PrintWords Go.Proofs.YtjopepfemhckjaaGreatDoor.PParseTells
theorem rNodeOp_at (k:Nat)(hk:5≤k∧k≤12)(w:World):
 Calls Tryz.prog 27 #[ndV (.op k)] w fun e w'=>e= .returned (.bool true)∧Below w.heap.size w w':=by
 simp only[ndV];have h0:¬(k:Int)=0:=by omega
 have h1:¬(k:Int)=1:=by omega
 have h2:(2:Int)≤(k:Int):=by omega
 have h4:¬(k:Int)≤4:=by omega
 generalize (k:Int)=kk at*;clear hk;go_enter Tryz.func27,Tryz.ntmps27
 go_wp2_with fail;go_ret;exact⟨rfl,((xb _ w).alloc (xc _) _)⟩
theorem rNodePx_at (s:ByteArray)(a:Int)(ha:0≤a∧a≤9999)(HA:∀w,RowKit.Hid (Calls Tryz.prog 57 #[.string s] w fun e w'=>e= .returned (.bool true)∧Below w.heap.size w w'))(w:World):
 Calls Tryz.prog 27 #[.agg #[.int .i64 1,.string ⟨#[]⟩,.string ⟨#[]⟩,.string s,.int .i64 a,.int .i64 0]] w fun e w'=>e= .returned (.bool true)∧Below w.heap.size w w':=by
 obtain⟨ha1,ha2⟩:=ha;have m0:=j7 w (.cells #[.int .i64 1,.string ⟨#[]⟩,.string ⟨#[]⟩,.string s,.int .i64 a,.int .i64 0] 37);have B0:Below w.heap.size w (w.alloc (.cells #[.int .i64 1,.string ⟨#[]⟩,.string ⟨#[]⟩,.string s,.int .i64 a,.int .i64 0] 37)):=(xb _ w).alloc (xc _) _;go_enter Tryz.func27,Tryz.ntmps27
 go_wp2_with fail;generalize w.alloc (.cells #[.int .i64 1,.string ⟨#[]⟩,.string ⟨#[]⟩,.string s,.int .i64 a,.int .i64 0] 37)=w0 at*;refine(HA _).out.mono ?_;rintro e w1 ⟨rfl,hb⟩;have k1:=zK hb m0;have B1:=B0.trans (hb.mono B0.size);have c4:w1.cell? ⟨w.heap.size,4,none⟩=some (.int .i64 a):=by rw[j6 k1];rfl
 clear m0 B0 hb;go_wp2_with fail;go_ret;exact⟨rfl,B1⟩
theorem rNodeNum_at (zs ds za:ByteArray)(hza:(za.size:Int)≤60)(hds:(ds.size:Int)≤60)(HM:∀w,RowKit.Hid (Calls Tryz.prog 55 #[.agg #[.string zs,.string ds]] w fun e w'=>e= .returned (.bool true)∧Below w.heap.size w w'))(HAB:∀w,RowKit.Hid (Calls Tryz.prog 56 #[.string zs] w fun e w'=>e= .returned (.string za)∧Below w.heap.size w w'))(w:World):
 Calls Tryz.prog 27 #[.agg #[.int .i64 0,.string zs,.string ds,.string ⟨#[]⟩,.int .i64 0,.int .i64 0]] w fun e w'=>e= .returned (.bool true)∧Below w.heap.size w w':=by
 have m0:=j7 w (.cells #[.int .i64 0,.string zs,.string ds,.string ⟨#[]⟩,.int .i64 0,.int .i64 0] 37);have B0:Below w.heap.size w (w.alloc (.cells #[.int .i64 0,.string zs,.string ds,.string ⟨#[]⟩,.int .i64 0,.int .i64 0] 37)):=(xb _ w).alloc (xc _) _;go_enter Tryz.func27,Tryz.ntmps27
 go_wp2_with fail;generalize w.alloc (.cells #[.int .i64 0,.string zs,.string ds,.string ⟨#[]⟩,.int .i64 0,.int .i64 0] 37)=w0 at*;refine(HM _).out.mono ?_;rintro e w1 ⟨rfl,hb⟩;have k1:=zK hb m0;have B1:=B0.trans (hb.mono B0.size);have c1:w1.cell? ⟨w.heap.size,1,none⟩=some (.string zs):=by rw[j6 k1];rfl
 clear m0 B0 hb;go_wp2_with fail;refine(HAB _).out.mono ?_;rintro e w2 ⟨rfl,hb⟩;have k2:=zK hb k1;have B2:=B1.trans (hb.mono B1.size);have c2:w2.cell? ⟨w.heap.size,2,none⟩=some (.string ds):=by rw[j6 k2];rfl
 clear k1 B1 hb c1;go_wp2_with fail;go_ret;exact⟨rfl,B2⟩
theorem rAbove5_at (bk o c:Nat)(x:ByteArray)(hx:x.size≤10000000)(w:World)(hc0:w.cell? ⟨bk,o,none⟩=some (.string x)):
 Calls Tryz.prog 30 #[.int .i64 5,.slice (some ⟨bk,o,none⟩) 1 c] w fun e w'=>e= .returned (.string (((⟨#[40,45]⟩:xf)++x)++(⟨#[41]⟩:xf)))∧Below w.heap.size w w':=by
 have Z2:(⟨#[40,45]⟩:xf).size=2:=rfl;have oa:¬9223372036854775807<(⟨#[40,45]⟩:xf).size+x.size:=by rw[Z2];omega
 have ob:¬9223372036854775807<2+x.size:=by omega
 have oc:¬9223372036854775807<((⟨#[40,45]⟩:xf)++x).size+1:=by rw[j8,Z2];omega
 have od:¬9223372036854775807<2+x.size+1:=by omega
 clear Z2;go_enter Tryz.func30,Tryz.ntmps30
 go_wp2_with fail;go_ret;exact⟨rfl,xb _ _⟩
theorem jF (k:Nat)(hk:k=6∨k=7∨k=8∨k=9)(bk o c:Nat)(x y:ByteArray)(hx:x.size≤10000000)(hy:y.size≤10000000)(w:World)(hc0:w.cell? ⟨bk,o,none⟩=some (.string x))(hc1:w.cell? ⟨bk,o+1,none⟩=some (.string y)):
 Calls Tryz.prog 30 #[.int .i64 (k:Int),.slice (some ⟨bk,o,none⟩) 2 c] w fun e w'=>e= .returned (.string (((((((⟨#[40]⟩:xf)++x)++(⟨#[32]⟩:xf))++wd k)++(⟨#[32]⟩:xf))++y)++(⟨#[41]⟩:xf)))∧Below w.heap.size w w':=by
 have hz:(wd k).size=1:=by rcases hk with rfl|rfl|rfl|rfl<;>rfl
 have n5:¬(k:Int)=5:=by omega
 have n9:(k:Int)≤9:=by omega
 have n6:6≤(k:Int):=by omega
 obtain⟨k6,e6⟩:∃k6:Int,(k:Int)-6=k6:=⟨_,rfl⟩;obtain⟨k5,e5⟩:∃k5:Int,(k:Int)-5=k5:=⟨_,rfl⟩;have w6:IntKind.i64.wrap ((k:Int)-6)=k6:=by rw[←e6];simp[j9];omega
 have w5:IntKind.i64.wrap ((k:Int)-5)=k5:=by rw[←e5];simp[j9];omega
 obtain⟨RR,hR⟩:∃RR,(((((((⟨#[40]⟩:xf)++x)++(⟨#[32]⟩:xf))++wd k)++(⟨#[32]⟩:xf))++y)++(⟨#[41]⟩:xf))=RR:=⟨_,rfl⟩;rw[hR];have HR:=zc.mk hR;clear hR;have hsl:∀W:World,(Instr.slice 9 (.string ⟨#[43,45,42,47]⟩) (some (.int .i64 ((k:Int)-6))) (some (.int .i64 ((k:Int)-5))) none).run Tryz.prog W= .ok (.string (wd k)) W:=by rcases hk with rfl|rfl|rfl|rfl<;>exact fun _=>by kernel_rfl
 rw[e6,e5]at hsl;generalize wd k=sg at*;clear hk e6 e5;generalize (k:Int)=K at*;have o0:¬9223372036854775807<(⟨#[40]⟩:xf).size+x.size:=by(try simp only[j8,show(⟨#[32]⟩:xf).size=1 from rfl,show(⟨#[40]⟩:xf).size=1 from rfl,show(⟨#[41]⟩:xf).size=1 from rfl]);omega
 have o1:¬9223372036854775807<1+x.size:=by(try simp only[j8,show(⟨#[32]⟩:xf).size=1 from rfl,show(⟨#[40]⟩:xf).size=1 from rfl,show(⟨#[41]⟩:xf).size=1 from rfl]);omega
 have o2:¬9223372036854775807<((⟨#[40]⟩:xf)++x).size+(⟨#[32]⟩:xf).size:=by(try simp only[j8,show(⟨#[32]⟩:xf).size=1 from rfl,show(⟨#[40]⟩:xf).size=1 from rfl,show(⟨#[41]⟩:xf).size=1 from rfl]);omega
 have o3:¬9223372036854775807<((⟨#[40]⟩:xf)++x).size+1:=by(try simp only[j8,show(⟨#[32]⟩:xf).size=1 from rfl,show(⟨#[40]⟩:xf).size=1 from rfl,show(⟨#[41]⟩:xf).size=1 from rfl]);omega
 have o4:¬9223372036854775807<1+x.size+1:=by(try simp only[j8,show(⟨#[32]⟩:xf).size=1 from rfl,show(⟨#[40]⟩:xf).size=1 from rfl,show(⟨#[41]⟩:xf).size=1 from rfl]);omega
 have o5:¬9223372036854775807<((⟨#[40]⟩:xf)++x++(⟨#[32]⟩:xf)).size+sg.size:=by(try simp only[j8,show(⟨#[32]⟩:xf).size=1 from rfl,show(⟨#[40]⟩:xf).size=1 from rfl,show(⟨#[41]⟩:xf).size=1 from rfl]);omega
 have o7:¬9223372036854775807<1+x.size+1+sg.size:=by(try simp only[j8,show(⟨#[32]⟩:xf).size=1 from rfl,show(⟨#[40]⟩:xf).size=1 from rfl,show(⟨#[41]⟩:xf).size=1 from rfl]);omega
 have o8:¬9223372036854775807<((⟨#[40]⟩:xf)++x++(⟨#[32]⟩:xf)++sg).size+1:=by(try simp only[j8,show(⟨#[32]⟩:xf).size=1 from rfl,show(⟨#[40]⟩:xf).size=1 from rfl,show(⟨#[41]⟩:xf).size=1 from rfl]);omega
 have o9:¬9223372036854775807<1+x.size+1+sg.size+1:=by(try simp only[j8,show(⟨#[32]⟩:xf).size=1 from rfl,show(⟨#[40]⟩:xf).size=1 from rfl,show(⟨#[41]⟩:xf).size=1 from rfl]);omega
 have o10:¬9223372036854775807<((⟨#[40]⟩:xf)++x++(⟨#[32]⟩:xf)++sg++(⟨#[32]⟩:xf)).size+y.size:=by(try simp only[j8,show(⟨#[32]⟩:xf).size=1 from rfl,show(⟨#[40]⟩:xf).size=1 from rfl,show(⟨#[41]⟩:xf).size=1 from rfl]);omega
 have o11:¬9223372036854775807<1+x.size+1+sg.size+1+y.size:=by(try simp only[j8,show(⟨#[32]⟩:xf).size=1 from rfl,show(⟨#[40]⟩:xf).size=1 from rfl,show(⟨#[41]⟩:xf).size=1 from rfl]);omega
 have o12:¬9223372036854775807<((⟨#[40]⟩:xf)++x++(⟨#[32]⟩:xf)++sg++(⟨#[32]⟩:xf)++y).size+1:=by(try simp only[j8,show(⟨#[32]⟩:xf).size=1 from rfl,show(⟨#[40]⟩:xf).size=1 from rfl,show(⟨#[41]⟩:xf).size=1 from rfl]);omega
 have o13:¬9223372036854775807<1+x.size+1+sg.size+1+y.size+1:=by(try simp only[j8,show(⟨#[32]⟩:xf).size=1 from rfl,show(⟨#[40]⟩:xf).size=1 from rfl,show(⟨#[41]⟩:xf).size=1 from rfl]);omega
 go_enter Tryz.func30,Tryz.ntmps30
 go_wp2_with fail;go_region;go_wp2_with fail;go_ret;exact⟨by rw[←HR.out];rfl,(xb _ _).drew⟩
theorem rArityN_at (n:Nd)(h:match n with| .op k=>5≤k∧k≤12| .raw x=>0≤x.f0∧x.f0≤4|_=>True)(w:World):
 Calls Tryz.prog 28 #[.int .i64 (opI n)] w fun e w'=>e= .returned (.int .i64 (ar n))∧Below w.heap.size w w':=by
 cases n with
 |num z d=>exact zY 0 0 (by omega) rfl w
 |px s a=>exact zY 1 0 (by omega) rfl w
 |raw x=>
  obtain⟨k,p,s,a,b⟩:=x;obtain⟨h1,h2⟩:=h;simp only at h1 h2;have:k=0∨k=1∨k=2∨k=3∨k=4:=by omega
  rcases this with rfl|rfl|rfl|rfl|rfl
  ·exact zY 0 0 (by omega) rfl w
  ·exact zY 1 0 (by omega) rfl w
  ·exact zY 2 0 (by omega) rfl w
  ·exact zY 3 0 (by omega) rfl w
  ·exact zY 4 0 (by omega) rfl w
 |op k=>
  obtain⟨h1,h2⟩:=h;refine zY k _ h2 ?_ w;have:k=5∨k=6∨k=7∨k=8∨k=9∨k=10∨k=11∨k=12:=by omega
  rcases this with rfl|rfl|rfl|rfl|rfl|rfl|rfl|rfl<;>rfl
theorem R_slice0 {α:Type}{d:Kd α}{e:Nat}{w:World}{base:Nat}{ok:Nat→Prop}{v:Value}{xs:List α}(h:Kd.R d e w base ok v xs):(v= .slice none 0 0∧xs=[])∨∃g cap,v= .slice (some ⟨g,0,none⟩) xs.length cap∧base≤g∧g<w.heap.size∧xs.length≤cap:=by
 obtain⟨inner,ho⟩:=Kd.R_own h;rcases ho.2 with⟨h1,h2⟩|⟨g,cap,cur,h1,hb,h2,h3,_⟩
 ·exact .inl ⟨h1,List.length_eq_zero_iff.1 h2⟩
 ·exact .inr ⟨g,cap,h1,hb,(xe h2).1,h3⟩
theorem R_slice1 {α:Type}{d:Kd α}{e:Nat}{w:World}{base:Nat}{ok:Nat→Prop}{v:Value}{xs:List α}(h:Kd.R d e w base ok v xs)(hn:∃b,v.ownBlock=some b):∃g cap,v= .slice (some ⟨g,0,none⟩) xs.length cap∧xs.length≤cap:=by
 rcases R_slice0 h with⟨h1,_⟩|⟨g,cap,h1,_,_,h2⟩
 ·obtain⟨b,hb⟩:=hn
  rw[h1]at hb;cases hb
 ·exact⟨g,cap,h1,h2⟩
def BegP (w:World)(e:Ending)(w':World):Prop:=∃v,e= .returned (.tuple #[v,.bool true])∧Below w.heap.size w w'
theorem rBegins_at (ns:List Nd)(hns:∀n∈ns,match n with| .op k=>5≤k∧k≤12| .raw x=>0≤x.f0∧x.f0≤4|_=>True)(hl1:1≤ns.length)(hlen:ns.length≤2000)(f:Nd→List Int→Int)(R:Int)(hrun:runF f ns []=some [R])(A:Option Addr)(c:Nat)(w:World)(hC:Kd.C k37 w A ns.length (ns.map nd37)):
 Calls Tryz.prog 54 #[.slice A ns.length c] w (BegP w):=by
 have HC:=zc.mk hC;have HRUN:=zc.mk hrun;have HL:=zc.mk hlen;have hl2:¬(2000:Int)<(ns.length:Int):=by omega
 have hl3:¬(ns.length:Int)<1:=by omega
 have hl4:(ns.length:Int)≤2000:=by omega
 clear hC hrun hlen;go_enter Tryz.func54,Tryz.ntmps54
 go_wp2_with(first|((with_reducible refine gate_dst (N:=9) rfl ?_);refine Kd.R_lit (Kd.int .i64) (w0:=w) w.heap.size 3 ?hg (N:=9) ?hd (xs:=[]) (inner:=[]) (ok:=fun _=>True) (okp:=fun _=>False) ?hr (Reps.none _ _) (fun _ hk=>hk.elim) trivial ?hb ?hs (Nat.zero_le _) ?_;(case hd=>rfl);(case hg=>rfl);(case hr=>first|(go_simp;done)|(go_simp;rfl));(case hb=>exact xb _ _);(case hs=>exact xc _);intro v4 w4 ho4 hb4 hg4 hn4;clear hg4;have HO4:=zc.mk ho4;have HB4:=zc.mk hb4;have HN4:=zc.mk hn4;clear ho4 hb4 hn4)|((with_reducible refine gate_dst (N:=10) rfl ?_);refine Kd.R_lit (Kd.int .i64) (w0:=w) w.heap.size 3 ?hg (N:=10) ?hd (xs:=[]) (inner:=[]) (ok:=fun _=>True) (okp:=fun _=>False) ?hr (Reps.none _ _) (fun _ hk=>hk.elim) trivial ?hb ?hs (Nat.zero_le _) ?_;(case hd=>rfl);(case hg=>rfl);(case hr=>first|(go_simp;done)|(go_simp;rfl));(case hb=>exact HB4.out);(case hs=>exact HB4.out.size);intro v5 w5 ho5 hb5 hg5 hn5;have HO5:=zc.mk ho5;have HB5:=zc.mk hb5;have HG5:=zc.mk hg5;have HN5:=zc.mk hn5;clear ho5 hb5 hg5 hn5))
 have HO4':=zc.mk (Kd.R_grown2 HO4.out rfl HG5.out (fun k hk=>by cases hk))
 have HNE:zc (∀k,v4.ownBlock=some k→some k≠v5.ownBlock):=⟨fun k hk he=>by
  obtain⟨b,h1,h2⟩:=HN5.out;have h3:=Kd.R_lt HO4.out k hk;rw[h1]at he;injection he with he;omega⟩
 clear HO4 HG5 HN4 HB4;go_loopg [4,5,6] (ns.length+1) (fun kq u4 u5 v6 w'=>∃(i:Nat) (ys st xs:List Int),v6= .int .i64 (i:Int)∧i+kq=ns.length+1∧i≤ns.length∧zc (Kd.R (Kd.int .i64) 3 w' w.heap.size (fun _=>True) u4 ys)∧zc (Kd.R (Kd.int .i64) 3 w' w.heap.size (fun _=>True) u5 xs)∧zc (∀k,u4.ownBlock=some k→some k≠u5.ownBlock)∧zc (∃b,u5.ownBlock=some b)∧zc (Below w.heap.size w w')∧zc (runF f (ns.drop i) st=some [R])∧st.length≤i∧ys.length≤i∧xs.length=st.length)
 case atStart=>exact⟨0,[],[],[],rfl,by omega,by omega,HO4',HO5,HNE,⟨by obtain⟨b,h1,_⟩:=HN5.out;exact⟨b,h1⟩⟩,HB5,HRUN,by simp,by simp,rfl⟩
 case round=>
  clear HO4' HO5 HNE HB5 HRUN HN5;obtain⟨i,ys,st,xs,rfl,hi,hin,HY,HS,HNE,HNN,HB,HR,hst,hys,hxl⟩:=hrel;by_cases hie:i=ns.length
  ·subst hie
   have hst1:st=[R]:=by
    have h:=HR.out;rw[List.drop_length]at h;simpa[runF]using h
   subst hst1;obtain⟨A5,c5,rfl⟩:=Kd.R_slice HS.out;have hlR:xs.length=1:=hxl;rw[hlR];have BB:=HB.out;clear HY HS HNE HNN HB HR hns HC HL;go_wp2_with fail;refine bodyPost_ret (results_tmp2 rfl _ _ _) rfl ?_;exact⟨_,rfl,BB⟩
  ·have hlt:i<ns.length:=by omega
   have hilt:(i:Int)<(ns.length:Int):=by omega
   obtain⟨n,hn⟩:∃n,ns[i]=n:=⟨_,rfl⟩;have hd:ns.drop i=n::ns.drop (i+1):=by rw[List.drop_eq_getElem_cons hlt,hn]
   have HS2:=HR.out;rw[hd]at HS2;obtain⟨st2,hst2⟩:∃st2,stp f n st=some st2:=by
    cases h:stp f n st with
    |none=>rw[runF,h]at HS2;cases HS2
    |some x=>exact⟨x,rfl⟩
   rw[runF,hst2]at HS2;have hnm:=hns n (by rw[←hn];exact List.getElem_mem hlt)
   have har:ar n≤st.length:=by
    unfold stp at hst2;split at hst2
    ·assumption
    ·cases hst2
   have hst3:st2=st.take (st.length-ar n)++[f n (st.drop (st.length-ar n))]:=by
    unfold stp at hst2;rw[if_pos har]at hst2;exact(Option.some.inj hst2).symm
   subst hst3;have HR3:zc (runF f (ns.drop (i+1)) (st.take (st.length-ar n)++[f n (st.drop (st.length-ar n))])=some [R]):=⟨HS2⟩;have hx:rd_T37 (ns.map nd37) (i:Int)=nd37 n:=by
    unfold rd_T37;rw[xa,List.getD_eq_getElem?_getD,List.getElem?_map,List.getElem?_eq_getElem hlt,hn];rfl
   obtain⟨ad,hAd,q0,q1,q2,q3,q4,q5⟩:=at_T37 (Kd.C_below HC.out HB.out) (i:Int) (by omega) (by omega)
   rw[hx]at q0;rw[xa]at q0;have H1:=fun W=>Lib.hid (rArityN_at n hnm W)
   have hop:(nd37 n).f0=opI n:=by cases n<;>rfl
   rw[hop]at q0;obtain⟨m,hm⟩:∃m,st.length-ar n=m:=⟨_,rfl⟩;rw[hm]at HR3;have hmL:(m:Int)≤(st.length:Int):=by omega
   have hm0:0≤(m:Int):=by omega
   have har0:¬(ar n:Int)<0:=by omega
   have har1:¬(st.length:Int)<(ar n:Int):=by omega
   have har2:¬st.length<ar n:=by omega
   have hw1:IntKind.i64.wrap ((st.length:Int)-(ar n:Int))=(m:Int):=by simp[j9];omega
   have hstm:(xs.take m).length=m:=by rw[List.length_take,hxl];omega
   have hst1:(st.length:Int)≤2000:=by omega
   have HST:=zc.mk hstm;have HLE:=zc.mk (And.intro hi (And.intro hst hys));clear HR HS2 hst2 hd hx hnm q1 q2 q3 q4 q5 hop hstm;subst hAd;generalize f n (st.drop m)=x at*;generalize opI n=z0 at*;have hap:0<ar n→m<st.length:=by omega
   generalize ar n=a at*;obtain⟨g5,c5,hv5,hc5⟩:=R_slice1 HS.out HNN.out;rw[hxl]at hv5 hc5;subst hv5;have HXL:=zc.mk hxl;clear hxl;have hcI:(st.length:Int)≤(c5:Int):=by omega
   generalize hL:st.length=L at*;have hdec:(decide ((a:Int)<0)||decide (L<a))=false:=by simp;omega
   go_wp2_with fail;refine(H1 _).out.mono ?_;rintro e w1 ⟨rfl,hb1⟩;have HY1:=zc.mk (Kd.R_below HY.out hb1);have HS1:=zc.mk (Kd.R_below HS.out hb1);have HB1:=zc.mk (HB.out.trans (hb1.mono HB.out.size));clear HY HS HB hb1 H1 q0;by_cases ha0:(0:Int)<(a:Int)
   ·have hmlt:=hap (by omega)
    have hmI:(m:Int)<(L:Int):=by omega
    have hcell:=(Kd.R_celln (0:Int) HS1.out (m:Int) (by omega) (by omega)).1
    rw[xa]at hcell;generalize rdOf (0:Int) xs (m:Int)=fr at*;go_wp2_with(first|((with_reducible refine gate_dst (N:=49) rfl ?_);refine Kd.R_lit (Kd.int .i64) (w0:=w1) w1.heap.size 3 ?hg (N:=49) ?hd (xs:=[]) (inner:=[]) (ok:=fun _=>True) (okp:=fun _=>False) ?hr (Reps.none _ _) (fun _ hk=>hk.elim) trivial (xb _ _) (xc _) (Nat.zero_le _) ?_;(case hd=>rfl);(case hg=>rfl);(case hr=>first|(go_simp;done)|(go_simp;rfl));intro v8 w2 ho8 hb8 hg8 hn8;have HO8:=zc.mk ho8;have HB8:=zc.mk hb8;have HN8:=zc.mk hn8;have HS2:=Kd.R_below HS1.out hb8;have HS2:=(Kd.R_reads' HS2).2.2;have HS2:=zc.mk HS2;clear ho8 hb8 hg8 hn8)|(at_builtin;refine Kd.R_append_rows (Kd.int .i64) (Rr:=(Kd.int .i64).K w2) (w0:=w1) w1.heap.size rfl (.tmp 49) (.tmp 55) 40 3 (.int .i64 0) 8 rfl Tryz.underlying40 zZ rfl (by decide) (by omega) v8 [] (xs.take m) _ m _ (fun _=>True) (fun _=>False) rfl rfl HO8.out ?hRR ?hKM (fun _ hk=>hk.elim) (fun _ _=>trivial) HB8.out HB8.out.size ?hll ?_;(case hRR=>exact C_take HS2.out m (by rw[HXL.out];omega));(case hKM=>exact fun x cs h=>h);(case hll=>simp;omega);intro v9 w3 ho9 hb9 hg9 hn9;have HO9:=zc.mk ho9;have HB9:=zc.mk hb9;have HN9:=zc.mk hn9;clear ho9 hb9 hg9 hn9)|(at_builtin;refine Kd.R_append (Kd.int .i64) (w0:=w1) w1.heap.size rfl (.tmp 56) (.tmp 58) 40 3 (.int .i64 0) 8 rfl Tryz.underlying40 zZ rfl (by decide) (by omega) v9 (xs.take m) fr [.int .i64 fr] (fun _=>True) (fun _=>False) rfl rfl rfl (fun _ hk=>hk.elim) (fun _ _=>trivial) HO9.out HB9.out HB9.out.size ?hll2 ?_;(case hll2=>rw[HST.out];omega);intro v10 w6 ho10 hb10 hg10 hn10;have HO10:=zc.mk ho10;have HB10:=zc.mk hb10;have HN10:=zc.mk hn10;have HY6:=zc.mk (Kd.R_below HY1.out hb10);have HB6:=zc.mk (HB1.out.trans (hb10.mono HB1.out.size));clear ho10 hb10 hg10 hn10)|(at_builtin;refine Kd.R_append (Kd.int .i64) (w0:=w) w.heap.size rfl (.tmp 60) (.tmp 62) 40 3 (.int .i64 0) 8 rfl Tryz.underlying40 zZ rfl (by decide) (by omega) u4 ys fr [.int .i64 fr] (fun _=>True) (fun _=>False) rfl rfl rfl (fun _ hk=>hk.elim) (fun _ _=>trivial) HY6.out HB6.out HB6.out.size ?hll3 ?_;(case hll3=>have:=HLE.out;have:=HL.out;omega);intro v11 w7 ho11 hb11 hg11 hn11;have HO11:=zc.mk ho11;have HB11:=zc.mk hb11;have HN11:=zc.mk hn11;have HG11:=zc.mk hg11;clear ho11 hb11 hg11 hn11))
    have HE10:∃b,v10.ownBlock=some b:=by
     rcases HN10.out with h|⟨b,h,_⟩
     ·rcases HN9.out with h2|⟨b,h2,_⟩
      ·obtain⟨b,h3,_⟩:=HN8.out
       exact⟨b,by rw[h,h2,h3]⟩
      ·exact⟨b,by rw[h,h2]⟩
     ·exact⟨b,h⟩
    have hu4:=Kd.R_lt HY1.out;have h10b:=Kd.R_base HO10.out;have h10l:=Kd.R_lt HO10.out;have HS7:=Kd.R_lower (Kd.R_grown2 HO10.out rfl HG11.out (fun k hk he=>by have h1:=hu4 k hk;have h2:=h10b k he.symm;omega)) HB1.out.size
    have HNE7:∀k,v11.ownBlock=some k→some k≠v10.ownBlock:=by
     intro k hk he;rcases HN11.out with h|⟨b,h,hb⟩
     ·have h1:=hu4 k (by rw[←h];exact hk)
      have h2:=h10b k he.symm;omega
     ·rw[h]at hk
      injection hk with hk;have h2:=h10l k he.symm;omega
    go_wp2;go_roundg (gk-1)
    case measure=>have:=HLE.out;omega
    case rel=>exact⟨i+1,_,_,_,rfl,by have:=HLE.out;omega,by omega,HO11,⟨HS7⟩,⟨HNE7⟩,⟨HE10⟩,HB11,HR3,by rw[List.length_append,List.length_take];simp;have:=HLE.out;omega,by rw[List.length_append];simp;have:=HLE.out;omega,by rw[List.length_append,List.length_append,HST.out,List.length_take];simp;omega⟩
   ·obtain rfl:a=0:=by omega
    obtain rfl:m=L:=by omega
    have hwm:IntKind.i64.wrap (m:Int)=(m:Int):=by simp[j9];omega
    clear hw1 ha0 har0 har1 har2 hap hdec;go_wp2_with(first|((with_reducible refine gate_dst (N:=49) rfl ?_);refine Kd.R_lit (Kd.int .i64) (w0:=w1) w1.heap.size 3 ?hg (N:=49) ?hd (xs:=[]) (inner:=[]) (ok:=fun _=>True) (okp:=fun _=>False) ?hr (Reps.none _ _) (fun _ hk=>hk.elim) trivial (xb _ _) (xc _) (Nat.zero_le _) ?_;(case hd=>rfl);(case hg=>rfl);(case hr=>first|(go_simp;done)|(go_simp;rfl));intro v8 w2 ho8 hb8 hg8 hn8;have HO8:=zc.mk ho8;have HB8:=zc.mk hb8;have HN8:=zc.mk hn8;have HS2:=Kd.R_below HS1.out hb8;have HS2:=(Kd.R_reads' HS2).2.2;have HS2:=zc.mk HS2;clear ho8 hb8 hg8 hn8)|(at_builtin;refine Kd.R_append_rows (Kd.int .i64) (Rr:=(Kd.int .i64).K w2) (w0:=w1) w1.heap.size rfl (.tmp 49) (.tmp 55) 40 3 (.int .i64 0) 8 rfl Tryz.underlying40 zZ rfl (by decide) (by omega) v8 [] (xs.take m) _ m _ (fun _=>True) (fun _=>False) rfl rfl HO8.out ?hRR ?hKM (fun _ hk=>hk.elim) (fun _ _=>trivial) HB8.out HB8.out.size ?hll ?_;(case hRR=>exact C_take HS2.out m (by rw[HXL.out];omega));(case hKM=>exact fun x cs h=>h);(case hll=>simp;omega);intro v9 w3 ho9 hb9 hg9 hn9;have HO9:=zc.mk ho9;have HB9:=zc.mk hb9;have HN9:=zc.mk hn9;clear ho9 hb9 hg9 hn9)|(at_builtin;refine Kd.R_append (Kd.int .i64) (w0:=w1) w1.heap.size rfl (.tmp 56) (.tmp 58) 40 3 (.int .i64 0) 8 rfl Tryz.underlying40 zZ rfl (by decide) (by omega) v9 (xs.take m) (i:Int) [.int .i64 (i:Int)] (fun _=>True) (fun _=>False) rfl rfl rfl (fun _ hk=>hk.elim) (fun _ _=>trivial) HO9.out HB9.out HB9.out.size ?hll2 ?_;(case hll2=>rw[HST.out];omega);intro v10 w6 ho10 hb10 hg10 hn10;have HO10:=zc.mk ho10;have HB10:=zc.mk hb10;have HN10:=zc.mk hn10;have HY6:=zc.mk (Kd.R_below HY1.out hb10);have HB6:=zc.mk (HB1.out.trans (hb10.mono HB1.out.size));clear ho10 hb10 hg10 hn10)|(at_builtin;refine Kd.R_append (Kd.int .i64) (w0:=w) w.heap.size rfl (.tmp 60) (.tmp 62) 40 3 (.int .i64 0) 8 rfl Tryz.underlying40 zZ rfl (by decide) (by omega) u4 ys (i:Int) [.int .i64 (i:Int)] (fun _=>True) (fun _=>False) rfl rfl rfl (fun _ hk=>hk.elim) (fun _ _=>trivial) HY6.out HB6.out HB6.out.size ?hll3 ?_;(case hll3=>have:=HLE.out;have:=HL.out;omega);intro v11 w7 ho11 hb11 hg11 hn11;have HO11:=zc.mk ho11;have HB11:=zc.mk hb11;have HN11:=zc.mk hn11;have HG11:=zc.mk hg11;clear ho11 hb11 hg11 hn11))
    have HE10:∃b,v10.ownBlock=some b:=by
     rcases HN10.out with h|⟨b,h,_⟩
     ·rcases HN9.out with h2|⟨b,h2,_⟩
      ·obtain⟨b,h3,_⟩:=HN8.out
       exact⟨b,by rw[h,h2,h3]⟩
      ·exact⟨b,by rw[h,h2]⟩
     ·exact⟨b,h⟩
    have hu4:=Kd.R_lt HY1.out;have h10b:=Kd.R_base HO10.out;have h10l:=Kd.R_lt HO10.out;have HS7:=Kd.R_lower (Kd.R_grown2 HO10.out rfl HG11.out (fun k hk he=>by have h1:=hu4 k hk;have h2:=h10b k he.symm;omega)) HB1.out.size
    have HNE7:∀k,v11.ownBlock=some k→some k≠v10.ownBlock:=by
     intro k hk he;rcases HN11.out with h|⟨b,h,hb⟩
     ·have h1:=hu4 k (by rw[←h];exact hk)
      have h2:=h10b k he.symm;omega
     ·rw[h]at hk
      injection hk with hk;have h2:=h10l k he.symm;omega
    go_wp2;go_roundg (gk-1)
    case measure=>have:=HLE.out;omega
    case rel=>exact⟨i+1,_,_,_,rfl,by have:=HLE.out;omega,by omega,HO11,⟨HS7⟩,⟨HNE7⟩,⟨HE10⟩,HB11,HR3,by rw[List.length_append,List.length_take];simp;have:=HLE.out;omega,by rw[List.length_append];simp;have:=HLE.out;omega,by rw[List.length_append,List.length_append,HST.out,List.length_take];simp;omega⟩
theorem C_takeS {w:World}{A:Option Addr}{l:List ByteArray}(h:Kd.C Kd.string w A l.length l)(n:Nat)(hn:n≤l.length):Kd.C Kd.string w A n (l.take n):=by
 have h1:=Kd.C_take h (m:=n) hn;rw[List.length_take,Nat.min_eq_left hn]at h1;exact h1
def opOK (n:Nd):Prop:=match n with| .op k=>5≤k∧k≤12| .raw x=>0≤x.f0∧x.f0≤4|_=>True
theorem rFormed_at (ns:List Nd)(hns:∀n∈ns,opOK n)(hl1:1≤ns.length)(hlen:ns.length≤2000)(f:Nd→List Int→Int)(R:Int)(hrun:runF f ns []=some [R])(A:Option Addr)(c:Nat)(w:World)(hC:Kd.C k37 w A ns.length (ns.map nd37)):
 Calls Tryz.prog 26 #[.slice A ns.length c] w fun e w'=>e= .returned (.bool true)∧Below w.heap.size w w':=by
 have H:=Lib.hid (rBegins_at ns hns hl1 hlen f R hrun A c w hC);clear hC hrun hns;go_enter Tryz.func26,Tryz.ntmps26
 go_wp2_with fail;refine H.out.mono ?_;rintro e w1 ⟨v,rfl,hb⟩;go_wp2_with fail;go_ret;exact⟨rfl,hb⟩
structure RN (n:Nd):Prop where
 nd:∀w,Calls Tryz.prog 27 #[.agg #[.int .i64 (opI n),.string (nd37 n).f1.f0,.string (nd37 n).f1.f1,.string (nd37 n).f2,.int .i64 (nd37 n).f3,.int .i64 (nd37 n).f4]] w fun e w'=>e= .returned (.bool true)∧Below w.heap.size w w'
 lf:ar n=0→∀w,Calls Tryz.prog 29 #[.agg #[.int .i64 (opI n),.string (nd37 n).f1.f0,.string (nd37 n).f1.f1,.string (nd37 n).f2,.int .i64 (nd37 n).f3,.int .i64 (nd37 n).f4]] w fun e w'=>e= .returned (.string (ndP n []))∧Below w.heap.size w w'
 ab:0<ar n→∀(bk o c:Nat) (l:List ByteArray) (w:World),l.length=ar n→l.length≤c→szs l≤10000000→(∀(j:Nat) x,l[j]? =some x→w.cell? ⟨bk,o+j,none⟩=some (.string x))→Calls Tryz.prog 30 #[.int .i64 (opI n),.slice (some ⟨bk,o,none⟩) (ar n) c] w fun e w'=>e= .returned (.string (ndP n l))∧Below w.heap.size w w'
 sz:∀l:List ByteArray,l.length=ar n→(ndP n l).size≤szs l+1000
theorem rPrint_at (ns:List Nd)(hns:∀n∈ns,opOK n)(hrn:∀n∈ns,RN n)(hl1:1≤ns.length)(hlen:ns.length≤2000)(f:Nd→List Int→Int)(R0:Int)(hrun0:runF f ns []=some [R0])(R:ByteArray)(hrun:runF ndP ns []=some [R])(A:Option Addr)(c:Nat)(w:World)(hC:Kd.C k37 w A ns.length (ns.map nd37)):
 Calls Tryz.prog 14 #[.slice A ns.length c] w fun e w'=>e= .returned (.string R)∧Below w.heap.size w w':=by
 have HF:=Lib.hid (rFormed_at ns hns hl1 hlen f R0 hrun0 A c w hC);have HC:=zc.mk hC;have HRUN:=zc.mk hrun;have HL:=zc.mk hlen;have hl4:(ns.length:Int)≤2000:=by omega
 clear hC hrun hlen hrun0;go_enter Tryz.func14,Tryz.ntmps14
 go_wp2_with fail;refine HF.out.mono ?_;rintro e w0 ⟨rfl,hb0⟩;have HB0:=zc.mk hb0;clear HF hb0;go_wp2_with(first|((with_reducible refine gate_dst (N:=10) rfl ?_);refine Kd.R_lit Kd.string (w0:=w) w.heap.size 9 ?hg (N:=10) ?hd (xs:=[]) (inner:=[]) (ok:=fun _=>True) (okp:=fun _=>False) ?hr (Reps.none _ _) (fun _ hk=>hk.elim) trivial HB0.out HB0.out.size (Nat.zero_le _) ?_;(case hd=>rfl);(case hg=>rfl);(case hr=>first|(go_simp;done)|(go_simp;rfl));intro v3 w3 ho3 hb3 hg3 hn3;have HO3:=zc.mk ho3;have HB3:=zc.mk hb3;have HN3:=zc.mk hn3;clear ho3 hb3 hg3 hn3))
 go_loopg [3,4] (ns.length+1) (fun kq u3 v4 w'=>∃(i:Nat) (st:List ByteArray),v4= .int .i64 (i:Int)∧i+kq=ns.length+1∧i≤ns.length∧zc (Kd.R Kd.string 9 w' w.heap.size (fun _=>True) u3 st)∧zc (∃b,u3.ownBlock=some b)∧zc (Below w.heap.size w w')∧zc (runF ndP (ns.drop i) st=some [R])∧st.length≤i∧szs st≤i*1000)
 case atStart=>exact⟨0,[],rfl,by omega,by omega,HO3,⟨by obtain⟨b,h1,_⟩:=HN3.out;exact⟨b,h1⟩⟩,HB3,HRUN,by simp,by simp[szs]⟩
 case round=>
  clear HO3 HN3 HB3 HRUN;obtain⟨i,st,rfl,hi,hin,HS,HNN,HB,HR,hst,hsz⟩:=hrel;by_cases hie:i=ns.length
  ·subst hie
   have hst1:st=[R]:=by
    have h:=HR.out;rw[List.drop_length]at h;simpa[runF]using h
   subst hst1;obtain⟨g,cap,rfl,hbg,hgw,_⟩:=Kd.R_form HS.out (by simp)
   have hcell:wr.cell? ⟨g,0,none⟩=some (.string R):=(Kd.R_cell (ByteArray.empty) HS.out 0 (by omega) (by simp)).1
   have BB:=HB.out;have hlR:([R]:List ByteArray).length=1:=rfl;clear HS HNN HB HC HR hns hrn HL;go_wp2_with fail;go_ret;exact⟨rfl,BB⟩
  ·have hlt:i<ns.length:=by omega
   have hilt:(i:Int)<(ns.length:Int):=by omega
   obtain⟨n,hn⟩:∃n,ns[i]=n:=⟨_,rfl⟩;have hd:ns.drop i=n::ns.drop (i+1):=by rw[List.drop_eq_getElem_cons hlt,hn]
   have HS2:=HR.out;rw[hd]at HS2;obtain⟨st2,hst2⟩:∃st2,stp ndP n st=some st2:=by
    cases h:stp ndP n st with
    |none=>rw[runF,h]at HS2;cases HS2
    |some x=>exact⟨x,rfl⟩
   rw[runF,hst2]at HS2;have hmem:n∈ns:=by rw[←hn];exact List.getElem_mem hlt
   have hnm:=hns n hmem;have hrnn:=hrn n hmem;have har:ar n≤st.length:=by
    unfold stp at hst2;split at hst2
    ·assumption
    ·cases hst2
   have hst3:st2=st.take (st.length-ar n)++[ndP n (st.drop (st.length-ar n))]:=by
    unfold stp at hst2;rw[if_pos har]at hst2;exact(Option.some.inj hst2).symm
   subst hst3;have HR3:zc (runF ndP (ns.drop (i+1)) (st.take (st.length-ar n)++[ndP n (st.drop (st.length-ar n))])=some [R]):=⟨HS2⟩;have hx:rd_T37 (ns.map nd37) (i:Int)=nd37 n:=by
    unfold rd_T37;rw[xa,List.getD_eq_getElem?_getD,List.getElem?_map,List.getElem?_eq_getElem hlt,hn];rfl
   obtain⟨m,hm⟩:∃m,st.length-ar n=m:=⟨_,rfl⟩;have hdl:(st.drop m).length=ar n:=by rw[List.length_drop];omega
   have hsz2:szs (st.take m)+szs (st.drop m)=szs st:=szs_take st m;have hpsz:=hrnn.sz (st.drop m) hdl;rw[hm]at HR3;obtain⟨g3,c3,hv3,hc3⟩:=R_slice1 HS.out HNN.out;subst hv3;have HRN:=zc.mk hrnn;have H1:=fun W=>Lib.hid (rArityN_at n hnm W)
   have H2:=fun W=>Lib.hid (hrnn.nd W)
   have HLF:ar n=0→∀W,RowKit.Hid (Calls Tryz.prog 29 #[.agg #[.int .i64 (opI n),.string (nd37 n).f1.f0,.string (nd37 n).f1.f1,.string (nd37 n).f2,.int .i64 (nd37 n).f3,.int .i64 (nd37 n).f4]] W fun e w'=>e= .returned (.string (ndP n (st.drop m)))∧Below W.heap.size W w'):=by
    intro h0 W;have e0:st.drop m=[]:=List.length_eq_zero_iff.1 (by rw[hdl];exact h0)
    rw[e0];exact Lib.hid (hrnn.lf h0 W)
   have HAB:0<ar n→∀W,Below wr.heap.size wr W→RowKit.Hid (Calls Tryz.prog 30 #[.int .i64 (opI n),.slice (some ⟨g3,m,none⟩) (st.length-m) (c3-m)] W fun e w'=>e= .returned (.string (ndP n (st.drop m)))∧Below W.heap.size W w'):=by
    intro h0 W hb;have e1:st.length-m=ar n:=by omega
    rw[e1];refine Lib.hid (hrnn.ab h0 g3 m (c3-m) (st.drop m) W hdl (by rw[hdl];omega) (by have:=HL.out;omega) ?_)
    intro j x hj;rw[List.getElem?_drop]at hj;have hlt:m+j<st.length:=by
     rcases Nat.lt_or_ge (m+j) st.length with h|h
     ·exact h
     ·rw[List.getElem?_eq_none h]at hj;cases hj
    have hc:=(Kd.R_celln (ByteArray.empty) (Kd.R_below HS.out hb) ((m+j:Nat):Int) (by omega) (by omega)).1
    rw[xa]at hc;rw[hc];unfold rdOf;rw[xa,List.getD_eq_getElem?_getD,hj];rfl
   have hq:∀W,Below wr.heap.size wr W→∃ad,A=some ad∧W.cell? (ad.add (i*6))=some (.int .i64 (opI n))∧W.cell? ⟨(ad.add (i*6)).block,(ad.add (i*6)).off+1,none⟩=some (.string (nd37 n).f1.f0)∧W.cell? ⟨(ad.add (i*6)).block,(ad.add (i*6)).off+2,none⟩=some (.string (nd37 n).f1.f1)∧W.cell? ⟨(ad.add (i*6)).block,(ad.add (i*6)).off+3,none⟩=some (.string (nd37 n).f2)∧W.cell? ⟨(ad.add (i*6)).block,(ad.add (i*6)).off+4,none⟩=some (.int .i64 (nd37 n).f3)∧W.cell? ⟨(ad.add (i*6)).block,(ad.add (i*6)).off+5,none⟩=some (.int .i64 (nd37 n).f4):=by
    intro W hb;obtain⟨ad,hAd,q0,q1,q2,q3,q4,q5⟩:=at_T37 (Kd.C_below HC.out (HB.out.trans (hb.mono HB.out.size))) (i:Int) (by omega) (by omega)
    have hop:(nd37 n).f0=opI n:=by cases n<;>rfl
    rw[hx,hop]at q0;rw[hx]at q1 q2 q3 q4 q5;rw[xa]at q0 q1 q2 q3 q4 q5;exact⟨ad,hAd,q0,q1,q2,q3,q4,q5⟩
   have HQ:=zc.mk hq;obtain⟨ad,hAd,q0,q1,q2,q3,q4,q5⟩:=hq wr (xb _ _);have HSZ:=zc.mk (And.intro hi (And.intro hst (And.intro hsz (And.intro hsz2 (And.intro hpsz (And.intro hdl hm))))));have hmL:(m:Int)≤(st.length:Int):=by omega
   have hm0:0≤(m:Int):=by omega
   have har1:(ar n:Int)≤(st.length:Int):=by omega
   have hw1:IntKind.i64.wrap ((st.length:Int)-(ar n:Int))=(m:Int):=by have:=HL.out;simp[j9];omega
   have hstm:(st.take m).length=m:=by rw[List.length_take];omega
   have hL2:(st.length:Int)≤2000:=by have:=HL.out;omega
   have HST:=zc.mk hstm;have hap:0<ar n→m<st.length:=by omega
   have hmm:m+ar n=st.length:=by omega
   clear HR HS2 hst2 hd hx hnm hrnn HRN hstm hq hsz hsz2 hpsz hdl hmem hns hrn hm hn;subst hAd;generalize ndP n (st.drop m)=x at*;generalize (nd37 n).f1.f0=z1 at*;generalize (nd37 n).f1.f1=z2 at*;generalize (nd37 n).f2=z3 at*;generalize (nd37 n).f3=z4 at*;generalize (nd37 n).f4=z5 at*;generalize opI n=z0 at*;generalize ar n=a at*;generalize hL:st.length=L at*;have hcI:(L:Int)≤(c3:Int):=by omega
   go_wp2_with fail;refine(H2 _).out.mono ?_;rintro e w1 ⟨rfl,hb1⟩;clear q0 q1 q2 q3 q4 q5;obtain⟨ad',hAd',q0,q1,q2,q3,q4,q5⟩:=HQ.out w1 hb1;injection hAd' with hAd';subst hAd';go_wp2_with fail;refine(H1 _).out.mono ?_;rintro e w2 ⟨rfl,hb2⟩;have hb12:=hb1.trans (hb2.mono hb1.size);have HB2:=zc.mk hb12;clear q0 q1 q2 q3 q4 q5 hb1 hb2 H1 H2;obtain⟨ad',hAd',q0,q1,q2,q3,q4,q5⟩:=HQ.out w2 hb12;injection hAd' with hAd';subst hAd';clear hb12;by_cases ha0:a=0
   ·subst ha0
    obtain rfl:m=L:=by omega
    have hwm:IntKind.i64.wrap (m:Int)=(m:Int):=by have:=HL.out;simp[j9];omega
    have HLF2:=HLF rfl w2;clear hw1 hap HAB har1 hmm HLF;go_wp2_with fail;refine HLF2.out.mono ?_;rintro e w3 ⟨rfl,hb3⟩;have hb:=HB2.out.trans (hb3.mono HB2.out.size);have HSW:=zc.mk (Kd.R_below HS.out hb);have HBW:=zc.mk (HB.out.trans (hb.mono HB.out.size));clear HS HB HB2 hb hb3 HLF2 q0 q1 q2 q3 q4 q5 HQ;go_wp2_with(first|((with_reducible refine gate_dst (N:=48) rfl ?_);refine Kd.R_lit Kd.string (w0:=w3) w3.heap.size 9 ?hg (N:=48) ?hd (xs:=[]) (inner:=[]) (ok:=fun _=>True) (okp:=fun _=>False) ?hr (Reps.none _ _) (fun _ hk=>hk.elim) trivial (xb _ _) (xc _) (Nat.zero_le _) ?_;(case hd=>rfl);(case hg=>rfl);(case hr=>first|(go_simp;done)|(go_simp;rfl));intro v8 w6 ho8 hb8 hg8 hn8;have HO8:=zc.mk ho8;have HB8:=zc.mk hb8;have HN8:=zc.mk hn8;have hS2:=Kd.R_below HSW.out hb8;have hS2:=(Kd.R_reads' hS2).2.2;have HS2:=zc.mk hS2;clear ho8 hb8 hg8 hn8 hS2)|(at_builtin;refine Kd.R_append_rows Kd.string (Rr:=Kd.string.K w6) (w0:=w3) w3.heap.size rfl (.tmp 48) (.tmp 54) 60 9 (.string ⟨#[]⟩) 16 rfl Tryz.underlying60 qS rfl (by decide) (by omega) v8 [] (st.take m) _ m _ (fun _=>True) (fun _=>False) rfl rfl HO8.out ?hRR ?hKM (fun _ hk=>hk.elim) (fun _ _=>trivial) HB8.out HB8.out.size ?hll ?_;(case hRR=>exact C_takeS HS2.out m (by rw[hL];omega));(case hKM=>exact fun x cs h=>h);(case hll=>simp;omega);intro v9 w7 ho9 hb9 hg9 hn9;have HO9:=zc.mk ho9;have HB9:=zc.mk hb9;have HN9:=zc.mk hn9;clear ho9 hb9 hg9 hn9)|(at_builtin;refine Kd.R_append Kd.string (w0:=w3) w3.heap.size rfl (.tmp 55) (.tmp 57) 60 9 (.string ⟨#[]⟩) 16 rfl Tryz.underlying60 qS rfl (by decide) (by omega) v9 (st.take m) x [.string x] (fun _=>True) (fun _=>False) rfl rfl rfl (fun _ hk=>hk.elim) (fun _ _=>trivial) HO9.out HB9.out HB9.out.size ?hll2 ?_;(case hll2=>rw[HST.out];omega);intro v10 w8 ho10 hb10 hg10 hn10;have HO10:=zc.mk ho10;have HB10:=zc.mk hb10;have HN10:=zc.mk hn10;clear ho10 hb10 hg10 hn10))
    have HE10:∃b,v10.ownBlock=some b:=by
     rcases HN10.out with h|⟨b,h,_⟩
     ·rcases HN9.out with h2|⟨b,h2,_⟩
      ·obtain⟨b,h3,_⟩:=HN8.out
       exact⟨b,by rw[h,h2,h3]⟩
      ·exact⟨b,by rw[h,h2]⟩
     ·exact⟨b,h⟩
    have HS7:=Kd.R_lower HO10.out HBW.out.size;have HB7:=HBW.out.trans (HB10.out.mono HBW.out.size);obtain⟨y1,y2,y3,y4,y5,y6,y7⟩:=HSZ.out;go_wp2;go_roundg (gk-1)
    case measure=>omega
    case rel=>exact⟨i+1,_,rfl,by omega,by omega,⟨HS7⟩,⟨HE10⟩,⟨HB7⟩,HR3,by rw[List.length_append,HST.out];simp;omega,by rw[szs_app];show szs (st.take m)+(x.size+0)≤_;omega⟩
   ·have hne:¬(a:Int)=0:=by omega
    have hmlt:=hap (by omega)
    have hmI:(m:Int)<(L:Int):=by omega
    have hcm:¬c3=m:=by omega
    have hmc:(m:Int)≤(c3:Int):=by omega
    have HAB2:=HAB (by omega)
    have hSB:∀w':World,Below w2.heap.size w2 w'→w'.cell? (ad.add (i*6))=some (.int .i64 z0):=by
     intro w' hb;obtain⟨ad2,hAd2,q,_⟩:=HQ.out w' (HB2.out.trans (hb.mono HB2.out.size));injection hAd2 with hAd2;rw[hAd2];exact q
    have HBX:=zc.mk (xb w2.heap.size w2);clear hap HAB HLF;go_wp2_with fail;go_region_held3 (fun w':World=>w'.cell? (ad.add (i*6))=some (.int .i64 z0)) (exact hSB _ (by repeat(first|(with_reducible first|exact HBX.out|apply zk|apply ze|apply zm)|exact HBX.out))) (first|(go_at_call 30;with_reducible refine(HAB2 _ (HB2.out.trans (Below.mono (by repeat(first|(with_reducible first|exact HBX.out|apply zk|apply ze|apply zm)|exact HBX.out)) HB2.out.size))).out.mono ?_;rintro e w3 ⟨rfl,hb3⟩;have n0:=zc.mk (zi (by repeat(first|(with_reducible first|exact HBX.out|apply zk|apply ze|apply zm)|exact HBX.out)) hb3);clear HBX hb3;have HBX:=n0;clear n0))
    have hb:=HB2.out.trans (HBX.out.mono HB2.out.size);have HSW:=zc.mk (Kd.R_below HS.out hb);have HBW:=zc.mk (HB.out.trans (hb.mono HB.out.size));clear HS HB HB2 hb HBX HAB2 hSB q0 q1 q2 q3 q4 q5 HQ;go_wp2_with(first|((with_reducible refine gate_dst (N:=48) rfl ?_);refine Kd.R_lit Kd.string (w0:=w3) w3.heap.size 9 ?hg (N:=48) ?hd (xs:=[]) (inner:=[]) (ok:=fun _=>True) (okp:=fun _=>False) ?hr (Reps.none _ _) (fun _ hk=>hk.elim) trivial (xb _ _) (xc _) (Nat.zero_le _) ?_;(case hd=>rfl);(case hg=>rfl);(case hr=>first|(go_simp;done)|(go_simp;rfl));intro v8 w6 ho8 hb8 hg8 hn8;have HO8:=zc.mk ho8;have HB8:=zc.mk hb8;have HN8:=zc.mk hn8;have hS2:=Kd.R_below HSW.out hb8;have hS2:=(Kd.R_reads' hS2).2.2;have HS2:=zc.mk hS2;clear ho8 hb8 hg8 hn8 hS2)|(at_builtin;refine Kd.R_append_rows Kd.string (Rr:=Kd.string.K w6) (w0:=w3) w3.heap.size rfl (.tmp 48) (.tmp 54) 60 9 (.string ⟨#[]⟩) 16 rfl Tryz.underlying60 qS rfl (by decide) (by omega) v8 [] (st.take m) _ m _ (fun _=>True) (fun _=>False) rfl rfl HO8.out ?hRR ?hKM (fun _ hk=>hk.elim) (fun _ _=>trivial) HB8.out HB8.out.size ?hll ?_;(case hRR=>exact C_takeS HS2.out m (by rw[hL];omega));(case hKM=>exact fun x cs h=>h);(case hll=>simp;omega);intro v9 w7 ho9 hb9 hg9 hn9;have HO9:=zc.mk ho9;have HB9:=zc.mk hb9;have HN9:=zc.mk hn9;clear ho9 hb9 hg9 hn9)|(at_builtin;refine Kd.R_append Kd.string (w0:=w3) w3.heap.size rfl (.tmp 55) (.tmp 57) 60 9 (.string ⟨#[]⟩) 16 rfl Tryz.underlying60 qS rfl (by decide) (by omega) v9 (st.take m) x [.string x] (fun _=>True) (fun _=>False) rfl rfl rfl (fun _ hk=>hk.elim) (fun _ _=>trivial) HO9.out HB9.out HB9.out.size ?hll2 ?_;(case hll2=>rw[HST.out];omega);intro v10 w8 ho10 hb10 hg10 hn10;have HO10:=zc.mk ho10;have HB10:=zc.mk hb10;have HN10:=zc.mk hn10;clear ho10 hb10 hg10 hn10))
    have HE10:∃b,v10.ownBlock=some b:=by
     rcases HN10.out with h|⟨b,h,_⟩
     ·rcases HN9.out with h2|⟨b,h2,_⟩
      ·obtain⟨b,h3,_⟩:=HN8.out
       exact⟨b,by rw[h,h2,h3]⟩
      ·exact⟨b,by rw[h,h2]⟩
     ·exact⟨b,h⟩
    have HS7:=Kd.R_lower HO10.out HBW.out.size;have HB7:=HBW.out.trans (HB10.out.mono HBW.out.size);obtain⟨y1,y2,y3,y4,y5,y6,y7⟩:=HSZ.out;go_wp2;go_roundg (gk-1)
    case measure=>omega
    case rel=>exact⟨i+1,_,rfl,by omega,by omega,⟨HS7⟩,⟨HE10⟩,⟨HB7⟩,HR3,by rw[List.length_append,HST.out];simp;omega,by rw[szs_app];show szs (st.take m)+(x.size+0)≤_;omega⟩
end Go.Proofs.YtjopepfemhckjaaGreatDoor.NW
end
