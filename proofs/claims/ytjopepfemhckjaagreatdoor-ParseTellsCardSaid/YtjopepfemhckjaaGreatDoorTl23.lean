/-
  Part 23 of the proof of parseTells_holds: texts of this seat, put together.
-/
import Derived.RowKit
import Derived.Test.YtjopepfemhckjaaGreatDoorTl22
set_option linter.unusedVariables false
set_option linter.unusedSimpArgs false
set_option maxHeartbeats 16000000
set_option maxRecDepth 100000
section
namespace Go.Proofs.YtjopepfemhckjaaGreatDoor.NW
open Go.Proofs Go.RowKit Go.Shelf Go.Proofs.YtjopepfemhckjaaGreatDoor.PN Go.Proofs.YtjopepfemhckjaaGreatDoorW.PrintWords Go.Proofs.YtjopepfemhckjaaGreatDoor.PParseTells
theorem qr {W:World}{b:Nat}{last:S75}(h:W.heap[b]? =some (.cells #[.int .i64 last.f0,.string last.f1,.int .i64 last.f2,.int .i64 last.f3] 75)):W.cell? ⟨b,0,none⟩=some (.int .i64 last.f0)∧W.cell? ⟨b,1,none⟩=some (.string last.f1)∧W.cell? ⟨b,2,none⟩=some (.int .i64 last.f2)∧W.cell? ⟨b,3,none⟩=some (.int .i64 last.f3):=
 ⟨by rw[j6 h];rfl,by rw[j6 h];rfl,by rw[j6 h];rfl,by rw[j6 h];rfl⟩
def PS.price (s:PS)(op:Int)(last:S75):PS×Nd:=
 let s1:=s.must ⟨#[40]⟩ last
 let r:=s1.take 0 (fun _=>true)
 let s3:=if r.2.2=true then r.1 else r.1.fail 110 last
 let d:=(s3.must ⟨#[44]⟩ last).day last 0 9999
 if op=1 then(d.1.must ⟨#[41]⟩ last,.px r.2.1 d.2)
 else
  let d2:=(d.1.must ⟨#[44]⟩ last).day last d.2 (d.2+59)
  (d2.1.must ⟨#[41]⟩ last,.raw ⟨op,⟨⟨#[]⟩,⟨#[]⟩⟩,r.2.1,d.2,d2.2⟩)
theorem PB.setFar {w0:World}{g:Nat}{A:Option Addr}{c:Nat}{toks:List S75}{wv:Value}{wait:List S82}{ov:Value}{out:List Nd}{dp e p0 p1:Int}{w:World}(h:PB w0 g A c toks wv wait ov out dp e p0 p1 w){nb:Nat}(hg:nb≠g)(hw:wv.ownBlock≠some nb)(ho:ov.ownBlock≠some nb)(hb:w0.heap.size≤nb)(j:Nat)(u:Value):PB w0 g A c toks wv wait ov out dp e p0 p1 (w.setCell ⟨nb,j,none⟩ u):=by
 have hgr:=gst (World.grownBy.refl w (some nb)) j u;refine⟨(hgr.block g h.lt (fun e=>hg (by injection e with e;exact e.symm))).trans h.blk,h.hc,h.tk,h.ta,Kd.R_grown1 h.wt rfl hgr (fun e=>hw e.symm),Kd.R_grown1 h.ou rfl hgr (fun e=>ho e.symm),zD h.bl hb j u,h.gb,h.hl⟩
theorem price1_t {w0:World}{g:Nat}{wv:Value}{wait:List S82}{ov:Value}{out:List Nd}{dp:Int}{s:PS}{w:World}(h:PBS w0 g wv wait ov out dp s w)(hg:Glob2 w0)(hsz:SzOK s)(last:S75)(hl:qz last)(hout:out.length≤100000):
 Calls Tryz.prog 78 #[.pointer (some ⟨g,0,none⟩),.int .i64 1,tkV last] w fun ex w'=>ex= .returned (.tuple #[])∧(∃ov',PBS w0 g wv wait ov' (out++[(s.price 1 last).2]) dp (s.price 1 last).1 w')∧Fr w w':=by
 have hb0:=(xb w.heap.size w).alloc (xc _) (.cells #[.int .i64 last.f0,.string last.f1,.int .i64 last.f2,.int .i64 last.f3] 75);have HQ:=zc.mk (h.step hb0);have K0:=zc.mk (j7 w (.cells #[.int .i64 last.f0,.string last.f1,.int .i64 last.f2,.int .i64 last.f3] 75));have HFR:=zc.mk (Fr.below hb0);have HO:=zc.mk hout;have HG:=zc.mk hg;have HM1:=jb HQ.out ⟨#[40]⟩ last hl;have HZ1:=zc.mk (hsz.must ⟨#[40]⟩ last);unfold tkV at*;have HM1:=Lib.hid HM1;obtain⟨l0,l1,l2,l3⟩:=qr K0.out;have hpr:∃P,s.price 1 last=P:=⟨_,rfl⟩;obtain⟨P,hP⟩:=hpr;rw[hP];unfold PS.price at hP;simp only[if_pos]at hP;skip
 have HP:=zc.mk hP;clear h hb0 hg hsz hout hP;generalize s.must ⟨#[40]⟩ last=s1 at*;go_enter Tryz.func78,Tryz.ntmps78
 go_wp2_with fail;generalize w.alloc (.cells #[.int .i64 last.f0,.string last.f1,.int .i64 last.f2,.int .i64 last.f3] 75)=wa at*;refine HM1.out.mono ?_;rintro ex wb ⟨rfl,hq,hg⟩;have HF1:=zc.mk (HFR.out.trans (HQ.out.fr hg));have K1:=zc.mk ((HQ.out.fr hg) _ _ K0.out);have HQ1:=zc.mk hq;clear l0 l1 l2 l3 HM1 HQ HFR K0 hq hg;have HT:=Lib.hid (take0_t HQ1.out 0 112 (fun _=>true) enters_pr1 (fun t r _ _ _=>pr1_at t.f1 _))
 have HZ2:=zc.mk (HZ1.out.take 0 (fun _=>true))
 obtain⟨s2,hs2⟩:∃s2,(s1.take 0 (fun _=>true)).1=s2:=⟨_,rfl⟩
 obtain⟨asx,has⟩:∃asx,(s1.take 0 (fun _=>true)).2.1=asx:=⟨_,rfl⟩
 obtain⟨ok,hok⟩:∃ok,(s1.take 0 (fun _=>true)).2.2=ok:=⟨_,rfl⟩
 rw[hs2,has,hok]at HP;rw[hs2]at HZ2;rw[hs2,has,hok]at HT;clear hs2 has hok;go_wp2_with fail;refine HT.out.mono ?_;rintro ex wc ⟨rfl,hq,hg⟩;have HF2:=zc.mk (HF1.out.trans (HQ1.out.fr hg));have K2:=zc.mk ((HQ1.out.fr hg) _ _ K1.out);have HQ2:=zc.mk hq;clear HT HQ1 HF1 K1 HZ1 hq hg;obtain⟨l0,l1,l2,l3⟩:=qr K2.out;have hmid:∃s3,(if ok=true then s2 else s2.fail 110 last)=s3:=⟨_,rfl⟩
 obtain⟨s3,hs3⟩:=hmid;rw[hs3]at HP;have HZ3:zc (SzOK s3):=by
  refine⟨?_⟩;rw[←hs3];split
  ·exact HZ2.out
  ·exact HZ2.out.fail _ _
 cases ok
 case' false=>
  rw[if_neg (by decide)]at hs3
  have HFL:=fail_t HQ2.out 110 last hl;rw[hs3]at HFL;unfold tkV at HFL;have HFL:=Lib.hid HFL;clear hs3;go_wp2_with fail;refine HFL.out.mono ?_;rintro ex wd ⟨rfl,hq,hg⟩;have HF3:=zc.mk (HF2.out.trans (HQ2.out.fr hg));have K3:=zc.mk ((HQ2.out.fr hg) _ _ K2.out);have HQ3:=zc.mk hq;clear HFL HQ2 HF2 K2 HZ2 hq hg l0 l1 l2 l3;obtain⟨l0,l1,l2,l3⟩:=qr K3.out
 case' true=>
  rw[if_pos rfl]at hs3;have HQ3:=HQ2;rw[hs3]at HQ3;clear hs3;have HF3:=HF2;have K3:=K2;have hwd:∃wd,wd=wc:=⟨_,rfl⟩;obtain⟨wd,hwd⟩:=hwd;rw[←hwd]at HQ3 HF3 K3 l0 l1 l2 l3 ⊢;clear HQ2 HF2 K2 HZ2 hwd
 all_goals
  have HM2:=jb HQ3.out ⟨#[44]⟩ last hl;unfold tkV at HM2;have HM2:=Lib.hid HM2;have HZ4:=zc.mk (HZ3.out.must ⟨#[44]⟩ last);generalize s3.must ⟨#[44]⟩ last=s4 at*;go_wp2_with fail;refine HM2.out.mono ?_;rintro ex we ⟨rfl,hq,hg⟩;have HF4:=zc.mk (HF3.out.trans (HQ3.out.fr hg));have K4:=zc.mk ((HQ3.out.fr hg) _ _ K3.out);have HQ4:=zc.mk hq;clear HM2 HQ3 HF3 K3 HZ3 hq hg l0 l1 l2 l3;obtain⟨l0,l1,l2,l3⟩:=qr K4.out;have HD:=day_t HQ4.out HG.out HZ4.out last hl 0 9999;unfold tkV at HD;have HD:=Lib.hid HD;have hrg:=jZ s4 last 0 9999 (by omega)
  have HZ5:=zc.mk (HZ4.out.day last 0 9999);obtain⟨s5,hs5⟩:∃s5,(s4.day last 0 9999).1=s5:=⟨_,rfl⟩;obtain⟨a,ha⟩:∃a,(s4.day last 0 9999).2=a:=⟨_,rfl⟩;rw[hs5,ha]at HP;rw[hs5]at HZ5;rw[ha]at hrg;rw[hs5,ha]at HD;clear hs5 ha;go_wp2_with fail;refine HD.out.mono ?_;rintro ex wf ⟨rfl,hq,hg⟩;have HF5:=zc.mk (HF4.out.trans (HQ4.out.fr hg));have K5:=zc.mk ((HQ4.out.fr hg) _ _ K4.out);clear HD HQ4 HF4 K4 HZ4 hg l0 l1 l2 l3;have hb1:=(xb wf.heap.size wf).alloc (xc _) (.cells #[.int .i64 1,.string ⟨#[]⟩,.string ⟨#[]⟩,.string asx,.int .i64 a,.int .i64 0] 37);have hown:∀k,(ov.ownBlock=some k∨wv.ownBlock=some k)→k<wf.heap.size:=by
   obtain⟨A9,c9,h9⟩:=hq;rintro k (hk|hk)
   ·exact Kd.R_lt h9.ou k hk
   ·exact Kd.R_lt h9.wt k hk
  have hgw:g<wf.heap.size∧w0.heap.size≤wf.heap.size:=by
   obtain⟨A9,c9,h9⟩:=hq;exact⟨h9.lt,h9.bl.size⟩
  have HQ5:=zc.mk (hq.step hb1);have HF6:=zc.mk (HF5.out.trans (Fr.below hb1));have K6:=zc.mk ((Fr.below hb1) _ _ K5.out);have N6:=zc.mk (j7 wf (.cells #[.int .i64 1,.string ⟨#[]⟩,.string ⟨#[]⟩,.string asx,.int .i64 a,.int .i64 0] 37));clear hb1 hq HF5 K5;obtain⟨l0,l1,l2,l3⟩:=qr K6.out;have hop1:(1:Int)=1:=rfl;have HM4:=jb HQ5.out ⟨#[41]⟩ last hl;unfold tkV at HM4;have HM4:=Lib.hid HM4;go_wp2_with fail;generalize wf.alloc (.cells #[.int .i64 1,.string ⟨#[]⟩,.string ⟨#[]⟩,.string asx,.int .i64 a,.int .i64 0] 37)=wj at*;refine HM4.out.mono ?_;rintro ex wk ⟨rfl,hq,hg⟩;have HFa:=zc.mk (HF6.out.trans (HQ5.out.fr hg));have Na:=zc.mk ((hg.block _ (xe N6.out).1 (fun he=>(Nat.ne_of_gt hgw.1) (by injection he))).trans N6.out)
  clear HM4 HQ5 HF6 K6 N6 hg l0 l1 l2 l3;have HP2:zc (P=(s5.must ⟨#[41]⟩ last,(.px asx a))):=⟨HP.out.symm⟩;clear HP;generalize s5.must ⟨#[41]⟩ last=s9 at*;obtain⟨Af,cf,hPB⟩:=hq;have HQa:=zc.mk hPB;clear hPB;obtain⟨d0,d1,d2,d3,d4,d5,d6⟩:=HQa.out.cells;obtain⟨r0,r1,r2,r3,r4,r5,r6⟩:=(HQa.out.step ((xb _ _).drew)).cells;have m0:wk.cell? ⟨wf.heap.size,0,none⟩=some (.int .i64 1):=by rw[j6 Na.out];rfl
  have m1:wk.cell? ⟨wf.heap.size,1,none⟩=some (.string ⟨#[]⟩):=by rw[j6 Na.out];rfl
  have m2:wk.cell? ⟨wf.heap.size,2,none⟩=some (.string ⟨#[]⟩):=by rw[j6 Na.out];rfl
  have m3:wk.cell? ⟨wf.heap.size,3,none⟩=some (.string asx):=by rw[j6 Na.out];rfl
  have m4:wk.cell? ⟨wf.heap.size,4,none⟩=some (.int .i64 a):=by rw[j6 Na.out];rfl
  have m5:wk.cell? ⟨wf.heap.size,5,none⟩=some (.int .i64 0):=by rw[j6 Na.out];rfl
  have hbytes:((out.map nd37).length+1)*72≤140737488355328:=by rw[List.length_map];have:=HO.out;omega
  have HQD:=zc.mk (HQa.out.step ((xb _ _).drew));have hgl:=HQa.out.lt;go_wp2_with fail;go_region_law ((refine Kd.R_append_step k37 (w0:=w0) (W:=wk.drew) w0.heap.size (by rfl) (.tmp 53) (.tmp 55) 24 37 (.agg #[.int .i64 0,.string ⟨#[]⟩,.string ⟨#[]⟩,.string ⟨#[]⟩,.int .i64 0,.int .i64 0]) 72 (by rfl) Tryz.underlying24 zS (by rfl) (by decide) (by omega) ov (out.map nd37) (nd37 (.px asx a)) [.int .i64 1,.string ⟨#[]⟩,.string ⟨#[]⟩,.string asx,.int .i64 a,.int .i64 0] (fun k=>k≠g) (fun _=>False) (by rfl) (by rfl) (zE _ _ _ (nd37 (.px asx a))) (fun _ hk=>hk.elim) (fun k hk=>by have:=HQa.out.lt;have:=HQD.out.lt;omega) HQD.out.ou HQD.out.bl HQD.out.bl.size hbytes ?_;intro v1 w1 hv1 hb1 hg1 ho1;have hl1:(out.map nd37++[nd37 (.px asx a)]).length=out.length+1:=(by simp);obtain⟨Av,cv,hvv⟩:=Kd.R_slice hv1;rw[hl1]at hvv;subst hvv;have hk1:=(hg1.block g HQD.out.lt (fun hh=>HQD.out.ou.1 _ hh.symm rfl)).trans HQD.out.blk;have hz1:w1.frozen? ⟨g,2,none⟩=false:=Lib.frozen_of_heap hk1 2;have hc1:w1.cell? ⟨g,2,none⟩=some ov:=(by rw[j6 hk1];rfl);have HK1:=zc.mk hk1;clear hk1))
  all_goals(
   have HQ6':=HQD.out.newO hb1 hg1 (out1:=out++[(.px asx a)]) (by rw[List.map_append];exact hv1)
   have HF7':=(HFa.out.trans ((Fr.below ((xb wk.heap.size wk).drew)).trans (HQD.out.frO hg1))).trans (Fr.grown (gst (World.grownBy.refl w1 (some g)) 2 (.slice Av (out.length+1) cv)) (fun k hk=>by injection hk with hk;subst hk;exact⟨_,_,HK1.out,by decide⟩))
   go_wp2_with fail;first
   |(refine bodyPost_end (v:= .tuple #[]) (by simp[results,Tryz.f78,go_sem]) rfl ?_;rw[HP2.out];exact⟨rfl,⟨_,Af,cf,HQ6'⟩,HF7'⟩)
   |(refine bodyPost_end (v:= .tuple #[]) (by simp[results,Tryz.f78,go_sem]) rfl ?_;rw[HP2.out];exact⟨rfl,⟨_,Af,cf,HQ6'.step ((xb _ _).drew)⟩,HF7'.trans (Fr.below ((xb _ _).drew))⟩))
theorem price2_t {w0:World}{g:Nat}{wv:Value}{wait:List S82}{ov:Value}{out:List Nd}{dp:Int}{s:PS}{w:World}(h:PBS w0 g wv wait ov out dp s w)(hg:Glob2 w0)(hsz:SzOK s)(op:Int)(hop:op≠1)(last:S75)(hl:qz last)(hout:out.length≤100000):
 Calls Tryz.prog 78 #[.pointer (some ⟨g,0,none⟩),.int .i64 op,tkV last] w fun ex w'=>ex= .returned (.tuple #[])∧(∃ov',PBS w0 g wv wait ov' (out++[(s.price op last).2]) dp (s.price op last).1 w')∧Fr w w':=by
 have hb0:=(xb w.heap.size w).alloc (xc _) (.cells #[.int .i64 last.f0,.string last.f1,.int .i64 last.f2,.int .i64 last.f3] 75);have HQ:=zc.mk (h.step hb0);have K0:=zc.mk (j7 w (.cells #[.int .i64 last.f0,.string last.f1,.int .i64 last.f2,.int .i64 last.f3] 75));have HFR:=zc.mk (Fr.below hb0);have HO:=zc.mk hout;have HG:=zc.mk hg;have HM1:=jb HQ.out ⟨#[40]⟩ last hl;have HZ1:=zc.mk (hsz.must ⟨#[40]⟩ last);unfold tkV at*;have HM1:=Lib.hid HM1;obtain⟨l0,l1,l2,l3⟩:=qr K0.out;have hpr:∃P,s.price op last=P:=⟨_,rfl⟩;obtain⟨P,hP⟩:=hpr;rw[hP];unfold PS.price at hP;simp only[if_neg hop]at hP;skip
 have HP:=zc.mk hP;clear h hb0 hg hsz hout hP;generalize s.must ⟨#[40]⟩ last=s1 at*;go_enter Tryz.func78,Tryz.ntmps78
 go_wp2_with fail;generalize w.alloc (.cells #[.int .i64 last.f0,.string last.f1,.int .i64 last.f2,.int .i64 last.f3] 75)=wa at*;refine HM1.out.mono ?_;rintro ex wb ⟨rfl,hq,hg⟩;have HF1:=zc.mk (HFR.out.trans (HQ.out.fr hg));have K1:=zc.mk ((HQ.out.fr hg) _ _ K0.out);have HQ1:=zc.mk hq;clear l0 l1 l2 l3 HM1 HQ HFR K0 hq hg;have HT:=Lib.hid (take0_t HQ1.out 0 112 (fun _=>true) enters_pr1 (fun t r _ _ _=>pr1_at t.f1 _))
 have HZ2:=zc.mk (HZ1.out.take 0 (fun _=>true))
 obtain⟨s2,hs2⟩:∃s2,(s1.take 0 (fun _=>true)).1=s2:=⟨_,rfl⟩
 obtain⟨asx,has⟩:∃asx,(s1.take 0 (fun _=>true)).2.1=asx:=⟨_,rfl⟩
 obtain⟨ok,hok⟩:∃ok,(s1.take 0 (fun _=>true)).2.2=ok:=⟨_,rfl⟩
 rw[hs2,has,hok]at HP;rw[hs2]at HZ2;rw[hs2,has,hok]at HT;clear hs2 has hok;go_wp2_with fail;refine HT.out.mono ?_;rintro ex wc ⟨rfl,hq,hg⟩;have HF2:=zc.mk (HF1.out.trans (HQ1.out.fr hg));have K2:=zc.mk ((HQ1.out.fr hg) _ _ K1.out);have HQ2:=zc.mk hq;clear HT HQ1 HF1 K1 HZ1 hq hg;obtain⟨l0,l1,l2,l3⟩:=qr K2.out;have hmid:∃s3,(if ok=true then s2 else s2.fail 110 last)=s3:=⟨_,rfl⟩
 obtain⟨s3,hs3⟩:=hmid;rw[hs3]at HP;have HZ3:zc (SzOK s3):=by
  refine⟨?_⟩;rw[←hs3];split
  ·exact HZ2.out
  ·exact HZ2.out.fail _ _
 cases ok
 case' false=>
  rw[if_neg (by decide)]at hs3
  have HFL:=fail_t HQ2.out 110 last hl;rw[hs3]at HFL;unfold tkV at HFL;have HFL:=Lib.hid HFL;clear hs3;go_wp2_with fail;refine HFL.out.mono ?_;rintro ex wd ⟨rfl,hq,hg⟩;have HF3:=zc.mk (HF2.out.trans (HQ2.out.fr hg));have K3:=zc.mk ((HQ2.out.fr hg) _ _ K2.out);have HQ3:=zc.mk hq;clear HFL HQ2 HF2 K2 HZ2 hq hg l0 l1 l2 l3;obtain⟨l0,l1,l2,l3⟩:=qr K3.out
 case' true=>
  rw[if_pos rfl]at hs3;have HQ3:=HQ2;rw[hs3]at HQ3;clear hs3;have HF3:=HF2;have K3:=K2;have hwd:∃wd,wd=wc:=⟨_,rfl⟩;obtain⟨wd,hwd⟩:=hwd;rw[←hwd]at HQ3 HF3 K3 l0 l1 l2 l3 ⊢;clear HQ2 HF2 K2 HZ2 hwd
 all_goals
  have HM2:=jb HQ3.out ⟨#[44]⟩ last hl;unfold tkV at HM2;have HM2:=Lib.hid HM2;have HZ4:=zc.mk (HZ3.out.must ⟨#[44]⟩ last);generalize s3.must ⟨#[44]⟩ last=s4 at*;go_wp2_with fail;refine HM2.out.mono ?_;rintro ex we ⟨rfl,hq,hg⟩;have HF4:=zc.mk (HF3.out.trans (HQ3.out.fr hg));have K4:=zc.mk ((HQ3.out.fr hg) _ _ K3.out);have HQ4:=zc.mk hq;clear HM2 HQ3 HF3 K3 HZ3 hq hg l0 l1 l2 l3;obtain⟨l0,l1,l2,l3⟩:=qr K4.out;have HD:=day_t HQ4.out HG.out HZ4.out last hl 0 9999;unfold tkV at HD;have HD:=Lib.hid HD;have hrg:=jZ s4 last 0 9999 (by omega)
  have HZ5:=zc.mk (HZ4.out.day last 0 9999);obtain⟨s5,hs5⟩:∃s5,(s4.day last 0 9999).1=s5:=⟨_,rfl⟩;obtain⟨a,ha⟩:∃a,(s4.day last 0 9999).2=a:=⟨_,rfl⟩;rw[hs5,ha]at HP;rw[hs5]at HZ5;rw[ha]at hrg;rw[hs5,ha]at HD;clear hs5 ha;go_wp2_with fail;refine HD.out.mono ?_;rintro ex wf ⟨rfl,hq,hg⟩;have HF5:=zc.mk (HF4.out.trans (HQ4.out.fr hg));have K5:=zc.mk ((HQ4.out.fr hg) _ _ K4.out);clear HD HQ4 HF4 K4 HZ4 hg l0 l1 l2 l3;have hb1:=(xb wf.heap.size wf).alloc (xc _) (.cells #[.int .i64 op,.string ⟨#[]⟩,.string ⟨#[]⟩,.string asx,.int .i64 a,.int .i64 0] 37);have hown:∀k,(ov.ownBlock=some k∨wv.ownBlock=some k)→k<wf.heap.size:=by
   obtain⟨A9,c9,h9⟩:=hq;rintro k (hk|hk)
   ·exact Kd.R_lt h9.ou k hk
   ·exact Kd.R_lt h9.wt k hk
  have hgw:g<wf.heap.size∧w0.heap.size≤wf.heap.size:=by
   obtain⟨A9,c9,h9⟩:=hq;exact⟨h9.lt,h9.bl.size⟩
  have HQ5:=zc.mk (hq.step hb1);have HF6:=zc.mk (HF5.out.trans (Fr.below hb1));have K6:=zc.mk ((Fr.below hb1) _ _ K5.out);have N6:=zc.mk (j7 wf (.cells #[.int .i64 op,.string ⟨#[]⟩,.string ⟨#[]⟩,.string asx,.int .i64 a,.int .i64 0] 37));clear hb1 hq HF5 K5;obtain⟨l0,l1,l2,l3⟩:=qr K6.out;have hop1:¬op=1:=hop;have m3:(wf.alloc (.cells #[.int .i64 op,.string ⟨#[]⟩,.string ⟨#[]⟩,.string asx,.int .i64 a,.int .i64 0] 37)).cell? ⟨wf.heap.size,4,none⟩=some (.int .i64 a):=by rw[j6 N6.out];rfl
  have HM3:=jb HQ5.out ⟨#[44]⟩ last hl;unfold tkV at HM3;have HM3:=Lib.hid HM3;have HZ6:=zc.mk (HZ5.out.must ⟨#[44]⟩ last);generalize s5.must ⟨#[44]⟩ last=s6 at*;go_wp2_with fail;generalize wf.alloc (.cells #[.int .i64 op,.string ⟨#[]⟩,.string ⟨#[]⟩,.string asx,.int .i64 a,.int .i64 0] 37)=wg at*;refine HM3.out.mono ?_;rintro ex wh ⟨rfl,hq,hg⟩;have HF7:=zc.mk (HF6.out.trans (HQ5.out.fr hg));have K7:=zc.mk ((HQ5.out.fr hg) _ _ K6.out);have HQ6:=zc.mk hq;have N7:=zc.mk ((hg.block _ (xe N6.out).1 (fun he=>(Nat.ne_of_gt hgw.1) (by injection he))).trans N6.out)
  clear HM3 HQ5 HF6 K6 HZ5 N6 hq hg l0 l1 l2 l3 m3;obtain⟨l0,l1,l2,l3⟩:=qr K7.out;have m3:wh.cell? ⟨wf.heap.size,4,none⟩=some (.int .i64 a):=by rw[j6 N7.out];rfl
  have e1:IntKind.i64.wrap (a+60)=a+60:=by simp[j9];omega
  have e2:IntKind.i64.wrap (a+60-1)=a+59:=by simp[j9];omega
  have HD:=day_t HQ6.out HG.out HZ6.out last hl a (a+59);unfold tkV at HD;have HD:=Lib.hid HD;have HZ7:=zc.mk (HZ6.out.day last a (a+59));obtain⟨s7,hs7⟩:∃s7,(s6.day last a (a+59)).1=s7:=⟨_,rfl⟩;obtain⟨b,hbb⟩:∃b,(s6.day last a (a+59)).2=b:=⟨_,rfl⟩;rw[hs7,hbb]at HP;rw[hs7]at HZ7;rw[hs7,hbb]at HD;clear hs7 hbb;go_wp2_with fail;refine HD.out.mono ?_;rintro ex wi ⟨rfl,hq,hg⟩;have HF8:=zc.mk (HF7.out.trans (HQ6.out.fr hg));have K8:=zc.mk ((HQ6.out.fr hg) _ _ K7.out);have HQ7:=zc.mk hq;have n8:=(hg.block _ (xe N7.out).1 (fun he=>(Nat.ne_of_gt hgw.1) (by injection he))).trans N7.out
  have m4:wi.cell? ⟨wf.heap.size,5,none⟩=some (.int .i64 0):=by rw[j6 n8];rfl
  have fz:wi.frozen? ⟨wf.heap.size,5,none⟩=false:=Lib.frozen_of_heap n8 5;have HQ8:zc (PBS w0 g wv wait ov out dp s7 (wi.setCell ⟨wf.heap.size,5,none⟩ (.int .i64 b))):=by
   obtain⟨A9,c9,h9⟩:=HQ7.out;exact⟨A9,c9,h9.setFar (Nat.ne_of_gt hgw.1) (fun e=>Nat.lt_irrefl _ (hown _ (.inr e))) (fun e=>Nat.lt_irrefl _ (hown _ (.inl e))) hgw.2 5 _⟩
  have HFs:Fr wi (wi.setCell ⟨wf.heap.size,5,none⟩ (.int .i64 b)):=Fr.grown (gst (World.grownBy.refl wi (some wf.heap.size)) 5 (.int .i64 b)) (fun k hk=>by injection hk with hk;subst hk;exact⟨_,_,n8,by decide⟩)
  have HF9:=zc.mk (HF8.out.trans HFs);have K9:=zc.mk (HFs _ _ K8.out);have N9:zc ((wi.setCell ⟨wf.heap.size,5,none⟩ (.int .i64 b)).heap[wf.heap.size]? =some (.cells #[.int .i64 op,.string ⟨#[]⟩,.string ⟨#[]⟩,.string asx,.int .i64 a,.int .i64 b] 37)):=⟨by simp[World.setCell,Array.getElem?_modify,n8]⟩
  clear HD HQ6 HF7 K7 HZ6 N7 hq hg l0 l1 l2 l3 m3 n8 HFs HF8 K8 HQ7;obtain⟨l0,l1,l2,l3⟩:=qr K9.out;have HM4:=jb HQ8.out ⟨#[41]⟩ last hl;unfold tkV at HM4;have HM4:=Lib.hid HM4;go_wp2_with fail;generalize wi.setCell ⟨wf.heap.size,5,none⟩ (.int .i64 b)=wj at*;refine HM4.out.mono ?_;rintro ex wk ⟨rfl,hq,hg⟩;have HFa:=zc.mk (HF9.out.trans (HQ8.out.fr hg));have Na:=zc.mk ((hg.block _ (xe N9.out).1 (fun he=>(Nat.ne_of_gt hgw.1) (by injection he))).trans N9.out)
  clear HM4 HQ8 HF9 K9 N9 hg l0 l1 l2 l3;have HP2:zc (P=(s7.must ⟨#[41]⟩ last,(.raw ⟨op,⟨⟨#[]⟩,⟨#[]⟩⟩,asx,a,b⟩))):=⟨HP.out.symm⟩;clear HP;generalize s7.must ⟨#[41]⟩ last=s9 at*;obtain⟨Af,cf,hPB⟩:=hq;have HQa:=zc.mk hPB;clear hPB;obtain⟨d0,d1,d2,d3,d4,d5,d6⟩:=HQa.out.cells;obtain⟨r0,r1,r2,r3,r4,r5,r6⟩:=(HQa.out.step ((xb _ _).drew)).cells;have m0:wk.cell? ⟨wf.heap.size,0,none⟩=some (.int .i64 op):=by rw[j6 Na.out];rfl
  have m1:wk.cell? ⟨wf.heap.size,1,none⟩=some (.string ⟨#[]⟩):=by rw[j6 Na.out];rfl
  have m2:wk.cell? ⟨wf.heap.size,2,none⟩=some (.string ⟨#[]⟩):=by rw[j6 Na.out];rfl
  have m3:wk.cell? ⟨wf.heap.size,3,none⟩=some (.string asx):=by rw[j6 Na.out];rfl
  have m4:wk.cell? ⟨wf.heap.size,4,none⟩=some (.int .i64 a):=by rw[j6 Na.out];rfl
  have m5:wk.cell? ⟨wf.heap.size,5,none⟩=some (.int .i64 b):=by rw[j6 Na.out];rfl
  have hbytes:((out.map nd37).length+1)*72≤140737488355328:=by rw[List.length_map];have:=HO.out;omega
  have HQD:=zc.mk (HQa.out.step ((xb _ _).drew));have hgl:=HQa.out.lt;go_wp2_with fail;go_region_law ((refine Kd.R_append_step k37 (w0:=w0) (W:=wk.drew) w0.heap.size (by rfl) (.tmp 53) (.tmp 55) 24 37 (.agg #[.int .i64 0,.string ⟨#[]⟩,.string ⟨#[]⟩,.string ⟨#[]⟩,.int .i64 0,.int .i64 0]) 72 (by rfl) Tryz.underlying24 zS (by rfl) (by decide) (by omega) ov (out.map nd37) (nd37 (.raw ⟨op,⟨⟨#[]⟩,⟨#[]⟩⟩,asx,a,b⟩)) [.int .i64 op,.string ⟨#[]⟩,.string ⟨#[]⟩,.string asx,.int .i64 a,.int .i64 b] (fun k=>k≠g) (fun _=>False) (by rfl) (by rfl) (zE _ _ _ (nd37 (.raw ⟨op,⟨⟨#[]⟩,⟨#[]⟩⟩,asx,a,b⟩))) (fun _ hk=>hk.elim) (fun k hk=>by have:=HQa.out.lt;have:=HQD.out.lt;omega) HQD.out.ou HQD.out.bl HQD.out.bl.size hbytes ?_;intro v1 w1 hv1 hb1 hg1 ho1;have hl1:(out.map nd37++[nd37 (.raw ⟨op,⟨⟨#[]⟩,⟨#[]⟩⟩,asx,a,b⟩)]).length=out.length+1:=(by simp);obtain⟨Av,cv,hvv⟩:=Kd.R_slice hv1;rw[hl1]at hvv;subst hvv;have hk1:=(hg1.block g HQD.out.lt (fun hh=>HQD.out.ou.1 _ hh.symm rfl)).trans HQD.out.blk;have hz1:w1.frozen? ⟨g,2,none⟩=false:=Lib.frozen_of_heap hk1 2;have hc1:w1.cell? ⟨g,2,none⟩=some ov:=(by rw[j6 hk1];rfl);have HK1:=zc.mk hk1;clear hk1))
  all_goals(
   have HQ6':=HQD.out.newO hb1 hg1 (out1:=out++[(.raw ⟨op,⟨⟨#[]⟩,⟨#[]⟩⟩,asx,a,b⟩)]) (by rw[List.map_append];exact hv1)
   have HF7':=(HFa.out.trans ((Fr.below ((xb wk.heap.size wk).drew)).trans (HQD.out.frO hg1))).trans (Fr.grown (gst (World.grownBy.refl w1 (some g)) 2 (.slice Av (out.length+1) cv)) (fun k hk=>by injection hk with hk;subst hk;exact⟨_,_,HK1.out,by decide⟩))
   go_wp2_with fail;first
   |(refine bodyPost_end (v:= .tuple #[]) (by simp[results,Tryz.f78,go_sem]) rfl ?_;rw[HP2.out];exact⟨rfl,⟨_,Af,cf,HQ6'⟩,HF7'⟩)
   |(refine bodyPost_end (v:= .tuple #[]) (by simp[results,Tryz.f78,go_sem]) rfl ?_;rw[HP2.out];exact⟨rfl,⟨_,Af,cf,HQ6'.step ((xb _ _).drew)⟩,HF7'.trans (Fr.below ((xb _ _).drew))⟩))
end Go.Proofs.YtjopepfemhckjaaGreatDoor.NW
end
section
namespace Go.Proofs.YtjopepfemhckjaaGreatDoor.PK
theorem L1 (B vt vs vl x2 xl head W X V:Nat)(hW:0<W)(hX:X=(head*B+x2)*W+xl)(hV:V=(vt*B+vs)*W+vl)(hxl:xl<W)(hx2:x2<B)(hvt:0<vt):X/V≤head/vt:=by
 rw[Nat.le_div_iff_mul_le hvt];have h1:X/V*V≤X:=Nat.div_mul_le_self X V;generalize X/V=q at*;have h2:q*vt*(B*W)≤q*V:=by
  have:vt*(B*W)≤V:=by rw[hV];grind
  rw[Nat.mul_assoc];exact Nat.mul_le_mul_left _ this
 have h3:x2*W+W≤B*W:=by
  have:(x2+1)*W≤B*W:=Nat.mul_le_mul_right _ hx2;grind
 have h4:X<(head+1)*(B*W):=by rw[hX];grind
 have h5:q*vt*(B*W)<(head+1)*(B*W):=by omega
 have:=Nat.lt_of_mul_lt_mul_right h5;omega
theorem L2 (B vt vs vl x2 xl head W X V q rest:Nat)(hW:0<W)(hX:X=(head*B+x2)*W+xl)(hV:V=(vt*B+vs)*W+vl)(hxl:xl<W)(hb:X<V*B)
 (hh:q*vt+rest=head)(hq:X/V≤q)(hc:B≤q∨rest*B+x2<q*vs):X/V<q:=by
 rcases hc with hc|hc
 ·have:X/V<B:=Nat.div_lt_of_lt_mul hb
  omega
 ·apply Classical.byContradiction
  intro hn;have e:X/V=q:=by omega
  have h1:q*V≤X:=by rw[←e];exact Nat.div_mul_le_self X V
  have h2:(rest*B+x2+1)*W≤q*vs*W:=Nat.mul_le_mul_right _ hc;have h3:q*V=q*vt*B*W+q*vs*W+q*vl:=by rw[hV];grind
  have h4:X=q*vt*B*W+rest*B*W+x2*W+xl:=by rw[hX,←hh];grind
  have h5:(rest*B+x2+1)*W=rest*B*W+x2*W+W:=by grind
  omega
theorem L3 (B vt vs vl x2 xl head W X V q rest:Nat)(hW:0<W)(hX:X=(head*B+x2)*W+xl)(hV:V=(vt*B+vs)*W+vl)(hvl:vl<W)(hvt:0<vt)
 (hh:q*vt+rest=head)(hq:q<B)(hc:q*vs≤rest*B+x2):q≤X/V+1:=by
 apply Classical.byContradiction;intro hn;have hBW:B*W≤V:=by
  have:1*(B*W)≤vt*(B*W):=Nat.mul_le_mul_right _ hvt;rw[hV];grind
 have hV0:0<V:=by
  have:0<B*W:=Nat.mul_pos (by omega) hW
  omega
 have h1:X<(X/V+1)*V:=by
  have:=Nat.lt_mul_div_succ X hV0;rw[Nat.mul_comm];exact this
 have h2:(X/V+1+1)*V≤q*V:=Nat.mul_le_mul_right _ (by omega)
 have h3:q*V=q*vt*B*W+q*vs*W+q*vl:=by rw[hV];grind
 have h4:X=q*vt*B*W+rest*B*W+x2*W+xl:=by rw[hX,←hh];grind
 have h5:q*vs*W≤(rest*B+x2)*W:=Nat.mul_le_mul_right _ hc;have h6:(rest*B+x2)*W=rest*B*W+x2*W:=by grind
 have h7:q*vl≤B*W:=Nat.mul_le_mul (by omega) (by omega)
 have h8:(X/V+1+1)*V=(X/V+1)*V+V:=by grind
 omega
theorem L3b (B vt vs x2 head q rest:Nat)(hh:q*vt+rest=head)(hr:B≤rest)(hd:head<(vt+1)*B)(hvs:vs<B)(hvt:0<vt):q<B∧q*vs≤rest*B+x2:=by
 have hq:q<B:=by
  apply Classical.byContradiction;intro hn;have:B*vt≤q*vt:=Nat.mul_le_mul_right _ (by omega)
  have:(vt+1)*B=B*vt+B:=by grind
  omega
 refine⟨hq,?_⟩;have:q*vs≤B*B:=Nat.mul_le_mul (by omega) (by omega)
 have:B*B≤rest*B:=Nat.mul_le_mul_right _ hr;omega
theorem L4 (B vt vs vl x2 xl head W X V:Nat)(hW:0<W)(hX:X=(head*B+x2)*W+xl)(hV:V=(vt*B+vs)*W+vl)(hvl:vl<W)(hvs:vs<B)(hb:X<V*B):head<(vt+1)*B:=by
 have h1:head*(B*W)≤X:=by rw[hX];grind
 have h0:(vs+1)*W≤B*W:=Nat.mul_le_mul_right _ hvs;have h2:V≤(vt+1)*(B*W):=by
  have e1:(vt+1)*(B*W)=vt*B*W+B*W:=by grind
  have e2:(vt*B+vs)*W+vl=vt*B*W+vs*W+vl:=by grind
  have e3:(vs+1)*W=vs*W+W:=by grind
  omega
 have h3:V*B≤(vt+1)*(B*W)*B:=Nat.mul_le_mul_right _ h2;have h4:(vt+1)*(B*W)*B=(vt+1)*B*(B*W):=by grind
 have h5:head*(B*W)<(vt+1)*B*(B*W):=by omega
 exact Nat.lt_of_mul_lt_mul_right h5
end Go.Proofs.YtjopepfemhckjaaGreatDoor.PK
end
