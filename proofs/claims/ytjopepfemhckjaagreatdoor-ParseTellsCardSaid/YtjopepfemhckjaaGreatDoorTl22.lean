/-
  Part 22 of the proof of parseTells_holds: texts of this seat, put together.
-/
import Derived.Deep.RegionLaw
import Derived.Test.YtjopepfemhckjaaGreatDoorTl21
set_option linter.unusedVariables false
set_option linter.unusedSimpArgs false
set_option maxHeartbeats 16000000
set_option maxRecDepth 100000
section
namespace Go.Proofs.YtjopepfemhckjaaGreatDoor.NW
open Go.Proofs Go.RowKit Go.Shelf Go.Proofs.YtjopepfemhckjaaGreatDoor.PN Go.Proofs.YtjopepfemhckjaaGreatDoorW.PrintWords Go.Proofs.YtjopepfemhckjaaGreatDoor.PParseTells
theorem cPShutF {t:Code}(hr:findLabel bodyC 1=some (.seq .skip t)){J:Nat→Act→World→Prop}{R:Ending→World→Prop}(w0:World)(g bl:Nat)(last:S75)(f:Nat→Value)(A:Option Addr)(c:Nat)(tk:S75)(rest:List S75)(wv:Value)(r:List S82)(ov:Value)(o:List Nd)(dp e p0 p1:Int)(W:World)
 (HP:zc (PB w0 g A c (tk::rest) wv r.reverse ov o dp e p0 p1 W))(HB:zc (W.heap[bl]? =some (.cells #[.int .i64 last.f0,.string last.f1,.int .i64 last.f2,.int .i64 last.f3] 75)))(he:e=0)(hk:tk.f0=2)(ht:tk.f1=⟨#[41]⟩)(op0 rk0:Int)(hop:parse_operator.f tk.f0 tk.f1 tk.f2 tk.f3=some (op0,rk0))(hrk:rk0≤0)(x:S82)(r':List S82)(o':List Nd)(hp:popR 1 r o=(x::r',o'))(hs':zc (r'.length≤100000))(hso:zc (o'.length≤100000))(hx2:x.f2≤1)(kk:Nat)(hx0:x.f0=kk)(hdp1: -100000≤dp)(hdp2:dp≤100000)(hw:zc (∀x∈r,1≤x.f1→0≤x.f0))(hlen:zc (r.length+o.length≤100000))
 (hn:zc (∀(a':Act) (W':World),zJ g bl a'→zc (∃A' c' wv' ov',PB w0 g A' c' (rest) wv' (r').reverse ov' (o'++[.op kk]) (dp-1) 0 p0 p1 W')→zc (W'.heap[bl]? =some (.cells #[.int .i64 last.f0,.string last.f1,.int .i64 last.f2,.int .i64 last.f3] 75))→J 1 a' W')):
 t.wp Tryz.prog (zn J (bodyPost Tryz.prog Tryz.f19 R)) (frm g bl f) W:=by
 unfold frm;injection(hr.symm.trans (rfl:findLabel bodyC 1=some (.seq .skip _)))with hr';injection hr' with _ hr';subst hr';clear hr;subst he;have HOP:∀W,RowKit.Hid (Calls Tryz.prog 47 #[.agg #[.int .i64 tk.f0,.string tk.f1,.int .i64 tk.f2,.int .i64 tk.f3]] W fun ex w'=>ex= .returned (.tuple #[.int .i64 op0,.int .i64 rk0])∧Below W.heap.size W w'):=fun W=>Lib.hid (parse_operator.calls tk.f0 tk.f1 tk.f2 tk.f3 op0 rk0 W hop)
 have HPO:∀W',Below W.heap.size W W'→RowKit.Hid (Calls Tryz.prog 46 #[.pointer (some ⟨g,0,none⟩),.int .i64 1] W' fun ex w'=>ex= .returned (.tuple #[])∧(∃wv' ov',PB w0 g A c (tk::rest) wv' (x::r').reverse ov' o' dp 0 p0 p1 w')∧Fr W' w'):=by
  intro W' hb;have HPO:=pop_at w0 g A c (tk::rest) wv r ov o dp 0 p0 p1 W' (HP.out.step hb) 1 (by omega) (by omega) hw.out hlen.out
  rw[hp]at HPO;exact Lib.hid HPO
 have hr0:¬(0:Int)<rk0:=by omega
 obtain⟨c0,c1,c2,c3,c4,c5,c6⟩:=HP.out.cells;obtain⟨tb,off,hA,q0,q1,q2,q3⟩:=HP.out.head;subst hA;have hl:¬((tk::rest).length:Int)=0:=by simp only[List.length_cons];omega
 have hl2:(0:Int)<((tk::rest).length:Int):=by simp only[List.length_cons];omega
 have hl3:(1:Int)≤((tk::rest).length:Int):=by omega
 have hlc:(tk::rest).length-1=rest.length:=rfl;have hcI:((tk::rest).length:Int)≤(c:Int):=by have:=HP.out.hc;omega
 generalize hn0:(tk::rest).length=n at*;have HKT:=zc.mk (And.intro hk ht);clear hop hp hw hlen hk ht;go_wp2_with fail;refine(HOP _).out.mono ?_;rintro ex wb ⟨rfl,hb⟩;have HPO2:=HPO _ hb;have HB1:=zc.mk (Fr.below hb _ _ HB.out);clear HOP HPO HB c0 c1 c2 c3 c4 c5 c6 q0 q1 q2 q3 hb;go_wp2_with fail;refine HPO2.out.mono ?_;rintro ex wc ⟨rfl,⟨wv',ov',hq2⟩,hf⟩;have HP3:=zc.mk hq2;have HB3:=zc.mk (hf _ _ HB1.out);clear HP HB1 HPO2 hf hq2;obtain⟨c0,c1,c2,c3,c4,c5,c6⟩:=HP3.out.cells;have hrv:(x::r').reverse=r'.reverse++[x]:=List.reverse_cons;have HQ0:=HP3.out;rw[hrv]at HQ0;obtain⟨b,cap,hwv,hcap,x0,x1,x2⟩:=HQ0.last;have HTO:=Lib.hid (jv w0 g _ c (tk::rest) wv' r' x ov' o' dp 0 p0 p1 wc HQ0 hs'.out b cap hwv);have HP4:=zc.mk HQ0;have HWV:=zc.mk hwv;have HXB:b<wc.heap.size:=by
  obtain⟨cells,hc⟩:=Kd.R_typed HQ0.wt b (by rw[hwv];rfl)
  exact(xe hc).1
 clear HQ0 HP3 hrv hwv;go_wp2_with fail;refine HTO.out.mono ?_;rintro ex wd ⟨rfl,hb⟩;have HP5:=zc.mk (HP4.out.step hb);have HB5:=zc.mk (Fr.below hb _ _ HB3.out);have y0:=(zg hb ⟨b,r'.length*3,none⟩ HXB).trans x0;have y1:=(zg hb ⟨b,r'.length*3+1,none⟩ HXB).trans x1;have y2:=(zg hb ⟨b,r'.length*3+2,none⟩ HXB).trans x2;have hwv:=HWV.out;clear HWV;subst hwv;have HPK:=zB w0 g _ c (tk::rest) _ _ ov' o' dp 0 p0 p1 wd HP5.out;have hpk:hdT (tk::rest)=tk.f1:=rfl;rw[hpk,HKT.out.2]at HPK;have HPK:=Lib.hid HPK;clear HP4 HB3 HTO x0 x1 x2 hb;go_wp2_with fail;refine HPK.out.mono ?_;rintro ex we ⟨rfl,rfl⟩;clear HPK;obtain⟨c0,c1,c2,c3,c4,c5,c6⟩:=HP5.out.cells;rw[hx0]at y0;clear hx0;have HXB2:b≠g:=fun he=>by have h1:=HP5.out.wt.1 b rfl;exact h1 he
 obtain⟨s0,s1,s2,s3,s4,s5,s6⟩:=(HP5.out.step ((xb _ _).drew)).cells;have o2:=(HP5.out.step (((xb wd.heap.size wd).alloc (xc _) (.cells #[.int .i64 (kk:Int),.string ⟨#[]⟩,.string ⟨#[]⟩,.string ⟨#[]⟩,.int .i64 0,.int .i64 0] 37)).drew)).cells.2.2.1;have hbytes:((o'.map nd37).length+1)*72≤140737488355328:=by rw[List.length_map];have:=hso.out;omega
 have HQD:=zc.mk (HP5.out.step ((xb _ _).drew));go_wp2_with fail;go_region_law ((refine Kd.R_append_step k37 (w0:=w0) (W:=wd.drew) w0.heap.size (by rfl) (.tmp 253) (.tmp 259) 24 37 (.agg #[.int .i64 0,.string ⟨#[]⟩,.string ⟨#[]⟩,.string ⟨#[]⟩,.int .i64 0,.int .i64 0]) 72 (by rfl) Tryz.underlying24 zS (by rfl) (by decide) (by omega) ov' (o'.map nd37) (nd37 (.op kk)) [.int .i64 (kk:Int),.string ⟨#[]⟩,.string ⟨#[]⟩,.string ⟨#[]⟩,.int .i64 0,.int .i64 0] (fun k=>k≠g) (fun _=>False) (by rfl) (by rfl) (zE _ _ _ (nd37 (.op kk))) (fun _ hk=>hk.elim) (fun k hk=>by have:=HQD.out.lt;omega) HQD.out.ou HQD.out.bl HQD.out.bl.size hbytes ?_;intro v1 w1 hv1 hb1 hg1 ho1;have hl1:(o'.map nd37++[nd37 (.op kk)]).length=o'.length+1:=(by simp);obtain⟨Av,cv,hvv⟩:=Kd.R_slice hv1;rw[hl1]at hvv;subst hvv;have hk1:=(hg1.block g HQD.out.lt (fun hh=>HQD.out.ou.1 _ hh.symm rfl)).trans HQD.out.blk;rw[hn0]at hk1;have hz1:w1.frozen? ⟨g,2,none⟩=false:=Lib.frozen_of_heap hk1 2;have hz0:w1.frozen? ⟨g,0,none⟩=false:=Lib.frozen_of_heap hk1 0;have hc1:w1.cell? ⟨g,2,none⟩=some ov':=(by rw[j6 hk1];rfl);have hcc0:=(j6 hk1 (j:=0));have HK1:=zc.mk hk1;clear hk1))
 all_goals(
  have HQ6:=zc.mk (HQD.out.newO hb1 hg1 (out1:=o'++[.op kk]) (by rw[List.map_append];exact hv1))
  have HF6:=zc.mk ((((Fr.below ((xb wd.heap.size wd).drew)).trans (HQD.out.frO hg1)).trans (Fr.grown (gst (World.grownBy.refl w1 (some g)) 2 (.slice Av (o'.length+1) cv)) (fun k hk=>by injection hk with hk;subst hk;exact⟨_,_,HK1.out,by decide⟩))) _ _ HB5.out)
  generalize w1.setCell ⟨g,2,none⟩ (.slice Av (o'.length+1) cv)=wt at*;clear hb1 hg1 hv1 ho1 HK1 HQD hz1 hz0 hcc0 hc1 HP5 HB5 c0 c1 c2 c3 c4 c5 c6 s0 s1 s2 s3 s4 s5 s6 o2 y0 y1 y2;obtain⟨c0,c1,c2,c3,c4,c5,c6⟩:=HQ6.out.cells;rw[hn0]at c0;have f0:=HQ6.out.frozen 0;have f1:=HQ6.out.frozen 1;obtain⟨r0,r1,r2,r3,r4,r5,r6⟩:=(HQ6.out.step ((xb _ _).drew)).cells;rw[hn0]at r0;have hL3:(r'.length:Int)≤100000:=by have:=hs'.out;omega
  have hL4:(0:Int)≤(r'.length:Int):=by omega
  have hL5:(r'.length:Int)<(r'.length:Int)+1:=by omega
  have hL6:(r'.length:Int)≤(r'.length:Int)+1:=by omega
  have hwl:IntKind.i64.wrap (r'.length:Int)=(r'.length:Int):=by simp[j9];omega
  have hcap2:(r'.length:Int)+1≤(cap:Int):=by omega
  have HQ7:zc (PB w0 g (if c=1 then some ⟨tb,off,none⟩else some ⟨tb,off+4,none⟩) (c-1) rest (.slice (some ⟨b,0,none⟩) r'.length cap) r'.reverse _ (o'++[.op kk]) dp 0 p0 p1 ((wt.setCell ⟨g,1,none⟩ (.slice (some ⟨b,0,none⟩) r'.length cap)).setCell ⟨g,0,none⟩ (.slice (if c=1 then some ⟨tb,off,none⟩else some ⟨tb,off+4,none⟩) rest.length (c-1)))):=⟨HQ6.out.popW.tail⟩
  have HF7:zc (((wt.setCell ⟨g,1,none⟩ (.slice (some ⟨b,0,none⟩) r'.length cap)).setCell ⟨g,0,none⟩ (.slice (if c=1 then some ⟨tb,off,none⟩else some ⟨tb,off+4,none⟩) rest.length (c-1))).heap[bl]? =some (.cells #[.int .i64 last.f0,.string last.f1,.int .i64 last.f2,.int .i64 last.f3] 75)):=⟨(Fr.grown (gst (gst (World.grownBy.refl wt (some g)) 1 _) 0 _) (fun k hk=>by injection hk with hk;subst hk;exact⟨_,_,HQ6.out.blk,by decide⟩)) _ _ HF6.out⟩
  go_wp2_with fail;go_region
  all_goals(
   generalize (if c=1 then some (⟨tb,off,none⟩:Addr)else some ⟨tb,off+4,none⟩)=AA at*
   generalize (wt.setCell ⟨g,1,none⟩ (.slice (some ⟨b,0,none⟩) r'.length cap)).setCell ⟨g,0,none⟩ (.slice AA rest.length (c-1))=wz at*;have HQ9:=zc.mk ((HQ7.out.setD (dp-1)).step ((xb _ _).drew));have HF9:=zc.mk (Fr.below ((xb _ _).drew) _ _ ((HQ7.out.fr (gst (World.grownBy.refl wz (some g)) 3 (.int .i64 (dp-1)))) _ _ HF7.out));have HQ8:=zc.mk (HQ7.out.step ((xb _ _).drew));clear c0 c1 c2 c3 c4 c5 c6 f0 f1 r0 r1 r2 r3 r4 r5 r6;obtain⟨c0,c1,c2,c3,c4,c5,c6⟩:=HQ7.out.cells;have f3:=HQ7.out.frozen 3;have f3':=HQ8.out.frozen 3;obtain⟨d0,d1,d2,d3,d4,d5,d6⟩:=HQ8.out.cells;go_wp2_with fail;go_step3
   show J 1 _ _
   exact hn.out _ _ ⟨rfl,rfl,rfl,rfl⟩ ⟨⟨_,_,_,_,HQ9.out⟩⟩ ⟨HF9.out⟩))
theorem cOPx {t:Code}(hr:findLabel bodyC 0=some (.seq .skip t)){tlb:Code}(hr1:findLabel bodyC 1=some (.seq .skip tlb)){J:Nat→Act→World→Prop}{R:Ending→World→Prop}(w0:World)(g bl:Nat)(last:S75)(f:Nat→Value)(A:Option Addr)(c:Nat)(t0 t1 t2 t3 t4 t5:S75)(rest:List S75)(wv:Value)(r:List S82)(ov:Value)(o:List Nd)(dp e p0 p1:Int)(W:World)
 (HP:zc (PB w0 g A c (t0::t1::t2::t3::t4::t5::rest) wv r.reverse ov o dp e p0 p1 W))(HB:zc (W.heap[bl]? =some (.cells #[.int .i64 last.f0,.string last.f1,.int .i64 last.f2,.int .i64 last.f3] 75)))(he:e=0)(k0:t0.f0=0∧t0.f1=⟨#[112,120]⟩)(k1:t1.f0=2∧t1.f1=⟨#[40]⟩)(k2:t2.f0=0)(k3:t3.f0=2∧t3.f1=⟨#[44]⟩)(nn:Nat)(k4:t4.f0=1∧t4.f1=natS nn)(hn9:nn≤9999)(k5:t5.f0=2∧t5.f1=⟨#[41]⟩)(hsz:zc (o.length≤100000∧r.length≤100000))
 (hn:zc (∀(a':Act) (W':World),zJ g bl a'→zc (∃A' c' wv' ov',PB w0 g A' c' (rest) wv' (r).reverse ov' (o++[.px t2.f1 nn]) (dp) 0 p0 p1 W')→zc (W'.heap[bl]? =some (.cells #[.int .i64 last.f0,.string last.f1,.int .i64 last.f2,.int .i64 last.f3] 75))→tlb.wp Tryz.prog (zn J (bodyPost Tryz.prog Tryz.f19 R)) a' W')):
 t.wp Tryz.prog (zn J (bodyPost Tryz.prog Tryz.f19 R)) (frm g bl f) W:=by
 unfold frm;injection(hr.symm.trans (rfl:findLabel bodyC 0=some (.seq .skip _)))with hr';injection hr' with _ hr';subst hr';clear hr;injection(hr1.symm.trans (rfl:findLabel bodyC 1=some (.seq .skip _)))with hr1';injection hr1' with _ hr1';have HR1:=zc.mk hr1';clear hr1 hr1';subst he;have HPK:=zB w0 g A c (t0::t1::t2::t3::t4::t5::rest) wv r.reverse ov o dp 0 p0 p1 W HP.out;have hpk:hdT (t0::t1::t2::t3::t4::t5::rest)=t0.f1:=rfl;rw[hpk]at HPK;have HPK:=Lib.hid HPK;have HS:=Lib.hid (zN w0 g A c (t0::t1::t2::t3::t4::t5::rest) wv r.reverse ov o dp 0 p0 p1 W HP.out ⟨#[45]⟩ (by simp[tkOK,k0.1]))
 rw[k0.2]at HPK;have HKN:∀W,RowKit.Hid (Calls Tryz.prog 44 #[.string ⟨#[112,120]⟩] W fun ex w'=>ex= .returned (.bool true)∧zj W w'):=fun W=>Lib.hid (parse_known.calls ⟨#[112,120]⟩ true W (by unfold parse_known.f;simp[ByteArray.toList_eq]))
 have HNM:∀W',Below W.heap.size W W'→RowKit.Hid (Calls Tryz.prog 45 #[.pointer (some ⟨g,0,none⟩),.agg #[.int .i64 last.f0,.string last.f1,.int .i64 last.f2,.int .i64 last.f3]] W' fun ex w'=>ex= .returned (.bool false)∧(∃A' c' ov',PB w0 g A' c' rest wv r.reverse ov' (o++[.px t2.f1 nn]) dp 0 p0 p1 w')∧Fr W' w'):=by
  intro W' hb;have hh:=namePx_at w0 g A c t0 t1 t2 t3 t4 t5 rest wv r.reverse ov o dp 0 p0 p1 W' (HP.out.step hb) rfl k0 k1 k2 k3 nn k4 hn9 k5 last hsz.out.1;exact Lib.hid hh
 obtain⟨c0,c1,c2,c3,c4,c5,c6⟩:=HP.out.cells;obtain⟨tb,off,hA,q0,q1,q2,q3⟩:=HP.out.head;subst hA;have hk:=k0.1;rw[hk]at q0;have hl:¬((t0::t1::t2::t3::t4::t5::rest).length:Int)=0:=by simp only[List.length_cons];omega
 have hl2:(0:Int)<((t0::t1::t2::t3::t4::t5::rest).length:Int):=by simp only[List.length_cons];omega
 have hl3:(1:Int)≤((t0::t1::t2::t3::t4::t5::rest).length:Int):=by omega
 have hlc:(t0::t1::t2::t3::t4::t5::rest).length-1=(t1::t2::t3::t4::t5::rest).length:=rfl;have hcI:((t0::t1::t2::t3::t4::t5::rest).length:Int)≤(c:Int):=by have:=HP.out.hc;omega
 generalize hn0:(t0::t1::t2::t3::t4::t5::rest).length=n at*;clear k0 k1 k2 k3 k4 hn9 k5;go_wp2_with fail;refine HPK.out.mono ?_;rintro ex wb ⟨rfl,rfl⟩;go_wp2_with fail;refine HS.out.mono ?_;rintro ex wc ⟨rfl,hb⟩;have HB2:=zc.mk (Fr.below hb _ _ HB.out);have HP2:=zc.mk (HP.out.step hb);have HBL:=zc.mk hb;clear HP HB HPK HS c0 c1 c2 c3 c4 c5 c6 q0 q1 q2 q3 hb;obtain⟨c0,c1,c2,c3,c4,c5,c6⟩:=HP2.out.cells;obtain⟨tb',off',hA,q0,q1,q2,q3⟩:=HP2.out.head;injection hA with hA;injection hA with e1 e2;subst e1 e2;rw[hn0]at c0;rw[hk]at q0;have l0:wc.cell? ⟨bl,0,none⟩=some (.int .i64 last.f0):=by rw[j6 HB2.out];rfl
 have l1:wc.cell? ⟨bl,1,none⟩=some (.string last.f1):=by rw[j6 HB2.out];rfl
 have l2:wc.cell? ⟨bl,2,none⟩=some (.int .i64 last.f2):=by rw[j6 HB2.out];rfl
 have l3:wc.cell? ⟨bl,3,none⟩=some (.int .i64 last.f3):=by rw[j6 HB2.out];rfl
 clear hk;go_wp2_with fail;refine(HKN _).out.mono ?_;rintro ex wd ⟨rfl,nd,rfl⟩;have HNM2:=HNM _ (ze HBL.out nd);go_wp2_with fail;refine HNM2.out.mono ?_;rintro ex we ⟨rfl,hq,hf⟩;go_wp2_with fail;obtain⟨A',c',ov',hq⟩:=hq;refine qy (by assumption) ?_
 have hh:=HR1.out;subst hh;exact hn.out _ _ ⟨rfl,rfl,rfl,rfl⟩ ⟨⟨_,_,_,_,hq⟩⟩ ⟨hf _ _ HB2.out⟩
theorem cOMax {t:Code}(hr:findLabel bodyC 0=some (.seq .skip t)){tlb:Code}(hr1:findLabel bodyC 1=some (.seq .skip tlb)){J:Nat→Act→World→Prop}{R:Ending→World→Prop}(w0:World)(g bl:Nat)(last:S75)(f:Nat→Value)(A:Option Addr)(c:Nat)(t0 tk:S75)(rest:List S75)(wv:Value)(r:List S82)(ov:Value)(o:List Nd)(dp e p0 p1:Int)(W:World)
 (HP:zc (PB w0 g A c (t0::tk::rest) wv r.reverse ov o dp e p0 p1 W))(HB:zc (W.heap[bl]? =some (.cells #[.int .i64 last.f0,.string last.f1,.int .i64 last.f2,.int .i64 last.f3] 75)))(he:e=0)(k0:t0.f0=0∧t0.f1=⟨#[109,97,120]⟩)(hkk:tk.f0=2)(ht:tk.f1=⟨#[40]⟩)(hdp:zc (dp<200∧ -100000≤dp))(hsz:zc (o.length≤100000∧r.length≤100000))
 (hn:zc (∀(a':Act) (W':World),zJ g bl a'→zc (∃A' c' wv' ov',PB w0 g A' c' (rest) wv' (⟨10,0,2⟩::r).reverse ov' (o) (dp+1) 0 p0 p1 W')→zc (W'.heap[bl]? =some (.cells #[.int .i64 last.f0,.string last.f1,.int .i64 last.f2,.int .i64 last.f3] 75))→J 0 a' W')):
 t.wp Tryz.prog (zn J (bodyPost Tryz.prog Tryz.f19 R)) (frm g bl f) W:=by
 unfold frm;injection(hr.symm.trans (rfl:findLabel bodyC 0=some (.seq .skip _)))with hr';injection hr' with _ hr';subst hr';clear hr;injection(hr1.symm.trans (rfl:findLabel bodyC 1=some (.seq .skip _)))with hr1';injection hr1' with _ hr1';have HR1:=zc.mk hr1';clear hr1 hr1';subst he;have HPK:=zB w0 g A c (t0::tk::rest) wv r.reverse ov o dp 0 p0 p1 W HP.out;have hpk:hdT (t0::tk::rest)=t0.f1:=rfl;rw[hpk]at HPK;have HPK:=Lib.hid HPK;have HS:=Lib.hid (zN w0 g A c (t0::tk::rest) wv r.reverse ov o dp 0 p0 p1 W HP.out ⟨#[45]⟩ (by simp[tkOK,k0.1]))
 rw[k0.2]at HPK;have HKN:∀W,RowKit.Hid (Calls Tryz.prog 44 #[.string ⟨#[109,97,120]⟩] W fun ex w'=>ex= .returned (.bool true)∧zj W w'):=fun W=>Lib.hid (parse_known.calls ⟨#[109,97,120]⟩ true W (by unfold parse_known.f;simp[ByteArray.toList_eq]))
 have HNM:∀W',Below W.heap.size W W'→RowKit.Hid (Calls Tryz.prog 45 #[.pointer (some ⟨g,0,none⟩),.agg #[.int .i64 last.f0,.string last.f1,.int .i64 last.f2,.int .i64 last.f3]] W' fun ex w'=>ex= .returned (.bool true)∧(∃A' c' wv',PB w0 g A' c' rest wv' (⟨10,0,2⟩::r).reverse ov o (dp+1) 0 p0 p1 w')∧Fr W' w'):=by
  intro W' hb;have hh:=nameFun10_at w0 g A c t0 tk rest wv r.reverse ov o dp 0 p0 p1 W' (HP.out.step hb) rfl k0 hkk ht last (by rw[List.length_reverse];exact hsz.out.2) hdp.out.1 hdp.out.2
  have e5:r.reverse++[(⟨10,0,2⟩:S82)]=(⟨10,0,2⟩::r).reverse:=by rw[List.reverse_cons]
  rw[e5]at hh;exact Lib.hid hh
 obtain⟨c0,c1,c2,c3,c4,c5,c6⟩:=HP.out.cells;obtain⟨tb,off,hA,q0,q1,q2,q3⟩:=HP.out.head;subst hA;have hk:=k0.1;rw[hk]at q0;have hl:¬((t0::tk::rest).length:Int)=0:=by simp only[List.length_cons];omega
 have hl2:(0:Int)<((t0::tk::rest).length:Int):=by simp only[List.length_cons];omega
 have hl3:(1:Int)≤((t0::tk::rest).length:Int):=by omega
 have hlc:(t0::tk::rest).length-1=(tk::rest).length:=rfl;have hcI:((t0::tk::rest).length:Int)≤(c:Int):=by have:=HP.out.hc;omega
 generalize hn0:(t0::tk::rest).length=n at*;clear k0 hkk ht;go_wp2_with fail;refine HPK.out.mono ?_;rintro ex wb ⟨rfl,rfl⟩;go_wp2_with fail;refine HS.out.mono ?_;rintro ex wc ⟨rfl,hb⟩;have HB2:=zc.mk (Fr.below hb _ _ HB.out);have HP2:=zc.mk (HP.out.step hb);have HBL:=zc.mk hb;clear HP HB HPK HS c0 c1 c2 c3 c4 c5 c6 q0 q1 q2 q3 hb;obtain⟨c0,c1,c2,c3,c4,c5,c6⟩:=HP2.out.cells;obtain⟨tb',off',hA,q0,q1,q2,q3⟩:=HP2.out.head;injection hA with hA;injection hA with e1 e2;subst e1 e2;rw[hn0]at c0;rw[hk]at q0;have l0:wc.cell? ⟨bl,0,none⟩=some (.int .i64 last.f0):=by rw[j6 HB2.out];rfl
 have l1:wc.cell? ⟨bl,1,none⟩=some (.string last.f1):=by rw[j6 HB2.out];rfl
 have l2:wc.cell? ⟨bl,2,none⟩=some (.int .i64 last.f2):=by rw[j6 HB2.out];rfl
 have l3:wc.cell? ⟨bl,3,none⟩=some (.int .i64 last.f3):=by rw[j6 HB2.out];rfl
 clear hk;go_wp2_with fail;refine(HKN _).out.mono ?_;rintro ex wd ⟨rfl,nd,rfl⟩;have HNM2:=HNM _ (ze HBL.out nd);go_wp2_with fail;refine HNM2.out.mono ?_;rintro ex we ⟨rfl,hq,hf⟩;go_wp2_with fail;obtain⟨A',c',wv',hq⟩:=hq;go_step3
 show J 0 _ _
 exact hn.out _ _ ⟨rfl,rfl,rfl,rfl⟩ ⟨⟨_,_,_,_,hq⟩⟩ ⟨hf _ _ HB2.out⟩
def JR (w0:World)(g bl:Nat)(last:S75)(RES:Res)(k l:Nat)(a:Act)(W:World):Prop:=
 (l=0∨l=1)∧zJ g bl a∧zc (W.heap[bl]? =some (.cells #[.int .i64 last.f0,.string last.f1,.int .i64 last.f2,.int .i64 last.f3] 75))∧
 ∃(toks:List S75) (r:List S82) (o:List Nd) (dp e p0 p1:Int) (A:Option Addr) (c:Nat) (wv ov:Value),zc (PB w0 g A c toks wv r.reverse ov o dp e p0 p1 W)∧
  ((e≠0∧RES= .err e p0 p1)∨(e=0∧zc (Run last k (decide (l=0)) toks r o dp RES)∧zc (r.length+o.length+toks.length≤50000∧dp+toks.length≤50000∧ -50000+(toks.length:Int)≤dp)∧zc (∀x∈r,1≤x.f1→0≤x.f0)))
theorem op41 (t:S75)(hk:t.f0=2)(ht:t.f1=⟨#[41]⟩):parse_operator.f t.f0 t.f1 t.f2 t.f3=some (0,0):=by
 rw[hk,ht];unfold parse_operator.f;simp[ByteArray.toList_eq]
theorem retOK {w0:World}{g:Nat}{RES:Res}{a:Act}{W:World}(hd:a.defers=[])(h:PostR w0 g RES W):bodyPost Tryz.prog Tryz.f19 (fun ex w'=>ex= .returned (.tuple #[])∧PostR w0 g RES w') .ret a W:=
 bodyPost_ret (v:= .tuple #[]) (by simp[results,Tryz.f19,go_sem]) hd ⟨rfl,h⟩
theorem pass1 {t0 t1:Code}(hr0:findLabel bodyC 0=some (.seq .skip t0))(hr1:findLabel bodyC 1=some (.seq .skip t1))(w0:World)(g bl:Nat)(last:S75)(RES:Res)(HG:Glob w0)(hla:0≤last.f3∧last.f3+last.f1.size≤1000000)(k K:Nat)(a:Act)(W:World)(hkK:k≤K)(hj:JR w0 g bl last RES k 1 a W):t1.wp Tryz.prog (zn (fun l' a' w'=>∃k',k'<K∧JR w0 g bl last RES k' l' a' w') (bodyPost Tryz.prog Tryz.f19 (fun ex w'=>ex= .returned (.tuple #[])∧PostR w0 g RES w'))) a W:=by
 obtain⟨_,hf,hb,toks,r,o,dp,e,p0,p1,A,c,wv,ov,hP,hh⟩:=hj;obtain⟨f,rfl⟩:=frame_of hf;rcases hh with⟨he,hres⟩|⟨rfl,hR,hS,hw⟩
 ·subst hres
  exact cErr1 hr1 w0 g bl last f A c toks wv r ov o dp e p0 p1 W hP hb he ⟨fun a' hd=>retOK hd ⟨_,_,_,_,_,_,_,_,hP.out⟩⟩
 ·obtain⟨s1,s2,s3⟩:=hS.out
  have hR:=hR.out;have hd:decide ((1:Nat)=0)=false:=rfl;rw[hd]at hR;cases hR with
  |pEnd k r o dp o' h=>
   exact cPEnd hr1 w0 g bl last f A c wv r ov o dp 0 p0 p1 W hP hb rfl o' h hw ⟨by omega⟩ ⟨fun a' W' hd hp=>by obtain⟨A',c',toks',wv',wait',ov',hp⟩:=hp.out;exact retOK hd ⟨_,_,_,_,_,_,_,_,_,hp⟩⟩
  |pEndW k r o dp x r' o' h=>
   exact cPEndW hr1 w0 g bl last f A c wv r ov o dp 0 p0 p1 W hP hb rfl x r' o' h hw ⟨by omega⟩ ⟨hla⟩ ⟨fun a' W' hd hp=>by obtain⟨A',c',toks',wv',wait',ov',hp⟩:=hp.out;exact retOK hd ⟨_,_,_,_,_,_,_,_,hp⟩⟩
  |pOp k t rest r o dp R op rank r' o' ho hop hr hr2 hp h=>
   have hl:=qj rank r o;rw[hp]at hl;simp only[List.length_cons]at s1 s2 s3 hl;refine cPOp hr1 w0 g bl last f A c t rest wv r ov o dp 0 p0 p1 W hP hb rfl op rank ho hr hr2 r' o' hp ⟨by omega⟩ hw ⟨by omega⟩ ⟨fun a' W' hf' hp' hb'=>?_⟩
   obtain⟨A',c',wv',ov',hp'⟩:=hp'.out;exact⟨k,by omega,.inl rfl,hf',hb',rest,_,_,_,_,_,_,A',c',wv',ov',⟨hp'⟩,.inr ⟨rfl,⟨h⟩,⟨by simp only[List.length_cons];omega⟩,⟨fun x hx hx1=>by
    rcases List.mem_cons.1 hx with rfl|hx
    ·exact hop
    ·exact hw.out x (zQ rank r o x (by rw[hp];exact hx)) hx1⟩⟩⟩
  |pShutP k t rest r o dp R x r' o' hk ht hp hx hx0 h=>
   have hl:=qj 1 r o;rw[hp]at hl;simp only[List.length_cons]at s1 s2 s3 hl;refine cPShutP hr1 w0 g bl last f A c t rest wv r ov o dp 0 p0 p1 W hP hb rfl hk ht 0 0 (op41 t hk ht) (by omega) x r' o' hp ⟨by omega⟩ ⟨by omega⟩ hx hx0 (by omega) (by omega) hw ⟨by omega⟩ ⟨fun a' W' hf' hp' hb'=>?_⟩
   obtain⟨A',c',wv',ov',hp'⟩:=hp'.out;exact⟨k,by omega,.inr rfl,hf',hb',rest,_,_,_,_,_,_,A',c',wv',ov',⟨hp'⟩,.inr ⟨rfl,⟨h⟩,⟨by omega⟩,⟨fun y hy hy1=>hw.out y (zQ 1 r o y (by rw[hp];exact List.mem_cons_of_mem _ hy)) hy1⟩⟩⟩
  |pShutF k t rest r o dp R x r' o' kk hk ht hp hx hx0 h=>
   have hl:=qj 1 r o;rw[hp]at hl;simp only[List.length_cons]at s1 s2 s3 hl;refine cPShutF hr1 w0 g bl last f A c t rest wv r ov o dp 0 p0 p1 W hP hb rfl hk ht 0 0 (op41 t hk ht) (by omega) x r' o' hp ⟨by omega⟩ ⟨by omega⟩ hx kk hx0 (by omega) (by omega) hw ⟨by omega⟩ ⟨fun a' W' hf' hp' hb'=>?_⟩
   obtain⟨A',c',wv',ov',hp'⟩:=hp'.out;exact⟨k,by omega,.inr rfl,hf',hb',rest,_,_,_,_,_,_,A',c',wv',ov',⟨hp'⟩,.inr ⟨rfl,⟨h⟩,⟨by rw[List.length_append];simp only[List.length_cons,List.length_nil];omega⟩,⟨fun y hy hy1=>hw.out y (zQ 1 r o y (by rw[hp];exact List.mem_cons_of_mem _ hy)) hy1⟩⟩⟩
theorem pass0 {t0 t1:Code}(hr0:findLabel bodyC 0=some (.seq .skip t0))(hr1:findLabel bodyC 1=some (.seq .skip t1))(w0:World)(g bl:Nat)(last:S75)(RES:Res)(HG:Glob w0)(hla:0≤last.f3∧last.f3+last.f1.size≤1000000)(k K:Nat)(a:Act)(W:World)(hkK:k≤K)(H1:∀k' a w,k'<k→JR w0 g bl last RES k' 1 a w→t1.wp Tryz.prog (zn (fun l' a' w'=>∃k',k'<K∧JR w0 g bl last RES k' l' a' w') (bodyPost Tryz.prog Tryz.f19 (fun ex w'=>ex= .returned (.tuple #[])∧PostR w0 g RES w'))) a w)(hj:JR w0 g bl last RES k 0 a W):t0.wp Tryz.prog (zn (fun l' a' w'=>∃k',k'<K∧JR w0 g bl last RES k' l' a' w') (bodyPost Tryz.prog Tryz.f19 (fun ex w'=>ex= .returned (.tuple #[])∧PostR w0 g RES w'))) a W:=by
 obtain⟨_,hf,hb,toks,r,o,dp,e,p0,p1,A,c,wv,ov,hP,hh⟩:=hj;obtain⟨f,rfl⟩:=frame_of hf;rcases hh with⟨he,hres⟩|⟨rfl,hR,hS,hw⟩
 ·subst hres
  exact cErr0 hr0 w0 g bl last f A c toks wv r ov o dp e p0 p1 W hP hb he ⟨fun a' hd=>retOK hd ⟨_,_,_,_,_,_,_,_,hP.out⟩⟩
 ·obtain⟨s1,s2,s3⟩:=hS.out
  have hR:=hR.out;have hd:decide ((0:Nat)=0)=true:=rfl;rw[hd]at hR;cases hR with
  |oEnd k r o dp=>
   refine cOEnd hr0 hr1 w0 g bl last f A c wv r ov o dp 0 p0 p1 W hP hb rfl ⟨hla⟩ ⟨fun a' W' hf' hp' hb'=>?_⟩
   obtain⟨A',c',wv',ov',hp'⟩:=hp'.out;exact H1 k a' W' (by omega) ⟨.inr rfl,hf',hb',_,_,_,_,_,_,_,A',c',wv',ov',⟨hp'⟩,.inl ⟨by decide,rfl⟩⟩
  |oNum k t rest r o dp R z d hk hn h=>
   simp only[List.length_cons]at s1 s2 s3;refine cONum hr0 hr1 w0 g bl last f A c t rest wv r ov o dp 0 p0 p1 W hP hb rfl hk z d ⟨hn⟩ ⟨HG⟩ ⟨by omega⟩ ⟨fun a' W' hf' hp' hb'=>?_⟩
   obtain⟨A',c',wv',ov',hp'⟩:=hp'.out;exact H1 k a' W' (by omega) ⟨.inr rfl,hf',hb',_,_,_,_,_,_,_,A',c',wv',ov',⟨hp'⟩,.inr ⟨rfl,⟨h⟩,⟨by simp only[List.length_cons,List.length_append,List.length_nil];omega⟩,hw⟩⟩
  |oNeg k t rest r o dp R hk ht h=>
   simp only[List.length_cons]at s1 s2 s3;refine cONeg hr0 hr1 w0 g bl last f A c t rest wv r ov o dp 0 p0 p1 W hP hb rfl hk ht ⟨by omega⟩ ⟨fun a' W' hf' hp' hb'=>?_⟩
   obtain⟨A',c',wv',ov',hp'⟩:=hp'.out;exact⟨k,by omega,.inl rfl,hf',hb',_,_,_,_,_,_,_,A',c',wv',ov',⟨hp'⟩,.inr ⟨rfl,⟨h⟩,⟨by simp only[List.length_cons,List.length_append,List.length_nil];omega⟩,⟨fun x hx hx1=>by
    rcases List.mem_cons.1 hx with rfl|hx
    ·first|decide|(exact absurd hx1 (by decide))
    ·exact hw.out x hx hx1⟩⟩⟩
  |oPar k t rest r o dp R hk ht hd h=>
   simp only[List.length_cons]at s1 s2 s3;refine cOPar hr0 hr1 w0 g bl last f A c t rest wv r ov o dp 0 p0 p1 W hP hb rfl hk ht ⟨by omega⟩ ⟨by omega⟩ ⟨fun a' W' hf' hp' hb'=>?_⟩
   obtain⟨A',c',wv',ov',hp'⟩:=hp'.out;exact⟨k,by omega,.inl rfl,hf',hb',_,_,_,_,_,_,_,A',c',wv',ov',⟨hp'⟩,.inr ⟨rfl,⟨h⟩,⟨by simp only[List.length_cons,List.length_append,List.length_nil];omega⟩,⟨fun x hx hx1=>by
    rcases List.mem_cons.1 hx with rfl|hx
    ·first|decide|(exact absurd hx1 (by decide))
    ·exact hw.out x hx hx1⟩⟩⟩
  |oDeep k t rest r o dp hk ht hd=>
   simp only[List.length_cons]at s1 s2 s3;refine cODeep hr0 hr1 w0 g bl last f A c t rest wv r ov o dp 0 p0 p1 W hP hb rfl hk ht ⟨by omega⟩ ⟨by omega⟩ ⟨hla⟩ ⟨fun a' W' hf' hp' hb'=>?_⟩
   obtain⟨A',c',wv',ov',hp'⟩:=hp'.out;exact⟨k,by omega,.inl rfl,hf',hb',_,_,_,_,_,_,_,A',c',wv',ov',⟨hp'⟩,.inl ⟨by decide,rfl⟩⟩
  |oPx k t0 t1 t2 t3 t4 t5 rest r o dp R n k0 k1 k2 k3 k4 hn k5 h=>
   simp only[List.length_cons]at s1 s2 s3;refine cOPx hr0 hr1 w0 g bl last f A c t0 t1 t2 t3 t4 t5 rest wv r ov o dp 0 p0 p1 W hP hb rfl k0 k1 k2 k3 n k4 hn k5 ⟨by omega⟩ ⟨fun a' W' hf' hp' hb'=>?_⟩
   obtain⟨A',c',wv',ov',hp'⟩:=hp'.out;exact H1 k a' W' (by omega) ⟨.inr rfl,hf',hb',_,_,_,_,_,_,_,A',c',wv',ov',⟨hp'⟩,.inr ⟨rfl,⟨h⟩,⟨by simp only[List.length_cons,List.length_append,List.length_nil];omega⟩,hw⟩⟩
  |oMax k t0 t rest r o dp R k0 hk ht hd h=>
   simp only[List.length_cons]at s1 s2 s3;refine cOMax hr0 hr1 w0 g bl last f A c t0 t rest wv r ov o dp 0 p0 p1 W hP hb rfl k0 hk ht ⟨by omega⟩ ⟨by omega⟩ ⟨fun a' W' hf' hp' hb'=>?_⟩
   obtain⟨A',c',wv',ov',hp'⟩:=hp'.out;exact⟨k,by omega,.inl rfl,hf',hb',_,_,_,_,_,_,_,A',c',wv',ov',⟨hp'⟩,.inr ⟨rfl,⟨h⟩,⟨by simp only[List.length_cons,List.length_append,List.length_nil];omega⟩,⟨fun x hx hx1=>by
    rcases List.mem_cons.1 hx with rfl|hx
    ·first|decide|(exact absurd hx1 (by decide))
    ·exact hw.out x hx hx1⟩⟩⟩
  |oBad k t rest r o dp hk hbb ht=>
   refine cOBadName hr0 hr1 w0 g bl last f A c t rest wv r ov o dp 0 p0 p1 W hP hb rfl hk hbb ht ⟨hla⟩ ⟨fun a' W' hf' hp' hb'=>?_⟩
   obtain⟨A',c',wv',ov',hp'⟩:=hp'.out;exact H1 k a' W' (by omega) ⟨.inr rfl,hf',hb',_,_,_,_,_,_,_,A',c',wv',ov',⟨hp'⟩,.inl ⟨by decide,rfl⟩⟩
  |oSign k t rest r o dp hk ht ht2=>
   refine cOBadSign hr0 hr1 w0 g bl last f A c t rest wv r ov o dp 0 p0 p1 W hP hb rfl hk ht ht2 ⟨hla⟩ ⟨fun a' W' hf' hp' hb'=>?_⟩
   obtain⟨A',c',wv',ov',hp'⟩:=hp'.out;exact H1 k a' W' (by omega) ⟨.inr rfl,hf',hb',_,_,_,_,_,_,_,A',c',wv',ov',⟨hp'⟩,.inl ⟨by decide,rfl⟩⟩
end Go.Proofs.YtjopepfemhckjaaGreatDoor.NW
end
section
namespace Go.Proofs.YtjopepfemhckjaaGreatDoor.NW
open Go.Proofs Go.RowKit Go.Shelf Go.Proofs.YtjopepfemhckjaaGreatDoor.PN Go.Proofs.YtjopepfemhckjaaGreatDoorW.PrintWords Go.Proofs.YtjopepfemhckjaaGreatDoor.PParseTells
def SzOK (s:PS):Prop:=∀t∈s.toks,t.f1.size≤1000000
theorem SzOK.tl {s:PS}(h:SzOK s):SzOK s.tl:=fun t ht=>h t (List.mem_of_mem_tail ht)
theorem SzOK.fail {s:PS}(h:SzOK s)(er:Int)(last:S75):SzOK (s.fail er last):=by
 unfold PS.fail;split
 ·exact h
 ·exact h
theorem SzOK.must {s:PS}(h:SzOK s)(x:ByteArray)(last:S75):SzOK (s.must x last):=by
 unfold PS.must;split
 ·exact h.tl
 ·exact h.fail _ _
theorem SzOK.take {s:PS}(h:SzOK s)(k:Int)(p:ByteArray→Bool):SzOK (s.take k p).1:=by
 unfold PS.take;split
 ·exact h.tl
 ·exact h
theorem SzOK.nat {s:PS}(h:SzOK s)(p:ByteArray→Bool)(last:S75):SzOK (s.nat p last).1∧(s.nat p last).2.size≤1000000:=by
 unfold PS.nat;split
 ·rename_i ho
  obtain⟨t,r,h1,h2,h3,h4⟩:=PS.has_cons ho;refine⟨h.tl,?_⟩;show(hdT s.toks).size≤_
  rw[h1];exact h t (by rw[h1];simp)
 ·exact⟨h.fail _ _,by show(⟨#[]⟩:xf).size≤1000000;decide⟩
def dayP (lo hi:Int)(t:ByteArray):Bool:=(zw t).2&&decide (lo≤(zw t).1)&&decide ((zw t).1≤min hi 9999)
def PS.day (s:PS)(last:S75)(lo hi:Int):PS×Int:=((s.nat (dayP lo hi) last).1,(zw (s.nat (dayP lo hi) last).2).1)
theorem SzOK.day {s:PS}(h:SzOK s)(last:S75)(lo hi:Int):SzOK (s.day last lo hi).1:=(h.nat _ _).1
theorem jw:zw ⟨#[]⟩=(0,false):=by kernel_rfl
theorem jZ (s:PS)(last:S75)(lo hi:Int)(h0:0≤lo):0≤(s.day last lo hi).2∧(s.day last lo hi).2≤9999:=by
 unfold PS.day PS.nat;split
 ·rename_i ho
  obtain⟨t,r,h1,h2,h3,h4⟩:=PS.has_cons ho;rw[h1];simp only[Bool.and_eq_true,dayP,decide_eq_true_eq]at h4;show 0≤(zw t.f1).1∧(zw t.f1).1≤9999
  omega
 ·show 0≤(zw ⟨#[]⟩).1∧(zw ⟨#[]⟩).1≤9999
  rw[jw];decide
theorem PBS.gl {w0:World}{g:Nat}{wv:Value}{wait:List S82}{ov:Value}{out:List Nd}{dp:Int}{s:PS}{w:World}(h:PBS w0 g wv wait ov out dp s w)(hg:Glob2 w0):Glob2 w:=by
 obtain⟨A,c,h⟩:=h;exact hg.below h.bl
theorem day1_t (t:ByteArray)(hs:t.size≤1000000)(b1 b2:Nat)(lo hi:Int)(w:World)(hg:Glob2 w)(c1:w.cell? ⟨b1,0,none⟩=some (.int .i64 lo))(c2:w.cell? ⟨b2,0,none⟩=some (.int .i64 hi))(l1:b1<w.heap.size)(l2:b2<w.heap.size):
 Calls Tryz.prog 149 #[.string t,.pointer (some ⟨b1,0,none⟩),.pointer (some ⟨b2,0,none⟩)] w fun ex w'=>ex= .returned (.bool (dayP lo hi t))∧Below w.heap.size w w':=by
 have H1:=fun W hW=>Lib.hid (small_t t hs W hW)
 have HG:=zc.mk hg;unfold dayP;generalize (zw t).1=n at*;generalize (zw t).2=ok at*;clear hg;cases ok with
 |false=>
  go_enter Tryz.func149,Tryz.ntmps149
  go_wp2_with fail;refine(H1 _ HG.out).out.mono ?_;rintro ex w1 ⟨rfl,hb1⟩;clear c1 c2;go_wp2_with fail;go_ret;exact⟨by first|(simp[*];done)|(simp[*];intros;omega),hb1⟩
 |true=>
  by_cases h1:lo≤n
  ·by_cases h2:n≤min hi 9999
   ·go_enter Tryz.func149,Tryz.ntmps149
    go_wp2_with fail;refine(H1 _ HG.out).out.mono ?_;rintro ex w1 ⟨rfl,hb1⟩;have d1:=(zg hb1 ⟨b1,0,none⟩ l1).trans c1;have d2:=(zg hb1 ⟨b2,0,none⟩ l2).trans c2;clear c1 c2;go_wp2_with fail;go_ret;exact⟨by first|(simp[*];done)|(simp[*];intros;omega),hb1⟩
   ·go_enter Tryz.func149,Tryz.ntmps149
    go_wp2_with fail;refine(H1 _ HG.out).out.mono ?_;rintro ex w1 ⟨rfl,hb1⟩;have d1:=(zg hb1 ⟨b1,0,none⟩ l1).trans c1;have d2:=(zg hb1 ⟨b2,0,none⟩ l2).trans c2;clear c1 c2;go_wp2_with fail;go_ret;exact⟨by first|(simp[*];done)|(simp[*];intros;omega),hb1⟩
  ·go_enter Tryz.func149,Tryz.ntmps149
   go_wp2_with fail;refine(H1 _ HG.out).out.mono ?_;rintro ex w1 ⟨rfl,hb1⟩;have d1:=(zg hb1 ⟨b1,0,none⟩ l1).trans c1;clear c1 c2;go_wp2_with fail;go_ret;exact⟨by first|(simp[*];done)|(simp[*];intros;omega),hb1⟩
theorem day_t {w0:World}{g:Nat}{wv:Value}{wait:List S82}{ov:Value}{out:List Nd}{dp:Int}{s:PS}{w:World}(h:PBS w0 g wv wait ov out dp s w)(hg:Glob2 w0)(hsz:SzOK s)(last:S75)(hl:qz last)(lo hi:Int):
 Calls Tryz.prog 113 #[.pointer (some ⟨g,0,none⟩),tkV last,.int .i64 lo,.int .i64 hi] w fun ex w'=>ex= .returned (.int .i64 (s.day last lo hi).2)∧PBS w0 g wv wait ov out dp (s.day last lo hi).1 w'∧w.grownBy w' (some g):=by
 have hb0:=(((xb w.heap.size w).alloc (xc _) (.cells #[.int .i64 last.f0,.string last.f1,.int .i64 last.f2,.int .i64 last.f3] 75)).alloc (by simp) (.cells #[.int .i64 lo] 3)).alloc (by simp<;>omega) (.cells #[.int .i64 hi] 3)
 have HQ:=h.step hb0;have s1:(w.alloc (.cells #[.int .i64 last.f0,.string last.f1,.int .i64 last.f2,.int .i64 last.f3] 75)).heap.size=w.heap.size+1:=by simp
 have s2:((w.alloc (.cells #[.int .i64 last.f0,.string last.f1,.int .i64 last.f2,.int .i64 last.f3] 75)).alloc (.cells #[.int .i64 lo] 3)).heap.size=w.heap.size+2:=by simp
 have k1:=(Lib.alloc_old ((w.alloc (.cells #[.int .i64 last.f0,.string last.f1,.int .i64 last.f2,.int .i64 last.f3] 75)).alloc (.cells #[.int .i64 lo] 3)) (.cells #[.int .i64 hi] 3) (w.alloc (.cells #[.int .i64 last.f0,.string last.f1,.int .i64 last.f2,.int .i64 last.f3] 75)).heap.size (by simp)).trans (j7 (w.alloc (.cells #[.int .i64 last.f0,.string last.f1,.int .i64 last.f2,.int .i64 last.f3] 75)) (.cells #[.int .i64 lo] 3))
 rw[s1]at k1;have k2:=j7 ((w.alloc (.cells #[.int .i64 last.f0,.string last.f1,.int .i64 last.f2,.int .i64 last.f3] 75)).alloc (.cells #[.int .i64 lo] 3)) (.cells #[.int .i64 hi] 3);rw[s2]at k2;have k0:=(Lib.alloc_old ((w.alloc (.cells #[.int .i64 last.f0,.string last.f1,.int .i64 last.f2,.int .i64 last.f3] 75)).alloc (.cells #[.int .i64 lo] 3)) (.cells #[.int .i64 hi] 3) w.heap.size (by simp<;>omega)).trans ((Lib.alloc_old (w.alloc (.cells #[.int .i64 last.f0,.string last.f1,.int .i64 last.f2,.int .i64 last.f3] 75)) (.cells #[.int .i64 lo] 3) w.heap.size (by simp)).trans (j7 w (.cells #[.int .i64 last.f0,.string last.f1,.int .i64 last.f2,.int .i64 last.f3] 75)))
 have HT:=natural2_t HQ hsz last hl 149 (.pointer (some ⟨w.heap.size+1,0,none⟩)) (.pointer (some ⟨w.heap.size+2,0,none⟩)) (dayP lo hi) enters_day1 (fun t ht W hb=>day1_t t.f1 (hsz t ht) _ _ lo hi W (((h.gl hg).below hb0).below hb) ((zg hb _ (by simp<;>omega)).trans (by rw[j6 k1];rfl)) ((zg hb _ (by simp)).trans (by rw[j6 k2];rfl)) (Nat.lt_of_lt_of_le (by simp<;>omega) hb.size) (Nat.lt_of_lt_of_le (by simp) hb.size))
 have HT:=Lib.hid HT;have HS:=fun W hW=>Lib.hid (small_t (s.nat (dayP lo hi) last).2 (SzOK.nat hsz _ _).2 W hW)
 have HB0:=zc.mk hb0;have K0:=zc.mk k0;have HG:=zc.mk hg;have l0:(((w.alloc (.cells #[.int .i64 last.f0,.string last.f1,.int .i64 last.f2,.int .i64 last.f3] 75)).alloc (.cells #[.int .i64 lo] 3)).alloc (.cells #[.int .i64 hi] 3)).cell? ⟨w.heap.size,0,none⟩=some (.int .i64 last.f0):=by rw[j6 k0];rfl
 have l1:(((w.alloc (.cells #[.int .i64 last.f0,.string last.f1,.int .i64 last.f2,.int .i64 last.f3] 75)).alloc (.cells #[.int .i64 lo] 3)).alloc (.cells #[.int .i64 hi] 3)).cell? ⟨w.heap.size,1,none⟩=some (.string last.f1):=by rw[j6 k0];rfl
 have l2:(((w.alloc (.cells #[.int .i64 last.f0,.string last.f1,.int .i64 last.f2,.int .i64 last.f3] 75)).alloc (.cells #[.int .i64 lo] 3)).alloc (.cells #[.int .i64 hi] 3)).cell? ⟨w.heap.size,2,none⟩=some (.int .i64 last.f2):=by rw[j6 k0];rfl
 have l3:(((w.alloc (.cells #[.int .i64 last.f0,.string last.f1,.int .i64 last.f2,.int .i64 last.f3] 75)).alloc (.cells #[.int .i64 lo] 3)).alloc (.cells #[.int .i64 hi] 3)).cell? ⟨w.heap.size,3,none⟩=some (.int .i64 last.f3):=by rw[j6 k0];rfl
 clear h HQ k0 k1 k2 hb0 s1 s2 hsz hg;unfold tkV PS.day at*;simp only;generalize (s.nat (dayP lo hi) last).1=s2 at*;generalize (s.nat (dayP lo hi) last).2=t2 at*;go_enter Tryz.func113,Tryz.ntmps113
 go_wp2_with fail;refine HT.out.mono ?_;rintro ex w1 ⟨rfl,hq1,hg1⟩;have HQ1:=zc.mk hq1;have HG1:=zc.mk (gtr (zl HB0.out _) hg1);clear hq1 hg1 l0 l1 l2 l3 HT HB0 K0;go_wp2_with fail;refine(HS _ (HQ1.out.gl HG.out)).out.mono ?_;rintro ex w2 ⟨rfl,hb2⟩;have HQ2:=zc.mk (HQ1.out.step hb2);have HG2:=zc.mk (gtr HG1.out (zl hb2 _));go_wp2_with fail;go_ret;exact⟨rfl,HQ2.out,HG2.out⟩
end Go.Proofs.YtjopepfemhckjaaGreatDoor.NW
end
