/-
  Part 29 of the proof of parseBlanks_holds: texts of this seat, put together.
-/
import Derived.Test.YtjopepfemhckjaaGreatDoorBk28
set_option linter.unusedVariables false
set_option linter.unusedSimpArgs false
section
namespace Go.Proofs.YtjopepfemhckjaaGreatDoor.NW
open Go.Proofs Go.RowKit Go.Shelf Go.Proofs.YtjopepfemhckjaaGreatDoor.PN Go.Proofs.YtjopepfemhckjaaGreatDoorW.PrintWords Go.Proofs.YtjopepfemhckjaaGreatDoor.PParseTells
set_option maxHeartbeats 8000000 in
set_option maxRecDepth 100000 in
theorem cNmP1 {t:Code}(hr:findLabel bodyC 0=some (.seq .skip t)){tlb:Code}(hr1:findLabel bodyC 1=some (.seq .skip tlb)){J:Nat→Act→World→Prop}{R:Ending→World→Prop}(w0:World)(g bl:Nat)(last:S75)(f:Nat→Value)(A:Option Addr)(c:Nat)(t0:S75)(rest:List S75)(wv:Value)(r:List S82)(ov:Value)(o:List Nd)(dp e p0 p1:Int)(W:World)
 (HP:Aside0 (PB w0 g A c (t0::rest) wv r.reverse ov o dp e p0 p1 W))(HB:Aside0 (W.heap[bl]? =some (.cells #[.int .i64 last.f0,.string last.f1,.int .i64 last.f2,.int .i64 last.f3] 75)))(he:e=0)(k0:t0.f0=0∧t0.f1=⟨#[112,120]⟩)(hG2:Aside0 (Glob2 w0))(hz:Aside0 (SzOK ⟨t0::rest,0,p0,p1⟩))(hl9:Aside0 (LastOK last))(hdp:Aside0 (-100000≤dp∧dp≤100000))(hsz:Aside0 (o.length≤100000∧r.length≤100000))
 (hn:Aside0 (∀(a':Act) (W':World),FrameOK g bl a'→Aside0 (∃wv' ov',PBS w0 g wv' (r).reverse ov' (o++[((⟨rest,0,p0,p1⟩:PS).price 1 last).2]) (dp) (((⟨rest,0,p0,p1⟩:PS).price 1 last).1) W')→Aside0 (W'.heap[bl]? =some (.cells #[.int .i64 last.f0,.string last.f1,.int .i64 last.f2,.int .i64 last.f3] 75))→tlb.wp Tryz.prog (AtLabel J (bodyPost Tryz.prog Tryz.f19 R)) a' W')):
 t.wp Tryz.prog (AtLabel J (bodyPost Tryz.prog Tryz.f19 R)) (frm g bl f) W:=by
 unfold frm;injection(hr.symm.trans (rfl:findLabel bodyC 0=some (.seq .skip _)))with hr';injection hr' with _ hr';subst hr';clear hr;injection(hr1.symm.trans (rfl:findLabel bodyC 1=some (.seq .skip _)))with hr1';injection hr1' with _ hr1';have HR1:=Aside0.mk hr1';clear hr1 hr1';subst he;have HPK:=peek2_at w0 g A c (t0::rest) wv r.reverse ov o dp 0 p0 p1 W HP.out;have hpk:hdT (t0::rest)=t0.f1:=rfl;rw[hpk]at HPK;have HPK:=Lib.hid HPK;have HS:=Lib.hid (signNo_at w0 g A c (t0::rest) wv r.reverse ov o dp 0 p0 p1 W HP.out ⟨#[45]⟩ (by simp[tkOK,k0.1]))
 rw[k0.2]at HPK;have HKN:∀W,RowKit.Hid (Calls Tryz.prog 44 #[.string ⟨#[112,120]⟩] W fun ex w'=>ex= .returned (.bool true)∧Drawn0 W w'):=fun W=>Lib.hid (parse_known.calls ⟨#[112,120]⟩ true W (by unfold parse_known.f;simp[ByteArray.toList_eq]))
 have HNM:∀W',Below W.heap.size W W'→RowKit.Hid (Calls Tryz.prog 45 #[.pointer (some ⟨g,0,none⟩),.agg #[.int .i64 last.f0,.string last.f1,.int .i64 last.f2,.int .i64 last.f3]] W' fun ex w'=>ex= .returned (.bool false)∧(∃ov',PBS w0 g wv r.reverse ov' (o++[((⟨rest,0,p0,p1⟩:PS).price 1 last).2]) dp (((⟨rest,0,p0,p1⟩:PS).price 1 last).1) w')∧Fr W' w'):=by
  intro W' hb;have hh:=nameP1_t (s:=⟨t0::rest,0,p0,p1⟩) (⟨A,c,HP.out.step hb⟩:PBS w0 g wv r.reverse ov o dp ⟨t0::rest,0,p0,p1⟩ W') hG2.out hz.out (by simp[PS.has,tkOK,k0.1]) k0.2 last hl9.out hsz.out.1 (by rw[List.length_reverse];exact hsz.out.2) hdp.out
  exact Lib.hid hh
 obtain⟨c0,c1,c2,c3,c4,c5,c6⟩:=HP.out.cells;obtain⟨tb,off,hA,q0,q1,q2,q3⟩:=HP.out.head;subst hA;have hk:=k0.1;rw[hk]at q0;have hl:¬((t0::rest).length:Int)=0:=by simp only[List.length_cons];omega
 have hl2:(0:Int)<((t0::rest).length:Int):=by simp only[List.length_cons];omega
 have hl3:(1:Int)≤((t0::rest).length:Int):=by omega
 have hlc:(t0::rest).length-1=(rest).length:=rfl;have hcI:((t0::rest).length:Int)≤(c:Int):=by have:=HP.out.hc;omega
 generalize hn0:(t0::rest).length=n at*;clear k0;go_wp2_with fail;refine HPK.out.mono ?_;rintro ex wb ⟨rfl,rfl⟩;go_wp2_with fail;refine HS.out.mono ?_;rintro ex wc ⟨rfl,hb⟩;have HB2:=Aside0.mk (Fr.below hb _ _ HB.out);have HP2:=Aside0.mk (HP.out.step hb);have HBL:=Aside0.mk hb;clear HP HB HPK HS c0 c1 c2 c3 c4 c5 c6 q0 q1 q2 q3 hb;obtain⟨c0,c1,c2,c3,c4,c5,c6⟩:=HP2.out.cells;obtain⟨tb',off',hA,q0,q1,q2,q3⟩:=HP2.out.head;injection hA with hA;injection hA with e1 e2;subst e1 e2;rw[hn0]at c0;rw[hk]at q0;have l0:wc.cell? ⟨bl,0,none⟩=some (.int .i64 last.f0):=by rw[Lib.cell_of_heap HB2.out];rfl
 have l1:wc.cell? ⟨bl,1,none⟩=some (.string last.f1):=by rw[Lib.cell_of_heap HB2.out];rfl
 have l2:wc.cell? ⟨bl,2,none⟩=some (.int .i64 last.f2):=by rw[Lib.cell_of_heap HB2.out];rfl
 have l3:wc.cell? ⟨bl,3,none⟩=some (.int .i64 last.f3):=by rw[Lib.cell_of_heap HB2.out];rfl
 clear hk;go_wp2_with fail;refine(HKN _).out.mono ?_;rintro ex wd ⟨rfl,nd,rfl⟩;have HNM2:=HNM _ (pw_below_drewN HBL.out nd);go_wp2_with fail;refine HNM2.out.mono ?_;rintro ex we ⟨rfl,hq,hf⟩;go_wp2_with fail;obtain⟨ov',hq⟩:=hq;refine at_label (by assumption) ?_
 have hh:=HR1.out;subst hh;exact hn.out _ _ ⟨rfl,rfl,rfl,rfl⟩ ⟨⟨_,_,hq⟩⟩ ⟨hf _ _ HB2.out⟩
set_option maxHeartbeats 8000000 in
set_option maxRecDepth 100000 in
theorem cNmP2 {t:Code}(hr:findLabel bodyC 0=some (.seq .skip t)){tlb:Code}(hr1:findLabel bodyC 1=some (.seq .skip tlb)){J:Nat→Act→World→Prop}{R:Ending→World→Prop}(w0:World)(g bl:Nat)(last:S75)(f:Nat→Value)(A:Option Addr)(c:Nat)(t0:S75)(rest:List S75)(wv:Value)(r:List S82)(ov:Value)(o:List Nd)(dp e p0 p1:Int)(W:World)
 (HP:Aside0 (PB w0 g A c (t0::rest) wv r.reverse ov o dp e p0 p1 W))(HB:Aside0 (W.heap[bl]? =some (.cells #[.int .i64 last.f0,.string last.f1,.int .i64 last.f2,.int .i64 last.f3] 75)))(he:e=0)(k0:t0.f0=0∧t0.f1=⟨#[97,118,103]⟩)(hG2:Aside0 (Glob2 w0))(hz:Aside0 (SzOK ⟨t0::rest,0,p0,p1⟩))(hl9:Aside0 (LastOK last))(hdp:Aside0 (-100000≤dp∧dp≤100000))(hsz:Aside0 (o.length≤100000∧r.length≤100000))
 (hn:Aside0 (∀(a':Act) (W':World),FrameOK g bl a'→Aside0 (∃wv' ov',PBS w0 g wv' (r).reverse ov' (o++[((⟨rest,0,p0,p1⟩:PS).price 2 last).2]) (dp) (((⟨rest,0,p0,p1⟩:PS).price 2 last).1) W')→Aside0 (W'.heap[bl]? =some (.cells #[.int .i64 last.f0,.string last.f1,.int .i64 last.f2,.int .i64 last.f3] 75))→tlb.wp Tryz.prog (AtLabel J (bodyPost Tryz.prog Tryz.f19 R)) a' W')):
 t.wp Tryz.prog (AtLabel J (bodyPost Tryz.prog Tryz.f19 R)) (frm g bl f) W:=by
 unfold frm;injection(hr.symm.trans (rfl:findLabel bodyC 0=some (.seq .skip _)))with hr';injection hr' with _ hr';subst hr';clear hr;injection(hr1.symm.trans (rfl:findLabel bodyC 1=some (.seq .skip _)))with hr1';injection hr1' with _ hr1';have HR1:=Aside0.mk hr1';clear hr1 hr1';subst he;have HPK:=peek2_at w0 g A c (t0::rest) wv r.reverse ov o dp 0 p0 p1 W HP.out;have hpk:hdT (t0::rest)=t0.f1:=rfl;rw[hpk]at HPK;have HPK:=Lib.hid HPK;have HS:=Lib.hid (signNo_at w0 g A c (t0::rest) wv r.reverse ov o dp 0 p0 p1 W HP.out ⟨#[45]⟩ (by simp[tkOK,k0.1]))
 rw[k0.2]at HPK;have HKN:∀W,RowKit.Hid (Calls Tryz.prog 44 #[.string ⟨#[97,118,103]⟩] W fun ex w'=>ex= .returned (.bool true)∧Drawn0 W w'):=fun W=>Lib.hid (parse_known.calls ⟨#[97,118,103]⟩ true W (by unfold parse_known.f;simp[ByteArray.toList_eq]))
 have HNM:∀W',Below W.heap.size W W'→RowKit.Hid (Calls Tryz.prog 45 #[.pointer (some ⟨g,0,none⟩),.agg #[.int .i64 last.f0,.string last.f1,.int .i64 last.f2,.int .i64 last.f3]] W' fun ex w'=>ex= .returned (.bool false)∧(∃ov',PBS w0 g wv r.reverse ov' (o++[((⟨rest,0,p0,p1⟩:PS).price 2 last).2]) dp (((⟨rest,0,p0,p1⟩:PS).price 2 last).1) w')∧Fr W' w'):=by
  intro W' hb;have hh:=nameP2_t (s:=⟨t0::rest,0,p0,p1⟩) (⟨A,c,HP.out.step hb⟩:PBS w0 g wv r.reverse ov o dp ⟨t0::rest,0,p0,p1⟩ W') hG2.out hz.out (by simp[PS.has,tkOK,k0.1]) k0.2 last hl9.out hsz.out.1 (by rw[List.length_reverse];exact hsz.out.2) hdp.out
  exact Lib.hid hh
 obtain⟨c0,c1,c2,c3,c4,c5,c6⟩:=HP.out.cells;obtain⟨tb,off,hA,q0,q1,q2,q3⟩:=HP.out.head;subst hA;have hk:=k0.1;rw[hk]at q0;have hl:¬((t0::rest).length:Int)=0:=by simp only[List.length_cons];omega
 have hl2:(0:Int)<((t0::rest).length:Int):=by simp only[List.length_cons];omega
 have hl3:(1:Int)≤((t0::rest).length:Int):=by omega
 have hlc:(t0::rest).length-1=(rest).length:=rfl;have hcI:((t0::rest).length:Int)≤(c:Int):=by have:=HP.out.hc;omega
 generalize hn0:(t0::rest).length=n at*;clear k0;go_wp2_with fail;refine HPK.out.mono ?_;rintro ex wb ⟨rfl,rfl⟩;go_wp2_with fail;refine HS.out.mono ?_;rintro ex wc ⟨rfl,hb⟩;have HB2:=Aside0.mk (Fr.below hb _ _ HB.out);have HP2:=Aside0.mk (HP.out.step hb);have HBL:=Aside0.mk hb;clear HP HB HPK HS c0 c1 c2 c3 c4 c5 c6 q0 q1 q2 q3 hb;obtain⟨c0,c1,c2,c3,c4,c5,c6⟩:=HP2.out.cells;obtain⟨tb',off',hA,q0,q1,q2,q3⟩:=HP2.out.head;injection hA with hA;injection hA with e1 e2;subst e1 e2;rw[hn0]at c0;rw[hk]at q0;have l0:wc.cell? ⟨bl,0,none⟩=some (.int .i64 last.f0):=by rw[Lib.cell_of_heap HB2.out];rfl
 have l1:wc.cell? ⟨bl,1,none⟩=some (.string last.f1):=by rw[Lib.cell_of_heap HB2.out];rfl
 have l2:wc.cell? ⟨bl,2,none⟩=some (.int .i64 last.f2):=by rw[Lib.cell_of_heap HB2.out];rfl
 have l3:wc.cell? ⟨bl,3,none⟩=some (.int .i64 last.f3):=by rw[Lib.cell_of_heap HB2.out];rfl
 clear hk;go_wp2_with fail;refine(HKN _).out.mono ?_;rintro ex wd ⟨rfl,nd,rfl⟩;have HNM2:=HNM _ (pw_below_drewN HBL.out nd);go_wp2_with fail;refine HNM2.out.mono ?_;rintro ex we ⟨rfl,hq,hf⟩;go_wp2_with fail;obtain⟨ov',hq⟩:=hq;refine at_label (by assumption) ?_
 have hh:=HR1.out;subst hh;exact hn.out _ _ ⟨rfl,rfl,rfl,rfl⟩ ⟨⟨_,_,hq⟩⟩ ⟨hf _ _ HB2.out⟩
set_option maxHeartbeats 8000000 in
set_option maxRecDepth 100000 in
theorem cNmP3 {t:Code}(hr:findLabel bodyC 0=some (.seq .skip t)){tlb:Code}(hr1:findLabel bodyC 1=some (.seq .skip tlb)){J:Nat→Act→World→Prop}{R:Ending→World→Prop}(w0:World)(g bl:Nat)(last:S75)(f:Nat→Value)(A:Option Addr)(c:Nat)(t0:S75)(rest:List S75)(wv:Value)(r:List S82)(ov:Value)(o:List Nd)(dp e p0 p1:Int)(W:World)
 (HP:Aside0 (PB w0 g A c (t0::rest) wv r.reverse ov o dp e p0 p1 W))(HB:Aside0 (W.heap[bl]? =some (.cells #[.int .i64 last.f0,.string last.f1,.int .i64 last.f2,.int .i64 last.f3] 75)))(he:e=0)(k0:t0.f0=0∧t0.f1=⟨#[104,105]⟩)(hG2:Aside0 (Glob2 w0))(hz:Aside0 (SzOK ⟨t0::rest,0,p0,p1⟩))(hl9:Aside0 (LastOK last))(hdp:Aside0 (-100000≤dp∧dp≤100000))(hsz:Aside0 (o.length≤100000∧r.length≤100000))
 (hn:Aside0 (∀(a':Act) (W':World),FrameOK g bl a'→Aside0 (∃wv' ov',PBS w0 g wv' (r).reverse ov' (o++[((⟨rest,0,p0,p1⟩:PS).price 3 last).2]) (dp) (((⟨rest,0,p0,p1⟩:PS).price 3 last).1) W')→Aside0 (W'.heap[bl]? =some (.cells #[.int .i64 last.f0,.string last.f1,.int .i64 last.f2,.int .i64 last.f3] 75))→tlb.wp Tryz.prog (AtLabel J (bodyPost Tryz.prog Tryz.f19 R)) a' W')):
 t.wp Tryz.prog (AtLabel J (bodyPost Tryz.prog Tryz.f19 R)) (frm g bl f) W:=by
 unfold frm;injection(hr.symm.trans (rfl:findLabel bodyC 0=some (.seq .skip _)))with hr';injection hr' with _ hr';subst hr';clear hr;injection(hr1.symm.trans (rfl:findLabel bodyC 1=some (.seq .skip _)))with hr1';injection hr1' with _ hr1';have HR1:=Aside0.mk hr1';clear hr1 hr1';subst he;have HPK:=peek2_at w0 g A c (t0::rest) wv r.reverse ov o dp 0 p0 p1 W HP.out;have hpk:hdT (t0::rest)=t0.f1:=rfl;rw[hpk]at HPK;have HPK:=Lib.hid HPK;have HS:=Lib.hid (signNo_at w0 g A c (t0::rest) wv r.reverse ov o dp 0 p0 p1 W HP.out ⟨#[45]⟩ (by simp[tkOK,k0.1]))
 rw[k0.2]at HPK;have HKN:∀W,RowKit.Hid (Calls Tryz.prog 44 #[.string ⟨#[104,105]⟩] W fun ex w'=>ex= .returned (.bool true)∧Drawn0 W w'):=fun W=>Lib.hid (parse_known.calls ⟨#[104,105]⟩ true W (by unfold parse_known.f;simp[ByteArray.toList_eq]))
 have HNM:∀W',Below W.heap.size W W'→RowKit.Hid (Calls Tryz.prog 45 #[.pointer (some ⟨g,0,none⟩),.agg #[.int .i64 last.f0,.string last.f1,.int .i64 last.f2,.int .i64 last.f3]] W' fun ex w'=>ex= .returned (.bool false)∧(∃ov',PBS w0 g wv r.reverse ov' (o++[((⟨rest,0,p0,p1⟩:PS).price 3 last).2]) dp (((⟨rest,0,p0,p1⟩:PS).price 3 last).1) w')∧Fr W' w'):=by
  intro W' hb;have hh:=nameP3_t (s:=⟨t0::rest,0,p0,p1⟩) (⟨A,c,HP.out.step hb⟩:PBS w0 g wv r.reverse ov o dp ⟨t0::rest,0,p0,p1⟩ W') hG2.out hz.out (by simp[PS.has,tkOK,k0.1]) k0.2 last hl9.out hsz.out.1 (by rw[List.length_reverse];exact hsz.out.2) hdp.out
  exact Lib.hid hh
 obtain⟨c0,c1,c2,c3,c4,c5,c6⟩:=HP.out.cells;obtain⟨tb,off,hA,q0,q1,q2,q3⟩:=HP.out.head;subst hA;have hk:=k0.1;rw[hk]at q0;have hl:¬((t0::rest).length:Int)=0:=by simp only[List.length_cons];omega
 have hl2:(0:Int)<((t0::rest).length:Int):=by simp only[List.length_cons];omega
 have hl3:(1:Int)≤((t0::rest).length:Int):=by omega
 have hlc:(t0::rest).length-1=(rest).length:=rfl;have hcI:((t0::rest).length:Int)≤(c:Int):=by have:=HP.out.hc;omega
 generalize hn0:(t0::rest).length=n at*;clear k0;go_wp2_with fail;refine HPK.out.mono ?_;rintro ex wb ⟨rfl,rfl⟩;go_wp2_with fail;refine HS.out.mono ?_;rintro ex wc ⟨rfl,hb⟩;have HB2:=Aside0.mk (Fr.below hb _ _ HB.out);have HP2:=Aside0.mk (HP.out.step hb);have HBL:=Aside0.mk hb;clear HP HB HPK HS c0 c1 c2 c3 c4 c5 c6 q0 q1 q2 q3 hb;obtain⟨c0,c1,c2,c3,c4,c5,c6⟩:=HP2.out.cells;obtain⟨tb',off',hA,q0,q1,q2,q3⟩:=HP2.out.head;injection hA with hA;injection hA with e1 e2;subst e1 e2;rw[hn0]at c0;rw[hk]at q0;have l0:wc.cell? ⟨bl,0,none⟩=some (.int .i64 last.f0):=by rw[Lib.cell_of_heap HB2.out];rfl
 have l1:wc.cell? ⟨bl,1,none⟩=some (.string last.f1):=by rw[Lib.cell_of_heap HB2.out];rfl
 have l2:wc.cell? ⟨bl,2,none⟩=some (.int .i64 last.f2):=by rw[Lib.cell_of_heap HB2.out];rfl
 have l3:wc.cell? ⟨bl,3,none⟩=some (.int .i64 last.f3):=by rw[Lib.cell_of_heap HB2.out];rfl
 clear hk;go_wp2_with fail;refine(HKN _).out.mono ?_;rintro ex wd ⟨rfl,nd,rfl⟩;have HNM2:=HNM _ (pw_below_drewN HBL.out nd);go_wp2_with fail;refine HNM2.out.mono ?_;rintro ex we ⟨rfl,hq,hf⟩;go_wp2_with fail;obtain⟨ov',hq⟩:=hq;refine at_label (by assumption) ?_
 have hh:=HR1.out;subst hh;exact hn.out _ _ ⟨rfl,rfl,rfl,rfl⟩ ⟨⟨_,_,hq⟩⟩ ⟨hf _ _ HB2.out⟩
set_option maxHeartbeats 8000000 in
set_option maxRecDepth 100000 in
theorem cNmP4 {t:Code}(hr:findLabel bodyC 0=some (.seq .skip t)){tlb:Code}(hr1:findLabel bodyC 1=some (.seq .skip tlb)){J:Nat→Act→World→Prop}{R:Ending→World→Prop}(w0:World)(g bl:Nat)(last:S75)(f:Nat→Value)(A:Option Addr)(c:Nat)(t0:S75)(rest:List S75)(wv:Value)(r:List S82)(ov:Value)(o:List Nd)(dp e p0 p1:Int)(W:World)
 (HP:Aside0 (PB w0 g A c (t0::rest) wv r.reverse ov o dp e p0 p1 W))(HB:Aside0 (W.heap[bl]? =some (.cells #[.int .i64 last.f0,.string last.f1,.int .i64 last.f2,.int .i64 last.f3] 75)))(he:e=0)(k0:t0.f0=0∧t0.f1=⟨#[108,111]⟩)(hG2:Aside0 (Glob2 w0))(hz:Aside0 (SzOK ⟨t0::rest,0,p0,p1⟩))(hl9:Aside0 (LastOK last))(hdp:Aside0 (-100000≤dp∧dp≤100000))(hsz:Aside0 (o.length≤100000∧r.length≤100000))
 (hn:Aside0 (∀(a':Act) (W':World),FrameOK g bl a'→Aside0 (∃wv' ov',PBS w0 g wv' (r).reverse ov' (o++[((⟨rest,0,p0,p1⟩:PS).price 4 last).2]) (dp) (((⟨rest,0,p0,p1⟩:PS).price 4 last).1) W')→Aside0 (W'.heap[bl]? =some (.cells #[.int .i64 last.f0,.string last.f1,.int .i64 last.f2,.int .i64 last.f3] 75))→tlb.wp Tryz.prog (AtLabel J (bodyPost Tryz.prog Tryz.f19 R)) a' W')):
 t.wp Tryz.prog (AtLabel J (bodyPost Tryz.prog Tryz.f19 R)) (frm g bl f) W:=by
 unfold frm;injection(hr.symm.trans (rfl:findLabel bodyC 0=some (.seq .skip _)))with hr';injection hr' with _ hr';subst hr';clear hr;injection(hr1.symm.trans (rfl:findLabel bodyC 1=some (.seq .skip _)))with hr1';injection hr1' with _ hr1';have HR1:=Aside0.mk hr1';clear hr1 hr1';subst he;have HPK:=peek2_at w0 g A c (t0::rest) wv r.reverse ov o dp 0 p0 p1 W HP.out;have hpk:hdT (t0::rest)=t0.f1:=rfl;rw[hpk]at HPK;have HPK:=Lib.hid HPK;have HS:=Lib.hid (signNo_at w0 g A c (t0::rest) wv r.reverse ov o dp 0 p0 p1 W HP.out ⟨#[45]⟩ (by simp[tkOK,k0.1]))
 rw[k0.2]at HPK;have HKN:∀W,RowKit.Hid (Calls Tryz.prog 44 #[.string ⟨#[108,111]⟩] W fun ex w'=>ex= .returned (.bool true)∧Drawn0 W w'):=fun W=>Lib.hid (parse_known.calls ⟨#[108,111]⟩ true W (by unfold parse_known.f;simp[ByteArray.toList_eq]))
 have HNM:∀W',Below W.heap.size W W'→RowKit.Hid (Calls Tryz.prog 45 #[.pointer (some ⟨g,0,none⟩),.agg #[.int .i64 last.f0,.string last.f1,.int .i64 last.f2,.int .i64 last.f3]] W' fun ex w'=>ex= .returned (.bool false)∧(∃ov',PBS w0 g wv r.reverse ov' (o++[((⟨rest,0,p0,p1⟩:PS).price 4 last).2]) dp (((⟨rest,0,p0,p1⟩:PS).price 4 last).1) w')∧Fr W' w'):=by
  intro W' hb;have hh:=nameP4_t (s:=⟨t0::rest,0,p0,p1⟩) (⟨A,c,HP.out.step hb⟩:PBS w0 g wv r.reverse ov o dp ⟨t0::rest,0,p0,p1⟩ W') hG2.out hz.out (by simp[PS.has,tkOK,k0.1]) k0.2 last hl9.out hsz.out.1 (by rw[List.length_reverse];exact hsz.out.2) hdp.out
  exact Lib.hid hh
 obtain⟨c0,c1,c2,c3,c4,c5,c6⟩:=HP.out.cells;obtain⟨tb,off,hA,q0,q1,q2,q3⟩:=HP.out.head;subst hA;have hk:=k0.1;rw[hk]at q0;have hl:¬((t0::rest).length:Int)=0:=by simp only[List.length_cons];omega
 have hl2:(0:Int)<((t0::rest).length:Int):=by simp only[List.length_cons];omega
 have hl3:(1:Int)≤((t0::rest).length:Int):=by omega
 have hlc:(t0::rest).length-1=(rest).length:=rfl;have hcI:((t0::rest).length:Int)≤(c:Int):=by have:=HP.out.hc;omega
 generalize hn0:(t0::rest).length=n at*;clear k0;go_wp2_with fail;refine HPK.out.mono ?_;rintro ex wb ⟨rfl,rfl⟩;go_wp2_with fail;refine HS.out.mono ?_;rintro ex wc ⟨rfl,hb⟩;have HB2:=Aside0.mk (Fr.below hb _ _ HB.out);have HP2:=Aside0.mk (HP.out.step hb);have HBL:=Aside0.mk hb;clear HP HB HPK HS c0 c1 c2 c3 c4 c5 c6 q0 q1 q2 q3 hb;obtain⟨c0,c1,c2,c3,c4,c5,c6⟩:=HP2.out.cells;obtain⟨tb',off',hA,q0,q1,q2,q3⟩:=HP2.out.head;injection hA with hA;injection hA with e1 e2;subst e1 e2;rw[hn0]at c0;rw[hk]at q0;have l0:wc.cell? ⟨bl,0,none⟩=some (.int .i64 last.f0):=by rw[Lib.cell_of_heap HB2.out];rfl
 have l1:wc.cell? ⟨bl,1,none⟩=some (.string last.f1):=by rw[Lib.cell_of_heap HB2.out];rfl
 have l2:wc.cell? ⟨bl,2,none⟩=some (.int .i64 last.f2):=by rw[Lib.cell_of_heap HB2.out];rfl
 have l3:wc.cell? ⟨bl,3,none⟩=some (.int .i64 last.f3):=by rw[Lib.cell_of_heap HB2.out];rfl
 clear hk;go_wp2_with fail;refine(HKN _).out.mono ?_;rintro ex wd ⟨rfl,nd,rfl⟩;have HNM2:=HNM _ (pw_below_drewN HBL.out nd);go_wp2_with fail;refine HNM2.out.mono ?_;rintro ex we ⟨rfl,hq,hf⟩;go_wp2_with fail;obtain⟨ov',hq⟩:=hq;refine at_label (by assumption) ?_
 have hh:=HR1.out;subst hh;exact hn.out _ _ ⟨rfl,rfl,rfl,rfl⟩ ⟨⟨_,_,hq⟩⟩ ⟨hf _ _ HB2.out⟩
set_option maxHeartbeats 8000000 in
set_option maxRecDepth 100000 in
theorem cNmF10 {t:Code}(hr:findLabel bodyC 0=some (.seq .skip t)){tlb:Code}(hr1:findLabel bodyC 1=some (.seq .skip tlb)){J:Nat→Act→World→Prop}{R:Ending→World→Prop}(w0:World)(g bl:Nat)(last:S75)(f:Nat→Value)(A:Option Addr)(c:Nat)(t0:S75)(rest:List S75)(wv:Value)(r:List S82)(ov:Value)(o:List Nd)(dp e p0 p1:Int)(W:World)
 (HP:Aside0 (PB w0 g A c (t0::rest) wv r.reverse ov o dp e p0 p1 W))(HB:Aside0 (W.heap[bl]? =some (.cells #[.int .i64 last.f0,.string last.f1,.int .i64 last.f2,.int .i64 last.f3] 75)))(he:e=0)(k0:t0.f0=0∧t0.f1=⟨#[109,97,120]⟩)(hG2:Aside0 (Glob2 w0))(hz:Aside0 (SzOK ⟨t0::rest,0,p0,p1⟩))(hl9:Aside0 (LastOK last))(hdp:Aside0 (-100000≤dp∧dp≤100000))(hsz:Aside0 (o.length≤100000∧r.length≤100000))
 (hn:Aside0 (∀(a':Act) (W':World),FrameOK g bl a'→Aside0 (∃wv' ov',PBS w0 g wv' (⟨10,0,2⟩::r).reverse ov' (o) (dp+1) ((⟨rest,0,p0,p1⟩:PS).push dp last) W')→Aside0 (W'.heap[bl]? =some (.cells #[.int .i64 last.f0,.string last.f1,.int .i64 last.f2,.int .i64 last.f3] 75))→J 0 a' W')):
 t.wp Tryz.prog (AtLabel J (bodyPost Tryz.prog Tryz.f19 R)) (frm g bl f) W:=by
 unfold frm;injection(hr.symm.trans (rfl:findLabel bodyC 0=some (.seq .skip _)))with hr';injection hr' with _ hr';subst hr';clear hr;injection(hr1.symm.trans (rfl:findLabel bodyC 1=some (.seq .skip _)))with hr1';injection hr1' with _ hr1';have HR1:=Aside0.mk hr1';clear hr1 hr1';subst he;have HPK:=peek2_at w0 g A c (t0::rest) wv r.reverse ov o dp 0 p0 p1 W HP.out;have hpk:hdT (t0::rest)=t0.f1:=rfl;rw[hpk]at HPK;have HPK:=Lib.hid HPK;have HS:=Lib.hid (signNo_at w0 g A c (t0::rest) wv r.reverse ov o dp 0 p0 p1 W HP.out ⟨#[45]⟩ (by simp[tkOK,k0.1]))
 rw[k0.2]at HPK;have HKN:∀W,RowKit.Hid (Calls Tryz.prog 44 #[.string ⟨#[109,97,120]⟩] W fun ex w'=>ex= .returned (.bool true)∧Drawn0 W w'):=fun W=>Lib.hid (parse_known.calls ⟨#[109,97,120]⟩ true W (by unfold parse_known.f;simp[ByteArray.toList_eq]))
 have HNM:∀W',Below W.heap.size W W'→RowKit.Hid (Calls Tryz.prog 45 #[.pointer (some ⟨g,0,none⟩),.agg #[.int .i64 last.f0,.string last.f1,.int .i64 last.f2,.int .i64 last.f3]] W' fun ex w'=>ex= .returned (.bool true)∧(∃wv',PBS w0 g wv' (⟨10,0,2⟩::r).reverse ov o (dp+1) ((⟨rest,0,p0,p1⟩:PS).push dp last) w')∧Fr W' w'):=by
  intro W' hb;have hh:=nameF10_t (s:=⟨t0::rest,0,p0,p1⟩) (⟨A,c,HP.out.step hb⟩:PBS w0 g wv r.reverse ov o dp ⟨t0::rest,0,p0,p1⟩ W') hG2.out hz.out (by simp[PS.has,tkOK,k0.1]) k0.2 last hl9.out hsz.out.1 (by rw[List.length_reverse];exact hsz.out.2) hdp.out
  have e5:r.reverse++[(⟨10,0,2⟩:S82)]=(⟨10,0,2⟩::r).reverse:=by rw[List.reverse_cons]
  rw[e5]at hh;exact Lib.hid hh
 obtain⟨c0,c1,c2,c3,c4,c5,c6⟩:=HP.out.cells;obtain⟨tb,off,hA,q0,q1,q2,q3⟩:=HP.out.head;subst hA;have hk:=k0.1;rw[hk]at q0;have hl:¬((t0::rest).length:Int)=0:=by simp only[List.length_cons];omega
 have hl2:(0:Int)<((t0::rest).length:Int):=by simp only[List.length_cons];omega
 have hl3:(1:Int)≤((t0::rest).length:Int):=by omega
 have hlc:(t0::rest).length-1=(rest).length:=rfl;have hcI:((t0::rest).length:Int)≤(c:Int):=by have:=HP.out.hc;omega
 generalize hn0:(t0::rest).length=n at*;clear k0;go_wp2_with fail;refine HPK.out.mono ?_;rintro ex wb ⟨rfl,rfl⟩;go_wp2_with fail;refine HS.out.mono ?_;rintro ex wc ⟨rfl,hb⟩;have HB2:=Aside0.mk (Fr.below hb _ _ HB.out);have HP2:=Aside0.mk (HP.out.step hb);have HBL:=Aside0.mk hb;clear HP HB HPK HS c0 c1 c2 c3 c4 c5 c6 q0 q1 q2 q3 hb;obtain⟨c0,c1,c2,c3,c4,c5,c6⟩:=HP2.out.cells;obtain⟨tb',off',hA,q0,q1,q2,q3⟩:=HP2.out.head;injection hA with hA;injection hA with e1 e2;subst e1 e2;rw[hn0]at c0;rw[hk]at q0;have l0:wc.cell? ⟨bl,0,none⟩=some (.int .i64 last.f0):=by rw[Lib.cell_of_heap HB2.out];rfl
 have l1:wc.cell? ⟨bl,1,none⟩=some (.string last.f1):=by rw[Lib.cell_of_heap HB2.out];rfl
 have l2:wc.cell? ⟨bl,2,none⟩=some (.int .i64 last.f2):=by rw[Lib.cell_of_heap HB2.out];rfl
 have l3:wc.cell? ⟨bl,3,none⟩=some (.int .i64 last.f3):=by rw[Lib.cell_of_heap HB2.out];rfl
 clear hk;go_wp2_with fail;refine(HKN _).out.mono ?_;rintro ex wd ⟨rfl,nd,rfl⟩;have HNM2:=HNM _ (pw_below_drewN HBL.out nd);go_wp2_with fail;refine HNM2.out.mono ?_;rintro ex we ⟨rfl,hq,hf⟩;go_wp2_with fail;obtain⟨wv',hq⟩:=hq;go_step3
 show J 0 _ _
 exact hn.out _ _ ⟨rfl,rfl,rfl,rfl⟩ ⟨⟨_,_,hq⟩⟩ ⟨hf _ _ HB2.out⟩
set_option maxHeartbeats 8000000 in
set_option maxRecDepth 100000 in
theorem cNmF11 {t:Code}(hr:findLabel bodyC 0=some (.seq .skip t)){tlb:Code}(hr1:findLabel bodyC 1=some (.seq .skip tlb)){J:Nat→Act→World→Prop}{R:Ending→World→Prop}(w0:World)(g bl:Nat)(last:S75)(f:Nat→Value)(A:Option Addr)(c:Nat)(t0:S75)(rest:List S75)(wv:Value)(r:List S82)(ov:Value)(o:List Nd)(dp e p0 p1:Int)(W:World)
 (HP:Aside0 (PB w0 g A c (t0::rest) wv r.reverse ov o dp e p0 p1 W))(HB:Aside0 (W.heap[bl]? =some (.cells #[.int .i64 last.f0,.string last.f1,.int .i64 last.f2,.int .i64 last.f3] 75)))(he:e=0)(k0:t0.f0=0∧t0.f1=⟨#[109,105,110]⟩)(hG2:Aside0 (Glob2 w0))(hz:Aside0 (SzOK ⟨t0::rest,0,p0,p1⟩))(hl9:Aside0 (LastOK last))(hdp:Aside0 (-100000≤dp∧dp≤100000))(hsz:Aside0 (o.length≤100000∧r.length≤100000))
 (hn:Aside0 (∀(a':Act) (W':World),FrameOK g bl a'→Aside0 (∃wv' ov',PBS w0 g wv' (⟨11,0,2⟩::r).reverse ov' (o) (dp+1) ((⟨rest,0,p0,p1⟩:PS).push dp last) W')→Aside0 (W'.heap[bl]? =some (.cells #[.int .i64 last.f0,.string last.f1,.int .i64 last.f2,.int .i64 last.f3] 75))→J 0 a' W')):
 t.wp Tryz.prog (AtLabel J (bodyPost Tryz.prog Tryz.f19 R)) (frm g bl f) W:=by
 unfold frm;injection(hr.symm.trans (rfl:findLabel bodyC 0=some (.seq .skip _)))with hr';injection hr' with _ hr';subst hr';clear hr;injection(hr1.symm.trans (rfl:findLabel bodyC 1=some (.seq .skip _)))with hr1';injection hr1' with _ hr1';have HR1:=Aside0.mk hr1';clear hr1 hr1';subst he;have HPK:=peek2_at w0 g A c (t0::rest) wv r.reverse ov o dp 0 p0 p1 W HP.out;have hpk:hdT (t0::rest)=t0.f1:=rfl;rw[hpk]at HPK;have HPK:=Lib.hid HPK;have HS:=Lib.hid (signNo_at w0 g A c (t0::rest) wv r.reverse ov o dp 0 p0 p1 W HP.out ⟨#[45]⟩ (by simp[tkOK,k0.1]))
 rw[k0.2]at HPK;have HKN:∀W,RowKit.Hid (Calls Tryz.prog 44 #[.string ⟨#[109,105,110]⟩] W fun ex w'=>ex= .returned (.bool true)∧Drawn0 W w'):=fun W=>Lib.hid (parse_known.calls ⟨#[109,105,110]⟩ true W (by unfold parse_known.f;simp[ByteArray.toList_eq]))
 have HNM:∀W',Below W.heap.size W W'→RowKit.Hid (Calls Tryz.prog 45 #[.pointer (some ⟨g,0,none⟩),.agg #[.int .i64 last.f0,.string last.f1,.int .i64 last.f2,.int .i64 last.f3]] W' fun ex w'=>ex= .returned (.bool true)∧(∃wv',PBS w0 g wv' (⟨11,0,2⟩::r).reverse ov o (dp+1) ((⟨rest,0,p0,p1⟩:PS).push dp last) w')∧Fr W' w'):=by
  intro W' hb;have hh:=nameF11_t (s:=⟨t0::rest,0,p0,p1⟩) (⟨A,c,HP.out.step hb⟩:PBS w0 g wv r.reverse ov o dp ⟨t0::rest,0,p0,p1⟩ W') hG2.out hz.out (by simp[PS.has,tkOK,k0.1]) k0.2 last hl9.out hsz.out.1 (by rw[List.length_reverse];exact hsz.out.2) hdp.out
  have e5:r.reverse++[(⟨11,0,2⟩:S82)]=(⟨11,0,2⟩::r).reverse:=by rw[List.reverse_cons]
  rw[e5]at hh;exact Lib.hid hh
 obtain⟨c0,c1,c2,c3,c4,c5,c6⟩:=HP.out.cells;obtain⟨tb,off,hA,q0,q1,q2,q3⟩:=HP.out.head;subst hA;have hk:=k0.1;rw[hk]at q0;have hl:¬((t0::rest).length:Int)=0:=by simp only[List.length_cons];omega
 have hl2:(0:Int)<((t0::rest).length:Int):=by simp only[List.length_cons];omega
 have hl3:(1:Int)≤((t0::rest).length:Int):=by omega
 have hlc:(t0::rest).length-1=(rest).length:=rfl;have hcI:((t0::rest).length:Int)≤(c:Int):=by have:=HP.out.hc;omega
 generalize hn0:(t0::rest).length=n at*;clear k0;go_wp2_with fail;refine HPK.out.mono ?_;rintro ex wb ⟨rfl,rfl⟩;go_wp2_with fail;refine HS.out.mono ?_;rintro ex wc ⟨rfl,hb⟩;have HB2:=Aside0.mk (Fr.below hb _ _ HB.out);have HP2:=Aside0.mk (HP.out.step hb);have HBL:=Aside0.mk hb;clear HP HB HPK HS c0 c1 c2 c3 c4 c5 c6 q0 q1 q2 q3 hb;obtain⟨c0,c1,c2,c3,c4,c5,c6⟩:=HP2.out.cells;obtain⟨tb',off',hA,q0,q1,q2,q3⟩:=HP2.out.head;injection hA with hA;injection hA with e1 e2;subst e1 e2;rw[hn0]at c0;rw[hk]at q0;have l0:wc.cell? ⟨bl,0,none⟩=some (.int .i64 last.f0):=by rw[Lib.cell_of_heap HB2.out];rfl
 have l1:wc.cell? ⟨bl,1,none⟩=some (.string last.f1):=by rw[Lib.cell_of_heap HB2.out];rfl
 have l2:wc.cell? ⟨bl,2,none⟩=some (.int .i64 last.f2):=by rw[Lib.cell_of_heap HB2.out];rfl
 have l3:wc.cell? ⟨bl,3,none⟩=some (.int .i64 last.f3):=by rw[Lib.cell_of_heap HB2.out];rfl
 clear hk;go_wp2_with fail;refine(HKN _).out.mono ?_;rintro ex wd ⟨rfl,nd,rfl⟩;have HNM2:=HNM _ (pw_below_drewN HBL.out nd);go_wp2_with fail;refine HNM2.out.mono ?_;rintro ex we ⟨rfl,hq,hf⟩;go_wp2_with fail;obtain⟨wv',hq⟩:=hq;go_step3
 show J 0 _ _
 exact hn.out _ _ ⟨rfl,rfl,rfl,rfl⟩ ⟨⟨_,_,hq⟩⟩ ⟨hf _ _ HB2.out⟩
set_option maxHeartbeats 8000000 in
set_option maxRecDepth 100000 in
theorem cNmF12 {t:Code}(hr:findLabel bodyC 0=some (.seq .skip t)){tlb:Code}(hr1:findLabel bodyC 1=some (.seq .skip tlb)){J:Nat→Act→World→Prop}{R:Ending→World→Prop}(w0:World)(g bl:Nat)(last:S75)(f:Nat→Value)(A:Option Addr)(c:Nat)(t0:S75)(rest:List S75)(wv:Value)(r:List S82)(ov:Value)(o:List Nd)(dp e p0 p1:Int)(W:World)
 (HP:Aside0 (PB w0 g A c (t0::rest) wv r.reverse ov o dp e p0 p1 W))(HB:Aside0 (W.heap[bl]? =some (.cells #[.int .i64 last.f0,.string last.f1,.int .i64 last.f2,.int .i64 last.f3] 75)))(he:e=0)(k0:t0.f0=0∧t0.f1=⟨#[105,102]⟩)(hG2:Aside0 (Glob2 w0))(hz:Aside0 (SzOK ⟨t0::rest,0,p0,p1⟩))(hl9:Aside0 (LastOK last))(hdp:Aside0 (-100000≤dp∧dp≤100000))(hsz:Aside0 (o.length≤100000∧r.length≤100000))
 (hn:Aside0 (∀(a':Act) (W':World),FrameOK g bl a'→Aside0 (∃wv' ov',PBS w0 g wv' (⟨12,0,3⟩::r).reverse ov' (o) (dp+1) ((⟨rest,0,p0,p1⟩:PS).push dp last) W')→Aside0 (W'.heap[bl]? =some (.cells #[.int .i64 last.f0,.string last.f1,.int .i64 last.f2,.int .i64 last.f3] 75))→J 0 a' W')):
 t.wp Tryz.prog (AtLabel J (bodyPost Tryz.prog Tryz.f19 R)) (frm g bl f) W:=by
 unfold frm;injection(hr.symm.trans (rfl:findLabel bodyC 0=some (.seq .skip _)))with hr';injection hr' with _ hr';subst hr';clear hr;injection(hr1.symm.trans (rfl:findLabel bodyC 1=some (.seq .skip _)))with hr1';injection hr1' with _ hr1';have HR1:=Aside0.mk hr1';clear hr1 hr1';subst he;have HPK:=peek2_at w0 g A c (t0::rest) wv r.reverse ov o dp 0 p0 p1 W HP.out;have hpk:hdT (t0::rest)=t0.f1:=rfl;rw[hpk]at HPK;have HPK:=Lib.hid HPK;have HS:=Lib.hid (signNo_at w0 g A c (t0::rest) wv r.reverse ov o dp 0 p0 p1 W HP.out ⟨#[45]⟩ (by simp[tkOK,k0.1]))
 rw[k0.2]at HPK;have HKN:∀W,RowKit.Hid (Calls Tryz.prog 44 #[.string ⟨#[105,102]⟩] W fun ex w'=>ex= .returned (.bool true)∧Drawn0 W w'):=fun W=>Lib.hid (parse_known.calls ⟨#[105,102]⟩ true W (by unfold parse_known.f;simp[ByteArray.toList_eq]))
 have HNM:∀W',Below W.heap.size W W'→RowKit.Hid (Calls Tryz.prog 45 #[.pointer (some ⟨g,0,none⟩),.agg #[.int .i64 last.f0,.string last.f1,.int .i64 last.f2,.int .i64 last.f3]] W' fun ex w'=>ex= .returned (.bool true)∧(∃wv',PBS w0 g wv' (⟨12,0,3⟩::r).reverse ov o (dp+1) ((⟨rest,0,p0,p1⟩:PS).push dp last) w')∧Fr W' w'):=by
  intro W' hb;have hh:=nameF12_t (s:=⟨t0::rest,0,p0,p1⟩) (⟨A,c,HP.out.step hb⟩:PBS w0 g wv r.reverse ov o dp ⟨t0::rest,0,p0,p1⟩ W') hG2.out hz.out (by simp[PS.has,tkOK,k0.1]) k0.2 last hl9.out hsz.out.1 (by rw[List.length_reverse];exact hsz.out.2) hdp.out
  have e5:r.reverse++[(⟨12,0,3⟩:S82)]=(⟨12,0,3⟩::r).reverse:=by rw[List.reverse_cons]
  rw[e5]at hh;exact Lib.hid hh
 obtain⟨c0,c1,c2,c3,c4,c5,c6⟩:=HP.out.cells;obtain⟨tb,off,hA,q0,q1,q2,q3⟩:=HP.out.head;subst hA;have hk:=k0.1;rw[hk]at q0;have hl:¬((t0::rest).length:Int)=0:=by simp only[List.length_cons];omega
 have hl2:(0:Int)<((t0::rest).length:Int):=by simp only[List.length_cons];omega
 have hl3:(1:Int)≤((t0::rest).length:Int):=by omega
 have hlc:(t0::rest).length-1=(rest).length:=rfl;have hcI:((t0::rest).length:Int)≤(c:Int):=by have:=HP.out.hc;omega
 generalize hn0:(t0::rest).length=n at*;clear k0;go_wp2_with fail;refine HPK.out.mono ?_;rintro ex wb ⟨rfl,rfl⟩;go_wp2_with fail;refine HS.out.mono ?_;rintro ex wc ⟨rfl,hb⟩;have HB2:=Aside0.mk (Fr.below hb _ _ HB.out);have HP2:=Aside0.mk (HP.out.step hb);have HBL:=Aside0.mk hb;clear HP HB HPK HS c0 c1 c2 c3 c4 c5 c6 q0 q1 q2 q3 hb;obtain⟨c0,c1,c2,c3,c4,c5,c6⟩:=HP2.out.cells;obtain⟨tb',off',hA,q0,q1,q2,q3⟩:=HP2.out.head;injection hA with hA;injection hA with e1 e2;subst e1 e2;rw[hn0]at c0;rw[hk]at q0;have l0:wc.cell? ⟨bl,0,none⟩=some (.int .i64 last.f0):=by rw[Lib.cell_of_heap HB2.out];rfl
 have l1:wc.cell? ⟨bl,1,none⟩=some (.string last.f1):=by rw[Lib.cell_of_heap HB2.out];rfl
 have l2:wc.cell? ⟨bl,2,none⟩=some (.int .i64 last.f2):=by rw[Lib.cell_of_heap HB2.out];rfl
 have l3:wc.cell? ⟨bl,3,none⟩=some (.int .i64 last.f3):=by rw[Lib.cell_of_heap HB2.out];rfl
 clear hk;go_wp2_with fail;refine(HKN _).out.mono ?_;rintro ex wd ⟨rfl,nd,rfl⟩;have HNM2:=HNM _ (pw_below_drewN HBL.out nd);go_wp2_with fail;refine HNM2.out.mono ?_;rintro ex we ⟨rfl,hq,hf⟩;go_wp2_with fail;obtain⟨wv',hq⟩:=hq;go_step3
 show J 0 _ _
 exact hn.out _ _ ⟨rfl,rfl,rfl,rfl⟩ ⟨⟨_,_,hq⟩⟩ ⟨hf _ _ HB2.out⟩
set_option maxHeartbeats 8000000 in
set_option maxRecDepth 100000 in
theorem cNmN {t:Code}(hr:findLabel bodyC 0=some (.seq .skip t)){tlb:Code}(hr1:findLabel bodyC 1=some (.seq .skip tlb)){J:Nat→Act→World→Prop}{R:Ending→World→Prop}(w0:World)(g bl:Nat)(last:S75)(f:Nat→Value)(A:Option Addr)(c:Nat)(t0:S75)(rest:List S75)(wv:Value)(r:List S82)(ov:Value)(o:List Nd)(dp e p0 p1:Int)(W:World)
 (HP:Aside0 (PB w0 g A c (t0::rest) wv r.reverse ov o dp e p0 p1 W))(HB:Aside0 (W.heap[bl]? =some (.cells #[.int .i64 last.f0,.string last.f1,.int .i64 last.f2,.int .i64 last.f3] 75)))(he:e=0)(k0:t0.f0=0∧t0.f1=⟨#[110,117,109]⟩)(hG2:Aside0 (Glob2 w0))(hz:Aside0 (SzOK ⟨t0::rest,0,p0,p1⟩))(hl9:Aside0 (LastOK last))(hdp:Aside0 (-100000≤dp∧dp≤100000))(hsz:Aside0 (o.length≤100000∧r.length≤100000))
 (hn:Aside0 (∀(a':Act) (W':World),FrameOK g bl a'→Aside0 (∃wv' ov',PBS w0 g wv' (r).reverse ov' (o++[((⟨rest,0,p0,p1⟩:PS).num last).2]) (dp) (((⟨rest,0,p0,p1⟩:PS).num last).1) W')→Aside0 (W'.heap[bl]? =some (.cells #[.int .i64 last.f0,.string last.f1,.int .i64 last.f2,.int .i64 last.f3] 75))→tlb.wp Tryz.prog (AtLabel J (bodyPost Tryz.prog Tryz.f19 R)) a' W')):
 t.wp Tryz.prog (AtLabel J (bodyPost Tryz.prog Tryz.f19 R)) (frm g bl f) W:=by
 unfold frm;injection(hr.symm.trans (rfl:findLabel bodyC 0=some (.seq .skip _)))with hr';injection hr' with _ hr';subst hr';clear hr;injection(hr1.symm.trans (rfl:findLabel bodyC 1=some (.seq .skip _)))with hr1';injection hr1' with _ hr1';have HR1:=Aside0.mk hr1';clear hr1 hr1';subst he;have HPK:=peek2_at w0 g A c (t0::rest) wv r.reverse ov o dp 0 p0 p1 W HP.out;have hpk:hdT (t0::rest)=t0.f1:=rfl;rw[hpk]at HPK;have HPK:=Lib.hid HPK;have HS:=Lib.hid (signNo_at w0 g A c (t0::rest) wv r.reverse ov o dp 0 p0 p1 W HP.out ⟨#[45]⟩ (by simp[tkOK,k0.1]))
 rw[k0.2]at HPK;have HKN:∀W,RowKit.Hid (Calls Tryz.prog 44 #[.string ⟨#[110,117,109]⟩] W fun ex w'=>ex= .returned (.bool true)∧Drawn0 W w'):=fun W=>Lib.hid (parse_known.calls ⟨#[110,117,109]⟩ true W (by unfold parse_known.f;simp[ByteArray.toList_eq]))
 have HNM:∀W',Below W.heap.size W W'→RowKit.Hid (Calls Tryz.prog 45 #[.pointer (some ⟨g,0,none⟩),.agg #[.int .i64 last.f0,.string last.f1,.int .i64 last.f2,.int .i64 last.f3]] W' fun ex w'=>ex= .returned (.bool false)∧(∃ov',PBS w0 g wv r.reverse ov' (o++[((⟨rest,0,p0,p1⟩:PS).num last).2]) dp (((⟨rest,0,p0,p1⟩:PS).num last).1) w')∧Fr W' w'):=by
  intro W' hb;have hh:=nameN_t (s:=⟨t0::rest,0,p0,p1⟩) (⟨A,c,HP.out.step hb⟩:PBS w0 g wv r.reverse ov o dp ⟨t0::rest,0,p0,p1⟩ W') hG2.out hz.out (by simp[PS.has,tkOK,k0.1]) k0.2 last hl9.out hsz.out.1 (by rw[List.length_reverse];exact hsz.out.2) hdp.out
  exact Lib.hid hh
 obtain⟨c0,c1,c2,c3,c4,c5,c6⟩:=HP.out.cells;obtain⟨tb,off,hA,q0,q1,q2,q3⟩:=HP.out.head;subst hA;have hk:=k0.1;rw[hk]at q0;have hl:¬((t0::rest).length:Int)=0:=by simp only[List.length_cons];omega
 have hl2:(0:Int)<((t0::rest).length:Int):=by simp only[List.length_cons];omega
 have hl3:(1:Int)≤((t0::rest).length:Int):=by omega
 have hlc:(t0::rest).length-1=(rest).length:=rfl;have hcI:((t0::rest).length:Int)≤(c:Int):=by have:=HP.out.hc;omega
 generalize hn0:(t0::rest).length=n at*;clear k0;go_wp2_with fail;refine HPK.out.mono ?_;rintro ex wb ⟨rfl,rfl⟩;go_wp2_with fail;refine HS.out.mono ?_;rintro ex wc ⟨rfl,hb⟩;have HB2:=Aside0.mk (Fr.below hb _ _ HB.out);have HP2:=Aside0.mk (HP.out.step hb);have HBL:=Aside0.mk hb;clear HP HB HPK HS c0 c1 c2 c3 c4 c5 c6 q0 q1 q2 q3 hb;obtain⟨c0,c1,c2,c3,c4,c5,c6⟩:=HP2.out.cells;obtain⟨tb',off',hA,q0,q1,q2,q3⟩:=HP2.out.head;injection hA with hA;injection hA with e1 e2;subst e1 e2;rw[hn0]at c0;rw[hk]at q0;have l0:wc.cell? ⟨bl,0,none⟩=some (.int .i64 last.f0):=by rw[Lib.cell_of_heap HB2.out];rfl
 have l1:wc.cell? ⟨bl,1,none⟩=some (.string last.f1):=by rw[Lib.cell_of_heap HB2.out];rfl
 have l2:wc.cell? ⟨bl,2,none⟩=some (.int .i64 last.f2):=by rw[Lib.cell_of_heap HB2.out];rfl
 have l3:wc.cell? ⟨bl,3,none⟩=some (.int .i64 last.f3):=by rw[Lib.cell_of_heap HB2.out];rfl
 clear hk;go_wp2_with fail;refine(HKN _).out.mono ?_;rintro ex wd ⟨rfl,nd,rfl⟩;have HNM2:=HNM _ (pw_below_drewN HBL.out nd);go_wp2_with fail;refine HNM2.out.mono ?_;rintro ex we ⟨rfl,hq,hf⟩;go_wp2_with fail;obtain⟨ov',hq⟩:=hq;refine at_label (by assumption) ?_
 have hh:=HR1.out;subst hh;exact hn.out _ _ ⟨rfl,rfl,rfl,rfl⟩ ⟨⟨_,_,hq⟩⟩ ⟨hf _ _ HB2.out⟩
end Go.Proofs.YtjopepfemhckjaaGreatDoor.NW
end
