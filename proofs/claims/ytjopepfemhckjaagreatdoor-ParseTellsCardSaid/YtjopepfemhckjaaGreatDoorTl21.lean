/-
  Part 21 of the proof of parseTells_holds: texts of this seat, put together.
-/
import Derived.Test.YtjopepfemhckjaaGreatDoorTl20
set_option linter.unusedVariables false
set_option linter.unusedSimpArgs false
set_option maxHeartbeats 16000000
set_option maxRecDepth 100000
section
namespace Go.Proofs.YtjopepfemhckjaaGreatDoor.NW
open Go.Proofs Go.RowKit Go.Shelf Go.Proofs.YtjopepfemhckjaaGreatDoor.PN Go.Proofs.YtjopepfemhckjaaGreatDoorW.PrintWords Go.Proofs.YtjopepfemhckjaaGreatDoor.PParseTells
theorem cOPar {t:Code}(hr:findLabel bodyC 0=some (.seq .skip t)){tlb:Code}(hr1:findLabel bodyC 1=some (.seq .skip tlb)){J:Nat→Act→World→Prop}{R:Ending→World→Prop}(w0:World)(g bl:Nat)(last:S75)(f:Nat→Value)(A:Option Addr)(c:Nat)(tk:S75)(rest:List S75)(wv:Value)(r:List S82)(ov:Value)(o:List Nd)(dp e p0 p1:Int)(W:World)
 (HP:zc (PB w0 g A c (tk::rest) wv r.reverse ov o dp e p0 p1 W))(HB:zc (W.heap[bl]? =some (.cells #[.int .i64 last.f0,.string last.f1,.int .i64 last.f2,.int .i64 last.f3] 75)))(he:e=0)(hk:tk.f0=2)(ht:tk.f1=⟨#[40]⟩)(hsz:zc (o.length≤100000∧r.length≤100000))(hdp:zc (dp<200∧ -100000≤dp))
 (hn:zc (∀(a':Act) (W':World),zJ g bl a'→zc (∃A' c' wv' ov',PB w0 g A' c' (rest) wv' (⟨-1,0,0⟩::r).reverse ov' (o) (dp+1) 0 p0 p1 W')→zc (W'.heap[bl]? =some (.cells #[.int .i64 last.f0,.string last.f1,.int .i64 last.f2,.int .i64 last.f3] 75))→J 0 a' W')):
 t.wp Tryz.prog (zn J (bodyPost Tryz.prog Tryz.f19 R)) (frm g bl f) W:=by
 unfold frm;injection(hr.symm.trans (rfl:findLabel bodyC 0=some (.seq .skip _)))with hr';injection hr' with _ hr';subst hr';clear hr;injection(hr1.symm.trans (rfl:findLabel bodyC 1=some (.seq .skip _)))with hr1';injection hr1' with _ hr1';have HR1:=zc.mk hr1';clear hr1 hr1';subst he;have HPK:=zB w0 g A c (tk::rest) wv r.reverse ov o dp 0 p0 p1 W HP.out;have hpk:hdT (tk::rest)=tk.f1:=rfl;rw[hpk]at HPK;have HPK:=Lib.hid HPK;have HS:=Lib.hid (zN w0 g A c (tk::rest) wv r.reverse ov o dp 0 p0 p1 W HP.out ⟨#[45]⟩ (by simp[tkOK,hk,ht]))
 rw[ht]at HPK;have hwt:r.reverse.length≤100000:=by rw[List.length_reverse];exact hsz.out.2
 have HPU:∀W',Below W.heap.size W W'→RowKit.Hid (Calls Tryz.prog 43 #[.pointer (some ⟨g,0,none⟩),.agg #[.int .i64 (-1),.int .i64 0,.int .i64 0],.agg #[.int .i64 last.f0,.string last.f1,.int .i64 last.f2,.int .i64 last.f3]] W' fun ex w'=>ex= .returned (.tuple #[])∧(∃wv',PB w0 g (nxA c A) (c-1) rest wv' (⟨-1,0,0⟩::r).reverse ov o (dp+1) 0 p0 p1 w')∧Fr W' w'):=by
  intro W' hb;have e5:r.reverse++[(⟨-1,0,0⟩:S82)]=(⟨-1,0,0⟩::r).reverse:=by rw[List.reverse_cons]
  rw[←e5];exact Lib.hid (pushYes_at w0 g A c tk rest wv r.reverse ov o dp 0 p0 p1 W' (HP.out.step hb) rfl hk ht ⟨-1,0,0⟩ last hwt hdp.out.1 hdp.out.2)
 clear hwt;obtain⟨c0,c1,c2,c3,c4,c5,c6⟩:=HP.out.cells;obtain⟨tb,off,hA,q0,q1,q2,q3⟩:=HP.out.head;subst hA;rw[hk]at q0;have hl:¬((tk::rest).length:Int)=0:=by simp only[List.length_cons];omega
 have hl2:(0:Int)<((tk::rest).length:Int):=by simp only[List.length_cons];omega
 have hl3:(1:Int)≤((tk::rest).length:Int):=by omega
 have hlc:(tk::rest).length-1=rest.length:=rfl;have hcI:((tk::rest).length:Int)≤(c:Int):=by have:=HP.out.hc;omega
 generalize hn0:(tk::rest).length=n at*;clear hk ht;go_wp2_with fail;refine HPK.out.mono ?_;rintro ex wb ⟨rfl,rfl⟩;go_wp2_with fail;refine HS.out.mono ?_;rintro ex wc ⟨rfl,hb⟩;have HB2:=zc.mk (Fr.below hb _ _ HB.out);have HPU2:=HPU wc hb;have l0:wc.cell? ⟨bl,0,none⟩=some (.int .i64 last.f0):=by rw[j6 HB2.out];rfl
 have l1:wc.cell? ⟨bl,1,none⟩=some (.string last.f1):=by rw[j6 HB2.out];rfl
 have l2:wc.cell? ⟨bl,2,none⟩=some (.int .i64 last.f2):=by rw[j6 HB2.out];rfl
 have l3:wc.cell? ⟨bl,3,none⟩=some (.int .i64 last.f3):=by rw[j6 HB2.out];rfl
 clear HPU HP HB HPK HS c0 c1 c2 c3 c4 c5 c6 q0 q1 q2 q3 hb;go_wp2_with fail;refine HPU2.out.mono ?_;rintro ex wd ⟨rfl,⟨wv',hq⟩,hf⟩;go_wp2_with fail;go_step3
 show J 0 _ _
 exact hn.out _ _ ⟨rfl,rfl,rfl,rfl⟩ ⟨⟨_,_,_,_,hq⟩⟩ ⟨hf _ _ HB2.out⟩
theorem cODeep {t:Code}(hr:findLabel bodyC 0=some (.seq .skip t)){tlb:Code}(hr1:findLabel bodyC 1=some (.seq .skip tlb)){J:Nat→Act→World→Prop}{R:Ending→World→Prop}(w0:World)(g bl:Nat)(last:S75)(f:Nat→Value)(A:Option Addr)(c:Nat)(tk:S75)(rest:List S75)(wv:Value)(r:List S82)(ov:Value)(o:List Nd)(dp e p0 p1:Int)(W:World)
 (HP:zc (PB w0 g A c (tk::rest) wv r.reverse ov o dp e p0 p1 W))(HB:zc (W.heap[bl]? =some (.cells #[.int .i64 last.f0,.string last.f1,.int .i64 last.f2,.int .i64 last.f3] 75)))(he:e=0)(hk:tk.f0=2)(ht:tk.f1=⟨#[40]⟩)(hsz:zc (o.length≤100000∧r.length≤100000))(hdp:zc (200≤dp∧dp≤100000))(hlast:zc (0≤last.f3∧last.f3+last.f1.size≤1000000))
 (hn:zc (∀(a':Act) (W':World),zJ g bl a'→zc (∃A' c' wv' ov',PB w0 g A' c' ((tk::rest)) wv' (⟨-1,0,0⟩::r).reverse ov' (o) (dp+1) 111 tk.f2 tk.f3 W')→zc (W'.heap[bl]? =some (.cells #[.int .i64 last.f0,.string last.f1,.int .i64 last.f2,.int .i64 last.f3] 75))→J 0 a' W')):
 t.wp Tryz.prog (zn J (bodyPost Tryz.prog Tryz.f19 R)) (frm g bl f) W:=by
 unfold frm;injection(hr.symm.trans (rfl:findLabel bodyC 0=some (.seq .skip _)))with hr';injection hr' with _ hr';subst hr';clear hr;injection(hr1.symm.trans (rfl:findLabel bodyC 1=some (.seq .skip _)))with hr1';injection hr1' with _ hr1';have HR1:=zc.mk hr1';clear hr1 hr1';subst he;have HPK:=zB w0 g A c (tk::rest) wv r.reverse ov o dp 0 p0 p1 W HP.out;have hpk:hdT (tk::rest)=tk.f1:=rfl;rw[hpk]at HPK;have HPK:=Lib.hid HPK;have HS:=Lib.hid (zN w0 g A c (tk::rest) wv r.reverse ov o dp 0 p0 p1 W HP.out ⟨#[45]⟩ (by simp[tkOK,hk,ht]))
 rw[ht]at HPK;have hwt:r.reverse.length≤100000:=by rw[List.length_reverse];exact hsz.out.2
 have HPU:∀W',Below W.heap.size W W'→RowKit.Hid (Calls Tryz.prog 43 #[.pointer (some ⟨g,0,none⟩),.agg #[.int .i64 (-1),.int .i64 0,.int .i64 0],.agg #[.int .i64 last.f0,.string last.f1,.int .i64 last.f2,.int .i64 last.f3]] W' fun ex w'=>ex= .returned (.tuple #[])∧(∃wv',PB w0 g A c (tk::rest) wv' (⟨-1,0,0⟩::r).reverse ov o (dp+1) 111 tk.f2 tk.f3 w')∧Fr W' w'):=by
  intro W' hb;have e5:r.reverse++[(⟨-1,0,0⟩:S82)]=(⟨-1,0,0⟩::r).reverse:=by rw[List.reverse_cons]
  rw[←e5];exact Lib.hid (pushDeep_at w0 g A c tk rest wv r.reverse ov o dp 0 p0 p1 W' (HP.out.step hb) rfl hk ht ⟨-1,0,0⟩ last hwt hdp.out.1 hdp.out.2 hlast.out)
 clear hwt;obtain⟨c0,c1,c2,c3,c4,c5,c6⟩:=HP.out.cells;obtain⟨tb,off,hA,q0,q1,q2,q3⟩:=HP.out.head;subst hA;rw[hk]at q0;have hl:¬((tk::rest).length:Int)=0:=by simp only[List.length_cons];omega
 have hl2:(0:Int)<((tk::rest).length:Int):=by simp only[List.length_cons];omega
 have hl3:(1:Int)≤((tk::rest).length:Int):=by omega
 have hlc:(tk::rest).length-1=rest.length:=rfl;have hcI:((tk::rest).length:Int)≤(c:Int):=by have:=HP.out.hc;omega
 generalize hn0:(tk::rest).length=n at*;clear hk ht;go_wp2_with fail;refine HPK.out.mono ?_;rintro ex wb ⟨rfl,rfl⟩;go_wp2_with fail;refine HS.out.mono ?_;rintro ex wc ⟨rfl,hb⟩;have HB2:=zc.mk (Fr.below hb _ _ HB.out);have HPU2:=HPU wc hb;have l0:wc.cell? ⟨bl,0,none⟩=some (.int .i64 last.f0):=by rw[j6 HB2.out];rfl
 have l1:wc.cell? ⟨bl,1,none⟩=some (.string last.f1):=by rw[j6 HB2.out];rfl
 have l2:wc.cell? ⟨bl,2,none⟩=some (.int .i64 last.f2):=by rw[j6 HB2.out];rfl
 have l3:wc.cell? ⟨bl,3,none⟩=some (.int .i64 last.f3):=by rw[j6 HB2.out];rfl
 clear HPU HP HB HPK HS c0 c1 c2 c3 c4 c5 c6 q0 q1 q2 q3 hb;go_wp2_with fail;refine HPU2.out.mono ?_;rintro ex wd ⟨rfl,⟨wv',hq⟩,hf⟩;go_wp2_with fail;go_step3
 show J 0 _ _
 exact hn.out _ _ ⟨rfl,rfl,rfl,rfl⟩ ⟨⟨_,_,_,_,hq⟩⟩ ⟨hf _ _ HB2.out⟩
theorem cOBadSign {t:Code}(hr:findLabel bodyC 0=some (.seq .skip t)){tlb:Code}(hr1:findLabel bodyC 1=some (.seq .skip tlb)){J:Nat→Act→World→Prop}{R:Ending→World→Prop}(w0:World)(g bl:Nat)(last:S75)(f:Nat→Value)(A:Option Addr)(c:Nat)(tk:S75)(rest:List S75)(wv:Value)(r:List S82)(ov:Value)(o:List Nd)(dp e p0 p1:Int)(W:World)
 (HP:zc (PB w0 g A c (tk::rest) wv r.reverse ov o dp e p0 p1 W))(HB:zc (W.heap[bl]? =some (.cells #[.int .i64 last.f0,.string last.f1,.int .i64 last.f2,.int .i64 last.f3] 75)))(he:e=0)(hk:tk.f0=2)(ht:tk.f1.toList≠[45])(ht2:tk.f1.toList≠[40])(hlast:zc (0≤last.f3∧last.f3+last.f1.size≤1000000))
 (hn:zc (∀(a':Act) (W':World),zJ g bl a'→zc (∃A' c' wv' ov',PB w0 g A' c' ((tk::rest)) wv' (r).reverse ov' (o) (dp) 110 tk.f2 tk.f3 W')→zc (W'.heap[bl]? =some (.cells #[.int .i64 last.f0,.string last.f1,.int .i64 last.f2,.int .i64 last.f3] 75))→tlb.wp Tryz.prog (zn J (bodyPost Tryz.prog Tryz.f19 R)) a' W')):
 t.wp Tryz.prog (zn J (bodyPost Tryz.prog Tryz.f19 R)) (frm g bl f) W:=by
 unfold frm;injection(hr.symm.trans (rfl:findLabel bodyC 0=some (.seq .skip _)))with hr';injection hr' with _ hr';subst hr';clear hr;injection(hr1.symm.trans (rfl:findLabel bodyC 1=some (.seq .skip _)))with hr1';injection hr1' with _ hr1';have HR1:=zc.mk hr1';clear hr1 hr1';subst he;have HPK:=zB w0 g A c (tk::rest) wv r.reverse ov o dp 0 p0 p1 W HP.out;have hpk:hdT (tk::rest)=tk.f1:=rfl;rw[hpk]at HPK;have HPK:=Lib.hid HPK;have HS:=Lib.hid (zN w0 g A c (tk::rest) wv r.reverse ov o dp 0 p0 p1 W HP.out ⟨#[45]⟩ (by
  have e:(⟨#[45]⟩:xf).toList=[45]:=by rw[ByteArray.toList_eq]
  simp[tkOK,hk,e,ht]))
 have hb40:(tk.f1.toList==([40]:List UInt8))=false:=by simpa using ht2
 have HFL:∀W',Below W.heap.size W W'→RowKit.Hid (Calls Tryz.prog 39 #[.pointer (some ⟨g,0,none⟩),.int .i64 110,.agg #[.int .i64 last.f0,.string last.f1,.int .i64 last.f2,.int .i64 last.f3]] W' fun ex w'=>ex= .returned (.tuple #[])∧PB w0 g A c (tk::rest) wv r.reverse ov o dp 110 tk.f2 tk.f3 w'∧W'.grownBy w' (some g)):=fun W' hb=>
  Lib.hid (zL w0 g A c (tk::rest) wv r.reverse ov o dp 0 p0 p1 W' (HP.out.step hb) rfl 110 last hlast.out)
 obtain⟨c0,c1,c2,c3,c4,c5,c6⟩:=HP.out.cells;obtain⟨tb,off,hA,q0,q1,q2,q3⟩:=HP.out.head;subst hA;rw[hk]at q0;have hl:¬((tk::rest).length:Int)=0:=by simp only[List.length_cons];omega
 have hl2:(0:Int)<((tk::rest).length:Int):=by simp only[List.length_cons];omega
 have hl3:(1:Int)≤((tk::rest).length:Int):=by omega
 have hlc:(tk::rest).length-1=rest.length:=rfl;have hcI:((tk::rest).length:Int)≤(c:Int):=by have:=HP.out.hc;omega
 generalize hn0:(tk::rest).length=n at*;clear ht ht2;go_wp2_with fail;refine HPK.out.mono ?_;rintro ex wb ⟨rfl,rfl⟩;go_wp2_with fail;refine HS.out.mono ?_;rintro ex wc ⟨rfl,hb⟩;have HB2:=zc.mk (Fr.below hb _ _ HB.out);have HP2:=zc.mk (HP.out.step hb);have HFL2:=HFL wc hb;have HBL:=zc.mk hb;clear HB HPK HS c0 c1 c2 c3 c4 c5 c6 q0 q1 q2 q3 hb;obtain⟨c0,c1,c2,c3,c4,c5,c6⟩:=HP2.out.cells;obtain⟨tb',off',hA,q0,q1,q2,q3⟩:=HP2.out.head;injection hA with hA;injection hA with e1 e2;subst e1 e2;rw[hn0]at c0;rw[hk]at q0;have l0:wc.cell? ⟨bl,0,none⟩=some (.int .i64 last.f0):=by rw[j6 HB2.out];rfl
 have l1:wc.cell? ⟨bl,1,none⟩=some (.string last.f1):=by rw[j6 HB2.out];rfl
 have l2:wc.cell? ⟨bl,2,none⟩=some (.int .i64 last.f2):=by rw[j6 HB2.out];rfl
 have l3:wc.cell? ⟨bl,3,none⟩=some (.int .i64 last.f3):=by rw[j6 HB2.out];rfl
 clear hk;go_wp2_with fail;refine HFL2.out.mono ?_;rintro ex wd ⟨rfl,hq,hg⟩;go_wp2_with fail;refine qy (by assumption) ?_
 have hh:=HR1.out;subst hh;exact hn.out _ _ ⟨rfl,rfl,rfl,rfl⟩ ⟨⟨_,_,_,_,hq⟩⟩ ⟨(HP2.out.fr hg) _ _ HB2.out⟩
theorem cOBadName {t:Code}(hr:findLabel bodyC 0=some (.seq .skip t)){tlb:Code}(hr1:findLabel bodyC 1=some (.seq .skip tlb)){J:Nat→Act→World→Prop}{R:Ending→World→Prop}(w0:World)(g bl:Nat)(last:S75)(f:Nat→Value)(A:Option Addr)(c:Nat)(tk:S75)(rest:List S75)(wv:Value)(r:List S82)(ov:Value)(o:List Nd)(dp e p0 p1:Int)(W:World)
 (HP:zc (PB w0 g A c (tk::rest) wv r.reverse ov o dp e p0 p1 W))(HB:zc (W.heap[bl]? =some (.cells #[.int .i64 last.f0,.string last.f1,.int .i64 last.f2,.int .i64 last.f3] 75)))(he:e=0)(hk:tk.f0=0)(hb:parse_known.f tk.f1=some false)(ht2:tk.f1.toList≠[40])(hlast:zc (0≤last.f3∧last.f3+last.f1.size≤1000000))
 (hn:zc (∀(a':Act) (W':World),zJ g bl a'→zc (∃A' c' wv' ov',PB w0 g A' c' ((tk::rest)) wv' (r).reverse ov' (o) (dp) 110 tk.f2 tk.f3 W')→zc (W'.heap[bl]? =some (.cells #[.int .i64 last.f0,.string last.f1,.int .i64 last.f2,.int .i64 last.f3] 75))→tlb.wp Tryz.prog (zn J (bodyPost Tryz.prog Tryz.f19 R)) a' W')):
 t.wp Tryz.prog (zn J (bodyPost Tryz.prog Tryz.f19 R)) (frm g bl f) W:=by
 unfold frm;injection(hr.symm.trans (rfl:findLabel bodyC 0=some (.seq .skip _)))with hr';injection hr' with _ hr';subst hr';clear hr;injection(hr1.symm.trans (rfl:findLabel bodyC 1=some (.seq .skip _)))with hr1';injection hr1' with _ hr1';have HR1:=zc.mk hr1';clear hr1 hr1';subst he;have HPK:=zB w0 g A c (tk::rest) wv r.reverse ov o dp 0 p0 p1 W HP.out;have hpk:hdT (tk::rest)=tk.f1:=rfl;rw[hpk]at HPK;have HPK:=Lib.hid HPK;have HS:=Lib.hid (zN w0 g A c (tk::rest) wv r.reverse ov o dp 0 p0 p1 W HP.out ⟨#[45]⟩ (by simp[tkOK,hk]))
 have hb40:(tk.f1.toList==([40]:List UInt8))=false:=by simpa using ht2
 have HKN:∀W,RowKit.Hid (Calls Tryz.prog 44 #[.string tk.f1] W fun ex w'=>ex= .returned (.bool false)∧zj W w'):=fun W=>Lib.hid (parse_known.calls tk.f1 false W hb)
 have HFL:∀W',Below W.heap.size W W'→RowKit.Hid (Calls Tryz.prog 39 #[.pointer (some ⟨g,0,none⟩),.int .i64 110,.agg #[.int .i64 last.f0,.string last.f1,.int .i64 last.f2,.int .i64 last.f3]] W' fun ex w'=>ex= .returned (.tuple #[])∧PB w0 g A c (tk::rest) wv r.reverse ov o dp 110 tk.f2 tk.f3 w'∧W'.grownBy w' (some g)):=fun W' hb=>
  Lib.hid (zL w0 g A c (tk::rest) wv r.reverse ov o dp 0 p0 p1 W' (HP.out.step hb) rfl 110 last hlast.out)
 obtain⟨c0,c1,c2,c3,c4,c5,c6⟩:=HP.out.cells;obtain⟨tb,off,hA,q0,q1,q2,q3⟩:=HP.out.head;subst hA;rw[hk]at q0;have hl:¬((tk::rest).length:Int)=0:=by simp only[List.length_cons];omega
 have hl2:(0:Int)<((tk::rest).length:Int):=by simp only[List.length_cons];omega
 have hl3:(1:Int)≤((tk::rest).length:Int):=by omega
 have hlc:(tk::rest).length-1=rest.length:=rfl;have hcI:((tk::rest).length:Int)≤(c:Int):=by have:=HP.out.hc;omega
 generalize hn0:(tk::rest).length=n at*;clear ht2 hb;go_wp2_with fail;refine HPK.out.mono ?_;rintro ex wb ⟨rfl,rfl⟩;go_wp2_with fail;refine HS.out.mono ?_;rintro ex wc ⟨rfl,hb⟩;have HB2:=zc.mk (Fr.below hb _ _ HB.out);have HP2:=zc.mk (HP.out.step hb);have HFL2:=HFL wc hb;have HBL:=zc.mk hb;clear HB HPK HS c0 c1 c2 c3 c4 c5 c6 q0 q1 q2 q3 hb;obtain⟨c0,c1,c2,c3,c4,c5,c6⟩:=HP2.out.cells;obtain⟨tb',off',hA,q0,q1,q2,q3⟩:=HP2.out.head;injection hA with hA;injection hA with e1 e2;subst e1 e2;rw[hn0]at c0;rw[hk]at q0;have l0:wc.cell? ⟨bl,0,none⟩=some (.int .i64 last.f0):=by rw[j6 HB2.out];rfl
 have l1:wc.cell? ⟨bl,1,none⟩=some (.string last.f1):=by rw[j6 HB2.out];rfl
 have l2:wc.cell? ⟨bl,2,none⟩=some (.int .i64 last.f2):=by rw[j6 HB2.out];rfl
 have l3:wc.cell? ⟨bl,3,none⟩=some (.int .i64 last.f3):=by rw[j6 HB2.out];rfl
 clear hk;go_wp2_with fail;refine(HKN _).out.mono ?_;rintro ex wd ⟨rfl,nd,rfl⟩;have HFL3:=HFL _ (ze HBL.out nd);have HPd:=zc.mk (HP2.out.step (ze (xb _ _) nd));go_wp2_with fail;refine HFL3.out.mono ?_;rintro ex wd ⟨rfl,hq,hg⟩;go_wp2_with fail;refine qy (by assumption) ?_
 have hh:=HR1.out;subst hh;exact hn.out _ _ ⟨rfl,rfl,rfl,rfl⟩ ⟨⟨_,_,_,_,hq⟩⟩ ⟨(HPd.out.fr hg) _ _ HB2.out⟩
theorem cPEnd {t:Code}(hr:findLabel bodyC 1=some (.seq .skip t)){J:Nat→Act→World→Prop}{R:Ending→World→Prop}(w0:World)(g bl:Nat)(last:S75)(f:Nat→Value)(A:Option Addr)(c:Nat)(wv:Value)(r:List S82)(ov:Value)(o:List Nd)(dp e p0 p1:Int)(W:World)
 (HP:zc (PB w0 g A c [] wv r.reverse ov o dp e p0 p1 W))(HB:zc (W.heap[bl]? =some (.cells #[.int .i64 last.f0,.string last.f1,.int .i64 last.f2,.int .i64 last.f3] 75)))(he:e=0)(o':List Nd)(hp:popR 1 r o=([],o'))(hw:zc (∀x∈r,1≤x.f1→0≤x.f0))(hlen:zc (r.length+o.length≤100000))
 (hq:zc (∀(a':Act) (W':World),a'.defers=[]→zc (∃A' c' toks' wv' wait' ov',PB w0 g A' c' toks' wv' wait' ov' (o') dp 0 p0 p1 W')→bodyPost Tryz.prog Tryz.f19 R .ret a' W')):
 t.wp Tryz.prog (zn J (bodyPost Tryz.prog Tryz.f19 R)) (frm g bl f) W:=by
 unfold frm;injection(hr.symm.trans (rfl:findLabel bodyC 1=some (.seq .skip _)))with hr';injection hr' with _ hr';subst hr';clear hr;subst he;have HPO:=pop_at w0 g A c [] wv r ov o dp 0 p0 p1 W HP.out 1 (by omega) (by omega) hw.out hlen.out
 rw[hp]at HPO;have HPO:=Lib.hid HPO;obtain⟨c0,c1,c2,c3,c4,c5,c6⟩:=HP.out.cells;clear hp hw hlen;go_wp2_with fail;refine HPO.out.mono ?_;rintro ex wb ⟨rfl,⟨wv',ov',hq2⟩,hf⟩;have HP2:=zc.mk hq2;have HB2:=zc.mk (hf _ _ HB.out);clear HP HB HPO c0 c1 c2 c3 c4 c5 c6 hf hq2;obtain⟨B,cap,hB⟩:=Kd.R_slice HP2.out.wt;subst hB;obtain⟨c0,c1,c2,c3,c4,c5,c6⟩:=HP2.out.cells;have hl0:(([]:List S82).reverse).length=0:=rfl;rw[hl0]at c1;go_wp2_with fail;exact hq.out _ _ rfl ⟨⟨_,_,_,_,_,_,HP2.out⟩⟩
theorem cPEndW {t:Code}(hr:findLabel bodyC 1=some (.seq .skip t)){J:Nat→Act→World→Prop}{R:Ending→World→Prop}(w0:World)(g bl:Nat)(last:S75)(f:Nat→Value)(A:Option Addr)(c:Nat)(wv:Value)(r:List S82)(ov:Value)(o:List Nd)(dp e p0 p1:Int)(W:World)
 (HP:zc (PB w0 g A c [] wv r.reverse ov o dp e p0 p1 W))(HB:zc (W.heap[bl]? =some (.cells #[.int .i64 last.f0,.string last.f1,.int .i64 last.f2,.int .i64 last.f3] 75)))(he:e=0)(x:S82)(r':List S82)(o':List Nd)(hp:popR 1 r o=(x::r',o'))(hw:zc (∀x∈r,1≤x.f1→0≤x.f0))(hlen:zc (r.length+o.length≤100000))(hlast:zc (0≤last.f3∧last.f3+last.f1.size≤1000000))
 (hq:zc (∀(a':Act) (W':World),a'.defers=[]→zc (∃A' c' toks' wv' wait' ov',PB w0 g A' c' toks' wv' wait' ov' (o') dp 110 (zC [] last).1 (zC [] last).2 W')→bodyPost Tryz.prog Tryz.f19 R .ret a' W')):
 t.wp Tryz.prog (zn J (bodyPost Tryz.prog Tryz.f19 R)) (frm g bl f) W:=by
 unfold frm;injection(hr.symm.trans (rfl:findLabel bodyC 1=some (.seq .skip _)))with hr';injection hr' with _ hr';subst hr';clear hr;subst he;have HPO:=pop_at w0 g A c [] wv r ov o dp 0 p0 p1 W HP.out 1 (by omega) (by omega) hw.out hlen.out
 rw[hp]at HPO;have HPO:=Lib.hid HPO;obtain⟨c0,c1,c2,c3,c4,c5,c6⟩:=HP.out.cells;clear hp hw hlen;go_wp2_with fail;refine HPO.out.mono ?_;rintro ex wb ⟨rfl,⟨wv',ov',hq2⟩,hf⟩;have HP2:=zc.mk hq2;have HB2:=zc.mk (hf _ _ HB.out);clear HP HB HPO c0 c1 c2 c3 c4 c5 c6 hf hq2;obtain⟨B,cap,hB⟩:=Kd.R_slice HP2.out.wt;subst hB;obtain⟨c0,c1,c2,c3,c4,c5,c6⟩:=HP2.out.cells;have hl0:(0:Int)<((x::r').reverse.length:Int):=by simp
 generalize (x::r').reverse.length=n1 at*;have HF:=zL w0 g A c [] _ _ ov' o' dp 0 p0 p1 wb HP2.out rfl 110 last hlast.out;unfold tkV at HF;have HF:=Lib.hid HF;have l0:wb.cell? ⟨bl,0,none⟩=some (.int .i64 last.f0):=by rw[j6 HB2.out];rfl
 have l1:wb.cell? ⟨bl,1,none⟩=some (.string last.f1):=by rw[j6 HB2.out];rfl
 have l2:wb.cell? ⟨bl,2,none⟩=some (.int .i64 last.f2):=by rw[j6 HB2.out];rfl
 have l3:wb.cell? ⟨bl,3,none⟩=some (.int .i64 last.f3):=by rw[j6 HB2.out];rfl
 go_wp2_with fail;refine HF.out.mono ?_;rintro ex wc ⟨rfl,hq2,hg⟩;go_wp2_with fail;exact hq.out _ _ rfl ⟨⟨_,_,_,_,_,_,hq2⟩⟩
theorem cPOp {t:Code}(hr:findLabel bodyC 1=some (.seq .skip t)){J:Nat→Act→World→Prop}{R:Ending→World→Prop}(w0:World)(g bl:Nat)(last:S75)(f:Nat→Value)(A:Option Addr)(c:Nat)(tk:S75)(rest:List S75)(wv:Value)(r:List S82)(ov:Value)(o:List Nd)(dp e p0 p1:Int)(W:World)
 (HP:zc (PB w0 g A c (tk::rest) wv r.reverse ov o dp e p0 p1 W))(HB:zc (W.heap[bl]? =some (.cells #[.int .i64 last.f0,.string last.f1,.int .i64 last.f2,.int .i64 last.f3] 75)))(he:e=0)(op rank:Int)(hop:parse_operator.f tk.f0 tk.f1 tk.f2 tk.f3=some (op,rank))(hr1:1≤rank)(hr2:rank≤10)(r':List S82)(o':List Nd)(hp:popR rank r o=(r',o'))(hs':zc (r'.length≤100000))(hw:zc (∀x∈r,1≤x.f1→0≤x.f0))(hlen:zc (r.length+o.length≤100000))
 (hn:zc (∀(a':Act) (W':World),zJ g bl a'→zc (∃A' c' wv' ov',PB w0 g A' c' (rest) wv' (⟨op,rank,0⟩::r').reverse ov' (o') (dp) 0 p0 p1 W')→zc (W'.heap[bl]? =some (.cells #[.int .i64 last.f0,.string last.f1,.int .i64 last.f2,.int .i64 last.f3] 75))→J 0 a' W')):
 t.wp Tryz.prog (zn J (bodyPost Tryz.prog Tryz.f19 R)) (frm g bl f) W:=by
 unfold frm;injection(hr.symm.trans (rfl:findLabel bodyC 1=some (.seq .skip _)))with hr';injection hr' with _ hr';subst hr';clear hr;subst he;have HPO:∀W',Below W.heap.size W W'→RowKit.Hid (Calls Tryz.prog 46 #[.pointer (some ⟨g,0,none⟩),.int .i64 rank] W' fun ex w'=>ex= .returned (.tuple #[])∧(∃wv' ov',PB w0 g A c (tk::rest) wv' r'.reverse ov' o' dp 0 p0 p1 w')∧Fr W' w'):=by
  intro W' hb;have HPO:=pop_at w0 g A c (tk::rest) wv r ov o dp 0 p0 p1 W' (HP.out.step hb) rank hr1 hr2 hw.out hlen.out;rw[hp]at HPO;exact Lib.hid HPO
 have HOP:∀W,RowKit.Hid (Calls Tryz.prog 47 #[.agg #[.int .i64 tk.f0,.string tk.f1,.int .i64 tk.f2,.int .i64 tk.f3]] W fun ex w'=>ex= .returned (.tuple #[.int .i64 op,.int .i64 rank])∧Below W.heap.size W w'):=fun W=>Lib.hid (parse_operator.calls tk.f0 tk.f1 tk.f2 tk.f3 op rank W hop)
 have hr0:(0:Int)<rank:=by omega
 obtain⟨c0,c1,c2,c3,c4,c5,c6⟩:=HP.out.cells;obtain⟨tb,off,hA,q0,q1,q2,q3⟩:=HP.out.head;subst hA;have hl:¬((tk::rest).length:Int)=0:=by simp only[List.length_cons];omega
 have hl2:(0:Int)<((tk::rest).length:Int):=by simp only[List.length_cons];omega
 have hl3:(1:Int)≤((tk::rest).length:Int):=by omega
 have hlc:(tk::rest).length-1=rest.length:=rfl;have hcI:((tk::rest).length:Int)≤(c:Int):=by have:=HP.out.hc;omega
 generalize hn0:(tk::rest).length=n at*;clear hop hp hw hlen hr1 hr2;go_wp2_with fail;refine(HOP _).out.mono ?_;rintro ex wb ⟨rfl,hb⟩;have HPO2:=HPO _ hb;have HB1:=zc.mk (Fr.below hb _ _ HB.out);clear HOP HPO HB c0 c1 c2 c3 c4 c5 c6 q0 q1 q2 q3 hb;go_wp2_with fail;refine HPO2.out.mono ?_;rintro ex wc ⟨rfl,⟨wv',ov',hq2⟩,hf⟩;have HP3:=zc.mk hq2;have HB3:=zc.mk (hf _ _ HB1.out);clear HP HB1 HPO2 hf hq2 hr0;obtain⟨c0,c1,c2,c3,c4,c5,c6⟩:=HP3.out.cells;have f0:=HP3.out.frozen 0;have f1:=HP3.out.frozen 1;obtain⟨r0,r1,r2,r3,r4,r5,r6⟩:=(HP3.out.step ((xb _ _).drew)).cells;rw[hn0]at c0 r0;have hbytes:(r'.reverse.length+1)*24≤140737488355328:=by rw[List.length_reverse];have:=hs'.out;omega
 have HQD:=zc.mk (HP3.out.step ((xb _ _).drew));have hgl:=HP3.out.lt;go_wp2_with fail;go_region_law ((refine Kd.R_append_step k82 (w0:=w0) (W:=wc.drew) w0.heap.size (by rfl) (.tmp 170) (.tmp 174) 48 82 (.agg #[.int .i64 0,.int .i64 0,.int .i64 0]) 24 (by rfl) Tryz.underlying48 info82 (by rfl) (by decide) (by omega) wv' r'.reverse (⟨op,rank,0⟩:S82) [.int .i64 op,.int .i64 rank,.int .i64 0] (fun k=>k≠g) (fun _=>False) (by rfl) (by rfl) (k82_mkM _ _ _ (⟨op,rank,0⟩:S82)) (fun _ hk=>hk.elim) (fun k hk=>by have:=HQD.out.lt;omega) HQD.out.wt HQD.out.bl HQD.out.bl.size hbytes ?_;intro v1 w1 hv1 hb1 hg1 ho1;have hl1:(r'.reverse++[(⟨op,rank,0⟩:S82)]).length=r'.length+1:=(by simp);obtain⟨Av,cv,hvv⟩:=Kd.R_slice hv1;rw[hl1]at hvv;subst hvv;have hk1:=(hg1.block g HQD.out.lt (fun hh=>HQD.out.wt.1 _ hh.symm rfl)).trans HQD.out.blk;rw[hn0]at hk1;have hz1:w1.frozen? ⟨g,1,none⟩=false:=Lib.frozen_of_heap hk1 1;have hz0:w1.frozen? ⟨g,0,none⟩=false:=Lib.frozen_of_heap hk1 0;have hc1:w1.cell? ⟨g,1,none⟩=some wv':=(by rw[j6 hk1];rfl);have hcc0:=(j6 hk1 (j:=0));have HK1:=zc.mk hk1;clear hk1))
 all_goals(
  have HQ6:=zc.mk (HQD.out.newW hb1 hg1 (wait1:=r'.reverse++[(⟨op,rank,0⟩:S82)]) hv1);have HQ7:zc (PB w0 g (if c=1 then some ⟨tb,off,none⟩else some ⟨tb,off+4,none⟩) (c-1) rest (.slice Av (r'.length+1) cv) (⟨op,rank,0⟩::r').reverse ov' o' dp 0 p0 p1 ((w1.setCell ⟨g,1,none⟩ (.slice Av (r'.length+1) cv)).setCell ⟨g,0,none⟩ (.slice (if c=1 then some ⟨tb,off,none⟩else some ⟨tb,off+4,none⟩) rest.length (c-1)))):=⟨by rw[List.reverse_cons];exact HQ6.out.tail⟩
  have HF7:zc (((w1.setCell ⟨g,1,none⟩ (.slice Av (r'.length+1) cv)).setCell ⟨g,0,none⟩ (.slice (if c=1 then some ⟨tb,off,none⟩else some ⟨tb,off+4,none⟩) rest.length (c-1))).heap[bl]? =some (.cells #[.int .i64 last.f0,.string last.f1,.int .i64 last.f2,.int .i64 last.f3] 75)):=⟨(((Fr.below ((xb wc.heap.size wc).drew)).trans (HQD.out.frW hg1)).trans (Fr.grown (gst (gst (World.grownBy.refl w1 (some g)) 1 (.slice Av (r'.length+1) cv)) 0 _) (fun k hk=>by injection hk with hk;subst hk;exact⟨_,_,HK1.out,by decide⟩))) _ _ HB3.out⟩
  clear HQ6 HK1 hv1 hb1 hg1 ho1;generalize (if c=1 then some (⟨tb,off,none⟩:Addr)else some ⟨tb,off+4,none⟩)=AA at*
  generalize (w1.setCell ⟨g,1,none⟩ (.slice Av (r'.length+1) cv)).setCell ⟨g,0,none⟩ (.slice AA rest.length (c-1))=wz at*;go_wp2_with fail;go_step3
  show J 0 _ _
  exact hn.out _ _ ⟨rfl,rfl,rfl,rfl⟩ ⟨⟨_,_,_,_,HQ7.out⟩⟩ ⟨HF7.out⟩)
theorem cPShutP {t:Code}(hr:findLabel bodyC 1=some (.seq .skip t)){J:Nat→Act→World→Prop}{R:Ending→World→Prop}(w0:World)(g bl:Nat)(last:S75)(f:Nat→Value)(A:Option Addr)(c:Nat)(tk:S75)(rest:List S75)(wv:Value)(r:List S82)(ov:Value)(o:List Nd)(dp e p0 p1:Int)(W:World)
 (HP:zc (PB w0 g A c (tk::rest) wv r.reverse ov o dp e p0 p1 W))(HB:zc (W.heap[bl]? =some (.cells #[.int .i64 last.f0,.string last.f1,.int .i64 last.f2,.int .i64 last.f3] 75)))(he:e=0)(hk:tk.f0=2)(ht:tk.f1=⟨#[41]⟩)(op0 rk0:Int)(hop:parse_operator.f tk.f0 tk.f1 tk.f2 tk.f3=some (op0,rk0))(hrk:rk0≤0)(x:S82)(r':List S82)(o':List Nd)(hp:popR 1 r o=(x::r',o'))(hs':zc (r'.length≤100000))(hso:zc (o'.length≤100000))(hx2:x.f2≤1)(hx0:x.f0<0)(hdp1: -100000≤dp)(hdp2:dp≤100000)(hw:zc (∀x∈r,1≤x.f1→0≤x.f0))(hlen:zc (r.length+o.length≤100000))
 (hn:zc (∀(a':Act) (W':World),zJ g bl a'→zc (∃A' c' wv' ov',PB w0 g A' c' (rest) wv' (r').reverse ov' (o') (dp-1) 0 p0 p1 W')→zc (W'.heap[bl]? =some (.cells #[.int .i64 last.f0,.string last.f1,.int .i64 last.f2,.int .i64 last.f3] 75))→J 1 a' W')):
 t.wp Tryz.prog (zn J (bodyPost Tryz.prog Tryz.f19 R)) (frm g bl f) W:=by
 unfold frm;injection(hr.symm.trans (rfl:findLabel bodyC 1=some (.seq .skip _)))with hr';injection hr' with _ hr';subst hr';clear hr;subst he;have HOP:∀W,RowKit.Hid (Calls Tryz.prog 47 #[.agg #[.int .i64 tk.f0,.string tk.f1,.int .i64 tk.f2,.int .i64 tk.f3]] W fun ex w'=>ex= .returned (.tuple #[.int .i64 op0,.int .i64 rk0])∧Below W.heap.size W w'):=fun W=>Lib.hid (parse_operator.calls tk.f0 tk.f1 tk.f2 tk.f3 op0 rk0 W hop)
 have HPO:∀W',Below W.heap.size W W'→RowKit.Hid (Calls Tryz.prog 46 #[.pointer (some ⟨g,0,none⟩),.int .i64 1] W' fun ex w'=>ex= .returned (.tuple #[])∧(∃wv' ov',PB w0 g A c (tk::rest) wv' (x::r').reverse ov' o' dp 0 p0 p1 w')∧Fr W' w'):=by
  intro W' hb;have HPO:=pop_at w0 g A c (tk::rest) wv r ov o dp 0 p0 p1 W' (HP.out.step hb) 1 (by omega) (by omega) hw.out hlen.out
  rw[hp]at HPO;exact Lib.hid HPO
 have hr0:¬(0:Int)<rk0:=by omega
 obtain⟨c0,c1,c2,c3,c4,c5,c6⟩:=HP.out.cells;obtain⟨tb,off,hA,q0,q1,q2,q3⟩:=HP.out.head;subst hA;have hl:¬((tk::rest).length:Int)=0:=by simp only[List.length_cons];omega
 have hl2:(0:Int)<((tk::rest).length:Int):=by simp only[List.length_cons];omega
 have hl3:(1:Int)≤((tk::rest).length:Int):=by omega
 have hlc:(tk::rest).length-1=rest.length:=rfl;have hcI:((tk::rest).length:Int)≤(c:Int):=by have:=HP.out.hc;omega
 generalize hn0:(tk::rest).length=n at*;have HKT:=zc.mk (And.intro hk ht);clear hop hp hw hlen hk ht;go_wp2_with fail;refine(HOP _).out.mono ?_;rintro ex wb ⟨rfl,hb⟩;have HPO2:=HPO _ hb;have HB1:=zc.mk (Fr.below hb _ _ HB.out);clear HOP HPO HB c0 c1 c2 c3 c4 c5 c6 q0 q1 q2 q3 hb;go_wp2_with fail;refine HPO2.out.mono ?_;rintro ex wc ⟨rfl,⟨wv',ov',hq2⟩,hf⟩;have HP3:=zc.mk hq2;have HB3:=zc.mk (hf _ _ HB1.out);clear HP HB1 HPO2 hf hq2;obtain⟨c0,c1,c2,c3,c4,c5,c6⟩:=HP3.out.cells;have hrv:(x::r').reverse=r'.reverse++[x]:=List.reverse_cons;have HQ0:=HP3.out;rw[hrv]at HQ0;obtain⟨b,cap,hwv,hcap,x0,x1,x2⟩:=HQ0.last;have HTO:=Lib.hid (jv w0 g _ c (tk::rest) wv' r' x ov' o' dp 0 p0 p1 wc HQ0 hs'.out b cap hwv);have HP4:=zc.mk HQ0;have HWV:=zc.mk hwv;have HXB:b<wc.heap.size:=by
  obtain⟨cells,hc⟩:=Kd.R_typed HQ0.wt b (by rw[hwv];rfl)
  exact(xe hc).1
 clear HQ0 HP3 hrv hwv;go_wp2_with fail;refine HTO.out.mono ?_;rintro ex wd ⟨rfl,hb⟩;have HP5:=zc.mk (HP4.out.step hb);have HB5:=zc.mk (Fr.below hb _ _ HB3.out);have y0:=(zg hb ⟨b,r'.length*3,none⟩ HXB).trans x0;have y1:=(zg hb ⟨b,r'.length*3+1,none⟩ HXB).trans x1;have y2:=(zg hb ⟨b,r'.length*3+2,none⟩ HXB).trans x2;have hwv:=HWV.out;clear HWV;subst hwv;have HPK:=zB w0 g _ c (tk::rest) _ _ ov' o' dp 0 p0 p1 wd HP5.out;have hpk:hdT (tk::rest)=tk.f1:=rfl;rw[hpk,HKT.out.2]at HPK;have HPK:=Lib.hid HPK;clear HP4 HB3 HTO x0 x1 x2 hb;go_wp2_with fail;refine HPK.out.mono ?_;rintro ex we ⟨rfl,rfl⟩;clear HPK;obtain⟨c0,c1,c2,c3,c4,c5,c6⟩:=HP5.out.cells;have hx1:¬(0:Int)≤x.f0:=by omega
 clear hx0;go_wp2_with fail;obtain⟨c0,c1,c2,c3,c4,c5,c6⟩:=HP5.out.cells;rw[hn0]at c0;have f0:=HP5.out.frozen 0;have f1:=HP5.out.frozen 1;obtain⟨r0,r1,r2,r3,r4,r5,r6⟩:=(HP5.out.step ((xb _ _).drew)).cells;rw[hn0]at r0;have hL3:(r'.length:Int)≤100000:=by have:=hs'.out;omega
 have hL4:(0:Int)≤(r'.length:Int):=by omega
 have hL5:(r'.length:Int)<(r'.length:Int)+1:=by omega
 have hL6:(r'.length:Int)≤(r'.length:Int)+1:=by omega
 have hwl:IntKind.i64.wrap (r'.length:Int)=(r'.length:Int):=by simp[j9];omega
 have hcap2:(r'.length:Int)+1≤(cap:Int):=by omega
 have HQ7:zc (PB w0 g (if c=1 then some ⟨tb,off,none⟩else some ⟨tb,off+4,none⟩) (c-1) rest (.slice (some ⟨b,0,none⟩) r'.length cap) r'.reverse _ (o') dp 0 p0 p1 ((wd.setCell ⟨g,1,none⟩ (.slice (some ⟨b,0,none⟩) r'.length cap)).setCell ⟨g,0,none⟩ (.slice (if c=1 then some ⟨tb,off,none⟩else some ⟨tb,off+4,none⟩) rest.length (c-1)))):=⟨HP5.out.popW.tail⟩
 have HF7:zc (((wd.setCell ⟨g,1,none⟩ (.slice (some ⟨b,0,none⟩) r'.length cap)).setCell ⟨g,0,none⟩ (.slice (if c=1 then some ⟨tb,off,none⟩else some ⟨tb,off+4,none⟩) rest.length (c-1))).heap[bl]? =some (.cells #[.int .i64 last.f0,.string last.f1,.int .i64 last.f2,.int .i64 last.f3] 75)):=⟨(Fr.grown (gst (gst (World.grownBy.refl wd (some g)) 1 _) 0 _) (fun k hk=>by injection hk with hk;subst hk;exact⟨_,_,HP5.out.blk,by decide⟩)) _ _ HB5.out⟩
 go_wp2_with fail;go_region
 all_goals(
  generalize (if c=1 then some (⟨tb,off,none⟩:Addr)else some ⟨tb,off+4,none⟩)=AA at*
  generalize (wd.setCell ⟨g,1,none⟩ (.slice (some ⟨b,0,none⟩) r'.length cap)).setCell ⟨g,0,none⟩ (.slice AA rest.length (c-1))=wz at*;have HQ9:=zc.mk ((HQ7.out.setD (dp-1)).step ((xb _ _).drew));have HF9:=zc.mk (Fr.below ((xb _ _).drew) _ _ ((HQ7.out.fr (gst (World.grownBy.refl wz (some g)) 3 (.int .i64 (dp-1)))) _ _ HF7.out));have HQ8:=zc.mk (HQ7.out.step ((xb _ _).drew));clear c0 c1 c2 c3 c4 c5 c6 f0 f1 r0 r1 r2 r3 r4 r5 r6;obtain⟨c0,c1,c2,c3,c4,c5,c6⟩:=HQ7.out.cells;have f3:=HQ7.out.frozen 3;have f3':=HQ8.out.frozen 3;obtain⟨d0,d1,d2,d3,d4,d5,d6⟩:=HQ8.out.cells;go_wp2_with fail;go_step3
  show J 1 _ _
  exact hn.out _ _ ⟨rfl,rfl,rfl,rfl⟩ ⟨⟨_,_,_,_,HQ9.out⟩⟩ ⟨HF9.out⟩)
end Go.Proofs.YtjopepfemhckjaaGreatDoor.NW
end
