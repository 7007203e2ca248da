/-
  Part 27 of the proof of parseTells_holds: texts of this seat, put together.
-/
import Derived.Test.YtjopepfemhckjaaGreatDoorTl26
set_option linter.unusedVariables false
set_option linter.unusedSimpArgs false
set_option maxHeartbeats 16000000
set_option maxRecDepth 100000
section
namespace Go.Proofs.YtjopepfemhckjaaGreatDoor.NW
open Go.Proofs Go.RowKit Go.Shelf Go.Proofs.YtjopepfemhckjaaGreatDoor.PN Go.Proofs.YtjopepfemhckjaaGreatDoorW.PrintWords Go.Proofs.YtjopepfemhckjaaGreatDoor.PParseTells
theorem cNmA {t:Code}(hr:findLabel bodyC 0=some (.seq .skip t)){tlb:Code}(hr1:findLabel bodyC 1=some (.seq .skip tlb)){J:Nat→Act→World→Prop}{R:Ending→World→Prop}(w0:World)(g bl:Nat)(last:S75)(f:Nat→Value)(A:Option Addr)(c:Nat)(t0:S75)(rest:List S75)(wv:Value)(r:List S82)(ov:Value)(o:List Nd)(dp e p0 p1:Int)(W:World)
 (HP:zc (PB w0 g A c (t0::rest) wv r.reverse ov o dp e p0 p1 W))(HB:zc (W.heap[bl]? =some (.cells #[.int .i64 last.f0,.string last.f1,.int .i64 last.f2,.int .i64 last.f3] 75)))(he:e=0)(k0:t0.f0=0)(ht2:t0.f1.toList≠[40])(hkn:parse_known.f t0.f1=some true)(rr:List S82)(oo:List Nd)(dd:Int)(ss:PS)(HNMS:∀W',PBS w0 g wv r.reverse ov o dp ⟨t0::rest,0,p0,p1⟩ W'→Calls Tryz.prog 45 #[.pointer (some ⟨g,0,none⟩),.agg #[.int .i64 last.f0,.string last.f1,.int .i64 last.f2,.int .i64 last.f3]] W' fun ex w'=>ex= .returned (.bool false)∧(∃wv' ov',PBS w0 g wv' rr.reverse ov' oo dd ss w')∧Fr W' w')(hsz:zc (o.length≤100000∧r.length≤100000))
 (hn:zc (∀(a':Act) (W':World),zJ g bl a'→zc (∃wv' ov',PBS w0 g wv' rr.reverse ov' oo dd ss W')→zc (W'.heap[bl]? =some (.cells #[.int .i64 last.f0,.string last.f1,.int .i64 last.f2,.int .i64 last.f3] 75))→tlb.wp Tryz.prog (zn J (bodyPost Tryz.prog Tryz.f19 R)) a' W')):
 t.wp Tryz.prog (zn J (bodyPost Tryz.prog Tryz.f19 R)) (frm g bl f) W:=by
 unfold frm;injection(hr.symm.trans (rfl:findLabel bodyC 0=some (.seq .skip _)))with hr';injection hr' with _ hr';subst hr';clear hr;injection(hr1.symm.trans (rfl:findLabel bodyC 1=some (.seq .skip _)))with hr1';injection hr1' with _ hr1';have HR1:=zc.mk hr1';clear hr1 hr1';subst he;have HPK:=zB w0 g A c (t0::rest) wv r.reverse ov o dp 0 p0 p1 W HP.out;have hpk:hdT (t0::rest)=t0.f1:=rfl;rw[hpk]at HPK;have HPK:=Lib.hid HPK;have HS:=Lib.hid (zN w0 g A c (t0::rest) wv r.reverse ov o dp 0 p0 p1 W HP.out ⟨#[45]⟩ (by simp[tkOK,k0]))
 have hb40:(t0.f1.toList==([40]:List UInt8))=false:=by simpa using ht2
 have HKN:∀W,RowKit.Hid (Calls Tryz.prog 44 #[.string t0.f1] W fun ex w'=>ex= .returned (.bool true)∧zj W w'):=fun W=>Lib.hid (parse_known.calls t0.f1 true W hkn)
 have HNM:∀W',Below W.heap.size W W'→RowKit.Hid (Calls Tryz.prog 45 #[.pointer (some ⟨g,0,none⟩),.agg #[.int .i64 last.f0,.string last.f1,.int .i64 last.f2,.int .i64 last.f3]] W' fun ex w'=>ex= .returned (.bool false)∧(∃wv' ov',PBS w0 g wv' rr.reverse ov' oo dd ss w')∧Fr W' w'):=fun W' hb=>Lib.hid (by obtain h:=HNMS W' ⟨A,c,HP.out.step hb⟩;exact h)
 obtain⟨c0,c1,c2,c3,c4,c5,c6⟩:=HP.out.cells;obtain⟨tb,off,hA,q0,q1,q2,q3⟩:=HP.out.head;subst hA;have hk:=k0;rw[hk]at q0;have hl:¬((t0::rest).length:Int)=0:=by simp only[List.length_cons];omega
 have hl2:(0:Int)<((t0::rest).length:Int):=by simp only[List.length_cons];omega
 have hl3:(1:Int)≤((t0::rest).length:Int):=by omega
 have hlc:(t0::rest).length-1=(rest).length:=rfl;have hcI:((t0::rest).length:Int)≤(c:Int):=by have:=HP.out.hc;omega
 generalize hn0:(t0::rest).length=n at*;clear k0 ht2 hkn HNMS;go_wp2_with fail;refine HPK.out.mono ?_;rintro ex wb ⟨rfl,rfl⟩;go_wp2_with fail;refine HS.out.mono ?_;rintro ex wc ⟨rfl,hb⟩;have HB2:=zc.mk (Fr.below hb _ _ HB.out);have HP2:=zc.mk (HP.out.step hb);have HBL:=zc.mk hb;clear HP HB HPK HS c0 c1 c2 c3 c4 c5 c6 q0 q1 q2 q3 hb;obtain⟨c0,c1,c2,c3,c4,c5,c6⟩:=HP2.out.cells;obtain⟨tb',off',hA,q0,q1,q2,q3⟩:=HP2.out.head;injection hA with hA;injection hA with e1 e2;subst e1 e2;rw[hn0]at c0;rw[hk]at q0;have l0:wc.cell? ⟨bl,0,none⟩=some (.int .i64 last.f0):=by rw[j6 HB2.out];rfl
 have l1:wc.cell? ⟨bl,1,none⟩=some (.string last.f1):=by rw[j6 HB2.out];rfl
 have l2:wc.cell? ⟨bl,2,none⟩=some (.int .i64 last.f2):=by rw[j6 HB2.out];rfl
 have l3:wc.cell? ⟨bl,3,none⟩=some (.int .i64 last.f3):=by rw[j6 HB2.out];rfl
 clear hk;go_wp2_with fail;refine(HKN _).out.mono ?_;rintro ex wd ⟨rfl,nd,rfl⟩;have HNM2:=HNM _ (ze HBL.out nd);go_wp2_with fail;refine HNM2.out.mono ?_;rintro ex we ⟨rfl,hq,hf⟩;go_wp2_with fail;obtain⟨wv',ov',hq⟩:=hq;refine qy (by assumption) ?_
 have hh:=HR1.out;subst hh;exact hn.out _ _ ⟨rfl,rfl,rfl,rfl⟩ ⟨⟨_,_,hq⟩⟩ ⟨hf _ _ HB2.out⟩
theorem cNmB {t:Code}(hr:findLabel bodyC 0=some (.seq .skip t)){tlb:Code}(hr1:findLabel bodyC 1=some (.seq .skip tlb)){J:Nat→Act→World→Prop}{R:Ending→World→Prop}(w0:World)(g bl:Nat)(last:S75)(f:Nat→Value)(A:Option Addr)(c:Nat)(t0:S75)(rest:List S75)(wv:Value)(r:List S82)(ov:Value)(o:List Nd)(dp e p0 p1:Int)(W:World)
 (HP:zc (PB w0 g A c (t0::rest) wv r.reverse ov o dp e p0 p1 W))(HB:zc (W.heap[bl]? =some (.cells #[.int .i64 last.f0,.string last.f1,.int .i64 last.f2,.int .i64 last.f3] 75)))(he:e=0)(k0:t0.f0=0)(ht2:t0.f1.toList≠[40])(hkn:parse_known.f t0.f1=some true)(rr:List S82)(oo:List Nd)(dd:Int)(ss:PS)(HNMS:∀W',PBS w0 g wv r.reverse ov o dp ⟨t0::rest,0,p0,p1⟩ W'→Calls Tryz.prog 45 #[.pointer (some ⟨g,0,none⟩),.agg #[.int .i64 last.f0,.string last.f1,.int .i64 last.f2,.int .i64 last.f3]] W' fun ex w'=>ex= .returned (.bool true)∧(∃wv' ov',PBS w0 g wv' rr.reverse ov' oo dd ss w')∧Fr W' w')(hsz:zc (o.length≤100000∧r.length≤100000))
 (hn:zc (∀(a':Act) (W':World),zJ g bl a'→zc (∃wv' ov',PBS w0 g wv' rr.reverse ov' oo dd ss W')→zc (W'.heap[bl]? =some (.cells #[.int .i64 last.f0,.string last.f1,.int .i64 last.f2,.int .i64 last.f3] 75))→J 0 a' W')):
 t.wp Tryz.prog (zn J (bodyPost Tryz.prog Tryz.f19 R)) (frm g bl f) W:=by
 unfold frm;injection(hr.symm.trans (rfl:findLabel bodyC 0=some (.seq .skip _)))with hr';injection hr' with _ hr';subst hr';clear hr;injection(hr1.symm.trans (rfl:findLabel bodyC 1=some (.seq .skip _)))with hr1';injection hr1' with _ hr1';have HR1:=zc.mk hr1';clear hr1 hr1';subst he;have HPK:=zB w0 g A c (t0::rest) wv r.reverse ov o dp 0 p0 p1 W HP.out;have hpk:hdT (t0::rest)=t0.f1:=rfl;rw[hpk]at HPK;have HPK:=Lib.hid HPK;have HS:=Lib.hid (zN w0 g A c (t0::rest) wv r.reverse ov o dp 0 p0 p1 W HP.out ⟨#[45]⟩ (by simp[tkOK,k0]))
 have hb40:(t0.f1.toList==([40]:List UInt8))=false:=by simpa using ht2
 have HKN:∀W,RowKit.Hid (Calls Tryz.prog 44 #[.string t0.f1] W fun ex w'=>ex= .returned (.bool true)∧zj W w'):=fun W=>Lib.hid (parse_known.calls t0.f1 true W hkn)
 have HNM:∀W',Below W.heap.size W W'→RowKit.Hid (Calls Tryz.prog 45 #[.pointer (some ⟨g,0,none⟩),.agg #[.int .i64 last.f0,.string last.f1,.int .i64 last.f2,.int .i64 last.f3]] W' fun ex w'=>ex= .returned (.bool true)∧(∃wv' ov',PBS w0 g wv' rr.reverse ov' oo dd ss w')∧Fr W' w'):=fun W' hb=>Lib.hid (by obtain h:=HNMS W' ⟨A,c,HP.out.step hb⟩;exact h)
 obtain⟨c0,c1,c2,c3,c4,c5,c6⟩:=HP.out.cells;obtain⟨tb,off,hA,q0,q1,q2,q3⟩:=HP.out.head;subst hA;have hk:=k0;rw[hk]at q0;have hl:¬((t0::rest).length:Int)=0:=by simp only[List.length_cons];omega
 have hl2:(0:Int)<((t0::rest).length:Int):=by simp only[List.length_cons];omega
 have hl3:(1:Int)≤((t0::rest).length:Int):=by omega
 have hlc:(t0::rest).length-1=(rest).length:=rfl;have hcI:((t0::rest).length:Int)≤(c:Int):=by have:=HP.out.hc;omega
 generalize hn0:(t0::rest).length=n at*;clear k0 ht2 hkn HNMS;go_wp2_with fail;refine HPK.out.mono ?_;rintro ex wb ⟨rfl,rfl⟩;go_wp2_with fail;refine HS.out.mono ?_;rintro ex wc ⟨rfl,hb⟩;have HB2:=zc.mk (Fr.below hb _ _ HB.out);have HP2:=zc.mk (HP.out.step hb);have HBL:=zc.mk hb;clear HP HB HPK HS c0 c1 c2 c3 c4 c5 c6 q0 q1 q2 q3 hb;obtain⟨c0,c1,c2,c3,c4,c5,c6⟩:=HP2.out.cells;obtain⟨tb',off',hA,q0,q1,q2,q3⟩:=HP2.out.head;injection hA with hA;injection hA with e1 e2;subst e1 e2;rw[hn0]at c0;rw[hk]at q0;have l0:wc.cell? ⟨bl,0,none⟩=some (.int .i64 last.f0):=by rw[j6 HB2.out];rfl
 have l1:wc.cell? ⟨bl,1,none⟩=some (.string last.f1):=by rw[j6 HB2.out];rfl
 have l2:wc.cell? ⟨bl,2,none⟩=some (.int .i64 last.f2):=by rw[j6 HB2.out];rfl
 have l3:wc.cell? ⟨bl,3,none⟩=some (.int .i64 last.f3):=by rw[j6 HB2.out];rfl
 clear hk;go_wp2_with fail;refine(HKN _).out.mono ?_;rintro ex wd ⟨rfl,nd,rfl⟩;have HNM2:=HNM _ (ze HBL.out nd);go_wp2_with fail;refine HNM2.out.mono ?_;rintro ex we ⟨rfl,hq,hf⟩;go_wp2_with fail;obtain⟨wv',ov',hq⟩:=hq;go_step3
 show J 0 _ _
 exact hn.out _ _ ⟨rfl,rfl,rfl,rfl⟩ ⟨⟨_,_,hq⟩⟩ ⟨hf _ _ HB2.out⟩
structure NumB (s:ByteArray) (z:Int) (d:Nat):Prop where
 run:∀w,Glob w→Calls Tryz.prog 40 #[.string s] w fun e w'=>e= .returned (.tuple #[ratV z d,.int .i64 0])∧Below w.heap.size w w'
 sh:parse_short.f (intS z) (natS d)=some false
theorem PB.setTop {w0:World}{g:Nat}{A:Option Addr}{c:Nat}{toks:List S75}{r:List S82}{x:S82}{ov:Value}{out:List Nd}{dp e p0 p1:Int}{w:World}{b cap:Nat}(h:PB w0 g A c toks (.slice (some ⟨b,0,none⟩) (r.length+1) cap) (r.reverse++[x]) ov out dp e p0 p1 w)(v:Int):
 PB w0 g A c toks (.slice (some ⟨b,0,none⟩) (r.length+1) cap) (r.reverse++[⟨x.f0,x.f1,v⟩]) ov out dp e p0 p1 (w.setCell ⟨b,r.length*3+2,none⟩ (.int .i64 v)):=by
 obtain⟨cells,hc⟩:=Kd.R_typed h.wt b rfl;have hbg:b≠g:=h.wt.1 b rfl;have hz:k82.sz=3:=rfl;obtain⟨b',cap',hwv,hcap,x0,x1,x2⟩:=h.last;injection hwv with e1 e2 e3;injection e1 with e1;injection e1 with e1;subst e1;have hs:=Kd.R_seg (d:=k82) h.wt (r.length:Int) (by omega) (by omega) (c:=[.int .i64 x.f0,.int .i64 x.f1,.int .i64 x.f2]) (seg:=[.int .i64 v]) (j:=2) rfl
  (by
   intro j u hu;rw[hz,xa];match j,hu with
   |0,hu=>simp at hu;subst hu;exact x0
   |1,hu=>simp at hu;subst hu;exact x1
   |2,hu=>simp at hu;subst hu;exact x2
   |j+3,hu=>simp at hu)
  (by rw[hz];simp) (x':=(⟨x.f0,x.f1,v⟩:S82)) (okp:=fun _=>False) (k82_mkM _ _ _ (⟨x.f0,x.f1,v⟩:S82)) (fun _ hk=>hk.elim)
 rw[hz,xa]at hs;have hset:(r.reverse++[x]).set r.length (⟨x.f0,x.f1,v⟩:S82)=r.reverse++[⟨x.f0,x.f1,v⟩]:=by
  rw[List.set_append_right _ _ (by simp)]
  simp
 rw[hset]at hs;exact⟨(Below.heap_setCell w ⟨b,r.length*3+2,none⟩ (.int .i64 v) g (fun e=>hbg e.symm)).trans h.blk,h.hc,h.tk,h.ta,hs.1,Kd.R_set h.ou hc (by decide) _ _,zD h.bl (Kd.R_base h.wt b rfl) _ _,h.gb,h.hl⟩
theorem cONumB {t:Code}(hr:findLabel bodyC 0=some (.seq .skip t)){tlb:Code}(hr1:findLabel bodyC 1=some (.seq .skip tlb)){J:Nat→Act→World→Prop}{R:Ending→World→Prop}(w0:World)(g bl:Nat)(last:S75)(f:Nat→Value)(A:Option Addr)(c:Nat)(tk:S75)(rest:List S75)(wv:Value)(r:List S82)(ov:Value)(o:List Nd)(dp e p0 p1:Int)(W:World)
 (HP:zc (PB w0 g A c (tk::rest) wv r.reverse ov o dp e p0 p1 W))(HB:zc (W.heap[bl]? =some (.cells #[.int .i64 last.f0,.string last.f1,.int .i64 last.f2,.int .i64 last.f3] 75)))(he:e=0)(hk:tk.f0=1)(z:Int)(d:Nat)(hN:zc (NumB tk.f1 z d))(hlast:zc (0≤last.f3∧last.f3+last.f1.size≤1000000))(hG:zc (Glob w0))(hsz:zc (o.length≤100000∧r.length≤100000))
 (hq:zc (∀(a':Act) (W':World),a'.defers=[]→zc (∃A' c' toks' wv' wait' ov',PB w0 g A' c' toks' wv' wait' ov' o dp 110 (zC (tk::rest) last).1 (zC (tk::rest) last).2 W')→bodyPost Tryz.prog Tryz.f19 R .ret a' W')):
 t.wp Tryz.prog (zn J (bodyPost Tryz.prog Tryz.f19 R)) (frm g bl f) W:=by
 unfold frm;injection(hr.symm.trans (rfl:findLabel bodyC 0=some (.seq .skip _)))with hr';injection hr' with _ hr';subst hr';clear hr;injection(hr1.symm.trans (rfl:findLabel bodyC 1=some (.seq .skip _)))with hr1';injection hr1' with _ hr1';have HR1:=zc.mk hr1';clear hr1 hr1';subst he;have HPK:=zB w0 g A c (tk::rest) wv r.reverse ov o dp 0 p0 p1 W HP.out;have hpk:hdT (tk::rest)=tk.f1:=rfl;rw[hpk]at HPK;have HPK:=Lib.hid HPK;obtain⟨c0,c1,c2,c3,c4,c5,c6⟩:=HP.out.cells;obtain⟨tb,off,hA,q0,q1,q2,q3⟩:=HP.out.head;subst hA;rw[hk]at q0;have hl:¬((tk::rest).length:Int)=0:=by simp only[List.length_cons];omega
 have hl2:(0:Int)<((tk::rest).length:Int):=by simp only[List.length_cons];omega
 have hl3:(1:Int)≤((tk::rest).length:Int):=by omega
 have hlc:(tk::rest).length-1=rest.length:=rfl;have hcI:((tk::rest).length:Int)≤(c:Int):=by have:=HP.out.hc;omega
 generalize hn0:(tk::rest).length=n at*;have HNR:=hN.out.run W (hG.out.below HP.out.bl);unfold ratV at HNR;have HNR:=Lib.hid HNR;have HSH:∀W,RowKit.Hid (Calls Tryz.prog 41 #[.agg #[.string (intS z),.string (natS d)]] W fun ex w'=>ex= .returned (.bool false)∧Below W.heap.size W w'):=fun W=>Lib.hid (parse_short.calls (intS z) (natS d) false W hN.out.sh)
 clear hk;go_wp2_with fail;refine HPK.out.mono ?_;rintro ex wb ⟨rfl,rfl⟩;go_wp2_with fail;refine HNR.out.mono ?_;rintro ex wc ⟨rfl,hb⟩;have hb1:=(xb wc.heap.size wc).alloc (xc _) (.cells #[.string (intS z),.string (natS d)] 35);have HP2:=zc.mk ((HP.out.step hb).step hb1);have KX:=zc.mk (j7 wc (.cells #[.string (intS z),.string (natS d)] 35));have HB2:=zc.mk (Fr.below hb1 _ _ (Fr.below hb _ _ HB.out));clear HP HB hb hb1 HPK HNR c0 c1 c2 c3 c4 c5 c6 q0 q1 q2 q3;go_wp2_with fail;generalize wc.alloc (.cells #[.string (intS z),.string (natS d)] 35)=wd at*;refine(HSH wd).out.mono ?_;rintro ex we ⟨rfl,hb2⟩;have HP3:=zc.mk (HP2.out.step hb2);have KX3:=zc.mk (Fr0.below hb2 KX.out);have HB3:=zc.mk (Fr.below hb2 _ _ HB2.out);clear HP2 KX HB2 hb2 HSH;obtain⟨c0,c1,c2,c3,c4,c5,c6⟩:=HP3.out.cells;have l0:we.cell? ⟨bl,0,none⟩=some (.int .i64 last.f0):=by rw[j6 HB3.out];rfl
 have l1:we.cell? ⟨bl,1,none⟩=some (.string last.f1):=by rw[j6 HB3.out];rfl
 have l2:we.cell? ⟨bl,2,none⟩=some (.int .i64 last.f2):=by rw[j6 HB3.out];rfl
 have l3:we.cell? ⟨bl,3,none⟩=some (.int .i64 last.f3):=by rw[j6 HB3.out];rfl
 have HF:=zL w0 g _ c (tk::rest) wv r.reverse ov o dp 0 p0 p1 we HP3.out rfl 110 last hlast.out;unfold tkV at HF;have HF:=Lib.hid HF;go_wp2_with fail;refine HF.out.mono ?_;rintro ex wf ⟨rfl,hq2,hg⟩;go_wp2_with fail;exact hq.out _ _ rfl ⟨⟨_,_,_,_,_,_,hq2⟩⟩
theorem cPComma {t:Code}(hr:findLabel bodyC 1=some (.seq .skip t)){J:Nat→Act→World→Prop}{R:Ending→World→Prop}(w0:World)(g bl:Nat)(last:S75)(f:Nat→Value)(A:Option Addr)(c:Nat)(tk:S75)(rest:List S75)(wv:Value)(r:List S82)(ov:Value)(o:List Nd)(dp e p0 p1:Int)(W:World)
 (HP:zc (PB w0 g A c (tk::rest) wv r.reverse ov o dp e p0 p1 W))(HB:zc (W.heap[bl]? =some (.cells #[.int .i64 last.f0,.string last.f1,.int .i64 last.f2,.int .i64 last.f3] 75)))(he:e=0)(hk:tk.f0=2)(ht:tk.f1=⟨#[44]⟩)(op0 rk0:Int)(hop:parse_operator.f tk.f0 tk.f1 tk.f2 tk.f3=some (op0,rk0))(hrk:rk0≤0)(x:S82)(r':List S82)(o':List Nd)(hp:popR 1 r o=(x::r',o'))(hs':zc (r'.length≤100000))(hx2:1<x.f2)(hx3:x.f2≤100)(hw:zc (∀x∈r,1≤x.f1→0≤x.f0))(hlen:zc (r.length+o.length≤100000))
 (hn:zc (∀(a':Act) (W':World),zJ g bl a'→zc (∃A' c' wv' ov',PB w0 g A' c' (rest) wv' (⟨x.f0,x.f1,x.f2-1⟩::r').reverse ov' (o') (dp) 0 p0 p1 W')→zc (W'.heap[bl]? =some (.cells #[.int .i64 last.f0,.string last.f1,.int .i64 last.f2,.int .i64 last.f3] 75))→J 0 a' W')):
 t.wp Tryz.prog (zn J (bodyPost Tryz.prog Tryz.f19 R)) (frm g bl f) W:=by
 unfold frm;injection(hr.symm.trans (rfl:findLabel bodyC 1=some (.seq .skip _)))with hr';injection hr' with _ hr';subst hr';clear hr;subst he;have HOP:∀W,RowKit.Hid (Calls Tryz.prog 47 #[.agg #[.int .i64 tk.f0,.string tk.f1,.int .i64 tk.f2,.int .i64 tk.f3]] W fun ex w'=>ex= .returned (.tuple #[.int .i64 op0,.int .i64 rk0])∧Below W.heap.size W w'):=fun W=>Lib.hid (parse_operator.calls tk.f0 tk.f1 tk.f2 tk.f3 op0 rk0 W hop)
 have HPO:∀W',Below W.heap.size W W'→RowKit.Hid (Calls Tryz.prog 46 #[.pointer (some ⟨g,0,none⟩),.int .i64 1] W' fun ex w'=>ex= .returned (.tuple #[])∧(∃wv' ov',PB w0 g A c (tk::rest) wv' (x::r').reverse ov' o' dp 0 p0 p1 w')∧Fr W' w'):=by
  intro W' hb;have HPO:=pop_at w0 g A c (tk::rest) wv r ov o dp 0 p0 p1 W' (HP.out.step hb) 1 (by omega) (by omega) hw.out hlen.out
  rw[hp]at HPO;exact Lib.hid HPO
 have hr0:¬(0:Int)<rk0:=by omega
 obtain⟨c0,c1,c2,c3,c4,c5,c6⟩:=HP.out.cells;obtain⟨tb,off,hA,q0,q1,q2,q3⟩:=HP.out.head;subst hA;have hl:¬((tk::rest).length:Int)=0:=by simp only[List.length_cons];omega
 have hl2:(0:Int)<((tk::rest).length:Int):=by simp only[List.length_cons];omega
 have hl3:(1:Int)≤((tk::rest).length:Int):=by omega
 have hlc:(tk::rest).length-1=rest.length:=rfl;have hcI:((tk::rest).length:Int)≤(c:Int):=by have:=HP.out.hc;omega
 generalize hn0:(tk::rest).length=n at*;have HKT:=zc.mk (And.intro hk ht);clear hop hp hw hlen hk ht;go_wp2_with fail;refine(HOP _).out.mono ?_;rintro ex wb ⟨rfl,hb⟩;have HPO2:=HPO _ hb;have HB1:=zc.mk (Fr.below hb _ _ HB.out);clear HOP HPO HB c0 c1 c2 c3 c4 c5 c6 q0 q1 q2 q3 hb;go_wp2_with fail;refine HPO2.out.mono ?_;rintro ex wc ⟨rfl,⟨wv',ov',hq2⟩,hf⟩;have HP3:=zc.mk hq2;have HB3:=zc.mk (hf _ _ HB1.out);clear HP HB1 HPO2 hf hq2;obtain⟨c0,c1,c2,c3,c4,c5,c6⟩:=HP3.out.cells;have hrv:(x::r').reverse=r'.reverse++[x]:=List.reverse_cons;have HQ0:=HP3.out;rw[hrv]at HQ0;obtain⟨b,cap,hwv,hcap,x0,x1,x2⟩:=HQ0.last;have HTO:=Lib.hid (jv w0 g _ c (tk::rest) wv' r' x ov' o' dp 0 p0 p1 wc HQ0 hs'.out b cap hwv);have HP4:=zc.mk HQ0;have HWV:=zc.mk hwv;have HXB:b<wc.heap.size:=by
  obtain⟨cells,hc⟩:=Kd.R_typed HQ0.wt b (by rw[hwv];rfl)
  exact(xe hc).1
 clear HQ0 HP3 hrv hwv;go_wp2_with fail;refine HTO.out.mono ?_;rintro ex wd ⟨rfl,hb⟩;have HP5:=zc.mk (HP4.out.step hb);have HB5:=zc.mk (Fr.below hb _ _ HB3.out);have y0:=(zg hb ⟨b,r'.length*3,none⟩ HXB).trans x0;have y1:=(zg hb ⟨b,r'.length*3+1,none⟩ HXB).trans x1;have y2:=(zg hb ⟨b,r'.length*3+2,none⟩ HXB).trans x2;have hwv:=HWV.out;clear HWV;subst hwv;have HPK:=zB w0 g _ c (tk::rest) _ _ ov' o' dp 0 p0 p1 wd HP5.out;have hpk:hdT (tk::rest)=tk.f1:=rfl;rw[hpk,HKT.out.2]at HPK;have HPK:=Lib.hid HPK;clear HP4 HB3 HTO x0 x1 x2 hb;go_wp2_with fail;refine HPK.out.mono ?_;rintro ex we ⟨rfl,rfl⟩;clear HPK;obtain⟨c0,c1,c2,c3,c4,c5,c6⟩:=HP5.out.cells;obtain⟨tb',off',hA,q0,q1,q2,q3⟩:=HP5.out.head;injection hA with hA;injection hA with e1 e2;subst e1 e2;rw[hn0]at c0;rw[HKT.out.1]at q0;obtain⟨cells9,hc9⟩:=Kd.R_typed HP5.out.wt b rfl;have fb:=Lib.frozen_of_heap hc9 (r'.length*3+2);have hwx:IntKind.i64.wrap (x.f2-1)=x.f2-1:=by simp[j9];omega
 have HP6:=zc.mk (HP5.out.setTop (x.f2-1));have HB6:=zc.mk ((Fr.grown (gst (World.grownBy.refl wd (some b)) (r'.length*3+2) (.int .i64 (x.f2-1))) (fun k hk=>by injection hk with hk;subst hk;exact⟨_,_,hc9,by decide⟩)) _ _ HB5.out)
 have HP7:zc (PB w0 g (if c=1 then some ⟨tb,off,none⟩else some ⟨tb,off+4,none⟩) (c-1) rest _ _ _ _ dp 0 p0 p1 ((wd.setCell ⟨b,r'.length*3+2,none⟩ (.int .i64 (x.f2-1))).setCell ⟨g,0,none⟩ (.slice (if c=1 then some ⟨tb,off,none⟩else some ⟨tb,off+4,none⟩) rest.length (c-1)))):=⟨HP6.out.tail⟩
 have HB7:=zc.mk ((Fr.grown (gst (World.grownBy.refl (wd.setCell ⟨b,r'.length*3+2,none⟩ (.int .i64 (x.f2-1))) (some g)) 0 (.slice (if c=1 then some ⟨tb,off,none⟩else some ⟨tb,off+4,none⟩) rest.length (c-1))) (fun k hk=>by injection hk with hk;subst hk;exact⟨_,_,HP6.out.blk,by decide⟩)) _ _ HB6.out)
 obtain⟨d0,d1,d2,d3,d4,d5,d6⟩:=HP6.out.cells;rw[hn0]at d0;have f0:=HP6.out.frozen 0;clear hc9 HP5 HB5;have hrv2:((⟨x.f0,x.f1,x.f2-1⟩:S82)::r').reverse=r'.reverse++[⟨x.f0,x.f1,x.f2-1⟩]:=List.reverse_cons;go_wp2_with fail
 all_goals
  have HP8:=HP7.out;have HB8:=HB7.out;first
  |rw[if_neg (by assumption)]at HP8 HB8
  |(rw[if_pos (by assumption)]at HP8 HB8;have hc0:c-1=0:=(by omega);rw[hc0]at HP8 HB8)
  rw[←hrv2]at HP8;go_step3
  show J 0 _ _
  exact hn.out _ _ ⟨rfl,rfl,rfl,rfl⟩ ⟨⟨_,_,_,_,HP8⟩⟩ ⟨HB8⟩
theorem cPBadN {t:Code}(hr:findLabel bodyC 1=some (.seq .skip t)){J:Nat→Act→World→Prop}{R:Ending→World→Prop}(w0:World)(g bl:Nat)(last:S75)(f:Nat→Value)(A:Option Addr)(c:Nat)(tk:S75)(rest:List S75)(wv:Value)(r:List S82)(ov:Value)(o:List Nd)(dp e p0 p1:Int)(W:World)
 (HP:zc (PB w0 g A c (tk::rest) wv r.reverse ov o dp e p0 p1 W))(HB:zc (W.heap[bl]? =some (.cells #[.int .i64 last.f0,.string last.f1,.int .i64 last.f2,.int .i64 last.f3] 75)))(he:e=0)(op0 rk0:Int)(hop:parse_operator.f tk.f0 tk.f1 tk.f2 tk.f3=some (op0,rk0))(hrk:rk0≤0)(o':List Nd)(hp:popR 1 r o=([],o'))(hlast:zc (0≤last.f3∧last.f3+last.f1.size≤1000000))(hw:zc (∀x∈r,1≤x.f1→0≤x.f0))(hlen:zc (r.length+o.length≤100000))
 (hq:zc (∀(a':Act) (W':World),a'.defers=[]→zc (∃A' c' toks' wv' wait' ov',PB w0 g A' c' toks' wv' wait' ov' o' dp 110 (zC (tk::rest) last).1 (zC (tk::rest) last).2 W')→bodyPost Tryz.prog Tryz.f19 R .normal a' W')):
 t.wp Tryz.prog (zn J (bodyPost Tryz.prog Tryz.f19 R)) (frm g bl f) W:=by
 unfold frm;injection(hr.symm.trans (rfl:findLabel bodyC 1=some (.seq .skip _)))with hr';injection hr' with _ hr';subst hr';clear hr;subst he;have HOP:∀W,RowKit.Hid (Calls Tryz.prog 47 #[.agg #[.int .i64 tk.f0,.string tk.f1,.int .i64 tk.f2,.int .i64 tk.f3]] W fun ex w'=>ex= .returned (.tuple #[.int .i64 op0,.int .i64 rk0])∧Below W.heap.size W w'):=fun W=>Lib.hid (parse_operator.calls tk.f0 tk.f1 tk.f2 tk.f3 op0 rk0 W hop)
 have HPO:∀W',Below W.heap.size W W'→RowKit.Hid (Calls Tryz.prog 46 #[.pointer (some ⟨g,0,none⟩),.int .i64 1] W' fun ex w'=>ex= .returned (.tuple #[])∧(∃wv' ov',PB w0 g A c (tk::rest) wv' ([]:List S82) ov' o' dp 0 p0 p1 w')∧Fr W' w'):=by
  intro W' hb;have HPO:=pop_at w0 g A c (tk::rest) wv r ov o dp 0 p0 p1 W' (HP.out.step hb) 1 (by omega) (by omega) hw.out hlen.out
  rw[hp]at HPO;exact Lib.hid HPO
 have hr0:¬(0:Int)<rk0:=by omega
 obtain⟨c0,c1,c2,c3,c4,c5,c6⟩:=HP.out.cells;obtain⟨tb,off,hA,q0,q1,q2,q3⟩:=HP.out.head;subst hA;have hl:¬((tk::rest).length:Int)=0:=by simp only[List.length_cons];omega
 have hl2:(0:Int)<((tk::rest).length:Int):=by simp only[List.length_cons];omega
 have hl3:(1:Int)≤((tk::rest).length:Int):=by omega
 have hlc:(tk::rest).length-1=rest.length:=rfl;have hcI:((tk::rest).length:Int)≤(c:Int):=by have:=HP.out.hc;omega
 generalize hn0:(tk::rest).length=n at*;clear hop hp hw hlen;go_wp2_with fail;refine(HOP _).out.mono ?_;rintro ex wb ⟨rfl,hb⟩;have HPO2:=HPO _ hb;have HB1:=zc.mk (Fr.below hb _ _ HB.out);clear HOP HPO HB c0 c1 c2 c3 c4 c5 c6 q0 q1 q2 q3 hb;go_wp2_with fail;refine HPO2.out.mono ?_;rintro ex wc ⟨rfl,⟨wv',ov',hq2⟩,hf⟩;have HP3:=zc.mk hq2;have HB3:=zc.mk (hf _ _ HB1.out);clear HP HB1 HPO2 hf hq2;have HTO:=Lib.hid (topNo_at w0 g _ c (tk::rest) wv' ov' o' dp 0 p0 p1 wc HP3.out);go_wp2_with fail;refine HTO.out.mono ?_;rintro ex wd ⟨rfl,hb⟩;have HP5:=zc.mk (HP3.out.step hb);have HB5:=zc.mk (Fr.below hb _ _ HB3.out);have HPK:=Lib.hid (zB w0 g _ c (tk::rest) _ _ ov' o' dp 0 p0 p1 wd HP5.out);clear HP3 HB3 HTO hb;go_wp2_with fail;refine HPK.out.mono ?_;rintro ex we ⟨rfl,rfl⟩;have HF:=zL w0 g _ c (tk::rest) _ _ ov' o' dp 0 p0 p1 wd HP5.out rfl 110 last hlast.out;unfold tkV at HF;have HF:=Lib.hid HF;have l0:wd.cell? ⟨bl,0,none⟩=some (.int .i64 last.f0):=by rw[j6 HB5.out];rfl
 have l1:wd.cell? ⟨bl,1,none⟩=some (.string last.f1):=by rw[j6 HB5.out];rfl
 have l2:wd.cell? ⟨bl,2,none⟩=some (.int .i64 last.f2):=by rw[j6 HB5.out];rfl
 have l3:wd.cell? ⟨bl,3,none⟩=some (.int .i64 last.f3):=by rw[j6 HB5.out];rfl
 clear HPK;go_wp2_with fail;refine HF.out.mono ?_;rintro ex wf ⟨rfl,hq2,hg⟩;go_wp2_with fail;exact hq.out _ _ rfl ⟨⟨_,_,_,_,_,_,hq2⟩⟩
theorem cPBadX {t:Code}(hr:findLabel bodyC 1=some (.seq .skip t)){J:Nat→Act→World→Prop}{R:Ending→World→Prop}(w0:World)(g bl:Nat)(last:S75)(f:Nat→Value)(A:Option Addr)(c:Nat)(tk:S75)(rest:List S75)(wv:Value)(r:List S82)(ov:Value)(o:List Nd)(dp e p0 p1:Int)(W:World)
 (HP:zc (PB w0 g A c (tk::rest) wv r.reverse ov o dp e p0 p1 W))(HB:zc (W.heap[bl]? =some (.cells #[.int .i64 last.f0,.string last.f1,.int .i64 last.f2,.int .i64 last.f3] 75)))(he:e=0)(op0 rk0:Int)(hop:parse_operator.f tk.f0 tk.f1 tk.f2 tk.f3=some (op0,rk0))(hrk:rk0≤0)(x:S82)(r':List S82)(o':List Nd)(hp:popR 1 r o=(x::r',o'))(hs':zc (r'.length≤100000))(hbad:(tk.f1.toList=[44]∧(tk.f0≠2∨x.f2≤1))∨(tk.f1.toList=[41]∧1<x.f2)∨(tk.f1.toList≠[44]∧tk.f1.toList≠[41]))(hlast:zc (0≤last.f3∧last.f3+last.f1.size≤1000000))(hw:zc (∀x∈r,1≤x.f1→0≤x.f0))(hlen:zc (r.length+o.length≤100000))
 (hq:zc (∀(a':Act) (W':World),a'.defers=[]→zc (∃A' c' toks' wv' wait' ov',PB w0 g A' c' toks' wv' wait' ov' o' dp 110 (zC (tk::rest) last).1 (zC (tk::rest) last).2 W')→bodyPost Tryz.prog Tryz.f19 R .normal a' W')):
 t.wp Tryz.prog (zn J (bodyPost Tryz.prog Tryz.f19 R)) (frm g bl f) W:=by
 unfold frm;injection(hr.symm.trans (rfl:findLabel bodyC 1=some (.seq .skip _)))with hr';injection hr' with _ hr';subst hr';clear hr;subst he;have HOP:∀W,RowKit.Hid (Calls Tryz.prog 47 #[.agg #[.int .i64 tk.f0,.string tk.f1,.int .i64 tk.f2,.int .i64 tk.f3]] W fun ex w'=>ex= .returned (.tuple #[.int .i64 op0,.int .i64 rk0])∧Below W.heap.size W w'):=fun W=>Lib.hid (parse_operator.calls tk.f0 tk.f1 tk.f2 tk.f3 op0 rk0 W hop)
 have HPO:∀W',Below W.heap.size W W'→RowKit.Hid (Calls Tryz.prog 46 #[.pointer (some ⟨g,0,none⟩),.int .i64 1] W' fun ex w'=>ex= .returned (.tuple #[])∧(∃wv' ov',PB w0 g A c (tk::rest) wv' (x::r').reverse ov' o' dp 0 p0 p1 w')∧Fr W' w'):=by
  intro W' hb;have HPO:=pop_at w0 g A c (tk::rest) wv r ov o dp 0 p0 p1 W' (HP.out.step hb) 1 (by omega) (by omega) hw.out hlen.out
  rw[hp]at HPO;exact Lib.hid HPO
 have hr0:¬(0:Int)<rk0:=by omega
 obtain⟨c0,c1,c2,c3,c4,c5,c6⟩:=HP.out.cells;obtain⟨tb,off,hA,q0,q1,q2,q3⟩:=HP.out.head;subst hA;have hl:¬((tk::rest).length:Int)=0:=by simp only[List.length_cons];omega
 have hl2:(0:Int)<((tk::rest).length:Int):=by simp only[List.length_cons];omega
 have hl3:(1:Int)≤((tk::rest).length:Int):=by omega
 have hlc:(tk::rest).length-1=rest.length:=rfl;have hcI:((tk::rest).length:Int)≤(c:Int):=by have:=HP.out.hc;omega
 generalize hn0:(tk::rest).length=n at*;have HBD:=zc.mk hbad;clear hop hp hw hlen hbad;go_wp2_with fail;refine(HOP _).out.mono ?_;rintro ex wb ⟨rfl,hb⟩;have HPO2:=HPO _ hb;have HB1:=zc.mk (Fr.below hb _ _ HB.out);clear HOP HPO HB c0 c1 c2 c3 c4 c5 c6 q0 q1 q2 q3 hb;go_wp2_with fail;refine HPO2.out.mono ?_;rintro ex wc ⟨rfl,⟨wv',ov',hq2⟩,hf⟩;have HP3:=zc.mk hq2;have HB3:=zc.mk (hf _ _ HB1.out);clear HP HB1 HPO2 hf hq2;obtain⟨c0,c1,c2,c3,c4,c5,c6⟩:=HP3.out.cells;have hrv:(x::r').reverse=r'.reverse++[x]:=List.reverse_cons;have HQ0:=HP3.out;rw[hrv]at HQ0;obtain⟨b,cap,hwv,hcap,x0,x1,x2⟩:=HQ0.last;have HTO:=Lib.hid (jv w0 g _ c (tk::rest) wv' r' x ov' o' dp 0 p0 p1 wc HQ0 hs'.out b cap hwv);have HP4:=zc.mk HQ0;have HWV:=zc.mk hwv;have HXB:b<wc.heap.size:=by
  obtain⟨cells,hc⟩:=Kd.R_typed HQ0.wt b (by rw[hwv];rfl)
  exact(xe hc).1
 clear HQ0 HP3 hrv hwv;go_wp2_with fail;refine HTO.out.mono ?_;rintro ex wd ⟨rfl,hb⟩;have HP5:=zc.mk (HP4.out.step hb);have HB5:=zc.mk (Fr.below hb _ _ HB3.out);have y0:=(zg hb ⟨b,r'.length*3,none⟩ HXB).trans x0;have y1:=(zg hb ⟨b,r'.length*3+1,none⟩ HXB).trans x1;have y2:=(zg hb ⟨b,r'.length*3+2,none⟩ HXB).trans x2;have hwv:=HWV.out;clear HWV;subst hwv;have HPK:=zB w0 g _ c (tk::rest) _ _ ov' o' dp 0 p0 p1 wd HP5.out;have hpk:hdT (tk::rest)=tk.f1:=rfl;rw[hpk]at HPK;have HPK:=Lib.hid HPK;clear HP4 HB3 HTO x0 x1 x2 hb;go_wp2_with fail;refine HPK.out.mono ?_;rintro ex we ⟨rfl,rfl⟩;clear HPK;obtain⟨c0,c1,c2,c3,c4,c5,c6⟩:=HP5.out.cells;obtain⟨tb',off',hA,q0,q1,q2,q3⟩:=HP5.out.head;injection hA with hA;injection hA with e1 e2;subst e1 e2;rw[hn0]at c0;have HF:=zL w0 g _ c (tk::rest) _ _ ov' o' dp 0 p0 p1 wd HP5.out rfl 110 last hlast.out;unfold tkV at HF;have HF:=Lib.hid HF;have l0:wd.cell? ⟨bl,0,none⟩=some (.int .i64 last.f0):=by rw[j6 HB5.out];rfl
 have l1:wd.cell? ⟨bl,1,none⟩=some (.string last.f1):=by rw[j6 HB5.out];rfl
 have l2:wd.cell? ⟨bl,2,none⟩=some (.int .i64 last.f2):=by rw[j6 HB5.out];rfl
 have l3:wd.cell? ⟨bl,3,none⟩=some (.int .i64 last.f3):=by rw[j6 HB5.out];rfl
 generalize tk.f1=tx at*;generalize tk.f0=tkk at*;have h4:(tx.toList=[44]∧tkk=2∧¬1<x.f2)∨(tx.toList=[44]∧¬tkk=2)∨(tx.toList=[41]∧¬x.f2≤1)∨(¬tx.toList=[44]∧¬tx.toList=[41]):=by
  rcases HBD.out with⟨h1,h2⟩|⟨h1,h2⟩|⟨h1,h2⟩
  ·by_cases hk:tkk=2
   ·rcases h2 with h2|h2
    ·exact absurd hk h2
    ·exact .inl ⟨h1,hk,by omega⟩
   ·exact .inr (.inl ⟨h1,hk⟩)
  ·exact .inr (.inr (.inl ⟨h1,by omega⟩))
  ·exact .inr (.inr (.inr ⟨h1,h2⟩))
 clear HBD;rcases h4 with⟨h1,h2,h3⟩|⟨h1,h2⟩|⟨h1,h2⟩|⟨h1,h2⟩
 all_goals
  first
  |(have g1:(tx.toList==([44]:List UInt8))=true:=beq_iff_eq.2 h1;have g2:(tx.toList==([41]:List UInt8))=false:=beq_eq_false_iff_ne.2 (by rw[h1];decide))
  |(have g1:(tx.toList==([41]:List UInt8))=true:=beq_iff_eq.2 h1;have g2:(tx.toList==([44]:List UInt8))=false:=beq_eq_false_iff_ne.2 (by rw[h1];decide))
  |(have g1:(tx.toList==([44]:List UInt8))=false:=beq_eq_false_iff_ne.2 h1;have g2:(tx.toList==([41]:List UInt8))=false:=beq_eq_false_iff_ne.2 h2)
  go_wp2_with fail;refine HF.out.mono ?_;rintro ex wf ⟨rfl,hq2,hg⟩;go_wp2_with fail;exact hq.out _ _ rfl ⟨⟨_,_,_,_,_,_,hq2⟩⟩
end Go.Proofs.YtjopepfemhckjaaGreatDoor.NW
end
section
namespace Go.Proofs.YtjopepfemhckjaaGreatDoor.NW
open Go.Proofs Go.RowKit Go.Shelf Go.Proofs.YtjopepfemhckjaaGreatDoor.PN Go.Proofs.YtjopepfemhckjaaGreatDoorW.PrintWords Go.Proofs.YtjopepfemhckjaaGreatDoor.PParseTells
structure PSI (n:Nat) (s:PS):Prop where
 sz:SzOK s
 ok:s.e=0→s.p0=0∧s.p1=0
 len:s.toks.length≤n
section
variable {n:Nat} {s:PS}
theorem PSI.tl (h:PSI n s):PSI n s.tl:=⟨h.sz.tl,h.ok,Nat.le_trans (by show s.toks.tail.length≤s.toks.length;simp) h.len⟩
theorem PSI.fail (h:PSI n s)(er:Int)(he:er≠0)(last:S75):PSI n (s.fail er last):=by
 refine⟨h.sz.fail _ _,?_,?_⟩
 ·unfold PS.fail
  split
  ·exact fun e=>absurd e he
  ·exact h.ok
 ·unfold PS.fail
  split
  ·exact h.len
  ·exact h.len
theorem PSI.must (h:PSI n s)(x:ByteArray)(last:S75):PSI n (s.must x last):=by
 unfold PS.must;split
 ·exact h.tl
 ·exact h.fail _ (by decide) _
theorem PSI.take (h:PSI n s)(k:Int)(p:ByteArray→Bool):PSI n (s.take k p).1:=by
 unfold PS.take;split
 ·exact h.tl
 ·exact h
theorem PSI.nat (h:PSI n s)(p:ByteArray→Bool)(last:S75):PSI n (s.nat p last).1:=by
 unfold PS.nat;split
 ·exact h.tl
 ·exact h.fail _ (by decide) _
theorem PSI.day (h:PSI n s)(last:S75)(lo hi:Int):PSI n (s.day last lo hi).1:=h.nat _ _
theorem PSI.price (h:PSI n s)(op:Int)(last:S75):PSI n (s.price op last).1:=by
 unfold PS.price;simp only;have h3:PSI n (if((s.must ⟨#[40]⟩ last).take 0 (fun _=>true)).2.2=true then((s.must ⟨#[40]⟩ last).take 0 (fun _=>true)).1 else((s.must ⟨#[40]⟩ last).take 0 (fun _=>true)).1.fail 110 last):=by
  split
  ·exact(h.must _ _).take _ _
  ·exact((h.must _ _).take _ _).fail _ (by decide) _
 split
 ·exact((h3.must _ _).day _ _ _).must _ _
 ·exact((((h3.must _ _).day _ _ _).must _ _).day _ _ _).must _ _
theorem PSI.num (h:PSI n s)(last:S75):PSI n (s.num last).1:=
 (((((((h.must _ _).take _ _).nat _ _)).must _ _).nat _ _)).must _ _
theorem PSI.push (h:PSI n s)(dp:Int)(last:S75):PSI n (s.push dp last):=by
 unfold PS.push;split
 ·exact(h.fail _ (by decide) _).must _ _
 ·exact h.must _ _
end
def ps (toks:List S75):PS:=⟨toks,0,0,0⟩
inductive Run2 (last:S75):Nat→Bool→List S75→List S82→List Nd→Int→Res→Prop
 |oEnd (k r o dp):Run2 last (k+1) true [] r o dp (.err 110 (zC [] last).1 (zC [] last).2)
 |oNum (k t rest r o dp R z d) (hk:t.f0=1) (hn:NumT t.f1 z d) (h:Run2 last k false rest r (o++[.num z d]) dp R):Run2 last (k+1) true (t::rest) r o dp R
 |oNumB (k t rest r o dp z d) (hk:t.f0=1) (hn:NumB t.f1 z d):Run2 last (k+1) true (t::rest) r o dp (.err 110 t.f2 t.f3)
 |oNeg (k t rest r o dp R) (hk:t.f0=2) (ht:t.f1=⟨#[45]⟩) (h:Run2 last k true rest (⟨5,3,0⟩::r) o dp R):Run2 last (k+1) true (t::rest) r o dp R
 |oPar (k t rest r o dp R) (hk:t.f0=2) (ht:t.f1=⟨#[40]⟩) (hd:dp<200) (h:Run2 last k true rest (⟨-1,0,0⟩::r) o (dp+1) R):Run2 last (k+1) true (t::rest) r o dp R
 |oDeep (k t rest r o dp) (hk:t.f0=2) (ht:t.f1=⟨#[40]⟩) (hd:200≤dp):Run2 last (k+1) true (t::rest) r o dp (.err 111 t.f2 t.f3)
 |oBad (k t rest r o dp) (hk:t.f0=0) (hb:parse_known.f t.f1=some false) (ht:t.f1.toList≠[40]):Run2 last (k+1) true (t::rest) r o dp (.err 110 t.f2 t.f3)
 |oSign (k t rest r o dp) (hk:t.f0=2) (ht:t.f1.toList≠[45]) (ht2:t.f1.toList≠[40]):Run2 last (k+1) true (t::rest) r o dp (.err 110 t.f2 t.f3)
 |oPrice (k t rest r o dp R kk) (hk:t.f0=0) (ht:t.f1=nmP kk) (hkk:1≤kk∧kk≤4) (h:((ps rest).price kk last).1.e=0→Run2 last k false ((ps rest).price kk last).1.toks r (o++[((ps rest).price kk last).2]) dp R) (h2:((ps rest).price kk last).1.e≠0→R= .err ((ps rest).price kk last).1.e ((ps rest).price kk last).1.p0 ((ps rest).price kk last).1.p1):Run2 last (k+1) true (t::rest) r o dp R
 |oFun (k t rest r o dp R kk) (hk:t.f0=0) (ht:t.f1=nmF kk) (hkk:10≤kk∧kk≤12) (h:((ps rest).push dp last).e=0→Run2 last k true ((ps rest).push dp last).toks (⟨kk,0,nmA kk⟩::r) o (dp+1) R) (h2:((ps rest).push dp last).e≠0→R= .err ((ps rest).push dp last).e ((ps rest).push dp last).p0 ((ps rest).push dp last).p1):Run2 last (k+1) true (t::rest) r o dp R
 |oNumF (k t rest r o dp R) (hk:t.f0=0) (ht:t.f1=⟨#[110,117,109]⟩) (h:((ps rest).num last).1.e=0→Run2 last k false ((ps rest).num last).1.toks r (o++[((ps rest).num last).2]) dp R) (h2:((ps rest).num last).1.e≠0→R= .err ((ps rest).num last).1.e ((ps rest).num last).1.p0 ((ps rest).num last).1.p1):Run2 last (k+1) true (t::rest) r o dp R
 |pEnd (k r o dp o') (h:popR 1 r o=([],o')):Run2 last (k+1) false [] r o dp (.ok o')
 |pEndW (k r o dp x r' o') (h:popR 1 r o=(x::r',o')):Run2 last (k+1) false [] r o dp (.err 110 (zC [] last).1 (zC [] last).2)
 |pOp (k t rest r o dp R op rank r' o') (ho:parse_operator.f t.f0 t.f1 t.f2 t.f3=some (op,rank)) (hop:0≤op) (hr:1≤rank) (hr2:rank≤10) (hp:popR rank r o=(r',o')) (h:Run2 last k true rest (⟨op,rank,0⟩::r') o' dp R):Run2 last (k+1) false (t::rest) r o dp R
 |pShutP (k t rest r o dp R x r' o') (hk:t.f0=2) (ht:t.f1=⟨#[41]⟩) (hp:popR 1 r o=(x::r',o')) (hx:x.f2≤1) (hx0:x.f0<0) (h:Run2 last k false rest r' o' (dp-1) R):Run2 last (k+1) false (t::rest) r o dp R
 |pShutF (k t rest r o dp R x r' o' kk) (hk:t.f0=2) (ht:t.f1=⟨#[41]⟩) (hp:popR 1 r o=(x::r',o')) (hx:x.f2≤1) (hx0:x.f0=Int.ofNat kk) (h:Run2 last k false rest r' (o'++[.op kk]) (dp-1) R):Run2 last (k+1) false (t::rest) r o dp R
 |pComma (k t rest r o dp R x r' o') (hk:t.f0=2) (ht:t.f1=⟨#[44]⟩) (hp:popR 1 r o=(x::r',o')) (hx:1<x.f2) (h:Run2 last k true rest (⟨x.f0,x.f1,x.f2-1⟩::r') o' dp R):Run2 last (k+1) false (t::rest) r o dp R
 |pBadN (k t rest r o dp o' op0 rk0) (ho:parse_operator.f t.f0 t.f1 t.f2 t.f3=some (op0,rk0)) (hr:rk0≤0) (hp:popR 1 r o=([],o')):Run2 last (k+1) false (t::rest) r o dp (.err 110 t.f2 t.f3)
 |pBadX (k t rest r o dp x r' o' op0 rk0) (ho:parse_operator.f t.f0 t.f1 t.f2 t.f3=some (op0,rk0)) (hr:rk0≤0) (hp:popR 1 r o=(x::r',o')) (hbad:(t.f1.toList=[44]∧(t.f0≠2∨x.f2≤1))∨(t.f1.toList=[41]∧1<x.f2)∨(t.f1.toList≠[44]∧t.f1.toList≠[41])):Run2 last (k+1) false (t::rest) r o dp (.err 110 t.f2 t.f3)
end Go.Proofs.YtjopepfemhckjaaGreatDoor.NW
end
