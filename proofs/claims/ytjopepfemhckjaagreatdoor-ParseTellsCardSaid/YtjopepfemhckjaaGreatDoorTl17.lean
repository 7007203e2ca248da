/-
  Part 17 of the proof of parseTells_holds: texts of this seat, put together.
-/
import Derived.Deep.RegionLaw
import Derived.Test.YtjopepfemhckjaaGreatDoorTl16
set_option linter.unusedVariables false
set_option linter.unusedSimpArgs false
set_option maxHeartbeats 16000000
set_option maxRecDepth 100000
section
namespace Go.Proofs.YtjopepfemhckjaaGreatDoor.NW
open Go.Proofs Go.RowKit Go.Shelf Go.Proofs.YtjopepfemhckjaaGreatDoor.PN Go.Proofs.YtjopepfemhckjaaGreatDoorW.PrintWords Go.Proofs.YtjopepfemhckjaaGreatDoor.PParseTells
theorem small_at (n:Nat)(hn:n≤99999)(w:World):
 Calls Tryz.prog 150 #[.string (natS n)] w fun ex w'=>ex= .returned (.tuple #[.int .i64 n,.bool true])∧Below w.heap.size w w':=by
 have hsz:(natS n).size≤18:=by
  have e:(natS n).size=(Lib.decDigits n).length:=by show(natS n).data.toList.length=_;rw[zq]
  have:=zH n 5 (by omega) (by omega)
  omega
 have H1:=fun W=>Lib.hid (jS (natS n) (by omega) W)
 rw[qd]at H1;have h2:=atoi_dv (natS n).data.toList (zh n).1.dig (zh n).1.ne;rw[(zh n).2]at h2;have H2:=fun W=>Lib.hid (Tryz.strconv_Atoi (natS n) _ hsz h2 W)
 clear hsz h2;generalize natS n=s at*;go_enter Tryz.func150,Tryz.ntmps150
 go_wp2_with fail;refine(H1 _).out.mono ?_;rintro ex w1 ⟨rfl,hb1⟩;go_wp2_with fail;refine(H2 _).out.mono ?_;rintro ex w2 ⟨rfl,tt,rfl⟩;go_wp2_with fail;refine bodyPost_ret (results_tmp2 rfl _ _ _) rfl ?_;exact⟨rfl,by first|exact hb1.trans ((Lib.bytesWorld_below _ _ _).mono hb1.size)|exact hb1.trans (Below.mono ((xb _ _).alloc (xc _) _) hb1.size)⟩
theorem qT:∀(args:Array Value) (w:World),(callFunc 151 args).run Tryz.prog w= .ok (.enter 151 args) w:=Go.Proofs.enters_of Tryz.func151 (by kernel_rfl) rfl
theorem enters_day1:∀(args:Array Value) (w:World),(callFunc 149 args).run Tryz.prog w= .ok (.enter 149 args) w:=Go.Proofs.enters_of Tryz.func149 (by kernel_rfl) rfl
theorem day1_at (n:Nat)(hn:n≤9999)(b1 b2:Nat)(lo hi:Int)(h1:lo≤n)(h2:(n:Int)≤hi)(w:World)(c1:w.cell? ⟨b1,0,none⟩=some (.int .i64 lo))(c2:w.cell? ⟨b2,0,none⟩=some (.int .i64 hi))(l1:b1<w.heap.size)(l2:b2<w.heap.size):
 Calls Tryz.prog 149 #[.string (natS n),.pointer (some ⟨b1,0,none⟩),.pointer (some ⟨b2,0,none⟩)] w fun ex w'=>ex= .returned (.bool true)∧Below w.heap.size w w':=by
 have H1:=fun W=>Lib.hid (small_at n (by omega) W)
 have hn2:(n:Int)≤9999:=by omega
 have hmin:(n:Int)≤min hi 9999:=by omega
 generalize natS n=s at*;go_enter Tryz.func149,Tryz.ntmps149
 go_wp2_with fail;refine(H1 _).out.mono ?_;rintro ex w1 ⟨rfl,hb1⟩;have d1:=(zg hb1 ⟨b1,0,none⟩ l1).trans c1;have d2:=(zg hb1 ⟨b2,0,none⟩ l2).trans c2;clear c1 c2;go_wp2_with fail;go_ret;exact⟨by simp[*],hb1⟩
theorem nat1_at (n:Nat)(hsz:(natS n).size≤1000000)(b:Nat)(fid:FuncId)(v1 v2:Value)(he:∀(args:Array Value) (w:World),(callFunc fid args).run Tryz.prog w= .ok (.enter fid args) w)(w:World)(hc:w.cell? ⟨b,0,none⟩=some (.func (.func fid) #[] #[v1,v2]))(hb:b<w.heap.size)(hf:∀W,Below w.heap.size w W→Calls Tryz.prog fid #[.string (natS n),v1,v2] W fun ex w'=>ex= .returned (.bool true)∧Below W.heap.size W w'):
 Calls Tryz.prog 151 #[.string (natS n),.pointer (some ⟨b,0,none⟩)] w fun ex w'=>ex= .returned (.bool true)∧Below w.heap.size w w':=by
 have H1:=fun W=>Lib.hid (jS (natS n) hsz W)
 rw[qd]at H1;have HF:=fun W hb=>Lib.hid (hf W hb)
 clear hf hsz;generalize natS n=s at*;go_enter Tryz.func151,Tryz.ntmps151
 go_wp2_with fail;refine(H1 _).out.mono ?_;rintro ex w1 ⟨rfl,hb1⟩;have d1:=(zg hb1 ⟨b,0,none⟩ hb).trans hc;clear hc H1;go_wp2_with fail;refine(HF _ hb1).out.mono ?_;rintro ex w2 ⟨rfl,hb2⟩;have hb3:=hb1.trans (hb2.mono hb1.size);go_wp2_with fail;go_ret;exact⟨rfl,hb3⟩
theorem naturalYes_at (w0:World)(g:Nat)(A:Option Addr)(c:Nat)(t:S75)(rest:List S75)(wv:Value)(wait:List S82)(ov:Value)(out:List Nd)(dp e p0 p1:Int)(w:World)(h:PB w0 g A c (t::rest) wv wait ov out dp e p0 p1 w)(he0:e=0)(hk:t.f0=1)(n:Nat)(hn:t.f1=natS n)(hsz:(natS n).size≤1000000)(last:S75)(fid:FuncId)(v1 v2:Value)(he:∀(args:Array Value) (w:World),(callFunc fid args).run Tryz.prog w= .ok (.enter fid args) w)(hf:∀W,Below w.heap.size w W→Calls Tryz.prog fid #[.string (natS n),v1,v2] W fun ex w'=>ex= .returned (.bool true)∧Below W.heap.size W w'):
 Calls Tryz.prog 115 #[.pointer (some ⟨g,0,none⟩),tkV last,.func (.func fid) #[] #[v1,v2]] w fun ex w'=>ex= .returned (.string (natS n))∧PB w0 g (nxA c A) (c-1) rest wv wait ov out dp e p0 p1 w'∧w.grownBy w' (some g):=by
 have hb0:=((xb w.heap.size w).alloc (xc _) (.cells #[.int .i64 last.f0,.string last.f1,.int .i64 last.f2,.int .i64 last.f3] 75)).alloc (by simp) (.cells #[.func (.func fid) #[] #[v1,v2]] 29)
 have HQ:=h.step hb0;have hsize:(w.alloc (.cells #[.int .i64 last.f0,.string last.f1,.int .i64 last.f2,.int .i64 last.f3] 75)).heap.size=w.heap.size+1:=by simp
 have k1:=j7 (w.alloc (.cells #[.int .i64 last.f0,.string last.f1,.int .i64 last.f2,.int .i64 last.f3] 75)) (.cells #[.func (.func fid) #[] #[v1,v2]] 29);rw[hsize]at k1;have HT:=jr w0 g A c t rest wv wait ov out dp e p0 p1 _ HQ he0 151 (.pointer (some ⟨w.heap.size+1,0,none⟩)) qT (by
  rw[hn];exact nat1_at n hsz (w.heap.size+1) fid v1 v2 he _ (by rw[j6 k1];rfl) (by simp) (fun W hb=>hf W (hb0.trans (hb.mono hb0.size))))
 rw[hk,hn]at HT;have HT:=Lib.hid HT;have HB0:=zc.mk hb0;clear h HQ k1 hf hb0 hsize;unfold tkV;generalize natS n=s at*;go_enter Tryz.func115,Tryz.ntmps115
 go_wp2_with fail;refine HT.out.mono ?_;rintro ex w1 ⟨rfl,hq1,hg1⟩;go_wp2_with fail;go_ret;exact⟨rfl,hq1,gtr (zl HB0.out _) hg1⟩
theorem dayYes_at (w0:World)(g:Nat)(A:Option Addr)(c:Nat)(t:S75)(rest:List S75)(wv:Value)(wait:List S82)(ov:Value)(out:List Nd)(dp e p0 p1:Int)(w:World)(h:PB w0 g A c (t::rest) wv wait ov out dp e p0 p1 w)(he0:e=0)(hk:t.f0=1)(n:Nat)(hn:t.f1=natS n)(hn9:n≤9999)(lo hi:Int)(h1:lo≤n)(h2:(n:Int)≤hi)(last:S75):
 Calls Tryz.prog 113 #[.pointer (some ⟨g,0,none⟩),tkV last,.int .i64 lo,.int .i64 hi] w fun ex w'=>ex= .returned (.int .i64 n)∧PB w0 g (nxA c A) (c-1) rest wv wait ov out dp e p0 p1 w'∧w.grownBy w' (some g):=by
 have hb0:=(((xb w.heap.size w).alloc (xc _) (.cells #[.int .i64 last.f0,.string last.f1,.int .i64 last.f2,.int .i64 last.f3] 75)).alloc (by simp) (.cells #[.int .i64 lo] 3)).alloc (by simp<;>omega) (.cells #[.int .i64 hi] 3)
 have HQ:=h.step hb0;have s1:(w.alloc (.cells #[.int .i64 last.f0,.string last.f1,.int .i64 last.f2,.int .i64 last.f3] 75)).heap.size=w.heap.size+1:=by simp
 have s2:((w.alloc (.cells #[.int .i64 last.f0,.string last.f1,.int .i64 last.f2,.int .i64 last.f3] 75)).alloc (.cells #[.int .i64 lo] 3)).heap.size=w.heap.size+2:=by simp
 have k1:=(Lib.alloc_old ((w.alloc (.cells #[.int .i64 last.f0,.string last.f1,.int .i64 last.f2,.int .i64 last.f3] 75)).alloc (.cells #[.int .i64 lo] 3)) (.cells #[.int .i64 hi] 3) (w.alloc (.cells #[.int .i64 last.f0,.string last.f1,.int .i64 last.f2,.int .i64 last.f3] 75)).heap.size (by simp)).trans (j7 (w.alloc (.cells #[.int .i64 last.f0,.string last.f1,.int .i64 last.f2,.int .i64 last.f3] 75)) (.cells #[.int .i64 lo] 3))
 rw[s1]at k1;have k2:=j7 ((w.alloc (.cells #[.int .i64 last.f0,.string last.f1,.int .i64 last.f2,.int .i64 last.f3] 75)).alloc (.cells #[.int .i64 lo] 3)) (.cells #[.int .i64 hi] 3);rw[s2]at k2;have k0:=(Lib.alloc_old ((w.alloc (.cells #[.int .i64 last.f0,.string last.f1,.int .i64 last.f2,.int .i64 last.f3] 75)).alloc (.cells #[.int .i64 lo] 3)) (.cells #[.int .i64 hi] 3) w.heap.size (by simp<;>omega)).trans ((Lib.alloc_old (w.alloc (.cells #[.int .i64 last.f0,.string last.f1,.int .i64 last.f2,.int .i64 last.f3] 75)) (.cells #[.int .i64 lo] 3) w.heap.size (by simp)).trans (j7 w (.cells #[.int .i64 last.f0,.string last.f1,.int .i64 last.f2,.int .i64 last.f3] 75)))
 have hsz:(natS n).size≤1000000:=by
  have e:(natS n).size=(Lib.decDigits n).length:=by show(natS n).data.toList.length=_;rw[zq]
  have:=zH n 5 (by omega) (by omega)
  omega
 have HT:=naturalYes_at w0 g A c t rest wv wait ov out dp e p0 p1 _ HQ he0 hk n hn hsz last 149 (.pointer (some ⟨w.heap.size+1,0,none⟩)) (.pointer (some ⟨w.heap.size+2,0,none⟩)) enters_day1 (fun W hb=>day1_at n hn9 _ _ lo hi h1 h2 W ((zg hb _ (by simp<;>omega)).trans (by rw[j6 k1];rfl)) ((zg hb _ (by simp)).trans (by rw[j6 k2];rfl)) (Nat.lt_of_lt_of_le (by simp<;>omega) hb.size) (Nat.lt_of_lt_of_le (by simp) hb.size))
 have HT:=Lib.hid HT;have HS:=fun W=>Lib.hid (small_at n (by omega) W)
 have HB0:=zc.mk hb0;have K0:=zc.mk k0;have hlst:w.heap.size<(((w.alloc (.cells #[.int .i64 last.f0,.string last.f1,.int .i64 last.f2,.int .i64 last.f3] 75)).alloc (.cells #[.int .i64 lo] 3)).alloc (.cells #[.int .i64 hi] 3)).heap.size:=by simp<;>omega
 have l0:(((w.alloc (.cells #[.int .i64 last.f0,.string last.f1,.int .i64 last.f2,.int .i64 last.f3] 75)).alloc (.cells #[.int .i64 lo] 3)).alloc (.cells #[.int .i64 hi] 3)).cell? ⟨w.heap.size,0,none⟩=some (.int .i64 last.f0):=by rw[j6 k0];rfl
 have l1:(((w.alloc (.cells #[.int .i64 last.f0,.string last.f1,.int .i64 last.f2,.int .i64 last.f3] 75)).alloc (.cells #[.int .i64 lo] 3)).alloc (.cells #[.int .i64 hi] 3)).cell? ⟨w.heap.size,1,none⟩=some (.string last.f1):=by rw[j6 k0];rfl
 have l2:(((w.alloc (.cells #[.int .i64 last.f0,.string last.f1,.int .i64 last.f2,.int .i64 last.f3] 75)).alloc (.cells #[.int .i64 lo] 3)).alloc (.cells #[.int .i64 hi] 3)).cell? ⟨w.heap.size,2,none⟩=some (.int .i64 last.f2):=by rw[j6 k0];rfl
 have l3:(((w.alloc (.cells #[.int .i64 last.f0,.string last.f1,.int .i64 last.f2,.int .i64 last.f3] 75)).alloc (.cells #[.int .i64 lo] 3)).alloc (.cells #[.int .i64 hi] 3)).cell? ⟨w.heap.size,3,none⟩=some (.int .i64 last.f3):=by rw[j6 k0];rfl
 clear h HQ k0 k1 k2 hb0 s1 s2 hsz hlst;unfold tkV at*;generalize natS n=s at*;go_enter Tryz.func113,Tryz.ntmps113
 go_wp2_with fail;refine HT.out.mono ?_;rintro ex w1 ⟨rfl,hq1,hg1⟩;have HQ1:=zc.mk hq1;have HG1:=zc.mk (gtr (zl HB0.out _) hg1);clear hq1 hg1 l0 l1 l2 l3 HT HB0 K0;go_wp2_with fail;refine(HS _).out.mono ?_;rintro ex w2 ⟨rfl,hb2⟩;have HQ2:=zc.mk (HQ1.out.step hb2);have HG2:=zc.mk (gtr HG1.out (zl hb2 _));go_wp2_with fail;go_ret;exact⟨rfl,HQ2.out,HG2.out⟩
def Fr (w w':World):Prop:=∀(b:Nat) (cs:Array Value),w.heap[b]? =some (.cells cs 75)→w'.heap[b]? =some (.cells cs 75)
theorem Fr.refl (w:World):Fr w w:=fun _ _ h=>h
theorem Fr.trans {w w1 w2:World}(h:Fr w w1)(k:Fr w1 w2):Fr w w2:=fun b cs hb=>k b cs (h b cs hb)
theorem Fr.below {w w1:World}(h:Below w.heap.size w w1):Fr w w1:=fun b cs hb=>(h.block b (xe hb).1).trans hb
theorem Fr.grown {w w1:World}{r:Option Nat}(h:w.grownBy w1 r)(hr:∀k,r=some k→∃cs t,w.heap[k]? =some (.cells cs t)∧t≠75):Fr w w1:=by
 intro b cs hb;refine(h.block b (xe hb).1 ?_).trans hb;intro hbr;obtain⟨cs2,t,h2,h3⟩:=hr b hbr.symm;rw[hb]at h2;injection h2 with h2;injection h2 with h4 h5;exact h3 h5.symm
theorem PB.fr {w0:World}{g:Nat}{A:Option Addr}{c:Nat}{toks:List S75}{wv:Value}{wait:List S82}{ov:Value}{out:List Nd}{dp e p0 p1:Int}{w w':World}(h:PB w0 g A c toks wv wait ov out dp e p0 p1 w)(hg:w.grownBy w' (some g)):Fr w w':=
 Fr.grown hg (fun k hk=>by injection hk with hk;subst hk;exact⟨_,_,h.blk,by decide⟩)
theorem PB.frW {w0:World}{g:Nat}{A:Option Addr}{c:Nat}{toks:List S75}{wv:Value}{wait:List S82}{ov:Value}{out:List Nd}{dp e p0 p1:Int}{w w':World}(h:PB w0 g A c toks wv wait ov out dp e p0 p1 w)(hg:w.grownBy w' wv.ownBlock):Fr w w':=
 Fr.grown hg (fun k hk=>by obtain⟨cells,hc⟩:=Kd.R_typed h.wt k hk;exact⟨_,_,hc,by decide⟩)
theorem PB.frO {w0:World}{g:Nat}{A:Option Addr}{c:Nat}{toks:List S75}{wv:Value}{wait:List S82}{ov:Value}{out:List Nd}{dp e p0 p1:Int}{w w':World}(h:PB w0 g A c toks wv wait ov out dp e p0 p1 w)(hg:w.grownBy w' ov.ownBlock):Fr w w':=
 Fr.grown hg (fun k hk=>by obtain⟨cells,hc⟩:=Kd.R_typed h.ou k hk;exact⟨_,_,hc,by decide⟩)
theorem enters_pr1:∀(args:Array Value) (w:World),(callFunc 112 args).run Tryz.prog w= .ok (.enter 112 args) w:=Go.Proofs.enters_of Tryz.func112 (by kernel_rfl) rfl
theorem pr1_at (t:ByteArray)(w:World):Calls Tryz.prog 112 #[.string t] w fun ex w'=>ex= .returned (.bool true)∧Below w.heap.size w w':=by
 go_enter Tryz.func112,Tryz.ntmps112
 go_wp2_with fail;go_ret;exact⟨rfl,xb _ _⟩
theorem pricePx_at (w0:World)(g:Nat)(A:Option Addr)(c:Nat)(t1 t2 t3 t4 t5:S75)(rest:List S75)(wv:Value)(wait:List S82)(ov:Value)(out:List Nd)(dp e p0 p1:Int)(w:World)(h:PB w0 g A c (t1::t2::t3::t4::t5::rest) wv wait ov out dp e p0 p1 w)(he0:e=0)
 (k1:t1.f0=2∧t1.f1=⟨#[40]⟩)(k2:t2.f0=0)(k3:t3.f0=2∧t3.f1=⟨#[44]⟩)(n:Nat)(k4:t4.f0=1∧t4.f1=natS n)(hn:n≤9999)(k5:t5.f0=2∧t5.f1=⟨#[41]⟩)(last:S75)(hout:out.length≤100000):
 Calls Tryz.prog 78 #[.pointer (some ⟨g,0,none⟩),.int .i64 1,tkV last] w fun ex w'=>ex= .returned (.tuple #[])∧(∃A' c' ov',PB w0 g A' c' rest wv wait ov' (out++[.px t2.f1 n]) dp e p0 p1 w')∧Fr w w':=by
 have hb0:=(xb w.heap.size w).alloc (xc _) (.cells #[.int .i64 last.f0,.string last.f1,.int .i64 last.f2,.int .i64 last.f3] 75);have HQ:=zc.mk (h.step hb0);have K0:=zc.mk (j7 w (.cells #[.int .i64 last.f0,.string last.f1,.int .i64 last.f2,.int .i64 last.f3] 75));have HM1:=Lib.hid (qH w0 g A c t1 (t2::t3::t4::t5::rest) wv wait ov out dp e p0 p1 _ HQ.out he0 k1.1 _ k1.2 last);have HFR:=zc.mk (Fr.below hb0);subst he0;obtain⟨k1a,k1b⟩:=k1;obtain⟨k3a,k3b⟩:=k3;obtain⟨k4a,k4b⟩:=k4;obtain⟨k5a,k5b⟩:=k5;have KK:=zc.mk (And.intro k2 (And.intro k3a (And.intro k3b (And.intro k4a (And.intro k4b (And.intro k5a k5b))))));have HN:=zc.mk hn;have HO:=zc.mk hout;have l0:(w.alloc (.cells #[.int .i64 last.f0,.string last.f1,.int .i64 last.f2,.int .i64 last.f3] 75)).cell? ⟨w.heap.size,0,none⟩=some (.int .i64 last.f0):=by rw[j6 K0.out];rfl
 have l1:(w.alloc (.cells #[.int .i64 last.f0,.string last.f1,.int .i64 last.f2,.int .i64 last.f3] 75)).cell? ⟨w.heap.size,1,none⟩=some (.string last.f1):=by rw[j6 K0.out];rfl
 have l2:(w.alloc (.cells #[.int .i64 last.f0,.string last.f1,.int .i64 last.f2,.int .i64 last.f3] 75)).cell? ⟨w.heap.size,2,none⟩=some (.int .i64 last.f2):=by rw[j6 K0.out];rfl
 have l3:(w.alloc (.cells #[.int .i64 last.f0,.string last.f1,.int .i64 last.f2,.int .i64 last.f3] 75)).cell? ⟨w.heap.size,3,none⟩=some (.int .i64 last.f3):=by rw[j6 K0.out];rfl
 clear h hb0 k2 k1a k1b k3a k3b k4a k4b k5a k5b hn hout;unfold tkV at*;go_enter Tryz.func78,Tryz.ntmps78
 go_wp2_with fail;generalize w.alloc (.cells #[.int .i64 last.f0,.string last.f1,.int .i64 last.f2,.int .i64 last.f3] 75)=wa at*;refine HM1.out.mono ?_;rintro ex wb ⟨rfl,hq,hg⟩;have HF1:=zc.mk (HFR.out.trans (HQ.out.fr hg));have K1:=zc.mk ((HQ.out.fr hg) _ _ K0.out);have HQ1:=zc.mk hq;generalize nxA c A=A1 at*;generalize c-1=c1 at*;clear l0 l1 l2 l3 HM1 HQ HFR K0 hq hg;have HT:=qN w0 g A1 c1 t2 (t3::t4::t5::rest) wv wait ov out dp 0 p0 p1 _ HQ1.out rfl 112 enters_pr1 (pr1_at t2.f1 _);rw[KK.out.1]at HT;have HT:=Lib.hid HT;go_wp2_with fail;refine HT.out.mono ?_;rintro ex wc ⟨rfl,hq,hg⟩;have HF2:=zc.mk (HF1.out.trans (HQ1.out.fr hg));have K2:=zc.mk ((HQ1.out.fr hg) _ _ K1.out);have HQ2:=zc.mk hq;generalize nxA c1 A1=A2 at*;generalize c1-1=c2 at*;clear HT HQ1 HF1 K1 hq hg;have l0:wc.cell? ⟨w.heap.size,0,none⟩=some (.int .i64 last.f0):=by rw[j6 K2.out];rfl
 have l1:wc.cell? ⟨w.heap.size,1,none⟩=some (.string last.f1):=by rw[j6 K2.out];rfl
 have l2:wc.cell? ⟨w.heap.size,2,none⟩=some (.int .i64 last.f2):=by rw[j6 K2.out];rfl
 have l3:wc.cell? ⟨w.heap.size,3,none⟩=some (.int .i64 last.f3):=by rw[j6 K2.out];rfl
 have HM2:=qH w0 g A2 c2 t3 (t4::t5::rest) wv wait ov out dp 0 p0 p1 _ HQ2.out rfl KK.out.2.1 _ KK.out.2.2.1 last;unfold tkV at HM2;have HM2:=Lib.hid HM2;go_wp2_with fail;refine HM2.out.mono ?_;rintro ex wd ⟨rfl,hq,hg⟩;have HF3:=zc.mk (HF2.out.trans (HQ2.out.fr hg));have K3:=zc.mk ((HQ2.out.fr hg) _ _ K2.out);have HQ3:=zc.mk hq;generalize nxA c2 A2=A3 at*;generalize c2-1=c3 at*;clear HM2 HQ2 HF2 K2 hq hg l0 l1 l2 l3;have l0:wd.cell? ⟨w.heap.size,0,none⟩=some (.int .i64 last.f0):=by rw[j6 K3.out];rfl
 have l1:wd.cell? ⟨w.heap.size,1,none⟩=some (.string last.f1):=by rw[j6 K3.out];rfl
 have l2:wd.cell? ⟨w.heap.size,2,none⟩=some (.int .i64 last.f2):=by rw[j6 K3.out];rfl
 have l3:wd.cell? ⟨w.heap.size,3,none⟩=some (.int .i64 last.f3):=by rw[j6 K3.out];rfl
 have HM3:=dayYes_at w0 g A3 c3 t4 (t5::rest) wv wait ov out dp 0 p0 p1 _ HQ3.out rfl KK.out.2.2.2.1 n KK.out.2.2.2.2.1 HN.out 0 9999 (by omega) (by have:=HN.out;omega) last
 unfold tkV at HM3;have HM3:=Lib.hid HM3;go_wp2_with fail;refine HM3.out.mono ?_;rintro ex we ⟨rfl,hq,hg⟩;have HF4:=zc.mk (HF3.out.trans (HQ3.out.fr hg));have K4:=zc.mk ((HQ3.out.fr hg) _ _ K3.out);generalize nxA c3 A3=A4 at*;generalize c3-1=c4 at*;clear HM3 HQ3 HF3 K3 hg l0 l1 l2 l3;have hb1:=(xb we.heap.size we).alloc (xc _) (.cells #[.int .i64 1,.string ⟨#[]⟩,.string ⟨#[]⟩,.string t2.f1,.int .i64 (n:Int),.int .i64 0] 37);have HQ4:=zc.mk (hq.step hb1);have HF5:=zc.mk (HF4.out.trans (Fr.below hb1));have K5:=zc.mk ((Fr.below hb1) _ _ K4.out);have N5:=zc.mk (j7 we (.cells #[.int .i64 1,.string ⟨#[]⟩,.string ⟨#[]⟩,.string t2.f1,.int .i64 (n:Int),.int .i64 0] 37));have hwe:w.heap.size<we.heap.size:=(xe K4.out).1;clear hb1 hq HF4 K4;have l0:(we.alloc (.cells #[.int .i64 1,.string ⟨#[]⟩,.string ⟨#[]⟩,.string t2.f1,.int .i64 (n:Int),.int .i64 0] 37)).cell? ⟨w.heap.size,0,none⟩=some (.int .i64 last.f0):=by rw[j6 K5.out];rfl
 have l1:(we.alloc (.cells #[.int .i64 1,.string ⟨#[]⟩,.string ⟨#[]⟩,.string t2.f1,.int .i64 (n:Int),.int .i64 0] 37)).cell? ⟨w.heap.size,1,none⟩=some (.string last.f1):=by rw[j6 K5.out];rfl
 have l2:(we.alloc (.cells #[.int .i64 1,.string ⟨#[]⟩,.string ⟨#[]⟩,.string t2.f1,.int .i64 (n:Int),.int .i64 0] 37)).cell? ⟨w.heap.size,2,none⟩=some (.int .i64 last.f2):=by rw[j6 K5.out];rfl
 have l3:(we.alloc (.cells #[.int .i64 1,.string ⟨#[]⟩,.string ⟨#[]⟩,.string t2.f1,.int .i64 (n:Int),.int .i64 0] 37)).cell? ⟨w.heap.size,3,none⟩=some (.int .i64 last.f3):=by rw[j6 K5.out];rfl
 have HM4:=qH w0 g A4 c4 t5 rest wv wait ov out dp 0 p0 p1 _ HQ4.out rfl KK.out.2.2.2.2.2.1 _ KK.out.2.2.2.2.2.2 last;unfold tkV at HM4;have HM4:=Lib.hid HM4;go_wp2_with fail;generalize we.alloc (.cells #[.int .i64 1,.string ⟨#[]⟩,.string ⟨#[]⟩,.string t2.f1,.int .i64 (n:Int),.int .i64 0] 37)=wf at*;refine HM4.out.mono ?_;rintro ex wg ⟨rfl,hq,hg⟩;have HF6:=zc.mk (HF5.out.trans (HQ4.out.fr hg));have hne:we.heap.size≠g:=by
  intro he;have h1:=N5.out;rw[he,HQ4.out.blk]at h1;injection h1 with h1;injection h1 with _ h2;cases h2
 have N6:=zc.mk ((hg.block _ (xe N5.out).1 (fun he=>hne (by injection he))).trans N5.out)
 generalize nxA c4 A4=A5 at*;generalize c4-1=c5 at*;have HQ5:=zc.mk hq;clear HM4 HQ4 HF5 K5 hg hq N5 l0 l1 l2 l3 hne;obtain⟨d0,d1,d2,d3,d4,d5,d6⟩:=HQ5.out.cells;obtain⟨r0,r1,r2,r3,r4,r5,r6⟩:=(HQ5.out.step ((xb _ _).drew)).cells;have m0:wg.cell? ⟨we.heap.size,0,none⟩=some (.int .i64 1):=by rw[j6 N6.out];rfl
 have m1:wg.cell? ⟨we.heap.size,1,none⟩=some (.string ⟨#[]⟩):=by rw[j6 N6.out];rfl
 have m2:wg.cell? ⟨we.heap.size,2,none⟩=some (.string ⟨#[]⟩):=by rw[j6 N6.out];rfl
 have m3:wg.cell? ⟨we.heap.size,3,none⟩=some (.string t2.f1):=by rw[j6 N6.out];rfl
 have m4:wg.cell? ⟨we.heap.size,4,none⟩=some (.int .i64 (n:Int)):=by rw[j6 N6.out];rfl
 have m5:wg.cell? ⟨we.heap.size,5,none⟩=some (.int .i64 0):=by rw[j6 N6.out];rfl
 have hbytes:((out.map nd37).length+1)*72≤140737488355328:=by rw[List.length_map];have:=HO.out;omega
 have HQD:=zc.mk (HQ5.out.step ((xb _ _).drew));have hgl:=HQ5.out.lt;go_wp2_with fail;go_region_law ((refine Kd.R_append_step k37 (w0:=w0) (W:=wg.drew) w0.heap.size (by rfl) (.tmp 53) (.tmp 55) 24 37 (.agg #[.int .i64 0,.string ⟨#[]⟩,.string ⟨#[]⟩,.string ⟨#[]⟩,.int .i64 0,.int .i64 0]) 72 (by rfl) Tryz.underlying24 zS (by rfl) (by decide) (by omega) ov (out.map nd37) (nd37 (.px t2.f1 n)) [.int .i64 1,.string ⟨#[]⟩,.string ⟨#[]⟩,.string t2.f1,.int .i64 (n:Int),.int .i64 0] (fun k=>k≠g) (fun _=>False) (by rfl) (by rfl) (zE _ _ _ (nd37 (.px t2.f1 n))) (fun _ hk=>hk.elim) (fun k hk=>by have:=HQ5.out.lt;have:=HQD.out.lt;omega) HQD.out.ou HQD.out.bl HQD.out.bl.size hbytes ?_;intro v1 w1 hv1 hb1 hg1 ho1;have hl1:(out.map nd37++[nd37 (.px t2.f1 n)]).length=out.length+1:=(by simp);obtain⟨Av,cv,hvv⟩:=Kd.R_slice hv1;rw[hl1]at hvv;subst hvv;have hk1:=(hg1.block g HQD.out.lt (fun hh=>HQD.out.ou.1 _ hh.symm rfl)).trans HQD.out.blk;have hz1:w1.frozen? ⟨g,2,none⟩=false:=Lib.frozen_of_heap hk1 2;have hc1:w1.cell? ⟨g,2,none⟩=some ov:=(by rw[j6 hk1];rfl);have HK1:=zc.mk hk1;clear hk1))
 all_goals(
  have HQ6:=HQD.out.newO hb1 hg1 (out1:=out++[.px t2.f1 n]) (by rw[List.map_append];exact hv1)
  have HF7:=(HF6.out.trans ((Fr.below ((xb wg.heap.size wg).drew)).trans (HQD.out.frO hg1))).trans (Fr.grown (gst (World.grownBy.refl w1 (some g)) 2 (.slice Av (out.length+1) cv)) (fun k hk=>by injection hk with hk;subst hk;exact⟨_,_,HK1.out,by decide⟩))
  go_wp2_with fail;first
  |(refine bodyPost_end (v:= .tuple #[]) (by simp[results,Tryz.f78,go_sem]) rfl ?_;exact⟨rfl,⟨A5,c5,_,HQ6⟩,HF7⟩)
  |(refine bodyPost_end (v:= .tuple #[]) (by simp[results,Tryz.f78,go_sem]) rfl ?_;exact⟨rfl,⟨A5,c5,_,HQ6.step ((xb _ _).drew)⟩,HF7.trans (Fr.below ((xb _ _).drew))⟩))
end Go.Proofs.YtjopepfemhckjaaGreatDoor.NW
end
section
namespace Go.Proofs.YtjopepfemhckjaaGreatDoor.NW
open Go.Proofs Go.RowKit Go.Shelf Go.Proofs.YtjopepfemhckjaaGreatDoor.PN Go.Proofs.YtjopepfemhckjaaGreatDoorW.PrintWords Go.Proofs.YtjopepfemhckjaaGreatDoor.PParseTells
structure PS where
 toks:List S75
 e:Int
 p0:Int
 p1:Int
def qz (last:S75):Prop:=0≤last.f3∧last.f3+last.f1.size≤1000000
def PS.fail (s:PS)(er:Int)(last:S75):PS:=if s.e=0 then⟨s.toks,er,(zC s.toks last).1,(zC s.toks last).2⟩else s
def PS.has (s:PS)(kind:Int)(p:ByteArray→Bool):Bool:=tkOK s.e kind p s.toks
def PS.tl (s:PS):PS:=⟨s.toks.tail,s.e,s.p0,s.p1⟩
def PS.take (s:PS)(kind:Int)(p:ByteArray→Bool):PS×ByteArray×Bool:=if s.has kind p=true then(s.tl,hdT s.toks,true)else(s,⟨#[]⟩,false)
def PS.must (s:PS)(x:ByteArray)(last:S75):PS:=if s.has 2 (fun t=>t.toList==x.toList)=true then s.tl else s.fail 110 last
def PS.nat (s:PS)(hp:ByteArray→Bool)(last:S75):PS×ByteArray:=if s.has 1 (fun t=>isNatB t.data.toList&&hp t)=true then(s.tl,hdT s.toks)else(s.fail 110 last,⟨#[]⟩)
def PBS (w0:World)(g:Nat)(wv:Value)(wait:List S82)(ov:Value)(out:List Nd)(dp:Int)(s:PS)(w:World):Prop:=∃A c,PB w0 g A c s.toks wv wait ov out dp s.e s.p0 s.p1 w
section
variable {w0:World} {g:Nat} {wv:Value} {wait:List S82} {ov:Value} {out:List Nd} {dp:Int} {s:PS} {w w':World}
theorem PBS.step (h:PBS w0 g wv wait ov out dp s w)(hb:Below w.heap.size w w'):PBS w0 g wv wait ov out dp s w':=by
 obtain⟨A,c,h⟩:=h;exact⟨A,c,h.step hb⟩
theorem PBS.fr (h:PBS w0 g wv wait ov out dp s w)(hg:w.grownBy w' (some g)):Fr w w':=by
 obtain⟨A,c,h⟩:=h;exact h.fr hg
theorem PS.has_cons {s:PS}{kind:Int}{p:ByteArray→Bool}(h:s.has kind p=true):∃t r,s.toks=t::r∧s.e=0∧t.f0=kind∧p t.f1=true:=by
 obtain⟨toks,e,p0,p1⟩:=s;cases toks with
 |nil=>cases h
 |cons t r=>
  simp only[PS.has,tkOK,Bool.and_eq_true,decide_eq_true_eq]at h;exact⟨t,r,rfl,h.1.1,h.1.2,h.2⟩
theorem fail_t (h:PBS w0 g wv wait ov out dp s w)(er:Int)(last:S75)(hl:qz last):
 Calls Tryz.prog 39 #[.pointer (some ⟨g,0,none⟩),.int .i64 er,tkV last] w fun ex w'=>ex= .returned (.tuple #[])∧PBS w0 g wv wait ov out dp (s.fail er last) w'∧w.grownBy w' (some g):=by
 obtain⟨A,c,h⟩:=h;unfold PS.fail;by_cases he:s.e=0
 ·rw[if_pos he]
  refine(zL w0 g A c s.toks wv wait ov out dp s.e s.p0 s.p1 w h he er last hl).mono ?_;rintro ex w' ⟨h1,h2,h3⟩;exact⟨h1,⟨A,c,h2⟩,h3⟩
 ·rw[if_neg he]
  refine(failOld_at w0 g A c s.toks wv wait ov out dp s.e s.p0 s.p1 w h he er last).mono ?_;rintro ex w' ⟨h1,h2⟩;exact⟨h1,⟨A,c,h.step h2⟩,zl h2 _⟩
theorem take0_t (h:PBS w0 g wv wait ov out dp s w)(kind:Int)(fid:FuncId)(p:ByteArray→Bool)(he:∀(args:Array Value) (w:World),(callFunc fid args).run Tryz.prog w= .ok (.enter fid args) w)(hf:∀t rest,s.toks=t::rest→s.e=0→t.f0=kind→Calls Tryz.prog fid #[.string t.f1] w fun ex w'=>ex= .returned (.bool (p t.f1))∧Below w.heap.size w w'):
 Calls Tryz.prog 74 #[.pointer (some ⟨g,0,none⟩),.int .i64 kind,.func (.func fid) #[] #[]] w fun ex w'=>ex= .returned (.tuple #[.string (s.take kind p).2.1,.bool (s.take kind p).2.2])∧PBS w0 g wv wait ov out dp (s.take kind p).1 w'∧w.grownBy w' (some g):=by
 obtain⟨A,c,h⟩:=h;unfold PS.take;by_cases ho:s.has kind p=true
 ·rw[if_pos ho]
  obtain⟨t,r,h1,h2,h3,h4⟩:=PS.has_cons ho;have hf':=hf t r h1 h2 h3;rw[h4]at hf';rw[h1]at h;have:=qN w0 g A c t r wv wait ov out dp s.e s.p0 s.p1 w h h2 fid he hf';rw[h3]at this;refine this.mono ?_;rintro ex w' ⟨k1,k2,k3⟩;refine⟨by rw[k1,h1];rfl,⟨nxA c A,c-1,?_⟩,k3⟩
  show PB w0 g (nxA c A) (c-1) s.toks.tail wv wait ov out dp s.e s.p0 s.p1 w'
  rw[h1];exact k2
 ·rw[if_neg ho]
  refine(takeNo0_at w0 g A c s.toks wv wait ov out dp s.e s.p0 s.p1 w h kind fid p he hf (by simpa[PS.has]using ho)).mono ?_
  rintro ex w' ⟨k1,k2⟩;exact⟨k1,⟨A,c,h.step k2⟩,zl k2 _⟩
theorem take1_t (h:PBS w0 g wv wait ov out dp s w)(kind:Int)(fid:FuncId)(cv:Value)(p:ByteArray→Bool)(he:∀(args:Array Value) (w:World),(callFunc fid args).run Tryz.prog w= .ok (.enter fid args) w)(hf:∀t rest,s.toks=t::rest→s.e=0→t.f0=kind→Calls Tryz.prog fid #[.string t.f1,cv] w fun ex w'=>ex= .returned (.bool (p t.f1))∧Below w.heap.size w w'):
 Calls Tryz.prog 74 #[.pointer (some ⟨g,0,none⟩),.int .i64 kind,.func (.func fid) #[] #[cv]] w fun ex w'=>ex= .returned (.tuple #[.string (s.take kind p).2.1,.bool (s.take kind p).2.2])∧PBS w0 g wv wait ov out dp (s.take kind p).1 w'∧w.grownBy w' (some g):=by
 obtain⟨A,c,h⟩:=h;unfold PS.take;by_cases ho:s.has kind p=true
 ·rw[if_pos ho]
  obtain⟨t,r,h1,h2,h3,h4⟩:=PS.has_cons ho;have hf':=hf t r h1 h2 h3;rw[h4]at hf';rw[h1]at h;have:=jr w0 g A c t r wv wait ov out dp s.e s.p0 s.p1 w h h2 fid cv he hf';rw[h3]at this;refine this.mono ?_;rintro ex w' ⟨k1,k2,k3⟩;refine⟨by rw[k1,h1];rfl,⟨nxA c A,c-1,?_⟩,k3⟩
  show PB w0 g (nxA c A) (c-1) s.toks.tail wv wait ov out dp s.e s.p0 s.p1 w'
  rw[h1];exact k2
 ·rw[if_neg ho]
  refine(takeNo1_at w0 g A c s.toks wv wait ov out dp s.e s.p0 s.p1 w h kind fid cv p he hf (by simpa[PS.has]using ho)).mono ?_
  rintro ex w' ⟨k1,k2⟩;exact⟨k1,⟨A,c,h.step k2⟩,zl k2 _⟩
theorem sign_t (h:PBS w0 g wv wait ov out dp s w)(x:ByteArray):
 Calls Tryz.prog 42 #[.pointer (some ⟨g,0,none⟩),.string x] w fun ex w'=>ex= .returned (.bool (s.take 2 (fun t=>t.toList==x.toList)).2.2)∧PBS w0 g wv wait ov out dp (s.take 2 (fun t=>t.toList==x.toList)).1 w'∧w.grownBy w' (some g):=by
 obtain⟨A,c,h⟩:=h;unfold PS.take;by_cases ho:s.has 2 (fun t=>t.toList==x.toList)=true
 ·rw[if_pos ho]
  obtain⟨t,r,h1,h2,h3,h4⟩:=PS.has_cons ho;rw[h1]at h;have hx:t.f1=x:=by
   have:=eq_of_beq h4;exact z7 (by rw[←Lib.toList_data,←Lib.toList_data];exact this)
  refine(signYes_at w0 g A c t r wv wait ov out dp s.e s.p0 s.p1 w h h2 h3 x hx).mono ?_;rintro ex w' ⟨k1,k2,k3⟩;refine⟨k1,⟨nxA c A,c-1,?_⟩,k3⟩;show PB w0 g (nxA c A) (c-1) s.toks.tail wv wait ov out dp s.e s.p0 s.p1 w'
  rw[h1];exact k2
 ·rw[if_neg ho]
  refine(zN w0 g A c s.toks wv wait ov out dp s.e s.p0 s.p1 w h x (by simpa[PS.has]using ho)).mono ?_
  rintro ex w' ⟨k1,k2⟩;exact⟨k1,⟨A,c,h.step k2⟩,zl k2 _⟩
theorem jb (h:PBS w0 g wv wait ov out dp s w)(x:ByteArray)(last:S75)(hl:qz last):
 Calls Tryz.prog 76 #[.pointer (some ⟨g,0,none⟩),.string x,tkV last] w fun ex w'=>ex= .returned (.tuple #[])∧PBS w0 g wv wait ov out dp (s.must x last) w'∧w.grownBy w' (some g):=by
 obtain⟨A,c,h⟩:=h;unfold PS.must PS.fail;by_cases ho:s.has 2 (fun t=>t.toList==x.toList)=true
 ·rw[if_pos ho]
  obtain⟨t,r,h1,h2,h3,h4⟩:=PS.has_cons ho;rw[h1]at h;have hx:t.f1=x:=by
   have:=eq_of_beq h4;exact z7 (by rw[←Lib.toList_data,←Lib.toList_data];exact this)
  refine(qH w0 g A c t r wv wait ov out dp s.e s.p0 s.p1 w h h2 h3 x hx last).mono ?_;rintro ex w' ⟨k1,k2,k3⟩;refine⟨k1,⟨nxA c A,c-1,?_⟩,k3⟩;show PB w0 g (nxA c A) (c-1) s.toks.tail wv wait ov out dp s.e s.p0 s.p1 w'
  rw[h1];exact k2
 ·rw[if_neg ho]
  have ho':tkOK s.e 2 (fun t=>t.toList==x.toList) s.toks=false:=by simpa[PS.has]using ho
  by_cases he:s.e=0
  ·rw[if_pos he]
   refine(mustNew_at w0 g A c s.toks wv wait ov out dp s.e s.p0 s.p1 w h x last ho' he hl).mono ?_;rintro ex w' ⟨k1,k2,k3⟩;exact⟨k1,⟨A,c,k2⟩,k3⟩
  ·rw[if_neg he]
   refine(mustOld_at w0 g A c s.toks wv wait ov out dp s.e s.p0 s.p1 w h x last ho' he).mono ?_;rintro ex w' ⟨k1,k2⟩;exact⟨k1,⟨A,c,h.step k2⟩,zl k2 _⟩
end
end Go.Proofs.YtjopepfemhckjaaGreatDoor.NW
end
