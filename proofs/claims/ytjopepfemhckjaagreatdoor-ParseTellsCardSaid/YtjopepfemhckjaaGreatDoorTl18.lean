/-
  Part 18 of the proof of parseTells_holds: texts of this seat, put together.
-/
import Derived.Stop.LaidErr
import Derived.Test.YtjopepfemhckjaaGreatDoorTl17
set_option linter.unusedVariables false
set_option linter.unusedSimpArgs false
set_option maxHeartbeats 16000000
set_option maxRecDepth 100000
section
namespace Go.Proofs.YtjopepfemhckjaaGreatDoor.NW
open Go.Proofs Go.RowKit Go.Shelf Go.Proofs.YtjopepfemhckjaaGreatDoor.PN Go.Proofs.YtjopepfemhckjaaGreatDoorW.PrintWords Go.Proofs.YtjopepfemhckjaaGreatDoor.PParseTells
structure Glob2 (w:World):Prop where
 g:Glob w
 syn:∃ev,w.cell? ⟨4,0,none⟩=some ev∧(ev= .nilIface∨∃te pe,ev= .iface te pe)
 ran:∃ev,w.cell? ⟨5,0,none⟩=some ev∧(ev= .nilIface∨∃te pe,ev= .iface te pe)
theorem Glob2.below {w w':World}(h:Glob2 w)(hb:Below w.heap.size w w'):Glob2 w':=by
 obtain⟨h1,⟨a,h2,h3⟩,⟨b,h4,h5⟩⟩:=h;exact⟨h1.below hb,⟨a,zt hb h2,h3⟩,⟨b,zt hb h4,h5⟩⟩
def zw (s:ByteArray):Int×Bool:=if isNatB s.data.toList=true then(match Lib.atoiAll s.data.toList with| .ok v=>(v,true)|_=>(0,false))else(0,false)
theorem small_t (s:ByteArray)(hs:s.size≤1000000)(w:World)(hg:Glob2 w):
 Calls Tryz.prog 150 #[.string s] w fun ex w'=>ex= .returned (.tuple #[.int .i64 (zw s).1,.bool (zw s).2])∧Below w.heap.size w w':=by
 have H1:=fun W=>Lib.hid (jS s hs W)
 have HG:=zc.mk hg;clear hg;unfold zw;by_cases hn:isNatB s.data.toList=true
 ·rw[if_pos hn]
  rw[hn]at H1;obtain⟨ea,h4,h4'⟩:=HG.out.syn;obtain⟨eb,h5,h5'⟩:=HG.out.ran;rcases ha:Lib.atoiAll s.data.toList with v|_|_
  ·have H2:=fun W=>Lib.hid (Tryz.strconv_Atoi_ok s (by omega) v ha W)
   clear hn hs ha h4 h4' h5 h5';go_enter Tryz.func150,Tryz.ntmps150
   go_wp2_with fail;refine(H1 _).out.mono ?_;rintro ex w1 ⟨rfl,hb1⟩;go_wp2_with fail;refine(H2 _).out.mono ?_;rintro ex w2 ⟨rfl,hb2⟩;have hb2:Below w1.heap.size w1 w2:=by
    rcases hb2 with rfl|⟨tt,rfl⟩
    ·exact xb _ _
    ·first|exact Lib.bytesWorld_below _ _ _|exact(xb _ _).alloc (xc _) _
   go_wp2_with fail;refine bodyPost_ret (results_tmp2 rfl _ _ _) rfl ?_;exact⟨rfl,hb1.trans (hb2.mono hb1.size)⟩
  ·have H2:=fun W hv=>Lib.hid (Any.strconv_Atoi_syntax Tryz.laysC172 s (by omega) ha ea W hv h4')
   clear hn hs ha;go_enter Tryz.func150,Tryz.ntmps150
   go_wp2_with fail;refine(H1 _).out.mono ?_;rintro ex w1 ⟨rfl,hb1⟩;have hc:=zt hb1 h4;clear h4 h5;go_wp2_with fail;refine(H2 _ hc).out.mono ?_;rintro ex w2 ⟨N,rfl,hN,hNb,hb2⟩;clear hN hNb;go_wp2_with fail;refine bodyPost_ret (results_tmp2 rfl _ _ _) rfl ?_;exact⟨rfl,hb1.trans (hb2.mono hb1.size)⟩
  ·have H2:=fun W hv=>Lib.hid (Tryz.strconv_Atoi_range s (by omega) ha eb W hv h5')
   clear hn hs ha;go_enter Tryz.func150,Tryz.ntmps150
   go_wp2_with fail;refine(H1 _).out.mono ?_;rintro ex w1 ⟨rfl,hb1⟩;have hc:=zt hb1 h5;clear h4 h5;go_wp2_with fail;refine(H2 _ hc).out.mono ?_;rintro ex w2 ⟨N,rfl,hN,hNb,hb2⟩;clear hN hNb;go_wp2_with fail;refine bodyPost_ret (results_tmp2 rfl _ _ _) rfl ?_;exact⟨rfl,hb1.trans (hb2.mono hb1.size)⟩
 ·rw[if_neg hn]
  have hn':isNatB s.data.toList=false:=by simpa using hn
  rw[hn']at H1;clear hn hs hn';go_enter Tryz.func150,Tryz.ntmps150
  go_wp2_with fail;refine(H1 _).out.mono ?_;rintro ex w1 ⟨rfl,hb1⟩;go_wp2_with fail;refine bodyPost_ret (results_tmp2 rfl _ _ _) rfl ?_;exact⟨rfl,hb1⟩
theorem nat10_t (s:ByteArray)(hsz:s.size≤1000000)(b:Nat)(fid:FuncId)(hp:Bool)(he:∀(args:Array Value) (w:World),(callFunc fid args).run Tryz.prog w= .ok (.enter fid args) w)(w:World)(hc:w.cell? ⟨b,0,none⟩=some (.func (.func fid) #[] #[]))(hb:b<w.heap.size)(hf:∀W,Below w.heap.size w W→Calls Tryz.prog fid #[.string s] W fun ex w'=>ex= .returned (.bool hp)∧Below W.heap.size W w'):
 Calls Tryz.prog 151 #[.string s,.pointer (some ⟨b,0,none⟩)] w fun ex w'=>ex= .returned (.bool (isNatB s.data.toList&&hp))∧Below w.heap.size w w':=by
 have H1:=fun W=>Lib.hid (jS s hsz W)
 have HF:=fun W hb=>Lib.hid (hf W hb)
 clear hf hsz;cases hn:isNatB s.data.toList with
 |true=>
  rw[hn]at H1;clear hn;go_enter Tryz.func151,Tryz.ntmps151
  go_wp2_with fail;refine(H1 _).out.mono ?_;rintro ex w1 ⟨rfl,hb1⟩;have d1:=(zg hb1 ⟨b,0,none⟩ hb).trans hc;clear hc H1;go_wp2_with fail;refine(HF _ hb1).out.mono ?_;rintro ex w2 ⟨rfl,hb2⟩;have hb3:=hb1.trans (hb2.mono hb1.size);go_wp2_with fail;go_ret;exact⟨by simp,hb3⟩
 |false=>
  rw[hn]at H1;clear hn;go_enter Tryz.func151,Tryz.ntmps151
  go_wp2_with fail;refine(H1 _).out.mono ?_;rintro ex w1 ⟨rfl,hb1⟩;clear hc H1 HF;go_wp2_with fail;go_ret;exact⟨by simp,hb1⟩
theorem natural0_t {w0:World}{g:Nat}{wv:Value}{wait:List S82}{ov:Value}{out:List Nd}{dp:Int}{s:PS}{w:World}(h:PBS w0 g wv wait ov out dp s w)(hsz:∀t∈s.toks,t.f1.size≤1000000)(last:S75)(hl:qz last)(fid:FuncId)(hp:ByteArray→Bool)(he:∀(args:Array Value) (w:World),(callFunc fid args).run Tryz.prog w= .ok (.enter fid args) w)(hf:∀t∈s.toks,∀W,Below w.heap.size w W→Calls Tryz.prog fid #[.string t.f1] W fun ex w'=>ex= .returned (.bool (hp t.f1))∧Below W.heap.size W w'):
 Calls Tryz.prog 115 #[.pointer (some ⟨g,0,none⟩),tkV last,.func (.func fid) #[] #[]] w fun ex w'=>ex= .returned (.string (s.nat hp last).2)∧PBS w0 g wv wait ov out dp (s.nat hp last).1 w'∧w.grownBy w' (some g):=by
 have hb0:=((xb w.heap.size w).alloc (xc _) (.cells #[.int .i64 last.f0,.string last.f1,.int .i64 last.f2,.int .i64 last.f3] 75)).alloc (by simp) (.cells #[.func (.func fid) #[] #[]] 29)
 have HQ:=h.step hb0;have hsize:(w.alloc (.cells #[.int .i64 last.f0,.string last.f1,.int .i64 last.f2,.int .i64 last.f3] 75)).heap.size=w.heap.size+1:=by simp
 have k1:=j7 (w.alloc (.cells #[.int .i64 last.f0,.string last.f1,.int .i64 last.f2,.int .i64 last.f3] 75)) (.cells #[.func (.func fid) #[] #[]] 29);have k0:=(Lib.alloc_old (w.alloc (.cells #[.int .i64 last.f0,.string last.f1,.int .i64 last.f2,.int .i64 last.f3] 75)) (.cells #[.func (.func fid) #[] #[]] 29) w.heap.size (by simp)).trans (j7 w (.cells #[.int .i64 last.f0,.string last.f1,.int .i64 last.f2,.int .i64 last.f3] 75))
 rw[hsize]at k1;have HT:=take1_t HQ 1 151 (.pointer (some ⟨w.heap.size+1,0,none⟩)) (fun t=>isNatB t.data.toList&&hp t) qT (fun t r h1 h2 h3=>nat10_t t.f1 (hsz t (by rw[h1];simp)) (w.heap.size+1) fid (hp t.f1) he _ (by rw[j6 k1];rfl) (by simp) (fun W hb=>hf t (by rw[h1];simp) W (hb0.trans (hb.mono hb0.size))))
 have HT:=Lib.hid HT;have HB0:=zc.mk hb0;have K0:=zc.mk k0;have HS:=zc.mk h;clear h HQ k1 k0 hf hb0 hsize hsz;unfold tkV PS.nat;by_cases ho:s.has 1 (fun t=>isNatB t.data.toList&&hp t)=true
 ·rw[if_pos ho]
  unfold PS.take at HT;rw[if_pos ho]at HT;clear ho;go_enter Tryz.func115,Tryz.ntmps115
  go_wp2_with fail;refine HT.out.mono ?_;rintro ex w1 ⟨rfl,hq1,hg1⟩;go_wp2_with fail;go_ret;exact⟨rfl,hq1,gtr (zl HB0.out _) hg1⟩
 ·rw[if_neg ho]
  unfold PS.take at HT;rw[if_neg ho]at HT;clear ho;go_enter Tryz.func115,Tryz.ntmps115
  go_wp2_with fail;generalize (w.alloc (.cells #[.int .i64 last.f0,.string last.f1,.int .i64 last.f2,.int .i64 last.f3] 75)).alloc (.cells #[.func (.func fid) #[] #[]] 29)=wa at*;refine HT.out.mono ?_;rintro ex w1 ⟨rfl,hq1,hg1⟩;have K1:=zc.mk ((HS.out.step HB0.out).fr hg1 _ _ K0.out);have HG1:=zc.mk (gtr (zl HB0.out _) hg1);have HFL:=Lib.hid (fail_t hq1 110 last hl);have l0:w1.cell? ⟨w.heap.size,0,none⟩=some (.int .i64 last.f0):=by rw[j6 K1.out];rfl
  have l1:w1.cell? ⟨w.heap.size,1,none⟩=some (.string last.f1):=by rw[j6 K1.out];rfl
  have l2:w1.cell? ⟨w.heap.size,2,none⟩=some (.int .i64 last.f2):=by rw[j6 K1.out];rfl
  have l3:w1.cell? ⟨w.heap.size,3,none⟩=some (.int .i64 last.f3):=by rw[j6 K1.out];rfl
  unfold tkV at HFL;clear hq1 hg1 HT K1 K0 HB0 HS;go_wp2_with fail;refine HFL.out.mono ?_;rintro ex w2 ⟨rfl,hq2,hg2⟩;go_wp2_with fail;go_ret;exact⟨rfl,hq2,gtr HG1.out hg2⟩
theorem nat11_t (s:ByteArray)(hsz:s.size≤1000000)(b:Nat)(fid:FuncId)(v1:Value)(hp:Bool)(he:∀(args:Array Value) (w:World),(callFunc fid args).run Tryz.prog w= .ok (.enter fid args) w)(w:World)(hc:w.cell? ⟨b,0,none⟩=some (.func (.func fid) #[] #[v1]))(hb:b<w.heap.size)(hf:∀W,Below w.heap.size w W→Calls Tryz.prog fid #[.string s,v1] W fun ex w'=>ex= .returned (.bool hp)∧Below W.heap.size W w'):
 Calls Tryz.prog 151 #[.string s,.pointer (some ⟨b,0,none⟩)] w fun ex w'=>ex= .returned (.bool (isNatB s.data.toList&&hp))∧Below w.heap.size w w':=by
 have H1:=fun W=>Lib.hid (jS s hsz W)
 have HF:=fun W hb=>Lib.hid (hf W hb)
 clear hf hsz;cases hn:isNatB s.data.toList with
 |true=>
  rw[hn]at H1;clear hn;go_enter Tryz.func151,Tryz.ntmps151
  go_wp2_with fail;refine(H1 _).out.mono ?_;rintro ex w1 ⟨rfl,hb1⟩;have d1:=(zg hb1 ⟨b,0,none⟩ hb).trans hc;clear hc H1;go_wp2_with fail;refine(HF _ hb1).out.mono ?_;rintro ex w2 ⟨rfl,hb2⟩;have hb3:=hb1.trans (hb2.mono hb1.size);go_wp2_with fail;go_ret;exact⟨by simp,hb3⟩
 |false=>
  rw[hn]at H1;clear hn;go_enter Tryz.func151,Tryz.ntmps151
  go_wp2_with fail;refine(H1 _).out.mono ?_;rintro ex w1 ⟨rfl,hb1⟩;clear hc H1 HF;go_wp2_with fail;go_ret;exact⟨by simp,hb1⟩
theorem natural1_t {w0:World}{g:Nat}{wv:Value}{wait:List S82}{ov:Value}{out:List Nd}{dp:Int}{s:PS}{w:World}(h:PBS w0 g wv wait ov out dp s w)(hsz:∀t∈s.toks,t.f1.size≤1000000)(last:S75)(hl:qz last)(fid:FuncId)(v1:Value)(hp:ByteArray→Bool)(he:∀(args:Array Value) (w:World),(callFunc fid args).run Tryz.prog w= .ok (.enter fid args) w)(hf:∀t∈s.toks,∀W,Below w.heap.size w W→Calls Tryz.prog fid #[.string t.f1,v1] W fun ex w'=>ex= .returned (.bool (hp t.f1))∧Below W.heap.size W w'):
 Calls Tryz.prog 115 #[.pointer (some ⟨g,0,none⟩),tkV last,.func (.func fid) #[] #[v1]] w fun ex w'=>ex= .returned (.string (s.nat hp last).2)∧PBS w0 g wv wait ov out dp (s.nat hp last).1 w'∧w.grownBy w' (some g):=by
 have hb0:=((xb w.heap.size w).alloc (xc _) (.cells #[.int .i64 last.f0,.string last.f1,.int .i64 last.f2,.int .i64 last.f3] 75)).alloc (by simp) (.cells #[.func (.func fid) #[] #[v1]] 29)
 have HQ:=h.step hb0;have hsize:(w.alloc (.cells #[.int .i64 last.f0,.string last.f1,.int .i64 last.f2,.int .i64 last.f3] 75)).heap.size=w.heap.size+1:=by simp
 have k1:=j7 (w.alloc (.cells #[.int .i64 last.f0,.string last.f1,.int .i64 last.f2,.int .i64 last.f3] 75)) (.cells #[.func (.func fid) #[] #[v1]] 29);have k0:=(Lib.alloc_old (w.alloc (.cells #[.int .i64 last.f0,.string last.f1,.int .i64 last.f2,.int .i64 last.f3] 75)) (.cells #[.func (.func fid) #[] #[v1]] 29) w.heap.size (by simp)).trans (j7 w (.cells #[.int .i64 last.f0,.string last.f1,.int .i64 last.f2,.int .i64 last.f3] 75))
 rw[hsize]at k1;have HT:=take1_t HQ 1 151 (.pointer (some ⟨w.heap.size+1,0,none⟩)) (fun t=>isNatB t.data.toList&&hp t) qT (fun t r h1 h2 h3=>nat11_t t.f1 (hsz t (by rw[h1];simp)) (w.heap.size+1) fid v1 (hp t.f1) he _ (by rw[j6 k1];rfl) (by simp) (fun W hb=>hf t (by rw[h1];simp) W (hb0.trans (hb.mono hb0.size))))
 have HT:=Lib.hid HT;have HB0:=zc.mk hb0;have K0:=zc.mk k0;have HS:=zc.mk h;clear h HQ k1 k0 hf hb0 hsize hsz;unfold tkV PS.nat;by_cases ho:s.has 1 (fun t=>isNatB t.data.toList&&hp t)=true
 ·rw[if_pos ho]
  unfold PS.take at HT;rw[if_pos ho]at HT;clear ho;go_enter Tryz.func115,Tryz.ntmps115
  go_wp2_with fail;refine HT.out.mono ?_;rintro ex w1 ⟨rfl,hq1,hg1⟩;go_wp2_with fail;go_ret;exact⟨rfl,hq1,gtr (zl HB0.out _) hg1⟩
 ·rw[if_neg ho]
  unfold PS.take at HT;rw[if_neg ho]at HT;clear ho;go_enter Tryz.func115,Tryz.ntmps115
  go_wp2_with fail;generalize (w.alloc (.cells #[.int .i64 last.f0,.string last.f1,.int .i64 last.f2,.int .i64 last.f3] 75)).alloc (.cells #[.func (.func fid) #[] #[v1]] 29)=wa at*;refine HT.out.mono ?_;rintro ex w1 ⟨rfl,hq1,hg1⟩;have K1:=zc.mk ((HS.out.step HB0.out).fr hg1 _ _ K0.out);have HG1:=zc.mk (gtr (zl HB0.out _) hg1);have HFL:=Lib.hid (fail_t hq1 110 last hl);have l0:w1.cell? ⟨w.heap.size,0,none⟩=some (.int .i64 last.f0):=by rw[j6 K1.out];rfl
  have l1:w1.cell? ⟨w.heap.size,1,none⟩=some (.string last.f1):=by rw[j6 K1.out];rfl
  have l2:w1.cell? ⟨w.heap.size,2,none⟩=some (.int .i64 last.f2):=by rw[j6 K1.out];rfl
  have l3:w1.cell? ⟨w.heap.size,3,none⟩=some (.int .i64 last.f3):=by rw[j6 K1.out];rfl
  unfold tkV at HFL;clear hq1 hg1 HT K1 K0 HB0 HS;go_wp2_with fail;refine HFL.out.mono ?_;rintro ex w2 ⟨rfl,hq2,hg2⟩;go_wp2_with fail;go_ret;exact⟨rfl,hq2,gtr HG1.out hg2⟩
theorem nat12_t (s:ByteArray)(hsz:s.size≤1000000)(b:Nat)(fid:FuncId)(v1 v2:Value)(hp:Bool)(he:∀(args:Array Value) (w:World),(callFunc fid args).run Tryz.prog w= .ok (.enter fid args) w)(w:World)(hc:w.cell? ⟨b,0,none⟩=some (.func (.func fid) #[] #[v1,v2]))(hb:b<w.heap.size)(hf:∀W,Below w.heap.size w W→Calls Tryz.prog fid #[.string s,v1,v2] W fun ex w'=>ex= .returned (.bool hp)∧Below W.heap.size W w'):
 Calls Tryz.prog 151 #[.string s,.pointer (some ⟨b,0,none⟩)] w fun ex w'=>ex= .returned (.bool (isNatB s.data.toList&&hp))∧Below w.heap.size w w':=by
 have H1:=fun W=>Lib.hid (jS s hsz W)
 have HF:=fun W hb=>Lib.hid (hf W hb)
 clear hf hsz;cases hn:isNatB s.data.toList with
 |true=>
  rw[hn]at H1;clear hn;go_enter Tryz.func151,Tryz.ntmps151
  go_wp2_with fail;refine(H1 _).out.mono ?_;rintro ex w1 ⟨rfl,hb1⟩;have d1:=(zg hb1 ⟨b,0,none⟩ hb).trans hc;clear hc H1;go_wp2_with fail;refine(HF _ hb1).out.mono ?_;rintro ex w2 ⟨rfl,hb2⟩;have hb3:=hb1.trans (hb2.mono hb1.size);go_wp2_with fail;go_ret;exact⟨by simp,hb3⟩
 |false=>
  rw[hn]at H1;clear hn;go_enter Tryz.func151,Tryz.ntmps151
  go_wp2_with fail;refine(H1 _).out.mono ?_;rintro ex w1 ⟨rfl,hb1⟩;clear hc H1 HF;go_wp2_with fail;go_ret;exact⟨by simp,hb1⟩
theorem natural2_t {w0:World}{g:Nat}{wv:Value}{wait:List S82}{ov:Value}{out:List Nd}{dp:Int}{s:PS}{w:World}(h:PBS w0 g wv wait ov out dp s w)(hsz:∀t∈s.toks,t.f1.size≤1000000)(last:S75)(hl:qz last)(fid:FuncId)(v1 v2:Value)(hp:ByteArray→Bool)(he:∀(args:Array Value) (w:World),(callFunc fid args).run Tryz.prog w= .ok (.enter fid args) w)(hf:∀t∈s.toks,∀W,Below w.heap.size w W→Calls Tryz.prog fid #[.string t.f1,v1,v2] W fun ex w'=>ex= .returned (.bool (hp t.f1))∧Below W.heap.size W w'):
 Calls Tryz.prog 115 #[.pointer (some ⟨g,0,none⟩),tkV last,.func (.func fid) #[] #[v1,v2]] w fun ex w'=>ex= .returned (.string (s.nat hp last).2)∧PBS w0 g wv wait ov out dp (s.nat hp last).1 w'∧w.grownBy w' (some g):=by
 have hb0:=((xb w.heap.size w).alloc (xc _) (.cells #[.int .i64 last.f0,.string last.f1,.int .i64 last.f2,.int .i64 last.f3] 75)).alloc (by simp) (.cells #[.func (.func fid) #[] #[v1,v2]] 29)
 have HQ:=h.step hb0;have hsize:(w.alloc (.cells #[.int .i64 last.f0,.string last.f1,.int .i64 last.f2,.int .i64 last.f3] 75)).heap.size=w.heap.size+1:=by simp
 have k1:=j7 (w.alloc (.cells #[.int .i64 last.f0,.string last.f1,.int .i64 last.f2,.int .i64 last.f3] 75)) (.cells #[.func (.func fid) #[] #[v1,v2]] 29);have k0:=(Lib.alloc_old (w.alloc (.cells #[.int .i64 last.f0,.string last.f1,.int .i64 last.f2,.int .i64 last.f3] 75)) (.cells #[.func (.func fid) #[] #[v1,v2]] 29) w.heap.size (by simp)).trans (j7 w (.cells #[.int .i64 last.f0,.string last.f1,.int .i64 last.f2,.int .i64 last.f3] 75))
 rw[hsize]at k1;have HT:=take1_t HQ 1 151 (.pointer (some ⟨w.heap.size+1,0,none⟩)) (fun t=>isNatB t.data.toList&&hp t) qT (fun t r h1 h2 h3=>nat12_t t.f1 (hsz t (by rw[h1];simp)) (w.heap.size+1) fid v1 v2 (hp t.f1) he _ (by rw[j6 k1];rfl) (by simp) (fun W hb=>hf t (by rw[h1];simp) W (hb0.trans (hb.mono hb0.size))))
 have HT:=Lib.hid HT;have HB0:=zc.mk hb0;have K0:=zc.mk k0;have HS:=zc.mk h;clear h HQ k1 k0 hf hb0 hsize hsz;unfold tkV PS.nat;by_cases ho:s.has 1 (fun t=>isNatB t.data.toList&&hp t)=true
 ·rw[if_pos ho]
  unfold PS.take at HT;rw[if_pos ho]at HT;clear ho;go_enter Tryz.func115,Tryz.ntmps115
  go_wp2_with fail;refine HT.out.mono ?_;rintro ex w1 ⟨rfl,hq1,hg1⟩;go_wp2_with fail;go_ret;exact⟨rfl,hq1,gtr (zl HB0.out _) hg1⟩
 ·rw[if_neg ho]
  unfold PS.take at HT;rw[if_neg ho]at HT;clear ho;go_enter Tryz.func115,Tryz.ntmps115
  go_wp2_with fail;generalize (w.alloc (.cells #[.int .i64 last.f0,.string last.f1,.int .i64 last.f2,.int .i64 last.f3] 75)).alloc (.cells #[.func (.func fid) #[] #[v1,v2]] 29)=wa at*;refine HT.out.mono ?_;rintro ex w1 ⟨rfl,hq1,hg1⟩;have K1:=zc.mk ((HS.out.step HB0.out).fr hg1 _ _ K0.out);have HG1:=zc.mk (gtr (zl HB0.out _) hg1);have HFL:=Lib.hid (fail_t hq1 110 last hl);have l0:w1.cell? ⟨w.heap.size,0,none⟩=some (.int .i64 last.f0):=by rw[j6 K1.out];rfl
  have l1:w1.cell? ⟨w.heap.size,1,none⟩=some (.string last.f1):=by rw[j6 K1.out];rfl
  have l2:w1.cell? ⟨w.heap.size,2,none⟩=some (.int .i64 last.f2):=by rw[j6 K1.out];rfl
  have l3:w1.cell? ⟨w.heap.size,3,none⟩=some (.int .i64 last.f3):=by rw[j6 K1.out];rfl
  unfold tkV at HFL;clear hq1 hg1 HT K1 K0 HB0 HS;go_wp2_with fail;refine HFL.out.mono ?_;rintro ex w2 ⟨rfl,hq2,hg2⟩;go_wp2_with fail;go_ret;exact⟨rfl,hq2,gtr HG1.out hg2⟩
end Go.Proofs.YtjopepfemhckjaaGreatDoor.NW
end
section
namespace Go.Proofs.YtjopepfemhckjaaGreatDoor.RG
open Go.ChangeShapes Go.WideShapes Go.ChangeAt Go.RowKit
theorem starE: "*" ++ "errors.errorString" = "*errors.errorString" :=by decide
theorem rowE (u:TypeId)(h:Tryz.prog.typeName? 3 u=some "*errors.errorString"):u=225:=by
 exact typeName_ptr_named (nm:= "errors.errorString") (by rw[starE];kernel_rfl) (by kernel_rfl) (by decide) u (by rw[starE];exact h)
theorem cell_of_var {W:World}{n:String}{g:Nat}{v:Value}(hg:Tryz.prog.globalNamed n=some g)(h:W.var? Tryz.prog n=some #[v]):W.cell? ⟨g,0,none⟩=some v:=by
 rw[World.var?_cell hg h 0];rfl
theorem glob2_of {W:World}(h:laidMetH Tryz.prog laidS W)(hsh:W.ShapedOpen Tryz.prog):NW.Glob2 W:=by
 have h2:=h;rw[MakeChecks.laidMetH_plain _ _ _ (by kernel_rfl)]at h2
 unfold laidS at h2;have h5:=h2.tail.tail.tail.tail;obtain⟨a0,s0,e0,_,_,_⟩:=laid_sentinel h5 (g:=5) (by kernel_rfl) (ti:=151) (by kernel_rfl) Tryz.underlying151 rowE Tryz.underlying225 Tryz.underlying227 rfl rfl Tryz.underlying9 (by kernel_rfl) (by kernel_rfl)
 obtain⟨a1,s1,e1,_,_,_⟩:=laid_sentinel h5.tail (g:=4) (by kernel_rfl) (ti:=151) (by kernel_rfl) Tryz.underlying151 rowE Tryz.underlying225 Tryz.underlying227 rfl rfl Tryz.underlying9 (by kernel_rfl) (by kernel_rfl)
 exact⟨glob_of h hsh,⟨_,cell_of_var (by kernel_rfl) e1,.inr ⟨_,_,rfl⟩⟩,⟨_,cell_of_var (by kernel_rfl) e0,.inr ⟨_,_,rfl⟩⟩⟩
end Go.Proofs.YtjopepfemhckjaaGreatDoor.RG
end
section
namespace Go.Proofs.YtjopepfemhckjaaGreatDoor.NW
open Go.Proofs Go.RowKit Go.Shelf Go.Proofs.YtjopepfemhckjaaGreatDoor.PN Go.Proofs.YtjopepfemhckjaaGreatDoorW.PrintWords Go.Proofs.YtjopepfemhckjaaGreatDoor.PParseTells
theorem pushYes_at (w0:World)(g:Nat)(A:Option Addr)(c:Nat)(t:S75)(rest:List S75)(wv:Value)(wait:List S82)(ov:Value)(out:List Nd)(dp e p0 p1:Int)(w:World)(h:PB w0 g A c (t::rest) wv wait ov out dp e p0 p1 w)(he0:e=0)(hk:t.f0=2)(ht:t.f1=⟨#[40]⟩)(x:S82)(last:S75)(hwt:wait.length≤100000)(hdp:dp<200)(hdp2: -100000≤dp):
 Calls Tryz.prog 43 #[.pointer (some ⟨g,0,none⟩),.agg #[.int .i64 x.f0,.int .i64 x.f1,.int .i64 x.f2],tkV last] w fun ex w'=>ex= .returned (.tuple #[])∧(∃wv',PB w0 g (nxA c A) (c-1) rest wv' (wait++[x]) ov out (dp+1) 0 p0 p1 w')∧Fr w w':=by
 have hb0:=((xb w.heap.size w).alloc (xc _) (.cells #[.int .i64 x.f0,.int .i64 x.f1,.int .i64 x.f2] 82)).alloc (by simp) (.cells #[.int .i64 last.f0,.string last.f1,.int .i64 last.f2,.int .i64 last.f3] 75)
 have hs1:(w.alloc (.cells #[.int .i64 x.f0,.int .i64 x.f1,.int .i64 x.f2] 82)).heap.size=w.heap.size+1:=by simp
 have KX:=zc.mk ((Lib.alloc_old (w.alloc (.cells #[.int .i64 x.f0,.int .i64 x.f1,.int .i64 x.f2] 82)) (.cells #[.int .i64 last.f0,.string last.f1,.int .i64 last.f2,.int .i64 last.f3] 75) w.heap.size (by simp)).trans (j7 w (.cells #[.int .i64 x.f0,.int .i64 x.f1,.int .i64 x.f2] 82)))
 have KL:=zc.mk (j7 (w.alloc (.cells #[.int .i64 x.f0,.int .i64 x.f1,.int .i64 x.f2] 82)) (.cells #[.int .i64 last.f0,.string last.f1,.int .i64 last.f2,.int .i64 last.f3] 75));rw[hs1]at KL;have HQ:=zc.mk (h.step hb0);have HFR:=zc.mk (Fr.below hb0);subst he0;have HP:=Lib.hid (peek_at w0 g A c (t::rest) wv wait ov out dp 0 p0 p1 _ HQ.out);have hpk:hdT (t::rest)=⟨#[40]⟩:=ht;rw[hpk]at HP;have hdp1:¬(200:Int)≤dp:=by omega
 have hwd:IntKind.i64.wrap (dp+1)=dp+1:=by simp[j9];omega
 have HWT:=zc.mk hwt;have l0:((w.alloc (.cells #[.int .i64 x.f0,.int .i64 x.f1,.int .i64 x.f2] 82)).alloc (.cells #[.int .i64 last.f0,.string last.f1,.int .i64 last.f2,.int .i64 last.f3] 75)).cell? ⟨w.heap.size+1,0,none⟩=some (.int .i64 last.f0):=by rw[j6 KL.out];rfl
 have l1:((w.alloc (.cells #[.int .i64 x.f0,.int .i64 x.f1,.int .i64 x.f2] 82)).alloc (.cells #[.int .i64 last.f0,.string last.f1,.int .i64 last.f2,.int .i64 last.f3] 75)).cell? ⟨w.heap.size+1,1,none⟩=some (.string last.f1):=by rw[j6 KL.out];rfl
 have l2:((w.alloc (.cells #[.int .i64 x.f0,.int .i64 x.f1,.int .i64 x.f2] 82)).alloc (.cells #[.int .i64 last.f0,.string last.f1,.int .i64 last.f2,.int .i64 last.f3] 75)).cell? ⟨w.heap.size+1,2,none⟩=some (.int .i64 last.f2):=by rw[j6 KL.out];rfl
 have l3:((w.alloc (.cells #[.int .i64 x.f0,.int .i64 x.f1,.int .i64 x.f2] 82)).alloc (.cells #[.int .i64 last.f0,.string last.f1,.int .i64 last.f2,.int .i64 last.f3] 75)).cell? ⟨w.heap.size+1,3,none⟩=some (.int .i64 last.f3):=by rw[j6 KL.out];rfl
 obtain⟨c0,c1,c2,c3,c4,c5,c6⟩:=HQ.out.cells;obtain⟨x0,hx0⟩:∃x0,x0=x:=⟨_,rfl⟩;have HX:=zc.mk hx0;clear h hb0 hs1 hwt hx0 hdp hdp2;unfold tkV;go_enter Tryz.func43,Tryz.ntmps43
 go_wp2_with fail;generalize (w.alloc (.cells #[.int .i64 x.f0,.int .i64 x.f1,.int .i64 x.f2] 82)).alloc (.cells #[.int .i64 last.f0,.string last.f1,.int .i64 last.f2,.int .i64 last.f3] 75)=wa at*;refine HP.out.mono ?_;rintro ex wb ⟨rfl,rfl⟩;go_wp2_with fail;have HM:=qH w0 g A c t rest wv wait ov out dp 0 p0 p1 _ HQ.out rfl hk ⟨#[40]⟩ ht last;unfold tkV at HM;have HM:=Lib.hid HM;refine HM.out.mono ?_;rintro ex wd ⟨rfl,hq,hg⟩;have HQ3:=zc.mk hq;have HF3:=zc.mk (HFR.out.trans (HQ.out.fr hg));have KX3:=zc.mk ((hg.block _ (xe KX.out).1 (fun he=>by injection he with he;have h1:=KX.out;rw[he,HQ.out.blk]at h1;injection h1 with h1;injection h1 with _ h2;cases h2)).trans KX.out)
 clear hq hg HP HQ HFR KX KL l0 l1 l2 l3 c0 c1 c2 c3 c4 c5 c6 HM;have hne:w.heap.size≠g:=by
  intro he;have h1:=KX3.out;rw[he,HQ3.out.blk]at h1;injection h1 with h1;injection h1 with _ h2;cases h2
 obtain⟨c0,c1,c2,c3,c4,c5,c6⟩:=HQ3.out.cells;have f3:=HQ3.out.frozen 3;have HQ4:=zc.mk (HQ3.out.setD (dp+1));have HF4:=zc.mk (HF3.out.trans (HQ3.out.fr (gst (World.grownBy.refl wd (some g)) 3 (.int .i64 (dp+1)))));have KX4:=zc.mk ((Below.heap_setCell wd ⟨g,3,none⟩ (.int .i64 (dp+1)) _ hne).trans KX3.out);go_wp2_with fail;generalize wd.setCell ⟨g,3,none⟩ (.int .i64 (dp+1))=we at*;clear c0 c1 c2 c3 c4 c5 c6 f3 HQ3 HF3 KX3;obtain⟨d0,d1,d2,d3,d4,d5,d6⟩:=HQ4.out.cells;obtain⟨r0,r1,r2,r3,r4,r5,r6⟩:=(HQ4.out.step ((xb _ _).drew)).cells;have m0:we.cell? ⟨w.heap.size,0,none⟩=some (.int .i64 x.f0):=by rw[j6 KX4.out];rfl
 have m1:we.cell? ⟨w.heap.size,1,none⟩=some (.int .i64 x.f1):=by rw[j6 KX4.out];rfl
 have m2:we.cell? ⟨w.heap.size,2,none⟩=some (.int .i64 x.f2):=by rw[j6 KX4.out];rfl
 have hbytes:(wait.length+1)*24≤140737488355328:=by have:=HWT.out;omega
 have HQD:=zc.mk (HQ4.out.step ((xb _ _).drew));have hgl:=HQ4.out.lt;go_wp2_with fail;go_region_law ((refine Kd.R_append_step k82 (w0:=w0) (W:=we.drew) w0.heap.size (by rfl) (.tmp 33) (.tmp 35) 48 82 (.agg #[.int .i64 0,.int .i64 0,.int .i64 0]) 24 (by rfl) Tryz.underlying48 info82 (by rfl) (by decide) (by omega) wv wait x [.int .i64 x.f0,.int .i64 x.f1,.int .i64 x.f2] (fun k=>k≠g) (fun _=>False) (by rfl) (by rfl) (k82_mkM _ _ _ x) (fun _ hk=>hk.elim) (fun k hk=>by have:=HQD.out.lt;omega) HQD.out.wt HQD.out.bl HQD.out.bl.size hbytes ?_;intro v1 w1 hv1 hb1 hg1 ho1;have hl1:(wait++[x]).length=wait.length+1:=(by simp);obtain⟨Av,cv,hvv⟩:=Kd.R_slice hv1;rw[hl1]at hvv;subst hvv;have hk1:=(hg1.block g HQD.out.lt (fun hh=>HQD.out.wt.1 _ hh.symm rfl)).trans HQD.out.blk;have hz1:w1.frozen? ⟨g,1,none⟩=false:=Lib.frozen_of_heap hk1 1;have hc1:w1.cell? ⟨g,1,none⟩=some wv:=(by rw[j6 hk1];rfl);have HK1:=zc.mk hk1;clear hk1))
 all_goals(
  have HQ6:=HQD.out.newW hb1 hg1 (wait1:=wait++[x]) hv1;have HF7:=(HF4.out.trans ((Fr.below ((xb we.heap.size we).drew)).trans (HQD.out.frW hg1))).trans (Fr.grown (gst (World.grownBy.refl w1 (some g)) 1 (.slice Av (wait.length+1) cv)) (fun k hk=>by injection hk with hk;subst hk;exact⟨_,_,HK1.out,by decide⟩))
  go_wp2_with fail;first
  |(refine bodyPost_end (v:= .tuple #[]) (by simp[results,Tryz.f43,go_sem]) rfl ?_;exact⟨rfl,⟨_,HQ6⟩,HF7⟩)
  |(refine bodyPost_end (v:= .tuple #[]) (by simp[results,Tryz.f43,go_sem]) rfl ?_;exact⟨rfl,⟨_,HQ6.step ((xb _ _).drew)⟩,HF7.trans (Fr.below ((xb _ _).drew))⟩))
theorem pushDeep_at (w0:World)(g:Nat)(A:Option Addr)(c:Nat)(t:S75)(rest:List S75)(wv:Value)(wait:List S82)(ov:Value)(out:List Nd)(dp e p0 p1:Int)(w:World)(h:PB w0 g A c (t::rest) wv wait ov out dp e p0 p1 w)(he0:e=0)(hk:t.f0=2)(ht:t.f1=⟨#[40]⟩)(x:S82)(last:S75)(hwt:wait.length≤100000)(hdp:200≤dp)(hdp2:dp≤100000)(hlast:0≤last.f3∧last.f3+last.f1.size≤1000000):
 Calls Tryz.prog 43 #[.pointer (some ⟨g,0,none⟩),.agg #[.int .i64 x.f0,.int .i64 x.f1,.int .i64 x.f2],tkV last] w fun ex w'=>ex= .returned (.tuple #[])∧(∃wv',PB w0 g A c (t::rest) wv' (wait++[x]) ov out (dp+1) 111 t.f2 t.f3 w')∧Fr w w':=by
 have hb0:=((xb w.heap.size w).alloc (xc _) (.cells #[.int .i64 x.f0,.int .i64 x.f1,.int .i64 x.f2] 82)).alloc (by simp) (.cells #[.int .i64 last.f0,.string last.f1,.int .i64 last.f2,.int .i64 last.f3] 75)
 have hs1:(w.alloc (.cells #[.int .i64 x.f0,.int .i64 x.f1,.int .i64 x.f2] 82)).heap.size=w.heap.size+1:=by simp
 have KX:=zc.mk ((Lib.alloc_old (w.alloc (.cells #[.int .i64 x.f0,.int .i64 x.f1,.int .i64 x.f2] 82)) (.cells #[.int .i64 last.f0,.string last.f1,.int .i64 last.f2,.int .i64 last.f3] 75) w.heap.size (by simp)).trans (j7 w (.cells #[.int .i64 x.f0,.int .i64 x.f1,.int .i64 x.f2] 82)))
 have KL:=zc.mk (j7 (w.alloc (.cells #[.int .i64 x.f0,.int .i64 x.f1,.int .i64 x.f2] 82)) (.cells #[.int .i64 last.f0,.string last.f1,.int .i64 last.f2,.int .i64 last.f3] 75));rw[hs1]at KL;have HQ:=zc.mk (h.step hb0);have HFR:=zc.mk (Fr.below hb0);subst he0;have HP:=Lib.hid (peek_at w0 g A c (t::rest) wv wait ov out dp 0 p0 p1 _ HQ.out);have hpk:hdT (t::rest)=⟨#[40]⟩:=ht;rw[hpk]at HP;have hdp1:(200:Int)≤dp:=by omega
 have hwd:IntKind.i64.wrap (dp+1)=dp+1:=by simp[j9];omega
 have HWT:=zc.mk hwt;have l0:((w.alloc (.cells #[.int .i64 x.f0,.int .i64 x.f1,.int .i64 x.f2] 82)).alloc (.cells #[.int .i64 last.f0,.string last.f1,.int .i64 last.f2,.int .i64 last.f3] 75)).cell? ⟨w.heap.size+1,0,none⟩=some (.int .i64 last.f0):=by rw[j6 KL.out];rfl
 have l1:((w.alloc (.cells #[.int .i64 x.f0,.int .i64 x.f1,.int .i64 x.f2] 82)).alloc (.cells #[.int .i64 last.f0,.string last.f1,.int .i64 last.f2,.int .i64 last.f3] 75)).cell? ⟨w.heap.size+1,1,none⟩=some (.string last.f1):=by rw[j6 KL.out];rfl
 have l2:((w.alloc (.cells #[.int .i64 x.f0,.int .i64 x.f1,.int .i64 x.f2] 82)).alloc (.cells #[.int .i64 last.f0,.string last.f1,.int .i64 last.f2,.int .i64 last.f3] 75)).cell? ⟨w.heap.size+1,2,none⟩=some (.int .i64 last.f2):=by rw[j6 KL.out];rfl
 have l3:((w.alloc (.cells #[.int .i64 x.f0,.int .i64 x.f1,.int .i64 x.f2] 82)).alloc (.cells #[.int .i64 last.f0,.string last.f1,.int .i64 last.f2,.int .i64 last.f3] 75)).cell? ⟨w.heap.size+1,3,none⟩=some (.int .i64 last.f3):=by rw[j6 KL.out];rfl
 obtain⟨c0,c1,c2,c3,c4,c5,c6⟩:=HQ.out.cells;obtain⟨x0,hx0⟩:∃x0,x0=x:=⟨_,rfl⟩;have HX:=zc.mk hx0;have HF:=zL w0 g A c (t::rest) wv wait ov out dp 0 p0 p1 _ HQ.out rfl 111 last hlast;unfold tkV at HF;have HF:=Lib.hid HF;clear h hb0 hs1 hwt hx0 hdp hdp2 hlast;unfold tkV;go_enter Tryz.func43,Tryz.ntmps43
 go_wp2_with fail;generalize (w.alloc (.cells #[.int .i64 x.f0,.int .i64 x.f1,.int .i64 x.f2] 82)).alloc (.cells #[.int .i64 last.f0,.string last.f1,.int .i64 last.f2,.int .i64 last.f3] 75)=wa at*;refine HP.out.mono ?_;rintro ex wb ⟨rfl,rfl⟩;go_wp2_with fail;refine HF.out.mono ?_;rintro ex wc ⟨rfl,hq,hg⟩;have HQ2:=zc.mk hq;have HF2:=zc.mk (HFR.out.trans (HQ.out.fr hg));have KX2:=zc.mk ((hg.block _ (xe KX.out).1 (fun he=>by injection he with he;have h1:=KX.out;rw[he,HQ.out.blk]at h1;injection h1 with h1;injection h1 with _ h2;cases h2)).trans KX.out)
 have KL2:=zc.mk (HQ.out.fr hg _ _ KL.out);clear hq hg HF HP HQ HFR KX KL l0 l1 l2 l3 c0 c1 c2 c3 c4 c5 c6;have l0:wc.cell? ⟨w.heap.size+1,0,none⟩=some (.int .i64 last.f0):=by rw[j6 KL2.out];rfl
 have l1:wc.cell? ⟨w.heap.size+1,1,none⟩=some (.string last.f1):=by rw[j6 KL2.out];rfl
 have l2:wc.cell? ⟨w.heap.size+1,2,none⟩=some (.int .i64 last.f2):=by rw[j6 KL2.out];rfl
 have l3:wc.cell? ⟨w.heap.size+1,3,none⟩=some (.int .i64 last.f3):=by rw[j6 KL2.out];rfl
 have HM:=mustOld_at w0 g A c (t::rest) wv wait ov out dp 111 _ _ _ HQ2.out ⟨#[40]⟩ last (by simp[tkOK]) (by omega)
 unfold tkV at HM;have HM:=Lib.hid HM;go_wp2_with fail;refine HM.out.mono ?_;rintro ex wd ⟨rfl,hb⟩;have HQ3:=zc.mk (HQ2.out.step hb);have HF3:=zc.mk (HF2.out.trans (Fr.below hb));have KX3:=zc.mk ((hb.block _ (xe KX2.out).1).trans KX2.out);clear hb HM HQ2 HF2 KX2 KL2 l0 l1 l2 l3;have hne:w.heap.size≠g:=by
  intro he;have h1:=KX3.out;rw[he,HQ3.out.blk]at h1;injection h1 with h1;injection h1 with _ h2;cases h2
 obtain⟨c0,c1,c2,c3,c4,c5,c6⟩:=HQ3.out.cells;have f3:=HQ3.out.frozen 3;have HQ4:=zc.mk (HQ3.out.setD (dp+1));have HF4:=zc.mk (HF3.out.trans (HQ3.out.fr (gst (World.grownBy.refl wd (some g)) 3 (.int .i64 (dp+1)))));have KX4:=zc.mk ((Below.heap_setCell wd ⟨g,3,none⟩ (.int .i64 (dp+1)) _ hne).trans KX3.out);go_wp2_with fail;generalize wd.setCell ⟨g,3,none⟩ (.int .i64 (dp+1))=we at*;clear c0 c1 c2 c3 c4 c5 c6 f3 HQ3 HF3 KX3;obtain⟨d0,d1,d2,d3,d4,d5,d6⟩:=HQ4.out.cells;obtain⟨r0,r1,r2,r3,r4,r5,r6⟩:=(HQ4.out.step ((xb _ _).drew)).cells;have m0:we.cell? ⟨w.heap.size,0,none⟩=some (.int .i64 x.f0):=by rw[j6 KX4.out];rfl
 have m1:we.cell? ⟨w.heap.size,1,none⟩=some (.int .i64 x.f1):=by rw[j6 KX4.out];rfl
 have m2:we.cell? ⟨w.heap.size,2,none⟩=some (.int .i64 x.f2):=by rw[j6 KX4.out];rfl
 have hbytes:(wait.length+1)*24≤140737488355328:=by have:=HWT.out;omega
 have HQD:=zc.mk (HQ4.out.step ((xb _ _).drew));have hgl:=HQ4.out.lt;go_wp2_with fail;go_region_law ((refine Kd.R_append_step k82 (w0:=w0) (W:=we.drew) w0.heap.size (by rfl) (.tmp 33) (.tmp 35) 48 82 (.agg #[.int .i64 0,.int .i64 0,.int .i64 0]) 24 (by rfl) Tryz.underlying48 info82 (by rfl) (by decide) (by omega) wv wait x [.int .i64 x.f0,.int .i64 x.f1,.int .i64 x.f2] (fun k=>k≠g) (fun _=>False) (by rfl) (by rfl) (k82_mkM _ _ _ x) (fun _ hk=>hk.elim) (fun k hk=>by have:=HQD.out.lt;omega) HQD.out.wt HQD.out.bl HQD.out.bl.size hbytes ?_;intro v1 w1 hv1 hb1 hg1 ho1;have hl1:(wait++[x]).length=wait.length+1:=(by simp);obtain⟨Av,cv,hvv⟩:=Kd.R_slice hv1;rw[hl1]at hvv;subst hvv;have hk1:=(hg1.block g HQD.out.lt (fun hh=>HQD.out.wt.1 _ hh.symm rfl)).trans HQD.out.blk;have hz1:w1.frozen? ⟨g,1,none⟩=false:=Lib.frozen_of_heap hk1 1;have hc1:w1.cell? ⟨g,1,none⟩=some wv:=(by rw[j6 hk1];rfl);have HK1:=zc.mk hk1;clear hk1))
 all_goals(
  have HQ6:=HQD.out.newW hb1 hg1 (wait1:=wait++[x]) hv1;have HF7:=(HF4.out.trans ((Fr.below ((xb we.heap.size we).drew)).trans (HQD.out.frW hg1))).trans (Fr.grown (gst (World.grownBy.refl w1 (some g)) 1 (.slice Av (wait.length+1) cv)) (fun k hk=>by injection hk with hk;subst hk;exact⟨_,_,HK1.out,by decide⟩))
  go_wp2_with fail;first
  |(refine bodyPost_end (v:= .tuple #[]) (by simp[results,Tryz.f43,go_sem]) rfl ?_;exact⟨rfl,⟨_,HQ6⟩,HF7⟩)
  |(refine bodyPost_end (v:= .tuple #[]) (by simp[results,Tryz.f43,go_sem]) rfl ?_;exact⟨rfl,⟨_,HQ6.step ((xb _ _).drew)⟩,HF7.trans (Fr.below ((xb _ _).drew))⟩))
end Go.Proofs.YtjopepfemhckjaaGreatDoor.NW
end
