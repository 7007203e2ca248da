/-
  Part 43 of the proof of parseTells_holds: texts of this seat, put together.
-/
import Derived.Test.YtjopepfemhckjaaGreatDoorTl42
set_option linter.unusedVariables false
set_option linter.unusedSimpArgs false
set_option maxHeartbeats 16000000
set_option maxRecDepth 100000
section
namespace Go.Proofs.YtjopepfemhckjaaGreatDoor.NW
open Go.Proofs Go.RowKit Go.Shelf Go.Proofs.YtjopepfemhckjaaGreatDoor.PN Go.Proofs.YtjopepfemhckjaaGreatDoorW.PrintWords Go.Proofs.YtjopepfemhckjaaGreatDoor.PParseTells
theorem rparseLex_at (s:ByteArray)(hs:s.size≤20000)(e l c:Int)(he:e≠0)(hD:WW.lexD s=([],e,l,c))(w:World):
 Calls Tryz.prog 11 #[.string s] w fun ex w'=>ex= .returned (.tuple #[.slice none 0 0,.int .i64 e,.int .i64 l,.int .i64 c])∧Below w.heap.size w w':=by
 have HL:=Lib.hid (rlex_at s hs [] e l c hD w);clear hD;go_enter Tryz.func11,Tryz.ntmps11
 go_wp2_with fail;refine HL.out.mono ?_;rintro ex w1 ⟨v,rfl,hv,hb⟩;clear hv;go_wp2_with fail;refine bodyPost_ret (WW.results_tmp4 rfl _ _ _) rfl ?_;exact⟨rfl,hb⟩
inductive An3 where
 |ok (o:List Nd)
 |err (e l c:Int)
def AnTo (f:Nat)(s:ByteArray):An3→Prop
 | .ok o=>∀w,Glob2 w→Calls Tryz.prog f #[.string s] w fun ex w'=>∃A c,ex= .returned (.tuple #[.slice A o.length c,.int .i64 0,.int .i64 0,.int .i64 0])∧zc (Kd.C k37 w' A o.length (o.map nd37))∧Below w.heap.size w w'
 | .err e l c=>∀w,Glob2 w→Calls Tryz.prog f #[.string s] w fun ex w'=>ex= .returned (.tuple #[.slice none 0 0,.int .i64 e,.int .i64 l,.int .i64 c])∧Below w.heap.size w w'
def An3.len:An3→Nat
 | .ok o=>o.length
 | .err _ _ _=>0
theorem tells_law (s:ByteArray)(hs:s.size≤2000){wg:World}(hg:Glob wg):∃a:An3,a.len≤2000∧AnTo 10 s a∧AnTo 11 s a:=by
 rcases WW.lexD_ways s with⟨x,y,h1,h2⟩|⟨T,h1,h2,h3,h4⟩
 ·exact⟨.err 90 x y,Nat.zero_le _,fun w hg=>parseLex_at s (by omega) 90 x y (by decide) h1 w hg.g,fun w hg=>rparseLex_at s (by omega) 90 x y (by decide) h1 w⟩
 ·have hT:ToksOK s T:=⟨by omega,h1,h3,h4⟩
  obtain⟨last,hlast⟩:=last_of T;obtain⟨R,hR,hf⟩:=run_ex last 2000 (T.length+1) T true [] [] 0 0 (by omega) (fun t ht=>(h3 t ht).1) iv0 (by omega)
  have hla:0≤last.f3∧last.f3+last.f1.size≤1000000:=by
   rcases hlast with⟨_,hl⟩|⟨pre,hl⟩
   ·rw[hl]
    decide
   ·have h1:=hT.ok last (by rw[hl];simp)
    have h2:=tok_size h1.1;omega
  have hpsi:PSI T.length (ps T):=⟨fun t ht=>by have:=tok_size (hT.ok t ht).1;omega,fun _=>⟨rfl,rfl⟩,xc _⟩
  cases R with
  |err e a b=>exact⟨.err e a b,Nat.zero_le _,fun w hg=>qF s (by omega) T h1 (by omega) last hlast hla _ e a b (hf.err e a b rfl) hR w hg hpsi,fun w _=>rparseErr_at s (by omega) T h1 (by omega) (fun t ht=>(h3 t ht).1) last hlast hla _ e a b hR hg w⟩
  |ok o=>
   obtain⟨h5,h6,h7⟩:=hf.ok o rfl;obtain⟨stS,q1,q2⟩:=h5 _ ndP;obtain⟨stD,q3,q4⟩:=h5 _ depF;obtain⟨S,rfl⟩:=List.length_eq_one_iff.1 q2;obtain⟨D,rfl⟩:=List.length_eq_one_iff.1 q4;have hS0:0<S.size:=runF_pos o [] [S] (fun x hx=>by cases hx) q1 S (List.mem_singleton.2 rfl)
   have hF:Frm BigM o S D:=⟨h6,by omega,q1,q3⟩
   have hM5:5<BigM:=by unfold BigM;decide
   have hlen:o.length≤2000:=by omega
   have HC:=rparseOk_at s (by omega) T h1 (by omega) (fun t ht=>(h3 t ht).1) last hlast hla _ o hR (if S.size≤20000∧D≤150 then 0 else 100) (fun A c w hc hC=>rCheck_at o h6 hlen S D q1 q3 hS0 A c w hC) hg
   by_cases hb:S.size≤20000∧D≤150
   ·rw[if_pos hb]at HC
    refine⟨.ok o,hlen,fun w hg=>?_,fun w _=>?_⟩
    ·refine(parseOk_t s (by omega) BigM (jf BigM) hM5 T h1 (by omega) last hlast hla _ o hR S D hF hS0 hb.1 hb.2 w hg hpsi).mono ?_
     rintro ex w' ⟨A,c,e1,_,_,e2,e3⟩;exact⟨A,c,e1,e2,e3⟩
    ·refine(HC w).mono ?_
     rintro ex w' ⟨A,c,e1,e2,e3⟩;exact⟨A,c,e1,⟨(e2 rfl).2.2⟩,e3⟩
   ·rw[if_neg hb]at HC
    refine⟨.err 100 1 1,Nat.zero_le _,fun w hg=>parseBig_t s (by omega) BigM (jf BigM) hM5 T h1 (by omega) last hlast hla _ o hR S D hF hS0 hb w hg hpsi,fun w _=>?_⟩
    refine(HC w).mono ?_;rintro ex w' ⟨A,c,e1,e2,e3⟩;exact⟨e1,e3⟩
theorem numT_int (s:ByteArray)(z:Int)(d:Nat)(hd:allD s.data.toList)(hn:s.data.toList≠[])(hs:s.size≤1000)(h1:rnum (dv s.data.toList:Int) 1=z)(h2:rden (dv s.data.toList:Int) 1=d)(hsh:parse_short.f (intS z) (natS d)=some true):NumT s z d:=by
 refine⟨fun w hg=>?_,hsh⟩
 have h:=decInt_at 10000 div_small (by decide) s hd hn hs w hg
 rw[h1,h2]at h;exact h
theorem numT_frac (a b:List UInt8)(z:Int)(d:Nat)(hM:10^b.length<10000)(ha:allD a)(hb:allD b)(hna:a≠[])(hnb:b≠[])(hs:a.length+b.length≤900)(h1:rnum (dv (a++b):Int) (10^b.length)=z)(h2:rden (dv (a++b):Int) (10^b.length)=d)(hsh:parse_short.f (intS z) (natS d)=some true):NumT ⟨(a++46::b).toArray⟩ z d:=by
 refine⟨fun w hg=>?_,hsh⟩
 have h:=decFrac_at 10000 div_small a b hM ha hb hna hnb hs w hg;rw[h1,h2]at h;exact h
theorem allD1 (c:UInt8)(h:48≤c.toNat∧c.toNat≤57):allD [c]:=fun x hx=>by
 obtain rfl:=List.mem_singleton.1 hx;exact h
theorem allD2 (c d:UInt8)(h:48≤c.toNat∧c.toNat≤57)(h2:48≤d.toNat∧d.toNat≤57):allD [c,d]:=fun x hx=>by
 rcases List.mem_cons.1 hx with rfl|hx
 ·exact h
 ·obtain rfl:=List.mem_singleton.1 hx
  exact h2
theorem numT1:NumT ⟨#[49]⟩ 1 1:=numT_int _ _ _ (allD1 _ (by decide)) (by decide) (by decide) (by kernel_rfl) (by kernel_rfl) (by kernel_rfl)
theorem numT2:NumT ⟨#[50]⟩ 2 1:=numT_int _ _ _ (allD1 _ (by decide)) (by decide) (by decide) (by kernel_rfl) (by kernel_rfl) (by kernel_rfl)
theorem numT32:NumT ⟨#[49,46,53,48]⟩ 3 2:=numT_frac [49] [53,48] _ _ (by decide) (allD1 _ (by decide)) (allD2 _ _ (by decide) (by decide)) (by decide) (by decide) (by decide) (by kernel_rfl) (by kernel_rfl) (by kernel_rfl)
theorem sz1 (n:Nat)(b:UInt8)(h:natS n=⟨#[b]⟩):(natS n).size≤60:=by rw[h];show 1≤60;decide
theorem okB2:NdOK BigM (.num 2 1):=jL 2 1 (by decide) (by decide) (sz1 2 50 (by kernel_rfl)) (sz1 1 49 (by kernel_rfl))
theorem okB32:NdOK BigM (.num 3 2):=jL 3 2 (by decide) (by decide) (sz1 3 51 (by kernel_rfl)) (sz1 2 50 (by kernel_rfl))
theorem okpxB:NdOK BigM (.px ⟨#[120]⟩ 5):=⟨⟨by decide,by decide,by decide,by decide,by decide⟩,by decide,by decide⟩
theorem fx1_at_frm:Frm BigM [.px ⟨#[120]⟩ 5,.num 2 1,.num 3 2,.op 5,.op 8,.op 7] ⟨#[40,112,120,40,120,44,32,53,41,32,45,32,40,50,32,42,32,40,45,49,46,53,41,41,41]⟩ 4:=⟨fun n hn=>by
 simp only[List.mem_cons,List.not_mem_nil,or_false]at hn;rcases hn with rfl|rfl|rfl|rfl|rfl|rfl
 ·exact okpxB
 ·exact okB2
 ·exact okB32
 ·exact⟨by decide,by decide⟩
 ·exact⟨by decide,by decide⟩
 ·exact⟨by decide,by decide⟩,by decide,by kernel_rfl,by kernel_rfl⟩
theorem fxPrint_at (A:Option Addr)(c:Nat)(w:World)(hC:Kd.C k37 w A 6 (([.px ⟨#[120]⟩ 5,.num 2 1,.num 3 2,.op 5,.op 8,.op 7]:List Nd).map nd37)):Calls Tryz.prog 14 #[.slice A 6 c] w fun e w'=>e= .returned (.string ⟨#[40,112,120,40,120,44,32,53,41,32,45,32,40,50,32,42,32,40,45,49,46,53,41,41,41]⟩)∧Below w.heap.size w w':=
 rPrint_at [.px ⟨#[120]⟩ 5,.num 2 1,.num 3 2,.op 5,.op 8,.op 7] (fun n hn=>by
  simp only[List.mem_cons,List.not_mem_nil,or_false]at hn;rcases hn with rfl|rfl|rfl|rfl|rfl|rfl<;>first|trivial|exact⟨by decide,by decide⟩) (fun n hn=>by
  simp only[List.mem_cons,List.not_mem_nil,or_false]at hn;rcases hn with rfl|rfl|rfl|rfl|rfl|rfl
  ·exact rn_px okpxB
  ·exact rn_num okB2
  ·exact rn_num okB32
  ·exact rn_op 5 (by decide)
  ·exact rn_op 8 (by decide)
  ·exact rn_op 7 (by decide)) (by decide) (by decide) depF 4 (by kernel_rfl) _ (by kernel_rfl) A c w hC
theorem psi_all (T:List S75)(h:T.all (fun t=>decide (t.f1.size≤1000000))=true):PSI T.length (ps T):=⟨fun t ht=>of_decide_eq_true (List.all_eq_true.1 h t ht),fun _=>⟨rfl,rfl⟩,xc _⟩
theorem oPrice_k {last:S75}(k:Nat)(t:S75)(rest:List S75)(r:List S82)(o:List Nd)(dp:Int)(R:Res)(kk:Nat)(rest':List S75)(n:Nd)(hk:t.f0=0)(ht:t.f1=nmP kk)(hkk:1≤kk∧kk≤4)(e:(ps rest).price kk last=(⟨rest',0,0,0⟩,n))(h:Run2 last k false rest' r (o++[n]) dp R):Run2 last (k+1) true (t::rest) r o dp R:=
 .oPrice k t rest r o dp R kk hk ht hkk (fun _=>by rw[e];exact h) (fun hne=>absurd (by rw[e]) hne)
theorem oFun_k {last:S75}(k:Nat)(t:S75)(rest:List S75)(r:List S82)(o:List Nd)(dp:Int)(R:Res)(kk:Nat)(rest':List S75)(hk:t.f0=0)(ht:t.f1=nmF kk)(hkk:10≤kk∧kk≤12)(e:(ps rest).push dp last=⟨rest',0,0,0⟩)(h:Run2 last k true rest' (⟨kk,0,nmA kk⟩::r) o (dp+1) R):Run2 last (k+1) true (t::rest) r o dp R:=
 .oFun k t rest r o dp R kk hk ht hkk (fun _=>by rw[e];exact h) (fun hne=>absurd (by rw[e]) hne)
theorem fx0_t (w:World)(hg:Glob2 w):Calls Tryz.prog 10 #[.string ⟨#[112,120,40,120,44,32,53,41,32,45,32,50,32,42,32,45,40,49,32,43,32,109,97,120,40,121,49,44,32,50,41,41]⟩] w fun ex w'=>ex= .returned (.tuple #[.slice none 0 0,.int .i64 110,.int .i64 1,.int .i64 26])∧Below w.heap.size w w':=
 qF _ (by decide) [⟨0,⟨#[112,120]⟩,1,1⟩,⟨2,⟨#[40]⟩,1,3⟩,⟨0,⟨#[120]⟩,1,4⟩,⟨2,⟨#[44]⟩,1,5⟩,⟨1,⟨#[53]⟩,1,7⟩,⟨2,⟨#[41]⟩,1,8⟩,⟨2,⟨#[45]⟩,1,10⟩,⟨1,⟨#[50]⟩,1,12⟩,⟨2,⟨#[42]⟩,1,14⟩,⟨2,⟨#[45]⟩,1,16⟩,⟨2,⟨#[40]⟩,1,17⟩,⟨1,⟨#[49]⟩,1,18⟩,⟨2,⟨#[43]⟩,1,20⟩,⟨0,⟨#[109,97,120]⟩,1,22⟩,⟨2,⟨#[40]⟩,1,25⟩,⟨0,⟨#[121,49]⟩,1,26⟩,⟨2,⟨#[44]⟩,1,28⟩,⟨1,⟨#[50]⟩,1,30⟩,⟨2,⟨#[41]⟩,1,31⟩,⟨2,⟨#[41]⟩,1,32⟩] (by kernel_rfl) (by decide) ⟨2,⟨#[41]⟩,1,32⟩ (.inr ⟨[⟨0,⟨#[112,120]⟩,1,1⟩,⟨2,⟨#[40]⟩,1,3⟩,⟨0,⟨#[120]⟩,1,4⟩,⟨2,⟨#[44]⟩,1,5⟩,⟨1,⟨#[53]⟩,1,7⟩,⟨2,⟨#[41]⟩,1,8⟩,⟨2,⟨#[45]⟩,1,10⟩,⟨1,⟨#[50]⟩,1,12⟩,⟨2,⟨#[42]⟩,1,14⟩,⟨2,⟨#[45]⟩,1,16⟩,⟨2,⟨#[40]⟩,1,17⟩,⟨1,⟨#[49]⟩,1,18⟩,⟨2,⟨#[43]⟩,1,20⟩,⟨0,⟨#[109,97,120]⟩,1,22⟩,⟨2,⟨#[40]⟩,1,25⟩,⟨0,⟨#[121,49]⟩,1,26⟩,⟨2,⟨#[44]⟩,1,28⟩,⟨1,⟨#[50]⟩,1,30⟩,⟨2,⟨#[41]⟩,1,31⟩],rfl⟩) (by decide) 10 110 1 26 (by decide)
  (oPrice_k 9 _ _ _ _ _ _ 1 [⟨2,⟨#[45]⟩,1,10⟩,⟨1,⟨#[50]⟩,1,12⟩,⟨2,⟨#[42]⟩,1,14⟩,⟨2,⟨#[45]⟩,1,16⟩,⟨2,⟨#[40]⟩,1,17⟩,⟨1,⟨#[49]⟩,1,18⟩,⟨2,⟨#[43]⟩,1,20⟩,⟨0,⟨#[109,97,120]⟩,1,22⟩,⟨2,⟨#[40]⟩,1,25⟩,⟨0,⟨#[121,49]⟩,1,26⟩,⟨2,⟨#[44]⟩,1,28⟩,⟨1,⟨#[50]⟩,1,30⟩,⟨2,⟨#[41]⟩,1,31⟩,⟨2,⟨#[41]⟩,1,32⟩] (.px ⟨#[120]⟩ 5) rfl rfl ⟨by decide,by decide⟩ (by kernel_rfl) (Run2.pOp 8 _ _ _ _ _ _ 7 1 [] [.px ⟨#[120]⟩ 5] (by kernel_rfl) (by decide) (by decide) (by decide) (by kernel_rfl) (Run2.oNum 7 _ _ _ _ _ _ 2 1 rfl numT2 (Run2.pOp 6 _ _ _ _ _ _ 8 2 [⟨7,1,0⟩] [.px ⟨#[120]⟩ 5,.num 2 1] (by kernel_rfl) (by decide) (by decide) (by decide) (by kernel_rfl) (Run2.oNeg 5 _ _ _ _ _ _ rfl rfl (Run2.oPar 4 _ _ _ _ _ _ rfl rfl (by decide) (Run2.oNum 3 _ _ _ _ _ _ 1 1 rfl numT1 (Run2.pOp 2 _ _ _ _ _ _ 6 1 [⟨-1,0,0⟩,⟨5,3,0⟩,⟨8,2,0⟩,⟨7,1,0⟩] [.px ⟨#[120]⟩ 5,.num 2 1,.num 1 1] (by kernel_rfl) (by decide) (by decide) (by decide) (by kernel_rfl) (oFun_k 1 _ _ _ _ _ _ 10 [⟨0,⟨#[121,49]⟩,1,26⟩,⟨2,⟨#[44]⟩,1,28⟩,⟨1,⟨#[50]⟩,1,30⟩,⟨2,⟨#[41]⟩,1,31⟩,⟨2,⟨#[41]⟩,1,32⟩] rfl rfl ⟨by decide,by decide⟩ (by kernel_rfl) (Run2.oBad 0 _ _ _ _ _ rfl (by kernel_rfl) (by rw[ByteArray.toList_eq];decide))))))))))) w hg (psi_all _ (by kernel_rfl))
theorem fx1_t (w:World)(hg:Glob2 w):Calls Tryz.prog 10 #[.string ⟨#[112,120,40,120,44,32,53,41,32,45,32,50,32,42,32,45,49,46,53,48]⟩] w fun ex w'=>∃A c,ex= .returned (.tuple #[.slice A 6 c,.int .i64 0,.int .i64 0,.int .i64 0])∧6≤c∧(∀ad,A=some ad→∃tb of,ad=⟨tb,of,none⟩∧tb<w'.heap.size)∧zc (Kd.C k37 w' A 6 (([.px ⟨#[120]⟩ 5,.num 2 1,.num 3 2,.op 5,.op 8,.op 7]:List Nd).map nd37))∧Below w.heap.size w w':=
 parseOk_t _ (by decide) BigM (jf BigM) (by unfold BigM;decide) [⟨0,⟨#[112,120]⟩,1,1⟩,⟨2,⟨#[40]⟩,1,3⟩,⟨0,⟨#[120]⟩,1,4⟩,⟨2,⟨#[44]⟩,1,5⟩,⟨1,⟨#[53]⟩,1,7⟩,⟨2,⟨#[41]⟩,1,8⟩,⟨2,⟨#[45]⟩,1,10⟩,⟨1,⟨#[50]⟩,1,12⟩,⟨2,⟨#[42]⟩,1,14⟩,⟨2,⟨#[45]⟩,1,16⟩,⟨1,⟨#[49,46,53,48]⟩,1,17⟩] (by kernel_rfl) (by decide) ⟨1,⟨#[49,46,53,48]⟩,1,17⟩ (.inr ⟨[⟨0,⟨#[112,120]⟩,1,1⟩,⟨2,⟨#[40]⟩,1,3⟩,⟨0,⟨#[120]⟩,1,4⟩,⟨2,⟨#[44]⟩,1,5⟩,⟨1,⟨#[53]⟩,1,7⟩,⟨2,⟨#[41]⟩,1,8⟩,⟨2,⟨#[45]⟩,1,10⟩,⟨1,⟨#[50]⟩,1,12⟩,⟨2,⟨#[42]⟩,1,14⟩,⟨2,⟨#[45]⟩,1,16⟩],rfl⟩) (by decide) 7 [.px ⟨#[120]⟩ 5,.num 2 1,.num 3 2,.op 5,.op 8,.op 7]
  (oPrice_k 6 _ _ _ _ _ _ 1 [⟨2,⟨#[45]⟩,1,10⟩,⟨1,⟨#[50]⟩,1,12⟩,⟨2,⟨#[42]⟩,1,14⟩,⟨2,⟨#[45]⟩,1,16⟩,⟨1,⟨#[49,46,53,48]⟩,1,17⟩] (.px ⟨#[120]⟩ 5) rfl rfl ⟨by decide,by decide⟩ (by kernel_rfl) (Run2.pOp 5 _ _ _ _ _ _ 7 1 [] [.px ⟨#[120]⟩ 5] (by kernel_rfl) (by decide) (by decide) (by decide) (by kernel_rfl) (Run2.oNum 4 _ _ _ _ _ _ 2 1 rfl numT2 (Run2.pOp 3 _ _ _ _ _ _ 8 2 [⟨7,1,0⟩] [.px ⟨#[120]⟩ 5,.num 2 1] (by kernel_rfl) (by decide) (by decide) (by decide) (by kernel_rfl) (Run2.oNeg 2 _ _ _ _ _ _ rfl rfl (Run2.oNum 1 _ _ _ _ _ _ 3 2 rfl numT32 (Run2.pEnd 0 _ _ _ [.px ⟨#[120]⟩ 5,.num 2 1,.num 3 2,.op 5,.op 8,.op 7] (by kernel_rfl)))))))) ⟨#[40,112,120,40,120,44,32,53,41,32,45,32,40,50,32,42,32,40,45,49,46,53,41,41,41]⟩ 4 fx1_at_frm (by decide) (by decide) (by decide) w hg (psi_all _ (by kernel_rfl))
theorem fx2_t (w:World)(hg:Glob2 w):Calls Tryz.prog 10 #[.string ⟨#[112,120,40,120,44,32,53,41,32,45,32,50,32,42,32,45,121]⟩] w fun ex w'=>ex= .returned (.tuple #[.slice none 0 0,.int .i64 110,.int .i64 1,.int .i64 17])∧Below w.heap.size w w':=
 qF _ (by decide) [⟨0,⟨#[112,120]⟩,1,1⟩,⟨2,⟨#[40]⟩,1,3⟩,⟨0,⟨#[120]⟩,1,4⟩,⟨2,⟨#[44]⟩,1,5⟩,⟨1,⟨#[53]⟩,1,7⟩,⟨2,⟨#[41]⟩,1,8⟩,⟨2,⟨#[45]⟩,1,10⟩,⟨1,⟨#[50]⟩,1,12⟩,⟨2,⟨#[42]⟩,1,14⟩,⟨2,⟨#[45]⟩,1,16⟩,⟨0,⟨#[121]⟩,1,17⟩] (by kernel_rfl) (by decide) ⟨0,⟨#[121]⟩,1,17⟩ (.inr ⟨[⟨0,⟨#[112,120]⟩,1,1⟩,⟨2,⟨#[40]⟩,1,3⟩,⟨0,⟨#[120]⟩,1,4⟩,⟨2,⟨#[44]⟩,1,5⟩,⟨1,⟨#[53]⟩,1,7⟩,⟨2,⟨#[41]⟩,1,8⟩,⟨2,⟨#[45]⟩,1,10⟩,⟨1,⟨#[50]⟩,1,12⟩,⟨2,⟨#[42]⟩,1,14⟩,⟨2,⟨#[45]⟩,1,16⟩],rfl⟩) (by decide) 6 110 1 17 (by decide)
  (oPrice_k 5 _ _ _ _ _ _ 1 [⟨2,⟨#[45]⟩,1,10⟩,⟨1,⟨#[50]⟩,1,12⟩,⟨2,⟨#[42]⟩,1,14⟩,⟨2,⟨#[45]⟩,1,16⟩,⟨0,⟨#[121]⟩,1,17⟩] (.px ⟨#[120]⟩ 5) rfl rfl ⟨by decide,by decide⟩ (by kernel_rfl) (Run2.pOp 4 _ _ _ _ _ _ 7 1 [] [.px ⟨#[120]⟩ 5] (by kernel_rfl) (by decide) (by decide) (by decide) (by kernel_rfl) (Run2.oNum 3 _ _ _ _ _ _ 2 1 rfl numT2 (Run2.pOp 2 _ _ _ _ _ _ 8 2 [⟨7,1,0⟩] [.px ⟨#[120]⟩ 5,.num 2 1] (by kernel_rfl) (by decide) (by decide) (by decide) (by kernel_rfl) (Run2.oNeg 1 _ _ _ _ _ _ rfl rfl (Run2.oBad 0 _ _ _ _ _ rfl (by kernel_rfl) (by rw[ByteArray.toList_eq];decide))))))) w hg (psi_all _ (by kernel_rfl))
theorem fx3_t (w:World)(hg:Glob2 w):Calls Tryz.prog 10 #[.string ⟨#[40,49,32,43,10]⟩] w fun ex w'=>ex= .returned (.tuple #[.slice none 0 0,.int .i64 110,.int .i64 1,.int .i64 5])∧Below w.heap.size w w':=
 qF _ (by decide) [⟨2,⟨#[40]⟩,1,1⟩,⟨1,⟨#[49]⟩,1,2⟩,⟨2,⟨#[43]⟩,1,4⟩] (by kernel_rfl) (by decide) ⟨2,⟨#[43]⟩,1,4⟩ (.inr ⟨[⟨2,⟨#[40]⟩,1,1⟩,⟨1,⟨#[49]⟩,1,2⟩],rfl⟩) (by decide) 4 110 1 5 (by decide)
  (Run2.oPar 3 _ _ _ _ _ _ rfl rfl (by decide) (Run2.oNum 2 _ _ _ _ _ _ 1 1 rfl numT1 (Run2.pOp 1 _ _ _ _ _ _ 6 1 [⟨-1,0,0⟩] [.num 1 1] (by kernel_rfl) (by decide) (by decide) (by decide) (by kernel_rfl) (Run2.oEnd 0 _ _ _)))) w hg (psi_all _ (by kernel_rfl))
theorem fx4_t (w:World)(hg:Glob2 w):Calls Tryz.prog 10 #[.string ⟨#[]⟩] w fun ex w'=>ex= .returned (.tuple #[.slice none 0 0,.int .i64 110,.int .i64 1,.int .i64 1])∧Below w.heap.size w w':=
 qF _ (by decide) [] (by kernel_rfl) (by decide) ⟨0,⟨#[]⟩,1,1⟩ (.inl ⟨rfl,rfl⟩) (by decide) 1 110 1 1 (by decide)
  (Run2.oEnd 0 _ _ _) w hg (psi_all _ (by kernel_rfl))
theorem fixed_t (w:World)(hg:Glob2 w):Calls Tryz.prog 9 #[] w fun e w'=>e= .returned (.bool true)∧Below w.heap.size w w':=by
 have HG:=zc.mk hg;have H0:=fun w hg=>Lib.hid (fx0_t w hg)
 have H1:=fun w hg=>Lib.hid (fx1_t w hg)
 have H2:=fun w hg=>Lib.hid (fx2_t w hg)
 have H3:=fun w hg=>Lib.hid (fx3_t w hg)
 have H4:=fun w hg=>Lib.hid (fx4_t w hg)
 clear hg;go_enter Tryz.func9,Tryz.ntmps9
 go_wp2_with fail;refine(H0 _ HG.out).out.mono ?_;rintro e w0 ⟨rfl,hb⟩;have B0:=zc.mk hb;clear hb H0;go_wp2_with fail;refine(H1 _ (HG.out.below B0.out)).out.mono ?_;rintro e w1 ⟨A,c,rfl,hc,hA,hC,hb⟩;have B1:=zc.mk (B0.out.trans (hb.mono B0.out.size));clear hb H1 B0 hA hc;go_wp2_with fail;refine(H2 _ (HG.out.below B1.out)).out.mono ?_;rintro e w2 ⟨rfl,hb⟩;have B2:=zc.mk (B1.out.trans (hb.mono B1.out.size));have hC2:=zc.mk (Kd.C_below hC.out hb);clear hb H2 B1 hC;go_wp2_with fail;refine(H3 _ (HG.out.below B2.out)).out.mono ?_;rintro e w3 ⟨rfl,hb⟩;have B3:=zc.mk (B2.out.trans (hb.mono B2.out.size));have hC3:=zc.mk (Kd.C_below hC2.out hb);clear hb H3 B2 hC2;go_wp2_with fail;refine(H4 _ (HG.out.below B3.out)).out.mono ?_;rintro e w4 ⟨rfl,hb⟩;have B4:=zc.mk (B3.out.trans (hb.mono B3.out.size));have HP:=Lib.hid (fxPrint_at A c w4 (Kd.C_below hC3.out hb));clear hb H4 B3 hC3;go_wp2_with fail;refine HP.out.mono ?_;rintro e w5 ⟨rfl,hb⟩;have B5:=zc.mk (B4.out.trans (hb.mono B4.out.size));clear hb HP B4;go_wp2_with fail;go_ret;exact⟨rfl,B5.out⟩
theorem same_at (l:List Nd)(A B:Option Addr)(c d:Nat)(hl:l.length≤2000)(w:World)(hA:Kd.C k37 w A l.length (l.map nd37))(hB:Kd.C k37 w B l.length (l.map nd37)):Calls Tryz.prog 12 #[.slice A l.length c,.slice B l.length d] w fun e w'=>e= .returned (.bool true)∧Below w.heap.size w w':=by
 have HA:=zc.mk hA;have HB:=zc.mk hB;clear hA hB;go_enter Tryz.func12,Tryz.ntmps12
 go_wp2_with fail;go_loopg [5] (l.length+1) (fun kq v5 w'=>∃(j:Nat),v5= .int .i64 (j:Int)∧j+kq=l.length+1∧j≤l.length∧zc (Below w.heap.size w w'))
 case atStart=>exact⟨0,rfl,by omega,by omega,⟨xb _ _⟩⟩
 case round=>
  obtain⟨j,rfl,hj,hjn,HW⟩:=hrel;by_cases hie:j=l.length
  ·subst hie
   have BB:=HW.out;clear HW HA HB;go_wp2_with fail;go_ret;exact⟨rfl,BB⟩
  ·have hlt:j<l.length:=by omega
   have hilt:(j:Int)<(l.length:Int):=by omega
   obtain⟨ad,hAd,q0,q1,q2,q3,q4,q5⟩:=at_T37 (Kd.C_below HA.out HW.out) (j:Int) (by omega) (by omega)
   obtain⟨be,hBe,r0,r1,r2,r3,r4,r5⟩:=at_T37 (Kd.C_below HB.out HW.out) (j:Int) (by omega) (by omega)
   rw[xa]at q0 q1 q2 q3 q4 q5 r0 r1 r2 r3 r4 r5;generalize rd_T37 (l.map nd37) (j:Int)=nn at*;subst hAd hBe;go_wp2_with fail;go_region;have HW2:=zc.mk HW.out.drew;clear HW q0 q1 q2 q3 q4 q5 r0 r1 r2 r3 r4 r5;go_wp2_with fail;go_roundg (gk-1)
   case measure=>omega
   case rel=>exact⟨j+1,by go_num,by omega,by omega,HW2⟩
theorem tellsA_at (s:ByteArray)(h1:2000<(s.size:Int))(w:World)(hg:Glob2 w):Calls Tryz.prog 3 #[.string s] w fun e w'=>e= .returned (.bool true)∧Below w.heap.size w w':=by
 have HG:=zc.mk hg;have H0:=fun w (hg:Glob2 w)=>Lib.hid (fixed_t w hg)
 clear hg;go_enter Tryz.func3,Tryz.ntmps3
 go_wp2_with fail;refine(H0 _ HG.out).out.mono ?_;rintro e w0 ⟨rfl,hb⟩;go_wp2_with fail;go_ret;exact⟨rfl,hb⟩
theorem tellsB_at (s:ByteArray)(h1:¬2000<(s.size:Int))(e l c:Int)(ha:AnTo 10 s (.err e l c))(hp:AnTo 11 s (.err e l c))(w:World)(hg:Glob2 w):Calls Tryz.prog 3 #[.string s] w fun e w'=>e= .returned (.bool true)∧Below w.heap.size w w':=by
 have HG:=zc.mk hg;have H0:=fun w (hg:Glob2 w)=>Lib.hid (fixed_t w hg)
 have H1:=fun w (hg:Glob2 w)=>Lib.hid (ha w hg)
 have H2:=fun w (hg:Glob2 w)=>Lib.hid (hp w hg)
 have HS:=fun W=>Lib.hid (same_at [] none none 0 0 (by decide) W (Kd.C_nil _ _) (Kd.C_nil _ _))
 clear hg ha hp;go_enter Tryz.func3,Tryz.ntmps3
 go_wp2_with fail;refine(H1 _ HG.out).out.mono ?_;rintro ex w0 ⟨rfl,hb⟩;have B0:=zc.mk hb;clear hb H1;go_wp2_with fail;refine(H2 _ (HG.out.below B0.out)).out.mono ?_;rintro ex w1 ⟨rfl,hb⟩;have B1:=zc.mk (B0.out.trans (hb.mono B0.out.size));clear hb H2 B0;go_wp2_with fail;refine(H0 _ (HG.out.below B1.out)).out.mono ?_;rintro ex w2 ⟨rfl,hb⟩;have B2:=zc.mk (B1.out.trans (hb.mono B1.out.size));clear hb H0 B1;go_wp2_with fail;refine(HS _).out.mono ?_;rintro ex w3 ⟨rfl,hb⟩;have B3:=zc.mk (B2.out.trans (hb.mono B2.out.size));clear hb HS B2;go_wp2_with fail;go_ret;exact⟨by first|rfl|(simp;done),B3.out⟩
theorem tellsC_at (s:ByteArray)(h1:¬2000<(s.size:Int))(o:List Nd)(hl:o.length≤2000)(ha:AnTo 10 s (.ok o))(hp:AnTo 11 s (.ok o))(w:World)(hg:Glob2 w):Calls Tryz.prog 3 #[.string s] w fun e w'=>e= .returned (.bool true)∧Below w.heap.size w w':=by
 have HG:=zc.mk hg;have H0:=fun w (hg:Glob2 w)=>Lib.hid (fixed_t w hg)
 have H1:=fun w (hg:Glob2 w)=>Lib.hid (ha w hg)
 have H2:=fun w (hg:Glob2 w)=>Lib.hid (hp w hg)
 have HS:=fun A B c d W h1 h2=>Lib.hid (same_at o A B c d hl W h1 h2)
 clear hg ha hp;go_enter Tryz.func3,Tryz.ntmps3
 go_wp2_with fail;refine(H1 _ HG.out).out.mono ?_;rintro ex w0 ⟨A1,k1,rfl,C1,hb⟩;have B0:=zc.mk hb;clear hb H1;go_wp2_with fail;refine(H2 _ (HG.out.below B0.out)).out.mono ?_;rintro ex w1 ⟨A2,k2,rfl,C2,hb⟩;have C1b:=zc.mk (Kd.C_below C1.out hb);have B1:=zc.mk (B0.out.trans (hb.mono B0.out.size));clear hb H2 B0 C1;go_wp2_with fail;refine(H0 _ (HG.out.below B1.out)).out.mono ?_;rintro ex w2 ⟨rfl,hb⟩;have C1c:=zc.mk (Kd.C_below C1b.out hb);have C2c:=zc.mk (Kd.C_below C2.out hb);have B2:=zc.mk (B1.out.trans (hb.mono B1.out.size));clear hb H0 B1 C1b C2;go_wp2_with fail;refine(HS A1 A2 k1 k2 _ C1c.out C2c.out).out.mono ?_;rintro ex w3 ⟨rfl,hb⟩;have B3:=zc.mk (B2.out.trans (hb.mono B2.out.size));clear hb HS B2 C1c C2c;go_wp2_with fail;go_ret;exact⟨by first|rfl|(simp;done),B3.out⟩
theorem tells_at (s:ByteArray)(w:World)(hg:Glob2 w):Calls Tryz.prog 3 #[.string s] w fun e w'=>e= .returned (.bool true)∧Below w.heap.size w w':=by
 by_cases h:2000<(s.size:Int)
 ·exact tellsA_at s h w hg
 ·obtain⟨a,h1,h2,h3⟩:=tells_law s (by omega) hg.g
  cases a with
  |err e l c=>exact tellsB_at s h e l c h2 h3 w hg
  |ok o=>exact tellsC_at s h o h1 h2 h3 w hg
end Go.Proofs.YtjopepfemhckjaaGreatDoor.NW
end
