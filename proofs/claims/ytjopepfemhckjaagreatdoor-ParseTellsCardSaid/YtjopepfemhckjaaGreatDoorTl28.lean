/-
  Part 28 of the proof of parseTells_holds: texts of this seat, put together.
-/
import Derived.Test.YtjopepfemhckjaaGreatDoorTl27
set_option linter.unusedVariables false
set_option linter.unusedSimpArgs false
set_option maxHeartbeats 16000000
set_option maxRecDepth 100000
section
namespace Go.Proofs.YtjopepfemhckjaaGreatDoor.NW
open Go.Proofs Go.RowKit Go.Shelf Go.Proofs.YtjopepfemhckjaaGreatDoor.PN Go.Proofs.YtjopepfemhckjaaGreatDoorW.PrintWords Go.Proofs.YtjopepfemhckjaaGreatDoor.PParseTells
def JR2 (w0:World)(g bl:Nat)(last:S75)(RES:Res)(k l:Nat)(a:Act)(W:World):Prop:=
 (l=0∨l=1)∧zJ g bl a∧zc (W.heap[bl]? =some (.cells #[.int .i64 last.f0,.string last.f1,.int .i64 last.f2,.int .i64 last.f3] 75))∧
 ∃(toks:List S75) (r:List S82) (o:List Nd) (dp e p0 p1:Int) (A:Option Addr) (c:Nat) (wv ov:Value),zc (PB w0 g A c toks wv r.reverse ov o dp e p0 p1 W)∧
  ((e≠0∧RES= .err e p0 p1)∨(e=0∧p0=0∧p1=0∧zc (Run2 last k (decide (l=0)) toks r o dp RES)∧zc (r.length+o.length+toks.length≤50000∧dp+toks.length≤50000∧ -50000+(toks.length:Int)≤dp)∧zc (∀x∈r,1≤x.f1→0≤x.f0)∧zc (∀x∈r,x.f2≤3)∧zc (PSI toks.length (ps toks))))
theorem op44 (t:S75)(hk:t.f0=2)(ht:t.f1=⟨#[44]⟩):parse_operator.f t.f0 t.f1 t.f2 t.f3=some (0,0):=by
 rw[hk,ht];unfold parse_operator.f;simp[ByteArray.toList_eq]
theorem qg {t:S75}{rest:List S75}(h:PSI (t::rest).length (ps (t::rest))):PSI rest.length (ps rest):=
 ⟨fun x hx=>h.sz x (List.mem_cons_of_mem _ hx),fun _=>⟨rfl,rfl⟩,xc _⟩
theorem psi_sub {n:Nat}{s:PS}(h:PSI n s):PSI s.toks.length (ps s.toks):=⟨h.sz,fun _=>⟨rfl,rfl⟩,xc _⟩
theorem retE {w0:World}{g:Nat}{RES:Res}{a:Act}{W:World}(hd:a.defers=[])(h:PostR w0 g RES W):bodyPost Tryz.prog Tryz.f19 (fun ex w'=>ex= .returned (.tuple #[])∧PostR w0 g RES w') .normal a W:=
 bodyPost_end (v:= .tuple #[]) (by simp[results,Tryz.f19,go_sem]) hd ⟨rfl,h⟩
theorem pass1_t {t0 t1:Code}(hr0:findLabel bodyC 0=some (.seq .skip t0))(hr1:findLabel bodyC 1=some (.seq .skip t1))(w0:World)(g bl:Nat)(last:S75)(RES:Res)(HG:Glob2 w0)(hla:0≤last.f3∧last.f3+last.f1.size≤1000000)(k K:Nat)(a:Act)(W:World)(hkK:k≤K)(hj:JR2 w0 g bl last RES k 1 a W):t1.wp Tryz.prog (zn (fun l' a' w'=>∃k',k'<K∧JR2 w0 g bl last RES k' l' a' w') (bodyPost Tryz.prog Tryz.f19 (fun ex w'=>ex= .returned (.tuple #[])∧PostR w0 g RES w'))) a W:=by
 obtain⟨_,hf,hb,toks,r,o,dp,e,p0,p1,A,c,wv,ov,hP,hh⟩:=hj;obtain⟨f,rfl⟩:=frame_of hf;rcases hh with⟨he,hres⟩|⟨rfl,rfl,rfl,hR,hS,hw,hw3,hz⟩
 ·subst hres
  exact cErr1 hr1 w0 g bl last f A c toks wv r ov o dp e p0 p1 W hP hb he ⟨fun a' hd=>retOK hd ⟨_,_,_,_,_,_,_,_,hP.out⟩⟩
 ·obtain⟨s1,s2,s3⟩:=hS.out
  have hR:=hR.out;have hd:decide ((1:Nat)=0)=false:=rfl;rw[hd]at hR;cases hR with
  |pEnd k r o dp o' h=>
   exact cPEnd hr1 w0 g bl last f A c wv r ov o dp 0 0 0 W hP hb rfl o' h hw ⟨by omega⟩ ⟨fun a' W' hd hp=>by obtain⟨A',c',toks',wv',wait',ov',hp⟩:=hp.out;exact retOK hd ⟨_,_,_,_,_,_,_,_,_,hp⟩⟩
  |pEndW k r o dp x r' o' h=>
   exact cPEndW hr1 w0 g bl last f A c wv r ov o dp 0 0 0 W hP hb rfl x r' o' h hw ⟨by omega⟩ ⟨hla⟩ ⟨fun a' W' hd hp=>by obtain⟨A',c',toks',wv',wait',ov',hp⟩:=hp.out;exact retOK hd ⟨_,_,_,_,_,_,_,_,hp⟩⟩
  |pOp k t rest r o dp R op rank r' o' ho hop hr hr2 hp h=>
   have hl:=qj rank r o;rw[hp]at hl;simp only[List.length_cons]at s1 s2 s3 hl;refine cPOp hr1 w0 g bl last f A c t rest wv r ov o dp 0 0 0 W hP hb rfl op rank ho hr hr2 r' o' hp ⟨by omega⟩ hw ⟨by omega⟩ ⟨fun a' W' hf' hp' hb'=>?_⟩
   obtain⟨A',c',wv',ov',hp'⟩:=hp'.out;exact⟨k,by omega,.inl rfl,hf',hb',rest,_,_,_,_,_,_,A',c',wv',ov',⟨hp'⟩,.inr ⟨rfl,rfl,rfl,⟨h⟩,⟨by simp only[List.length_cons,List.length_append,List.length_nil];omega⟩,⟨fun x hx hx1=>by
    rcases List.mem_cons.1 hx with rfl|hx
    ·exact hop
    ·exact hw.out x (zQ rank r o x (by rw[hp];exact hx)) hx1⟩,⟨fun x hx=>by
    rcases List.mem_cons.1 hx with rfl|hx
    ·show(0:Int)≤3
     decide
    ·exact hw3.out x (zQ rank r o x (by rw[hp];exact hx))⟩,⟨qg hz.out⟩⟩⟩
  |pShutP k t rest r o dp R x r' o' hk ht hp hx hx0 h=>
   have hl:=qj 1 r o;rw[hp]at hl;simp only[List.length_cons]at s1 s2 s3 hl;refine cPShutP hr1 w0 g bl last f A c t rest wv r ov o dp 0 0 0 W hP hb rfl hk ht 0 0 (op41 t hk ht) (by omega) x r' o' hp ⟨by omega⟩ ⟨by omega⟩ hx hx0 (by omega) (by omega) hw ⟨by omega⟩ ⟨fun a' W' hf' hp' hb'=>?_⟩
   obtain⟨A',c',wv',ov',hp'⟩:=hp'.out;exact⟨k,by omega,.inr rfl,hf',hb',rest,_,_,_,_,_,_,A',c',wv',ov',⟨hp'⟩,.inr ⟨rfl,rfl,rfl,⟨h⟩,⟨by omega⟩,⟨fun y hy hy1=>hw.out y (zQ 1 r o y (by rw[hp];exact List.mem_cons_of_mem _ hy)) hy1⟩,⟨fun y hy=>hw3.out y (zQ 1 r o y (by rw[hp];exact List.mem_cons_of_mem _ hy))⟩,⟨qg hz.out⟩⟩⟩
  |pShutF k t rest r o dp R x r' o' kk hk ht hp hx hx0 h=>
   have hl:=qj 1 r o;rw[hp]at hl;simp only[List.length_cons]at s1 s2 s3 hl;refine cPShutF hr1 w0 g bl last f A c t rest wv r ov o dp 0 0 0 W hP hb rfl hk ht 0 0 (op41 t hk ht) (by omega) x r' o' hp ⟨by omega⟩ ⟨by omega⟩ hx kk hx0 (by omega) (by omega) hw ⟨by omega⟩ ⟨fun a' W' hf' hp' hb'=>?_⟩
   obtain⟨A',c',wv',ov',hp'⟩:=hp'.out;exact⟨k,by omega,.inr rfl,hf',hb',rest,_,_,_,_,_,_,A',c',wv',ov',⟨hp'⟩,.inr ⟨rfl,rfl,rfl,⟨h⟩,⟨by simp only[List.length_cons,List.length_append,List.length_nil];omega⟩,⟨fun y hy hy1=>hw.out y (zQ 1 r o y (by rw[hp];exact List.mem_cons_of_mem _ hy)) hy1⟩,⟨fun y hy=>hw3.out y (zQ 1 r o y (by rw[hp];exact List.mem_cons_of_mem _ hy))⟩,⟨qg hz.out⟩⟩⟩
  |pComma k t rest r o dp R x r' o' hk ht hp hx h=>
   have hl:=qj 1 r o;rw[hp]at hl;simp only[List.length_cons]at s1 s2 s3 hl;have hxm:=hw3.out x (zQ 1 r o x (by rw[hp];exact List.mem_cons_self))
   refine cPComma hr1 w0 g bl last f A c t rest wv r ov o dp 0 0 0 W hP hb rfl hk ht 0 0 (op44 t hk ht) (by omega) x r' o' hp ⟨by omega⟩ hx (by omega) hw ⟨by omega⟩ ⟨fun a' W' hf' hp' hb'=>?_⟩
   obtain⟨A',c',wv',ov',hp'⟩:=hp'.out;exact⟨k,by omega,.inl rfl,hf',hb',rest,_,_,_,_,_,_,A',c',wv',ov',⟨hp'⟩,.inr ⟨rfl,rfl,rfl,⟨h⟩,⟨by simp only[List.length_cons,List.length_append,List.length_nil];omega⟩,⟨fun y hy hy1=>by
    rcases List.mem_cons.1 hy with rfl|hy
    ·exact hw.out x (zQ 1 r o x (by rw[hp];exact List.mem_cons_self)) hy1
    ·exact hw.out y (zQ 1 r o y (by rw[hp];exact List.mem_cons_of_mem _ hy)) hy1⟩,⟨fun y hy=>by
    rcases List.mem_cons.1 hy with rfl|hy
    ·show x.f2-1≤3
     omega
    ·exact hw3.out y (zQ 1 r o y (by rw[hp];exact List.mem_cons_of_mem _ hy))⟩,⟨qg hz.out⟩⟩⟩
  |pBadN k t rest r o dp o' op0 rk0 ho hr hp=>
   have hl:=qj 1 r o;rw[hp]at hl;simp only[List.length_cons]at s1 s2 s3 hl;exact cPBadN hr1 w0 g bl last f A c t rest wv r ov o dp 0 0 0 W hP hb rfl op0 rk0 ho hr o' hp ⟨hla⟩ hw ⟨by omega⟩ ⟨fun a' W' hd hp=>by obtain⟨A',c',toks',wv',wait',ov',hp⟩:=hp.out;exact retE hd ⟨_,_,_,_,_,_,_,_,hp⟩⟩
  |pBadX k t rest r o dp x r' o' op0 rk0 ho hr hp hbad=>
   have hl:=qj 1 r o;rw[hp]at hl;simp only[List.length_cons]at s1 s2 s3 hl;exact cPBadX hr1 w0 g bl last f A c t rest wv r ov o dp 0 0 0 W hP hb rfl op0 rk0 ho hr x r' o' hp ⟨by omega⟩ hbad ⟨hla⟩ hw ⟨by omega⟩ ⟨fun a' W' hd hp=>by obtain⟨A',c',toks',wv',wait',ov',hp⟩:=hp.out;exact retE hd ⟨_,_,_,_,_,_,_,_,hp⟩⟩
theorem pass0_t {t0 t1:Code}(hr0:findLabel bodyC 0=some (.seq .skip t0))(hr1:findLabel bodyC 1=some (.seq .skip t1))(w0:World)(g bl:Nat)(last:S75)(RES:Res)(HG:Glob2 w0)(hla:0≤last.f3∧last.f3+last.f1.size≤1000000)(k K:Nat)(a:Act)(W:World)(hkK:k≤K)(H1:∀k' a w,k'<k→JR2 w0 g bl last RES k' 1 a w→t1.wp Tryz.prog (zn (fun l' a' w'=>∃k',k'<K∧JR2 w0 g bl last RES k' l' a' w') (bodyPost Tryz.prog Tryz.f19 (fun ex w'=>ex= .returned (.tuple #[])∧PostR w0 g RES w'))) a w)(hj:JR2 w0 g bl last RES k 0 a W):t0.wp Tryz.prog (zn (fun l' a' w'=>∃k',k'<K∧JR2 w0 g bl last RES k' l' a' w') (bodyPost Tryz.prog Tryz.f19 (fun ex w'=>ex= .returned (.tuple #[])∧PostR w0 g RES w'))) a W:=by
 obtain⟨_,hf,hb,toks,r,o,dp,e,p0,p1,A,c,wv,ov,hP,hh⟩:=hj;obtain⟨f,rfl⟩:=frame_of hf;rcases hh with⟨he,hres⟩|⟨rfl,rfl,rfl,hR,hS,hw,hw3,hz⟩
 ·subst hres
  exact cErr0 hr0 w0 g bl last f A c toks wv r ov o dp e p0 p1 W hP hb he ⟨fun a' hd=>retOK hd ⟨_,_,_,_,_,_,_,_,hP.out⟩⟩
 ·obtain⟨s1,s2,s3⟩:=hS.out
  have hR:=hR.out;have hd:decide ((0:Nat)=0)=true:=rfl;rw[hd]at hR;cases hR with
  |oEnd k r o dp=>
   refine cOEnd hr0 hr1 w0 g bl last f A c wv r ov o dp 0 0 0 W hP hb rfl ⟨hla⟩ ⟨fun a' W' hf' hp' hb'=>?_⟩
   obtain⟨A',c',wv',ov',hp'⟩:=hp'.out;exact H1 k a' W' (by omega) ⟨.inr rfl,hf',hb',_,_,_,_,_,_,_,A',c',wv',ov',⟨hp'⟩,.inl ⟨by decide,rfl⟩⟩
  |oNum k t rest r o dp R z d hk hn h=>
   simp only[List.length_cons]at s1 s2 s3;refine cONum hr0 hr1 w0 g bl last f A c t rest wv r ov o dp 0 0 0 W hP hb rfl hk z d ⟨hn⟩ ⟨HG.g⟩ ⟨by omega⟩ ⟨fun a' W' hf' hp' hb'=>?_⟩
   obtain⟨A',c',wv',ov',hp'⟩:=hp'.out;exact H1 k a' W' (by omega) ⟨.inr rfl,hf',hb',_,_,_,_,_,_,_,A',c',wv',ov',⟨hp'⟩,.inr ⟨rfl,rfl,rfl,⟨h⟩,⟨by simp only[List.length_cons,List.length_append,List.length_nil];omega⟩,hw,hw3,⟨qg hz.out⟩⟩⟩
  |oNumB k t rest r o dp z d hk hn=>
   simp only[List.length_cons]at s1 s2 s3;exact cONumB hr0 hr1 w0 g bl last f A c t rest wv r ov o dp 0 0 0 W hP hb rfl hk z d ⟨hn⟩ ⟨hla⟩ ⟨HG.g⟩ ⟨by omega⟩ ⟨fun a' W' hd hp=>by obtain⟨A',c',toks',wv',wait',ov',hp⟩:=hp.out;exact retOK hd ⟨_,_,_,_,_,_,_,_,hp⟩⟩
  |oNeg k t rest r o dp R hk ht h=>
   simp only[List.length_cons]at s1 s2 s3;refine cONeg hr0 hr1 w0 g bl last f A c t rest wv r ov o dp 0 0 0 W hP hb rfl hk ht ⟨by omega⟩ ⟨fun a' W' hf' hp' hb'=>?_⟩
   obtain⟨A',c',wv',ov',hp'⟩:=hp'.out;exact⟨k,by omega,.inl rfl,hf',hb',_,_,_,_,_,_,_,A',c',wv',ov',⟨hp'⟩,.inr ⟨rfl,rfl,rfl,⟨h⟩,⟨by simp only[List.length_cons,List.length_append,List.length_nil];omega⟩,⟨fun x hx hx1=>by
    rcases List.mem_cons.1 hx with rfl|hx
    ·first|decide|(exact absurd hx1 (by decide))
    ·exact hw.out x hx hx1⟩,⟨fun x hx=>by
    rcases List.mem_cons.1 hx with rfl|hx
    ·decide
    ·exact hw3.out x hx⟩,⟨qg hz.out⟩⟩⟩
  |oPar k t rest r o dp R hk ht hd h=>
   simp only[List.length_cons]at s1 s2 s3;refine cOPar hr0 hr1 w0 g bl last f A c t rest wv r ov o dp 0 0 0 W hP hb rfl hk ht ⟨by omega⟩ ⟨by omega⟩ ⟨fun a' W' hf' hp' hb'=>?_⟩
   obtain⟨A',c',wv',ov',hp'⟩:=hp'.out;exact⟨k,by omega,.inl rfl,hf',hb',_,_,_,_,_,_,_,A',c',wv',ov',⟨hp'⟩,.inr ⟨rfl,rfl,rfl,⟨h⟩,⟨by simp only[List.length_cons,List.length_append,List.length_nil];omega⟩,⟨fun x hx hx1=>by
    rcases List.mem_cons.1 hx with rfl|hx
    ·first|decide|(exact absurd hx1 (by decide))
    ·exact hw.out x hx hx1⟩,⟨fun x hx=>by
    rcases List.mem_cons.1 hx with rfl|hx
    ·decide
    ·exact hw3.out x hx⟩,⟨qg hz.out⟩⟩⟩
  |oDeep k t rest r o dp hk ht hd=>
   simp only[List.length_cons]at s1 s2 s3;refine cODeep hr0 hr1 w0 g bl last f A c t rest wv r ov o dp 0 0 0 W hP hb rfl hk ht ⟨by omega⟩ ⟨by omega⟩ ⟨hla⟩ ⟨fun a' W' hf' hp' hb'=>?_⟩
   obtain⟨A',c',wv',ov',hp'⟩:=hp'.out;exact⟨k,by omega,.inl rfl,hf',hb',_,_,_,_,_,_,_,A',c',wv',ov',⟨hp'⟩,.inl ⟨by decide,rfl⟩⟩
  |oBad k t rest r o dp hk hbb ht=>
   refine cOBadName hr0 hr1 w0 g bl last f A c t rest wv r ov o dp 0 0 0 W hP hb rfl hk hbb ht ⟨hla⟩ ⟨fun a' W' hf' hp' hb'=>?_⟩
   obtain⟨A',c',wv',ov',hp'⟩:=hp'.out;exact H1 k a' W' (by omega) ⟨.inr rfl,hf',hb',_,_,_,_,_,_,_,A',c',wv',ov',⟨hp'⟩,.inl ⟨by decide,rfl⟩⟩
  |oSign k t rest r o dp hk ht ht2=>
   refine cOBadSign hr0 hr1 w0 g bl last f A c t rest wv r ov o dp 0 0 0 W hP hb rfl hk ht ht2 ⟨hla⟩ ⟨fun a' W' hf' hp' hb'=>?_⟩
   obtain⟨A',c',wv',ov',hp'⟩:=hp'.out;exact H1 k a' W' (by omega) ⟨.inr rfl,hf',hb',_,_,_,_,_,_,_,A',c',wv',ov',⟨hp'⟩,.inl ⟨by decide,rfl⟩⟩
  |oPrice k t rest r o dp R kk hk ht hkk h h2=>
   simp only[List.length_cons]at s1 s2 s3
   ·refine cNmA hr0 hr1 w0 g bl last f A c t rest wv r ov o dp 0 0 0 W hP hb rfl hk (by rw[ht];exact(nmP_kn hkk).1) (by rw[ht];exact(nmP_kn hkk).2) r (o++[((ps rest).price kk last).2]) dp (((ps rest).price kk last).1) (fun W' hp=>nameP_t (s:=⟨t::rest,0,0,0⟩) hp HG hz.out.sz (by simp[PS.has,tkOK,hk]) kk hkk ht last hla (by omega) (by rw[List.length_reverse];omega) (by omega)) ⟨by omega⟩ ⟨fun a' W' hf' hp' hb'=>?_⟩
    obtain⟨wv',ov',A',c',hp'⟩:=hp'.out;have hps:=(qg hz.out).price kk last;have hpl:=hps.len;by_cases hE:(((ps rest).price kk last).1).e=0
    ·obtain⟨z0,z1⟩:=hps.ok hE
     have h:=h hE;exact H1 k a' W' (by omega) ⟨.inr rfl,hf',hb',(((ps rest).price kk last).1).toks,_,_,_,(((ps rest).price kk last).1).e,(((ps rest).price kk last).1).p0,(((ps rest).price kk last).1).p1,A',c',wv',ov',⟨hp'⟩,.inr ⟨hE,z0,z1,⟨h⟩,⟨by simp only[List.length_cons,List.length_append,List.length_nil];omega⟩,hw,hw3,⟨psi_sub hps⟩⟩⟩
    ·exact H1 k a' W' (by omega) ⟨.inr rfl,hf',hb',(((ps rest).price kk last).1).toks,_,_,_,(((ps rest).price kk last).1).e,(((ps rest).price kk last).1).p0,(((ps rest).price kk last).1).p1,A',c',wv',ov',⟨hp'⟩,.inl ⟨hE,h2 hE⟩⟩
  |oFun k t rest r o dp R kk hk ht hkk h h2=>
   simp only[List.length_cons]at s1 s2 s3
   ·refine cNmB hr0 hr1 w0 g bl last f A c t rest wv r ov o dp 0 0 0 W hP hb rfl hk (by rw[ht];exact(nmF_kn hkk).1) (by rw[ht];exact(nmF_kn hkk).2) (⟨kk,0,nmA kk⟩::r) o (dp+1) ((ps rest).push dp last) (fun W' hp=>by rw[List.reverse_cons];exact nameF_t (s:=⟨t::rest,0,0,0⟩) hp HG hz.out.sz (by simp[PS.has,tkOK,hk]) kk hkk ht last hla (by omega) (by rw[List.length_reverse];omega) (by omega)) ⟨by omega⟩ ⟨fun a' W' hf' hp' hb'=>?_⟩
    obtain⟨wv',ov',A',c',hp'⟩:=hp'.out;have hps:=(qg hz.out).push dp last;have hpl:=hps.len;by_cases hE:((ps rest).push dp last).e=0
    ·obtain⟨z0,z1⟩:=hps.ok hE
     have h:=h hE;exact⟨k,by omega,.inl rfl,hf',hb',((ps rest).push dp last).toks,_,_,_,((ps rest).push dp last).e,((ps rest).push dp last).p0,((ps rest).push dp last).p1,A',c',wv',ov',⟨hp'⟩,.inr ⟨hE,z0,z1,⟨h⟩,⟨by simp only[List.length_cons,List.length_append,List.length_nil];omega⟩,⟨fun x hx hx1=>by
      rcases List.mem_cons.1 hx with rfl|hx
      ·exact Int.natCast_nonneg kk
      ·exact hw.out x hx hx1⟩,⟨fun x hx=>by
      rcases List.mem_cons.1 hx with rfl|hx
      ·exact nmA_le kk
      ·exact hw3.out x hx⟩,⟨psi_sub hps⟩⟩⟩
    ·exact⟨k,by omega,.inl rfl,hf',hb',((ps rest).push dp last).toks,_,_,_,((ps rest).push dp last).e,((ps rest).push dp last).p0,((ps rest).push dp last).p1,A',c',wv',ov',⟨hp'⟩,.inl ⟨hE,h2 hE⟩⟩
  |oNumF k t rest r o dp R hk ht h h2=>
   simp only[List.length_cons]at s1 s2 s3
   ·refine cNmA hr0 hr1 w0 g bl last f A c t rest wv r ov o dp 0 0 0 W hP hb rfl hk (by rw[ht];simp[ByteArray.toList_eq]) (by rw[ht];unfold parse_known.f;simp[ByteArray.toList_eq]) r (o++[((ps rest).num last).2]) dp (((ps rest).num last).1) (fun W' hp=>nameN_t (s:=⟨t::rest,0,0,0⟩) hp HG hz.out.sz (by simp[PS.has,tkOK,hk]) ht last hla (by omega) (by rw[List.length_reverse];omega) (by omega)) ⟨by omega⟩ ⟨fun a' W' hf' hp' hb'=>?_⟩
    obtain⟨wv',ov',A',c',hp'⟩:=hp'.out;have hps:=(qg hz.out).num last;have hpl:=hps.len;by_cases hE:(((ps rest).num last).1).e=0
    ·obtain⟨z0,z1⟩:=hps.ok hE
     have h:=h hE;exact H1 k a' W' (by omega) ⟨.inr rfl,hf',hb',(((ps rest).num last).1).toks,_,_,_,(((ps rest).num last).1).e,(((ps rest).num last).1).p0,(((ps rest).num last).1).p1,A',c',wv',ov',⟨hp'⟩,.inr ⟨hE,z0,z1,⟨h⟩,⟨by simp only[List.length_cons,List.length_append,List.length_nil];omega⟩,hw,hw3,⟨psi_sub hps⟩⟩⟩
    ·exact H1 k a' W' (by omega) ⟨.inr rfl,hf',hb',(((ps rest).num last).1).toks,_,_,_,(((ps rest).num last).1).e,(((ps rest).num last).1).p0,(((ps rest).num last).1).p1,A',c',wv',ov',⟨hp'⟩,.inl ⟨hE,h2 hE⟩⟩
theorem ju {α:Type}{d:Kd α}{e:Nat}{w:World}{base:Nat}{ok:Nat→Prop}{v:Value}{xs:List α}(h:Kd.R d e w base ok v xs):∃A cap,v= .slice A xs.length cap∧xs.length≤cap∧(∀ad,A=some ad→∃tb o,ad=⟨tb,o,none⟩∧tb<w.heap.size)∧Kd.C d w A xs.length xs:=by
 obtain⟨A,c,he,hl,hC⟩:=Kd.R_reads h;obtain⟨inner,ho⟩:=Kd.R_own h;subst he;refine⟨A,c,rfl,hl,?_,hC⟩;rintro ad rfl;rcases ho.2 with⟨h1,_⟩|⟨g,cap,cur,h1,_,h2,_⟩
 ·cases h1
 ·injection h1 with h1
  injection h1 with h1;exact⟨g,0,h1,(xe h2).1⟩
theorem lexOK_at (s:ByteArray)(w:World)(hs:s.size≤20000)(T:List S75)(e l cc:Int)(hD:WW.lexD s=(T,e,l,cc)):
 Calls Tryz.prog 18 #[.string s] w fun ex w'=>∃A c,ex= .returned (.tuple #[.slice A T.length c,.int .i64 e,.int .i64 l,.int .i64 cc])∧T.length≤c∧(∀ad,A=some ad→∃tb o,ad=⟨tb,o,none⟩∧tb<w'.heap.size)∧zc (Kd.C k75 w' A T.length T)∧Below w.heap.size w w':=by
 refine(WW.lex s w hs).mono ?_;rw[hD];rintro ex w' ⟨v,rfl,hv,hb⟩;obtain⟨A,c,rfl,hc,hA,hC⟩:=ju hv;exact⟨A,c,rfl,hc,hA,⟨hC⟩,hb⟩
theorem parseLex_at (s:ByteArray)(hs:s.size≤20000)(e l c:Int)(he:e≠0)(hD:WW.lexD s=([],e,l,c))(w:World)(hg:Glob w):
 Calls Tryz.prog 10 #[.string s] w fun ex w'=>ex= .returned (.tuple #[.slice none 0 0,.int .i64 e,.int .i64 l,.int .i64 c])∧Below w.heap.size w w':=by
 have HL:=Lib.hid (lexOK_at s w hs [] e l c hD);clear hD hg;go_enter Tryz.func10,Tryz.ntmps10
 go_wp2_with fail;refine HL.out.mono ?_;rintro ex w1 ⟨A,cc,rfl,hc,hA,hC,hb⟩;clear hc hA hC;go_wp2_with fail;refine bodyPost_ret (WW.results_tmp4 rfl _ _ _) rfl ?_;exact⟨rfl,hb⟩
theorem run_t (w0:World)(g:Nat)(A:Option Addr)(c:Nat)(toks:List S75)(w:World)(k:Nat)(last:S75)(RES:Res)(h:PB w0 g A c toks (.slice none 0 0) [] (.slice none 0 0) [] 0 0 0 0 w)(hg:Glob2 w0)(hpsi:PSI toks.length (ps toks))
 (hlast:(toks=[]∧last=⟨0,⟨#[]⟩,1,1⟩)∨(∃pre,toks=pre++[last]))(hla:0≤last.f3∧last.f3+last.f1.size≤1000000)(hlen:toks.length≤40000)(hrun:Run2 last k true toks [] [] 0 RES):
 Calls Tryz.prog 19 #[.pointer (some ⟨g,0,none⟩)] w fun ex w'=>ex= .returned (.tuple #[])∧PostR w0 g RES w':=by
 obtain⟨t0,hr0⟩:=lab0_ex;obtain⟨t1,hr1⟩:=lab1_ex;have HP:=zc.mk h;have HG:=zc.mk hg;have HR:=zc.mk hrun;have HL:=zc.mk hlen;have HLA:=zc.mk hla;obtain⟨c0,c1,c2,c3,c4,c5,c6⟩:=h.cells;have HZ:=zc.mk hpsi;clear h hg hrun hla hpsi;go_enter Tryz.func19,Tryz.ntmps19
 refine scope_two2 (t0:=t0) (t1:=t1) ?h0 ?h1 (JR2 w0 g w.heap.size last RES) (fun k l a w h=>h.1) (fun k K a W hk hj=>pass1_t hr0 hr1 w0 g w.heap.size last RES HG.out HLA.out k K a W hk hj) (fun k K a W hk H1 hj=>pass0_t hr0 hr1 w0 g w.heap.size last RES HG.out HLA.out k K a W hk H1 hj) ?first
 case h0=>exact hr0
 case h1=>exact hr1
 case first=>
  intro H0;injection(hr0.symm.trans (rfl:findLabel bodyC 0=some (.seq .skip _)))with hr0';injection hr0' with _ hr0';have HR0:=zc.mk hr0';have HH:=zc.mk H0;clear hr0 hr1 hr0' H0;rcases hlast with⟨rfl,rfl⟩|⟨pre,rfl⟩
  ·have HBL:=zc.mk (j7 w (.cells #[.int .i64 0,.string ⟨#[]⟩,.int .i64 1,.int .i64 1] 75))
   have HP1:=zc.mk (HP.out.step ((xb w.heap.size w).alloc (xc _) (.cells #[.int .i64 0,.string ⟨#[]⟩,.int .i64 1,.int .i64 1] 75)));have hl0:(([]:List S75)).length=0:=rfl;have d0:=HP1.out.cells.1;rw[hl0]at d0;clear c0 c1 c2 c3 c4 c5 c6;go_wp2_with fail;refine qy (by assumption) ?_
   have hh:=HR0.out;subst hh;exact HH.out k _ _ ⟨.inl rfl,⟨rfl,rfl,rfl,rfl⟩,HBL,[],[],[],0,0,0,0,_,_,_,_,HP1,.inr ⟨rfl,rfl,rfl,HR,⟨by simp⟩,⟨fun x hx=>by cases hx⟩,⟨fun x hx=>by cases hx⟩,HZ⟩⟩
  ·have hn1:(pre++[last]).length=pre.length+1:=by simp
   have htk:=HP.out.tk;obtain⟨ad,hA,q0,q1,q2,q3⟩:=at_T75 htk (pre.length:Int) (by omega) (by rw[hn1];omega)
   obtain⟨tb,of,rfl,hlt⟩:=HP.out.ta ad hA;have e0:(Addr.add ⟨tb,of,none⟩ ((pre.length:Int).toNat*4))=⟨tb,of+pre.length*4,none⟩:=by
    simp[Addr.add];try(intros;omega)
   have hx:qY (pre++[last]) (pre.length:Int)=last:=by
    unfold qY;rw[xa,List.getD_eq_getElem?_getD,List.getElem?_append_right (by simp)]
    simp
   rw[e0,hx]at q0 q1 q2 q3;have HBL:=zc.mk (j7 w (.cells #[.int .i64 0,.string ⟨#[]⟩,.int .i64 1,.int .i64 1] 75));have hb1:=(xb w.heap.size w).alloc (xc _) (.cells #[.int .i64 0,.string ⟨#[]⟩,.int .i64 1,.int .i64 1] 75);have HP1:=zc.mk (HP.out.step hb1);have q0:=(zg HP1.out.bl ⟨tb,of+pre.length*4,none⟩ hlt).trans q0;have q1:=(zg HP1.out.bl ⟨tb,of+pre.length*4+1,none⟩ hlt).trans q1;have q2:=(zg HP1.out.bl ⟨tb,of+pre.length*4+2,none⟩ hlt).trans q2;have q3:=(zg HP1.out.bl ⟨tb,of+pre.length*4+3,none⟩ hlt).trans q3;subst hA;have hL3:(pre.length:Int)≤100000:=by omega
   have hL4:(0:Int)≤(pre.length:Int):=by omega
   have hL5:(pre.length:Int)<(pre.length:Int)+1:=by omega
   have hwl:IntKind.i64.wrap (pre.length:Int)=(pre.length:Int):=by simp[j9];omega
   have hn0:(0:Int)<(pre.length:Int)+1:=by omega
   have HLN:=zc.mk hlen;rw[hn1]at c0;have HN1:=zc.mk hn1;clear hlen hb1 hlt hn1 e0 hx htk c1 c2 c3 c4 c5 c6;have d0:=HP1.out.cells.1;rw[HN1.out]at d0;have l0:(w.alloc (.cells #[.int .i64 0,.string ⟨#[]⟩,.int .i64 1,.int .i64 1] 75)).frozen? ⟨w.heap.size,0,none⟩=false:=Lib.frozen_of_heap HBL.out 0;go_wp2_with fail;go_region;have HP2:=zc.mk (HP.out.step (((xb w.heap.size w).alloc (xc _) (.cells #[.int .i64 last.f0,.string last.f1,.int .i64 last.f2,.int .i64 last.f3] 75)).drew));have HB2:zc (((w.alloc (.cells #[.int .i64 last.f0,.string last.f1,.int .i64 last.f2,.int .i64 last.f3] 75)).drew).heap[w.heap.size]? =some (.cells #[.int .i64 last.f0,.string last.f1,.int .i64 last.f2,.int .i64 last.f3] 75)):=⟨j7 w (.cells #[.int .i64 last.f0,.string last.f1,.int .i64 last.f2,.int .i64 last.f3] 75)⟩;clear HP HP1 HBL d0 q0 q1 q2 q3 l0;generalize (w.alloc (.cells #[.int .i64 last.f0,.string last.f1,.int .i64 last.f2,.int .i64 last.f3] 75)).drew=wz at*;go_wp2_with fail;refine qy (by assumption) ?_
   have hh:=HR0.out;subst hh;exact HH.out k _ _ ⟨.inl rfl,⟨rfl,rfl,rfl,rfl⟩,HB2,pre++[last],[],[],0,0,0,0,_,_,_,_,HP2,.inr ⟨rfl,rfl,rfl,HR,⟨by have:=HLN.out;rw[HN1.out]at this ⊢;simp;omega⟩,⟨fun x hx=>by cases hx⟩,⟨fun x hx=>by cases hx⟩,HZ⟩⟩
theorem qF (s:ByteArray)(hs:s.size≤20000)(T:List S75)(hD:WW.lexD s=(T,0,0,0))(hT:T.length≤40000)(last:S75)(hlast:(T=[]∧last=⟨0,⟨#[]⟩,1,1⟩)∨(∃pre,T=pre++[last]))(hla:0≤last.f3∧last.f3+last.f1.size≤1000000)(k:Nat)(e l cl:Int)(he:e≠0)(hrun:Run2 last k true T [] [] 0 (.err e l cl))(w:World)(hg:Glob2 w)(hpsi:PSI T.length (ps T)):
 Calls Tryz.prog 10 #[.string s] w fun ex w'=>ex= .returned (.tuple #[.slice none 0 0,.int .i64 e,.int .i64 l,.int .i64 cl])∧Below w.heap.size w w':=by
 have HL:=Lib.hid (lexOK_at s w hs T 0 0 0 hD);have HR:=zc.mk (And.intro hT (And.intro hlast (And.intro hla hrun)));have HG:=zc.mk hg;have HZ:=zc.mk hpsi;clear hpsi;clear hD hg hT hlast hla hrun;go_enter Tryz.func10,Tryz.ntmps10
 go_wp2_with fail;refine HL.out.mono ?_;rintro ex w1 ⟨A,c,rfl,hc,hA,hC,hb⟩;have HP:zc (PB w1 w1.heap.size A c T (.slice none 0 0) [] (.slice none 0 0) [] 0 0 0 0 (w1.alloc (.cells #[.slice A T.length c,.slice none 0 0,.slice none 0 0,.int .i64 0,.int .i64 0,.int .i64 0,.int .i64 0] 51))):=
  ⟨j7 w1 _,hc,hC.out,hA,Kd.R_nil _ _ _ _ _,Kd.R_nil _ _ _ _ _,(xb _ _).alloc (xc _) _,xc _,by have:=HR.out.1;omega⟩
 have HRU:=Lib.hid (run_t w1 w1.heap.size A c T _ k last _ HP.out (HG.out.below hb) HZ.out HR.out.2.1 HR.out.2.2.1 HR.out.1 HR.out.2.2.2);have HB:=zc.mk hb;clear HP HL hc hA hC hb HR;go_wp2_with fail;refine HRU.out.mono ?_;rintro ex w2 ⟨rfl,hpo⟩;obtain⟨A2,c2,T2,wv2,wait2,ov2,o2,dp2,hP2⟩:=hpo;have HP2:=zc.mk hP2;have HB2:=zc.mk (HB.out.trans (hP2.bl.mono HB.out.size));clear hP2 HRU HB;obtain⟨c0,c1,c2',c3,c4,c5,c6⟩:=HP2.out.cells;go_wp2_with fail;go_quiet (fail)
 go_wp2_with fail;refine bodyPost_ret (WW.results_tmp4 rfl _ _ _) rfl ?_;exact⟨rfl,ze HB2.out _⟩
theorem parseOk_t (s:ByteArray)(hs:s.size≤20000)(M:Nat)(hD':zX M)(hM5:5<M)(T:List S75)(hD:WW.lexD s=(T,0,0,0))(hT:T.length≤40000)(last:S75)(hlast:(T=[]∧last=⟨0,⟨#[]⟩,1,1⟩)∨(∃pre,T=pre++[last]))(hla:0≤last.f3∧last.f3+last.f1.size≤1000000)(k:Nat)(o:List Nd)(hrun:Run2 last k true T [] [] 0 (.ok o))(S:ByteArray)(D:Int)(hf:Frm M o S D)(hS0:0<S.size)(hS:S.size≤20000)(hDp:D≤150)(w:World)(hg:Glob2 w)(hpsi:PSI T.length (ps T)):
 Calls Tryz.prog 10 #[.string s] w fun ex w'=>∃A c,ex= .returned (.tuple #[.slice A o.length c,.int .i64 0,.int .i64 0,.int .i64 0])∧o.length≤c∧(∀ad,A=some ad→∃tb of,ad=⟨tb,of,none⟩∧tb<w'.heap.size)∧zc (Kd.C k37 w' A o.length (o.map nd37))∧Below w.heap.size w w':=by
 have HCK:=zc.mk (And.intro hD' (And.intro hM5 (And.intro hf (And.intro hS0 (And.intro hS hDp)))));clear hD' hM5 hf hS0 hS hDp;have HL:=Lib.hid (lexOK_at s w hs T 0 0 0 hD);have HR:=zc.mk (And.intro hT (And.intro hlast (And.intro hla hrun)));have HG:=zc.mk hg;have HZ:=zc.mk hpsi;clear hpsi;clear hD hg hT hlast hla hrun;go_enter Tryz.func10,Tryz.ntmps10
 go_wp2_with fail;refine HL.out.mono ?_;rintro ex w1 ⟨A,c,rfl,hc,hA,hC,hb⟩;have HP:zc (PB w1 w1.heap.size A c T (.slice none 0 0) [] (.slice none 0 0) [] 0 0 0 0 (w1.alloc (.cells #[.slice A T.length c,.slice none 0 0,.slice none 0 0,.int .i64 0,.int .i64 0,.int .i64 0,.int .i64 0] 51))):=
  ⟨j7 w1 _,hc,hC.out,hA,Kd.R_nil _ _ _ _ _,Kd.R_nil _ _ _ _ _,(xb _ _).alloc (xc _) _,xc _,by have:=HR.out.1;omega⟩
 have HRU:=Lib.hid (run_t w1 w1.heap.size A c T _ k last _ HP.out (HG.out.below hb) HZ.out HR.out.2.1 HR.out.2.2.1 HR.out.1 HR.out.2.2.2);have HB:=zc.mk hb;clear HP HL hc hA hC hb HR;go_wp2_with fail;refine HRU.out.mono ?_;rintro ex w2 ⟨rfl,hpo⟩;obtain⟨A2,c2,T2,wv2,wait2,ov2,dp2,p0,p1,hP2⟩:=hpo;have HP2:=zc.mk hP2;have HB2:=zc.mk (HB.out.trans (hP2.bl.mono HB.out.size));obtain⟨B,cap,rfl,hcap,hBA,hC⟩:=ju hP2.ou;rw[List.length_map]at hcap hC;have hlen0:(o.map nd37).length=o.length:=by simp
 rw[hlen0]at HP2;have HC:=zc.mk (And.intro hcap (And.intro hBA hC));have HK:=termCheck_at M HCK.out.1 HCK.out.2.1 o S D HCK.out.2.2.1 HCK.out.2.2.2.1 B cap w2 hC hcap (fun ad e=>by obtain⟨tb,of,h1,h2⟩:=hBA ad e;rw[h1];exact h2) ((HG.out.below HB.out).below hP2.bl).g
 rw[if_pos ⟨HCK.out.2.2.2.2.1,HCK.out.2.2.2.2.2⟩]at HK;have HK:=Lib.hid HK;clear hP2 HRU HB hcap hBA hC hlen0;obtain⟨d0,d1,d2,d3,d4,d5,d6⟩:=HP2.out.cells;go_wp2_with fail;refine HK.out.mono ?_;rintro ex w3 ⟨rfl,hb3⟩;have HP3:=zc.mk (HP2.out.step hb3);have HB3:=zc.mk (HB2.out.trans (hb3.mono HB2.out.size));have HC3:=zc.mk (And.intro HC.out.1 (And.intro (fun ad (e:B=some ad)=>by obtain⟨tb,of,h1,h2⟩:=HC.out.2.1 ad e;exact(⟨tb,of,h1,Nat.lt_of_lt_of_le h2 hb3.size⟩:∃tb of,ad=⟨tb,of,none⟩∧tb<w3.heap.size)) (Kd.C_below HC.out.2.2 hb3)))
 clear HK HP2 HB2 HC hb3 d0 d1 d2 d3 d4 d5 d6;obtain⟨d0,d1,d2,d3,d4,d5,d6⟩:=HP3.out.cells;go_wp2_with fail;refine bodyPost_ret (WW.results_tmp4 rfl _ _ _) rfl ?_;exact⟨_,_,rfl,HC3.out.1,HC3.out.2.1,⟨HC3.out.2.2⟩,HB3.out⟩
theorem parseBig_t (s:ByteArray)(hs:s.size≤20000)(M:Nat)(hD':zX M)(hM5:5<M)(T:List S75)(hD:WW.lexD s=(T,0,0,0))(hT:T.length≤40000)(last:S75)(hlast:(T=[]∧last=⟨0,⟨#[]⟩,1,1⟩)∨(∃pre,T=pre++[last]))(hla:0≤last.f3∧last.f3+last.f1.size≤1000000)(k:Nat)(o:List Nd)(hrun:Run2 last k true T [] [] 0 (.ok o))(S:ByteArray)(D:Int)(hf:Frm M o S D)(hS0:0<S.size)(hbig:¬(S.size≤20000∧D≤150))(w:World)(hg:Glob2 w)(hpsi:PSI T.length (ps T)):
 Calls Tryz.prog 10 #[.string s] w fun ex w'=>ex= .returned (.tuple #[.slice none 0 0,.int .i64 100,.int .i64 1,.int .i64 1])∧Below w.heap.size w w':=by
 have HCK:=zc.mk (And.intro hD' (And.intro hM5 (And.intro hf (And.intro hS0 hbig))));clear hD' hM5 hf hS0 hbig;have HL:=Lib.hid (lexOK_at s w hs T 0 0 0 hD);have HR:=zc.mk (And.intro hT (And.intro hlast (And.intro hla hrun)));have HG:=zc.mk hg;have HZ:=zc.mk hpsi;clear hpsi;clear hD hg hT hlast hla hrun;go_enter Tryz.func10,Tryz.ntmps10
 go_wp2_with fail;refine HL.out.mono ?_;rintro ex w1 ⟨A,c,rfl,hc,hA,hC,hb⟩;have HP:zc (PB w1 w1.heap.size A c T (.slice none 0 0) [] (.slice none 0 0) [] 0 0 0 0 (w1.alloc (.cells #[.slice A T.length c,.slice none 0 0,.slice none 0 0,.int .i64 0,.int .i64 0,.int .i64 0,.int .i64 0] 51))):=
  ⟨j7 w1 _,hc,hC.out,hA,Kd.R_nil _ _ _ _ _,Kd.R_nil _ _ _ _ _,(xb _ _).alloc (xc _) _,xc _,by have:=HR.out.1;omega⟩
 have HRU:=Lib.hid (run_t w1 w1.heap.size A c T _ k last _ HP.out (HG.out.below hb) HZ.out HR.out.2.1 HR.out.2.2.1 HR.out.1 HR.out.2.2.2);have HB:=zc.mk hb;clear HP HL hc hA hC hb HR;go_wp2_with fail;refine HRU.out.mono ?_;rintro ex w2 ⟨rfl,hpo⟩;obtain⟨A2,c2,T2,wv2,wait2,ov2,dp2,p0,p1,hP2⟩:=hpo;have HP2:=zc.mk hP2;have HB2:=zc.mk (HB.out.trans (hP2.bl.mono HB.out.size));obtain⟨B,cap,rfl,hcap,hBA,hC⟩:=ju hP2.ou;rw[List.length_map]at hcap hC;have hlen0:(o.map nd37).length=o.length:=by simp
 rw[hlen0]at HP2;have HC:=zc.mk (And.intro hcap (And.intro hBA hC));have HK:=termCheck_at M HCK.out.1 HCK.out.2.1 o S D HCK.out.2.2.1 HCK.out.2.2.2.1 B cap w2 hC hcap (fun ad e=>by obtain⟨tb,of,h1,h2⟩:=hBA ad e;rw[h1];exact h2) ((HG.out.below HB.out).below hP2.bl).g
 rw[if_neg HCK.out.2.2.2.2]at HK;have HK:=Lib.hid HK;clear hP2 HRU HB hcap hBA hC hlen0;obtain⟨d0,d1,d2,d3,d4,d5,d6⟩:=HP2.out.cells;go_wp2_with fail;refine HK.out.mono ?_;rintro ex w3 ⟨rfl,hb3⟩;have HP3:=zc.mk (HP2.out.step hb3);have HB3:=zc.mk (HB2.out.trans (hb3.mono HB2.out.size));have HC3:=zc.mk (And.intro HC.out.1 (And.intro (fun ad (e:B=some ad)=>by obtain⟨tb,of,h1,h2⟩:=HC.out.2.1 ad e;exact(⟨tb,of,h1,Nat.lt_of_lt_of_le h2 hb3.size⟩:∃tb of,ad=⟨tb,of,none⟩∧tb<w3.heap.size)) (Kd.C_below HC.out.2.2 hb3)))
 clear HK HP2 HB2 HC hb3 d0 d1 d2 d3 d4 d5 d6;obtain⟨d0,d1,d2,d3,d4,d5,d6⟩:=HP3.out.cells;go_wp2_with fail;refine bodyPost_ret (WW.results_tmp4 rfl _ _ _) rfl ?_;exact⟨rfl,HB3.out⟩
end Go.Proofs.YtjopepfemhckjaaGreatDoor.NW
end
section
namespace Go.Proofs.YtjopepfemhckjaaGreatDoor.NW
open Go.Proofs Go.RowKit Go.Shelf Go.Proofs.YtjopepfemhckjaaGreatDoor.PN Go.Proofs.YtjopepfemhckjaaGreatDoorW.PrintWords Go.Proofs.YtjopepfemhckjaaGreatDoor.PParseTells
theorem natS_lt (n:Nat):n<10^(natS n).size:=by
 have h1:=qt _ (zh n).1.dig;rw[(zh n).2]at h1;exact h1
theorem natS_le (n k:Nat)(h:n<10^k)(hk:0<k):(natS n).size≤k:=by
 have h1:=zH n k h hk;have e:(natS n).size=(Lib.decDigits n).length:=by show(natS n).data.toList.length=_;rw[zq]
 omega
theorem mulOK_all (n m:Nat)(hn:(natS n).size≤100000)(hm:(natS m).size≤100000):MulOK n m:=by
 intro w hg;have H1:=Lib.hid (both_at n m (by omega) (by omega) w)
 have hf:Fits (n*m):=by
  refine⟨(natS n).size+(natS m).size,by omega,?_⟩
  have h1:n<10000^(natS n).size:=Nat.lt_of_lt_of_le (natS_lt n) (Nat.pow_le_pow_left (show 10≤10000 by omega) _)
  have h2:m<10000^(natS m).size:=Nat.lt_of_lt_of_le (natS_lt m) (Nat.pow_le_pow_left (show 10≤10000 by omega) _)
  rw[Nat.pow_add];exact Nat.mul_lt_mul_of_lt_of_lt h1 h2
 have H2:∀(w w':World) (a b:Value),Below w.heap.size w w'→Glob w→LS w' a n→LS w' b m→RowKit.Hid (Calls Tryz.prog 210 #[a,b] w' fun e w2=>∃v,e= .returned v∧LS w2 v (n*m)∧Below w'.heap.size w' w2):=by
  intro w w' a b hb hg ha hb';obtain⟨A,c,l,rfl,q1,q2,q3,q4⟩:=ha.ex;obtain⟨B,d,l',rfl,r1,r2,r3,r4⟩:=hb'.ex;refine Lib.hid ((mul_at A B c d l l' w' q3.wf r3.wf q4 r4 (by omega) (by omega)).mono ?_)
  rintro e w2 ⟨g,l2,cap,rfl,hR,hg2,hl2,hb2⟩;rw[q3.val,r3.val]at hl2;exact⟨_,rfl,LS.of_V (base:=0) (Kd.R_V hR) hl2 hf,hb2⟩
 have HG:=zc.mk hg;clear hg hf hn hm;go_enter Tryz.func192,Tryz.ntmps192
 go_wp2_with fail;refine H1.out.mono ?_;rintro e w1 ⟨a,b,rfl,ha,hb,hb1⟩;have H3:=H2 w w1 a b hb1 HG.out ha hb;have HB1:=zc.mk hb1;clear H1 H2 ha hb hb1;go_wp2_with fail;refine H3.out.mono ?_;rintro e w2 ⟨v,rfl,hv,hb2⟩;have H4:=Lib.hid (LS.text hv (HG.out.below (HB1.out.trans (hb2.mono HB1.out.size))));have HB2:=zc.mk (HB1.out.trans (hb2.mono HB1.out.size));clear H3 hv hb2 HB1;go_wp2_with fail;refine H4.out.mono ?_;rintro e w3 ⟨rfl,hb3⟩;go_wp2_with fail;go_ret;exact⟨rfl,HB2.out.trans (hb3.mono HB2.out.size)⟩
theorem trimP_nat (n:Nat):strings_TrimPrefix.f (natS n) ⟨#[45]⟩=some (natS n):=by
 obtain⟨c,r,h1,h2,h3⟩:=jQ n;have hz:=qw n;have hh:stringslite_HasPrefix.f (natS n) ⟨#[45]⟩=some false:=by
  unfold stringslite_HasPrefix.f;have e1:((⟨#[45]⟩:xf).size:Int)=1:=rfl;rw[e1,if_pos (by omega),if_pos (by omega),if_pos (by omega)]
  congr 1
  rw[beq_eq_false_iff_ne];intro h;rw[Lib.toList_data,ext_toList,Lib.toList_data,h1]at h;have:c=45:=by simpa using h
  subst this;exact absurd h2 (by decide)
 unfold strings_TrimPrefix.f stringslite_TrimPrefix.f;rw[hh];rfl
theorem trimP_neg (n:Nat):strings_TrimPrefix.f ((⟨#[45]⟩:xf)++natS n) ⟨#[45]⟩=some (natS n):=by
 have hs:((⟨#[45]⟩:xf)++natS n).size=1+(natS n).size:=j8;have hl:((⟨#[45]⟩:xf)++natS n).data.toList=45::(natS n).data.toList:=by simp
 have hh:stringslite_HasPrefix.f ((⟨#[45]⟩:xf)++natS n) ⟨#[45]⟩=some true:=by
  unfold stringslite_HasPrefix.f;have e1:((⟨#[45]⟩:xf).size:Int)=1:=rfl;rw[e1,if_pos (by omega),if_pos (by omega),if_pos (by omega)]
  congr 1
  rw[beq_iff_eq,Lib.toList_data,ext_toList,Lib.toList_data,hl];rfl
 unfold strings_TrimPrefix.f stringslite_TrimPrefix.f;rw[hh];have e1:((⟨#[45]⟩:xf).size:Int)=1:=rfl;simp only[Option.bind_some];rw[if_pos trivial,e1,if_pos (by omega),if_pos (by omega)]
 simp only[Option.bind_some];congr 1
 apply z7;have h2:=ext_toList ((⟨#[45]⟩:xf)++natS n) 1 ((⟨#[45]⟩:xf)++natS n).size;rw[hl]at h2;have h3:(((⟨#[45]⟩:xf)++natS n).extract 1 ((⟨#[45]⟩:xf)++natS n).size).data.toList=(natS n).data.toList:=by
  rw[h2,List.take_of_length_le (by rw[List.length_cons];have:(natS n).data.toList.length=(natS n).size:=rfl;omega)]
  rfl
 exact h3
theorem short_tot (z:Int)(d:Nat):parse_short.f (intS z) (natS d)=some (decide ((natS z.natAbs).size≤60)&&decide ((natS d).size≤60)):=by
 have h:strings_TrimPrefix.f (intS z) ⟨#[45]⟩=some (natS z.natAbs):=by
  unfold intS;split
  ·exact trimP_neg _
  ·exact trimP_nat _
 unfold parse_short.f;rw[h];show(if((natS z.natAbs).size:Int)≤60 then _ else _)=_
 by_cases h1:(natS z.natAbs).size≤60
 ·rw[if_pos (by omega),decide_eq_true h1,Bool.true_and]
  congr 1
  exact decide_eq_decide.2 (by omega)
 ·rw[if_neg (by omega),decide_eq_false h1,Bool.false_and]
def NumX (s:ByteArray):Prop:=s.size≤100∧∃a,allD a∧a≠[]∧(s.data.toList=a∨∃b,allD b∧b≠[]∧s.data.toList=a++46::b)
def BigM:Nat:=10^200
theorem jy (x:Nat)(d:Nat)(hd:0<d):0<rden x d∧rden x d≤d∧(rnum x d).natAbs.gcd (rden x d)=1:=by
 have hg:0<Nat.gcd x d:=Nat.gcd_pos_of_pos_right _ hd;have hn:rnum (x:Int) d=((x/Nat.gcd x d:Nat):Int):=by
  unfold rnum;rw[if_neg (by omega),Int.natAbs_natCast]
 have hr:rden (x:Int) d=d/Nat.gcd x d:=by
  unfold rden;rw[Int.natAbs_natCast]
 rw[hn,hr];refine⟨Nat.div_pos (Nat.le_of_dvd hd (Nat.gcd_dvd_right _ _)) hg,Nat.div_le_self _ _,?_⟩;rw[Int.natAbs_natCast,Nat.gcd_div (Nat.gcd_dvd_left _ _) (Nat.gcd_dvd_right _ _)];exact Nat.div_self hg
theorem num_run (s:ByteArray)(h:NumX s):∃z d,(∀w,Glob w→Calls Tryz.prog 40 #[.string s] w fun e w'=>e= .returned (.tuple #[ratV z d,.int .i64 0])∧Below w.heap.size w w')∧0<d∧z.natAbs.gcd d=1:=by
 obtain⟨hs,a,ha,hna,h|⟨b,hb,hnb,h⟩⟩:=h
 ·have h1:=jy (dv s.data.toList) 1 (by omega)
  exact⟨_,_,fun w hg=>decInt_at BigM (jf BigM) (by unfold BigM;exact Nat.one_lt_pow (by omega) (by omega)) s (by rw[h];exact ha) (by rw[h];exact hna) (by omega) w hg,h1.1,h1.2.2⟩
 ·have hz:s.size=a.length+(b.length+1):=by
   show s.data.toList.length=_
   rw[h,List.length_append,List.length_cons]
  have h1:=jy (dv (a++b)) (10^b.length) (Nat.pow_pos (by omega))
  refine⟨rnum (dv (a++b):Int) (10^b.length),rden (dv (a++b):Int) (10^b.length),fun w hg=>?_,h1.1,h1.2.2⟩
  have h2:=decFrac_at BigM (jf BigM) a b (Nat.pow_lt_pow_right (by omega) (by omega)) ha hb hna hnb (by omega) w hg
  rw[←h]at h2;rw[mkB]at h2;exact h2
theorem jL (z:Int)(d:Nat)(h0:0<d)(hg:z.natAbs.gcd d=1)(h1:(natS z.natAbs).size≤60)(h2:(natS d).size≤60):NdOK BigM (.num z d):=by
 have hlt:d<10^60:=Nat.lt_of_lt_of_le (natS_lt d) (Nat.pow_le_pow_right (by omega) h2)
 refine⟨⟨?_,by omega,h0,Nat.lt_of_lt_of_le hlt (Nat.pow_le_pow_right (by omega) (by omega)),⟨200,by omega,Nat.lt_of_lt_of_le hlt (by decide)⟩,hg,?_⟩,h1,h2⟩
 ·unfold intS
  split
  ·have:((⟨#[45]⟩:xf)++natS z.natAbs).size=1+(natS z.natAbs).size:=j8
   omega
  ·omega
 ·intro h3 h4 h5
  refine mulOK_all _ _ (by omega) (Nat.le_trans (natS_le _ 21 ?_ (by omega)) (by omega))
  refine Nat.lt_of_le_of_lt (Nat.div_le_self _ _) (Nat.lt_of_le_of_lt (Nat.pow_le_pow_right (by omega) h4) (Nat.pow_lt_pow_right (by omega) (by omega)))
theorem num_ways (s:ByteArray)(h:NumX s):(∃z d,NumT s z d∧NdOK BigM (.num z d))∨∃z d,NumB s z d:=by
 obtain⟨z,d,h1,h0,hg⟩:=num_run s h;have h2:=short_tot z d;rcases hb:(decide ((natS z.natAbs).size≤60)&&decide ((natS d).size≤60))with _|_
 ·rw[hb]at h2
  exact .inr ⟨z,d,h1,h2⟩
 ·rw[hb]at h2
  rw[Bool.and_eq_true,decide_eq_true_iff,decide_eq_true_iff]at hb;exact .inl ⟨z,d,⟨h1,h2⟩,jL z d h0 hg hb.1 hb.2⟩
theorem natB_dv (s:ByteArray)(h:isNatB s.data.toList=true):natS (dv s.data.toList)=s:=by
 obtain⟨n,rfl⟩:=jU s h;rw[(zh n).2]
theorem ndOK_numNd (neg:Bool)(a b:ByteArray)(ha:isNatB a.data.toList=true)(ha60:a.size≤60)(hb:isNatB b.data.toList=true)(hb60:b.size≤60)(hb0:dv b.data.toList≠0):∃z d,jn neg a b= .num z d∧NdOK BigM (.num z d):=by
 have ea:=natB_dv a ha;have eb:=natB_dv b hb;have hA:dv a.data.toList<10^60:=by
  have:=natS_lt (dv a.data.toList);rw[ea]at this;exact Nat.lt_of_lt_of_le this (Nat.pow_le_pow_right (by omega) ha60)
 have hB:dv b.data.toList<10^60:=by
  have:=natS_lt (dv b.data.toList);rw[eb]at this;exact Nat.lt_of_lt_of_le this (Nat.pow_le_pow_right (by omega) hb60)
 unfold jn;rw[if_pos (by rw[ha,hb];rfl)]
 refine⟨_,_,rfl,?_⟩;generalize hz:(if neg=true then-(dv a.data.toList:Int)else(dv a.data.toList:Int))=z
 have hza:z.natAbs=dv a.data.toList:=by
  subst hz;split<;>omega
 generalize dv b.data.toList=d at*;have hg:0<Nat.gcd z.natAbs d:=Nat.gcd_pos_of_pos_right _ (by omega)
 have hn:(rnum z d).natAbs=z.natAbs/Nat.gcd z.natAbs d:=by
  unfold rnum;generalize z.natAbs/Nat.gcd z.natAbs d=q;split<;>omega
 refine jL _ _ ?_ ?_ ?_ ?_
 ·exact Nat.div_pos (Nat.le_of_dvd (by omega) (Nat.gcd_dvd_right _ _)) hg
 ·rw[hn]
  show Nat.gcd _ (d/_)=1
  rw[Nat.gcd_div (Nat.gcd_dvd_left _ _) (Nat.gcd_dvd_right _ _)];exact Nat.div_self hg
 ·rw[hn,hza]
  exact natS_le _ 60 (Nat.lt_of_le_of_lt (Nat.div_le_self _ _) hA) (by omega)
 ·exact natS_le _ 60 (Nat.lt_of_le_of_lt (Nat.div_le_self _ _) hB) (by omega)
end Go.Proofs.YtjopepfemhckjaaGreatDoor.NW
end
