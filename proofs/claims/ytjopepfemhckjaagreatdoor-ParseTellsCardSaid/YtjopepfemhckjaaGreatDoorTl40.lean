/-
  Part 40 of the proof of parseTells_holds: texts of this seat, put together.
-/
import Derived.Test.YtjopepfemhckjaaGreatDoorTl39
set_option linter.unusedVariables false
set_option linter.unusedSimpArgs false
set_option maxHeartbeats 16000000
set_option maxRecDepth 100000
section
namespace Go.Proofs.YtjopepfemhckjaaGreatDoor.NW
open Go.Proofs Go.RowKit Go.Shelf Go.Proofs.YtjopepfemhckjaaGreatDoor.PN Go.Proofs.YtjopepfemhckjaaGreatDoorW.PrintWords Go.Proofs.YtjopepfemhckjaaGreatDoor.PParseTells
theorem RBS.cellE {w0:WK}{g:Nat}{L:List S75}{last:S75}{o:List Nd}{dp:Int}{s:PS}{w:World}(h:RBS w0 g L last o dp s w):w.cell? ⟨g,4,none⟩=some (.int .i64 s.e):=by
 obtain⟨A,c,ov,i,bad,h1,_⟩:=h;exact h1.cells.2.2.2.2.1
theorem rcall_b {w0:WK}{g:Nat}{L:List S75}{last:S75}(hK:w0.kp=[]){k:Nat}(HI:Gm w0 g L last 1 22 k)(t:S75)(rest:List S75)(O0:List Nd)(dp:Int)(kk:Nat)(hk0:t.f0=0)(ht:t.f1=nmF kk)(hkk:10≤kk∧kk≤12)(hk:rest.length<k)(htk:∀t∈rest,TokOK t)(hsz:SzOK (ps rest))(hlen:O0.length+rest.length+1≤100000)(hd1:0≤dp)(hd2:dp+rest.length+1≤100000)(w:World)(h:RBS w0 g L last O0 dp (ps rest) w):Calls Tryz.prog 165 #[.pointer (some ⟨g,0,none⟩),.int .i64 (kk:Int)] w fun e w'=>e= .returned (.tuple #[])∧∃s' out',RBS w0 g L last out' dp s' w'∧Gst last dp 4 (t::rest) O0 s' out':=by
 have HK:=zc.mk hK;have HI:=zc.mk HI;have HR:=zc.mk h;have HTK:=zc.mk htk;have HSZ:=zc.mk hsz;obtain⟨A,hA,hA1,hA3⟩:∃A:Nat,nmA kk=A∧1≤A∧A≤3:=by
  unfold nmA;split
  ·exact⟨3,rfl,by omega,by omega⟩
  ·exact⟨2,rfl,by omega,by omega⟩
 have HO:=ropen_b (w0:=w0) (g:=g) (L:=L) (last:=last) (out:=O0) (dp:=dp) (ps rest) (fun x hx h4=>by
  rcases htk x hx with⟨_,h⟩|⟨_,h⟩|⟨h,_⟩
  ·exact absurd h4 (fun h4=>by
    have h5:=h.hall;rw[Lib.toList_data]at h4;rw[h4]at h5;exact absurd h5 (by decide))
  ·obtain⟨_,a,ha,hna,h7⟩:=h
   rw[Lib.toList_data]at h4;rw[h4]at h7;cases a with
   |nil=>exact absurd rfl hna
   |cons a0 a1=>
    have h8:a0=40:=by
     rcases h7 with h7|⟨_,_,_,h7⟩
     ·injection h7 with h8 _;exact h8.symm
     ·injection h7 with h8 _;exact h8.symm
    have:=ha a0 (List.mem_cons_self ..);subst h8;exact absurd this.1 (by decide)
  ·exact h) ⟨hd1,by omega⟩
 have HAr:=fun w=>zY kk (A:Int) (by omega) (by
  rw[←hA];unfold nmA;by_cases h12:kk=12
  ·rw[if_pos h12,if_neg (by omega),if_neg (by omega),if_neg (by omega)]
  ·rw[if_neg h12,if_neg (by omega),if_neg (by omega),if_pos (by omega)]) w
 have HG:=zc.mk (LC.start (rest:=rest) (last:=last) (dp:=dp) (O0:=O0) hk0 ht hkk hA);generalize (ps rest).push dp last=s0 at*;clear h hK htk hsz hA hk0 ht;go_enter Tryz.func165,Tryz.ntmps165
 go_wp2_with(with_reducible refine HO.go HR ?_;clear HR;intro w1 HR)
 refine(HAr _).mono ?_;rintro e w2 ⟨rfl,hb⟩;have HR:=zc.mk (HR.out.step hb);clear hb HO HAr;go_wp2_with fail;go_loopg [5] (A+1) (fun kq v5 w'=>∃(i:Nat) (s:PS) (o:List Nd),v5= .int .i64 i∧i+kq=A+1∧i≤A∧zc (RBS w0 g L last o (dp+1) s w')∧zc (LC last dp t rest O0 kk A i s o))
 case atStart=>exact⟨0,s0,O0,rfl,by omega,by omega,HR,HG⟩
 case round=>
  clear HR HG;obtain⟨i,s,o2,rfl,hi,hi2,HR,HG⟩:=hrel;have HO2:zc (o2.length≤100000):=⟨by have:=HG.out.len;omega⟩
  have q4:=HR.out.cellE;by_cases hiA:i=A
  ·subst hiA
   have HE:=zc.mk (HG.out.shut HTK.out (fun _=>rfl) hA1 rfl)
   have HSh:=rshut_b (w0:=w0) (g:=g) (L:=L) (last:=last) (out:=o2) (dp:=dp+1) s ⟨by omega,by omega⟩
   rw[show dp+1-1=dp by omega]at HSh
   generalize s.must ⟨#[41]⟩ last=s1 at*;clear q4 HG;go_wp2_with fail;refine HSh.go HR ?_;clear HR;intro wq HR;obtain⟨A2,c2,ov2,i2,bad2,h6,h7⟩:=HR.out;have HQ:=zc.mk h6;have HSm:=zc.mk h7;clear h6 h7 HR;obtain⟨d0,d1,d2,d3,d4,d5⟩:=HQ.out.cells;have hbytes:((o2.map nd37).length+1)*72≤140737488355328:=by rw[List.length_map];have:=HO2.out;omega
   have hgl:=HQ.out.lt;go_wp2_with(at_builtin;refine Kd.R_append k37 (w0:=w0) w0.heap.size rfl (.tmp 34) (.tmp 37) 24 37 (.agg #[.int .i64 0,.string ⟨#[]⟩,.string ⟨#[]⟩,.string ⟨#[]⟩,.int .i64 0,.int .i64 0]) 72 rfl Tryz.underlying24 zS rfl (by decide) (by omega) ov2 (o2.map nd37) (nd37 (.op kk)) [.int .i64 kk,.string ⟨#[]⟩,.string ⟨#[]⟩,.string ⟨#[]⟩,.int .i64 0,.int .i64 0] (fun k=>k≠g) (fun _=>False) rfl rfl (zE _ _ _ (nd37 (.op kk))) (fun _ hk=>hk.elim) ?aF ?aO ?aB ?aS ?aL ?_)
   case aF=>exact fun k hk=>by omega
   case aO=>exact HQ.out.ou
   case aB=>exact HQ.out.bl
   case aS=>exact HQ.out.bl.size
   case aL=>exact hbytes
   intro v1 w1 hv1 hb1 hg1 ho1;have hl1:(o2.map nd37++[nd37 (.op kk)]).length=o2.length+1:=by simp
   obtain⟨Av,cv,hvv⟩:=Kd.R_slice hv1;rw[hl1]at hvv;subst hvv;have hk1:=(hg1.block g HQ.out.lt (fun hh=>HQ.out.ou.1 _ hh.symm rfl)).trans HQ.out.blk
   have hz1:w1.frozen? ⟨g,2,none⟩=false:=Lib.frozen_of_heap hk1 2;have hc1:w1.cell? ⟨g,2,none⟩=some ov2:=by rw[j6 hk1];rfl
   have HQ6:=zc.mk (HQ.out.newO HK.out hb1 hg1 (out1:=o2++[.op kk]) (by rw[List.map_append];exact hv1))
   clear hk1 hl1 hv1 hb1 hg1 ho1 d0 d1 d2 d3 d4 d5 hbytes hgl;go_wp2_with fail;refine bodyPost_end (v:= .tuple #[]) (by simp[results,Tryz.f165,go_sem]) rfl ?_
   exact⟨rfl,_,_,⟨A2,c2,_,i2,bad2,HQ6.out,HSm.out⟩,HE.out⟩
  ·have hlt:(i:Int)<(A:Int):=by omega
   have hnw:IntKind.i64.wrap ((i:Int)+1)=(i:Int)+1:=by simp[j9];omega
   by_cases he:s.e=0
   ·rw[he]at q4
    by_cases hi0:i=0
    ·subst hi0
     have HS:=sum_any (w0:=w0) (g:=g) (L:=L) (o:=o2) (s:=s) (dp:=dp+1) HI.out (fun s2 o2=>LC last dp t rest O0 kk A 1 s2 o2) (.inl (by
      have h9:s.toks<:+rest∧o2.length+s.toks.length≤O0.length+rest.length:=by
       rcases HG.out with⟨_,h1,h2,_⟩|⟨h1,_⟩
       ·exact⟨h1,h2⟩
       ·exact absurd he h1
      have h8:=h9.1.length_le;exact⟨he,by omega,fun x hx=>HTK.out x (h9.1.subset hx),fun x hx=>HSZ.out x (h9.1.subset hx),by omega,by omega,by omega,fun s3 o3 h=>HG.out.sum0 he h⟩))
     clear he HG HO2;go_wp2_with fail;refine(HS _ HR.out).mono ?_;rintro e w3 ⟨rfl,s3,o3,HR3,HG3⟩;clear HS HR q4;go_wp2_with fail;go_roundg (gk-1)
     case measure=>omega
     case rel=>exact⟨1,s3,o3,by go_num,by omega,by omega,HR3,HG3⟩
    ·have hpos:(0:Int)<(i:Int):=by omega
     have HSg:=qb (w0:=w0) (g:=g) (L:=L) (last:=last) (out:=o2) (dp:=dp+1) s ⟨#[44]⟩;have hC:=HG.out.comma HTK.out (by omega) (by omega) he rfl
     generalize s.must ⟨#[44]⟩ last=s1 at*;have HS:=sum_any (w0:=w0) (g:=g) (L:=L) (o:=o2) (s:=s1) (dp:=dp+1) HI.out (fun s2 o2=>LC last dp t rest O0 kk A (i+1) s2 o2) (by
      rcases hC with⟨h1,h2,h3,h4⟩|⟨h1,h2⟩
      ·have h8:=h2.length_le
       exact .inl ⟨h1,by omega,fun x hx=>HTK.out x (h2.subset hx),fun x hx=>HSZ.out x (h2.subset hx),by omega,by omega,by omega,h4⟩
      ·exact .inr ⟨h1,h2⟩)
     clear he HG HO2 hC;go_wp2_with(with_reducible refine HSg.go HR ?_;clear HR;intro w1 HR)
     refine(HS _ HR.out).mono ?_;rintro e w3 ⟨rfl,s3,o3,HR3,HG3⟩;clear HS HR q4;go_wp2_with fail;go_roundg (gk-1)
     case measure=>omega
     case rel=>exact⟨i+1,s3,o3,by go_num,by omega,by omega,HR3,HG3⟩
   ·have HE:=zc.mk (HG.out.shut HTK.out (fun h=>absurd h he) hA1 rfl)
    have HSh:=rshut_b (w0:=w0) (g:=g) (L:=L) (last:=last) (out:=o2) (dp:=dp+1) s ⟨by omega,by omega⟩
    rw[show dp+1-1=dp by omega]at HSh
    generalize s.must ⟨#[41]⟩ last=s1 at*;generalize s.e=se at*;have he2:decide (se=0)=false:=decide_eq_false he;have he3:(se==0)=false:=beq_eq_false_iff_ne.2 he;clear HG;go_wp2_with fail;refine HSh.go HR ?_;clear HR;intro wq HR;obtain⟨A2,c2,ov2,i2,bad2,h6,h7⟩:=HR.out;have HQ:=zc.mk h6;have HSm:=zc.mk h7;clear h6 h7 HR;obtain⟨d0,d1,d2,d3,d4,d5⟩:=HQ.out.cells;have hbytes:((o2.map nd37).length+1)*72≤140737488355328:=by rw[List.length_map];have:=HO2.out;omega
    have hgl:=HQ.out.lt;go_wp2_with(at_builtin;refine Kd.R_append k37 (w0:=w0) w0.heap.size rfl (.tmp 34) (.tmp 37) 24 37 (.agg #[.int .i64 0,.string ⟨#[]⟩,.string ⟨#[]⟩,.string ⟨#[]⟩,.int .i64 0,.int .i64 0]) 72 rfl Tryz.underlying24 zS rfl (by decide) (by omega) ov2 (o2.map nd37) (nd37 (.op kk)) [.int .i64 kk,.string ⟨#[]⟩,.string ⟨#[]⟩,.string ⟨#[]⟩,.int .i64 0,.int .i64 0] (fun k=>k≠g) (fun _=>False) rfl rfl (zE _ _ _ (nd37 (.op kk))) (fun _ hk=>hk.elim) ?aF ?aO ?aB ?aS ?aL ?_)
    case aF=>exact fun k hk=>by omega
    case aO=>exact HQ.out.ou
    case aB=>exact HQ.out.bl
    case aS=>exact HQ.out.bl.size
    case aL=>exact hbytes
    intro v1 w1 hv1 hb1 hg1 ho1;have hl1:(o2.map nd37++[nd37 (.op kk)]).length=o2.length+1:=by simp
    obtain⟨Av,cv,hvv⟩:=Kd.R_slice hv1;rw[hl1]at hvv;subst hvv;have hk1:=(hg1.block g HQ.out.lt (fun hh=>HQ.out.ou.1 _ hh.symm rfl)).trans HQ.out.blk
    have hz1:w1.frozen? ⟨g,2,none⟩=false:=Lib.frozen_of_heap hk1 2;have hc1:w1.cell? ⟨g,2,none⟩=some ov2:=by rw[j6 hk1];rfl
    have HQ6:=zc.mk (HQ.out.newO HK.out hb1 hg1 (out1:=o2++[.op kk]) (by rw[List.map_append];exact hv1))
    clear hk1 hl1 hv1 hb1 hg1 ho1 d0 d1 d2 d3 d4 d5 hbytes hgl;go_wp2_with fail;refine bodyPost_end (v:= .tuple #[]) (by simp[results,Tryz.f165,go_sem]) rfl ?_
    exact⟨rfl,_,_,⟨A2,c2,_,i2,bad2,HQ6.out,HSm.out⟩,HE.out⟩
end Go.Proofs.YtjopepfemhckjaaGreatDoor.NW
end
section
namespace Go.Proofs.YtjopepfemhckjaaGreatDoor.NW
open Go.Proofs Go.RowKit Go.Shelf Go.Proofs.YtjopepfemhckjaaGreatDoor.PN Go.Proofs.YtjopepfemhckjaaGreatDoorW.PrintWords Go.Proofs.YtjopepfemhckjaaGreatDoor.PParseTells
section
variable {w0:WK} {g:Nat} {L:List S75} {last:S75} {out:List Nd} {dp:Int} {s:PS}
theorem rprice1_b (hK:w0.kp=[])(s:PS)(hsz:SzOK s)(hout:out.length≤100000):Rb (RBS w0 g L last out dp s) 164 #[.pointer (some ⟨g,0,none⟩),.int .i64 1] (.tuple #[]) (RBS w0 g L last (out++[(s.price 1 last).2]) dp (s.price 1 last).1):=by
 intro w h;have HR:=zc.mk h;have HK:=zc.mk hK;have HO:=zc.mk hout;obtain⟨P,hP⟩:∃P,s.price 1 last=P:=⟨_,rfl⟩;rw[hP];rw[jH,if_pos rfl]at hP;unfold PS.d1 at hP;have H1:=qb (w0:=w0) (g:=g) (L:=L) (last:=last) (out:=out) (dp:=dp) s ⟨#[40]⟩;have hz1:=hsz.must ⟨#[40]⟩ last;obtain⟨s1,hs1⟩:∃s1,s.must ⟨#[40]⟩ last=s1:=⟨_,rfl⟩;rw[hs1]at hP H1 hz1;have H2:=qX (w0:=w0) (g:=g) (L:=L) (last:=last) (out:=out) (dp:=dp) s1 0;have hz2:SzOK (s1.nm last):=by
  unfold PS.nm;split
  ·exact hz1.take _ _
  ·exact(hz1.take _ _).fail _ _
 have htk:s1.take 0 (fun _=>true)=if s1.has 0 (fun _=>true)=true then(s1.tl,hdT s1.toks,true)else(s1,⟨#[]⟩,false):=rfl
 have hnm:s1.nm last=if s1.has 0 (fun _=>true)=true then s1.tl else s1.fail 110 last:=by
  unfold PS.nm;rw[htk];split
  ·rw[if_pos rfl]
  ·rw[if_neg (by simp)]
 obtain⟨s2,hs2⟩:∃s2,s1.nm last=s2:=⟨_,rfl⟩;obtain⟨asx,has⟩:∃asx,(s1.take 0 (fun _=>true)).2.1=asx:=⟨_,rfl⟩
 obtain⟨ok,hok⟩:∃ok,(s1.take 0 (fun _=>true)).2.2=ok:=⟨_,rfl⟩
 rw[hs2,has]at hP;rw[has,hok]at H2;rw[hs2]at hz2 hnm;have H4:=qb (w0:=w0) (g:=g) (L:=L) (last:=last) (out:=out) (dp:=dp) s2 ⟨#[44]⟩;have hz4:=hz2.must ⟨#[44]⟩ last;obtain⟨s4,hs4⟩:∃s4,s2.must ⟨#[44]⟩ last=s4:=⟨_,rfl⟩;rw[hs4]at hP H4 hz4;have H5:=rday_b (w0:=w0) (g:=g) (L:=L) (last:=last) (out:=out) (dp:=dp) s4 hz4 0 9999;have hrg:=jZ s4 last 0 9999 (by omega)
 have hz5:=hz4.day last 0 9999;obtain⟨s5,hs5⟩:∃s5,(s4.day last 0 9999).1=s5:=⟨_,rfl⟩;obtain⟨a,ha⟩:∃a,(s4.day last 0 9999).2=a:=⟨_,rfl⟩;rw[hs5,ha]at hP H5;rw[hs5]at hz5;rw[ha]at hrg;have H6:=fun w0:WK=>qb (w0:=w0) (g:=g) (L:=L) (last:=last) (out:=out) (dp:=dp) s5 ⟨#[41]⟩
 obtain⟨s9,hs9⟩:∃s9,s5.must ⟨#[41]⟩ last=s9:=⟨_,rfl⟩;rw[hs9]at hP H6;have HP:=zc.mk hP.symm;have hcase:(ok=true∧s2=s1.tl∧s1.has 0 (fun _=>true)=true)∨(ok=false∧s2=s1.fail 110 last):=by
  cases hh:s1.has 0 (fun _=>true)with
  |true=>
   rw[hh,if_pos rfl]at htk hnm;rw[htk]at hok;exact .inl ⟨hok.symm,hnm,rfl⟩
  |false=>
   rw[hh,if_neg (by decide)]at htk hnm
   rw[htk]at hok;exact .inr ⟨hok.symm,hnm⟩
 clear h hK hout hsz hz1 hz2 hz4 hz5 hs1 hs2 hs4 hs5 hs9 has hok ha htk hnm hP hrg;rcases hcase with⟨rfl,rfl,hh⟩|⟨rfl,rfl⟩
 ·obtain⟨tk,r,g1,g2,g3,g4⟩:=PS.has_cons hh
  clear hh g3 g4;go_enter Tryz.func164,Tryz.ntmps164
  go_wp2_with(with_reducible refine H1.go HR ?_;clear HR;intro w1 HR)
  refine H2.go HR ?_;clear HR;intro wq HR;obtain⟨A,c,ov,i,bad,h3,h4⟩:=HR.out;have q1:=h3.cells.2.1;have f1:=h3.frozen 1;obtain⟨k,rfl,hw,h5⟩:=RBS.tl h3 h4 g2 (by rw[g1];exact fun h=>by cases h)
  obtain⟨K,hK⟩:∃K,k+1=K:=⟨_,rfl⟩;rw[hK]at h5;have hK2:(↑k+1:Int)= ↑K:=by omega
  rw[hK2]at hw;have HR:=zc.mk h5;clear h3 h4 h5 g1 g2;go_wp2_with(with_reducible refine H4.go HR ?_;clear HR;intro w1 HR)
  refine H5.go HR ?_;clear HR q1 f1;intro wf HR;have HR:=zc.mk (RBS.alloc HK.out HR.out (.cells #[.int .i64 1,.string ⟨#[]⟩,.string ⟨#[]⟩,.string asx,.int .i64 a,.int .i64 0] 37));go_wp2_with fail;generalize wf.alloc (.cells #[.int .i64 1,.string ⟨#[]⟩,.string ⟨#[]⟩,.string asx,.int .i64 a,.int .i64 0] 37)=wg at*;generalize wf.heap.size=B at*;refine(H6 _).go HR ?_;clear HR;intro wk HR;obtain⟨⟨A2,c2,ov2,i2,bad2,h6,h7⟩,Na⟩:=RBS.free HK.out HR.out;have HQ:=zc.mk h6;have HSm:=zc.mk h7;clear h6 h7 HR;obtain⟨d0,d1,d2,d3,d4,d5⟩:=HQ.out.cells;obtain⟨r0,r1,r2,r3,r4,r5⟩:=(HQ.out.step ((xb _ _).drew)).cells;have m0:wk.cell? ⟨B,0,none⟩=some (.int .i64 1):=by rw[j6 Na];rfl
  have m1:wk.cell? ⟨B,1,none⟩=some (.string ⟨#[]⟩):=by rw[j6 Na];rfl
  have m2:wk.cell? ⟨B,2,none⟩=some (.string ⟨#[]⟩):=by rw[j6 Na];rfl
  have m3:wk.cell? ⟨B,3,none⟩=some (.string asx):=by rw[j6 Na];rfl
  have m4:wk.cell? ⟨B,4,none⟩=some (.int .i64 a):=by rw[j6 Na];rfl
  have m5:wk.cell? ⟨B,5,none⟩=some (.int .i64 0):=by rw[j6 Na];rfl
  clear Na;have hbytes:((out.map nd37).length+1)*72≤140737488355328:=by rw[List.length_map];have:=HO.out;omega
  have HQD:=zc.mk (HQ.out.step ((xb _ _).drew));have hgl:=HQ.out.lt;go_wp2_with fail;go_region_law ((refine Kd.R_append_step k37 (w0:=w0) (W:=wk.drew) w0.heap.size (by rfl) (.tmp 50) (.tmp 52) 24 37 (.agg #[.int .i64 0,.string ⟨#[]⟩,.string ⟨#[]⟩,.string ⟨#[]⟩,.int .i64 0,.int .i64 0]) 72 (by rfl) Tryz.underlying24 zS (by rfl) (by decide) (by omega) ov2 (out.map nd37) (nd37 (.px asx a)) [.int .i64 1,.string ⟨#[]⟩,.string ⟨#[]⟩,.string asx,.int .i64 a,.int .i64 0] (fun k=>k≠g) (fun _=>False) (by rfl) (by rfl) (zE _ _ _ (nd37 (.px asx a))) (fun _ hk=>hk.elim) (fun k hk=>by have:=HQ.out.lt;have:=HQD.out.lt;omega) HQD.out.ou HQD.out.bl HQD.out.bl.size hbytes ?_;intro v1 w1 hv1 hb1 hg1 ho1;have hl1:(out.map nd37++[nd37 (.px asx a)]).length=out.length+1:=(by simp);obtain⟨Av,cv,hvv⟩:=Kd.R_slice hv1;rw[hl1]at hvv;subst hvv;have hk1:=(hg1.block g HQD.out.lt (fun hh=>HQD.out.ou.1 _ hh.symm rfl)).trans HQD.out.blk;have hz1:w1.frozen? ⟨g,2,none⟩=false:=Lib.frozen_of_heap hk1 2;have hc1:w1.cell? ⟨g,2,none⟩=some ov2:=(by rw[j6 hk1];rfl);clear hk1))
  all_goals(
   have HQ6:=HQD.out.newO HK.out hb1 hg1 (out1:=out++[(.px asx a)]) (by rw[List.map_append];exact hv1)
   go_wp2_with fail;first
   |(refine bodyPost_end (v:= .tuple #[]) (by simp[results,Tryz.f164,go_sem]) rfl ?_;rw[HP.out];exact⟨rfl,A2,c2,_,i2,bad2,HQ6,HSm.out⟩)
   |(refine bodyPost_end (v:= .tuple #[]) (by simp[results,Tryz.f164,go_sem]) rfl ?_;rw[HP.out];exact⟨rfl,A2,c2,_,i2,bad2,HQ6.step ((xb _ _).drew),HSm.out⟩))
 ·have HF:=qi (w0:=w0) (g:=g) (L:=L) (last:=last) (out:=out) (dp:=dp) s1 110 (by decide)
  go_enter Tryz.func164,Tryz.ntmps164
  go_wp2_with(with_reducible refine H1.go HR ?_;clear HR;intro w1 HR)
  refine H2.go HR ?_;clear HR;intro wq HR;go_wp2_with fail;refine HF.go HR ?_;clear HR;intro wz HR;have hne:(s1.fail 110 last).e≠0:=by
   unfold PS.fail;split
   ·exact(by decide:(110:Int)≠0)
   ·assumption
  obtain⟨i,q1,f1,hx⟩:=HR.out.anyI hne;clear hne;go_wp2_with(with_reducible refine H4.go (zc.mk (hx _)) ?_;clear HR hx;intro w1 HR)
  refine H5.go HR ?_;clear HR q1 f1;intro wf HR;have HR:=zc.mk (RBS.alloc HK.out HR.out (.cells #[.int .i64 1,.string ⟨#[]⟩,.string ⟨#[]⟩,.string asx,.int .i64 a,.int .i64 0] 37));go_wp2_with fail;generalize wf.alloc (.cells #[.int .i64 1,.string ⟨#[]⟩,.string ⟨#[]⟩,.string asx,.int .i64 a,.int .i64 0] 37)=wg at*;generalize wf.heap.size=B at*;refine(H6 _).go HR ?_;clear HR;intro wk HR;obtain⟨⟨A2,c2,ov2,i2,bad2,h6,h7⟩,Na⟩:=RBS.free HK.out HR.out;have HQ:=zc.mk h6;have HSm:=zc.mk h7;clear h6 h7 HR;obtain⟨d0,d1,d2,d3,d4,d5⟩:=HQ.out.cells;obtain⟨r0,r1,r2,r3,r4,r5⟩:=(HQ.out.step ((xb _ _).drew)).cells;have m0:wk.cell? ⟨B,0,none⟩=some (.int .i64 1):=by rw[j6 Na];rfl
  have m1:wk.cell? ⟨B,1,none⟩=some (.string ⟨#[]⟩):=by rw[j6 Na];rfl
  have m2:wk.cell? ⟨B,2,none⟩=some (.string ⟨#[]⟩):=by rw[j6 Na];rfl
  have m3:wk.cell? ⟨B,3,none⟩=some (.string asx):=by rw[j6 Na];rfl
  have m4:wk.cell? ⟨B,4,none⟩=some (.int .i64 a):=by rw[j6 Na];rfl
  have m5:wk.cell? ⟨B,5,none⟩=some (.int .i64 0):=by rw[j6 Na];rfl
  clear Na;have hbytes:((out.map nd37).length+1)*72≤140737488355328:=by rw[List.length_map];have:=HO.out;omega
  have HQD:=zc.mk (HQ.out.step ((xb _ _).drew));have hgl:=HQ.out.lt;go_wp2_with fail;go_region_law ((refine Kd.R_append_step k37 (w0:=w0) (W:=wk.drew) w0.heap.size (by rfl) (.tmp 50) (.tmp 52) 24 37 (.agg #[.int .i64 0,.string ⟨#[]⟩,.string ⟨#[]⟩,.string ⟨#[]⟩,.int .i64 0,.int .i64 0]) 72 (by rfl) Tryz.underlying24 zS (by rfl) (by decide) (by omega) ov2 (out.map nd37) (nd37 (.px asx a)) [.int .i64 1,.string ⟨#[]⟩,.string ⟨#[]⟩,.string asx,.int .i64 a,.int .i64 0] (fun k=>k≠g) (fun _=>False) (by rfl) (by rfl) (zE _ _ _ (nd37 (.px asx a))) (fun _ hk=>hk.elim) (fun k hk=>by have:=HQ.out.lt;have:=HQD.out.lt;omega) HQD.out.ou HQD.out.bl HQD.out.bl.size hbytes ?_;intro v1 w1 hv1 hb1 hg1 ho1;have hl1:(out.map nd37++[nd37 (.px asx a)]).length=out.length+1:=(by simp);obtain⟨Av,cv,hvv⟩:=Kd.R_slice hv1;rw[hl1]at hvv;subst hvv;have hk1:=(hg1.block g HQD.out.lt (fun hh=>HQD.out.ou.1 _ hh.symm rfl)).trans HQD.out.blk;have hz1:w1.frozen? ⟨g,2,none⟩=false:=Lib.frozen_of_heap hk1 2;have hc1:w1.cell? ⟨g,2,none⟩=some ov2:=(by rw[j6 hk1];rfl);clear hk1))
  all_goals(
   have HQ6:=HQD.out.newO HK.out hb1 hg1 (out1:=out++[(.px asx a)]) (by rw[List.map_append];exact hv1)
   go_wp2_with fail;first
   |(refine bodyPost_end (v:= .tuple #[]) (by simp[results,Tryz.f164,go_sem]) rfl ?_;rw[HP.out];exact⟨rfl,A2,c2,_,i2,bad2,HQ6,HSm.out⟩)
   |(refine bodyPost_end (v:= .tuple #[]) (by simp[results,Tryz.f164,go_sem]) rfl ?_;rw[HP.out];exact⟨rfl,A2,c2,_,i2,bad2,HQ6.step ((xb _ _).drew),HSm.out⟩))
theorem rprice2_b (hK:w0.kp=[])(s:PS)(hsz:SzOK s)(hout:out.length≤100000)(op:Int)(hop:1<op):Rb (RBS w0 g L last out dp s) 164 #[.pointer (some ⟨g,0,none⟩),.int .i64 op] (.tuple #[]) (RBS w0 g L last (out++[(s.price op last).2]) dp (s.price op last).1):=by
 intro w h;have HR:=zc.mk h;have HK:=zc.mk hK;have HO:=zc.mk hout;obtain⟨P,hP⟩:∃P,s.price op last=P:=⟨_,rfl⟩;rw[hP];rw[jH,if_neg (by omega)]at hP
 unfold PS.d2 PS.d1 at hP;have H1:=qb (w0:=w0) (g:=g) (L:=L) (last:=last) (out:=out) (dp:=dp) s ⟨#[40]⟩;have hz1:=hsz.must ⟨#[40]⟩ last;obtain⟨s1,hs1⟩:∃s1,s.must ⟨#[40]⟩ last=s1:=⟨_,rfl⟩;rw[hs1]at hP H1 hz1;have H2:=qX (w0:=w0) (g:=g) (L:=L) (last:=last) (out:=out) (dp:=dp) s1 0;have hz2:SzOK (s1.nm last):=by
  unfold PS.nm;split
  ·exact hz1.take _ _
  ·exact(hz1.take _ _).fail _ _
 have htk:s1.take 0 (fun _=>true)=if s1.has 0 (fun _=>true)=true then(s1.tl,hdT s1.toks,true)else(s1,⟨#[]⟩,false):=rfl
 have hnm:s1.nm last=if s1.has 0 (fun _=>true)=true then s1.tl else s1.fail 110 last:=by
  unfold PS.nm;rw[htk];split
  ·rw[if_pos rfl]
  ·rw[if_neg (by simp)]
 obtain⟨s2,hs2⟩:∃s2,s1.nm last=s2:=⟨_,rfl⟩;obtain⟨asx,has⟩:∃asx,(s1.take 0 (fun _=>true)).2.1=asx:=⟨_,rfl⟩
 obtain⟨ok,hok⟩:∃ok,(s1.take 0 (fun _=>true)).2.2=ok:=⟨_,rfl⟩
 rw[hs2,has]at hP;rw[has,hok]at H2;rw[hs2]at hz2 hnm;have H4:=qb (w0:=w0) (g:=g) (L:=L) (last:=last) (out:=out) (dp:=dp) s2 ⟨#[44]⟩;have hz4:=hz2.must ⟨#[44]⟩ last;obtain⟨s4,hs4⟩:∃s4,s2.must ⟨#[44]⟩ last=s4:=⟨_,rfl⟩;rw[hs4]at hP H4 hz4;have H5:=rday_b (w0:=w0) (g:=g) (L:=L) (last:=last) (out:=out) (dp:=dp) s4 hz4 0 9999;have hrg:=jZ s4 last 0 9999 (by omega)
 have hz5:=hz4.day last 0 9999;obtain⟨s5,hs5⟩:∃s5,(s4.day last 0 9999).1=s5:=⟨_,rfl⟩;obtain⟨a,ha⟩:∃a,(s4.day last 0 9999).2=a:=⟨_,rfl⟩;rw[hs5,ha]at hP H5;rw[hs5]at hz5;rw[ha]at hrg;have H6:=fun w0:WK=>qb (w0:=w0) (g:=g) (L:=L) (last:=last) (out:=out) (dp:=dp) s5 ⟨#[44]⟩
 have hz6:=hz5.must ⟨#[44]⟩ last;obtain⟨s6,hs6⟩:∃s6,s5.must ⟨#[44]⟩ last=s6:=⟨_,rfl⟩;rw[hs6]at hP H6 hz6;have H7:=fun w0:WK=>rday_b (w0:=w0) (g:=g) (L:=L) (last:=last) (out:=out) (dp:=dp) s6 hz6 a (a+59)
 obtain⟨s7,hs7⟩:∃s7,(s6.day last a (a+59)).1=s7:=⟨_,rfl⟩;obtain⟨b,hb⟩:∃b,(s6.day last a (a+59)).2=b:=⟨_,rfl⟩;rw[hs7,hb]at hP H7;have H8:=fun w0:WK=>qb (w0:=w0) (g:=g) (L:=L) (last:=last) (out:=out) (dp:=dp) s7 ⟨#[41]⟩
 obtain⟨s9,hs9⟩:∃s9,s7.must ⟨#[41]⟩ last=s9:=⟨_,rfl⟩;rw[hs9]at hP H8;have e1:IntKind.i64.wrap (a+59)=a+59:=by simp[j9];omega
 clear hz6 hs6 hs7 hb;have HP:=zc.mk hP.symm;have hcase:(ok=true∧s2=s1.tl∧s1.has 0 (fun _=>true)=true)∨(ok=false∧s2=s1.fail 110 last):=by
  cases hh:s1.has 0 (fun _=>true)with
  |true=>
   rw[hh,if_pos rfl]at htk hnm;rw[htk]at hok;exact .inl ⟨hok.symm,hnm,rfl⟩
  |false=>
   rw[hh,if_neg (by decide)]at htk hnm
   rw[htk]at hok;exact .inr ⟨hok.symm,hnm⟩
 clear h hK hout hsz hz1 hz2 hz4 hz5 hs1 hs2 hs4 hs5 hs9 has hok ha htk hnm hP hrg;rcases hcase with⟨rfl,rfl,hh⟩|⟨rfl,rfl⟩
 ·obtain⟨tk,r,g1,g2,g3,g4⟩:=PS.has_cons hh
  clear hh g3 g4;go_enter Tryz.func164,Tryz.ntmps164
  go_wp2_with(with_reducible refine H1.go HR ?_;clear HR;intro w1 HR)
  refine H2.go HR ?_;clear HR;intro wq HR;obtain⟨A,c,ov,i,bad,h3,h4⟩:=HR.out;have q1:=h3.cells.2.1;have f1:=h3.frozen 1;obtain⟨k,rfl,hw,h5⟩:=RBS.tl h3 h4 g2 (by rw[g1];exact fun h=>by cases h)
  obtain⟨K,hK⟩:∃K,k+1=K:=⟨_,rfl⟩;rw[hK]at h5;have hK2:(↑k+1:Int)= ↑K:=by omega
  rw[hK2]at hw;have HR:=zc.mk h5;clear h3 h4 h5 g1 g2;go_wp2_with(with_reducible refine H4.go HR ?_;clear HR;intro w1 HR)
  refine H5.go HR ?_;clear HR q1 f1;intro wf HR;have HR:=zc.mk (RBS.alloc HK.out HR.out (.cells #[.int .i64 op,.string ⟨#[]⟩,.string ⟨#[]⟩,.string asx,.int .i64 a,.int .i64 0] 37));go_wp2_with fail;generalize wf.alloc (.cells #[.int .i64 op,.string ⟨#[]⟩,.string ⟨#[]⟩,.string asx,.int .i64 a,.int .i64 0] 37)=wg at*;generalize wf.heap.size=B at*;refine(H6 _).go HR ?_;clear HR;intro wk HR;have n7:=(RBS.free HK.out HR.out).2;have m4:wk.cell? ⟨B,4,none⟩=some (.int .i64 a):=by rw[j6 n7];rfl
  clear n7;go_wp2_with fail;refine(H7 _).go HR ?_;clear HR m4;intro wi HR;have n8:=(RBS.free HK.out HR.out).2;have m5:wi.cell? ⟨B,5,none⟩=some (.int .i64 0):=by rw[j6 n8];rfl
  have fz:wi.frozen? ⟨B,5,none⟩=false:=Lib.frozen_of_heap n8 5;have HR:=zc.mk (HR.out.put 5 (.int .i64 b) (bk2:= .cells #[.int .i64 op,.string ⟨#[]⟩,.string ⟨#[]⟩,.string asx,.int .i64 a,.int .i64 b] 37) (by simp[World.setCell,Array.getElem?_modify,n8]))
  clear n8;go_wp2_with fail;generalize wi.setCell ⟨B,5,none⟩ (.int .i64 b)=wj at*;refine(H8 _).go HR ?_;clear HR m5 fz;intro wk HR;obtain⟨⟨A2,c2,ov2,i2,bad2,h6,h7⟩,Na⟩:=RBS.free HK.out HR.out;have HQ:=zc.mk h6;have HSm:=zc.mk h7;clear h6 h7 HR;obtain⟨d0,d1,d2,d3,d4,d5⟩:=HQ.out.cells;obtain⟨r0,r1,r2,r3,r4,r5⟩:=(HQ.out.step ((xb _ _).drew)).cells;have m0:wk.cell? ⟨B,0,none⟩=some (.int .i64 op):=by rw[j6 Na];rfl
  have m1:wk.cell? ⟨B,1,none⟩=some (.string ⟨#[]⟩):=by rw[j6 Na];rfl
  have m2:wk.cell? ⟨B,2,none⟩=some (.string ⟨#[]⟩):=by rw[j6 Na];rfl
  have m3:wk.cell? ⟨B,3,none⟩=some (.string asx):=by rw[j6 Na];rfl
  have m4:wk.cell? ⟨B,4,none⟩=some (.int .i64 a):=by rw[j6 Na];rfl
  have m5:wk.cell? ⟨B,5,none⟩=some (.int .i64 b):=by rw[j6 Na];rfl
  clear Na;have hbytes:((out.map nd37).length+1)*72≤140737488355328:=by rw[List.length_map];have:=HO.out;omega
  have HQD:=zc.mk (HQ.out.step ((xb _ _).drew));have hgl:=HQ.out.lt;go_wp2_with fail;go_region_law ((refine Kd.R_append_step k37 (w0:=w0) (W:=wk.drew) w0.heap.size (by rfl) (.tmp 50) (.tmp 52) 24 37 (.agg #[.int .i64 0,.string ⟨#[]⟩,.string ⟨#[]⟩,.string ⟨#[]⟩,.int .i64 0,.int .i64 0]) 72 (by rfl) Tryz.underlying24 zS (by rfl) (by decide) (by omega) ov2 (out.map nd37) (nd37 (.raw ⟨op,⟨⟨#[]⟩,⟨#[]⟩⟩,asx,a,b⟩)) [.int .i64 op,.string ⟨#[]⟩,.string ⟨#[]⟩,.string asx,.int .i64 a,.int .i64 b] (fun k=>k≠g) (fun _=>False) (by rfl) (by rfl) (zE _ _ _ (nd37 (.raw ⟨op,⟨⟨#[]⟩,⟨#[]⟩⟩,asx,a,b⟩))) (fun _ hk=>hk.elim) (fun k hk=>by have:=HQ.out.lt;have:=HQD.out.lt;omega) HQD.out.ou HQD.out.bl HQD.out.bl.size hbytes ?_;intro v1 w1 hv1 hb1 hg1 ho1;have hl1:(out.map nd37++[nd37 (.raw ⟨op,⟨⟨#[]⟩,⟨#[]⟩⟩,asx,a,b⟩)]).length=out.length+1:=(by simp);obtain⟨Av,cv,hvv⟩:=Kd.R_slice hv1;rw[hl1]at hvv;subst hvv;have hk1:=(hg1.block g HQD.out.lt (fun hh=>HQD.out.ou.1 _ hh.symm rfl)).trans HQD.out.blk;have hz1:w1.frozen? ⟨g,2,none⟩=false:=Lib.frozen_of_heap hk1 2;have hc1:w1.cell? ⟨g,2,none⟩=some ov2:=(by rw[j6 hk1];rfl);clear hk1))
  all_goals(
   have HQ6:=HQD.out.newO HK.out hb1 hg1 (out1:=out++[(.raw ⟨op,⟨⟨#[]⟩,⟨#[]⟩⟩,asx,a,b⟩)]) (by rw[List.map_append];exact hv1)
   go_wp2_with fail;first
   |(refine bodyPost_end (v:= .tuple #[]) (by simp[results,Tryz.f164,go_sem]) rfl ?_;rw[HP.out];exact⟨rfl,A2,c2,_,i2,bad2,HQ6,HSm.out⟩)
   |(refine bodyPost_end (v:= .tuple #[]) (by simp[results,Tryz.f164,go_sem]) rfl ?_;rw[HP.out];exact⟨rfl,A2,c2,_,i2,bad2,HQ6.step ((xb _ _).drew),HSm.out⟩))
 ·have HF:=qi (w0:=w0) (g:=g) (L:=L) (last:=last) (out:=out) (dp:=dp) s1 110 (by decide)
  go_enter Tryz.func164,Tryz.ntmps164
  go_wp2_with(with_reducible refine H1.go HR ?_;clear HR;intro w1 HR)
  refine H2.go HR ?_;clear HR;intro wq HR;go_wp2_with fail;refine HF.go HR ?_;clear HR;intro wz HR;have hne:(s1.fail 110 last).e≠0:=by
   unfold PS.fail;split
   ·exact(by decide:(110:Int)≠0)
   ·assumption
  obtain⟨i,q1,f1,hx⟩:=HR.out.anyI hne;clear hne;go_wp2_with(with_reducible refine H4.go (zc.mk (hx _)) ?_;clear HR hx;intro w1 HR)
  refine H5.go HR ?_;clear HR q1 f1;intro wf HR;have HR:=zc.mk (RBS.alloc HK.out HR.out (.cells #[.int .i64 op,.string ⟨#[]⟩,.string ⟨#[]⟩,.string asx,.int .i64 a,.int .i64 0] 37));go_wp2_with fail;generalize wf.alloc (.cells #[.int .i64 op,.string ⟨#[]⟩,.string ⟨#[]⟩,.string asx,.int .i64 a,.int .i64 0] 37)=wg at*;generalize wf.heap.size=B at*;refine(H6 _).go HR ?_;clear HR;intro wk HR;have n7:=(RBS.free HK.out HR.out).2;have m4:wk.cell? ⟨B,4,none⟩=some (.int .i64 a):=by rw[j6 n7];rfl
  clear n7;go_wp2_with fail;refine(H7 _).go HR ?_;clear HR m4;intro wi HR;have n8:=(RBS.free HK.out HR.out).2;have m5:wi.cell? ⟨B,5,none⟩=some (.int .i64 0):=by rw[j6 n8];rfl
  have fz:wi.frozen? ⟨B,5,none⟩=false:=Lib.frozen_of_heap n8 5;have HR:=zc.mk (HR.out.put 5 (.int .i64 b) (bk2:= .cells #[.int .i64 op,.string ⟨#[]⟩,.string ⟨#[]⟩,.string asx,.int .i64 a,.int .i64 b] 37) (by simp[World.setCell,Array.getElem?_modify,n8]))
  clear n8;go_wp2_with fail;generalize wi.setCell ⟨B,5,none⟩ (.int .i64 b)=wj at*;refine(H8 _).go HR ?_;clear HR m5 fz;intro wk HR;obtain⟨⟨A2,c2,ov2,i2,bad2,h6,h7⟩,Na⟩:=RBS.free HK.out HR.out;have HQ:=zc.mk h6;have HSm:=zc.mk h7;clear h6 h7 HR;obtain⟨d0,d1,d2,d3,d4,d5⟩:=HQ.out.cells;obtain⟨r0,r1,r2,r3,r4,r5⟩:=(HQ.out.step ((xb _ _).drew)).cells;have m0:wk.cell? ⟨B,0,none⟩=some (.int .i64 op):=by rw[j6 Na];rfl
  have m1:wk.cell? ⟨B,1,none⟩=some (.string ⟨#[]⟩):=by rw[j6 Na];rfl
  have m2:wk.cell? ⟨B,2,none⟩=some (.string ⟨#[]⟩):=by rw[j6 Na];rfl
  have m3:wk.cell? ⟨B,3,none⟩=some (.string asx):=by rw[j6 Na];rfl
  have m4:wk.cell? ⟨B,4,none⟩=some (.int .i64 a):=by rw[j6 Na];rfl
  have m5:wk.cell? ⟨B,5,none⟩=some (.int .i64 b):=by rw[j6 Na];rfl
  clear Na;have hbytes:((out.map nd37).length+1)*72≤140737488355328:=by rw[List.length_map];have:=HO.out;omega
  have HQD:=zc.mk (HQ.out.step ((xb _ _).drew));have hgl:=HQ.out.lt;go_wp2_with fail;go_region_law ((refine Kd.R_append_step k37 (w0:=w0) (W:=wk.drew) w0.heap.size (by rfl) (.tmp 50) (.tmp 52) 24 37 (.agg #[.int .i64 0,.string ⟨#[]⟩,.string ⟨#[]⟩,.string ⟨#[]⟩,.int .i64 0,.int .i64 0]) 72 (by rfl) Tryz.underlying24 zS (by rfl) (by decide) (by omega) ov2 (out.map nd37) (nd37 (.raw ⟨op,⟨⟨#[]⟩,⟨#[]⟩⟩,asx,a,b⟩)) [.int .i64 op,.string ⟨#[]⟩,.string ⟨#[]⟩,.string asx,.int .i64 a,.int .i64 b] (fun k=>k≠g) (fun _=>False) (by rfl) (by rfl) (zE _ _ _ (nd37 (.raw ⟨op,⟨⟨#[]⟩,⟨#[]⟩⟩,asx,a,b⟩))) (fun _ hk=>hk.elim) (fun k hk=>by have:=HQ.out.lt;have:=HQD.out.lt;omega) HQD.out.ou HQD.out.bl HQD.out.bl.size hbytes ?_;intro v1 w1 hv1 hb1 hg1 ho1;have hl1:(out.map nd37++[nd37 (.raw ⟨op,⟨⟨#[]⟩,⟨#[]⟩⟩,asx,a,b⟩)]).length=out.length+1:=(by simp);obtain⟨Av,cv,hvv⟩:=Kd.R_slice hv1;rw[hl1]at hvv;subst hvv;have hk1:=(hg1.block g HQD.out.lt (fun hh=>HQD.out.ou.1 _ hh.symm rfl)).trans HQD.out.blk;have hz1:w1.frozen? ⟨g,2,none⟩=false:=Lib.frozen_of_heap hk1 2;have hc1:w1.cell? ⟨g,2,none⟩=some ov2:=(by rw[j6 hk1];rfl);clear hk1))
  all_goals(
   have HQ6:=HQD.out.newO HK.out hb1 hg1 (out1:=out++[(.raw ⟨op,⟨⟨#[]⟩,⟨#[]⟩⟩,asx,a,b⟩)]) (by rw[List.map_append];exact hv1)
   go_wp2_with fail;first
   |(refine bodyPost_end (v:= .tuple #[]) (by simp[results,Tryz.f164,go_sem]) rfl ?_;rw[HP.out];exact⟨rfl,A2,c2,_,i2,bad2,HQ6,HSm.out⟩)
   |(refine bodyPost_end (v:= .tuple #[]) (by simp[results,Tryz.f164,go_sem]) rfl ?_;rw[HP.out];exact⟨rfl,A2,c2,_,i2,bad2,HQ6.step ((xb _ _).drew),HSm.out⟩))
end
end Go.Proofs.YtjopepfemhckjaaGreatDoor.NW
end
section
namespace Go.Proofs.YtjopepfemhckjaaGreatDoor.NW
open Go.Proofs Go.RowKit Go.Shelf Go.Proofs.YtjopepfemhckjaaGreatDoor.PN Go.Proofs.YtjopepfemhckjaaGreatDoorW.PrintWords Go.Proofs.YtjopepfemhckjaaGreatDoor.PParseTells
theorem noOp4 (toks:List S75):NoOp 4 toks:=fun t rest op rk e ht=>by have:=op_le ht;omega
section
variable {last:S75} {dp:Int} {t:S75} {rest:List S75} {out:List Nd} {s:PS} {o:List Nd}
def PX (last:S75)(dp:Int)(t:S75)(rest:List S75)(out:List Nd)(s:PS)(o:List Nd):Prop:=
 (s.e=0∧Rch last (dp+1) 1 rest out s.toks o∧NoOp 1 s.toks∧s.toks<:+rest∧s.toks.length<rest.length∧o.length+s.toks.length≤out.length+rest.length∧Opn last dp (t::rest) out ⟨-1,0,0⟩ rest out)∨(s.e≠0∧Rer last dp 4 (t::rest) out s.e s.p0 s.p1∧o.length≤out.length+rest.length)
theorem PX.sum (hO:Opn last dp (t::rest) out ⟨-1,0,0⟩ rest out)(hG:Gst last (dp+1) 1 rest out s o):PX last dp t rest out s o:=by
 rcases hG with⟨g1,g2,g3,g4,g5,g6⟩|⟨g1,g2,g3⟩
 ·exact .inl ⟨g1,g2,g3,g4,g5,g6,hO⟩
 ·exact .inr ⟨g1,hO.er rfl g2,g3⟩
theorem PX.shut (htk:∀t∈rest,TokOK t)(h:PX last dp t rest out s o):Gst last dp 4 (t::rest) out (s.must ⟨#[41]⟩ last) o:=by
 rcases h with⟨h1,h2,h3,h4,h5,h6,h7⟩|⟨h1,h2,h3⟩
 ·cases hh:s.has 2 (fun t=>t.toList==(⟨#[41]⟩:xf).toList)with
  |true=>
   rw[must_tl hh];obtain⟨tk,r,g1,g2,g3,g4⟩:=qB hh;have hr:s.tl.toks=r:=by show s.toks.tail=r;rw[g1];rfl
   unfold Gst;rw[hr];rw[g1]at h2 h4 h5 h6;rw[List.length_cons]at h5 h6;have ht1:tk.f1=⟨#[41]⟩:=by rw[Lib.toList_data]at g4;rw[←mkB tk.f1,g4]
   exact .inl ⟨h1,h7.shutP h2 g3 ht1,noOp4 _,(List.suffix_cons _ _).trans (h4.trans (List.suffix_cons _ _)),by rw[List.length_cons];omega,by rw[List.length_cons];omega⟩
  |false=>
   rw[qG hh];have hf:s.fail 110 last=⟨s.toks,110,(zC s.toks last).1,(zC s.toks last).2⟩:=by unfold PS.fail;rw[if_pos h1]
   rw[hf];refine .inr ⟨(show(110:Int)≠0 by decide),h7.bad rfl h2 h3 ?_,by rw[List.length_cons];omega⟩
   intro tk r e;rw[←has_ps h1]at hh;have h8:=no_sign (fun t ht=>htk t (h4.subset ht)) hh (by decide) (by decide) e
   by_cases h9:tk.f1.toList=[44]
   ·exact .inl ⟨h9,.inr (by show(0:Int)≤1;decide)⟩
   ·exact .inr (.inr ⟨h9,h8⟩)
 ·rw[qG (jW h1 _ _),show s.fail 110 last=s by unfold PS.fail;rw[if_neg h1]]
  exact .inr ⟨h1,h2,by rw[List.length_cons];omega⟩
theorem PX.push (hk:t.f0=2)(ht:t.f1=⟨#[40]⟩){s0:PS}(hs0:(ps (t::rest)).push dp last=s0):(s0.e=0∧s0.toks=rest∧Opn last dp (t::rest) out ⟨-1,0,0⟩ rest out)∨(s0.e≠0∧PX last dp t rest out s0 out):=by
 subst hs0;have e40:(⟨#[40]⟩:xf).toList=[40]:=by rw[ByteArray.toList_eq]
 have hh:(ps (t::rest)).has 2 (fun t=>t.toList==(⟨#[40]⟩:xf).toList)=true:=by
  unfold PS.has;simp[tkOK,ps,hk,ht]
 unfold PS.push;by_cases hd:200≤dp
 ·rw[if_pos ⟨by show t.f1.toList=_;rw[ht,e40],hd⟩]
  have hf:(ps (t::rest)).fail 111 last=⟨t::rest,111,t.f2,t.f3⟩:=rfl;rw[hf,qG (jW (show(111:Int)≠0 by decide) _ _)]
  refine .inr ⟨(show(111:Int)≠0 by decide),.inr ⟨(show(111:Int)≠0 by decide),?_,by omega⟩⟩
  intro r hr;exact⟨1,.oDeep 0 t rest r out dp hk ht hd⟩
 ·rw[if_neg (fun h=>hd h.2),must_tl hh]
  refine .inl ⟨rfl,rfl,?_⟩;rintro r R ⟨k,hR⟩;exact⟨k+1,.oPar k t rest r out dp R hk ht (by omega) hR⟩
theorem Gst.leaf {x:Nd}{s1:PS}(hs:s1.toks<:+rest)(h0:s1.e=0→∀k r R,Run2 last k false s1.toks r (out++[x]) dp R→Run2 last (k+1) true (t::rest) r out dp R)(h1:s1.e≠0→∀r,Run2 last 1 true (t::rest) r out dp (.err s1.e s1.p0 s1.p1)):Gst last dp 4 (t::rest) out s1 (out++[x]):=by
 have hl:(out++[x]).length=out.length+1:=by rw[List.length_append];rfl
 have:=hs.length_le;by_cases he:s1.e=0
 ·refine .inl ⟨he,?_,noOp4 _,hs.trans (List.suffix_cons _ _),by rw[List.length_cons];omega,by rw[hl,List.length_cons];omega⟩
  rintro r hr R ⟨k,hk⟩;exact⟨k+1,h0 he k r R hk⟩
 ·exact .inr ⟨he,fun r hr=>⟨1,h1 he r⟩,by rw[hl,List.length_cons];omega⟩
theorem Gst.none {toks:List S75}(h:∀r,Run2 last 1 true toks r out dp (.err 110 (zC toks last).1 (zC toks last).2)):Gst last dp 4 toks out ((ps toks).fail 110 last) out:= .inr ⟨(show(110:Int)≠0 by decide),fun r hr=>⟨1,h r⟩,by omega⟩
end
section
variable {w0:WK} {g:Nat} {L:List S75} {last:S75} {out:List Nd} {dp:Int}
theorem number_any (hK:w0.kp=[])(toks:List S75)(htk:∀t∈toks,TokOK t)(hout:out.length≤100000)(h40:(ps toks).has 2 (fun t=>t.toList==(⟨#[40]⟩:xf).toList)=false)(h45:(ps toks).has 2 (fun t=>t.toList==(⟨#[45]⟩:xf).toList)=false)(h0:(ps toks).has 0 (fun _=>true)=false):∃s1 o1,Rb (RBS w0 g L last out dp (ps toks)) 162 #[.pointer (some ⟨g,0,none⟩)] (.tuple #[]) (RBS w0 g L last o1 dp s1)∧Gst last dp 4 toks out s1 o1:=by
 cases toks with
 |nil=>exact⟨_,_,qO (ps []) (.inl rfl),Gst.none (fun r=> .oEnd 0 r out dp)⟩
 |cons t rest=>
  rcases htk t (List.mem_cons_self ..)with⟨h,_⟩|⟨h,hx⟩|⟨h,_⟩
  ·unfold PS.has at h0
   simp[tkOK,ps,h]at h0
  ·have hh:(ps (t::rest)).has 1 (fun _=>true)=true:=by
    unfold PS.has;simp[tkOK,ps,h]
   obtain⟨z,d,hn⟩:=num_both t.f1 hx;rcases hn.short with⟨h1,h2,h3,_⟩|⟨h1,h2⟩
   ·exact⟨_,_,rnumber_ok hK (ps (t::rest)) hh z d hn.ref h1 h2 hout,Gst.leaf (List.suffix_refl _) (fun _ k r R hR=> .oNum k t rest r out dp R z d h h3 hR) (fun he=>absurd rfl he)⟩
   ·exact⟨_,_,qO (ps (t::rest)) (.inr ⟨z,d,hh,hn.ref,h1⟩),Gst.none (fun r=> .oNumB 0 t rest r out dp z d h h2)⟩
  ·have hh:(ps (t::rest)).has 1 (fun _=>true)=false:=by
    unfold PS.has;simp[tkOK,ps,h]
   exact⟨_,_,qO (ps (t::rest)) (.inl hh),Gst.none (fun r=> .oSign 0 t rest r out dp h (has_no h45 rfl rfl h) (has_no h40 rfl rfl h))⟩
end
def nmx (i:Nat):ByteArray:=([⟨#[110,117,109]⟩,⟨#[112,120]⟩,⟨#[97,118,103]⟩,⟨#[104,105]⟩,⟨#[108,111]⟩,⟨#[]⟩,⟨#[]⟩,⟨#[]⟩,⟨#[]⟩,⟨#[]⟩,⟨#[109,97,120]⟩,⟨#[109,105,110]⟩,⟨#[105,102]⟩]:List ByteArray).getD i ⟨#[]⟩
theorem jK {w:World}{B:Nat}(h:w.heap[B]? =some (.cells #[.string ⟨#[110,117,109]⟩,.string ⟨#[112,120]⟩,.string ⟨#[97,118,103]⟩,.string ⟨#[104,105]⟩,.string ⟨#[108,111]⟩,.string ⟨#[]⟩,.string ⟨#[]⟩,.string ⟨#[]⟩,.string ⟨#[]⟩,.string ⟨#[]⟩,.string ⟨#[109,97,120]⟩,.string ⟨#[109,105,110]⟩,.string ⟨#[105,102]⟩] 9))(i:Nat)(hi:i<13):w.cell? ⟨B,i,none⟩=some (.string (nmx i)):=by
 rw[j6 h];obtain rfl|rfl|rfl|rfl|rfl|rfl|rfl|rfl|rfl|rfl|rfl|rfl|rfl:i=0∨i=1∨i=2∨i=3∨i=4∨i=5∨i=6∨i=7∨i=8∨i=9∨i=10∨i=11∨i=12:=by omega
 all_goals rfl
theorem nmx_find (x:ByteArray)(hx:0<x.size):∃j,j≤13∧(∀i,i<j→(x.toList==(nmx i).toList)=false)∧((j=13∧parse_known.f x=some false)∨(j=0∧x=⟨#[110,117,109]⟩∧(x.toList==(nmx j).toList)=true)∨(1≤j∧j≤4∧x=nmP j∧(x.toList==(nmx j).toList)=true)∨(10≤j∧j≤12∧x=nmF j∧(x.toList==(nmx j).toList)=true)):=by
 rcases known_tot x with h|⟨kk,h1,h2,rfl⟩|⟨kk,h1,h2,rfl⟩|rfl
 ·refine⟨13,by omega,?_,.inl ⟨rfl,h⟩⟩
  intro i hi;rw[beq_eq_false_iff_ne];intro e;rw[Lib.toList_data,Lib.toList_data]at e;have hxe:x=nmx i:=by rw[←mkB x,e,mkB]
  subst hxe;obtain rfl|rfl|rfl|rfl|rfl|rfl|rfl|rfl|rfl|rfl|rfl|rfl|rfl:i=0∨i=1∨i=2∨i=3∨i=4∨i=5∨i=6∨i=7∨i=8∨i=9∨i=10∨i=11∨i=12:=by omega
  all_goals first|exact absurd hx (by decide)|(revert h;unfold parse_known.f;rw[Lib.toList_data];decide)
 ·refine⟨kk,by omega,?_,.inr (.inr (.inl ⟨h1,h2,rfl,?_⟩))⟩
  ·intro i hi
   obtain rfl|rfl|rfl|rfl:kk=1∨kk=2∨kk=3∨kk=4:=by omega
   all_goals(obtain rfl|rfl|rfl|rfl:i=0∨i=1∨i=2∨i=3:=by omega)
   all_goals first|omega|(rw[Lib.toList_data,Lib.toList_data];decide)
  ·obtain rfl|rfl|rfl|rfl:kk=1∨kk=2∨kk=3∨kk=4:=by omega
   all_goals(rw[Lib.toList_data,Lib.toList_data];decide)
 ·refine⟨kk,by omega,?_,.inr (.inr (.inr ⟨h1,h2,rfl,?_⟩))⟩
  ·intro i hi
   obtain rfl|rfl|rfl:kk=10∨kk=11∨kk=12:=by omega
   all_goals(obtain rfl|rfl|rfl|rfl|rfl|rfl|rfl|rfl|rfl|rfl|rfl|rfl:i=0∨i=1∨i=2∨i=3∨i=4∨i=5∨i=6∨i=7∨i=8∨i=9∨i=10∨i=11:=by omega)
   all_goals first|omega|(rw[Lib.toList_data,Lib.toList_data];decide)
  ·obtain rfl|rfl|rfl:kk=10∨kk=11∨kk=12:=by omega
   all_goals(rw[Lib.toList_data,Lib.toList_data];decide)
 ·exact⟨0,by omega,fun i hi=>absurd hi (by omega),.inr (.inl ⟨rfl,rfl,by rw[Lib.toList_data,Lib.toList_data];decide⟩)⟩
end Go.Proofs.YtjopepfemhckjaaGreatDoor.NW
end
