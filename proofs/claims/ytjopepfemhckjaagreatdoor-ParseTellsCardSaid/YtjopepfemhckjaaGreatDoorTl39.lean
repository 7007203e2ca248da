/-
  Part 39 of the proof of parseTells_holds: texts of this seat, put together.
-/
import Derived.Test.YtjopepfemhckjaaGreatDoorTl38
set_option linter.unusedVariables false
set_option linter.unusedSimpArgs false
set_option maxHeartbeats 16000000
set_option maxRecDepth 100000
section
namespace Go.Proofs.YtjopepfemhckjaaGreatDoor.NW
open Go.Proofs Go.RowKit Go.Shelf Go.Proofs.YtjopepfemhckjaaGreatDoor.PN Go.Proofs.YtjopepfemhckjaaGreatDoorW.PrintWords Go.Proofs.YtjopepfemhckjaaGreatDoor.PParseTells
section
variable {w0:WK} {g:Nat} {L:List S75} {last:S75} {out:List Nd} {dp:Int} {s:PS}
theorem rproduct_b (hK:w0.kp=[]){k:Nat}(HI:Gm w0 g L last 3 90 k):Gm w0 g L last 2 52 k:=by
 intro toks out dp hk htk hsz hlen hd1 hd2 w h;have HK:=zc.mk hK;have H0:=Lib.hid (HI toks out dp hk htk hsz hlen hd1 hd2 w h);have HI:=zc.mk HI;clear h hK;go_enter Tryz.func52,Tryz.ntmps52
 go_wp2_with fail;refine H0.out.mono ?_;rintro e w1 ⟨rfl,s1,o1,HR,HG⟩;have HR:=zc.mk HR;have HG:=zc.mk (LIv.start (n:=2) HG);clear H0;go_wp2_with fail;go_loopg [2] (toks.length+1) (fun kq v2 w'=>∃s' o',zc (RBS w0 g L last o' dp s' w')∧zc (LIv last dp 2 toks out kq s' o'))
 case atStart=>exact⟨s1,o1,HR,HG⟩
 case round=>
  clear HR HG;obtain⟨s',o',HR,HG⟩:=hrel;have H1:=jC (w0:=w0) (g:=g) (L:=L) (last:=last) (out:=o') (dp:=dp) s' 2 ⟨#[42]⟩;have H2:=jC (w0:=w0) (g:=g) (L:=L) (last:=last) (out:=o') (dp:=dp) s' 2 ⟨#[47]⟩;have hcase:(s'.has 2 (fun t=>t.toList==(⟨#[42]⟩:xf).toList)=true∧s'.has 2 (fun t=>t.toList==(⟨#[47]⟩:xf).toList)=false)∨(s'.has 2 (fun t=>t.toList==(⟨#[42]⟩:xf).toList)=false∧s'.has 2 (fun t=>t.toList==(⟨#[47]⟩:xf).toList)=true)∨(s'.has 2 (fun t=>t.toList==(⟨#[42]⟩:xf).toList)=false∧s'.has 2 (fun t=>t.toList==(⟨#[47]⟩:xf).toList)=false):=by
   cases h1:s'.has 2 (fun t=>t.toList==(⟨#[42]⟩:xf).toList)with
   |true=>exact .inl ⟨rfl,has_not h1 (by decide)⟩
   |false=>
    cases h2:s'.has 2 (fun t=>t.toList==(⟨#[47]⟩:xf).toList)with
    |true=>exact .inr (.inl ⟨rfl,rfl⟩)
    |false=>exact .inr (.inr ⟨rfl,rfl⟩)
  rcases hcase with⟨h1,h2⟩|⟨h1,h2⟩|⟨h1,h2⟩
  ·rw[h1]at H1
   rw[h2]at H2;obtain⟨t,rest,g1,g2,g3,g4⟩:=qB h1;clear h1 h2;have ht:=opT_42 g3 g4;have HS:zc (s'.toks<:+toks∧s'.toks.length<toks.length∧o'.length+s'.toks.length≤out.length+toks.length∧s'.toks.length<gk):=by
    rcases HG.out with⟨_,q2,_,_,q5,q6,q7⟩|⟨q1,_⟩
    ·exact⟨q5,q6,q7,q2⟩
    ·exact absurd g2 q1
   go_wp2_with(with_reducible refine H1.go HR ?_;clear HR;intro w1 HR)
   refine H2.go HR ?_;clear HR;intro wq HR;obtain⟨A,c,ov,i,bad,h3,h4⟩:=HR.out;have q1:=h3.cells.2.1;have f1:=h3.frozen 1;obtain⟨k9,rfl,hw,h5⟩:=RBS.tl h3 h4 g2 (by rw[g1];exact fun h=>by cases h)
   obtain⟨K,hK⟩:∃K,k9+1=K:=⟨_,rfl⟩;rw[hK]at h5;have hK2:(↑k9+1:Int)= ↑K:=by omega
   rw[hK2]at hw;have h5':=RBS.nrm (s:=s'.tl) g2 h5;have hH:=Lib.hid (HI.out rest o' dp (by have:=HS.out;rw[g1]at this;simp only[List.length_cons]at this;omega) (fun x hx=>htk x (HS.out.1.subset (by rw[g1];exact List.mem_cons_of_mem _ hx))) (fun x hx=>hsz x (HS.out.1.subset (by rw[g1];exact List.mem_cons_of_mem _ hx))) (by have:=HS.out;rw[g1]at this;simp only[List.length_cons]at this;omega) hd1 (by have:=HS.out;rw[g1]at this;simp only[List.length_cons]at this;omega) _ (by have e:s'.tl.toks=rest:=(by show s'.toks.tail=rest;rw[g1];rfl);rw[e]at h5';exact h5'))
   clear h3 h4 h5 h5' HR;go_wp2_with fail;refine hH.out.mono ?_;rintro e wk ⟨rfl,s2,o2,HR,hG2⟩;clear hH q1 f1;have HR:=zc.mk HR;have HO2:zc (o2.length≤100000):=⟨by have h8:=hG2.len;have:=HS.out;rw[g1]at this;simp only[List.length_cons]at this;omega⟩
   have HN:=zc.mk (LIv.step (n:=2) (.inr rfl) g1 g2 ht HG.out hG2);have hgk:0<gk:=by have:=HS.out;omega
   clear hG2 HG HS g1 g2 g3 g4 ht;obtain⟨A2,c2,ov2,i2,bad2,h6,h7⟩:=HR.out;have HQ:=zc.mk h6;have HSm:=zc.mk h7;clear h6 h7 HR;obtain⟨d0,d1,d2,d3,d4,d5⟩:=HQ.out.cells;have hbytes:((o2.map nd37).length+1)*72≤140737488355328:=by rw[List.length_map];have:=HO2.out;omega
   have hgl:=HQ.out.lt;go_wp2_with(at_builtin;refine Kd.R_append k37 (w0:=w0) (W:=wk) w0.heap.size rfl (.tmp 26) (.tmp 29) 24 37 (.agg #[.int .i64 0,.string ⟨#[]⟩,.string ⟨#[]⟩,.string ⟨#[]⟩,.int .i64 0,.int .i64 0]) 72 rfl Tryz.underlying24 zS rfl (by decide) (by omega) ov2 (o2.map nd37) (nd37 (.op 8)) [.int .i64 8,.string ⟨#[]⟩,.string ⟨#[]⟩,.string ⟨#[]⟩,.int .i64 0,.int .i64 0] (fun k=>k≠g) (fun _=>False) rfl rfl (zE _ _ _ (nd37 (.op 8))) (fun _ hk=>hk.elim) ?aF ?aO ?aB ?aS ?aL ?_)
   case aF=>exact fun k hk=>by omega
   case aO=>exact HQ.out.ou
   case aB=>exact HQ.out.bl
   case aS=>exact HQ.out.bl.size
   case aL=>exact hbytes
   intro v1 w1 hv1 hb1 hg1 ho1;have hl1:(o2.map nd37++[nd37 (.op 8)]).length=o2.length+1:=by simp
   obtain⟨Av,cv,hvv⟩:=Kd.R_slice hv1;rw[hl1]at hvv;subst hvv;have hk1:=(hg1.block g HQ.out.lt (fun hh=>HQ.out.ou.1 _ hh.symm rfl)).trans HQ.out.blk
   have hz1:w1.frozen? ⟨g,2,none⟩=false:=Lib.frozen_of_heap hk1 2;have hc1:w1.cell? ⟨g,2,none⟩=some ov2:=by rw[j6 hk1];rfl
   have HQ6:=zc.mk (HQ.out.newO HK.out hb1 hg1 (out1:=o2++[.op 8]) (by rw[List.map_append];exact hv1))
   clear hk1 hl1 hv1 hb1 hg1 ho1 d0 d1 d2 d3 d4 d5 hbytes hgl;go_wp2_with fail;go_roundg (gk-1)
   case measure=>omega
   case rel=>exact⟨s2,_,⟨A2,c2,_,i2,bad2,HQ6.out,HSm.out⟩,HN⟩
  ·rw[h1]at H1
   rw[h2]at H2;obtain⟨t,rest,g1,g2,g3,g4⟩:=qB h2;clear h1 h2;have ht:=opT_47 g3 g4;have HS:zc (s'.toks<:+toks∧s'.toks.length<toks.length∧o'.length+s'.toks.length≤out.length+toks.length∧s'.toks.length<gk):=by
    rcases HG.out with⟨_,q2,_,_,q5,q6,q7⟩|⟨q1,_⟩
    ·exact⟨q5,q6,q7,q2⟩
    ·exact absurd g2 q1
   go_wp2_with(with_reducible refine H1.go HR ?_;clear HR;intro w1 HR)
   refine H2.go HR ?_;clear HR;intro wp HR;go_wp2_with fail;refine H2.go HR ?_;clear HR;intro wq HR;obtain⟨A,c,ov,i,bad,h3,h4⟩:=HR.out;have q1:=h3.cells.2.1;have f1:=h3.frozen 1;obtain⟨k9,rfl,hw,h5⟩:=RBS.tl h3 h4 g2 (by rw[g1];exact fun h=>by cases h)
   obtain⟨K,hK⟩:∃K,k9+1=K:=⟨_,rfl⟩;rw[hK]at h5;have hK2:(↑k9+1:Int)= ↑K:=by omega
   rw[hK2]at hw;have h5':=RBS.nrm (s:=s'.tl) g2 h5;have hH:=Lib.hid (HI.out rest o' dp (by have:=HS.out;rw[g1]at this;simp only[List.length_cons]at this;omega) (fun x hx=>htk x (HS.out.1.subset (by rw[g1];exact List.mem_cons_of_mem _ hx))) (fun x hx=>hsz x (HS.out.1.subset (by rw[g1];exact List.mem_cons_of_mem _ hx))) (by have:=HS.out;rw[g1]at this;simp only[List.length_cons]at this;omega) hd1 (by have:=HS.out;rw[g1]at this;simp only[List.length_cons]at this;omega) _ (by have e:s'.tl.toks=rest:=(by show s'.toks.tail=rest;rw[g1];rfl);rw[e]at h5';exact h5'))
   clear h3 h4 h5 h5' HR;go_wp2_with fail;refine hH.out.mono ?_;rintro e wk ⟨rfl,s2,o2,HR,hG2⟩;clear hH q1 f1;have HR:=zc.mk HR;have HO2:zc (o2.length≤100000):=⟨by have h8:=hG2.len;have:=HS.out;rw[g1]at this;simp only[List.length_cons]at this;omega⟩
   have HN:=zc.mk (LIv.step (n:=2) (.inr rfl) g1 g2 ht HG.out hG2);have hgk:0<gk:=by have:=HS.out;omega
   clear hG2 HG HS g1 g2 g3 g4 ht;obtain⟨A2,c2,ov2,i2,bad2,h6,h7⟩:=HR.out;have HQ:=zc.mk h6;have HSm:=zc.mk h7;clear h6 h7 HR;obtain⟨d0,d1,d2,d3,d4,d5⟩:=HQ.out.cells;have hbytes:((o2.map nd37).length+1)*72≤140737488355328:=by rw[List.length_map];have:=HO2.out;omega
   have hgl:=HQ.out.lt;go_wp2_with(at_builtin;refine Kd.R_append k37 (w0:=w0) (W:=wk) w0.heap.size rfl (.tmp 26) (.tmp 29) 24 37 (.agg #[.int .i64 0,.string ⟨#[]⟩,.string ⟨#[]⟩,.string ⟨#[]⟩,.int .i64 0,.int .i64 0]) 72 rfl Tryz.underlying24 zS rfl (by decide) (by omega) ov2 (o2.map nd37) (nd37 (.op 9)) [.int .i64 9,.string ⟨#[]⟩,.string ⟨#[]⟩,.string ⟨#[]⟩,.int .i64 0,.int .i64 0] (fun k=>k≠g) (fun _=>False) rfl rfl (zE _ _ _ (nd37 (.op 9))) (fun _ hk=>hk.elim) ?aF ?aO ?aB ?aS ?aL ?_)
   case aF=>exact fun k hk=>by omega
   case aO=>exact HQ.out.ou
   case aB=>exact HQ.out.bl
   case aS=>exact HQ.out.bl.size
   case aL=>exact hbytes
   intro v1 w1 hv1 hb1 hg1 ho1;have hl1:(o2.map nd37++[nd37 (.op 9)]).length=o2.length+1:=by simp
   obtain⟨Av,cv,hvv⟩:=Kd.R_slice hv1;rw[hl1]at hvv;subst hvv;have hk1:=(hg1.block g HQ.out.lt (fun hh=>HQ.out.ou.1 _ hh.symm rfl)).trans HQ.out.blk
   have hz1:w1.frozen? ⟨g,2,none⟩=false:=Lib.frozen_of_heap hk1 2;have hc1:w1.cell? ⟨g,2,none⟩=some ov2:=by rw[j6 hk1];rfl
   have HQ6:=zc.mk (HQ.out.newO HK.out hb1 hg1 (out1:=o2++[.op 9]) (by rw[List.map_append];exact hv1))
   clear hk1 hl1 hv1 hb1 hg1 ho1 d0 d1 d2 d3 d4 d5 hbytes hgl;go_wp2_with fail;go_roundg (gk-1)
   case measure=>omega
   case rel=>exact⟨s2,_,⟨A2,c2,_,i2,bad2,HQ6.out,HSm.out⟩,HN⟩
  ·rw[h1]at H1
   rw[h2]at H2;have HE:=zc.mk (LIv.end_ HG.out (fun he t rest op e ht=>by
    obtain⟨q1,q2⟩:=opT_2 ht;rcases q2 with q2|q2
    ·exact has_no h1 he e q1 q2
    ·exact has_no h2 he e q1 q2))
   clear h1 h2 HG;go_wp2_with(first|(with_reducible refine H1.go HR ?_;clear HR;intro w1 HR)|(with_reducible refine H2.go HR ?_;clear HR;intro w1 HR))
   refine bodyPost_end (v:= .tuple #[]) (by simp[results,Tryz.f52,go_sem]) rfl ?_
   exact⟨rfl,s',o',HR.out,HE.out⟩
theorem rproduct_e (HI:Ge w0 g L last 90):Ge w0 g L last 52:=by
 intro out dp s he w h;have H0:=Lib.hid (HI out dp s he w h);have H1:=jC (w0:=w0) (g:=g) (L:=L) (last:=last) (out:=out) (dp:=dp) s 2 ⟨#[42]⟩;have H2:=jC (w0:=w0) (g:=g) (L:=L) (last:=last) (out:=out) (dp:=dp) s 2 ⟨#[47]⟩;rw[jW he]at H1 H2;clear h he HI;go_enter Tryz.func52,Tryz.ntmps52
 go_wp2_with fail;refine H0.out.mono ?_;rintro e w1 ⟨rfl,HR⟩;have HR:=zc.mk HR;clear H0;go_wp2_with fail;go_loopg [2] 1 (fun kq v2 w'=>zc (RBS w0 g L last out dp s w'))
 case atStart=>exact HR
 case round=>
  clear HR;have HR:=hrel;clear hrel;go_wp2_with(first|(with_reducible refine H1.go HR ?_;clear HR;intro w1 HR)|(with_reducible refine H2.go HR ?_;clear HR;intro w1 HR))
  refine bodyPost_end (v:= .tuple #[]) (by simp[results,Tryz.f52,go_sem]) rfl ?_
  exact⟨rfl,HR.out⟩
theorem rsum_b (hK:w0.kp=[]){k:Nat}(HI:Gm w0 g L last 2 52 k):Gm w0 g L last 1 22 k:=by
 intro toks out dp hk htk hsz hlen hd1 hd2 w h;have HK:=zc.mk hK;have H0:=Lib.hid (HI toks out dp hk htk hsz hlen hd1 hd2 w h);have HI:=zc.mk HI;clear h hK;go_enter Tryz.func22,Tryz.ntmps22
 go_wp2_with fail;refine H0.out.mono ?_;rintro e w1 ⟨rfl,s1,o1,HR,HG⟩;have HR:=zc.mk HR;have HG:=zc.mk (LIv.start (n:=1) HG);clear H0;go_wp2_with fail;go_loopg [2] (toks.length+1) (fun kq v2 w'=>∃s' o',zc (RBS w0 g L last o' dp s' w')∧zc (LIv last dp 1 toks out kq s' o'))
 case atStart=>exact⟨s1,o1,HR,HG⟩
 case round=>
  clear HR HG;obtain⟨s',o',HR,HG⟩:=hrel;have H1:=jC (w0:=w0) (g:=g) (L:=L) (last:=last) (out:=o') (dp:=dp) s' 2 ⟨#[43]⟩;have H2:=jC (w0:=w0) (g:=g) (L:=L) (last:=last) (out:=o') (dp:=dp) s' 2 ⟨#[45]⟩;have hcase:(s'.has 2 (fun t=>t.toList==(⟨#[43]⟩:xf).toList)=true∧s'.has 2 (fun t=>t.toList==(⟨#[45]⟩:xf).toList)=false)∨(s'.has 2 (fun t=>t.toList==(⟨#[43]⟩:xf).toList)=false∧s'.has 2 (fun t=>t.toList==(⟨#[45]⟩:xf).toList)=true)∨(s'.has 2 (fun t=>t.toList==(⟨#[43]⟩:xf).toList)=false∧s'.has 2 (fun t=>t.toList==(⟨#[45]⟩:xf).toList)=false):=by
   cases h1:s'.has 2 (fun t=>t.toList==(⟨#[43]⟩:xf).toList)with
   |true=>exact .inl ⟨rfl,has_not h1 (by decide)⟩
   |false=>
    cases h2:s'.has 2 (fun t=>t.toList==(⟨#[45]⟩:xf).toList)with
    |true=>exact .inr (.inl ⟨rfl,rfl⟩)
    |false=>exact .inr (.inr ⟨rfl,rfl⟩)
  rcases hcase with⟨h1,h2⟩|⟨h1,h2⟩|⟨h1,h2⟩
  ·rw[h1]at H1
   rw[h2]at H2;obtain⟨t,rest,g1,g2,g3,g4⟩:=qB h1;clear h1 h2;have ht:=opT_43 g3 g4;have HS:zc (s'.toks<:+toks∧s'.toks.length<toks.length∧o'.length+s'.toks.length≤out.length+toks.length∧s'.toks.length<gk):=by
    rcases HG.out with⟨_,q2,_,_,q5,q6,q7⟩|⟨q1,_⟩
    ·exact⟨q5,q6,q7,q2⟩
    ·exact absurd g2 q1
   go_wp2_with(with_reducible refine H1.go HR ?_;clear HR;intro w1 HR)
   refine H2.go HR ?_;clear HR;intro wq HR;obtain⟨A,c,ov,i,bad,h3,h4⟩:=HR.out;have q1:=h3.cells.2.1;have f1:=h3.frozen 1;obtain⟨k9,rfl,hw,h5⟩:=RBS.tl h3 h4 g2 (by rw[g1];exact fun h=>by cases h)
   obtain⟨K,hK⟩:∃K,k9+1=K:=⟨_,rfl⟩;rw[hK]at h5;have hK2:(↑k9+1:Int)= ↑K:=by omega
   rw[hK2]at hw;have h5':=RBS.nrm (s:=s'.tl) g2 h5;have hH:=Lib.hid (HI.out rest o' dp (by have:=HS.out;rw[g1]at this;simp only[List.length_cons]at this;omega) (fun x hx=>htk x (HS.out.1.subset (by rw[g1];exact List.mem_cons_of_mem _ hx))) (fun x hx=>hsz x (HS.out.1.subset (by rw[g1];exact List.mem_cons_of_mem _ hx))) (by have:=HS.out;rw[g1]at this;simp only[List.length_cons]at this;omega) hd1 (by have:=HS.out;rw[g1]at this;simp only[List.length_cons]at this;omega) _ (by have e:s'.tl.toks=rest:=(by show s'.toks.tail=rest;rw[g1];rfl);rw[e]at h5';exact h5'))
   clear h3 h4 h5 h5' HR;go_wp2_with fail;refine hH.out.mono ?_;rintro e wk ⟨rfl,s2,o2,HR,hG2⟩;clear hH q1 f1;have HR:=zc.mk HR;have HO2:zc (o2.length≤100000):=⟨by have h8:=hG2.len;have:=HS.out;rw[g1]at this;simp only[List.length_cons]at this;omega⟩
   have HN:=zc.mk (LIv.step (n:=1) (.inl rfl) g1 g2 ht HG.out hG2);have hgk:0<gk:=by have:=HS.out;omega
   clear hG2 HG HS g1 g2 g3 g4 ht;obtain⟨A2,c2,ov2,i2,bad2,h6,h7⟩:=HR.out;have HQ:=zc.mk h6;have HSm:=zc.mk h7;clear h6 h7 HR;obtain⟨d0,d1,d2,d3,d4,d5⟩:=HQ.out.cells;have hbytes:((o2.map nd37).length+1)*72≤140737488355328:=by rw[List.length_map];have:=HO2.out;omega
   have hgl:=HQ.out.lt;go_wp2_with(at_builtin;refine Kd.R_append k37 (w0:=w0) (W:=wk) w0.heap.size rfl (.tmp 26) (.tmp 29) 24 37 (.agg #[.int .i64 0,.string ⟨#[]⟩,.string ⟨#[]⟩,.string ⟨#[]⟩,.int .i64 0,.int .i64 0]) 72 rfl Tryz.underlying24 zS rfl (by decide) (by omega) ov2 (o2.map nd37) (nd37 (.op 6)) [.int .i64 6,.string ⟨#[]⟩,.string ⟨#[]⟩,.string ⟨#[]⟩,.int .i64 0,.int .i64 0] (fun k=>k≠g) (fun _=>False) rfl rfl (zE _ _ _ (nd37 (.op 6))) (fun _ hk=>hk.elim) ?aF ?aO ?aB ?aS ?aL ?_)
   case aF=>exact fun k hk=>by omega
   case aO=>exact HQ.out.ou
   case aB=>exact HQ.out.bl
   case aS=>exact HQ.out.bl.size
   case aL=>exact hbytes
   intro v1 w1 hv1 hb1 hg1 ho1;have hl1:(o2.map nd37++[nd37 (.op 6)]).length=o2.length+1:=by simp
   obtain⟨Av,cv,hvv⟩:=Kd.R_slice hv1;rw[hl1]at hvv;subst hvv;have hk1:=(hg1.block g HQ.out.lt (fun hh=>HQ.out.ou.1 _ hh.symm rfl)).trans HQ.out.blk
   have hz1:w1.frozen? ⟨g,2,none⟩=false:=Lib.frozen_of_heap hk1 2;have hc1:w1.cell? ⟨g,2,none⟩=some ov2:=by rw[j6 hk1];rfl
   have HQ6:=zc.mk (HQ.out.newO HK.out hb1 hg1 (out1:=o2++[.op 6]) (by rw[List.map_append];exact hv1))
   clear hk1 hl1 hv1 hb1 hg1 ho1 d0 d1 d2 d3 d4 d5 hbytes hgl;go_wp2_with fail;go_roundg (gk-1)
   case measure=>omega
   case rel=>exact⟨s2,_,⟨A2,c2,_,i2,bad2,HQ6.out,HSm.out⟩,HN⟩
  ·rw[h1]at H1
   rw[h2]at H2;obtain⟨t,rest,g1,g2,g3,g4⟩:=qB h2;clear h1 h2;have ht:=opT_45 g3 g4;have HS:zc (s'.toks<:+toks∧s'.toks.length<toks.length∧o'.length+s'.toks.length≤out.length+toks.length∧s'.toks.length<gk):=by
    rcases HG.out with⟨_,q2,_,_,q5,q6,q7⟩|⟨q1,_⟩
    ·exact⟨q5,q6,q7,q2⟩
    ·exact absurd g2 q1
   go_wp2_with(with_reducible refine H1.go HR ?_;clear HR;intro w1 HR)
   refine H2.go HR ?_;clear HR;intro wp HR;go_wp2_with fail;refine H2.go HR ?_;clear HR;intro wq HR;obtain⟨A,c,ov,i,bad,h3,h4⟩:=HR.out;have q1:=h3.cells.2.1;have f1:=h3.frozen 1;obtain⟨k9,rfl,hw,h5⟩:=RBS.tl h3 h4 g2 (by rw[g1];exact fun h=>by cases h)
   obtain⟨K,hK⟩:∃K,k9+1=K:=⟨_,rfl⟩;rw[hK]at h5;have hK2:(↑k9+1:Int)= ↑K:=by omega
   rw[hK2]at hw;have h5':=RBS.nrm (s:=s'.tl) g2 h5;have hH:=Lib.hid (HI.out rest o' dp (by have:=HS.out;rw[g1]at this;simp only[List.length_cons]at this;omega) (fun x hx=>htk x (HS.out.1.subset (by rw[g1];exact List.mem_cons_of_mem _ hx))) (fun x hx=>hsz x (HS.out.1.subset (by rw[g1];exact List.mem_cons_of_mem _ hx))) (by have:=HS.out;rw[g1]at this;simp only[List.length_cons]at this;omega) hd1 (by have:=HS.out;rw[g1]at this;simp only[List.length_cons]at this;omega) _ (by have e:s'.tl.toks=rest:=(by show s'.toks.tail=rest;rw[g1];rfl);rw[e]at h5';exact h5'))
   clear h3 h4 h5 h5' HR;go_wp2_with fail;refine hH.out.mono ?_;rintro e wk ⟨rfl,s2,o2,HR,hG2⟩;clear hH q1 f1;have HR:=zc.mk HR;have HO2:zc (o2.length≤100000):=⟨by have h8:=hG2.len;have:=HS.out;rw[g1]at this;simp only[List.length_cons]at this;omega⟩
   have HN:=zc.mk (LIv.step (n:=1) (.inl rfl) g1 g2 ht HG.out hG2);have hgk:0<gk:=by have:=HS.out;omega
   clear hG2 HG HS g1 g2 g3 g4 ht;obtain⟨A2,c2,ov2,i2,bad2,h6,h7⟩:=HR.out;have HQ:=zc.mk h6;have HSm:=zc.mk h7;clear h6 h7 HR;obtain⟨d0,d1,d2,d3,d4,d5⟩:=HQ.out.cells;have hbytes:((o2.map nd37).length+1)*72≤140737488355328:=by rw[List.length_map];have:=HO2.out;omega
   have hgl:=HQ.out.lt;go_wp2_with(at_builtin;refine Kd.R_append k37 (w0:=w0) (W:=wk) w0.heap.size rfl (.tmp 26) (.tmp 29) 24 37 (.agg #[.int .i64 0,.string ⟨#[]⟩,.string ⟨#[]⟩,.string ⟨#[]⟩,.int .i64 0,.int .i64 0]) 72 rfl Tryz.underlying24 zS rfl (by decide) (by omega) ov2 (o2.map nd37) (nd37 (.op 7)) [.int .i64 7,.string ⟨#[]⟩,.string ⟨#[]⟩,.string ⟨#[]⟩,.int .i64 0,.int .i64 0] (fun k=>k≠g) (fun _=>False) rfl rfl (zE _ _ _ (nd37 (.op 7))) (fun _ hk=>hk.elim) ?aF ?aO ?aB ?aS ?aL ?_)
   case aF=>exact fun k hk=>by omega
   case aO=>exact HQ.out.ou
   case aB=>exact HQ.out.bl
   case aS=>exact HQ.out.bl.size
   case aL=>exact hbytes
   intro v1 w1 hv1 hb1 hg1 ho1;have hl1:(o2.map nd37++[nd37 (.op 7)]).length=o2.length+1:=by simp
   obtain⟨Av,cv,hvv⟩:=Kd.R_slice hv1;rw[hl1]at hvv;subst hvv;have hk1:=(hg1.block g HQ.out.lt (fun hh=>HQ.out.ou.1 _ hh.symm rfl)).trans HQ.out.blk
   have hz1:w1.frozen? ⟨g,2,none⟩=false:=Lib.frozen_of_heap hk1 2;have hc1:w1.cell? ⟨g,2,none⟩=some ov2:=by rw[j6 hk1];rfl
   have HQ6:=zc.mk (HQ.out.newO HK.out hb1 hg1 (out1:=o2++[.op 7]) (by rw[List.map_append];exact hv1))
   clear hk1 hl1 hv1 hb1 hg1 ho1 d0 d1 d2 d3 d4 d5 hbytes hgl;go_wp2_with fail;go_roundg (gk-1)
   case measure=>omega
   case rel=>exact⟨s2,_,⟨A2,c2,_,i2,bad2,HQ6.out,HSm.out⟩,HN⟩
  ·rw[h1]at H1
   rw[h2]at H2;have HE:=zc.mk (LIv.end_ HG.out (fun he t rest op e ht=>by
    obtain⟨q1,q2⟩:=opT_1 ht;rcases q2 with q2|q2
    ·exact has_no h1 he e q1 q2
    ·exact has_no h2 he e q1 q2))
   clear h1 h2 HG;go_wp2_with(first|(with_reducible refine H1.go HR ?_;clear HR;intro w1 HR)|(with_reducible refine H2.go HR ?_;clear HR;intro w1 HR))
   refine bodyPost_end (v:= .tuple #[]) (by simp[results,Tryz.f22,go_sem]) rfl ?_
   exact⟨rfl,s',o',HR.out,HE.out⟩
theorem rsum_e (HI:Ge w0 g L last 52):Ge w0 g L last 22:=by
 intro out dp s he w h;have H0:=Lib.hid (HI out dp s he w h);have H1:=jC (w0:=w0) (g:=g) (L:=L) (last:=last) (out:=out) (dp:=dp) s 2 ⟨#[43]⟩;have H2:=jC (w0:=w0) (g:=g) (L:=L) (last:=last) (out:=out) (dp:=dp) s 2 ⟨#[45]⟩;rw[jW he]at H1 H2;clear h he HI;go_enter Tryz.func22,Tryz.ntmps22
 go_wp2_with fail;refine H0.out.mono ?_;rintro e w1 ⟨rfl,HR⟩;have HR:=zc.mk HR;clear H0;go_wp2_with fail;go_loopg [2] 1 (fun kq v2 w'=>zc (RBS w0 g L last out dp s w'))
 case atStart=>exact HR
 case round=>
  clear HR;have HR:=hrel;clear hrel;go_wp2_with(first|(with_reducible refine H1.go HR ?_;clear HR;intro w1 HR)|(with_reducible refine H2.go HR ?_;clear HR;intro w1 HR))
  refine bodyPost_end (v:= .tuple #[]) (by simp[results,Tryz.f22,go_sem]) rfl ?_
  exact⟨rfl,HR.out⟩
end
end Go.Proofs.YtjopepfemhckjaaGreatDoor.NW
end
section
namespace Go.Proofs.YtjopepfemhckjaaGreatDoor.NW
open Go.Proofs Go.RowKit Go.Shelf Go.Proofs.YtjopepfemhckjaaGreatDoor.PN Go.Proofs.YtjopepfemhckjaaGreatDoorW.PrintWords Go.Proofs.YtjopepfemhckjaaGreatDoor.PParseTells
def Ga (w0:WK)(g:Nat)(L:List S75)(last:S75)(f:FuncId)(k:Nat):Prop:=∀(toks:List S75) (out:List Nd) (dp:Int),toks.length<k→(∀t∈toks,TokOK t)→SzOK (ps toks)→out.length+toks.length≤100000→0≤dp→dp+toks.length≤100000→(ps toks).has 2 (fun t=>t.toList==(⟨#[45]⟩:xf).toList)=false→∀w,RBS w0 g L last out dp (ps toks) w→Calls Tryz.prog f #[.pointer (some ⟨g,0,none⟩)] w fun e w'=>e= .returned (.tuple #[])∧∃s' out',RBS w0 g L last out' dp s' w'∧Gst last dp 4 toks out s' out'
theorem Gst.neg {last:S75}{dp:Int}{toks t1:List S75}{out:List Nd}{s:PS}{o:List Nd}{j:Nat}(hN:Ng last dp toks out j t1)(hs:t1<:+toks)(hl:t1.length+j=toks.length)(hG:Gst last dp 4 t1 out s o):Gst last dp 3 toks out s (o++List.replicate j (.op 5)):=by
 rcases hG with⟨h1,h2,h3,h4,h5,h6⟩|⟨h1,h2,h3⟩
 ·refine .inl ⟨h1,hN.ok h2,?_,h4.trans hs,by omega,by rw[List.length_append,List.length_replicate];omega⟩
  intro t rest op rk e ht;have:=op_le ht;omega
 ·exact .inr ⟨h1,hN.er h2,by rw[List.length_append,List.length_replicate];omega⟩
section
variable {w0:WK} {g:Nat} {L:List S75} {last:S75} {out:List Nd} {dp:Int} {s:PS}
theorem rminus_b (hK:w0.kp=[]){k:Nat}(HI:Ga w0 g L last 123 k):Gm w0 g L last 3 90 k:=by
 intro toks out dp hk htk hsz hlen hd1 hd2 w h;have HK:=zc.mk hK;have HI:=zc.mk HI;have HR:=zc.mk h;clear h hK;go_enter Tryz.func90,Tryz.ntmps90
 go_wp2_with fail;go_loopg [2] (toks.length+1) (fun kq v2 w'=>∃(j:Nat) (t1:List S75),v2= .int .i64 j∧zc (RBS w0 g L last out dp (ps t1) w')∧zc (Ng last dp toks out j t1∧t1<:+toks)∧t1.length+j=toks.length∧t1.length<kq)
 case atStart=>exact⟨0,toks,rfl,HR,⟨Ng.zero _ _,List.suffix_refl _⟩,by omega,by omega⟩
 case round=>
  clear HR;obtain⟨j,t1,rfl,HR,HN,hj,hq⟩:=hrel;have H1:=jC (w0:=w0) (g:=g) (L:=L) (last:=last) (out:=out) (dp:=dp) (ps t1) 2 ⟨#[45]⟩;cases hh:(ps t1).has 2 (fun t=>t.toList==(⟨#[45]⟩:xf).toList)with
  |true=>
   rw[hh]at H1;obtain⟨t,rest,g1,g2,g3,g4⟩:=qB hh;have g1:t1=t::rest:=g1;subst g1;have HN2:zc (Ng last dp toks out (j+1) rest∧rest<:+toks):=⟨HN.out.1.step g3 (by rw[Lib.toList_data]at g4;rw[←mkB t.f1,g4]),(List.suffix_cons _ _).trans HN.out.2⟩
   rw[List.length_cons]at hj hq;clear hh HN g3 g4;have hjw:IntKind.i64.wrap ((j:Int)+1)=(j:Int)+1:=by simp[j9];omega
   go_wp2_with fail;refine H1.go HR ?_;clear HR;intro wq HR;obtain⟨A,c,ov,i,bad,h3,h4⟩:=HR.out;have q1:=h3.cells.2.1;have f1:=h3.frozen 1;obtain⟨k9,rfl,hw,h5⟩:=RBS.tl h3 h4 g2 (fun h=>by cases h)
   obtain⟨K,hK⟩:∃K,k9+1=K:=⟨_,rfl⟩;rw[hK]at h5;have hK2:(↑k9+1:Int)= ↑K:=by omega
   rw[hK2]at hw;have HR:=zc.mk h5;clear h3 h4 h5;go_wp2_with fail;go_roundg (gk-1)
   case measure=>omega
   case rel=>exact⟨j+1,rest,by go_num,HR,HN2,by omega,by omega⟩
  |false=>
   rw[hh]at H1;have HA:=HI.out t1 out dp (by omega) (fun x hx=>htk x (HN.out.2.subset hx)) (fun x hx=>hsz x (HN.out.2.subset hx)) (by omega) hd1 (by omega) hh
   clear hh;go_wp2_with fail;refine H1.go HR ?_;clear HR;intro wq HR;go_wp2_with fail;refine(HA wq HR.out).mono ?_;rintro e w1 ⟨rfl,s1,o1,HR1,hG⟩;have HL:zc (o1.length+j≤100000):=⟨by have:=hG.len;omega⟩
   have HG:=zc.mk (hG.neg HN.out.1 HN.out.2 hj);have HR1:=zc.mk HR1;clear hG HN HA HR;go_wp2_with fail;go_loopg [3] (j+1) (fun kq v3 w'=>∃i:Nat,v3= .int .i64 i∧i+kq=j+1∧i≤j∧zc (RBS w0 g L last (o1++List.replicate i (.op 5)) dp s1 w'))
   case atStart=>exact⟨0,rfl,by omega,by omega,by rw[List.replicate_zero,List.append_nil];exact HR1⟩
   case round=>
    clear HR1;obtain⟨i,rfl,hi,hi2,HR⟩:=hrel;by_cases hij:i=j
    ·subst hij
     go_wp2_with fail;refine bodyPost_end (v:= .tuple #[]) (by simp[results,Tryz.f90,go_sem]) rfl ?_
     exact⟨rfl,s1,_,HR.out,HG.out⟩
    ·have hlt:(i:Int)<(j:Int):=by omega
     have HO2:zc ((o1++List.replicate i (Nd.op 5)).length≤100000):=⟨by rw[List.length_append,List.length_replicate];have:=HL.out;omega⟩
     have HX:zc (o1++List.replicate i (Nd.op 5)++[Nd.op 5]=o1++List.replicate (i+1) (Nd.op 5)):=⟨by rw[List.append_assoc,List.replicate_succ']⟩
     obtain⟨o2,ho2⟩:∃o2,o1++List.replicate i (Nd.op 5)=o2:=⟨_,rfl⟩;rw[ho2]at HR HO2 HX;clear ho2 HG;obtain⟨A2,c2,ov2,i2,bad2,h6,h7⟩:=HR.out;have HQ:=zc.mk h6;have HSm:=zc.mk h7;clear h6 h7 HR;obtain⟨d0,d1,d2,d3,d4,d5⟩:=HQ.out.cells;have hbytes:((o2.map nd37).length+1)*72≤140737488355328:=by rw[List.length_map];have:=HO2.out;omega
     have hgl:=HQ.out.lt;go_wp2_with(at_builtin;refine Kd.R_append k37 (w0:=w0) w0.heap.size rfl (.tmp 26) (.tmp 28) 24 37 (.agg #[.int .i64 0,.string ⟨#[]⟩,.string ⟨#[]⟩,.string ⟨#[]⟩,.int .i64 0,.int .i64 0]) 72 rfl Tryz.underlying24 zS rfl (by decide) (by omega) ov2 (o2.map nd37) (nd37 (.op 5)) [.int .i64 5,.string ⟨#[]⟩,.string ⟨#[]⟩,.string ⟨#[]⟩,.int .i64 0,.int .i64 0] (fun k=>k≠g) (fun _=>False) rfl rfl (zE _ _ _ (nd37 (.op 5))) (fun _ hk=>hk.elim) ?aF ?aO ?aB ?aS ?aL ?_)
     case aF=>exact fun k hk=>by omega
     case aO=>exact HQ.out.ou
     case aB=>exact HQ.out.bl
     case aS=>exact HQ.out.bl.size
     case aL=>exact hbytes
     intro v1 w1 hv1 hb1 hg1 ho1;have hl1:(o2.map nd37++[nd37 (.op 5)]).length=o2.length+1:=by simp
     obtain⟨Av,cv,hvv⟩:=Kd.R_slice hv1;rw[hl1]at hvv;subst hvv;have hk1:=(hg1.block g HQ.out.lt (fun hh=>HQ.out.ou.1 _ hh.symm rfl)).trans HQ.out.blk
     have hz1:w1.frozen? ⟨g,2,none⟩=false:=Lib.frozen_of_heap hk1 2;have hc1:w1.cell? ⟨g,2,none⟩=some ov2:=by rw[j6 hk1];rfl
     have HQ6:=zc.mk (HQ.out.newO HK.out hb1 hg1 (out1:=o2++[.op 5]) (by rw[List.map_append];exact hv1))
     clear hk1 hl1 hv1 hb1 hg1 ho1 d0 d1 d2 d3 d4 d5 hbytes hgl;go_wp2_with fail;go_roundg (gk-1)
     case measure=>omega
     case rel=>exact⟨i+1,by go_num,by omega,by omega,by rw[←HX.out];exact⟨A2,c2,_,i2,bad2,HQ6.out,HSm.out⟩⟩
theorem rminus_e (HI:Ge w0 g L last 123):Ge w0 g L last 90:=by
 intro out dp s he w h;have H0:=HI out dp s he;have H1:=jC (w0:=w0) (g:=g) (L:=L) (last:=last) (out:=out) (dp:=dp) s 2 ⟨#[45]⟩;rw[jW he]at H1;have HR:=zc.mk h;clear h he HI;go_enter Tryz.func90,Tryz.ntmps90
 go_wp2_with fail;go_loopg [2] 1 (fun kq v2 w'=>v2= .int .i64 0∧zc (RBS w0 g L last out dp s w'))
 case atStart=>exact⟨rfl,HR⟩
 case round=>
  clear HR;obtain⟨rfl,HR⟩:=hrel;go_wp2_with fail;refine H1.go HR ?_;clear HR;intro w1 HR;go_wp2_with fail;refine(H0 _ HR.out).mono ?_;rintro e w2 ⟨rfl,h2⟩;have HR2:=zc.mk h2;clear h2 HR;go_wp2_with fail;go_loopg [3] 1 (fun kq v3 w'=>v3= .int .i64 0∧zc (RBS w0 g L last out dp s w'))
  case atStart=>exact⟨rfl,HR2⟩
  case round=>
   clear HR2;obtain⟨rfl,HR⟩:=hrel;go_wp2_with fail;refine bodyPost_end (v:= .tuple #[]) (by simp[results,Tryz.f90,go_sem]) rfl ?_
   exact⟨rfl,HR.out⟩
theorem ratom_e:Ge w0 g L last 123:=by
 intro out dp s he w h;have H1:=jC (w0:=w0) (g:=g) (L:=L) (last:=last) (out:=out) (dp:=dp) s 2 ⟨#[40]⟩;have H2:=qX (w0:=w0) (g:=g) (L:=L) (last:=last) (out:=out) (dp:=dp) s 0;unfold PS.take at H2;rw[jW he,if_neg (by decide)]at H2
 have H3:=qO (w0:=w0) (g:=g) (L:=L) (last:=last) (out:=out) (dp:=dp) s (.inl (jW he _ _));rw[show s.fail 110 last=s by unfold PS.fail;rw[if_neg he]]at H3
 rw[jW he]at H1;have HR:=zc.mk h;clear h he;go_enter Tryz.func123,Tryz.ntmps123
 go_wp2_with(first|(with_reducible refine H1.go HR ?_;clear HR;intro w1 HR)|(with_reducible refine H2.go HR ?_;clear HR;intro w1 HR)|(with_reducible refine H3.go HR ?_;clear HR;intro w1 HR))
 refine bodyPost_ret (v:= .tuple #[]) (by simp[results,Tryz.f123,go_sem]) rfl ?_
 exact⟨rfl,HR.out⟩
theorem rsum_er:Ge w0 g L last 22:=rsum_e (rproduct_e (rminus_e ratom_e))
end
end Go.Proofs.YtjopepfemhckjaaGreatDoor.NW
end
section
namespace Go.Proofs.YtjopepfemhckjaaGreatDoor.NW
open Go.Proofs Go.RowKit Go.Shelf Go.Proofs.YtjopepfemhckjaaGreatDoor.PN Go.Proofs.YtjopepfemhckjaaGreatDoorW.PrintWords Go.Proofs.YtjopepfemhckjaaGreatDoor.PParseTells
def LC (last:S75)(dp:Int)(t:S75)(rest:List S75)(O0:List Nd)(kk A i:Nat)(s:PS)(o:List Nd):Prop:=
 (s.e=0∧s.toks<:+rest∧o.length+s.toks.length≤O0.length+rest.length∧((i=0∧Opn last dp (t::rest) O0 ⟨kk,0,A⟩ s.toks o)∨(1≤i∧NoOp 1 s.toks∧∃tz oz,Opn last dp (t::rest) O0 ⟨kk,0,(A:Int)-((i:Int)-1)⟩ tz oz∧Rch last (dp+1) 1 tz oz s.toks o)))∨(s.e≠0∧Rer last dp 4 (t::rest) O0 s.e s.p0 s.p1∧o.length≤O0.length+rest.length)
section
variable {last:S75} {dp:Int} {t:S75} {rest:List S75} {O0:List Nd} {kk A i:Nat} {s:PS} {o:List Nd}
theorem LC.len (h:LC last dp t rest O0 kk A i s o):o.length≤O0.length+rest.length:=by
 rcases h with⟨_,_,h,_⟩|⟨_,_,h⟩<;>omega
theorem LC.start (hk:t.f0=0)(ht:t.f1=nmF kk)(hkk:10≤kk∧kk≤12)(hA:nmA kk=A):LC last dp t rest O0 kk A 0 ((ps rest).push dp last) O0:=by
 have hs:=sfx_push (s:=ps rest) (last:=last) dp;by_cases he:((ps rest).push dp last).e=0
 ·refine .inl ⟨he,hs,by have:=hs.length_le;have e:(ps rest).toks.length=rest.length:=rfl;omega,.inl ⟨rfl,?_⟩⟩
  intro r R ⟨k,hR⟩;rw[←hA]at hR;exact⟨k+1,.oFun k t rest r O0 dp R kk hk ht hkk (fun _=>hR) (fun hne=>absurd he hne)⟩
 ·exact .inr ⟨he,fun r hr=>⟨1,.oFun 0 t rest r O0 dp _ kk hk ht hkk (fun h0=>absurd h0 he) (fun _=>rfl)⟩,by omega⟩
theorem LC.sum0 (h:LC last dp t rest O0 kk A 0 s o)(he:s.e=0){s2:PS}{o2:List Nd}(hG:Gst last (dp+1) 1 s.toks o s2 o2):LC last dp t rest O0 kk A 1 s2 o2:=by
 rcases h with⟨h1,h2,h3,h4⟩|⟨h1,_⟩
 ·rcases h4 with⟨_,h4⟩|⟨h4,_⟩
  ·rcases hG with⟨g1,g2,g3,g4,g5,g6⟩|⟨g1,g2,g3⟩
   ·refine .inl ⟨g1,g4.trans h2,by omega,.inr ⟨by omega,g3,s.toks,o,?_,g2⟩⟩
    rw[show(A:Int)-(((1:Nat):Int)-1)=(A:Int) by omega]
    exact h4
   ·exact .inr ⟨g1,h4.er rfl g2,by omega⟩
  ·omega
 ·exact absurd he h1
theorem qG {x:ByteArray}(h:s.has 2 (fun t=>t.toList==x.toList)=false):s.must x last=s.fail 110 last:=by
 unfold PS.must;rw[if_neg (by rw[h];decide)]
theorem must_tl {x:ByteArray}(h:s.has 2 (fun t=>t.toList==x.toList)=true):s.must x last=s.tl:=by
 unfold PS.must;rw[if_pos h]
theorem has_ps (he:s.e=0)(k:Int)(p:ByteArray→Bool):(ps s.toks).has k p=s.has k p:=by
 unfold PS.has;rw[he];rfl
theorem no_sign {c:UInt8}{toks:List S75}(htk:∀t∈toks,TokOK t)(hh:(ps toks).has 2 (fun t=>t.toList==(⟨#[c]⟩:ByteArray).toList)=false)(hc:nmB c=false)(hc2:¬(48≤c.toNat∧c.toNat≤57)){t:S75}{r:List S75}(e:toks=t::r):t.f1.toList≠[c]:=by
 intro h;rcases htk t (by rw[e];exact List.mem_cons_self ..)with⟨_,hn⟩|⟨_,hn⟩|⟨hk,_⟩
 ·have h5:=hn.hall
  rw[Lib.toList_data]at h;rw[h]at h5;simp[hc]at h5
 ·obtain⟨_,a,ha,hna,h7⟩:=hn
  rw[Lib.toList_data]at h;rw[h]at h7;cases a with
  |nil=>exact hna rfl
  |cons a0 a1=>
   have h8:a0=c:=by
    rcases h7 with h7|⟨_,_,_,h7⟩
    ·injection h7 with h8 _;exact h8.symm
    ·injection h7 with h8 _;exact h8.symm
   have:=ha a0 (List.mem_cons_self ..);subst h8;exact hc2 this
 ·exact has_no hh rfl e hk h
theorem LC.comma (htk:∀t∈rest,TokOK t)(h:LC last dp t rest O0 kk A i s o)(hi:1≤i)(hiA:i<A)(he:s.e=0){s1:PS}(hs1:s.must ⟨#[44]⟩ last=s1):(s1.e=0∧s1.toks<:+rest∧o.length+s1.toks.length≤O0.length+rest.length∧∀s2 o2,Gst last (dp+1) 1 s1.toks o s2 o2→LC last dp t rest O0 kk A (i+1) s2 o2)∨(s1.e≠0∧LC last dp t rest O0 kk A (i+1) s1 o):=by
 subst hs1;rcases h with⟨h1,h2,h3,h4⟩|⟨h1,_⟩
 ·rcases h4 with⟨h4,_⟩|⟨_,h5,tz,oz,h6,h7⟩
  ·omega
  ·cases hh:s.has 2 (fun t=>t.toList==(⟨#[44]⟩:xf).toList)with
   |true=>
    rw[must_tl hh];obtain⟨tk,r,g1,g2,g3,g4⟩:=qB hh;have hr:s.tl.toks=r:=by show s.toks.tail=r;rw[g1];rfl
    rw[hr];rw[g1]at h2 h3 h7;rw[List.length_cons]at h3;have ht1:tk.f1=⟨#[44]⟩:=by rw[Lib.toList_data]at g4;rw[←mkB tk.f1,g4]
    have hO:=h6.comma rfl (by show(1:Int)<(A:Int)-((i:Int)-1);omega) h7 g3 ht1
    refine .inl ⟨he,(List.suffix_cons _ _).trans h2,by omega,?_⟩
    rintro s2 o2 (⟨q1,q2,q3,q4,q5,q6⟩|⟨q1,q2,q3⟩)
    ·refine .inl ⟨q1,q4.trans ((List.suffix_cons _ _).trans h2),by omega,.inr ⟨by omega,q3,r,o,?_,q2⟩⟩
     rw[show(A:Int)-(((i+1:Nat):Int)-1)=(A:Int)-((i:Int)-1)-1 by omega]
     exact hO
    ·exact .inr ⟨q1,hO.er rfl q2,by omega⟩
   |false=>
    rw[qG hh];have hf:s.fail 110 last=⟨s.toks,110,(zC s.toks last).1,(zC s.toks last).2⟩:=by unfold PS.fail;rw[if_pos he]
    rw[hf];refine .inr ⟨(show(110:Int)≠0 by decide),.inr ⟨(show(110:Int)≠0 by decide),h6.bad rfl h7 h5 ?_,by omega⟩⟩
    intro tk r e;rw[←has_ps h1]at hh;have h8:=no_sign (fun t ht=>htk t (h2.subset ht)) hh (by decide) (by decide) e
    by_cases h9:tk.f1.toList=[41]
    ·exact .inr (.inl ⟨h9,by show(1:Int)<(A:Int)-((i:Int)-1);omega⟩)
    ·exact .inr (.inr ⟨h8,h9⟩)
 ·exact absurd he h1
theorem LC.shut (htk:∀t∈rest,TokOK t)(h:LC last dp t rest O0 kk A i s o)(hi:s.e=0→i=A)(hA:1≤A){s1:PS}(hs1:s.must ⟨#[41]⟩ last=s1):Gst last dp 4 (t::rest) O0 s1 (o++[.op kk]):=by
 subst hs1;have hn4:∀toks,NoOp 4 toks:=fun toks t rest op rk e ht=>by have:=op_le ht;omega
 have hlen:(o++[Nd.op kk]).length=o.length+1:=by rw[List.length_append];rfl
 rcases h with⟨h1,h2,h3,h4⟩|⟨h1,h2,h3⟩
 ·have hi:=hi h1
  subst hi;rcases h4 with⟨h4,_⟩|⟨_,h5,tz,oz,h6,h7⟩
  ·omega
  ·cases hh:s.has 2 (fun t=>t.toList==(⟨#[41]⟩:xf).toList)with
   |true=>
    rw[must_tl hh];obtain⟨tk,r,g1,g2,g3,g4⟩:=qB hh;have hr:s.tl.toks=r:=by show s.toks.tail=r;rw[g1];rfl
    unfold Gst;rw[hr,hlen];rw[g1]at h2 h3 h7;have:=h2.length_le;rw[List.length_cons]at h3 this;have ht1:tk.f1=⟨#[41]⟩:=by rw[Lib.toList_data]at g4;rw[←mkB tk.f1,g4]
    refine .inl ⟨h1,h6.shutF (by omega) h7 g3 ht1,hn4 _,(List.suffix_cons _ _).trans (h2.trans (List.suffix_cons _ _)),by rw[List.length_cons];omega,by rw[List.length_cons];omega⟩
   |false=>
    rw[qG hh];have hf:s.fail 110 last=⟨s.toks,110,(zC s.toks last).1,(zC s.toks last).2⟩:=by unfold PS.fail;rw[if_pos h1]
    rw[hf];refine .inr ⟨(show(110:Int)≠0 by decide),h6.bad rfl h7 h5 ?_,by rw[hlen,List.length_cons];omega⟩
    intro tk r e;rw[←has_ps h1]at hh;have h8:=no_sign (fun t ht=>htk t (h2.subset ht)) hh (by decide) (by decide) e
    by_cases h9:tk.f1.toList=[44]
    ·exact .inl ⟨h9,.inr (by show(i:Int)-((i:Int)-1)≤1;omega)⟩
    ·exact .inr (.inr ⟨h9,h8⟩)
 ·rw[qG (jW h1 _ _),show s.fail 110 last=s by unfold PS.fail;rw[if_neg h1]]
  exact .inr ⟨h1,h2,by rw[hlen,List.length_cons];omega⟩
end
theorem sum_any {w0:WK}{g:Nat}{L:List S75}{last:S75}{o:List Nd}{dp:Int}{s:PS}{k:Nat}(HI:Gm w0 g L last 1 22 k)(X:PS→List Nd→Prop)(hc:(s.e=0∧s.toks.length<k∧(∀t∈s.toks,TokOK t)∧SzOK (ps s.toks)∧o.length+s.toks.length≤100000∧0≤dp∧dp+s.toks.length≤100000∧∀s2 o2,Gst last dp 1 s.toks o s2 o2→X s2 o2)∨(s.e≠0∧X s o)):∀w,RBS w0 g L last o dp s w→Calls Tryz.prog 22 #[.pointer (some ⟨g,0,none⟩)] w fun e w'=>e= .returned (.tuple #[])∧∃s2 o2,zc (RBS w0 g L last o2 dp s2 w')∧zc (X s2 o2):=by
 intro w h;rcases hc with⟨h1,h2,h3,h4,h5,h6,h7,h8⟩|⟨h1,h2⟩
 ·refine(HI s.toks o dp h2 h3 h4 h5 h6 h7 w (h.nrm h1)).mono ?_
  rintro e w' ⟨rfl,s2,o2,q1,q2⟩;exact⟨rfl,s2,o2,⟨q1⟩,⟨h8 _ _ q2⟩⟩
 ·refine(rsum_er o dp s h1 w h).mono ?_
  rintro e w' ⟨rfl,q1⟩;exact⟨rfl,s,o,⟨q1⟩,⟨h2⟩⟩
end Go.Proofs.YtjopepfemhckjaaGreatDoor.NW
end
