/-
  Part 38 of the proof of parseTells_holds: texts of this seat, put together.
-/
import Derived.Test.YtjopepfemhckjaaGreatDoorTl37
set_option linter.unusedVariables false
set_option linter.unusedSimpArgs false
set_option maxHeartbeats 16000000
set_option maxRecDepth 100000
section
namespace Go.Proofs.YtjopepfemhckjaaGreatDoor.NW
open Go.Proofs Go.RowKit Go.Shelf Go.Proofs.YtjopepfemhckjaaGreatDoor.PN Go.Proofs.YtjopepfemhckjaaGreatDoorW.PrintWords Go.Proofs.YtjopepfemhckjaaGreatDoor.PParseTells
theorem num_mk (neg:Bool)(a b:ByteArray)(ha:a=⟨#[]⟩∨(isNatB a.data.toList=true∧fewP a=true))(hb:b=⟨#[]⟩∨(isNatB b.data.toList=true∧qI b=true)):∃a' xn xd ok,(neg=true→Rt 197 #[.string a] (.string a'))∧(neg=false→a'=a)∧Rt 168 #[.string a',.string b] (.tuple #[.agg #[.string xn,.string xd],.bool ok])∧nd37 (jn neg a b)=⟨0,⟨xn,xd⟩,⟨#[]⟩,0,0⟩:=by
 have e0:isNatB (⟨#[]⟩:xf).data.toList=false:=by decide
 rcases ha with rfl|⟨ha,ha2⟩
 ·refine⟨⟨#[]⟩,⟨#[]⟩,⟨#[]⟩,false,fun _=>rneg2_nil,fun _=>rfl,rmake3_no _ _ ⟨false,rmay2_nil,fun h=>by cases h⟩,?_⟩
  unfold jn;rw[e0,Bool.false_and,if_neg (by decide)]
  rfl
 ·obtain⟨n,rfl⟩:=jU a ha
  have hns:(natS n).size≤60:=of_decide_eq_true ha2;have hz:=intS_le (if neg=true then-(n:Int)else(n:Int))
  have hza:(if neg=true then-(n:Int)else(n:Int)).natAbs=n:=by split<;>omega
  rw[hza]at hz;have hN:neg=true→Rt 197 #[.string (natS n)] (.string (intS (if neg=true then-(n:Int)else(n:Int)))):=fun h=>by
   have h1:=rneg2_at (n:Int) (by rw[zo];omega)
   rw[zo]at h1;rw[if_pos h];exact h1
  have hN2:neg=false→intS (if neg=true then-(n:Int)else(n:Int))=natS n:=fun h=>by rw[h,if_neg (by decide),zo]
  rcases hb with rfl|⟨hb,hb2⟩
  ·refine⟨_,⟨#[]⟩,⟨#[]⟩,false,hN,hN2,rmake3_no _ _ ⟨true,qf _ (by omega),fun _=>rmay2_nil⟩,?_⟩
   unfold jn;rw[e0,Bool.and_false,if_neg (by decide)]
   rfl
  ·obtain⟨d,rfl⟩:=jU b hb
   unfold qI at hb2;rw[Bool.and_eq_true,qh]at hb2;have hds:(natS d).size≤60:=of_decide_eq_true hb2.1;have hd0:0<d:=by have:=hb2.2;simp at this;omega
   refine⟨_,_,_,true,hN,hN2,jB _ d (by omega) (by omega) hd0,?_⟩
   unfold jn;rw[ha,hb,if_pos (by decide),(zh n).2,(zh d).2]
   rfl
section
variable {w0:WK} {g:Nat} {L:List S75} {last:S75} {out:List Nd} {dp:Int} {s:PS}
theorem rnum_b (hK:w0.kp=[])(s:PS)(hsz:SzOK s)(hout:out.length≤100000):Rb (RBS w0 g L last out dp s) 163 #[.pointer (some ⟨g,0,none⟩)] (.tuple #[]) (RBS w0 g L last (out++[(s.num last).2]) dp (s.num last).1):=by
 intro w h;have HR:=zc.mk h;have HK:=zc.mk hK;clear hK;have HO:=zc.mk hout;obtain⟨P,hP⟩:∃P,s.num last=P:=⟨_,rfl⟩;rw[hP];unfold PS.num at hP;simp only at hP;have H1:=qb (w0:=w0) (g:=g) (L:=L) (last:=last) (out:=out) (dp:=dp) s ⟨#[40]⟩;have hz1:=hsz.must ⟨#[40]⟩ last;obtain⟨s1,hs1⟩:∃s1,s.must ⟨#[40]⟩ last=s1:=⟨_,rfl⟩;rw[hs1]at hP H1 hz1;have H2:=jC (w0:=w0) (g:=g) (L:=L) (last:=last) (out:=out) (dp:=dp) s1 2 ⟨#[45]⟩;have hz2:=hz1.take 2 (fun t=>t.toList==(⟨#[45]⟩:xf).toList)
 have htk:s1.take 2 (fun t=>t.toList==(⟨#[45]⟩:xf).toList)=if s1.has 2 (fun t=>t.toList==(⟨#[45]⟩:xf).toList)=true then(s1.tl,hdT s1.toks,true)else(s1,⟨#[]⟩,false):=rfl
 obtain⟨s2,hs2⟩:∃s2,(s1.take 2 (fun t=>t.toList==(⟨#[45]⟩:xf).toList)).1=s2:=⟨_,rfl⟩
 obtain⟨neg,hneg⟩:∃neg,(s1.take 2 (fun t=>t.toList==(⟨#[45]⟩:xf).toList)).2.2=neg:=⟨_,rfl⟩
 rw[hs2]at hP hz2;rw[hneg]at hP;have H3:=rnatural_b (w0:=w0) (g:=g) (L:=L) (last:=last) (out:=out) (dp:=dp) s2 hz2 true fewP rfl;have hra:=nat_res s2 fewP last;have hz3:=(hz2.nat fewP last).1;obtain⟨s3,hs3⟩:∃s3,(s2.nat fewP last).1=s3:=⟨_,rfl⟩;obtain⟨a,ha⟩:∃a,(s2.nat fewP last).2=a:=⟨_,rfl⟩;rw[hs3,ha]at hP H3;rw[hs3]at hz3;rw[ha]at hra;have H4:=qb (w0:=w0) (g:=g) (L:=L) (last:=last) (out:=out) (dp:=dp) s3 ⟨#[44]⟩;have hz4:=hz3.must ⟨#[44]⟩ last;obtain⟨s4,hs4⟩:∃s4,s3.must ⟨#[44]⟩ last=s4:=⟨_,rfl⟩;rw[hs4]at hP H4 hz4;have H5:=rnatural_b (w0:=w0) (g:=g) (L:=L) (last:=last) (out:=out) (dp:=dp) s4 hz4 false qI rfl;have hrb:=nat_res s4 qI last;obtain⟨s5,hs5⟩:∃s5,(s4.nat qI last).1=s5:=⟨_,rfl⟩;obtain⟨b,hb⟩:∃b,(s4.nat qI last).2=b:=⟨_,rfl⟩;rw[hs5,hb]at hP H5;rw[hb]at hrb;have H6:=qb (w0:=w0) (g:=g) (L:=L) (last:=last) (out:=out) (dp:=dp) s5 ⟨#[41]⟩;obtain⟨s6,hs6⟩:∃s6,s5.must ⟨#[41]⟩ last=s6:=⟨_,rfl⟩;rw[hs6]at hP H6;obtain⟨a',xn,xd,ok,M1,M2,M3,hnd⟩:=num_mk neg a b hra hrb;have HND:=zc.mk hnd;have HP:=zc.mk hP.symm;have hcase:(neg=false∧s2=s1∧s1.has 2 (fun t=>t.toList==(⟨#[45]⟩:xf).toList)=false)∨(neg=true∧s2=s1.tl∧s1.has 2 (fun t=>t.toList==(⟨#[45]⟩:xf).toList)=true):=by
  cases hh:s1.has 2 (fun t=>t.toList==(⟨#[45]⟩:xf).toList)with
  |true=>
   rw[hh,if_pos rfl]at htk;rw[htk]at hs2 hneg;exact .inr ⟨hneg.symm,hs2.symm,rfl⟩
  |false=>
   rw[hh,if_neg (by decide)]at htk
   rw[htk]at hs2 hneg;exact .inl ⟨hneg.symm,hs2.symm,rfl⟩
 clear h hout hsz hz1 hz2 hz3 hz4 hs1 hs2 hs3 hs4 hs5 hs6 ha hb hneg htk hra hrb hnd hP;rcases hcase with⟨rfl,rfl,hh⟩|⟨rfl,rfl,hh⟩
 ·have M4:=M2 rfl
  clear M2;subst M4;rw[hh]at H2;clear M1 hh;go_enter Tryz.func163,Tryz.ntmps163
  go_wp2_with(first|(with_reducible refine H1.go HR ?_;clear HR;intro w1 HR)|(with_reducible refine H2.go HR ?_;clear HR;intro w1 HR)|(with_reducible refine H3.go HR ?_;clear HR;intro w1 HR)|(with_reducible refine H4.go HR ?_;clear HR;intro w1 HR)|(with_reducible refine H5.go HR ?_;clear HR;intro w1 HR)|(with_reducible refine H6.go HR ?_;clear HR;intro w1 HR))
  refine(M3 _).mono ?_;rintro e w2 ⟨rfl,hb⟩;have HR2:=(HR.out.step hb).step ((xb w2.heap.size w2).alloc (xc _) (.cells #[.string xn,.string xd] 35));have N9:=j7 w2 (.cells #[.string xn,.string xd] 35);go_upto_region 11 with(fail)
  generalize w2.alloc (.cells #[.string xn,.string xd] 35)=wk at*;generalize w2.heap.size=B at*;have m1:wk.cell? ⟨B,0,none⟩=some (.string xn):=by rw[j6 N9];rfl
  have m2:wk.cell? ⟨B,1,none⟩=some (.string xd):=by rw[j6 N9];rfl
  obtain⟨A2,c2,ov2,i2,bad2,h6,h7⟩:=HR2;have HQ:=zc.mk h6;have HSm:=zc.mk h7;clear h6 h7 HR hb N9;obtain⟨d0,d1,d2,d3,d4,d5⟩:=HQ.out.cells;obtain⟨r0,r1,r2,r3,r4,r5⟩:=(HQ.out.step ((xb _ _).drew)).cells;have hbytes:((out.map nd37).length+1)*72≤140737488355328:=by rw[List.length_map];have:=HO.out;omega
  have HQD:=zc.mk (HQ.out.step ((xb _ _).drew));have hgl:=HQ.out.lt;go_region_law ((refine Kd.R_append_step k37 (w0:=w0) (W:=wk.drew) w0.heap.size (by rfl) (.tmp 40) (.tmp 43) 24 37 (.agg #[.int .i64 0,.string ⟨#[]⟩,.string ⟨#[]⟩,.string ⟨#[]⟩,.int .i64 0,.int .i64 0]) 72 (by rfl) Tryz.underlying24 zS (by rfl) (by decide) (by omega) ov2 (out.map nd37) (⟨0,⟨xn,xd⟩,⟨#[]⟩,0,0⟩:S37) [.int .i64 0,.string xn,.string xd,.string ⟨#[]⟩,.int .i64 0,.int .i64 0] (fun k=>k≠g) (fun _=>False) (by rfl) (by rfl) (zE _ _ _ (⟨0,⟨xn,xd⟩,⟨#[]⟩,0,0⟩:S37)) (fun _ hk=>hk.elim) (fun k hk=>by have:=HQ.out.lt;have:=HQD.out.lt;omega) HQD.out.ou HQD.out.bl HQD.out.bl.size hbytes ?_;intro v1 w1 hv1 hb1 hg1 ho1;have hl1:(out.map nd37++[(⟨0,⟨xn,xd⟩,⟨#[]⟩,0,0⟩:S37)]).length=out.length+1:=(by simp);obtain⟨Av,cv,hvv⟩:=Kd.R_slice hv1;rw[hl1]at hvv;subst hvv;have hk1:=(hg1.block g HQD.out.lt (fun hh=>HQD.out.ou.1 _ hh.symm rfl)).trans HQD.out.blk;have hz1:w1.frozen? ⟨g,2,none⟩=false:=Lib.frozen_of_heap hk1 2;have hc1:w1.cell? ⟨g,2,none⟩=some ov2:=(by rw[j6 hk1];rfl);clear hk1))
  all_goals(
   have HQ6:=HQD.out.newO HK.out hb1 hg1 (out1:=out++[jn false a' b]) (by rw[List.map_append,List.map_cons,List.map_nil,HND.out];exact hv1)
   go_wp2_with fail;first
   |(refine bodyPost_end (v:= .tuple #[]) (by simp[results,Tryz.f163,go_sem]) rfl ?_;rw[HP.out];exact⟨rfl,A2,c2,_,i2,bad2,HQ6,HSm.out⟩)
   |(refine bodyPost_end (v:= .tuple #[]) (by simp[results,Tryz.f163,go_sem]) rfl ?_;rw[HP.out];exact⟨rfl,A2,c2,_,i2,bad2,HQ6.step ((xb _ _).drew),HSm.out⟩))
 ·have M5:=M1 rfl
  clear M1;rw[hh]at H2;obtain⟨tk,r,g1,g2,g3,g4⟩:=PS.has_cons hh;clear M2 hh g3 g4;go_enter Tryz.func163,Tryz.ntmps163
  go_wp2_with(with_reducible refine H1.go HR ?_;clear HR;intro w1 HR)
  refine H2.go HR ?_;clear HR;intro wq HR;obtain⟨A,c,ov,i,bad,h3,h4⟩:=HR.out;have q1:=h3.cells.2.1;have f1:=h3.frozen 1;obtain⟨k,rfl,hw,h5⟩:=RBS.tl h3 h4 g2 (by rw[g1];exact fun h=>by cases h)
  obtain⟨K,hK⟩:∃K,k+1=K:=⟨_,rfl⟩;rw[hK]at h5;have hK2:(↑k+1:Int)= ↑K:=by omega
  rw[hK2]at hw;have HR:=zc.mk h5;clear h3 h4 h5 g1 g2;go_wp2_with(first|(with_reducible refine H3.go HR ?_;clear HR;intro w1 HR)|(with_reducible refine H4.go HR ?_;clear HR;intro w1 HR)|(with_reducible refine H5.go HR ?_;clear HR;intro w1 HR)|(with_reducible refine H6.go HR ?_;clear HR;intro w1 HR))
  refine(M5 _).mono ?_;rintro e w3 ⟨rfl,hb⟩;have HR:=zc.mk (HR.out.step hb);clear hb;go_wp2_with fail;refine(M3 _).mono ?_;rintro e w2 ⟨rfl,hb⟩;have HR2:=(HR.out.step hb).step ((xb w2.heap.size w2).alloc (xc _) (.cells #[.string xn,.string xd] 35));have N9:=j7 w2 (.cells #[.string xn,.string xd] 35);go_upto_region 11 with(fail)
  generalize w2.alloc (.cells #[.string xn,.string xd] 35)=wk at*;generalize w2.heap.size=B at*;have m1:wk.cell? ⟨B,0,none⟩=some (.string xn):=by rw[j6 N9];rfl
  have m2:wk.cell? ⟨B,1,none⟩=some (.string xd):=by rw[j6 N9];rfl
  obtain⟨A2,c2,ov2,i2,bad2,h6,h7⟩:=HR2;have HQ:=zc.mk h6;have HSm:=zc.mk h7;clear h6 h7 HR hb N9 q1 f1;obtain⟨d0,d1,d2,d3,d4,d5⟩:=HQ.out.cells;obtain⟨r0,r1,r2,r3,r4,r5⟩:=(HQ.out.step ((xb _ _).drew)).cells;have hbytes:((out.map nd37).length+1)*72≤140737488355328:=by rw[List.length_map];have:=HO.out;omega
  have HQD:=zc.mk (HQ.out.step ((xb _ _).drew));have hgl:=HQ.out.lt;go_region_law ((refine Kd.R_append_step k37 (w0:=w0) (W:=wk.drew) w0.heap.size (by rfl) (.tmp 40) (.tmp 43) 24 37 (.agg #[.int .i64 0,.string ⟨#[]⟩,.string ⟨#[]⟩,.string ⟨#[]⟩,.int .i64 0,.int .i64 0]) 72 (by rfl) Tryz.underlying24 zS (by rfl) (by decide) (by omega) ov2 (out.map nd37) (⟨0,⟨xn,xd⟩,⟨#[]⟩,0,0⟩:S37) [.int .i64 0,.string xn,.string xd,.string ⟨#[]⟩,.int .i64 0,.int .i64 0] (fun k=>k≠g) (fun _=>False) (by rfl) (by rfl) (zE _ _ _ (⟨0,⟨xn,xd⟩,⟨#[]⟩,0,0⟩:S37)) (fun _ hk=>hk.elim) (fun k hk=>by have:=HQ.out.lt;have:=HQD.out.lt;omega) HQD.out.ou HQD.out.bl HQD.out.bl.size hbytes ?_;intro v1 w1 hv1 hb1 hg1 ho1;have hl1:(out.map nd37++[(⟨0,⟨xn,xd⟩,⟨#[]⟩,0,0⟩:S37)]).length=out.length+1:=(by simp);obtain⟨Av,cv,hvv⟩:=Kd.R_slice hv1;rw[hl1]at hvv;subst hvv;have hk1:=(hg1.block g HQD.out.lt (fun hh=>HQD.out.ou.1 _ hh.symm rfl)).trans HQD.out.blk;have hz1:w1.frozen? ⟨g,2,none⟩=false:=Lib.frozen_of_heap hk1 2;have hc1:w1.cell? ⟨g,2,none⟩=some ov2:=(by rw[j6 hk1];rfl);clear hk1))
  all_goals(
   have HQ6:=HQD.out.newO HK.out hb1 hg1 (out1:=out++[jn true a b]) (by rw[List.map_append,List.map_cons,List.map_nil,HND.out];exact hv1)
   go_wp2_with fail;first
   |(refine bodyPost_end (v:= .tuple #[]) (by simp[results,Tryz.f163,go_sem]) rfl ?_;rw[HP.out];exact⟨rfl,A2,c2,_,i2,bad2,HQ6,HSm.out⟩)
   |(refine bodyPost_end (v:= .tuple #[]) (by simp[results,Tryz.f163,go_sem]) rfl ?_;rw[HP.out];exact⟨rfl,A2,c2,_,i2,bad2,HQ6.step ((xb _ _).drew),HSm.out⟩))
end
end Go.Proofs.YtjopepfemhckjaaGreatDoor.NW
end
section
namespace Go.Proofs.YtjopepfemhckjaaGreatDoor.NW
open Go.Proofs Go.RowKit Go.Shelf Go.Proofs.YtjopepfemhckjaaGreatDoor.PN Go.Proofs.YtjopepfemhckjaaGreatDoorW.PrintWords Go.Proofs.YtjopepfemhckjaaGreatDoor.PParseTells
def OpT (t:S75)(op rk:Int):Prop:=parse_operator.f t.f0 t.f1 t.f2 t.f3=some (op,rk)
def NoOp (n:Int)(toks:List S75):Prop:=∀t rest op rk,toks=t::rest→OpT t op rk→rk<n
def Lo (n:Int)(r:List S82):Prop:=∀x r',r=x::r'→x.f1<n
theorem Lo.mono {n m:Int}{r:List S82}(h:Lo n r)(hm:n≤m):Lo m r:=fun x r' e=>by have:=h x r' e;omega
theorem Lo.pop {n:Int}{r:List S82}(h:Lo n r)(o:List Nd):popR n r o=(r,o):=by
 cases r with
 |nil=>rfl
 |cons x r=>
  rw[popR,if_neg (by have:=h x r rfl;omega)]
def Rn (last:S75)(m:Bool)(toks:List S75)(r:List S82)(o:List Nd)(dp:Int)(R:Res):Prop:=∃k,Run2 last k m toks r o dp R
section
variable {last:S75} {dp:Int}
def Rch (last:S75)(dp n:Int)(t0:List S75)(o0:List Nd)(toks:List S75)(o:List Nd):Prop:=∀r,Lo n r→∀R,Rn last false toks r o dp R→Rn last true t0 r o0 dp R
def Rer (last:S75)(dp n:Int)(t0:List S75)(o0:List Nd)(e l c:Int):Prop:=∀r,Lo n r→Rn last true t0 r o0 dp (.err e l c)
theorem Rch.mono {n m:Int}{t0 toks o0 o}(h:Rch last dp m t0 o0 toks o)(hm:n≤m):Rch last dp n t0 o0 toks o:=fun r hr=>h r (hr.mono hm)
theorem Rer.mono {n m:Int}{t0 o0 e l c}(h:Rer last dp m t0 o0 e l c)(hm:n≤m):Rer last dp n t0 o0 e l c:=fun r hr=>h r (hr.mono hm)
theorem absorb {k:Nat}{toks:List S75}{r1 r2:List S82}{o1 o2:List Nd}{R:Res}(hp:∀rk,1≤rk→(rk=1∨∃t rest op,toks=t::rest∧OpT t op rk)→popR rk r1 o1=popR rk r2 o2)(h:Run2 last k false toks r1 o1 dp R):Run2 last k false toks r2 o2 dp R:=by
 have h1:=hp 1 (by omega) (.inl rfl)
 cases h with
 |pEnd k _ _ _ o' h=>exact .pEnd k _ _ _ o' (h1▸h)
 |pEndW k _ _ _ x r' o' h=>exact .pEndW k _ _ _ x r' o' (h1▸h)
 |pOp k t rest _ _ _ _ op rank r' o' ho hop hr hr2 hp2 h=>exact .pOp k t rest _ _ _ _ op rank r' o' ho hop hr hr2 (hp rank hr (.inr ⟨t,rest,op,rfl,ho⟩)▸hp2) h
 |pShutP k t rest _ _ _ _ x r' o' hk ht hp2 hx hx0 h=>exact .pShutP k t rest _ _ _ _ x r' o' hk ht (h1▸hp2) hx hx0 h
 |pShutF k t rest _ _ _ _ x r' o' kk hk ht hp2 hx hx0 h=>exact .pShutF k t rest _ _ _ _ x r' o' kk hk ht (h1▸hp2) hx hx0 h
 |pComma k t rest _ _ _ _ x r' o' hk ht hp2 hx h=>exact .pComma k t rest _ _ _ _ x r' o' hk ht (h1▸hp2) hx h
 |pBadN k t rest _ _ _ o' op0 rk0 ho hr hp2=>exact .pBadN k t rest _ _ _ o' op0 rk0 ho hr (h1▸hp2)
 |pBadX k t rest _ _ _ x r' o' op0 rk0 ho hr hp2 hb=>exact .pBadX k t rest _ _ _ x r' o' op0 rk0 ho hr (h1▸hp2) hb
theorem op_le {t:S75}{op rk:Int}(h:OpT t op rk):(6≤op∧op≤9∧(rk=1∨rk=2))∨rk=0:=by
 obtain⟨op',rk',h1,h2⟩:=op_tot t;have h3:=h1.symm.trans h;injection h3 with h3;injection h3 with h4 h5;subst h4 h5;exact h2
theorem Rch.op {n:Int}{t0 toks rest:List S75}{o0 o o':List Nd}{t:S75}{op:Int}(hn:n=1∨n=2)(ht:OpT t op n)(h:Rch last dp n t0 o0 (t::rest) o)(h2:Rch last dp (n+1) rest o toks o')(hno:n=1→NoOp 2 toks):Rch last dp n t0 o0 toks (o'++[.op op.toNat]):=by
 intro r hr R ⟨k,hk⟩;have hw:=op_le ht;have h3:Rn last false toks (⟨op,n,0⟩::r) o' dp R:=by
  refine⟨k,absorb ?_ hk⟩;intro rk h1 h4;have hle:rk≤n:=by
   rcases h4 with h4|⟨t',rest',op',h5,h6⟩
   ·omega
   ·have:=op_le h6
    rcases hn with hn|hn
    ·have:=hno hn t' rest' op' rk h5 h6
     omega
    ·omega
  conv=>rhs;rw[popR,if_pos (show rk≤(⟨op,n,0⟩:S82).f1 from hle)]
 obtain⟨k2,hk2⟩:=h2 (⟨op,n,0⟩::r) (fun x r' e=>by injection e with e1 _;subst e1;show n<n+1;omega) R h3
 exact h r hr R ⟨k2+1,.pOp k2 t rest r o dp R op n r o ht (by omega) (by omega) (by omega) (hr.pop o) hk2⟩
theorem Rer.op {n:Int}{t0 rest:List S75}{o0 o:List Nd}{t:S75}{op e l c:Int}(hn:n=1∨n=2)(ht:OpT t op n)(h:Rch last dp n t0 o0 (t::rest) o)(h2:Rer last dp (n+1) rest o e l c):Rer last dp n t0 o0 e l c:=by
 intro r hr;have hw:=op_le ht;obtain⟨k2,hk2⟩:=h2 (⟨op,n,0⟩::r) (fun x r' e=>by injection e with e1 _;subst e1;show n<n+1;omega)
 exact h r hr _ ⟨k2+1,.pOp k2 t rest r o dp _ op n r o ht (by omega) (by omega) (by omega) (hr.pop o) hk2⟩
def Ng (last:S75)(dp:Int)(t0:List S75)(o:List Nd)(j:Nat)(toks:List S75):Prop:=∀r R,Rn last true toks (List.replicate j ⟨5,3,0⟩++r) o dp R→Rn last true t0 r o dp R
theorem Ng.zero (t0:List S75)(o:List Nd):Ng last dp t0 o 0 t0:=fun r R h=>h
theorem Ng.step {t0 rest:List S75}{o:List Nd}{j:Nat}{t:S75}(h:Ng last dp t0 o j (t::rest))(hk:t.f0=2)(ht:t.f1=⟨#[45]⟩):Ng last dp t0 o (j+1) rest:=by
 intro r R ⟨k,hR⟩;refine h r R ⟨k+1,.oNeg k t rest _ o dp R hk ht ?_⟩;rw[List.replicate_succ]at hR;exact hR
theorem pop_neg (j:Nat)(rk:Int)(h:rk≤3)(r:List S82):∀o,popR rk (List.replicate j ⟨5,3,0⟩++r) o=popR rk r (o++List.replicate j (.op 5)):=by
 induction j with
 |zero=>intro o;rw[List.replicate_zero,List.replicate_zero,List.append_nil];rfl
 |succ j ih=>
  intro o;rw[List.replicate_succ,List.cons_append,popR,if_pos (show rk≤3 from h),ih,List.replicate_succ,List.append_assoc]
  rfl
theorem Ng.ok {t0 toks toks':List S75}{o o':List Nd}{j:Nat}(h:Ng last dp t0 o j toks)(h2:Rch last dp 4 toks o toks' o'):Rch last dp 3 t0 o toks' (o'++List.replicate j (.op 5)):=by
 intro r hr R ⟨k,hk⟩;refine h r R (h2 _ ?_ R ⟨k,absorb ?_ hk⟩)
 ·intro x r' e
  cases j with
  |zero=>have:=hr x r' e;omega
  |succ j=>
   rw[List.replicate_succ,List.cons_append]at e;injection e with e1 _;subst e1;decide
 ·intro rk h1 h3
  rw[pop_neg];rcases h3 with h3|⟨t',rest',op',h5,h6⟩
  ·omega
  ·have:=op_le h6
   omega
theorem Ng.er {t0 toks:List S75}{o:List Nd}{j:Nat}{e l c:Int}(h:Ng last dp t0 o j toks)(h2:Rer last dp 4 toks o e l c):Rer last dp 3 t0 o e l c:=by
 intro r hr;refine h r _ (h2 _ ?_);intro x r' e;cases j with
 |zero=>have:=hr x r' e;omega
 |succ j=>
  rw[List.replicate_succ,List.cons_append]at e;injection e with e1 _;subst e1;decide
def Opn (last:S75)(dp:Int)(t0:List S75)(o0:List Nd)(x:S82)(toks:List S75)(o:List Nd):Prop:=∀r R,Rn last true toks (x::r) o (dp+1) R→Rn last true t0 r o0 dp R
theorem noOp_bad {t:S75}{rest:List S75}(h:NoOp 1 (t::rest)):∃op rk,OpT t op rk∧rk≤0:=by
 obtain⟨op,rk,h1,h2⟩:=op_tot t;exact⟨op,rk,h1,by have:=h t rest op rk rfl h1;omega⟩
theorem Opn.bad {t0 toks toks':List S75}{o0 o o':List Nd}{x:S82}(h:Opn last dp t0 o0 x toks o)(hx1:x.f1=0)(h2:Rch last (dp+1) 1 toks o toks' o')(hno:NoOp 1 toks')(hb:∀t rest,toks'=t::rest→(t.f1.toList=[44]∧(t.f0≠2∨x.f2≤1))∨(t.f1.toList=[41]∧1<x.f2)∨(t.f1.toList≠[44]∧t.f1.toList≠[41])):Rer last dp 4 t0 o0 110 (zC toks' last).1 (zC toks' last).2:=by
 intro r hr;have hl:Lo 1 (x::r):=fun y r' e=>by injection e with e1 _;subst e1;omega
 refine h r _ (h2 (x::r) hl _ ?_);cases toks' with
 |nil=>exact⟨1,.pEndW 0 _ _ _ x r o' (hl.pop o')⟩
 |cons t rest=>
  obtain⟨op,rk,h3,h4⟩:=noOp_bad hno;exact⟨1,.pBadX 0 t rest _ _ _ x r o' op rk h3 h4 (hl.pop o') (hb t rest rfl)⟩
theorem Opn.er {t0 toks:List S75}{o0 o:List Nd}{x:S82}{e l c:Int}(h:Opn last dp t0 o0 x toks o)(hx1:x.f1=0)(h2:Rer last (dp+1) 1 toks o e l c):Rer last dp 4 t0 o0 e l c:=fun r hr=>
 h r _ (h2 (x::r) (fun y r' e=>by injection e with e1 _;subst e1;omega))
theorem Opn.shutP {t0 toks rest:List S75}{o0 o o':List Nd}{t:S75}(h:Opn last dp t0 o0 ⟨-1,0,0⟩ toks o)(h2:Rch last (dp+1) 1 toks o (t::rest) o')(hk:t.f0=2)(ht:t.f1=⟨#[41]⟩):Rch last dp 4 t0 o0 rest o':=by
 intro r hr R ⟨k,hR⟩;have hl:Lo 1 ((⟨-1,0,0⟩:S82)::r):=fun y r' e=>by injection e with e1 _;subst e1;decide
 refine h r _ (h2 _ hl _ ⟨k+1,.pShutP k t rest _ _ _ R _ r o' hk ht (hl.pop o') (by decide) (by decide) ?_⟩)
 rw[show dp+1-1=dp by omega]
 exact hR
theorem Opn.shutF {t0 toks rest:List S75}{o0 o o':List Nd}{t:S75}{kk:Nat}{q:Int}(hq:q≤1)(h:Opn last dp t0 o0 ⟨kk,0,q⟩ toks o)(h2:Rch last (dp+1) 1 toks o (t::rest) o')(hk:t.f0=2)(ht:t.f1=⟨#[41]⟩):Rch last dp 4 t0 o0 rest (o'++[.op kk]):=by
 intro r hr R ⟨k,hR⟩;have hl:Lo 1 ((⟨kk,0,q⟩:S82)::r):=fun y r' e=>by injection e with e1 _;subst e1;show(0:Int)<1;decide
 refine h r _ (h2 _ hl _ ⟨k+1,.pShutF k t rest _ _ _ R _ r o' kk hk ht (hl.pop o') hq rfl ?_⟩);rw[show dp+1-1=dp by omega]
 exact hR
theorem Opn.comma {t0 toks rest:List S75}{o0 o o':List Nd}{t:S75}{x:S82}(hx1:x.f1=0)(hq:1<x.f2)(h:Opn last dp t0 o0 x toks o)(h2:Rch last (dp+1) 1 toks o (t::rest) o')(hk:t.f0=2)(ht:t.f1=⟨#[44]⟩):Opn last dp t0 o0 ⟨x.f0,x.f1,x.f2-1⟩ rest o':=by
 intro r R ⟨k,hR⟩;have hl:Lo 1 (x::r):=fun y r' e=>by injection e with e1 _;subst e1;omega
 exact h r _ (h2 _ hl _ ⟨k+1,.pComma k t rest _ _ _ R _ r o' hk ht (hl.pop o') hq hR⟩)
theorem Rch.whole {t0 toks:List S75}{o:List Nd}(h:Rch last dp 1 t0 [] toks o)(hno:NoOp 1 toks):Rn last true t0 [] [] dp (match toks with|[]=> .ok o|t::_=> .err 110 t.f2 t.f3):=by
 refine h [] (fun x r' e=>by cases e) _ ?_
 cases toks with
 |nil=>exact⟨1,.pEnd 0 _ _ _ o rfl⟩
 |cons t rest=>
  obtain⟨op,rk,h3,h4⟩:=noOp_bad hno;exact⟨1,.pBadN 0 t rest _ _ _ o op rk h3 h4 rfl⟩
end
end Go.Proofs.YtjopepfemhckjaaGreatDoor.NW
end
section
namespace Go.Proofs.YtjopepfemhckjaaGreatDoor.NW
open Go.Proofs Go.RowKit Go.Shelf Go.Proofs.YtjopepfemhckjaaGreatDoor.PN Go.Proofs.YtjopepfemhckjaaGreatDoorW.PrintWords Go.Proofs.YtjopepfemhckjaaGreatDoor.PParseTells
theorem RBS.nrm {w0:WK}{g:Nat}{L:List S75}{last:S75}{out:List Nd}{dp:Int}{s:PS}{w:World}(he:s.e=0)(h:RBS w0 g L last out dp s w):RBS w0 g L last out dp (ps s.toks) w:=by
 obtain⟨A,c,ov,i,bad,h1,h2⟩:=h;rw[he]at h1;exact⟨A,c,ov,i,bad,h1,fun _=>h2.1 he,fun h=>absurd rfl h⟩
def Gst (last:S75)(dp n:Int)(toks:List S75)(out:List Nd)(s:PS)(o:List Nd):Prop:=
 (s.e=0∧Rch last dp n toks out s.toks o∧NoOp n s.toks∧s.toks<:+toks∧s.toks.length<toks.length∧o.length+s.toks.length≤out.length+toks.length)∨(s.e≠0∧Rer last dp n toks out s.e s.p0 s.p1∧o.length≤out.length+toks.length)
def LIv (last:S75)(dp n:Int)(toks:List S75)(out:List Nd)(kq:Nat)(s:PS)(o:List Nd):Prop:=
 (s.e=0∧s.toks.length<kq∧Rch last dp n toks out s.toks o∧NoOp (n+1) s.toks∧s.toks<:+toks∧s.toks.length<toks.length∧o.length+s.toks.length≤out.length+toks.length)∨(s.e≠0∧0<kq∧Rer last dp n toks out s.e s.p0 s.p1∧o.length≤out.length+toks.length)
section
variable {last:S75} {dp n:Int} {toks:List S75} {out:List Nd} {s:PS} {o:List Nd} {kq:Nat}
theorem Gst.len (h:Gst last dp n toks out s o):o.length≤out.length+toks.length:=by
 rcases h with⟨_,_,_,_,_,h⟩|⟨_,_,h⟩<;>omega
theorem LIv.start (h:Gst last dp (n+1) toks out s o):LIv last dp n toks out (toks.length+1) s o:=by
 rcases h with⟨h1,h2,h3,h4,h5,h6⟩|⟨h1,h2,h3⟩
 ·exact .inl ⟨h1,by omega,h2.mono (by omega),h3,h4,h5,h6⟩
 ·exact .inr ⟨h1,by omega,h2.mono (by omega),h3⟩
theorem LIv.step (hn:n=1∨n=2){t:S75}{rest:List S75}{op:Int}(hs:s.toks=t::rest)(he:s.e=0)(ht:OpT t op n)(h:LIv last dp n toks out kq s o){s2:PS}{o2:List Nd}(hG:Gst last dp (n+1) rest o s2 o2):LIv last dp n toks out (kq-1) s2 (o2++[.op op.toNat]):=by
 rcases h with⟨h1,h2,h3,h4,h5,h6,h7⟩|⟨h1,_⟩
 ·rw[hs]at h2 h3 h5 h6 h7
  rw[List.length_cons]at h2 h6 h7;rcases hG with⟨g1,g2,g3,g4,g5,g6⟩|⟨g1,g2,g3⟩
  ·refine .inl ⟨g1,by omega,h3.op hn ht g2 (fun h=>by subst h;exact g3),g3,g4.trans ((List.suffix_cons _ _).trans h5),by omega,?_⟩
   rw[List.length_append];simp only[List.length_cons,List.length_nil];omega
  ·refine .inr ⟨g1,by omega,Rer.op hn ht h3 g2,?_⟩
   rw[List.length_append];simp only[List.length_cons,List.length_nil];omega
 ·exact absurd he h1
theorem LIv.end_ (h:LIv last dp n toks out kq s o)(hno:s.e=0→∀t rest op,s.toks=t::rest→¬OpT t op n):Gst last dp n toks out s o:=by
 rcases h with⟨h1,h2,h3,h4,h5,h6,h7⟩|⟨h1,h2,h3,h4⟩
 ·refine .inl ⟨h1,h3,?_,h5,h6,h7⟩
  intro t rest op rk e ht;have h8:=h4 t rest op rk e ht;by_cases hr:rk=n
  ·subst hr
   exact absurd ht (hno h1 t rest op e)
  ·omega
 ·exact .inr ⟨h1,h3,h4⟩
theorem opT_43 {t:S75}(hk:t.f0=2)(ht:t.f1.toList=[43]):OpT t 6 1:=by unfold OpT parse_operator.f;rw[if_pos hk,if_pos ht]
theorem opT_45 {t:S75}(hk:t.f0=2)(ht:t.f1.toList=[45]):OpT t 7 1:=by unfold OpT parse_operator.f;rw[if_pos hk,if_neg (by rw[ht];decide),if_pos ht]
theorem opT_42 {t:S75}(hk:t.f0=2)(ht:t.f1.toList=[42]):OpT t 8 2:=by unfold OpT parse_operator.f;rw[if_pos hk,if_neg (by rw[ht];decide),if_neg (by rw[ht];decide),if_pos ht]
theorem opT_47 {t:S75}(hk:t.f0=2)(ht:t.f1.toList=[47]):OpT t 9 2:=by unfold OpT parse_operator.f;rw[if_pos hk,if_neg (by rw[ht];decide),if_neg (by rw[ht];decide),if_neg (by rw[ht];decide),if_pos ht]
theorem opT_1 {t:S75}{op:Int}(h:OpT t op 1):t.f0=2∧(t.f1.toList=[43]∨t.f1.toList=[45]):=by
 unfold OpT parse_operator.f at h;repeat' split at h
 all_goals simp_all
theorem opT_2 {t:S75}{op:Int}(h:OpT t op 2):t.f0=2∧(t.f1.toList=[42]∨t.f1.toList=[47]):=by
 unfold OpT parse_operator.f at h;repeat' split at h
 all_goals simp_all
theorem has_no {c:UInt8}(h:s.has 2 (fun t=>t.toList==(⟨#[c]⟩:ByteArray).toList)=false)(he:s.e=0){t:S75}{rest:List S75}(hs:s.toks=t::rest)(hk:t.f0=2):t.f1.toList≠[c]:=by
 intro h2;have e:(⟨#[c]⟩:ByteArray).toList=[c]:=by rw[ByteArray.toList_eq]
 unfold PS.has at h;rw[hs]at h;simp[tkOK,he,hk,h2,e]at h
theorem qB {c:UInt8}(h:s.has 2 (fun t=>t.toList==(⟨#[c]⟩:ByteArray).toList)=true):∃t rest,s.toks=t::rest∧s.e=0∧t.f0=2∧t.f1.toList=[c]:=by
 obtain⟨t,r,g1,g2,g3,g4⟩:=PS.has_cons h;refine⟨t,r,g1,g2,g3,?_⟩;rw[eq_of_beq g4,ByteArray.toList_eq]
theorem has_not {c d:UInt8}(h:s.has 2 (fun t=>t.toList==(⟨#[c]⟩:ByteArray).toList)=true)(hne:c≠d):s.has 2 (fun t=>t.toList==(⟨#[d]⟩:ByteArray).toList)=false:=by
 obtain⟨t,r,g1,g2,g3,g4⟩:=qB h;have e:(⟨#[d]⟩:ByteArray).toList=[d]:=by rw[ByteArray.toList_eq]
 unfold PS.has;rw[g1];simp[tkOK,g4,e,hne]
theorem jW (he:s.e≠0)(k:Int)(p:ByteArray→Bool):s.has k p=false:=by
 unfold PS.has;cases s.toks with
 |nil=>rfl
 |cons t r=>simp[tkOK,he]
end
def Gm (w0:WK)(g:Nat)(L:List S75)(last:S75)(n:Int)(f:FuncId)(k:Nat):Prop:=∀(toks:List S75) (out:List Nd) (dp:Int),toks.length<k→(∀t∈toks,TokOK t)→SzOK (ps toks)→out.length+toks.length≤100000→0≤dp→dp+toks.length≤100000→∀w,RBS w0 g L last out dp (ps toks) w→Calls Tryz.prog f #[.pointer (some ⟨g,0,none⟩)] w fun e w'=>e= .returned (.tuple #[])∧∃s' out',RBS w0 g L last out' dp s' w'∧Gst last dp n toks out s' out'
def Ge (w0:WK)(g:Nat)(L:List S75)(last:S75)(f:FuncId):Prop:=∀(out:List Nd) (dp:Int) (s:PS),s.e≠0→∀w,RBS w0 g L last out dp s w→Calls Tryz.prog f #[.pointer (some ⟨g,0,none⟩)] w fun e w'=>e= .returned (.tuple #[])∧RBS w0 g L last out dp s w'
end Go.Proofs.YtjopepfemhckjaaGreatDoor.NW
end
