/-
  Part 37 of the proof of parseTells_holds: texts of this seat, put together.
-/
import Derived.Deep.QuietTactic
import Derived.BigQuiet
import Derived.Deep.RegionLaw
import Derived.Test.YtjopepfemhckjaaGreatDoorTl35
set_option linter.unusedVariables false
set_option linter.unusedSimpArgs false
set_option maxHeartbeats 16000000
set_option maxRecDepth 100000
section
namespace Go.Proofs.YtjopepfemhckjaaGreatDoor.NW
open Go.Proofs Go.RowKit Go.Shelf Go.Proofs.YtjopepfemhckjaaGreatDoor.PN Go.Proofs.YtjopepfemhckjaaGreatDoorW.PrintWords Go.Proofs.YtjopepfemhckjaaGreatDoor.PParseTells
structure WK extends World where
 kp:List (Nat×Obj)
instance:CoeOut WK World:=⟨WK.toWorld⟩
structure RB (w0:WK) (g:Nat) (A:Option Addr) (c:Nat) (L:List S75) (ov:Value) (out:List Nd) (i dp e bad:Int) (w:World):Prop where
 blk:w.heap[g]? =some (.cells #[.slice A L.length c,.int .i64 i,ov,.int .i64 dp,.int .i64 e,.int .i64 bad] 54)
 hc:L.length≤c
 tk:Kd.C k75 w0 A L.length L
 ta:∀ad,A=some ad→∃tb o,ad=⟨tb,o,none⟩∧tb<w0.heap.size
 ou:Kd.R k37 37 w w0.heap.size (fun k=>k≠g) ov (out.map nd37)
 bl:Below w0.heap.size w0 w
 gb:w0.heap.size≤g
 hl:L.length≤100000
 kp:∀p∈w0.kp,p.1≠g∧w.heap[p.1]? =some p.2
 kn:∀p∈w0.kp,ov.ownBlock≠some p.1∧w0.heap.size≤p.1
section
variable {w0:WK} {g:Nat} {A:Option Addr} {c:Nat} {L:List S75} {ov:Value} {out:List Nd} {i dp e bad:Int} {w w':World}
theorem kput {K:List (Nat×Obj)}(h:∀p∈K,p.1≠g∧w.heap[p.1]? =some p.2)(i:Nat)(v:Value):∀p∈K,p.1≠g∧(w.setCell ⟨g,i,none⟩ v).heap[p.1]? =some p.2:=fun p hp=>⟨(h p hp).1,(Below.heap_setCell w ⟨g,i,none⟩ v p.1 (h p hp).1).trans (h p hp).2⟩
theorem RB.lt (h:RB w0 g A c L ov out i dp e bad w):g<w.heap.size:=(xe h.blk).1
theorem RB.step (h:RB w0 g A c L ov out i dp e bad w)(hb:Below w.heap.size w w'):RB w0 g A c L ov out i dp e bad w':=
 ⟨(hb.block _ h.lt).trans h.blk,h.hc,h.tk,h.ta,Kd.R_below h.ou hb,h.bl.trans (hb.mono h.bl.size),h.gb,h.hl,fun p hp=>⟨(h.kp p hp).1,(hb.block _ (xe (h.kp p hp).2).1).trans (h.kp p hp).2⟩,h.kn⟩
theorem RB.cells (h:RB w0 g A c L ov out i dp e bad w):w.cell? ⟨g,0,none⟩=some (.slice A L.length c)∧w.cell? ⟨g,1,none⟩=some (.int .i64 i)∧w.cell? ⟨g,2,none⟩=some ov∧w.cell? ⟨g,3,none⟩=some (.int .i64 dp)∧w.cell? ⟨g,4,none⟩=some (.int .i64 e)∧w.cell? ⟨g,5,none⟩=some (.int .i64 bad):=by
 refine⟨?_,?_,?_,?_,?_,?_⟩<;>(rw[j6 h.blk];rfl)
theorem RB.frozen (h:RB w0 g A c L ov out i dp e bad w)(k:Nat):w.frozen? ⟨g,k,none⟩=false:=Lib.frozen_of_heap h.blk k
theorem RB.setI (h:RB w0 g A c L ov out i dp e bad w)(x:Int):RB w0 g A c L ov out x dp e bad (w.setCell ⟨g,1,none⟩ (.int .i64 x)):=
 ⟨by simp[World.setCell,Array.getElem?_modify,h.blk],h.hc,h.tk,h.ta,Kd.R_set h.ou h.blk (by decide) 1 (.int .i64 x),bput h.bl h.gb 1 (.int .i64 x),h.gb,h.hl,kput h.kp _ _,h.kn⟩
theorem RB.setD (h:RB w0 g A c L ov out i dp e bad w)(x:Int):RB w0 g A c L ov out i x e bad (w.setCell ⟨g,3,none⟩ (.int .i64 x)):=
 ⟨by simp[World.setCell,Array.getElem?_modify,h.blk],h.hc,h.tk,h.ta,Kd.R_set h.ou h.blk (by decide) 3 (.int .i64 x),bput h.bl h.gb 3 (.int .i64 x),h.gb,h.hl,kput h.kp _ _,h.kn⟩
theorem RB.setE (h:RB w0 g A c L ov out i dp e bad w)(x:Int):RB w0 g A c L ov out i dp x bad (w.setCell ⟨g,4,none⟩ (.int .i64 x)):=
 ⟨by simp[World.setCell,Array.getElem?_modify,h.blk],h.hc,h.tk,h.ta,Kd.R_set h.ou h.blk (by decide) 4 (.int .i64 x),bput h.bl h.gb 4 (.int .i64 x),h.gb,h.hl,kput h.kp _ _,h.kn⟩
theorem RB.setB (h:RB w0 g A c L ov out i dp e bad w)(x:Int):RB w0 g A c L ov out i dp e x (w.setCell ⟨g,5,none⟩ (.int .i64 x)):=
 ⟨by simp[World.setCell,Array.getElem?_modify,h.blk],h.hc,h.tk,h.ta,Kd.R_set h.ou h.blk (by decide) 5 (.int .i64 x),bput h.bl h.gb 5 (.int .i64 x),h.gb,h.hl,kput h.kp _ _,h.kn⟩
theorem RB.newO (h:RB w0 g A c L ov out i dp e bad w)(hK:w0.kp=[]){w1:World}{v1:Value}{out1:List Nd}(hb:Below w0.heap.size w0 w1)(hg:w.grownBy w1 ov.ownBlock)(hR:Kd.R k37 37 w1 w0.heap.size (fun k=>k≠g) v1 (out1.map nd37)):RB w0 g A c L v1 out1 i dp e bad (w1.setCell ⟨g,2,none⟩ v1):=by
 have hb1:w1.heap[g]? =some (.cells #[.slice A L.length c,.int .i64 i,ov,.int .i64 dp,.int .i64 e,.int .i64 bad] 54):=(hg.block g h.lt (fun hh=>h.ou.1 _ hh.symm rfl)).trans h.blk
 exact⟨by simp[World.setCell,Array.getElem?_modify,hb1],h.hc,h.tk,h.ta,Kd.R_set hR hb1 (by decide) 2 v1,bput hb h.gb 2 v1,h.gb,h.hl,fun p hp=>(by rw[hK]at hp;cases hp),fun p hp=>by rw[hK]at hp;cases hp⟩
theorem RB.tok (h:RB w0 g A c L ov out i dp e bad w)(k:Nat)(hk:k<L.length):
 ∃tb o:Nat,A=some ⟨tb,o,none⟩∧w.cell? ⟨tb,o+k*4,none⟩=some (.int .i64 (L[k]'hk).f0)∧w.cell? ⟨tb,o+k*4+1,none⟩=some (.string (L[k]'hk).f1):=by
 obtain⟨ad,hA,q0,q1,q2,q3⟩:=at_T75 h.tk (k:Int) (by omega) (by omega)
 obtain⟨tb,o,rfl,hlt⟩:=h.ta ad hA;have e0:(Addr.add ⟨tb,o,none⟩ ((k:Int).toNat*4))=⟨tb,o+k*4,none⟩:=by
  simp[Addr.add];try(intros;omega)
 have hx:qY L (k:Int)=L[k]'hk:=by
  unfold qY;rw[xa,List.getD_eq_getElem?_getD,List.getElem?_eq_getElem hk];rfl
 rw[e0,hx]at q0 q1;exact⟨tb,o,hA,(zg h.bl _ hlt).trans q0,(zg h.bl _ hlt).trans q1⟩
end
def RSim (L:List S75)(last:S75)(i bad:Int)(s:PS):Prop:=(s.e=0→∃k:Nat,i=k∧k≤L.length∧L.drop k=s.toks)∧(s.e≠0→∃b:Nat,bad=b∧b≤L.length∧zC (L.drop b) last=(s.p0,s.p1))
def RBS (w0:WK)(g:Nat)(L:List S75)(last:S75)(out:List Nd)(dp:Int)(s:PS)(w:World):Prop:=∃A c ov i bad,RB w0 g A c L ov out i dp s.e bad w∧RSim L last i bad s
section
variable {w0:WK} {g:Nat} {L:List S75} {last:S75} {out:List Nd} {dp:Int} {s:PS} {w w':World}
theorem RBS.alloc (hK:w0.kp=[])(h:RBS w0 g L last out dp s w)(bk:Obj):RBS ⟨w0,[(w.heap.size,bk)]⟩ g L last out dp s (w.alloc bk):=by
 obtain⟨A,c,ov,i,bad,h1,h2⟩:=h;have hs:=h1.step ((xb w.heap.size w).alloc (xc _) bk);refine⟨A,c,ov,i,bad,⟨hs.blk,hs.hc,hs.tk,hs.ta,hs.ou,hs.bl,hs.gb,hs.hl,fun p hp=>?_,fun p hp=>?_⟩,h2⟩
 ·rw[List.mem_singleton.1 hp]
  exact⟨Nat.ne_of_gt h1.lt,j7 w bk⟩
 ·rw[List.mem_singleton.1 hp]
  exact⟨fun e=>Nat.lt_irrefl _ (Kd.R_lt h1.ou _ e),h1.bl.size⟩
theorem RBS.free (hK:w0.kp=[]){B:Nat}{bk:Obj}(h:RBS ⟨w0,[(B,bk)]⟩ g L last out dp s w):RBS w0 g L last out dp s w∧w.heap[B]? =some bk:=by
 obtain⟨A,c,ov,i,bad,h1,h2⟩:=h;exact⟨⟨A,c,ov,i,bad,⟨h1.blk,h1.hc,h1.tk,h1.ta,h1.ou,h1.bl,h1.gb,h1.hl,fun p hp=>(by rw[hK]at hp;cases hp),fun p hp=>(by rw[hK]at hp;cases hp)⟩,h2⟩,(h1.kp _ (List.mem_singleton.2 rfl)).2⟩
theorem RBS.put {B:Nat}{bk bk2:Obj}(h:RBS ⟨w0,[(B,bk)]⟩ g L last out dp s w)(i:Nat)(v:Value)(hb:(w.setCell ⟨B,i,none⟩ v).heap[B]? =some bk2):RBS ⟨w0,[(B,bk2)]⟩ g L last out dp s (w.setCell ⟨B,i,none⟩ v):=by
 obtain⟨A,c,ov,j,bad,h1,h2⟩:=h;have hg:=(h1.kp _ (List.mem_singleton.2 rfl)).1;obtain⟨ho,hn⟩:=h1.kn _ (List.mem_singleton.2 rfl);have hgr:=gst (World.grownBy.refl w (some B)) i v;refine⟨A,c,ov,j,bad,⟨(hgr.block g h1.lt (fun e=>hg (by injection e with e;exact e.symm))).trans h1.blk,h1.hc,h1.tk,h1.ta,Kd.R_grown1 h1.ou rfl hgr (fun e=>ho e.symm),bput h1.bl hn i v,h1.gb,h1.hl,fun p hp=>?_,fun p hp=>?_⟩,h2⟩
 ·rw[List.mem_singleton.1 hp]
  exact⟨hg,hb⟩
 ·rw[List.mem_singleton.1 hp]
  exact⟨ho,hn⟩
theorem RBS.anyI (h:RBS w0 g L last out dp s w)(he:s.e≠0):∃i:Int,w.cell? ⟨g,1,none⟩=some (.int .i64 i)∧w.frozen? ⟨g,1,none⟩=false∧∀x:Int,RBS w0 g L last out dp s (w.setCell ⟨g,1,none⟩ (.int .i64 x)):=by
 obtain⟨A,c,ov,i,bad,h1,h2⟩:=h;exact⟨i,h1.cells.2.1,h1.frozen 1,fun x=>⟨A,c,ov,x,bad,h1.setI x,fun h=>absurd h he,h2.2⟩⟩
theorem RBS.step (h:RBS w0 g L last out dp s w)(hb:Below w.heap.size w w'):RBS w0 g L last out dp s w':=by
 obtain⟨A,c,ov,i,bad,h1,h2⟩:=h;exact⟨A,c,ov,i,bad,h1.step hb,h2⟩
theorem rfail_t (h:RBS w0 g L last out dp s w)(er:Int)(hr:er≠0):Calls Tryz.prog 23 #[.pointer (some ⟨g,0,none⟩),.int .i64 er] w fun ex w'=>ex= .returned (.tuple #[])∧RBS w0 g L last out dp (s.fail er last) w':=by
 obtain⟨A,c,ov,i,bad,h1,h2⟩:=h;have HP:=zc.mk h1;obtain⟨c0,c1,c2,c3,c4,c5⟩:=h1.cells;have f4:=h1.frozen 4;have f5:=(h1.setE er).frozen 5;have d1:=(h1.setE er).cells.2.1;unfold PS.fail;by_cases he:s.e=0
 ·rw[if_pos he]
  obtain⟨k,rfl,hk,hd⟩:=h2.1 he;have HQ:=zc.mk ((h1.setE er).setB (k:Int));have HS:zc (RSim L last k k ⟨s.toks,er,(zC s.toks last).1,(zC s.toks last).2⟩):=⟨fun e=>absurd e hr,fun _=>⟨k,rfl,hk,by rw[hd]⟩⟩
  rw[he]at c4;clear h1 h2 hd HP;go_enter Tryz.func23,Tryz.ntmps23
  go_wp2_with fail;refine bodyPost_end (v:= .tuple #[]) (by simp[results,Tryz.f23,go_sem]) rfl ?_
  exact⟨rfl,A,c,ov,k,k,HQ.out,HS.out⟩
 ·rw[if_neg he]
  have HS:=zc.mk h2;generalize hse:s.e=se at*;clear h1 h2 f4 f5 d1;go_enter Tryz.func23,Tryz.ntmps23
  go_wp2_with fail;refine bodyPost_end (v:= .tuple #[]) (by simp[results,Tryz.f23,go_sem]) rfl ?_
  exact⟨rfl,A,c,ov,i,bad,by rw[hse];exact HP.out,HS.out⟩
theorem toks_at {k:Nat}(hd:L.drop k=s.toks):(¬k<L.length∧s.toks=[])∨∃h:k<L.length,s.toks=L[k]'h::L.drop (k+1):=by
 by_cases hk:k<L.length
 ·exact .inr ⟨hk,by rw[←hd,List.drop_eq_getElem_cons hk]⟩
 ·exact .inl ⟨hk,by rw[←hd];exact List.drop_eq_nil_of_le (by omega)⟩
theorem ris_t (h:RBS w0 g L last out dp s w)(kind:Int)(x:ByteArray):Calls Tryz.prog 53 #[.pointer (some ⟨g,0,none⟩),.int .i64 kind,.string x] w fun ex w'=>ex= .returned (.bool (s.has kind (fun t=>t.toList==x.toList)))∧RBS w0 g L last out dp s w':=by
 have HR:=zc.mk h;obtain⟨A,c,ov,i,bad,h1,h2⟩:=h;obtain⟨c0,c1,c2,c3,c4,c5⟩:=h1.cells;by_cases he:s.e=0
 ·obtain⟨k,rfl,hk,hd⟩:=h2.1 he
  have hl:=h1.hl;rw[he]at c4;rcases toks_at hd with⟨hn,ht⟩|⟨hlt,ht⟩
  ·have hv:s.has kind (fun t=>t.toList==x.toList)=false:=by unfold PS.has;rw[ht];rfl
   rw[hv];have h3:¬(k:Int)<(L.length:Int):=by omega
   clear h1 h2 hd he ht hv;go_enter Tryz.func53,Tryz.ntmps53
   go_wp2_with fail;go_quiet (fail)
   go_wp2_with fail;go_ret;exact⟨rfl,HR.out.step (ze (xb _ _) _)⟩
  ·have hv:s.has kind (fun t=>t.toList==x.toList)=(decide ((L[k]'hlt).f0=kind)&&((L[k]'hlt).f1.toList==x.toList)):=by unfold PS.has;rw[ht,he];rfl
   rw[hv];obtain⟨tb,o,rfl,q0,q1⟩:=h1.tok k hlt;have h3:(k:Int)<(L.length:Int):=by omega
   have h4:(0:Int)≤(k:Int):=by omega
   generalize (L[k]'hlt).f0=kd at*;generalize (L[k]'hlt).f1=tx at*;clear h1 h2 hd he ht hv;by_cases hkd:kd=kind
   ·subst hkd
    cases hx:(tx.toList==x.toList)
    all_goals
     go_enter Tryz.func53,Tryz.ntmps53
     go_wp2_with fail;go_quiet (fail)
     go_wp2_with fail;go_ret;exact⟨by simp[*],HR.out.step (ze (xb _ _) _)⟩
   ·go_enter Tryz.func53,Tryz.ntmps53
    go_wp2_with fail;go_quiet (fail)
    go_wp2_with fail;go_ret;exact⟨by simp[*],HR.out.step (ze (xb _ _) _)⟩
 ·have hv:s.has kind (fun t=>t.toList==x.toList)=false:=by
   unfold PS.has tkOK;cases s.toks with
   |nil=>rfl
   |cons t r=>simp[he]
  rw[hv];generalize s.e=se at*;have he2:decide (se=0)=false:=decide_eq_false he;have he3:(se==0)=false:=beq_eq_false_iff_ne.2 he;clear h1 h2 hv;go_enter Tryz.func53,Tryz.ntmps53
  go_wp2_with fail;go_quiet (fail)
  go_wp2_with fail;go_ret;exact⟨rfl,HR.out.step (ze (xb _ _) _)⟩
theorem RBS.tl {A c ov i bad}(h1:RB w0 g A c L ov out i dp s.e bad w)(h2:RSim L last i bad s)(he:s.e=0)(hne:s.toks≠[]):∃k:Nat,i=k∧IntKind.i64.wrap (i+1)=((k+1:Nat):Int)∧RBS w0 g L last out dp s.tl (w.setCell ⟨g,1,none⟩ (.int .i64 ((k+1:Nat):Int))):=by
 obtain⟨k,rfl,hk,hd⟩:=h2.1 he;have hl:=h1.hl;rcases toks_at hd with⟨hn,ht⟩|⟨hlt,ht⟩
 ·exact absurd ht hne
 ·refine⟨k,rfl,by simp[j9];omega,A,c,ov,_,bad,h1.setI _,fun _=>⟨k+1,rfl,hlt,?_⟩,fun h=>absurd he h⟩
  show _=s.toks.tail
  rw[ht];rfl
theorem rsign_t (h:RBS w0 g L last out dp s w)(x:ByteArray):Calls Tryz.prog 194 #[.pointer (some ⟨g,0,none⟩),.string x] w fun ex w'=>ex= .returned (.tuple #[])∧RBS w0 g L last out dp (s.must x last) w':=by
 have H1:=Lib.hid (ris_t h 2 x);have H2:=fun w h=>Lib.hid (rfail_t (w0:=w0) (g:=g) (L:=L) (last:=last) (out:=out) (dp:=dp) (s:=s) (w:=w) h 110 (by decide))
 unfold PS.must;by_cases hh:s.has 2 (fun t=>t.toList==x.toList)=true
 ·rw[if_pos hh]
  rw[hh]at H1;obtain⟨t,r,g1,g2,g3,g4⟩:=PS.has_cons hh;clear h H2 hh;go_enter Tryz.func194,Tryz.ntmps194
  go_wp2_with fail;refine H1.out.mono ?_;rintro ex w1 ⟨rfl,A,c,ov,i,bad,h1,h2⟩;obtain⟨c0,c1,c2,c3,c4,c5⟩:=h1.cells;have f1:=h1.frozen 1;obtain⟨k,rfl,hw,h3⟩:=RBS.tl h1 h2 g2 (by rw[g1];exact fun h=>by cases h)
  have H3:=zc.mk h3;clear h1 h2 h3 H1 c0 c2 c3 c4 c5 g1 g2;go_wp2_with fail;refine bodyPost_end (v:= .tuple #[]) (by simp[results,Tryz.f194,go_sem]) rfl ?_
  exact⟨rfl,H3.out⟩
 ·rw[if_neg hh]
  rw[Bool.eq_false_iff.2 hh]at H1;clear h hh;go_enter Tryz.func194,Tryz.ntmps194
  go_wp2_with fail;refine H1.out.mono ?_;rintro ex w1 ⟨rfl,h1⟩;have H3:=H2 w1 h1;clear h1 H2;go_wp2_with fail;refine H3.out.mono ?_;rintro ex w2 ⟨rfl,h2⟩;have H4:=zc.mk h2;clear h2 H3;go_wp2_with fail;refine bodyPost_end (v:= .tuple #[]) (by simp[results,Tryz.f194,go_sem]) rfl ?_
  exact⟨rfl,H4.out⟩
theorem rword_t (h:RBS w0 g L last out dp s w)(kind:Int):Calls Tryz.prog 161 #[.pointer (some ⟨g,0,none⟩),.int .i64 kind] w fun ex w'=>ex= .returned (.tuple #[.string (s.take kind (fun _=>true)).2.1,.bool (s.take kind (fun _=>true)).2.2])∧RBS w0 g L last out dp s w':=by
 have HR:=zc.mk h;obtain⟨A,c,ov,i,bad,h1,h2⟩:=h;obtain⟨c0,c1,c2,c3,c4,c5⟩:=h1.cells;unfold PS.take;by_cases he:s.e=0
 ·obtain⟨k,rfl,hk,hd⟩:=h2.1 he
  have hl:=h1.hl;rw[he]at c4;rcases toks_at hd with⟨hn,ht⟩|⟨hlt,ht⟩
  ·have hv:s.has kind (fun _=>true)=false:=by unfold PS.has;rw[ht];rfl
   rw[if_neg (by rw[hv];decide)]
   have h3:(L.length:Int)≤(k:Int):=by omega
   clear h1 h2 hd he ht hv;go_enter Tryz.func161,Tryz.ntmps161
   go_wp2_with fail;go_quiet (fail)
   go_wp2_with fail;refine bodyPost_ret (results_tmp2 rfl _ _ _) rfl ?_;exact⟨rfl,HR.out.step (ze (xb _ _) _)⟩
  ·have hv:s.has kind (fun _=>true)=decide ((L[k]'hlt).f0=kind):=by unfold PS.has;rw[ht,he];simp[tkOK]
   have hh:hdT s.toks=(L[k]'hlt).f1:=by rw[ht];rfl
   rw[hv,hh];obtain⟨tb,o,rfl,q0,q1⟩:=h1.tok k hlt;have h3:¬(L.length:Int)≤(k:Int):=by omega
   have h3':(k:Int)<(L.length:Int):=by omega
   have h4:(0:Int)≤(k:Int):=by omega
   generalize (L[k]'hlt).f0=kd at*;generalize (L[k]'hlt).f1=tx at*;clear h1 h2 hd he ht hv hh;by_cases hkd:kd=kind
   ·subst hkd
    rw[if_pos (by simp)]
    go_enter Tryz.func161,Tryz.ntmps161
    go_wp2_with fail;go_quiet (fail)
    have HR:=zc.mk (HR.out.step (ze (xb _ _) nq));have q0:(w.drewN nq).cell? _=_:=q0;have q1:(w.drewN nq).cell? _=_:=q1;have c0:(w.drewN nq).cell? _=_:=c0;have c1:(w.drewN nq).cell? _=_:=c1;generalize w.drewN nq=w1 at*;go_wp2_with fail;go_quiet (fail)
    have HR:=zc.mk (HR.out.step (ze (xb _ _) nq));have q0:(w1.drewN nq).cell? _=_:=q0;have q1:(w1.drewN nq).cell? _=_:=q1;have c0:(w1.drewN nq).cell? _=_:=c0;have c1:(w1.drewN nq).cell? _=_:=c1;generalize w1.drewN nq=w2 at*;go_wp2_with fail;go_quiet (fail)
    go_wp2_with fail;refine bodyPost_ret (results_tmp2 rfl _ _ _) rfl ?_;exact⟨rfl,HR.out.step (ze (xb _ _) _)⟩
   ·rw[if_neg (by simp[hkd])]
    go_enter Tryz.func161,Tryz.ntmps161
    go_wp2_with fail;go_quiet (fail)
    have HR:=zc.mk (HR.out.step (ze (xb _ _) nq));have q0:(w.drewN nq).cell? _=_:=q0;have c0:(w.drewN nq).cell? _=_:=c0;have c1:(w.drewN nq).cell? _=_:=c1;generalize w.drewN nq=w1 at*;go_wp2_with fail;go_quiet (fail)
    go_wp2_with fail;refine bodyPost_ret (results_tmp2 rfl _ _ _) rfl ?_;exact⟨rfl,HR.out.step (ze (xb _ _) _)⟩
 ·have hv:s.has kind (fun _=>true)=false:=by
   unfold PS.has tkOK;cases s.toks with
   |nil=>rfl
   |cons t r=>simp[he]
  rw[if_neg (by rw[hv];decide)]
  generalize s.e=se at*;clear h1 h2 hv;go_enter Tryz.func161,Tryz.ntmps161
  go_wp2_with fail;go_quiet (fail)
  go_wp2_with fail;refine bodyPost_ret (results_tmp2 rfl _ _ _) rfl ?_;exact⟨rfl,HR.out.step (ze (xb _ _) _)⟩
end
end Go.Proofs.YtjopepfemhckjaaGreatDoor.NW
end
section
namespace Go.Proofs.YtjopepfemhckjaaGreatDoor.NW
open Go.Proofs Go.RowKit Go.Shelf Go.Proofs.YtjopepfemhckjaaGreatDoor.PN Go.Proofs.YtjopepfemhckjaaGreatDoorW.PrintWords Go.Proofs.YtjopepfemhckjaaGreatDoor.PParseTells
def Rb (P:World→Prop)(f:FuncId)(args:Array Value)(v:Value)(P':World→Prop):Prop:=∀w,P w→Calls Tryz.prog f args w fun e w'=>e= .returned v∧P' w'
theorem Rb.go {P P':World→Prop}{f:FuncId}{args:Array Value}{v:Value}(h:Rb P f args v P'){w:World}(H:zc (P w)){Q:_}(K:∀w',zc (P' w')→Q (.returned v) w'):Calls Tryz.prog f args w Q:=by
 refine(h w H.out).mono ?_;rintro e w' ⟨rfl,hb⟩;exact K w' ⟨hb⟩
section
variable {w0:WK} {g:Nat} {L:List S75} {last:S75} {out:List Nd} {dp:Int} {s:PS}
theorem qi (s:PS)(er:Int)(hr:er≠0):Rb (RBS w0 g L last out dp s) 23 #[.pointer (some ⟨g,0,none⟩),.int .i64 er] (.tuple #[]) (RBS w0 g L last out dp (s.fail er last)):=fun w h=>rfail_t h er hr
theorem qb (s:PS)(x:ByteArray):Rb (RBS w0 g L last out dp s) 194 #[.pointer (some ⟨g,0,none⟩),.string x] (.tuple #[]) (RBS w0 g L last out dp (s.must x last)):=fun w h=>rsign_t h x
theorem jC (s:PS)(kind:Int)(x:ByteArray):Rb (RBS w0 g L last out dp s) 53 #[.pointer (some ⟨g,0,none⟩),.int .i64 kind,.string x] (.bool (s.has kind (fun t=>t.toList==x.toList))) (RBS w0 g L last out dp s):=fun w h=>ris_t h kind x
theorem qX (s:PS)(kind:Int):Rb (RBS w0 g L last out dp s) 161 #[.pointer (some ⟨g,0,none⟩),.int .i64 kind] (.tuple #[.string (s.take kind (fun _=>true)).2.1,.bool (s.take kind (fun _=>true)).2.2]) (RBS w0 g L last out dp s):=fun w h=>rword_t h kind
theorem has_kind {s:PS}{kind:Int}{p:ByteArray→Bool}:s.has kind p=(s.has kind (fun _=>true)&&p (hdT s.toks)):=by
 unfold PS.has;cases s.toks with
 |nil=>rfl
 |cons t r=>simp[tkOK,hdT]
theorem rday_b (s:PS)(hsz:SzOK s)(lo hi:Int):Rb (RBS w0 g L last out dp s) 198 #[.pointer (some ⟨g,0,none⟩),.int .i64 lo,.int .i64 hi] (.int .i64 (s.day last lo hi).2) (RBS w0 g L last out dp (s.day last lo hi).1):=by
 intro w h;have HR:=zc.mk h;have H1:=qX (w0:=w0) (g:=g) (L:=L) (last:=last) (out:=out) (dp:=dp) s 1;have HF:=qi (w0:=w0) (g:=g) (L:=L) (last:=last) (out:=out) (dp:=dp) s 110 (by decide)
 clear h;unfold PS.take at H1;unfold PS.day PS.nat;rw[has_kind (p:=fun t=>isNatB t.data.toList&&dayP lo hi t)]
 cases hh:s.has 1 (fun _=>true)with
 |false=>
  rw[hh,if_neg (by decide)]at H1
  have HS:=rsmall_at ⟨#[]⟩ (by decide)
  rw[jw]at HS;rw[if_neg (by simp)]
  show Calls _ _ _ _ fun e w'=>e= .returned (.int .i64 (zw ⟨#[]⟩).1)∧RBS w0 g L last out dp (s.fail 110 last) w'
  rw[jw];clear hh hsz;go_enter Tryz.func198,Tryz.ntmps198
  go_wp2_with(with_reducible refine H1.go HR ?_;clear HR;intro w1 HR)
  refine(HS w1).mono ?_;rintro e w2 ⟨rfl,hb⟩;have HR2:=zc.mk (HR.out.step hb);clear HR hb;go_wp2_with(with_reducible refine HF.go HR2 ?_;clear HR2;intro w3 HR2)
  go_ret;exact⟨rfl,HR2.out⟩
 |true=>
  obtain⟨t,r,g1,g2,g3,_⟩:=PS.has_cons hh;have hht:hdT s.toks=t.f1:=by rw[g1];rfl
  have hts:=hsz t (by rw[g1];exact List.mem_cons_self ..)
  rw[hh,if_pos rfl,hht]at H1;have HS:=rsmall_at t.f1 hts;rw[Bool.true_and,hht];have hsn:(zw t.f1).2=true→isNatB t.f1.data.toList=true:=by
   intro h;cases hb:isNatB t.f1.data.toList with
   |true=>rfl
   |false=>rw[small_no hb]at h;cases h
  unfold dayP;generalize isNatB t.f1.data.toList=nb at*;generalize hn:(zw t.f1).1=n at*;generalize hsm:(zw t.f1).2=sm at*;by_cases hc:sm=true∧lo≤n∧n≤hi∧n≤9999
  ·obtain⟨rfl,c1,c2,c3⟩:=hc
   rw[if_pos (by rw[hsn rfl];simp;omega)]
   show Calls _ _ _ _ fun e w'=>e= .returned (.int .i64 (zw t.f1).1)∧RBS w0 g L last out dp s.tl w'
   rw[hn];generalize t.f1=tx at*;have d1:¬n<lo:=by omega
   have d2:¬hi<n:=by omega
   have d3:¬(9999:Int)<n:=by omega
   clear hh hsz hsn hn hsm HF hht;go_enter Tryz.func198,Tryz.ntmps198
   go_wp2_with(with_reducible refine H1.go HR ?_;clear HR;intro w1 HR)
   refine(HS w1).mono ?_;rintro e w2 ⟨rfl,hb⟩;have HR2:=HR.out.step hb;obtain⟨A,c,ov,i,bad,h1,h2⟩:=HR2;obtain⟨q0,q1,q2,q3,q4,q5⟩:=h1.cells;have f1:=h1.frozen 1;obtain⟨k,rfl,hw,h3⟩:=RBS.tl h1 h2 g2 (by rw[g1];exact fun h=>by cases h)
   have H3:=zc.mk h3;clear h1 h2 h3 q0 q2 q3 q4 q5 g1 g2 HR hb;go_wp2_with fail;go_ret;exact⟨rfl,H3.out⟩
  ·rw[if_neg (by
    intro h;simp only[Bool.and_eq_true,decide_eq_true_eq]at h;exact hc ⟨h.2.1.1,h.2.1.2,by omega,by omega⟩)]
   show Calls _ _ _ _ fun e w'=>e= .returned (.int .i64 (zw ⟨#[]⟩).1)∧RBS w0 g L last out dp (s.fail 110 last) w'
   rw[jw];generalize t.f1=tx at*;have hd:sm=false∨(sm=true∧n<lo)∨(sm=true∧¬n<lo∧hi<n)∨(sm=true∧¬n<lo∧¬hi<n∧9999<n):=by
    cases sm with
    |false=>exact .inl rfl
    |true=>right;simp at hc ⊢;omega
   clear hh hsz hsn hn hsm hht hc g1 g2;rcases hd with rfl|⟨rfl,d1⟩|⟨rfl,d1,d2⟩|⟨rfl,d1,d2,d3⟩
   all_goals
    go_enter Tryz.func198,Tryz.ntmps198
    go_wp2_with(with_reducible refine H1.go HR ?_;clear HR;intro w1 HR)
    refine(HS w1).mono ?_;rintro e w2 ⟨rfl,hb⟩;have HR2:=zc.mk (HR.out.step hb);clear HR hb;go_wp2_with(with_reducible refine HF.go HR2 ?_;clear HR2;intro w3 HR2)
    go_ret;exact⟨rfl,HR2.out⟩
theorem rnatural_b (s:PS)(hsz:SzOK s)(z:Bool)(p:ByteArray→Bool)(hp:p=if z=true then fewP else qI):Rb (RBS w0 g L last out dp s) 196 #[.pointer (some ⟨g,0,none⟩),.bool z] (.string (s.nat p last).2) (RBS w0 g L last out dp (s.nat p last).1):=by
 intro w h;have HR:=zc.mk h;have H1:=qX (w0:=w0) (g:=g) (L:=L) (last:=last) (out:=out) (dp:=dp) s 1;have HF:=qi (w0:=w0) (g:=g) (L:=L) (last:=last) (out:=out) (dp:=dp) s 110 (by decide)
 clear h;unfold PS.take at H1;unfold PS.nat;rw[has_kind (p:=fun t=>isNatB t.data.toList&&p t)]
 cases hh:s.has 1 (fun _=>true)with
 |false=>
  rw[hh,if_neg (by decide)]at H1
  rw[if_neg (by simp)]
  clear hh hsz hp;go_enter Tryz.func196,Tryz.ntmps196
  go_wp2_with(first|(with_reducible refine H1.go HR ?_;clear HR;intro w1 HR)|(with_reducible refine HF.go HR ?_;clear HR;intro w1 HR))
  go_ret;exact⟨rfl,HR.out⟩
 |true=>
  obtain⟨t,r,g1,g2,g3,_⟩:=PS.has_cons hh;have hht:hdT s.toks=t.f1:=by rw[g1];rfl
  have hts:=hsz t (by rw[g1];exact List.mem_cons_self ..)
  rw[hh,if_pos rfl,hht]at H1;have HM:Rs _ _ _:=rmay_w t.f1 hts;rw[Bool.true_and,hht];have hpt:p t.f1=(decide (t.f1.size≤60)&&(z|| !(t.f1.toList==[48]))):=by
   rw[hp];cases z
   ·rw[if_neg (by decide)];rfl
   ·rw[if_pos rfl,Bool.true_or,Bool.and_true];rfl
  rw[hpt];generalize isNatB t.f1.data.toList=nb at*;generalize hz:(t.f1.toList==([48]:List UInt8))=tz at*;generalize t.f1=tx at*;clear hh hsz hp hht hpt;by_cases hc:nb=true∧tx.size≤60∧(z|| !tz)=true
  ·obtain⟨rfl,c1,c2⟩:=hc
   rw[if_pos (by simp[c1,c2])]
   have d1:¬(60:Int)<(tx.size:Int):=by omega
   clear HF;have hzz:z=true∨(z=false∧tz=false):=by cases z<;>cases tz<;>simp at c2 ⊢
   clear c2;rcases hzz with rfl|⟨rfl,rfl⟩
   ·cases tz
    all_goals
     go_enter Tryz.func196,Tryz.ntmps196
     go_wp2_with fail;refine H1.go HR ?_;clear HR;intro w1 HR;obtain⟨A,c,ov,i,bad,h1,h2⟩:=HR.out;obtain⟨q0,q1,q2,q3,q4,q5⟩:=h1.cells;have f1:=h1.frozen 1;obtain⟨k,rfl,hw,h3⟩:=RBS.tl h1 h2 g2 (by rw[g1];exact fun h=>by cases h)
     have H3:=zc.mk h3;clear h1 h2 h3 q0 q2 q3 q4 q5 HR;go_wp2_with(with_reducible refine HM.go ?_)
     go_ret;exact⟨rfl,H3.out⟩
   ·go_enter Tryz.func196,Tryz.ntmps196
    go_wp2_with fail;refine H1.go HR ?_;clear HR;intro w1 HR;obtain⟨A,c,ov,i,bad,h1,h2⟩:=HR.out;obtain⟨q0,q1,q2,q3,q4,q5⟩:=h1.cells;have f1:=h1.frozen 1;obtain⟨k,rfl,hw,h3⟩:=RBS.tl h1 h2 g2 (by rw[g1];exact fun h=>by cases h)
    have H3:=zc.mk h3;clear h1 h2 h3 q0 q2 q3 q4 q5 HR;go_wp2_with(with_reducible refine HM.go ?_)
    go_ret;exact⟨rfl,H3.out⟩
  ·rw[if_neg (by
    intro h;simp only[Bool.and_eq_true,decide_eq_true_eq]at h;exact hc ⟨h.1,h.2.1,h.2.2⟩)]
   have hd:nb=false∨(nb=true∧(60:Int)<(tx.size:Int))∨(nb=true∧¬(60:Int)<(tx.size:Int)∧z=false∧tz=true):=by
    cases nb with
    |false=>exact .inl rfl
    |true=>
     right
     by_cases h6:tx.size≤60
     ·right
      cases z<;>cases tz<;>simp[h6]at hc ⊢
      omega
     ·exact .inl ⟨rfl,by omega⟩
   clear hc g1 g2;rcases hd with rfl|⟨rfl,d1⟩|⟨rfl,d1,rfl,rfl⟩
   all_goals
    go_enter Tryz.func196,Tryz.ntmps196
    go_wp2_with(first|(with_reducible refine H1.go HR ?_;clear HR;intro w1 HR)|(with_reducible refine HM.go ?_)|(with_reducible refine HF.go HR ?_;clear HR;intro w1 HR))
    go_ret;exact⟨rfl,HR.out⟩
theorem push_at (s:PS)(dp:Int)(last:S75)(hk:∀t∈s.toks,t.f1.toList=[40]→t.f0=2):s.push dp last=(if s.has 2 (fun t=>t.toList==(⟨#[40]⟩:xf).toList)=true∧200≤dp then s.fail 111 last else s).must ⟨#[40]⟩ last:=by
 unfold PS.push;have e40:(⟨#[40]⟩:xf).toList=[40]:=by rw[ByteArray.toList_eq]
 by_cases he:s.e=0
 ·by_cases hc:(hdT s.toks).toList=[40]∧200≤dp
  ·rw[if_pos hc,if_pos]
   refine⟨?_,hc.2⟩;unfold PS.has;cases ht:s.toks with
   |nil=>rw[ht]at hc;exact absurd hc.1 (by show¬(⟨#[]⟩:xf).toList=[40];rw[ByteArray.toList_eq];decide)
   |cons t r=>
    rw[ht]at hc;have h1:t.f1.toList=[40]:=hc.1;have h2:=hk t (by rw[ht];exact List.mem_cons_self ..) h1
    simp[tkOK,he,h1,h2,e40]
  ·rw[if_neg hc,if_neg]
   rintro⟨h1,h2⟩;obtain⟨t,r,g1,g2,g3,g4⟩:=PS.has_cons h1;refine hc ⟨?_,h2⟩;rw[g1];show t.f1.toList=_
   rw[←e40];exact eq_of_beq g4
 ·have h1:s.fail 111 last=s:=by unfold PS.fail;rw[if_neg he]
  rw[h1];simp
theorem ropen_b (s:PS)(hk:∀t∈s.toks,t.f1.toList=[40]→t.f0=2)(hdp:0≤dp∧dp≤100000):Rb (RBS w0 g L last out dp s) 159 #[.pointer (some ⟨g,0,none⟩)] (.tuple #[]) (RBS w0 g L last out (dp+1) (s.push dp last)):=by
 intro w h;have HR:=zc.mk h;rw[push_at s dp last hk];have H1:=jC (w0:=w0) (g:=g) (L:=L) (last:=last) (out:=out) (dp:=dp) s 2 ⟨#[40]⟩;have HF:=qi (w0:=w0) (g:=g) (L:=L) (last:=last) (out:=out) (dp:=dp) s 111 (by decide)
 have HS:=fun s=>qb (w0:=w0) (g:=g) (L:=L) (last:=last) (out:=out) (dp:=dp) s ⟨#[40]⟩
 have hw:IntKind.i64.wrap (dp+1)=dp+1:=by simp[j9];omega
 clear h hk;generalize s.has 2 (fun t=>t.toList==(⟨#[40]⟩:xf).toList)=b at*
 have fin:∀s1 w1,RBS w0 g L last out dp s1 w1→∃A c ov i bad,RB w0 g A c L ov out i dp s1.e bad w1∧RBS w0 g L last out (dp+1) s1 (w1.setCell ⟨g,3,none⟩ (.int .i64 (dp+1))):=by
  rintro s1 w1 ⟨A,c,ov,i,bad,h1,h2⟩;exact⟨A,c,ov,i,bad,h1,A,c,ov,i,bad,h1.setD (dp+1),h2⟩
 by_cases hc:b=true∧200≤dp
 ·obtain⟨rfl,hd⟩:=hc
  rw[if_pos ⟨rfl,hd⟩];have HS2:=HS (s.fail 111 last);go_enter Tryz.func159,Tryz.ntmps159
  go_wp2_with fail;refine H1.go HR ?_;clear HR;intro w1 HR;have q3:w1.cell? ⟨g,3,none⟩=some (.int .i64 dp):=by obtain⟨A,c,ov,i,bad,h1,_⟩:=HR.out;exact h1.cells.2.2.2.1
  go_wp2_with fail;refine HF.go HR ?_;clear HR q3;intro w2 HR;go_wp2_with fail;refine HS2.go HR ?_;clear HR;intro w3 HR;obtain⟨A,c,ov,i,bad,h1,h2⟩:=fin _ _ HR.out;have q3:=h1.cells.2.2.2.1;have f3:=h1.frozen 3;have H2:=zc.mk h2;clear h1 h2 HR;go_wp2_with fail;refine bodyPost_end (v:= .tuple #[]) (by simp[results,Tryz.f159,go_sem]) rfl ?_
  exact⟨rfl,H2.out⟩
 ·rw[if_neg hc]
  have HS2:=HS s;have hd:b=false∨(b=true∧¬200≤dp):=by cases b<;>simp at hc ⊢;omega
  clear hc HF;rcases hd with rfl|⟨rfl,hd⟩
  all_goals
   go_enter Tryz.func159,Tryz.ntmps159
   go_wp2_with fail;refine H1.go HR ?_;clear HR;intro w1 HR;have q3:w1.cell? ⟨g,3,none⟩=some (.int .i64 dp):=by obtain⟨A,c,ov,i,bad,h1,_⟩:=HR.out;exact h1.cells.2.2.2.1
   go_wp2_with fail;refine HS2.go HR ?_;clear HR q3;intro w3 HR;obtain⟨A,c,ov,i,bad,h1,h2⟩:=fin _ _ HR.out;have q3:=h1.cells.2.2.2.1;have f3:=h1.frozen 3;have H2:=zc.mk h2;clear h1 h2 HR;go_wp2_with fail;refine bodyPost_end (v:= .tuple #[]) (by simp[results,Tryz.f159,go_sem]) rfl ?_
   exact⟨rfl,H2.out⟩
theorem rshut_b (s:PS)(hdp: -100000≤dp∧dp≤100000):Rb (RBS w0 g L last out dp s) 160 #[.pointer (some ⟨g,0,none⟩)] (.tuple #[]) (RBS w0 g L last out (dp-1) (s.must ⟨#[41]⟩ last)):=by
 intro w h;have HR:=zc.mk h;have HS2:=qb (w0:=w0) (g:=g) (L:=L) (last:=last) (out:=out) (dp:=dp) s ⟨#[41]⟩;have hw:IntKind.i64.wrap (dp-1)=dp-1:=by simp[j9];omega
 clear h;go_enter Tryz.func160,Tryz.ntmps160
 go_wp2_with fail;refine HS2.go HR ?_;clear HR;intro w3 HR;obtain⟨A,c,ov,i,bad,h1,h2⟩:=HR.out;have q3:=h1.cells.2.2.2.1;have f3:=h1.frozen 3;have H2:zc (RBS w0 g L last out (dp-1) (s.must ⟨#[41]⟩ last) (w3.setCell ⟨g,3,none⟩ (.int .i64 (dp-1)))):=⟨A,c,ov,i,bad,h1.setD (dp-1),h2⟩;clear h1 h2 HR;go_wp2_with fail;refine bodyPost_end (v:= .tuple #[]) (by simp[results,Tryz.f160,go_sem]) rfl ?_
 exact⟨rfl,H2.out⟩
end
end Go.Proofs.YtjopepfemhckjaaGreatDoor.NW
end
section
namespace Go.Proofs.YtjopepfemhckjaaGreatDoor.NW
open Go.Proofs Go.RowKit Go.Shelf Go.Proofs.YtjopepfemhckjaaGreatDoor.PN Go.Proofs.YtjopepfemhckjaaGreatDoorW.PrintWords Go.Proofs.YtjopepfemhckjaaGreatDoor.PParseTells
structure NumB2 (s:ByteArray) (z:Int) (d:Nat):Prop where
 nn:0≤z
 run:∀w,Glob w→Calls Tryz.prog 40 #[.string s] w fun e w'=>e= .returned (.tuple #[ratV z d,.int .i64 0])∧Below w.heap.size w w'
 ref:Rt 195 #[.string s] (.tuple #[ratV z d,.int .i64 0])
 pos:0<d
 gcd:z.natAbs.gcd d=1
theorem rnum_nn (n:Nat)(d:Nat):0≤rnum (n:Int) d:=by
 unfold rnum;rw[if_neg (by omega)]
 exact Int.natCast_nonneg _
theorem num_both (s:ByteArray)(h:NumX s):∃z d,NumB2 s z d:=by
 obtain⟨hs,a,ha,hna,h|⟨b,hb,hnb,h⟩⟩:=h
 ·have h1:=jy (dv s.data.toList) 1 (by omega)
  have hd:allD s.data.toList:=by rw[h];exact ha
  have h0:0<s.size:=by rw[←zv,h];exact List.length_pos_iff.2 hna
  exact⟨_,_,rnum_nn _ _,fun w hg=>decInt_at BigM (jf BigM) (by unfold BigM;exact Nat.one_lt_pow (by omega) (by omega)) s hd (by rw[h];exact hna) (by omega) w hg,rparse4_int s hd h0 (by omega),h1.1,h1.2.2⟩
 ·have hz:s.size=a.length+(b.length+1):=by
   show s.data.toList.length=_
   rw[h,List.length_append,List.length_cons]
  have h1:=jy (dv (a++b)) (10^b.length) (Nat.pow_pos (by omega))
  refine⟨rnum (dv (a++b):Int) (10^b.length),rden (dv (a++b):Int) (10^b.length),rnum_nn _ _,fun w hg=>?_,rparse4_frac s a b h ha hb hna hnb (by omega),h1.1,h1.2.2⟩
  have h2:=decFrac_at BigM (jf BigM) a b (Nat.pow_lt_pow_right (by omega) (by omega)) ha hb hna hnb (by omega) w hg
  rw[←h]at h2;rw[mkB]at h2;exact h2
theorem NumB2.short {s:ByteArray}{z:Int}{d:Nat}(h:NumB2 s z d):((intS z).size≤60∧(natS d).size≤60∧NumT s z d∧NdOK BigM (.num z d))∨(¬((intS z).size≤60∧(natS d).size≤60)∧NumB s z d):=by
 have h2:=short_tot z d;have e:(intS z).size=(natS z.natAbs).size:=by rw[jc (by have:=h.nn;omega)]
 rw[e];by_cases hc:(natS z.natAbs).size≤60∧(natS d).size≤60
 ·rw[decide_eq_true hc.1,decide_eq_true hc.2]at h2
  exact .inl ⟨hc.1,hc.2,⟨h.run,h2⟩,jL z d h.pos h.gcd hc.1 hc.2⟩
 ·refine .inr ⟨hc,h.run,?_⟩
  rw[h2];congr 1
  rw[Bool.and_eq_false_iff,decide_eq_false_iff_not,decide_eq_false_iff_not];omega
section
variable {w0:WK} {g:Nat} {L:List S75} {last:S75} {out:List Nd} {dp:Int} {s:PS}
theorem qO (s:PS)(hc:s.has 1 (fun _=>true)=false∨∃z d,s.has 1 (fun _=>true)=true∧Rt 195 #[.string (hdT s.toks)] (.tuple #[ratV z d,.int .i64 0])∧¬((intS z).size≤60∧(natS d).size≤60)):Rb (RBS w0 g L last out dp s) 162 #[.pointer (some ⟨g,0,none⟩)] (.tuple #[]) (RBS w0 g L last out dp (s.fail 110 last)):=by
 intro w h;have HR:=zc.mk h;have H1:=qX (w0:=w0) (g:=g) (L:=L) (last:=last) (out:=out) (dp:=dp) s 1;have HF:=qi (w0:=w0) (g:=g) (L:=L) (last:=last) (out:=out) (dp:=dp) s 110 (by decide)
 clear h;unfold PS.take at H1;rcases hc with hh|⟨z,d,hh,HS,hb⟩
 ·rw[hh,if_neg (by decide)]at H1
  have HS:=rparse4_no;clear hh;go_enter Tryz.func162,Tryz.ntmps162
  go_wp2_with(with_reducible refine H1.go HR ?_;clear HR;intro w1 HR)
  refine(HS w1).mono ?_;rintro e w2 ⟨rfl,hb⟩;have HR2:=zc.mk ((HR.out.step hb).step ((xb w2.heap.size w2).alloc (xc _) (.cells #[.string ⟨#[]⟩,.string ⟨#[]⟩] 35)));clear HR hb;go_wp2_with(with_reducible refine HF.go HR2 ?_;clear HR2;intro w3 HR2)
  refine bodyPost_ret (v:= .tuple #[]) (by simp[results,Tryz.f162,go_sem]) rfl ?_
  exact⟨rfl,HR2.out⟩
 ·rw[hh,if_pos rfl]at H1
  generalize hdT s.toks=tx at*;unfold ratV at HS;generalize intS z=xn at*;generalize natS d=xd at*;have hd:(60:Int)<(xn.size:Int)∨(¬(60:Int)<(xn.size:Int)∧(60:Int)<(xd.size:Int)):=by omega
  clear hh hb;rcases hd with hd|⟨hd,hd2⟩
  all_goals
   go_enter Tryz.func162,Tryz.ntmps162
   go_wp2_with(with_reducible refine H1.go HR ?_;clear HR;intro w1 HR)
   refine(HS w1).mono ?_;rintro e w2 ⟨rfl,hb⟩;have HR2:=zc.mk ((HR.out.step hb).step ((xb w2.heap.size w2).alloc (xc _) (.cells #[.string xn,.string xd] 35)));have N9:=j7 w2 (.cells #[.string xn,.string xd] 35);have m1:(w2.alloc (.cells #[.string xn,.string xd] 35)).cell? ⟨w2.heap.size,0,none⟩=some (.string xn):=by rw[j6 N9];rfl
   have m2:(w2.alloc (.cells #[.string xn,.string xd] 35)).cell? ⟨w2.heap.size,1,none⟩=some (.string xd):=by rw[j6 N9];rfl
   clear HR hb N9;go_wp2_with(with_reducible refine HF.go HR2 ?_;clear HR2;intro w3 HR2)
   refine bodyPost_ret (v:= .tuple #[]) (by simp[results,Tryz.f162,go_sem]) rfl ?_
   exact⟨rfl,HR2.out⟩
theorem rnumber_ok (hK:w0.kp=[])(s:PS)(hh:s.has 1 (fun _=>true)=true)(z:Int)(d:Nat)(HS:Rt 195 #[.string (hdT s.toks)] (.tuple #[ratV z d,.int .i64 0]))(h1:(intS z).size≤60)(h2:(natS d).size≤60)(hout:out.length≤100000):Rb (RBS w0 g L last out dp s) 162 #[.pointer (some ⟨g,0,none⟩)] (.tuple #[]) (RBS w0 g L last (out++[.num z d]) dp s.tl):=by
 intro w h;have HR:=zc.mk h;have HK:=zc.mk hK;clear hK;have H1:=qX (w0:=w0) (g:=g) (L:=L) (last:=last) (out:=out) (dp:=dp) s 1;have HO:=zc.mk hout;clear h hout;unfold PS.take at H1;rw[hh,if_pos rfl]at H1;obtain⟨t,r,g1,g2,g3,_⟩:=PS.has_cons hh;generalize hdT s.toks=tx at*;unfold ratV at HS;have HND:zc (nd37 (.num z d)=(⟨0,⟨intS z,natS d⟩,⟨#[]⟩,0,0⟩:S37)):=⟨rfl⟩;have hd1:¬(60:Int)<((intS z).size:Int):=by omega
 have hd2:¬(60:Int)<((natS d).size:Int):=by omega
 generalize intS z=xn at*;generalize natS d=xd at*;clear hh h1 h2;go_enter Tryz.func162,Tryz.ntmps162
 go_wp2_with(with_reducible refine H1.go HR ?_;clear HR;intro w1 HR)
 refine(HS w1).mono ?_;rintro e w2 ⟨rfl,hb⟩;have HR2:=(HR.out.step hb).step ((xb w2.heap.size w2).alloc (xc _) (.cells #[.string xn,.string xd] 35));have N9:=j7 w2 (.cells #[.string xn,.string xd] 35);have hgw:g<w2.heap.size:=by obtain⟨A,c,ov,i,bad,h1,_⟩:=HR.out.step hb;exact h1.lt
 go_upto_region 2 with(fail)
 generalize w2.alloc (.cells #[.string xn,.string xd] 35)=w3 at*;generalize w2.heap.size=B at*;have m1:w3.cell? ⟨B,0,none⟩=some (.string xn):=by rw[j6 N9];rfl
 have m2:w3.cell? ⟨B,1,none⟩=some (.string xd):=by rw[j6 N9];rfl
 obtain⟨A,c,ov,i,bad,h3,h4⟩:=HR2;have q1:=h3.cells.2.1;have f1:=h3.frozen 1;obtain⟨k,rfl,hw,h5⟩:=RBS.tl h3 h4 g2 (by rw[g1];exact fun h=>by cases h)
 obtain⟨A2,c2,ov2,i2,bad2,h6,h7⟩:=h5;obtain⟨K,hK⟩:∃K,k+1=K:=⟨_,rfl⟩;rw[hK]at hw h6;have NA:=zc.mk ((Below.heap_setCell w3 ⟨g,1,none⟩ (.int .i64 (K:Int)) B (by show B≠g;omega)).trans N9)
 have HQ:=zc.mk h6;have HSm:=zc.mk h7;clear h3 h4 h6 h7 HR hb g1 g2 N9;go_wp2_with fail;generalize w3.setCell ⟨g,1,none⟩ (.int .i64 (K:Int))=wk at*;clear m1 m2 q1 f1;have m1:wk.cell? ⟨B,0,none⟩=some (.string xn):=by rw[j6 NA.out];rfl
 have m2:wk.cell? ⟨B,1,none⟩=some (.string xd):=by rw[j6 NA.out];rfl
 obtain⟨d0,d1,d2,d3,d4,d5⟩:=HQ.out.cells;obtain⟨r0,r1,r2,r3,r4,r5⟩:=(HQ.out.step ((xb _ _).drew)).cells;have hbytes:((out.map nd37).length+1)*72≤140737488355328:=by rw[List.length_map];have:=HO.out;omega
 have HQD:=zc.mk (HQ.out.step ((xb _ _).drew));have hgl:=HQ.out.lt;go_region_law ((refine Kd.R_append_step k37 (w0:=w0) (W:=wk.drew) w0.heap.size (by rfl) (.tmp 47) (.tmp 50) 24 37 (.agg #[.int .i64 0,.string ⟨#[]⟩,.string ⟨#[]⟩,.string ⟨#[]⟩,.int .i64 0,.int .i64 0]) 72 (by rfl) Tryz.underlying24 zS (by rfl) (by decide) (by omega) ov2 (out.map nd37) (⟨0,⟨xn,xd⟩,⟨#[]⟩,0,0⟩:S37) [.int .i64 0,.string xn,.string xd,.string ⟨#[]⟩,.int .i64 0,.int .i64 0] (fun k=>k≠g) (fun _=>False) (by rfl) (by rfl) (zE _ _ _ (⟨0,⟨xn,xd⟩,⟨#[]⟩,0,0⟩:S37)) (fun _ hk=>hk.elim) (fun k hk=>by have:=HQ.out.lt;have:=HQD.out.lt;omega) HQD.out.ou HQD.out.bl HQD.out.bl.size hbytes ?_;intro v1 w1 hv1 hb1 hg1 ho1;have hl1:(out.map nd37++[(⟨0,⟨xn,xd⟩,⟨#[]⟩,0,0⟩:S37)]).length=out.length+1:=(by simp);obtain⟨Av,cv,hvv⟩:=Kd.R_slice hv1;rw[hl1]at hvv;subst hvv;have hk1:=(hg1.block g HQD.out.lt (fun hh=>HQD.out.ou.1 _ hh.symm rfl)).trans HQD.out.blk;have hz1:w1.frozen? ⟨g,2,none⟩=false:=Lib.frozen_of_heap hk1 2;have hc1:w1.cell? ⟨g,2,none⟩=some ov2:=(by rw[j6 hk1];rfl);clear hk1))
 all_goals(
  have HQ6:=HQD.out.newO HK.out hb1 hg1 (out1:=out++[.num z d]) (by rw[List.map_append,List.map_cons,List.map_nil,HND.out];exact hv1)
  go_wp2_with fail;first
  |(refine bodyPost_end (v:= .tuple #[]) (by simp[results,Tryz.f162,go_sem]) rfl ?_;exact⟨rfl,A2,c2,_,i2,bad2,HQ6,HSm.out⟩)
  |(refine bodyPost_end (v:= .tuple #[]) (by simp[results,Tryz.f162,go_sem]) rfl ?_;exact⟨rfl,A2,c2,_,i2,bad2,HQ6.step ((xb _ _).drew),HSm.out⟩))
end
end Go.Proofs.YtjopepfemhckjaaGreatDoor.NW
end
