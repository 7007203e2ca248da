/-
  Part 16 of the proof of parseTells_holds: texts of this seat, put together.
-/
import Derived.Test.YtjopepfemhckjaaGreatDoorTl15
set_option linter.unusedVariables false
set_option linter.unusedSimpArgs false
set_option maxHeartbeats 16000000
set_option maxRecDepth 100000
section
namespace Go.Proofs.YtjopepfemhckjaaGreatDoor.NW
open Go.Proofs Go.RowKit Go.Shelf Go.Proofs.YtjopepfemhckjaaGreatDoor.PN Go.Proofs.YtjopepfemhckjaaGreatDoorW.PrintWords Go.Proofs.YtjopepfemhckjaaGreatDoor.PParseTells
structure S82 where
 f0:Int
 f1:Int
 f2:Int
def k82:Kd S82:=Kd.iso (Kd.pair (Kd.int .i64) (Kd.pair (Kd.int .i64) (Kd.int .i64))) (fun x:S82=>(x.f0,x.f1,x.f2))
def z82:S82:=⟨0,0,0⟩
theorem k82_open {w:World}{x:S82}{cs:List Value}(h:k82.K w x cs):cs=[.int .i64 x.f0,.int .i64 x.f1,.int .i64 x.f2]:=by
 obtain⟨_,_,rfl,rfl,⟨_,_,rfl,rfl,rfl⟩⟩:=h;exact rfl
theorem k82_mkM (w:World)(base:Nat)(ok:Nat→Prop)(x:S82):k82.M w base ok x [.int .i64 x.f0,.int .i64 x.f1,.int .i64 x.f2]:=⟨[.int .i64 x.f0],[.int .i64 x.f1,.int .i64 x.f2],rfl,rfl,⟨[.int .i64 x.f1],[.int .i64 x.f2],rfl,rfl,rfl⟩⟩
def rd_T82 (xs:List S82)(i:Int):S82:=xs.getD i.toNat z82
theorem at_T82 {w:World}{A:Option Addr}{n:Nat}{xs:List S82}(h:Kd.C k82 w A n xs)(i:Int)(h0:0≤i)(h1:i<n):∃ad,A=some ad∧w.cell? (ad.add (i.toNat*3))=some (.int .i64 (rd_T82 xs i).f0)∧w.cell? ⟨(ad.add (i.toNat*3)).block,(ad.add (i.toNat*3)).off+1,none⟩=some (.int .i64 (rd_T82 xs i).f1)∧w.cell? ⟨(ad.add (i.toNat*3)).block,(ad.add (i.toNat*3)).off+2,none⟩=some (.int .i64 (rd_T82 xs i).f2):=by
 obtain⟨ad,c,e,_,hK,hc0⟩:=Kd.C_get h z82 i h0 h1;have hc:∀j u,c[j]? =some u→w.cell? (ad.add (i.toNat*3+j))=some u:=hc0;obtain rfl:=k82_open hK;exact⟨ad,e,hc 0 _ rfl,by rw[←zT _ _ 1 (by omega)];exact hc 1 _ rfl,by rw[←zT _ _ 2 (by omega)];exact hc 2 _ rfl⟩
theorem info82:(Tryz.prog.info? 82).map (fun i=>(i.zero,i.size,i.bytes))=some (some (.agg #[.int .i64 0,.int .i64 0,.int .i64 0]),3,24):=by kernel_rfl
theorem zS:(Tryz.prog.info? 37).map (fun i=>(i.zero,i.size,i.bytes))=some (some (.agg #[.int .i64 0,.string ⟨#[]⟩,.string ⟨#[]⟩,.string ⟨#[]⟩,.int .i64 0,.int .i64 0]),6,72):=by kernel_rfl
def tkV (t:S75):Value:= .agg #[.int .i64 t.f0,.string t.f1,.int .i64 t.f2,.int .i64 t.f3]
structure PB (w0:World) (g:Nat) (A:Option Addr) (c:Nat) (toks:List S75) (wv:Value) (wait:List S82) (ov:Value) (out:List Nd) (dp e p0 p1:Int) (w:World):Prop where
 blk:w.heap[g]? =some (.cells #[.slice A toks.length c,wv,ov,.int .i64 dp,.int .i64 e,.int .i64 p0,.int .i64 p1] 51)
 hc:toks.length≤c
 tk:Kd.C k75 w0 A toks.length toks
 ta:∀ad,A=some ad→∃tb o,ad=⟨tb,o,none⟩∧tb<w0.heap.size
 wt:Kd.R k82 82 w w0.heap.size (fun k=>k≠g) wv wait
 ou:Kd.R k37 37 w w0.heap.size (fun k=>k≠g) ov (out.map nd37)
 bl:Below w0.heap.size w0 w
 gb:w0.heap.size≤g
 hl:toks.length≤100000
theorem PB.lt {w0:World}{g:Nat}{A:Option Addr}{c:Nat}{toks:List S75}{wv:Value}{wait:List S82}{ov:Value}{out:List Nd}{dp e p0 p1:Int}{w:World}(h:PB w0 g A c toks wv wait ov out dp e p0 p1 w):g<w.heap.size:=(xe h.blk).1
theorem PB.step {w0:World}{g:Nat}{A:Option Addr}{c:Nat}{toks:List S75}{wv:Value}{wait:List S82}{ov:Value}{out:List Nd}{dp e p0 p1:Int}{w w':World}(h:PB w0 g A c toks wv wait ov out dp e p0 p1 w)(hb:Below w.heap.size w w'):PB w0 g A c toks wv wait ov out dp e p0 p1 w':=
 ⟨(hb.block _ h.lt).trans h.blk,h.hc,h.tk,h.ta,Kd.R_below h.wt hb,Kd.R_below h.ou hb,h.bl.trans (hb.mono h.bl.size),h.gb,h.hl⟩
theorem PB.cells {w0:World}{g:Nat}{A:Option Addr}{c:Nat}{toks:List S75}{wv:Value}{wait:List S82}{ov:Value}{out:List Nd}{dp e p0 p1:Int}{w:World}(h:PB w0 g A c toks wv wait ov out dp e p0 p1 w):
 w.cell? ⟨g,0,none⟩=some (.slice A toks.length c)∧w.cell? ⟨g,1,none⟩=some wv∧w.cell? ⟨g,2,none⟩=some ov∧w.cell? ⟨g,3,none⟩=some (.int .i64 dp)∧w.cell? ⟨g,4,none⟩=some (.int .i64 e)∧w.cell? ⟨g,5,none⟩=some (.int .i64 p0)∧w.cell? ⟨g,6,none⟩=some (.int .i64 p1):=by
 refine⟨?_,?_,?_,?_,?_,?_,?_⟩<;>(rw[j6 h.blk];rfl)
theorem PB.frozen {w0:World}{g:Nat}{A:Option Addr}{c:Nat}{toks:List S75}{wv:Value}{wait:List S82}{ov:Value}{out:List Nd}{dp e p0 p1:Int}{w:World}(h:PB w0 g A c toks wv wait ov out dp e p0 p1 w)(i:Nat):w.frozen? ⟨g,i,none⟩=false:=Lib.frozen_of_heap h.blk i
theorem PB.head {w0:World}{g:Nat}{A:Option Addr}{c:Nat}{t:S75}{toks:List S75}{wv:Value}{wait:List S82}{ov:Value}{out:List Nd}{dp e p0 p1:Int}{w:World}(h:PB w0 g A c (t::toks) wv wait ov out dp e p0 p1 w):
 ∃tb o:Nat,A=some ⟨tb,o,none⟩∧w.cell? ⟨tb,o,none⟩=some (.int .i64 t.f0)∧w.cell? ⟨tb,o+1,none⟩=some (.string t.f1)∧w.cell? ⟨tb,o+2,none⟩=some (.int .i64 t.f2)∧w.cell? ⟨tb,o+3,none⟩=some (.int .i64 t.f3):=by
 obtain⟨ad,hA,q0,q1,q2,q3⟩:=at_T75 h.tk 0 (by omega) (by simp)
 obtain⟨tb,o,rfl,hlt⟩:=h.ta ad hA;have e0:(Addr.add ⟨tb,o,none⟩ ((0:Int).toNat*4))=⟨tb,o,none⟩:=by simp[Addr.add]
 rw[e0]at q0 q1 q2 q3;have hx:qY (t::toks) 0=t:=rfl;rw[hx]at q0 q1 q2 q3;exact⟨tb,o,hA,(zg h.bl _ hlt).trans q0,(zg h.bl _ hlt).trans q1,(zg h.bl _ hlt).trans q2,(zg h.bl _ hlt).trans q3⟩
theorem zD {B:Nat}{w0 w:World}(hb:Below B w0 w){g:Nat}(hg:B≤g)(i:Nat)(u:Value):Below B w0 (w.setCell ⟨g,i,none⟩ u):=
 ⟨hb.os,hb.tape,hb.output,by simpa[World.setCell]using hb.size,fun k hk=>(Below.heap_setCell w ⟨g,i,none⟩ u k (by show k≠g;omega)).trans (hb.block k hk)⟩
theorem PB.setE {w0:World}{g:Nat}{A:Option Addr}{c:Nat}{toks:List S75}{wv:Value}{wait:List S82}{ov:Value}{out:List Nd}{dp e p0 p1:Int}{w:World}(h:PB w0 g A c toks wv wait ov out dp e p0 p1 w)(x:Int):PB w0 g A c toks wv wait ov out dp x p0 p1 (w.setCell ⟨g,4,none⟩ (.int .i64 x)):=
 ⟨by simp[World.setCell,Array.getElem?_modify,h.blk],h.hc,h.tk,h.ta,Kd.R_set h.wt h.blk (by decide) 4 (.int .i64 x),Kd.R_set h.ou h.blk (by decide) 4 (.int .i64 x),zD h.bl h.gb 4 (.int .i64 x),h.gb,h.hl⟩
theorem PB.setP0 {w0:World}{g:Nat}{A:Option Addr}{c:Nat}{toks:List S75}{wv:Value}{wait:List S82}{ov:Value}{out:List Nd}{dp e p0 p1:Int}{w:World}(h:PB w0 g A c toks wv wait ov out dp e p0 p1 w)(x:Int):PB w0 g A c toks wv wait ov out dp e x p1 (w.setCell ⟨g,5,none⟩ (.int .i64 x)):=
 ⟨by simp[World.setCell,Array.getElem?_modify,h.blk],h.hc,h.tk,h.ta,Kd.R_set h.wt h.blk (by decide) 5 (.int .i64 x),Kd.R_set h.ou h.blk (by decide) 5 (.int .i64 x),zD h.bl h.gb 5 (.int .i64 x),h.gb,h.hl⟩
theorem PB.setP1 {w0:World}{g:Nat}{A:Option Addr}{c:Nat}{toks:List S75}{wv:Value}{wait:List S82}{ov:Value}{out:List Nd}{dp e p0 p1:Int}{w:World}(h:PB w0 g A c toks wv wait ov out dp e p0 p1 w)(x:Int):PB w0 g A c toks wv wait ov out dp e p0 x (w.setCell ⟨g,6,none⟩ (.int .i64 x)):=
 ⟨by simp[World.setCell,Array.getElem?_modify,h.blk],h.hc,h.tk,h.ta,Kd.R_set h.wt h.blk (by decide) 6 (.int .i64 x),Kd.R_set h.ou h.blk (by decide) 6 (.int .i64 x),zD h.bl h.gb 6 (.int .i64 x),h.gb,h.hl⟩
theorem PB.setD {w0:World}{g:Nat}{A:Option Addr}{c:Nat}{toks:List S75}{wv:Value}{wait:List S82}{ov:Value}{out:List Nd}{dp e p0 p1:Int}{w:World}(h:PB w0 g A c toks wv wait ov out dp e p0 p1 w)(x:Int):PB w0 g A c toks wv wait ov out x e p0 p1 (w.setCell ⟨g,3,none⟩ (.int .i64 x)):=
 ⟨by simp[World.setCell,Array.getElem?_modify,h.blk],h.hc,h.tk,h.ta,Kd.R_set h.wt h.blk (by decide) 3 (.int .i64 x),Kd.R_set h.ou h.blk (by decide) 3 (.int .i64 x),zD h.bl h.gb 3 (.int .i64 x),h.gb,h.hl⟩
theorem PB.tail {w0:World}{g:Nat}{A:Option Addr}{c:Nat}{t:S75}{toks:List S75}{wv:Value}{wait:List S82}{ov:Value}{out:List Nd}{dp e p0 p1:Int}{w:World}(h:PB w0 g A c (t::toks) wv wait ov out dp e p0 p1 w):
 PB w0 g (if c=1 then A else A.map (·.add 4)) (c-1) toks wv wait ov out dp e p0 p1 (w.setCell ⟨g,0,none⟩ (.slice (if c=1 then A else A.map (·.add 4)) toks.length (c-1))):=by
 have hc1:toks.length+1≤c:=h.hc;have ht:=Kd.C_drop h.tk (m:=1) (c:=c) (by simp) h.hc
 have e1:1*k75.sz=4:=rfl;rw[e1]at ht;refine⟨by simp[World.setCell,Array.getElem?_modify,h.blk],by omega,ht,?_,Kd.R_set h.wt h.blk (by decide) 0 _,Kd.R_set h.ou h.blk (by decide) 0 _,zD h.bl h.gb 0 _,h.gb,by have:=h.hl;simp at this;omega⟩
 intro ad he;split at he
 ·exact h.ta ad he
 ·cases A with
  |none=>cases he
  |some ad0=>
   obtain⟨tb,o,rfl,hlt⟩:=h.ta ad0 rfl;injection he with he;exact⟨tb,o+4,by rw[←he];rfl,hlt⟩
theorem PB.newW {w0:World}{g:Nat}{A:Option Addr}{c:Nat}{toks:List S75}{wv:Value}{wait:List S82}{ov:Value}{out:List Nd}{dp e p0 p1:Int}{w:World}(h:PB w0 g A c toks wv wait ov out dp e p0 p1 w){w1:World}{v1:Value}{wait1:List S82}(hb:Below w0.heap.size w0 w1)(hg:w.grownBy w1 wv.ownBlock)(hR:Kd.R k82 82 w1 w0.heap.size (fun k=>k≠g) v1 wait1):PB w0 g A c toks v1 wait1 ov out dp e p0 p1 (w1.setCell ⟨g,1,none⟩ v1):=by
 have hb1:w1.heap[g]? =some (.cells #[.slice A toks.length c,wv,ov,.int .i64 dp,.int .i64 e,.int .i64 p0,.int .i64 p1] 51):=(hg.block g h.lt (fun hh=>h.wt.1 _ hh.symm rfl)).trans h.blk
 have ho:=Kd.R_over' h.ou (Kd.R_typed h.wt) (by decide) hg
 exact⟨by simp[World.setCell,Array.getElem?_modify,hb1],h.hc,h.tk,h.ta,Kd.R_set hR hb1 (by decide) 1 v1,Kd.R_set ho hb1 (by decide) 1 v1,zD hb h.gb 1 v1,h.gb,h.hl⟩
theorem PB.newO {w0:World}{g:Nat}{A:Option Addr}{c:Nat}{toks:List S75}{wv:Value}{wait:List S82}{ov:Value}{out:List Nd}{dp e p0 p1:Int}{w:World}(h:PB w0 g A c toks wv wait ov out dp e p0 p1 w){w1:World}{v1:Value}{out1:List Nd}(hb:Below w0.heap.size w0 w1)(hg:w.grownBy w1 ov.ownBlock)(hR:Kd.R k37 37 w1 w0.heap.size (fun k=>k≠g) v1 (out1.map nd37)):PB w0 g A c toks wv wait v1 out1 dp e p0 p1 (w1.setCell ⟨g,2,none⟩ v1):=by
 have hb1:w1.heap[g]? =some (.cells #[.slice A toks.length c,wv,ov,.int .i64 dp,.int .i64 e,.int .i64 p0,.int .i64 p1] 51):=(hg.block g h.lt (fun hh=>h.ou.1 _ hh.symm rfl)).trans h.blk
 have ho:=Kd.R_over' h.wt (Kd.R_typed h.ou) (by decide) hg
 exact⟨by simp[World.setCell,Array.getElem?_modify,hb1],h.hc,h.tk,h.ta,Kd.R_set ho hb1 (by decide) 2 v1,Kd.R_set hR hb1 (by decide) 2 v1,zD hb h.gb 2 v1,h.gb,h.hl⟩
def hdT:List S75→ByteArray|[]=>⟨#[]⟩|t::_=>t.f1
theorem peek_at (w0:World)(g:Nat)(A:Option Addr)(c:Nat)(toks:List S75)(wv:Value)(wait:List S82)(ov:Value)(out:List Nd)(dp e p0 p1:Int)(w:World)(h:PB w0 g A c toks wv wait ov out dp e p0 p1 w):
 Calls Tryz.prog 38 #[.pointer (some ⟨g,0,none⟩)] w fun ex w'=>ex= .returned (.string (hdT toks))∧w'=w:=by
 obtain⟨c0,c1,c2,c3,c4,c5,c6⟩:=h.cells;cases toks with
 |nil=>
  clear h;show Calls _ _ _ _ fun ex w'=>ex= .returned (.string ⟨#[]⟩)∧_
  go_enter Tryz.func38,Tryz.ntmps38
  go_wp2_with fail;go_ret;exact⟨rfl,rfl⟩
 |cons t rest=>
  obtain⟨tb,o,rfl,q0,q1,q2,q3⟩:=h.head;clear h;have hl:¬((t::rest).length:Int)=0:=by simp only[List.length_cons];omega
  have hl2:(0:Int)<((t::rest).length:Int):=by simp only[List.length_cons];omega
  show Calls _ _ _ _ fun ex w'=>ex= .returned (.string t.f1)∧_
  generalize (t::rest).length=n at*;go_enter Tryz.func38,Tryz.ntmps38
  go_wp2_with fail;go_ret;exact⟨rfl,rfl⟩
theorem gtr {w w1 w2:World}{r:Option Nat}(h:w.grownBy w1 r)(k:w1.grownBy w2 r):w.grownBy w2 r:=
 ⟨k.os.trans h.os,k.tape.trans h.tape,k.output.trans h.output,Nat.le_trans h.size k.size,fun i hi hr=>(k.block i (Nat.lt_of_lt_of_le hi h.size) hr).trans (h.block i hi hr)⟩
theorem gdr {w w1:World}{r:Option Nat}(h:w.grownBy w1 r):w.grownBy w1.drew r:=gtr h (zl ((xb _ _).drew) r)
theorem gst {w w1:World}{g:Nat}(h:w.grownBy w1 (some g))(j:Nat)(v:Value):w.grownBy (w1.setCell ⟨g,j,none⟩ v) (some g):=
 ⟨h.os,h.tape,h.output,by simpa[World.setCell]using h.size,fun k hk hr=>(Below.heap_setCell w1 ⟨g,j,none⟩ v k (fun e=>hr (by rw[e]))).trans (h.block k hk hr)⟩
theorem failOld_at (w0:World)(g:Nat)(A:Option Addr)(c:Nat)(toks:List S75)(wv:Value)(wait:List S82)(ov:Value)(out:List Nd)(dp e p0 p1:Int)(w:World)(h:PB w0 g A c toks wv wait ov out dp e p0 p1 w)(he:e≠0)(er:Int)(last:S75):
 Calls Tryz.prog 39 #[.pointer (some ⟨g,0,none⟩),.int .i64 er,tkV last] w fun ex w'=>ex= .returned (.tuple #[])∧Below w.heap.size w w':=by
 obtain⟨c0,c1,c2,c3,c4,c5,c6⟩:=h.cells;have HP:=zc.mk (h.step ((xb _ w).alloc (xc _) (.cells #[.int .i64 last.f0,.string last.f1,.int .i64 last.f2,.int .i64 last.f3] 75)));have HP0:=HP.out.cells;clear h;unfold tkV;go_enter Tryz.func39,Tryz.ntmps39
 go_wp2_with fail;refine bodyPost_ret (v:= .tuple #[]) (by simp[results,Tryz.f39,go_sem]) rfl ?_
 exact⟨rfl,(xb _ w).alloc (xc _) _⟩
def zC (toks:List S75)(last:S75):Int×Int:=match toks with|[]=>(last.f2,last.f3+last.f1.size)|t::_=>(t.f2,t.f3)
theorem zL (w0:World)(g:Nat)(A:Option Addr)(c:Nat)(toks:List S75)(wv:Value)(wait:List S82)(ov:Value)(out:List Nd)(dp e p0 p1:Int)(w:World)(h:PB w0 g A c toks wv wait ov out dp e p0 p1 w)(he:e=0)(er:Int)(last:S75)(hlast:0≤last.f3∧last.f3+last.f1.size≤1000000):
 Calls Tryz.prog 39 #[.pointer (some ⟨g,0,none⟩),.int .i64 er,tkV last] w fun ex w'=>ex= .returned (.tuple #[])∧PB w0 g A c toks wv wait ov out dp er (zC toks last).1 (zC toks last).2 w'∧w.grownBy w' (some g):=by
 subst he;obtain⟨c0,c1,c2,c3,c4,c5,c6⟩:=h.cells;have K0:=zc.mk (j7 w (.cells #[.int .i64 last.f0,.string last.f1,.int .i64 last.f2,.int .i64 last.f3] 75));have HP:=zc.mk (h.step ((xb _ w).alloc (xc _) (.cells #[.int .i64 last.f0,.string last.f1,.int .i64 last.f2,.int .i64 last.f3] 75)));obtain⟨d0,d1,d2,d3,d4,d5,d6⟩:=HP.out.cells;have f4:=HP.out.frozen 4;have f5:=HP.out.frozen 5;have f6:=HP.out.frozen 6;clear h c0 c1 c2 c3 c4 c5 c6;unfold tkV;have hw:IntKind.i64.wrap (last.f3+(last.f1.size:Int))=last.f3+(last.f1.size:Int):=by simp[j9];omega
 go_enter Tryz.func39,Tryz.ntmps39
 go_wp2_with fail;generalize hW1:w.alloc (.cells #[.int .i64 last.f0,.string last.f1,.int .i64 last.f2,.int .i64 last.f3] 75)=w1 at*;have l0:w1.cell? ⟨w.heap.size,0,none⟩=some (.int .i64 last.f0):=by rw[j6 K0.out];rfl
 have l1:w1.cell? ⟨w.heap.size,1,none⟩=some (.string last.f1):=by rw[j6 K0.out];rfl
 have l2:w1.cell? ⟨w.heap.size,2,none⟩=some (.int .i64 last.f2):=by rw[j6 K0.out];rfl
 have l3:w1.cell? ⟨w.heap.size,3,none⟩=some (.int .i64 last.f3):=by rw[j6 K0.out];rfl
 go_region;have HQ:=zc.mk ((((HP.out.setE er).setP0 last.f2).setP1 (last.f3+(last.f1.size:Int))).step ((xb _ _).drew));obtain⟨w2,hw2⟩:∃w2,(((w1.setCell ⟨g,4,none⟩ (.int .i64 er)).setCell ⟨g,5,none⟩ (.int .i64 last.f2)).setCell ⟨g,6,none⟩ (.int .i64 (last.f3+(last.f1.size:Int)))).drew=w2:=⟨_,rfl⟩;have HG:=zc.mk (gdr (gst (gst (gst (World.grownBy_alloc w (.cells #[.int .i64 last.f0,.string last.f1,.int .i64 last.f2,.int .i64 last.f3] 75) (some g)) 4 (.int .i64 er)) 5 (.int .i64 last.f2)) 6 (.int .i64 (last.f3+(last.f1.size:Int)))));rw[hW1]at HG;rw[hw2]at HQ HG ⊢;clear hw2 HP d0 d1 d2 d3 d4 d5 d6 f4 f5 f6 l0 l1 l2 l3 K0;obtain⟨c0,c1,c2,c3,c4,c5,c6⟩:=HQ.out.cells;cases toks with
 |nil=>
  go_wp2_with fail;refine bodyPost_end (v:= .tuple #[]) (by simp[results,Tryz.f39,go_sem]) rfl ?_
  exact⟨rfl,HQ.out,HG.out⟩
 |cons t rest=>
  obtain⟨tb,o,rfl,q0,q1,q2,q3⟩:=HQ.out.head;have hl:¬((t::rest).length:Int)=0:=by simp only[List.length_cons];omega
  have hl2:(0:Int)<((t::rest).length:Int):=by simp only[List.length_cons];omega
  have f5:=HQ.out.frozen 5;have f6:=HQ.out.frozen 6;generalize hn:(t::rest).length=n at*;go_wp2_with fail;go_region;have HR:=((HQ.out.setP0 t.f2).setP1 t.f3).step ((xb _ _).drew);go_wp2_with fail;refine bodyPost_end (v:= .tuple #[]) (by simp[results,Tryz.f39,go_sem]) rfl ?_
  exact⟨rfl,HR,gdr (gst (gst HG.out 5 (.int .i64 t.f2)) 6 (.int .i64 t.f3))⟩
def tkOK (e kind:Int)(p:ByteArray→Bool):List S75→Bool
 |[]=>false
 |t::_=>decide (e=0)&&decide (t.f0=kind)&&p t.f1
def nxA (c:Nat)(A:Option Addr):Option Addr:=if c=1 then A else A.map (·.add 4)
theorem takeNo0_at (w0:World)(g:Nat)(A:Option Addr)(c:Nat)(toks:List S75)(wv:Value)(wait:List S82)(ov:Value)(out:List Nd)(dp e p0 p1:Int)(w:World)(h:PB w0 g A c toks wv wait ov out dp e p0 p1 w)(kind:Int)(fid:FuncId)(p:ByteArray→Bool)(he:∀(args:Array Value) (w:World),(callFunc fid args).run Tryz.prog w= .ok (.enter fid args) w)(hf:∀t rest,toks=t::rest→e=0→t.f0=kind→Calls Tryz.prog fid #[.string t.f1] w fun ex w'=>ex= .returned (.bool (p t.f1))∧Below w.heap.size w w')(hno:tkOK e kind p toks=false):
 Calls Tryz.prog 74 #[.pointer (some ⟨g,0,none⟩),.int .i64 kind,.func (.func fid) #[] #[]] w fun ex w'=>ex= .returned (.tuple #[.string ⟨#[]⟩,.bool false])∧Below w.heap.size w w':=by
 have HP:=zc.mk h;obtain⟨c0,c1,c2,c3,c4,c5,c6⟩:=h.cells;by_cases h0:e=0
 ·subst h0
  cases toks with
  |nil=>
   clear h hf;go_enter Tryz.func74,Tryz.ntmps74
   go_wp2_with fail;refine bodyPost_ret (results_tmp2 rfl _ _ _) rfl ?_;exact⟨rfl,xb _ _⟩
  |cons t rest=>
   obtain⟨tb,o,rfl,q0,q1,q2,q3⟩:=h.head;have hl:¬((t::rest).length:Int)=0:=by simp only[List.length_cons];omega
   have hl2:(0:Int)<((t::rest).length:Int):=by simp only[List.length_cons];omega
   by_cases h1:t.f0=kind
   ·have HF:=Lib.hid (hf t rest rfl rfl h1)
    have hp:p t.f1=false:=by
     simp[tkOK,h1]at hno;exact hno
    rw[hp]at HF;have h1b:(t.f0 !=kind)=false:=by simp[h1]
    clear h hf hno hp;generalize hn:(t::rest).length=n at*;generalize t.f0=k0 at*;subst h1;go_enter Tryz.func74,Tryz.ntmps74
    go_wp2_with fail;refine HF.out.mono ?_;rintro ex w1 ⟨rfl,hb1⟩;have HQ:=zc.mk (HP.out.step hb1);go_wp2_with fail;refine bodyPost_ret (results_tmp2 rfl _ _ _) rfl ?_;exact⟨rfl,hb1⟩
   ·clear h hf hno
    generalize hn:(t::rest).length=n at*;have h1b:(t.f0 !=kind)=true:=by simp[h1]
    go_enter Tryz.func74,Tryz.ntmps74
    go_wp2_with fail;refine bodyPost_ret (results_tmp2 rfl _ _ _) rfl ?_;exact⟨rfl,xb _ _⟩
 ·clear h hf hno
  have h0b:(e !=0)=true:=by simp[h0]
  go_enter Tryz.func74,Tryz.ntmps74
  go_wp2_with fail;refine bodyPost_ret (results_tmp2 rfl _ _ _) rfl ?_;exact⟨rfl,xb _ _⟩
theorem qN (w0:World)(g:Nat)(A:Option Addr)(c:Nat)(t:S75)(rest:List S75)(wv:Value)(wait:List S82)(ov:Value)(out:List Nd)(dp e p0 p1:Int)(w:World)(h:PB w0 g A c (t::rest) wv wait ov out dp e p0 p1 w)(he0:e=0)(fid:FuncId)(he:∀(args:Array Value) (w:World),(callFunc fid args).run Tryz.prog w= .ok (.enter fid args) w)(hf:Calls Tryz.prog fid #[.string t.f1] w fun ex w'=>ex= .returned (.bool true)∧Below w.heap.size w w'):
 Calls Tryz.prog 74 #[.pointer (some ⟨g,0,none⟩),.int .i64 t.f0,.func (.func fid) #[] #[]] w fun ex w'=>ex= .returned (.tuple #[.string t.f1,.bool true])∧PB w0 g (nxA c A) (c-1) rest wv wait ov out dp e p0 p1 w'∧w.grownBy w' (some g):=by
 have HP:=zc.mk h;obtain⟨c0,c1,c2,c3,c4,c5,c6⟩:=h.cells;subst he0;obtain⟨tb,o,rfl,q0,q1,q2,q3⟩:=h.head;have hl:¬((t::rest).length:Int)=0:=by simp only[List.length_cons];omega
 have hl2:(0:Int)<((t::rest).length:Int):=by simp only[List.length_cons];omega
 have hl3:(1:Int)≤((t::rest).length:Int):=by omega
 have hlc:(t::rest).length-1=rest.length:=rfl;have hcI:((t::rest).length:Int)≤(c:Int):=by have:=h.hc;omega
 have HF:=Lib.hid hf;clear h hf;generalize hn:(t::rest).length=n at*;go_enter Tryz.func74,Tryz.ntmps74
 go_wp2_with fail;refine HF.out.mono ?_;rintro ex w1 ⟨rfl,hb1⟩;have HQ:=zc.mk (HP.out.step hb1);clear c0 c1 c2 c3 c4 c5 c6 HP q0 q1 q2 q3;obtain⟨c0,c1,c2,c3,c4,c5,c6⟩:=HQ.out.cells;obtain⟨tb',o',hA,q0,q1,q2,q3⟩:=HQ.out.head;injection hA with hA;injection hA with e1 e2;subst e1 e2;rw[hn]at c0;have f0:=HQ.out.frozen 0;have HT:=zc.mk HQ.out.tail;go_wp2_with fail
 all_goals(refine bodyPost_ret (results_tmp2 rfl _ _ _) rfl ?_)
 all_goals(refine⟨rfl,?_,gst (zl hb1 _) 0 _⟩)
 all_goals(unfold nxA)
 ·have HT:=HT.out
  first|(subst ‹c=1›;exact HT)|(rw[if_neg ‹¬c=1›]at HT ⊢;exact HT)
 ·have HT:=HT.out
  first|(subst ‹c=1›;exact HT)|(rw[if_neg ‹¬c=1›]at HT ⊢;exact HT)
theorem takeNo1_at (w0:World)(g:Nat)(A:Option Addr)(c:Nat)(toks:List S75)(wv:Value)(wait:List S82)(ov:Value)(out:List Nd)(dp e p0 p1:Int)(w:World)(h:PB w0 g A c toks wv wait ov out dp e p0 p1 w)(kind:Int)(fid:FuncId)(cv:Value)(p:ByteArray→Bool)(he:∀(args:Array Value) (w:World),(callFunc fid args).run Tryz.prog w= .ok (.enter fid args) w)(hf:∀t rest,toks=t::rest→e=0→t.f0=kind→Calls Tryz.prog fid #[.string t.f1,cv] w fun ex w'=>ex= .returned (.bool (p t.f1))∧Below w.heap.size w w')(hno:tkOK e kind p toks=false):
 Calls Tryz.prog 74 #[.pointer (some ⟨g,0,none⟩),.int .i64 kind,.func (.func fid) #[] #[cv]] w fun ex w'=>ex= .returned (.tuple #[.string ⟨#[]⟩,.bool false])∧Below w.heap.size w w':=by
 have HP:=zc.mk h;obtain⟨c0,c1,c2,c3,c4,c5,c6⟩:=h.cells;by_cases h0:e=0
 ·subst h0
  cases toks with
  |nil=>
   clear h hf;go_enter Tryz.func74,Tryz.ntmps74
   go_wp2_with fail;refine bodyPost_ret (results_tmp2 rfl _ _ _) rfl ?_;exact⟨rfl,xb _ _⟩
  |cons t rest=>
   obtain⟨tb,o,rfl,q0,q1,q2,q3⟩:=h.head;have hl:¬((t::rest).length:Int)=0:=by simp only[List.length_cons];omega
   have hl2:(0:Int)<((t::rest).length:Int):=by simp only[List.length_cons];omega
   by_cases h1:t.f0=kind
   ·have HF:=Lib.hid (hf t rest rfl rfl h1)
    have hp:p t.f1=false:=by
     simp[tkOK,h1]at hno;exact hno
    rw[hp]at HF;have h1b:(t.f0 !=kind)=false:=by simp[h1]
    clear h hf hno hp;generalize hn:(t::rest).length=n at*;generalize t.f0=k0 at*;subst h1;go_enter Tryz.func74,Tryz.ntmps74
    go_wp2_with fail;refine HF.out.mono ?_;rintro ex w1 ⟨rfl,hb1⟩;have HQ:=zc.mk (HP.out.step hb1);go_wp2_with fail;refine bodyPost_ret (results_tmp2 rfl _ _ _) rfl ?_;exact⟨rfl,hb1⟩
   ·clear h hf hno
    generalize hn:(t::rest).length=n at*;have h1b:(t.f0 !=kind)=true:=by simp[h1]
    go_enter Tryz.func74,Tryz.ntmps74
    go_wp2_with fail;refine bodyPost_ret (results_tmp2 rfl _ _ _) rfl ?_;exact⟨rfl,xb _ _⟩
 ·clear h hf hno
  have h0b:(e !=0)=true:=by simp[h0]
  go_enter Tryz.func74,Tryz.ntmps74
  go_wp2_with fail;refine bodyPost_ret (results_tmp2 rfl _ _ _) rfl ?_;exact⟨rfl,xb _ _⟩
theorem jr (w0:World)(g:Nat)(A:Option Addr)(c:Nat)(t:S75)(rest:List S75)(wv:Value)(wait:List S82)(ov:Value)(out:List Nd)(dp e p0 p1:Int)(w:World)(h:PB w0 g A c (t::rest) wv wait ov out dp e p0 p1 w)(he0:e=0)(fid:FuncId)(cv:Value)(he:∀(args:Array Value) (w:World),(callFunc fid args).run Tryz.prog w= .ok (.enter fid args) w)(hf:Calls Tryz.prog fid #[.string t.f1,cv] w fun ex w'=>ex= .returned (.bool true)∧Below w.heap.size w w'):
 Calls Tryz.prog 74 #[.pointer (some ⟨g,0,none⟩),.int .i64 t.f0,.func (.func fid) #[] #[cv]] w fun ex w'=>ex= .returned (.tuple #[.string t.f1,.bool true])∧PB w0 g (nxA c A) (c-1) rest wv wait ov out dp e p0 p1 w'∧w.grownBy w' (some g):=by
 have HP:=zc.mk h;obtain⟨c0,c1,c2,c3,c4,c5,c6⟩:=h.cells;subst he0;obtain⟨tb,o,rfl,q0,q1,q2,q3⟩:=h.head;have hl:¬((t::rest).length:Int)=0:=by simp only[List.length_cons];omega
 have hl2:(0:Int)<((t::rest).length:Int):=by simp only[List.length_cons];omega
 have hl3:(1:Int)≤((t::rest).length:Int):=by omega
 have hlc:(t::rest).length-1=rest.length:=rfl;have hcI:((t::rest).length:Int)≤(c:Int):=by have:=h.hc;omega
 have HF:=Lib.hid hf;clear h hf;generalize hn:(t::rest).length=n at*;go_enter Tryz.func74,Tryz.ntmps74
 go_wp2_with fail;refine HF.out.mono ?_;rintro ex w1 ⟨rfl,hb1⟩;have HQ:=zc.mk (HP.out.step hb1);clear c0 c1 c2 c3 c4 c5 c6 HP q0 q1 q2 q3;obtain⟨c0,c1,c2,c3,c4,c5,c6⟩:=HQ.out.cells;obtain⟨tb',o',hA,q0,q1,q2,q3⟩:=HQ.out.head;injection hA with hA;injection hA with e1 e2;subst e1 e2;rw[hn]at c0;have f0:=HQ.out.frozen 0;have HT:=zc.mk HQ.out.tail;go_wp2_with fail
 all_goals(refine bodyPost_ret (results_tmp2 rfl _ _ _) rfl ?_)
 all_goals(refine⟨rfl,?_,gst (zl hb1 _) 0 _⟩)
 all_goals(unfold nxA)
 ·have HT:=HT.out
  first|(subst ‹c=1›;exact HT)|(rw[if_neg ‹¬c=1›]at HT ⊢;exact HT)
 ·have HT:=HT.out
  first|(subst ‹c=1›;exact HT)|(rw[if_neg ‹¬c=1›]at HT ⊢;exact HT)
theorem enters_sign1:∀(args:Array Value) (w:World),(callFunc 75 args).run Tryz.prog w= .ok (.enter 75 args) w:=Go.Proofs.enters_of Tryz.func75 (by kernel_rfl) rfl
theorem sign1_at (t s:ByteArray)(b:Nat)(w:World)(hb:w.cell? ⟨b,0,none⟩=some (.string s)):
 Calls Tryz.prog 75 #[.string t,.pointer (some ⟨b,0,none⟩)] w fun ex w'=>ex= .returned (.bool (t.toList==s.toList))∧Below w.heap.size w w':=by
 go_enter Tryz.func75,Tryz.ntmps75
 go_wp2_with fail;go_ret;exact⟨rfl,xb _ _⟩
theorem zN (w0:World)(g:Nat)(A:Option Addr)(c:Nat)(toks:List S75)(wv:Value)(wait:List S82)(ov:Value)(out:List Nd)(dp e p0 p1:Int)(w:World)(h:PB w0 g A c toks wv wait ov out dp e p0 p1 w)(s:ByteArray)(hno:tkOK e 2 (fun x=>x.toList==s.toList) toks=false):
 Calls Tryz.prog 42 #[.pointer (some ⟨g,0,none⟩),.string s] w fun ex w'=>ex= .returned (.bool false)∧Below w.heap.size w w':=by
 have HQ:=h.step ((xb _ w).alloc (xc _) (.cells #[.string s] 9));have k0:=j7 w (.cells #[.string s] 9);have HT:=Lib.hid (takeNo1_at w0 g A c toks wv wait ov out dp e p0 p1 _ HQ 2 75 (.pointer (some ⟨w.heap.size,0,none⟩)) (fun x=>x.toList==s.toList) enters_sign1 (fun t rest _ _ _=>sign1_at t.f1 s _ _ (by rw[j6 k0];rfl)) hno)
 clear h hno HQ k0;go_enter Tryz.func42,Tryz.ntmps42
 go_wp2_with fail;refine HT.out.mono ?_;rintro ex w1 ⟨rfl,hb1⟩;go_wp2_with fail;go_ret;exact⟨rfl,((xb _ w).alloc (xc _) _).trans (hb1.mono (by simp))⟩
theorem signYes_at (w0:World)(g:Nat)(A:Option Addr)(c:Nat)(t:S75)(rest:List S75)(wv:Value)(wait:List S82)(ov:Value)(out:List Nd)(dp e p0 p1:Int)(w:World)(h:PB w0 g A c (t::rest) wv wait ov out dp e p0 p1 w)(he0:e=0)(hk:t.f0=2)(s:ByteArray)(hs:t.f1=s):
 Calls Tryz.prog 42 #[.pointer (some ⟨g,0,none⟩),.string s] w fun ex w'=>ex= .returned (.bool true)∧PB w0 g (nxA c A) (c-1) rest wv wait ov out dp e p0 p1 w'∧w.grownBy w' (some g):=by
 have HQ:=h.step ((xb _ w).alloc (xc _) (.cells #[.string s] 9));have k0:=j7 w (.cells #[.string s] 9);have HT:=jr w0 g A c t rest wv wait ov out dp e p0 p1 _ HQ he0 75 (.pointer (some ⟨w.heap.size,0,none⟩)) enters_sign1 ((sign1_at t.f1 s _ _ (by rw[j6 k0];rfl)).mono (fun ex w' hh=>by rw[hs]at hh;simpa using hh))
 rw[hk]at HT;have HT:=Lib.hid HT;clear h HQ k0;go_enter Tryz.func42,Tryz.ntmps42
 go_wp2_with fail;refine HT.out.mono ?_;rintro ex w1 ⟨rfl,hb1,hg1⟩;go_wp2_with fail;go_ret;exact⟨rfl,hb1,gtr (World.grownBy_alloc _ _ _) hg1⟩
theorem qH (w0:World)(g:Nat)(A:Option Addr)(c:Nat)(t:S75)(rest:List S75)(wv:Value)(wait:List S82)(ov:Value)(out:List Nd)(dp e p0 p1:Int)(w:World)(h:PB w0 g A c (t::rest) wv wait ov out dp e p0 p1 w)(he0:e=0)(hk:t.f0=2)(s:ByteArray)(hs:t.f1=s)(last:S75):
 Calls Tryz.prog 76 #[.pointer (some ⟨g,0,none⟩),.string s,tkV last] w fun ex w'=>ex= .returned (.tuple #[])∧PB w0 g (nxA c A) (c-1) rest wv wait ov out dp e p0 p1 w'∧w.grownBy w' (some g):=by
 have HQ:=h.step ((xb _ w).alloc (xc _) (.cells #[.int .i64 last.f0,.string last.f1,.int .i64 last.f2,.int .i64 last.f3] 75));have HT:=Lib.hid (signYes_at w0 g A c t rest wv wait ov out dp e p0 p1 _ HQ he0 hk s hs);clear h HQ;unfold tkV;go_enter Tryz.func76,Tryz.ntmps76
 go_wp2_with fail;refine HT.out.mono ?_;rintro ex w1 ⟨rfl,hb1,hg1⟩;go_wp2_with fail;refine bodyPost_end (v:= .tuple #[]) (by simp[results,Tryz.f76,go_sem]) rfl ?_
 exact⟨rfl,hb1,gtr (World.grownBy_alloc _ _ _) hg1⟩
theorem mustOld_at (w0:World)(g:Nat)(A:Option Addr)(c:Nat)(toks:List S75)(wv:Value)(wait:List S82)(ov:Value)(out:List Nd)(dp e p0 p1:Int)(w:World)(h:PB w0 g A c toks wv wait ov out dp e p0 p1 w)(s:ByteArray)(last:S75)(hno:tkOK e 2 (fun x=>x.toList==s.toList) toks=false)(he:e≠0):
 Calls Tryz.prog 76 #[.pointer (some ⟨g,0,none⟩),.string s,tkV last] w fun ex w'=>ex= .returned (.tuple #[])∧Below w.heap.size w w':=by
 have hb0:=(xb w.heap.size w).alloc (xc _) (.cells #[.int .i64 last.f0,.string last.f1,.int .i64 last.f2,.int .i64 last.f3] 75);have HQ:=zc.mk (h.step hb0);have K0:=zc.mk (j7 w (.cells #[.int .i64 last.f0,.string last.f1,.int .i64 last.f2,.int .i64 last.f3] 75));have HT:=Lib.hid (zN w0 g A c toks wv wait ov out dp e p0 p1 _ HQ.out s hno);have HF:∀w1,PB w0 g A c toks wv wait ov out dp e p0 p1 w1→RowKit.Hid (_):=fun w1 HQ1=>Lib.hid (failOld_at w0 g A c toks wv wait ov out dp e p0 p1 w1 HQ1 he 110 last)
 clear h hno;unfold tkV at*;go_enter Tryz.func76,Tryz.ntmps76
 go_wp2_with fail;refine HT.out.mono ?_;rintro ex w1 ⟨rfl,hb1⟩;have k1:=(hb1.block _ (xe K0.out).1).trans K0.out;have HQ1:=HQ.out.step hb1;have hbb:=hb0.trans (hb1.mono hb0.size);have l0:w1.cell? ⟨w.heap.size,0,none⟩=some (.int .i64 last.f0):=by rw[j6 k1];rfl
 have l1:w1.cell? ⟨w.heap.size,1,none⟩=some (.string last.f1):=by rw[j6 k1];rfl
 have l2:w1.cell? ⟨w.heap.size,2,none⟩=some (.int .i64 last.f2):=by rw[j6 k1];rfl
 have l3:w1.cell? ⟨w.heap.size,3,none⟩=some (.int .i64 last.f3):=by rw[j6 k1];rfl
 have HF:=HF w1 HQ1;clear HQ HT K0 hb1 k1 hb0 HQ1;go_wp2_with fail;refine HF.out.mono ?_;rintro ex w2 ⟨rfl,hb2⟩;go_wp2_with fail;refine bodyPost_end (v:= .tuple #[]) (by simp[results,Tryz.f76,go_sem]) rfl ?_
 exact⟨rfl,hbb.trans (hb2.mono hbb.size)⟩
theorem mustNew_at (w0:World)(g:Nat)(A:Option Addr)(c:Nat)(toks:List S75)(wv:Value)(wait:List S82)(ov:Value)(out:List Nd)(dp e p0 p1:Int)(w:World)(h:PB w0 g A c toks wv wait ov out dp e p0 p1 w)(s:ByteArray)(last:S75)(hno:tkOK e 2 (fun x=>x.toList==s.toList) toks=false)(he:e=0)(hlast:0≤last.f3∧last.f3+last.f1.size≤1000000):
 Calls Tryz.prog 76 #[.pointer (some ⟨g,0,none⟩),.string s,tkV last] w fun ex w'=>ex= .returned (.tuple #[])∧PB w0 g A c toks wv wait ov out dp 110 (zC toks last).1 (zC toks last).2 w'∧w.grownBy w' (some g):=by
 have hb0:=(xb w.heap.size w).alloc (xc _) (.cells #[.int .i64 last.f0,.string last.f1,.int .i64 last.f2,.int .i64 last.f3] 75);have HQ:=zc.mk (h.step hb0);have K0:=zc.mk (j7 w (.cells #[.int .i64 last.f0,.string last.f1,.int .i64 last.f2,.int .i64 last.f3] 75));have HT:=Lib.hid (zN w0 g A c toks wv wait ov out dp e p0 p1 _ HQ.out s hno);have HF:∀w1,PB w0 g A c toks wv wait ov out dp e p0 p1 w1→RowKit.Hid (_):=fun w1 HQ1=>Lib.hid (zL w0 g A c toks wv wait ov out dp e p0 p1 w1 HQ1 he 110 last hlast)
 clear h hno;unfold tkV at*;go_enter Tryz.func76,Tryz.ntmps76
 go_wp2_with fail;refine HT.out.mono ?_;rintro ex w1 ⟨rfl,hb1⟩;have k1:=(hb1.block _ (xe K0.out).1).trans K0.out;have HQ1:=HQ.out.step hb1;have hbb:=hb0.trans (hb1.mono hb0.size);have l0:w1.cell? ⟨w.heap.size,0,none⟩=some (.int .i64 last.f0):=by rw[j6 k1];rfl
 have l1:w1.cell? ⟨w.heap.size,1,none⟩=some (.string last.f1):=by rw[j6 k1];rfl
 have l2:w1.cell? ⟨w.heap.size,2,none⟩=some (.int .i64 last.f2):=by rw[j6 k1];rfl
 have l3:w1.cell? ⟨w.heap.size,3,none⟩=some (.int .i64 last.f3):=by rw[j6 k1];rfl
 have HF:=HF w1 HQ1;clear HQ HT K0 hb1 k1 hb0 HQ1;go_wp2_with fail;refine HF.out.mono ?_;rintro ex w2 ⟨rfl,hq2,hg2⟩;go_wp2_with fail;refine bodyPost_end (v:= .tuple #[]) (by simp[results,Tryz.f76,go_sem]) rfl ?_
 exact⟨rfl,hq2,gtr (zl hbb _) hg2⟩
end Go.Proofs.YtjopepfemhckjaaGreatDoor.NW
end
