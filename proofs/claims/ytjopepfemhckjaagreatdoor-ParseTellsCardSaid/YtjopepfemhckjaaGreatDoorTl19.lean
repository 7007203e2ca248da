/-
  Part 19 of the proof of parseTells_holds: texts of this seat, put together.
-/
import Derived.Deep.LoopGhost
import Derived.Test.YtjopepfemhckjaaGreatDoorProg
import Derived.Maps.OwnSet
import Derived.Below
import Derived.WalkArith
import Derived.Carry
import Derived.Scope
import Derived.Test.YtjopepfemhckjaaGreatDoorTl18
set_option linter.unusedVariables false
set_option linter.unusedSimpArgs false
set_option maxHeartbeats 16000000
set_option maxRecDepth 100000
section
namespace Go.Proofs.YtjopepfemhckjaaGreatDoor.NW
open Go.Proofs Go.RowKit Go.Shelf Go.Proofs.YtjopepfemhckjaaGreatDoor.PN Go.Proofs.YtjopepfemhckjaaGreatDoorW.PrintWords Go.Proofs.YtjopepfemhckjaaGreatDoor.PParseTells
def popR (rank:Int):List S82→List Nd→List S82×List Nd
 |[],o=>([],o)
 |x::r,o=>if rank≤x.f1 then popR rank r (o++[.op x.f0.toNat])else(x::r,o)
theorem PB.popW {w0:World}{g:Nat}{A:Option Addr}{c:Nat}{toks:List S75}{B:Option Addr}{cap:Nat}{r:List S82}{x:S82}{ov:Value}{out:List Nd}{dp e p0 p1:Int}{w:World}(h:PB w0 g A c toks (.slice B (r.length+1) cap) (r.reverse++[x]) ov out dp e p0 p1 w):
 PB w0 g A c toks (.slice B r.length cap) r.reverse ov out dp e p0 p1 (w.setCell ⟨g,1,none⟩ (.slice B r.length cap)):=by
 have h1:=Kd.R_take h.wt (m:=r.length) (by simp)
 have e:(r.reverse++[x]).take r.length=r.reverse:=by rw[List.take_append_of_le_length (by simp)];exact List.take_of_length_le (by simp)
 rw[e]at h1;exact h.newW h.bl (World.grownBy.refl _ _) h1
theorem PB.last {w0:World}{g:Nat}{A:Option Addr}{c:Nat}{toks:List S75}{wv:Value}{r:List S82}{x:S82}{ov:Value}{out:List Nd}{dp e p0 p1:Int}{w:World}(h:PB w0 g A c toks wv (r.reverse++[x]) ov out dp e p0 p1 w):
 ∃b cap:Nat,wv= .slice (some ⟨b,0,none⟩) (r.length+1) cap∧r.length+1≤cap∧w.cell? ⟨b,r.length*3,none⟩=some (.int .i64 x.f0)∧w.cell? ⟨b,r.length*3+1,none⟩=some (.int .i64 x.f1)∧w.cell? ⟨b,r.length*3+2,none⟩=some (.int .i64 x.f2):=by
 obtain⟨b,cap,hv,_,_,_⟩:=Kd.R_form h.wt (by simp)
 have hl:(r.reverse++[x]).length=r.length+1:=by simp
 rw[hl]at hv;subst hv;obtain⟨hn,hcap,hC⟩:=Kd.R_reads' h.wt;obtain⟨ad,hA,q0,q1,q2⟩:=at_T82 hC (r.length:Int) (by omega) (by rw[hl];omega)
 injection hA with hA;subst hA;have hx:rd_T82 (r.reverse++[x]) (r.length:Int)=x:=by
  unfold rd_T82;rw[xa,List.getD_eq_getElem?_getD,List.getElem?_append_right (by simp)]
  simp
 have e0:(Addr.add ⟨b,0,none⟩ ((r.length:Int).toNat*3))=⟨b,r.length*3,none⟩:=by
  simp[Addr.add];intros
  omega
 rw[hx,e0]at q0 q1 q2;exact⟨b,cap,rfl,hcap,q0,q1,q2⟩
theorem pop_at (w0:World)(g:Nat)(A:Option Addr)(c:Nat)(toks:List S75)(wv:Value)(r:List S82)(ov:Value)(out:List Nd)(dp e p0 p1:Int)(w:World)(h:PB w0 g A c toks wv r.reverse ov out dp e p0 p1 w)(rank:Int)(hr1:1≤rank)(hr2:rank≤10)(hw:∀x∈r,1≤x.f1→0≤x.f0)(hlen:r.length+out.length≤100000):
 Calls Tryz.prog 46 #[.pointer (some ⟨g,0,none⟩),.int .i64 rank] w fun ex w'=>ex= .returned (.tuple #[])∧(∃wv' ov',PB w0 g A c toks wv' (popR rank r out).1.reverse ov' (popR rank r out).2 dp e p0 p1 w')∧Fr w w':=by
 obtain⟨RES,hRES⟩:∃RES,popR rank r out=RES:=⟨_,rfl⟩;rw[hRES];have HQ:=zc.mk h;have HRES:=zc.mk hRES;have HW:=zc.mk hw;have HL:=zc.mk hlen;have HG:=zc.mk h.gb;clear h hRES hw hlen;go_enter Tryz.func46,Tryz.ntmps46
 go_wp2_with fail;go_loopg [] (r.length+1) (fun kq w'=>∃(r1:List S82) (o1:List Nd) (wv1 ov1:Value),r1.length<kq∧zc (PB w0 g A c toks wv1 r1.reverse ov1 o1 dp e p0 p1 w')∧zc (popR rank r1 o1=RES)∧zc (∀x∈r1,1≤x.f1→0≤x.f0)∧zc (r1.length+o1.length≤100000)∧zc (Fr w w'))
 case atStart=>exact⟨r,out,wv,ov,by omega,HQ,HRES,HW,HL,⟨Fr.refl w⟩⟩
 case round=>
  clear HQ HRES HW HL;obtain⟨r1,o1,wv1,ov1,hlt,HQ,HRES,HW,HL,HF⟩:=hrel;cases r1 with
  |nil=>
   have hres:RES=([],o1):=HRES.out.symm;subst hres;obtain⟨c0,c1,c2,c3,c4,c5,c6⟩:=HQ.out.cells;obtain⟨B,cap,hB⟩:=Kd.R_slice HQ.out.wt;subst hB;have hl0:(([]:List S82).reverse).length=0:=rfl;have HQ2:=fun nq=>HQ.out.step (ze (xb wr.heap.size wr) nq)
   have HF2:=fun nq=>HF.out.trans (Fr.below (ze (xb wr.heap.size wr) nq))
   have HQ2:=zc.mk HQ2;have HF2:=zc.mk HF2;go_wp2_with fail;go_quiet (fail)
   go_wp2_with fail;refine bodyPost_end (v:= .tuple #[]) (by simp[results,Tryz.f46,go_sem]) rfl ?_
   exact⟨rfl,⟨_,_,HQ2.out nq⟩,HF2.out nq⟩
  |cons x r2=>
   have hrev:(x::r2).reverse=r2.reverse++[x]:=List.reverse_cons;have HQ0:=HQ.out;rw[hrev]at HQ0;obtain⟨b,cap,rfl,hcap,q0,q1,q2⟩:=HQ0.last;obtain⟨c0,c1,c2,c3,c4,c5,c6⟩:=HQ0.cells;have HQ1:=zc.mk HQ0;clear HQ0 HQ;have HQ2:=zc.mk (fun nq=>HQ1.out.step (ze (xb wr.heap.size wr) nq))
   have HF2:=zc.mk (fun nq=>HF.out.trans (Fr.below (ze (xb wr.heap.size wr) nq)))
   have HL2:r2.length+1+o1.length≤100000:=HL.out;have hL3:(r2.length:Int)≤100000:=by omega
   have hL4:(0:Int)≤(r2.length:Int):=by omega
   have hL5:(r2.length:Int)<(r2.length:Int)+1:=by omega
   have hL6:(r2.length:Int)≤(r2.length:Int)+1:=by omega
   have hwl:IntKind.i64.wrap (r2.length:Int)=(r2.length:Int):=by simp[j9];omega
   have hrr:popR rank (x::r2) o1=RES:=HRES.out;by_cases hrk:rank≤x.f1
   ·have hx0:0≤x.f0:=HW.out x (by simp) (by omega)
    have HR3:zc (popR rank r2 (o1++[.op x.f0.toNat])=RES):=⟨by rw[popR,if_pos hrk]at hrr;exact hrr⟩
    have hxn:((x.f0.toNat:Nat):Int)=x.f0:=by omega
    have HW3:zc (∀y∈r2,1≤y.f1→0≤y.f0):=⟨fun y hy=>HW.out y (by simp[hy])⟩
    clear hrr;go_wp2_with fail;go_quiet (fail)
    have HQ3:=zc.mk (HQ2.out nq);have HF3:=zc.mk (HF2.out nq);generalize wr.drewN nq=ws at*;clear HQ2 HF2 HQ1 q0 q1 q2 c0 c1 c2 c3 c4 c5 c6 HF;obtain⟨b',cap',hbe,hcap',q0,q1,q2⟩:=HQ3.out.last;injection hbe with hb1 hb2 hb3;injection hb1 with hb1;injection hb1 with hb1;subst hb1 hb3;rw[←hxn]at q0;obtain⟨kk,hkk⟩:∃kk,x.f0.toNat=kk:=⟨_,rfl⟩;rw[hkk]at q0 HR3;clear hxn;obtain⟨c0,c1,c2,c3,c4,c5,c6⟩:=HQ3.out.cells;obtain⟨s0,s1,s2,s3,s4,s5,s6⟩:=(HQ3.out.step ((xb _ _).drew)).cells;have o2:=(HQ3.out.step (((xb ws.heap.size ws).alloc (xc _) (.cells #[.int .i64 (kk:Int),.string ⟨#[]⟩,.string ⟨#[]⟩,.string ⟨#[]⟩,.int .i64 0,.int .i64 0] 37)).drew)).cells.2.2.1;have hbytes:((o1.map nd37).length+1)*72≤140737488355328:=by rw[List.length_map];omega
    have HQD:=zc.mk (HQ3.out.step ((xb _ _).drew));go_wp2_with fail;go_region_law ((refine Kd.R_append_step k37 (w0:=w0) (W:=ws.drew) w0.heap.size (by rfl) (.tmp 31) (.tmp 46) 24 37 (.agg #[.int .i64 0,.string ⟨#[]⟩,.string ⟨#[]⟩,.string ⟨#[]⟩,.int .i64 0,.int .i64 0]) 72 (by rfl) Tryz.underlying24 zS (by rfl) (by decide) (by omega) ov1 (o1.map nd37) (nd37 (.op kk)) [.int .i64 (kk:Int),.string ⟨#[]⟩,.string ⟨#[]⟩,.string ⟨#[]⟩,.int .i64 0,.int .i64 0] (fun k=>k≠g) (fun _=>False) (by rfl) (by rfl) (zE _ _ _ (nd37 (.op kk))) (fun _ hk=>hk.elim) (fun k hk=>by have:=HQD.out.lt;omega) HQD.out.ou HQD.out.bl HQD.out.bl.size hbytes ?_;intro v1 w1 hv1 hb1 hg1 ho1;have hl1:(o1.map nd37++[nd37 (.op kk)]).length=o1.length+1:=(by simp);obtain⟨Av,cv,hvv⟩:=Kd.R_slice hv1;rw[hl1]at hvv;subst hvv;have hk1:=(hg1.block g HQD.out.lt (fun hh=>HQD.out.ou.1 _ hh.symm rfl)).trans HQD.out.blk;have hz1:w1.frozen? ⟨g,2,none⟩=false:=Lib.frozen_of_heap hk1 2;have hc1:w1.cell? ⟨g,2,none⟩=some ov1:=(by rw[j6 hk1];rfl);have HK1:=zc.mk hk1;clear hk1))
    all_goals(
     have HQ6:=zc.mk (HQD.out.newO hb1 hg1 (out1:=o1++[.op kk]) (by rw[List.map_append];exact hv1))
     have HF6:=zc.mk ((HF3.out.trans ((Fr.below ((xb ws.heap.size ws).drew)).trans (HQD.out.frO hg1))).trans (Fr.grown (gst (World.grownBy.refl w1 (some g)) 2 (.slice Av (o1.length+1) cv)) (fun k hk=>by injection hk with hk;subst hk;exact⟨_,_,HK1.out,by decide⟩)))
     generalize w1.setCell ⟨g,2,none⟩ (.slice Av (o1.length+1) cv)=wt at*;clear hb1 hg1 hv1 ho1 HK1 HQD hz1 hc1 HQ3 HF3 c0 c1 c2 c3 c4 c5 c6 s0 s1 s2 s3 s4 s5 s6 o2 q0 q1 q2;obtain⟨c0,c1,c2,c3,c4,c5,c6⟩:=HQ6.out.cells;have f1:=HQ6.out.frozen 1;have HQ7:=zc.mk HQ6.out.popW;have HF7:=zc.mk (HF6.out.trans (HQ6.out.fr (gst (World.grownBy.refl wt (some g)) 1 (.slice (some ⟨b,0,none⟩) r2.length cap))));go_wp2_with fail;go_region;go_wp2_with fail;go_roundg (gk-1)
     case measure=>simp at hlt;omega
     case rel=>
      first
      |exact⟨r2,o1++[.op kk],_,_,by simp at hlt;omega,HQ7,HR3,HW3,⟨by rw[List.length_append];simp;omega⟩,HF7⟩
      |exact⟨r2,o1++[.op kk],_,_,by simp at hlt;omega,⟨HQ7.out.step ((xb _ _).drew)⟩,HR3,HW3,⟨by rw[List.length_append];simp;omega⟩,⟨HF7.out.trans (Fr.below ((xb _ _).drew))⟩⟩)
   ·have hres:RES=(x::r2,o1):=by rw[popR,if_neg hrk]at hrr;exact hrr.symm
    clear hrr;go_wp2_with fail;go_quiet (fail)
    go_wp2_with fail;refine bodyPost_end (v:= .tuple #[]) (by simp[results,Tryz.f46,go_sem]) rfl ?_
    subst hres;exact⟨rfl,⟨_,_,by rw[hrev];exact HQ2.out nq⟩,HF2.out nq⟩
end Go.Proofs.YtjopepfemhckjaaGreatDoor.NW
end
section
namespace Go.Proofs.YtjopepfemhckjaaGreatDoor.NW
open Go.Proofs Go.RowKit Go.Maps Go.WideMaps
theorem law109:Keyed Tryz.prog 9:=string_keyed Tryz.underlying9
theorem zeroI (w:World):(zeroValue 3).run Tryz.prog w= .ok (.int .i64 0) w:=by kernel_rfl
abbrev MW (w:World)(b n:Nat)(D:DataW Unit):Prop:=w.ownsMap Tryz.prog 9 (plainElem Tryz.prog 3) b n D
theorem put_at {w:World}{b n:Nat}{D:DataW Unit}(h:MW w b n D)(hn:n<100)(s:ByteArray)(hs:s.size≤100)(v:Int)(hv:0≤v∧v≤100):
 ∃w',(Instr.mapUpdate 109 (.map (some b)) (.string s) (.int .i64 v)).run Tryz.prog w= .ok () w'∧MW w' b (n+1) (D.put (.string s.data.toList) (.lit (.int .i64 v)))∧w.grownBy w' (some b):=
 h.update law109 Tryz.underlying109 (by unfold maxLen;omega) (keyOf_string_mk Tryz.underlying9 (by unfold maxLen;omega)) (plainElem_int Tryz.underlying3 (WalkArith.wf_i64 (by omega)))
def DP:DataW Unit:=((((DataW.map []).put (.string [112,120]) (.lit (.int .i64 1))).put (.string [97,118,103]) (.lit (.int .i64 2))).put (.string [104,105]) (.lit (.int .i64 3))).put (.string [108,111]) (.lit (.int .i64 4))
def DF:DataW Unit:=(((DataW.map []).put (.string [109,97,120]) (.lit (.int .i64 10))).put (.string [109,105,110]) (.lit (.int .i64 11))).put (.string [105,102]) (.lit (.int .i64 12))
theorem get_at {w:World}{b n:Nat}{D:DataW Unit}(h:MW w b n D)(s:ByteArray)(hs:s.size≤100)(c:Int)(hc:D.atKey (.string s.data.toList) (.lit (.int .i64 0))= .lit (.int .i64 c))(hh:Bool)(hb:Maps.has D (.string s.data.toList)=hh):
 (Instr.lookup 109 (.map (some b)) (.string s) true).run Tryz.prog w= .ok (.tuple #[.int .i64 c,.bool hh]) w:=by
 obtain⟨v,ps,hrun,hv⟩:=h.look_ok law109 Tryz.underlying109 (zeroI w) (zd:= .lit (.int .i64 0)) (zp:=[]) (plainElem_int Tryz.underlying3 (WalkArith.wf_i64 (by omega))) (key:= .string s) (kl:= .string s.data.toList) (keyOf_string_mk Tryz.underlying9 (by unfold maxLen;omega))
 rw[hc]at hv;obtain⟨a,hva,he,_⟩:=plainElem_int_inv Tryz.underlying3 hv;have he2:(DataW.lit (.int .i64 c):DataW Unit)= .lit (.int .i64 a):=congrArg Prod.fst he;injection he2 with he3;injection he3 with _ he4;subst he4;rw[hrun,hb,hva]
theorem DP_px:DP.atKey (.string [112,120]) (.lit (.int .i64 0))= .lit (.int .i64 1)∧Maps.has DP (.string [112,120])=true:=⟨by kernel_rfl,by kernel_rfl⟩
theorem DP_no (s:List UInt8)(h:s=[109,97,120]∨s=[109,105,110]∨s=[105,102]):DP.atKey (.string s) (.lit (.int .i64 0))= .lit (.int .i64 0)∧Maps.has DP (.string s)=false:=by
 rcases h with rfl|rfl|rfl
 ·exact⟨by kernel_rfl,by kernel_rfl⟩
 ·exact⟨by kernel_rfl,by kernel_rfl⟩
 ·exact⟨by kernel_rfl,by kernel_rfl⟩
theorem DF_max:DF.atKey (.string [109,97,120]) (.lit (.int .i64 0))= .lit (.int .i64 10)∧Maps.has DF (.string [109,97,120])=true:=⟨by kernel_rfl,by kernel_rfl⟩
theorem gtm {w w1 w2:World}{b:Nat}(h:Below w.heap.size w w1)(hb:w.heap.size≤b)(k:w1.grownBy w2 (some b)):Below w.heap.size w w2:=
 ⟨k.os.trans h.os,k.tape.trans h.tape,k.output.trans h.output,Nat.le_trans h.size k.size,fun i hi=>(k.block i (Nat.lt_of_lt_of_le hi h.size) (fun e=>by injection e with e;omega)).trans (h.block i hi)⟩
theorem maps_at (w:World):∃w1 w2 w3 w4 w5 w6 w7:World,
 (Instr.mapUpdate 109 (.map (some w.heap.size)) (.string ⟨#[112,120]⟩) (.int .i64 1)).run Tryz.prog (w.alloc (.map #[] 0))= .ok () w1∧
 (Instr.mapUpdate 109 (.map (some w.heap.size)) (.string ⟨#[97,118,103]⟩) (.int .i64 2)).run Tryz.prog w1= .ok () w2∧
 (Instr.mapUpdate 109 (.map (some w.heap.size)) (.string ⟨#[104,105]⟩) (.int .i64 3)).run Tryz.prog w2= .ok () w3∧
 (Instr.mapUpdate 109 (.map (some w.heap.size)) (.string ⟨#[108,111]⟩) (.int .i64 4)).run Tryz.prog w3= .ok () w4∧
 (Instr.mapUpdate 109 (.map (some w4.heap.size)) (.string ⟨#[109,97,120]⟩) (.int .i64 10)).run Tryz.prog (w4.alloc (.map #[] 0))= .ok () w5∧
 (Instr.mapUpdate 109 (.map (some w4.heap.size)) (.string ⟨#[109,105,110]⟩) (.int .i64 11)).run Tryz.prog w5= .ok () w6∧
 (Instr.mapUpdate 109 (.map (some w4.heap.size)) (.string ⟨#[105,102]⟩) (.int .i64 12)).run Tryz.prog w6= .ok () w7∧
 Below w.heap.size w w7∧MW w7 w.heap.size 4 DP∧MW w7 w4.heap.size 3 DF:=by
 have m0:MW (w.alloc (.map #[] 0)) w.heap.size 0 (.map []):=World.ownsMap_made w Tryz.prog 9 (plainElem Tryz.prog 3);have b0:=(xb w.heap.size w).alloc (xc _) (.map #[] 0);obtain⟨w1,r1,m1,g1⟩:=put_at m0 (by omega) ⟨#[112,120]⟩ (by decide) 1 (by omega)
 have b1:=gtm b0 (xc _) g1;obtain⟨w2,r2,m2,g2⟩:=put_at m1 (by omega) ⟨#[97,118,103]⟩ (by decide) 2 (by omega)
 have b2:=gtm b1 (xc _) g2;obtain⟨w3,r3,m3,g3⟩:=put_at m2 (by omega) ⟨#[104,105]⟩ (by decide) 3 (by omega)
 have b3:=gtm b2 (xc _) g3;obtain⟨w4,r4,m4,g4⟩:=put_at m3 (by omega) ⟨#[108,111]⟩ (by decide) 4 (by omega)
 have b4:=gtm b3 (xc _) g4;have n0:MW (w4.alloc (.map #[] 0)) w4.heap.size 0 (.map []):=World.ownsMap_made w4 Tryz.prog 9 (plainElem Tryz.prog 3);have b4':=b4.alloc b4.size (.map #[] 0);obtain⟨w5,r5,n1,g5⟩:=put_at n0 (by omega) ⟨#[109,97,120]⟩ (by decide) 10 (by omega)
 have b5:=gtm b4' b4.size g5;obtain⟨w6,r6,n2,g6⟩:=put_at n1 (by omega) ⟨#[109,105,110]⟩ (by decide) 11 (by omega)
 have b6:=gtm b5 b4.size g6;obtain⟨w7,r7,n3,g7⟩:=put_at n2 (by omega) ⟨#[105,102]⟩ (by decide) 12 (by omega)
 have b7:=gtm b6 b4.size g7;have hlt:=m4.lt;have hne:some w.heap.size≠some w4.heap.size:=fun e=>by injection e with e;omega
 have m7:=((((m4.alloc (.map #[] 0)).kept g5 hne).kept g6 hne).kept g7 hne);exact⟨w1,w2,w3,w4,w5,w6,w7,r1,r2,r3,r4,r5,r6,r7,b7,m7,n3⟩
end Go.Proofs.YtjopepfemhckjaaGreatDoor.NW
end
section
namespace Go.Proofs.YtjopepfemhckjaaGreatDoor.NW
open Go.Proofs Go.RowKit Go.Shelf Go.Proofs.YtjopepfemhckjaaGreatDoor.PN Go.Proofs.YtjopepfemhckjaaGreatDoorW.PrintWords Go.Proofs.YtjopepfemhckjaaGreatDoor.PParseTells
theorem qJ:∀(args:Array Value) (w:World),(callFunc 77 args).run Tryz.prog w= .ok (.enter 77 args) w:=Go.Proofs.enters_of Tryz.func77 (by kernel_rfl) rfl
theorem nm1_at (t:ByteArray)(w:World):Calls Tryz.prog 77 #[.string t] w fun ex w'=>ex= .returned (.bool true)∧Below w.heap.size w w':=by
 go_enter Tryz.func77,Tryz.ntmps77
 go_wp2_with fail;go_ret;exact⟨rfl,xb _ _⟩
theorem namePx_at (w0:World)(g:Nat)(A:Option Addr)(c:Nat)(t0 t1 t2 t3 t4 t5:S75)(rest:List S75)(wv:Value)(wait:List S82)(ov:Value)(out:List Nd)(dp e p0 p1:Int)(w:World)(h:PB w0 g A c (t0::t1::t2::t3::t4::t5::rest) wv wait ov out dp e p0 p1 w)(he0:e=0)
 (k0:t0.f0=0∧t0.f1=⟨#[112,120]⟩)(k1:t1.f0=2∧t1.f1=⟨#[40]⟩)(k2:t2.f0=0)(k3:t3.f0=2∧t3.f1=⟨#[44]⟩)(n:Nat)(k4:t4.f0=1∧t4.f1=natS n)(hn:n≤9999)(k5:t5.f0=2∧t5.f1=⟨#[41]⟩)(last:S75)(hout:out.length≤100000):
 Calls Tryz.prog 45 #[.pointer (some ⟨g,0,none⟩),tkV last] w fun ex w'=>ex= .returned (.bool false)∧(∃A' c' ov',PB w0 g A' c' rest wv wait ov' (out++[.px t2.f1 n]) dp e p0 p1 w')∧Fr w w':=by
 have hb0:=(xb w.heap.size w).alloc (xc _) (.cells #[.int .i64 last.f0,.string last.f1,.int .i64 last.f2,.int .i64 last.f3] 75);have HQ:=zc.mk (h.step hb0);have K0:=zc.mk (j7 w (.cells #[.int .i64 last.f0,.string last.f1,.int .i64 last.f2,.int .i64 last.f3] 75));have HFR:=zc.mk (Fr.below hb0);subst he0;have HT:=qN w0 g A c t0 (t1::t2::t3::t4::t5::rest) wv wait ov out dp 0 p0 p1 _ HQ.out rfl 77 qJ (nm1_at t0.f1 _);rw[k0.1,k0.2]at HT;have HT:=Lib.hid HT;have KK:=zc.mk (And.intro k1 (And.intro k2 (And.intro k3 (And.intro k4 (And.intro hn (And.intro k5 hout))))));clear h hb0 k0 k1 k2 k3 k4 k5 hn hout;unfold tkV at*;go_enter Tryz.func45,Tryz.ntmps45
 go_wp2_with fail;generalize w.alloc (.cells #[.int .i64 last.f0,.string last.f1,.int .i64 last.f2,.int .i64 last.f3] 75)=wa at*;refine HT.out.mono ?_;rintro ex wb ⟨rfl,hq,hg⟩;have HQ1:=zc.mk hq;have HF1:=zc.mk (HFR.out.trans (HQ.out.fr hg));have K1:=zc.mk ((HQ.out.fr hg) _ _ K0.out);generalize nxA c A=A1 at*;generalize c-1=c1 at*;clear HQ HFR K0 hq hg HT;obtain⟨wm1,wm2,wm3,wm4,wm5,wm6,wm7,r1,r2,r3,r4,r5,r6,r7,bm,mP,mF⟩:=maps_at wb;have hmm:= @run_makeMap Tryz.prog;have HQ2:=zc.mk (HQ1.out.step bm);have HF2:=zc.mk (HF1.out.trans (Fr.below bm));have K2:=zc.mk ((Fr.below bm) _ _ K1.out);have l0:wm7.cell? ⟨w.heap.size,0,none⟩=some (.int .i64 last.f0):=by rw[j6 K2.out];rfl
 have l1:wm7.cell? ⟨w.heap.size,1,none⟩=some (.string last.f1):=by rw[j6 K2.out];rfl
 have l2:wm7.cell? ⟨w.heap.size,2,none⟩=some (.int .i64 last.f2):=by rw[j6 K2.out];rfl
 have l3:wm7.cell? ⟨w.heap.size,3,none⟩=some (.int .i64 last.f3):=by rw[j6 K2.out];rfl
 have x1:=get_at mP ⟨#[112,120]⟩ (by decide) 1 DP_px.1 true DP_px.2
 have HPR:=pricePx_at w0 g A1 c1 t1 t2 t3 t4 t5 rest wv wait ov out dp 0 p0 p1 _ HQ2.out rfl KK.out.1 KK.out.2.1 KK.out.2.2.1 n KK.out.2.2.2.1 KK.out.2.2.2.2.1 KK.out.2.2.2.2.2.1 last KK.out.2.2.2.2.2.2;unfold tkV at HPR;have HPR:=Lib.hid HPR;clear mP mF bm HQ1 HF1 K1;go_wp2_with fail;refine HPR.out.mono ?_;rintro ex wc ⟨rfl,hq,hf⟩;have HF3:=zc.mk (HF2.out.trans hf);have HQ3:=zc.mk hq;clear hq hf HPR HQ2 HF2 K2 r1 r2 r3 r4 r5 r6 r7 x1 l0 l1 l2 l3;go_wp2_with fail;go_ret;exact⟨rfl,HQ3.out,HF3.out⟩
theorem nameFun10_at (w0:World)(g:Nat)(A:Option Addr)(c:Nat)(t0 t:S75)(rest:List S75)(wv:Value)(wait:List S82)(ov:Value)(out:List Nd)(dp e p0 p1:Int)(w:World)(h:PB w0 g A c (t0::t::rest) wv wait ov out dp e p0 p1 w)(he0:e=0)
 (k0:t0.f0=0∧t0.f1=⟨#[109,97,120]⟩)(hk:t.f0=2)(ht:t.f1=⟨#[40]⟩)(last:S75)(hwt:wait.length≤100000)(hdp:dp<200)(hdp2: -100000≤dp):
 Calls Tryz.prog 45 #[.pointer (some ⟨g,0,none⟩),tkV last] w fun ex w'=>ex= .returned (.bool true)∧(∃A' c' wv',PB w0 g A' c' rest wv' (wait++[⟨10,0,2⟩]) ov out (dp+1) 0 p0 p1 w')∧Fr w w':=by
 have hb0:=(xb w.heap.size w).alloc (xc _) (.cells #[.int .i64 last.f0,.string last.f1,.int .i64 last.f2,.int .i64 last.f3] 75);have HQ:=zc.mk (h.step hb0);have K0:=zc.mk (j7 w (.cells #[.int .i64 last.f0,.string last.f1,.int .i64 last.f2,.int .i64 last.f3] 75));have HFR:=zc.mk (Fr.below hb0);subst he0;have HT:=qN w0 g A c t0 (t::rest) wv wait ov out dp 0 p0 p1 _ HQ.out rfl 77 qJ (nm1_at t0.f1 _);rw[k0.1,k0.2]at HT;have HT:=Lib.hid HT;have KK:=zc.mk (And.intro hk (And.intro ht (And.intro hwt (And.intro hdp hdp2))));clear h hb0 k0 hk ht hwt hdp hdp2;unfold tkV at*;go_enter Tryz.func45,Tryz.ntmps45
 go_wp2_with fail;generalize w.alloc (.cells #[.int .i64 last.f0,.string last.f1,.int .i64 last.f2,.int .i64 last.f3] 75)=wa at*;refine HT.out.mono ?_;rintro ex wb ⟨rfl,hq,hg⟩;have HQ1:=zc.mk hq;have HF1:=zc.mk (HFR.out.trans (HQ.out.fr hg));have K1:=zc.mk ((HQ.out.fr hg) _ _ K0.out);generalize nxA c A=A1 at*;generalize c-1=c1 at*;clear HQ HFR K0 hq hg HT;obtain⟨wm1,wm2,wm3,wm4,wm5,wm6,wm7,r1,r2,r3,r4,r5,r6,r7,bm,mP,mF⟩:=maps_at wb;have hmm:= @run_makeMap Tryz.prog;have HQ2:=zc.mk (HQ1.out.step bm);have HF2:=zc.mk (HF1.out.trans (Fr.below bm));have K2:=zc.mk ((Fr.below bm) _ _ K1.out);have l0:wm7.cell? ⟨w.heap.size,0,none⟩=some (.int .i64 last.f0):=by rw[j6 K2.out];rfl
 have l1:wm7.cell? ⟨w.heap.size,1,none⟩=some (.string last.f1):=by rw[j6 K2.out];rfl
 have l2:wm7.cell? ⟨w.heap.size,2,none⟩=some (.int .i64 last.f2):=by rw[j6 K2.out];rfl
 have l3:wm7.cell? ⟨w.heap.size,3,none⟩=some (.int .i64 last.f3):=by rw[j6 K2.out];rfl
 have x1:=get_at mP ⟨#[109,97,120]⟩ (by decide) 0 (DP_no [109,97,120] (by exact .inl rfl)).1 false (DP_no [109,97,120] (by exact .inl rfl)).2
 have x2:=get_at mF ⟨#[109,97,120]⟩ (by decide) 10 DF_max.1 true DF_max.2
 have HAR:∀W,RowKit.Hid (Calls Tryz.prog 79 #[.int .i64 10] W fun ex w'=>ex= .returned (.int .i64 2)∧Below W.heap.size W w'):=fun W=>Lib.hid ((term_Arity.calls 20 10 2 W rfl).mono (fun ex w' hh=>by obtain⟨h1,nd,rfl⟩:=hh;exact⟨h1,ze (xb _ _) nd⟩))
 have HB:=zc.mk (xb wm7.heap.size wm7);have hLB:∀w':World,Below wm7.heap.size wm7 w'→w'.cell? ⟨w.heap.size,0,none⟩=some (.int .i64 last.f0)∧w'.cell? ⟨w.heap.size,1,none⟩=some (.string last.f1)∧w'.cell? ⟨w.heap.size,2,none⟩=some (.int .i64 last.f2)∧w'.cell? ⟨w.heap.size,3,none⟩=some (.int .i64 last.f3):=by
  intro w' hb;have k':=(hb.block _ (xe K2.out).1).trans K2.out;refine⟨?_,?_,?_,?_⟩<;>(rw[j6 k'];rfl)
 have HPU:∀W,Below wm7.heap.size wm7 W→RowKit.Hid (Calls Tryz.prog 43 #[.pointer (some ⟨g,0,none⟩),.agg #[.int .i64 10,.int .i64 0,.int .i64 2],.agg #[.int .i64 last.f0,.string last.f1,.int .i64 last.f2,.int .i64 last.f3]] W fun ex w'=>ex= .returned (.tuple #[])∧(∃wv',PB w0 g (nxA c1 A1) (c1-1) rest wv' (wait++[⟨10,0,2⟩]) ov out (dp+1) 0 p0 p1 w')∧Fr wm7 w'):=by
  intro W hb;exact Lib.hid ((pushYes_at w0 g A1 c1 t rest wv wait ov out dp 0 p0 p1 W (HQ2.out.step hb) rfl KK.out.1 KK.out.2.1 ⟨10,0,2⟩ last KK.out.2.2.1 KK.out.2.2.2.1 KK.out.2.2.2.2).mono (fun ex w' hh=>⟨hh.1,hh.2.1,(Fr.below hb).trans hh.2.2⟩))
 clear mP mF bm HQ1 HF1 K1;go_wp2_with fail;go_region_held3 (fun w':World=>w'.cell? ⟨w.heap.size,0,none⟩=some (.int .i64 last.f0)∧w'.cell? ⟨w.heap.size,1,none⟩=some (.string last.f1)∧w'.cell? ⟨w.heap.size,2,none⟩=some (.int .i64 last.f2)∧w'.cell? ⟨w.heap.size,3,none⟩=some (.int .i64 last.f3)) (first|(refine⟨?_,?_,?_,?_⟩<;>(rw[j6 HK3.out];rfl))|exact hLB _ bb) (first|(go_at_call 79;with_reducible refine(HAR _).out.mono ?_;rintro ex w' ⟨rfl,hb⟩;have n0:=zc.mk (zi bb hb);clear HB hb;have HB:=n0;clear n0)|(go_at_call 43;refine(HPU _ ?_).out.mono ?_;(exact bb);rintro ex w' ⟨rfl,hq,hf⟩;have HK3:=zc.mk (hf _ _ K2.out);have HQ3:=zc.mk hq;have HF3:=zc.mk (HF2.out.trans hf);clear hq hf))
 go_wp2_with fail;go_ret;obtain⟨wv',hqq⟩:=HQ3.out;exact⟨rfl,⟨_,_,wv',hqq⟩,HF3.out⟩
def zn (J:Nat→Act→World→Prop)(Q:Exit→Act→World→Prop):Exit→Act→World→Prop
 | .goto l,a,w=>J l a w
 |e,a,w=>Q e a w
theorem topNo_at (w0:World)(g:Nat)(A:Option Addr)(c:Nat)(toks:List S75)(wv:Value)(ov:Value)(out:List Nd)(dp e p0 p1:Int)(w:World)(h:PB w0 g A c toks wv [] ov out dp e p0 p1 w):
 Calls Tryz.prog 48 #[.pointer (some ⟨g,0,none⟩)] w fun ex w'=>ex= .returned (.pointer none)∧Below w.heap.size w w':=by
 obtain⟨B,cap,hB⟩:=Kd.R_slice h.wt;subst hB;obtain⟨c0,c1,c2,c3,c4,c5,c6⟩:=h.cells;clear h;go_enter Tryz.func48,Tryz.ntmps48
 go_wp2_with fail;go_ret;exact⟨rfl,xb _ _⟩
theorem jv (w0:World)(g:Nat)(A:Option Addr)(c:Nat)(toks:List S75)(wv:Value)(r:List S82)(x:S82)(ov:Value)(out:List Nd)(dp e p0 p1:Int)(w:World)(h:PB w0 g A c toks wv (r.reverse++[x]) ov out dp e p0 p1 w)(hr:r.length≤100000)(b cap:Nat)(hb:wv= .slice (some ⟨b,0,none⟩) (r.length+1) cap):
 Calls Tryz.prog 48 #[.pointer (some ⟨g,0,none⟩)] w fun ex w'=>ex= .returned (.pointer (some ⟨b,r.length*3,none⟩))∧Below w.heap.size w w':=by
 subst hb;obtain⟨c0,c1,c2,c3,c4,c5,c6⟩:=h.cells;have hL3:(r.length:Int)≤100000:=by omega
 have hL4:(0:Int)≤(r.length:Int):=by omega
 have hL5:(r.length:Int)<(r.length:Int)+1:=by omega
 have hwl:IntKind.i64.wrap (r.length:Int)=(r.length:Int):=by simp[j9];omega
 have hn0:¬(r.length:Int)+1=0:=by omega
 clear h;generalize r.length=L at*;go_enter Tryz.func48,Tryz.ntmps48
 go_wp2_with fail;go_quiet (fail)
 go_wp2_with fail;go_ret;exact⟨rfl,ze (xb _ _) _⟩
theorem scope_two {P:Program}{a:Act}{w:World}{Q:Exit→Act→World→Prop}{c r0 r1:Code}(h0:findLabel c 0=some r0)(h1:findLabel c 1=some r1)(J:Nat→Nat→Act→World→Prop)(hl:∀k l a w,J k l a w→l=0∨l=1)
 (pass1:∀k K a w,k≤K→J k 1 a w→r1.wp P (zn (fun l' a' w'=>∃k',k'<K∧J k' l' a' w') Q) a w)
 (pass0:∀k K a w,k≤K→(∀k' a w,k'<k→J k' 1 a w→r1.wp P (zn (fun l' a' w'=>∃k',k'<K∧J k' l' a' w') Q) a w)→J k 0 a w→r0.wp P (zn (fun l' a' w'=>∃k',k'<K∧J k' l' a' w') Q) a w)
 (first:(∀k a w,J k 0 a w→r0.wp P (zn (fun l' a' w'=>∃k',J k' l' a' w') Q) a w)→c.wp P (zn (fun l' a' w'=>∃k',J k' l' a' w') Q) a w):(Code.scope c).wp P Q a w:=by
 have mono:∀(K:Nat) (C:Code) a w,C.wp P (zn (fun l' a' w'=>∃k',k'<K∧J k' l' a' w') Q) a w→C.wp P (zn (fun l' a' w'=>∃k',J k' l' a' w') Q) a w:=by
  intro K C a w h;refine Code.wp_mono ?_ h;intro e a w hh;cases e with
  |goto l=>obtain⟨k',_,hj⟩:=hh;exact⟨k',hj⟩
  |_=>exact hh
 have p0:∀k K a w,k≤K→J k 0 a w→r0.wp P (zn (fun l' a' w'=>∃k',k'<K∧J k' l' a' w') Q) a w:=
  fun k K a w hk hj=>pass0 k K a w hk (fun k' a w hlt hj'=>pass1 k' K a w (by omega) hj') hj
 let rs:Nat→Code:=fun l=>if l=0 then r0 else r1
 intro bs ks cs;have again:∀(N:Nat) (k l:Nat) (a:Act) (w:World),k<N→J k l a w→∃e a' w',Q e a' w'∧Arrives P (lone (bs.at a (.code (rs l):: .inScope c::ks)) cs w) bs ks cs e a' w':=by
  intro N;induction N with
  |zero=>exact fun k l a w h=>absurd h (Nat.not_lt_zero _)
  |succ N ih=>
   intro k l a w hlt hj;have hp:(rs l).wp P (zn (fun l' a' w'=>∃k',k'<k∧J k' l' a' w') Q) a w:=by
    rcases hl k l a w hj with rfl|rfl
    ·exact p0 k k a w (xc _) hj
    ·exact pass1 k k a w (xc _) hj
   obtain⟨e,a1,w1,hq,har⟩:=hp bs (.inScope c::ks) cs;match e,hq,har with
   | .normal,hq,har=>exact⟨.normal,a1,w1,hq,Steps.trans har (.one step_inScope)⟩
   | .exit i,hq,har=>exact⟨.exit i,a1,w1,hq,fun k' hk=>har k' (by simp[exitTo,hk])⟩
   | .goto l2,hq,har=>
     obtain⟨k2,hk2,hj2⟩:=hq;have hf2:findLabel c l2=some (rs l2):=by rcases hl k2 l2 a1 w1 hj2 with rfl|rfl;exact h0;exact h1
     obtain⟨e2,a2,w2,hq2,har2⟩:=ih k2 l2 a1 w1 (by omega) hj2
     exact⟨e2,a2,w2,hq2,.of_steps (har _ (by simp[gotoIn,hf2])) har2⟩
   | .ret,hq,har=>exact⟨.ret,a1,w1,hq,har⟩
   | .panic x,hq,har=>exact⟨.panic x,a1,w1,hq,har⟩
   | .outgrown,hq,har=>exact⟨.outgrown,a1,w1,hq,har⟩
 obtain⟨e,a1,w1,hq,har⟩:=first (fun k a w hj=>mono k r0 a w (p0 k k a w (xc _) hj)) bs (.inScope c::ks) cs
 match e,hq,har with
 | .normal,hq,har=>exact⟨.normal,a1,w1,hq,.head step_scope (Steps.trans har (.one step_inScope))⟩
 | .exit i,hq,har=>exact⟨.exit i,a1,w1,hq,fun k' hk=> .head step_scope (har k' (by simp[exitTo,hk]))⟩
 | .goto l2,hq,har=>
   obtain⟨k2,hj2⟩:=hq;have hf2:findLabel c l2=some (rs l2):=by rcases hl k2 l2 a1 w1 hj2 with rfl|rfl;exact h0;exact h1
   obtain⟨e2,a2,w2,hq2,har2⟩:=again (k2+1) k2 l2 a1 w1 (Nat.lt_succ_self _) hj2;exact⟨e2,a2,w2,hq2,.of_steps (.head step_scope (har _ (by simp[gotoIn,hf2]))) har2⟩
 | .ret,hq,har=>exact⟨.ret,a1,w1,hq,.of_steps (.one step_scope) har⟩
 | .panic x,hq,har=>exact⟨.panic x,a1,w1,hq,.of_steps (.one step_scope) har⟩
 | .outgrown,hq,har=>exact⟨.outgrown,a1,w1,hq,.of_steps (.one step_scope) har⟩
inductive Res where
 |ok (o:List Nd)
 |err (e l c:Int)
structure NumT (s:ByteArray) (z:Int) (d:Nat):Prop where
 run:∀w,Glob w→Calls Tryz.prog 40 #[.string s] w fun e w'=>e= .returned (.tuple #[ratV z d,.int .i64 0])∧Below w.heap.size w w'
 sh:parse_short.f (intS z) (natS d)=some true
inductive Run (last:S75):Nat→Bool→List S75→List S82→List Nd→Int→Res→Prop
 |oEnd (k r o dp):Run last (k+1) true [] r o dp (.err 110 (zC [] last).1 (zC [] last).2)
 |oNum (k t rest r o dp R z d) (hk:t.f0=1) (hn:NumT t.f1 z d) (h:Run last k false rest r (o++[.num z d]) dp R):Run last (k+1) true (t::rest) r o dp R
 |oNeg (k t rest r o dp R) (hk:t.f0=2) (ht:t.f1=⟨#[45]⟩) (h:Run last k true rest (⟨5,3,0⟩::r) o dp R):Run last (k+1) true (t::rest) r o dp R
 |oPar (k t rest r o dp R) (hk:t.f0=2) (ht:t.f1=⟨#[40]⟩) (hd:dp<200) (h:Run last k true rest (⟨-1,0,0⟩::r) o (dp+1) R):Run last (k+1) true (t::rest) r o dp R
 |oDeep (k t rest r o dp) (hk:t.f0=2) (ht:t.f1=⟨#[40]⟩) (hd:200≤dp):Run last (k+1) true (t::rest) r o dp (.err 111 t.f2 t.f3)
 |oPx (k t0 t1 t2 t3 t4 t5 rest r o dp R n) (k0:t0.f0=0∧t0.f1=⟨#[112,120]⟩) (k1:t1.f0=2∧t1.f1=⟨#[40]⟩) (k2:t2.f0=0) (k3:t3.f0=2∧t3.f1=⟨#[44]⟩) (k4:t4.f0=1∧t4.f1=natS n) (hn:n≤9999) (k5:t5.f0=2∧t5.f1=⟨#[41]⟩)
  (h:Run last k false rest r (o++[.px t2.f1 n]) dp R):Run last (k+1) true (t0::t1::t2::t3::t4::t5::rest) r o dp R
 |oMax (k t0 t rest r o dp R) (k0:t0.f0=0∧t0.f1=⟨#[109,97,120]⟩) (hk:t.f0=2) (ht:t.f1=⟨#[40]⟩) (hd:dp<200) (h:Run last k true rest (⟨10,0,2⟩::r) o (dp+1) R):Run last (k+1) true (t0::t::rest) r o dp R
 |oBad (k t rest r o dp) (hk:t.f0=0) (hb:parse_known.f t.f1=some false) (ht:t.f1.toList≠[40]):Run last (k+1) true (t::rest) r o dp (.err 110 t.f2 t.f3)
 |oSign (k t rest r o dp) (hk:t.f0=2) (ht:t.f1.toList≠[45]) (ht2:t.f1.toList≠[40]):Run last (k+1) true (t::rest) r o dp (.err 110 t.f2 t.f3)
 |pEnd (k r o dp o') (h:popR 1 r o=([],o')):Run last (k+1) false [] r o dp (.ok o')
 |pEndW (k r o dp x r' o') (h:popR 1 r o=(x::r',o')):Run last (k+1) false [] r o dp (.err 110 (zC [] last).1 (zC [] last).2)
 |pOp (k t rest r o dp R op rank r' o') (ho:parse_operator.f t.f0 t.f1 t.f2 t.f3=some (op,rank)) (hop:0≤op) (hr:1≤rank) (hr2:rank≤10) (hp:popR rank r o=(r',o')) (h:Run last k true rest (⟨op,rank,0⟩::r') o' dp R):Run last (k+1) false (t::rest) r o dp R
 |pShutP (k t rest r o dp R x r' o') (hk:t.f0=2) (ht:t.f1=⟨#[41]⟩) (hp:popR 1 r o=(x::r',o')) (hx:x.f2≤1) (hx0:x.f0<0) (h:Run last k false rest r' o' (dp-1) R):Run last (k+1) false (t::rest) r o dp R
 |pShutF (k t rest r o dp R x r' o' kk) (hk:t.f0=2) (ht:t.f1=⟨#[41]⟩) (hp:popR 1 r o=(x::r',o')) (hx:x.f2≤1) (hx0:x.f0=Int.ofNat kk) (h:Run last k false rest r' (o'++[.op kk]) (dp-1) R):Run last (k+1) false (t::rest) r o dp R
theorem qj (rank:Int):∀(r:List S82) (o:List Nd),(popR rank r o).1.length+(popR rank r o).2.length=r.length+o.length:=by
 intro r;induction r with
 |nil=>intro o;rfl
 |cons x r ih=>
  intro o;rw[popR];split
  ·rw[ih];simp;omega
  ·rfl
theorem zQ (rank:Int):∀(r:List S82) (o:List Nd) (x:S82),x∈(popR rank r o).1→x∈r:=by
 intro r;induction r with
 |nil=>intro o x h;exact h
 |cons y r ih=>
  intro o x h;rw[popR]at h;split at h
  ·exact List.mem_cons_of_mem _ (ih _ x h)
  ·exact h
def PostR (w0:World)(g:Nat)(R:Res)(w:World):Prop:=
 match R with
 | .ok o=>∃A c toks wv wait ov dp p0 p1,PB w0 g A c toks wv wait ov o dp 0 p0 p1 w
 | .err e l cc=>∃A c toks wv wait ov o dp,PB w0 g A c toks wv wait ov o dp e l cc w
end Go.Proofs.YtjopepfemhckjaaGreatDoor.NW
end
