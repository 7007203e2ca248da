/-
  Part 2 of the proof of parseTells_holds: texts of this seat, put together.
-/
import Derived.OrdersHeld
import Derived.Deep.RegionHeld3
import Derived.Laws.BitsLemmas
import Derived.RowKit
import Derived.Test.YtjopepfemhckjaaGreatDoorProg
import Derived.Below
import Derived.Deep.Draws
import Derived.Deep.AppendLies
import Derived.Maps.AppendAt
import Derived.OwnWalk
import Derived.Laws.BytesArg
import Derived.Laws.MakeOwn
import Derived.Laws.OwnMore
import Derived.Deep.OwnRows
import Derived.Tactics
import Derived.Lib.ConvBytes
import Derived.Laws.Slices
import Derived.WalkKit
import Derived.KernelRfl
import Derived.RowKit3
import Derived.Deep.LoopGhost
import Derived.Deep.QuietTactic
import Derived.BigQuiet
import Derived.WideLaws
import Derived.Deep.DeepCutAuto
import Derived.Deep.CutBlock
import Derived.Laws.Rows
import Derived.Lib.AppendStr
import Derived.ArgAppend
import Derived.Laws.IdiomCopy
import Derived.Laws.StructEq
import Derived.RangeFuncBox
import Derived.RangeFuncLeaves
import Derived.RangeFuncWrites
import Derived.RangeFuncCalls
import Derived.RangeFuncNested
import Derived.Shelf.RegionOpen
import Derived.Shelf.Abstract
import Derived.OwnWalkIn
import Derived.TacticsInMore
import Derived.LoopNIn
import Derived.LoopIn
import Derived.Test.YtjopepfemhckjaaGreatDoorTl1
set_option linter.unusedVariables false
set_option linter.unusedSimpArgs false
set_option maxHeartbeats 16000000
set_option maxRecDepth 100000
section
namespace Go.Proofs.YtjopepfemhckjaaGreatDoorW.PrintLast
section
variable {P:Program} {ops:Array Oper} {Q:Exit→Act→World→Prop} {md:Region.Mode} {S:World→Prop} {ds:List Nat}
theorem enters_ {f:FuncId}{fn:Func}(hf:P.funcs[f]? =some fn)(hname:(fn.name== "runtime.NumGoroutine")=false)(hb:fn.body.isSome=true)(args:Array Value)(w:World):(callFunc f args).run P w= .ok (.enter f args) w:=by
 have h1:fn.name≠ "runtime.NumGoroutine" :=by simpa using hname
 obtain⟨c,hc⟩:=Option.isSome_iff_exists.1 hb;simp[callFunc,hf,h1,hc]
theorem jX {rest:List Oper}{oi:Oper}{a:Act}{w:World}(N:Option Tmp)(hd:oi.dst=N)(hg:oi.guard=none){f:FuncId}{fn:Func}{as0:Array Operand}{ts:Array TypeId}(hf:P.funcs[f]? =some fn)(hname:(fn.name== "runtime.NumGoroutine")=false)(hb:fn.body.isSome=true)(args:Array Value)
 (hop:oi.op= .call {callee:= .value (.func f),args:=as0,argTypes:=ts})(hargs:as0.map a.eval=args)
 (h:Calls P f args w fun e w'=>∃v,e= .returned v∧wpList P ops Q rest (a.put N v) w'):wpList P ops Q (oi::rest) a w:=by
 refine wpList_plain hg fun K hK=>?_
 have he:=enters_ hf hname hb args w;have hrun:(execOp a.eval oi).run P w= .ok (.enter f args) w:=by
  unfold execOp;simp[hop,resolve,Deferred.ofValue,invoke,Act.eval,hargs,he]
 unfold Oper.wp;rw[hrun,Oper.upon_enter];refine h.mono fun e w'' hh=>?_
 obtain⟨v,rfl,hk⟩:=hh;subst hd;exact hK _ _ hk
theorem i64_w (n:Int):IntKind.i64.wrap n=Go.RowKit.wrap64 n:=by unfold Go.RowKit.wrap64;exact IntKind.wrap_i64 n
theorem i32_w (n:Int):IntKind.i32.wrap n=Go.RowKit.wrap32 n:=by unfold Go.RowKit.wrap32;exact IntKind.wrap_i32 n
end
end Go.Proofs.YtjopepfemhckjaaGreatDoorW.PrintLast
end
section
namespace Go.Proofs.YtjopepfemhckjaaGreatDoorW.PrintWords
open Go.RowKit
namespace Kd
def tag {α:Type}(f:Nat→Nat)(d:Kd α):Kd (α×Nat) where
 sz:=d.sz
 E:=d.E
 K:=fun w x cs=>d.K w x.1 cs
 M:=fun w base ok x cs=>d.M w base (fun k=>ok k∧f k=x.2) x.1 cs
 K_len:=fun h=>d.K_len h
 K_one:=fun h=>d.K_one h
 K_below:=fun hb h=>d.K_below hb h
 K_of_M:=fun h=>d.K_of_M h
 M_mono:=fun hok h=>d.M_mono (fun k hk=>⟨hok k hk.1,hk.2⟩) h
 M_bound:=fun h=>d.M_mono (fun _ hk=>⟨⟨hk.1.1,hk.2⟩,hk.1.2⟩) (d.M_bound h)
 M_move:=fun hm h=>d.M_move (fun k hk=>hm k hk.1) h
 M_lower:=fun hb h=>d.M_lower hb h
def bare {α:Type}(d:Kd α):Kd α where
 sz:=d.sz
 E:=d.E
 K:=d.K
 M:=fun w base _ x cs=>d.M w base (fun _=>False) x cs
 K_len:=fun h=>d.K_len h
 K_one:=fun h=>d.K_one h
 K_below:=fun hb h=>d.K_below hb h
 K_of_M:=fun h=>d.K_of_M h
 M_mono:=fun _ h=>h
 M_bound:=fun h=>h
 M_move:=fun _ h=>d.M_move (fun _ hk=>hk.elim) h
 M_lower:=fun hb h=>d.M_lower hb h
def raw (sz:Nat):Kd (List Value) where
 sz:=sz
 E:=[]
 K:=fun _ x cs=>cs=x∧cs.length=sz∧∀u∈cs,u.oneCell'=true
 M:=fun _ _ _ x cs=>cs=x∧cs.length=sz∧∀u∈cs,u.oneCell'=true
 K_len:=fun h=>h.2.1
 K_one:=fun h=>h.2.2
 K_below:=fun _ h=>h
 K_of_M:=fun h=>h
 M_mono:=fun _ h=>h
 M_bound:=fun h=>h
 M_move:=fun _ h=>h
 M_lower:=fun _ h=>h
def S {α:Type}(d:Kd α)(e:Nat)(w:World)(base:Nat)(ok:Nat→Prop)(v:Value)(xs:List α):Prop:=∃f,(tag f d).R e w base ok v xs.zipIdx
section
variable {α β:Type} {d:Kd α} {d':Kd β} {e e':Nat} {w w1 W:World} {base b:Nat} {ok ok' okv oku:Nat→Prop} {u v:Value} {xs:List α} {ys:List β}
theorem R_tight (hE:d.E=[])(h:d.R e w base ok v xs):d.R e w base (fun k=>some k=v.ownBlock) v xs:=by
 obtain⟨h0,inner,ho,hr⟩:=h;refine⟨fun k hk=>hk.symm,inner,ho,hr.imp_ (fun p c hp=>d.M_mono (fun k hk=>?_) (d.M_bound hp))⟩
 obtain⟨_,_,_,q,hq,_⟩:=hk;rw[hE]at hq;cases hq
end
def gap {α:Type}(f:Nat→Nat)(d:Kd α)(i:Nat)(c:List Value):Kd (α×Nat) where
 sz:=d.sz
 E:=d.E
 K:=fun w x cs=>(x.2=i→cs=c∧cs.length=d.sz∧∀u∈cs,u.oneCell'=true)∧(x.2≠i→d.K w x.1 cs)
 M:=fun w base ok x cs=>(x.2=i→cs=c∧cs.length=d.sz∧∀u∈cs,u.oneCell'=true)∧(x.2≠i→d.M w base (fun k=>ok k∧f k=x.2) x.1 cs)
 K_len:=fun {w x cs} h=>by
  by_cases hx:x.2=i
  ·exact(h.1 hx).2.1
  ·exact d.K_len (h.2 hx)
 K_one:=fun {w x cs} h=>by
  by_cases hx:x.2=i
  ·exact(h.1 hx).2.2
  ·exact d.K_one (h.2 hx)
 K_below:=fun hb h=>⟨h.1,fun hx=>d.K_below hb (h.2 hx)⟩
 K_of_M:=fun h=>⟨h.1,fun hx=>d.K_of_M (h.2 hx)⟩
 M_mono:=fun hok h=>⟨h.1,fun hx=>d.M_mono (fun k hk=>⟨hok k hk.1,hk.2⟩) (h.2 hx)⟩
 M_bound:=fun h=>⟨h.1,fun hx=>d.M_mono (fun _ hk=>⟨⟨hk.1.1,hk.2⟩,hk.1.2⟩) (d.M_bound (h.2 hx))⟩
 M_move:=fun hm h=>⟨h.1,fun hx=>d.M_move (fun k hk=>hm k hk.1) (h.2 hx)⟩
 M_lower:=fun hb h=>⟨h.1,fun hx=>d.M_lower hb (h.2 hx)⟩
def H {α:Type}(d:Kd α)(e:Nat)(w:World)(base:Nat)(ok:Nat→Prop)(v:Value)(xs:List α)(i:Int)(oki:Nat→Prop)(c:List Value):Prop:=
 (∀k,oki k→ok k)∧∃f,(gap f d i.toNat c).R e w base (fun k=>ok k∧¬oki k) v xs.zipIdx
section
variable {P:Program} {ops:Array Oper} {rest:List Oper} {o:Oper} {a:Act} {Q:Exit→Act→World→Prop} {α:Type}
end
end Kd
end Go.Proofs.YtjopepfemhckjaaGreatDoorW.PrintWords
end
section
namespace Go.Proofs.YtjopepfemhckjaaGreatDoorW.PrintWords
open Go.RowKit
def Kept (w W:World)(S:Nat→Prop):Prop:=w.heap.size≤W.heap.size∧∀i,i<w.heap.size→¬S i→W.heap[i]? =w.heap[i]?
section
variable {w W W2:World} {S S2 S':Nat→Prop}
theorem cell_kept {a:Addr}{v:Value}(hc:W.cell? a=some v)(hk:Kept W W2 S)(hne:¬S a.block):W2.cell? a=some v:=by
 have:=hk.2 a.block (World.block_lt_of_cell? W a hc) hne;simpa[World.cell?,this]using hc
end
namespace Kd
section
variable {α:Type} {d:Kd α} {e base n c:Nat} {ok oki S S2:Nat→Prop} {w w0 W W1 W2:World} {v:Value} {A:Option Addr} {xs:List α} {i:Int} {cs:List Value}
end
end Kd
end Go.Proofs.YtjopepfemhckjaaGreatDoorW.PrintWords
end
section
namespace Go.Proofs.YtjopepfemhckjaaGreatDoorW.PrintWords
open Go.RowKit
def Foot (P:World→Prop)(W:World)(ok:Nat→Prop):Prop:=∀W':World,(∀k,ok k→k<W.heap.size→W'.heap[k]? =W.heap[k]?)→P W'
theorem heap_lt {W W1:World}{k:Nat}(h:W1.heap[k]? =W.heap[k]?)(hlt:k<W.heap.size):k<W1.heap.size:=by
 rw[Array.getElem?_eq_getElem hlt]at h;exact(Array.getElem?_eq_some_iff.1 h).1
namespace Foot
variable {P Q:World→Prop} {W W1:World} {ok ok':Nat→Prop}
theorem now (h:Foot P W ok):P W:=h W (fun _ _ _=>rfl)
theorem mono (h:Foot P W ok)(hok:∀k,ok k→ok' k):Foot P W ok':=fun W' hW=>h W' (fun k hk hlt=>hW k (hok k hk) hlt)
theorem bound (h:Foot P W ok):Foot P W (fun k=>ok k∧k<W.heap.size):=fun W' hW=>h W' (fun k hk hlt=>hW k ⟨hk,hlt⟩ hlt)
theorem step (h:Foot P W ok)(hm:∀k,ok k→k<W.heap.size→W1.heap[k]? =W.heap[k]?):Foot P W1 ok:=fun W' hW=>h W' (fun k hk hlt=>(hW k hk (heap_lt (hm k hk hlt) hlt)).trans (hm k hk hlt))
theorem imp (h:Foot P W ok)(hi:∀W',P W'→Q W'):Foot Q W ok:=fun W' hW=>hi W' (h W' hW)
theorem old (h:Foot P W ok)(hb:Below W.heap.size W W1):Foot P W1 (fun k=>ok k∧k<W.heap.size):=(h.bound).step (fun k _ hlt=>hb.block k hlt)
end Foot
namespace Kd
def F {α:Type}(d:Kd α)(W:World)(ok:Nat→Prop)(A:Option Addr)(n:Nat)(xs:List α):Prop:=Foot (fun W=>d.C W A n xs) W ok
def FK {α:Type}(d:Kd α)(W:World)(ok:Nat→Prop)(x:α)(c:List Value):Prop:=Foot (fun W=>d.K W x c) W ok
section
variable {α β:Type} {d:Kd α} {e base n n' cc g N:Nat} {ok ok' okp S:Nat→Prop} {w w0 w1 W W1:World} {A A':Option Addr} {u v v1:Value} {xs:List α} {xs':List β} {d':Kd β} {x:α} {c:List Value}
theorem F_now (h:F d W ok A n xs):d.C W A n xs:=Foot.now h
theorem F_mono (h:F d W ok A n xs)(hok:∀k,ok k→ok' k):F d W ok' A n xs:=Foot.mono h hok
theorem F_step (h:F d W ok A n xs)(hm:∀k,ok k→k<W.heap.size→W1.heap[k]? =W.heap[k]?):F d W1 ok A n xs:=Foot.step h hm
theorem F_imp (h:F d W ok A n xs)(hi:∀W',d.C W' A n xs→d'.C W' A' n' xs'):F d' W ok A' n' xs':=Foot.imp h hi
theorem F_below (h:F d W ok A n xs)(hb:Below W.heap.size W W1):F d W1 ok A n xs:=F_step h (fun k _ hlt=>hb.block k hlt)
theorem F_alloc (h:F d W ok A n xs)(o:Obj):F d (W.alloc o) ok A n xs:=F_below h (zk (Below.refl _ _) o)
theorem F_drew (h:F d W ok A n xs):F d W.drew ok A n xs:=F_below h (below_drew (Below.refl _ _))
theorem F_drewN (h:F d W ok A n xs)(m:Nat):F d (W.drewN m) ok A n xs:=F_below h (ze (Below.refl _ _) m)
theorem R_F (h:d.R e W base ok (.slice A n cc) xs):F d W ok A n xs:=fun W' hW=>by
 have h2:=R_reads' (R_step h hW);rw[h2.1];exact h2.2.2
end
end Kd
end Go.Proofs.YtjopepfemhckjaaGreatDoorW.PrintWords
end
section
namespace Go.Proofs.YtjopepfemhckjaaGreatDoorW.PrintWords
open Go.RowKit
namespace Kd
section
variable {α:Type} {d:Kd α} {e base n cc g:Nat} {ok ok' okp S:Nat→Prop} {w w1 W W1:World} {A:Option Addr} {u v v1:Value} {xs:List α} {x:α} {c:List Value}
def N {α:Type}(d:Kd α)(e:Nat)(w:World)(base:Nat)(ok:Nat→Prop)(v:Value)(xs:List α):Prop:=
 (∀k,v.ownBlock=some k→ok k)∧∃rows:List (List Value),rows.length=xs.length∧(raw d.sz).R e w base (fun k=>some k=v.ownBlock) v rows∧∀(j:Nat) (x:α) (c:List Value),xs[j]? =some x→rows[j]? =some c→FK d w (fun k=>ok k∧some k≠v.ownBlock) x c
end
end Kd
end Go.Proofs.YtjopepfemhckjaaGreatDoorW.PrintWords
end
section
namespace Go.Proofs.YtjopepfemhckjaaGreatDoorW.PrintWords
open Go.RowKit
section
variable {P:Program} {ops:Array Oper} {rest:List Oper} {o:Oper} {a:Act} {Q:Exit→Act→World→Prop} {W:World}
theorem gate_guard (hw:Region.wanted o (yielded ops a.tmps)=true)(h:wpList P ops Q ({o with guard:=none}::rest) a W):wpList P ops Q (o::rest) a W:=by
 have h1:Region.wanted {o with guard:=none} (yielded ops a.tmps)=true:=rfl;unfold wpList at h ⊢;rw[if_pos h1]at h;rw[if_pos hw];exact h
end
end Go.Proofs.YtjopepfemhckjaaGreatDoorW.PrintWords
end
section
namespace Go.Proofs.YtjopepfemhckjaaGreatDoorW.PrintWords
open Go.RowKit
section
variable {P:Program} {ops:Array Oper} {rest:List Oper} {o:Oper} {a:Act} {Q:Exit→Act→World→Prop} {W:World}
theorem gate_callee {f:FuncId}{as0:Array Operand}{ts:Array TypeId}(_ho:o.op= .call {callee:= .value (.func f),args:=as0,argTypes:=ts})(h:wpList P ops Q (o::rest) a W):wpList P ops Q (o::rest) a W:=h
end
def shl (k:IntKind)(x y:Int):Int:=k.wrap (x*2^min y.toNat k.bits)
theorem drewN_self (w:World)(n:Nat):w.drewN n=w.drewN n:=rfl
namespace Kd
section
variable {α:Type} {d:Kd α} {e base:Nat} {ok:Nat→Prop} {W w1:World} {v:Value} {xs:List α}
theorem R_grown1 (h:d.R e W base ok v xs)(hE:d.E=[]){row:Option Nat}(hg:W.grownBy w1 row)(hne:row≠v.ownBlock):d.R e w1 base ok v xs:=
 R_mono (R_grown (R_tight hE h) hg (fun _ hk e_=>hne (e_.symm.trans hk))) (fun k hk=>h.1 k hk.symm)
theorem R_grown2 (h:d.R e W base ok v xs)(hE:d.E=[]){row:Option Nat}(hg:W.grownBy w1 row)(hne:∀k,row=some k→some k≠v.ownBlock):d.R e w1 base ok v xs:=
 R_mono (R_grown (R_tight hE h) hg (fun k hk e_=>hne k e_.symm hk)) (fun k hk=>h.1 k hk.symm)
end
end Kd
end Go.Proofs.YtjopepfemhckjaaGreatDoorW.PrintWords
namespace Go.Proofs.YtjopepfemhckjaaGreatDoorW.PrintWords
open Go.RowKit
namespace Kd
def V {α:Type}(d:Kd α)(_e:Nat)(W:World)(_base:Nat)(ok:Nat→Prop)(v:Value)(xs:List α):Prop:=∃A c,v= .slice A xs.length c∧xs.length≤c∧F d W ok A xs.length xs
section
variable {α β:Type} {d:Kd α} {e base base' n m c g N' lo hi:Nat} {ok ok' S:Nat→Prop} {w W w1:World} {A:Option Addr} {ad:Addr} {u v v1:Value} {xs:List α}
theorem V_map (h:V d e W base ok v xs)(hF:∀A,F d W ok A xs.length xs→F d w1 ok' A xs.length xs):V d e w1 base' ok' v xs:=by
 obtain⟨A,c,hv,hl,hf⟩:=h;exact⟨A,c,hv,hl,hF A hf⟩
theorem V_mk (hl:xs.length≤c)(hf:F d W ok A xs.length xs):V d e W base ok (.slice A xs.length c) xs:=⟨A,c,rfl,hl,hf⟩
theorem V_slice (h:V d e W base ok v xs):∃A c,v= .slice A xs.length c:=by
 obtain⟨A,c,hv,_⟩:=h;exact⟨A,c,hv⟩
theorem V_at (h:V d e W base ok (.slice A n c) xs):n=xs.length∧n≤c∧F d W ok A xs.length xs:=by
 obtain⟨A',c',hv,hl,hf⟩:=h;injection hv with ha hn hc;subst ha;subst hc;exact⟨hn,by rw[hn];exact hl,hf⟩
theorem V_reads' (h:V d e W base ok (.slice A n c) xs):n=xs.length∧n≤c∧d.C W A xs.length xs:=⟨(V_at h).1,(V_at h).2.1,F_now (V_at h).2.2⟩
theorem R_V (h:d.R e W base ok v xs):V d e W base' ok v xs:=by
 obtain⟨A,c,rfl⟩:=R_slice h;exact⟨A,c,rfl,(R_reads' h).2.1,R_F h⟩
theorem V_mono (h:V d e W base ok v xs)(hok:∀k,ok k→ok' k):V d e W base ok' v xs:=V_map h (fun _ hf=>F_mono hf hok)
theorem V_alloc (h:V d e W base ok v xs)(o:Obj):V d e (W.alloc o) base ok v xs:=V_map h (fun _ hf=>F_alloc hf o)
theorem V_drew (h:V d e W base ok v xs):V d e W.drew base ok v xs:=V_map h (fun _ hf=>F_drew hf)
theorem V_drewN (h:V d e W base ok v xs)(m:Nat):V d e (W.drewN m) base ok v xs:=V_map h (fun _ hf=>F_drewN hf m)
theorem F_take (h:F d W ok A xs.length xs)(hm:m≤xs.length):F d W ok A (xs.take m).length (xs.take m):=F_imp h (fun _ hC=>C_take hC hm)
end
end Kd
end Go.Proofs.YtjopepfemhckjaaGreatDoorW.PrintWords
end
section
namespace Go.Proofs.YtjopepfemhckjaaGreatDoor.PParseTells
open Go.RowKit Go.Proofs.YtjopepfemhckjaaGreatDoorW.PrintWords Go.Proofs.YtjopepfemhckjaaGreatDoorW.PrintLast
def errW:Option Int→Value
 |none=> .nilIface
 |some c=> .iface 208 (.int .i64 c)
theorem zz:errW none= .nilIface:=rfl
theorem zy (c:Int):errW (some c)= .iface 208 (.int .i64 c):=rfl
theorem info3:(Tryz.prog.info? 3).map (fun i=>(i.zero,i.size,i.bytes))=some (some (.int .i64 0),1,8):=by kernel_rfl
theorem info5:(Tryz.prog.info? 5).map (fun i=>(i.zero,i.size,i.bytes))=some (some (.int .u8 0),1,1):=by kernel_rfl
theorem info75:(Tryz.prog.info? 75).map (fun i=>(i.zero,i.size,i.bytes))=some (some (.agg #[(.int .i64 0),(.string ⟨#[]⟩),(.int .i64 0),(.int .i64 0)]),4,40):=by kernel_rfl
structure S35 where
 f0:ByteArray
 f1:ByteArray
def z35:S35:=⟨(⟨#[]⟩:ByteArray),(⟨#[]⟩:ByteArray)⟩
def k35:Kd S35:=Kd.iso (Kd.pair Kd.string Kd.string) (fun x:S35=>(x.f0,x.f1))
theorem k35_open {w:World}{x:S35}{cs:List Value}(h:k35.K w x cs):cs=[.string x.f0,.string x.f1]:=by
 obtain⟨_,_,rfl,rfl,rfl⟩:=h;exact rfl
theorem k35_mkM (w:World)(base:Nat)(ok:Nat→Prop)(x:S35):k35.M w base ok x [.string x.f0,.string x.f1]:=⟨[.string x.f0],[.string x.f1],rfl,rfl,rfl⟩
structure S37 where
 f0:Int
 f1:S35
 f2:ByteArray
 f3:Int
 f4:Int
def z37:S37:=⟨(0:Int),z35,(⟨#[]⟩:ByteArray),(0:Int),(0:Int)⟩
def k37:Kd S37:=Kd.iso (Kd.pair (Kd.int .i64) (Kd.pair k35 (Kd.pair Kd.string (Kd.pair (Kd.int .i64) (Kd.int .i64))))) (fun x:S37=>(x.f0,x.f1,x.f2,x.f3,x.f4))
theorem k37_open {w:World}{x:S37}{cs:List Value}(h:k37.K w x cs):cs=[.int .i64 x.f0,.string x.f1.f0,.string x.f1.f1,.string x.f2,.int .i64 x.f3,.int .i64 x.f4]:=by
 obtain⟨_,_,rfl,rfl,⟨_,_,rfl,s1,⟨_,_,rfl,rfl,⟨_,_,rfl,rfl,rfl⟩⟩⟩⟩:=h;obtain rfl:=k35_open s1;exact rfl
theorem zE (w:World)(base:Nat)(ok:Nat→Prop)(x:S37):k37.M w base ok x [.int .i64 x.f0,.string x.f1.f0,.string x.f1.f1,.string x.f2,.int .i64 x.f3,.int .i64 x.f4]:=⟨[.int .i64 x.f0],[.string x.f1.f0,.string x.f1.f1,.string x.f2,.int .i64 x.f3,.int .i64 x.f4],rfl,rfl,⟨[.string x.f1.f0,.string x.f1.f1],[.string x.f2,.int .i64 x.f3,.int .i64 x.f4],rfl,(k35_mkM w base ok x.f1),⟨[.string x.f2],[.int .i64 x.f3,.int .i64 x.f4],rfl,rfl,⟨[.int .i64 x.f3],[.int .i64 x.f4],rfl,rfl,rfl⟩⟩⟩⟩
def rd_T37 (xs:List S37)(i:Int):S37:=xs.getD i.toNat z37
theorem at_T37 {w:World}{A:Option Addr}{n:Nat}{xs:List S37}(h:Kd.C k37 w A n xs)(i:Int)(h0:0≤i)(h1:i<n):∃ad,A=some ad∧w.cell? (ad.add (i.toNat*6))=some (.int .i64 (rd_T37 xs i).f0)∧w.cell? ⟨(ad.add (i.toNat*6)).block,(ad.add (i.toNat*6)).off+1,none⟩=some (.string (rd_T37 xs i).f1.f0)∧w.cell? ⟨(ad.add (i.toNat*6)).block,(ad.add (i.toNat*6)).off+2,none⟩=some (.string (rd_T37 xs i).f1.f1)∧w.cell? ⟨(ad.add (i.toNat*6)).block,(ad.add (i.toNat*6)).off+3,none⟩=some (.string (rd_T37 xs i).f2)∧w.cell? ⟨(ad.add (i.toNat*6)).block,(ad.add (i.toNat*6)).off+4,none⟩=some (.int .i64 (rd_T37 xs i).f3)∧w.cell? ⟨(ad.add (i.toNat*6)).block,(ad.add (i.toNat*6)).off+5,none⟩=some (.int .i64 (rd_T37 xs i).f4):=by
 obtain⟨ad,c,e,_,hK,hc0⟩:=Kd.C_get h z37 i h0 h1;have hc:∀j u,c[j]? =some u→w.cell? (ad.add (i.toNat*6+j))=some u:=hc0;obtain rfl:=k37_open hK;exact⟨ad,e,hc 0 _ rfl,by rw[←zT _ _ 1 (by omega)];exact hc 1 _ rfl,by rw[←zT _ _ 2 (by omega)];exact hc 2 _ rfl,by rw[←zT _ _ 3 (by omega)];exact hc 3 _ rfl,by rw[←zT _ _ 4 (by omega)];exact hc 4 _ rfl,by rw[←zT _ _ 5 (by omega)];exact hc 5 _ rfl⟩
structure S75 where
 f0:Int
 f1:ByteArray
 f2:Int
 f3:Int
def z75:S75:=⟨(0:Int),(⟨#[]⟩:ByteArray),(0:Int),(0:Int)⟩
def k75:Kd S75:=Kd.iso (Kd.pair (Kd.int .i64) (Kd.pair Kd.string (Kd.pair (Kd.int .i64) (Kd.int .i64)))) (fun x:S75=>(x.f0,x.f1,x.f2,x.f3))
theorem k75_open {w:World}{x:S75}{cs:List Value}(h:k75.K w x cs):cs=[.int .i64 x.f0,.string x.f1,.int .i64 x.f2,.int .i64 x.f3]:=by
 obtain⟨_,_,rfl,rfl,⟨_,_,rfl,rfl,⟨_,_,rfl,rfl,rfl⟩⟩⟩:=h;exact rfl
theorem k75_mkM (w:World)(base:Nat)(ok:Nat→Prop)(x:S75):k75.M w base ok x [.int .i64 x.f0,.string x.f1,.int .i64 x.f2,.int .i64 x.f3]:=⟨[.int .i64 x.f0],[.string x.f1,.int .i64 x.f2,.int .i64 x.f3],rfl,rfl,⟨[.string x.f1],[.int .i64 x.f2,.int .i64 x.f3],rfl,rfl,⟨[.int .i64 x.f2],[.int .i64 x.f3],rfl,rfl,rfl⟩⟩⟩
def qY (xs:List S75)(i:Int):S75:=xs.getD i.toNat z75
theorem at_T75 {w:World}{A:Option Addr}{n:Nat}{xs:List S75}(h:Kd.C k75 w A n xs)(i:Int)(h0:0≤i)(h1:i<n):∃ad,A=some ad∧w.cell? (ad.add (i.toNat*4))=some (.int .i64 (qY xs i).f0)∧w.cell? ⟨(ad.add (i.toNat*4)).block,(ad.add (i.toNat*4)).off+1,none⟩=some (.string (qY xs i).f1)∧w.cell? ⟨(ad.add (i.toNat*4)).block,(ad.add (i.toNat*4)).off+2,none⟩=some (.int .i64 (qY xs i).f2)∧w.cell? ⟨(ad.add (i.toNat*4)).block,(ad.add (i.toNat*4)).off+3,none⟩=some (.int .i64 (qY xs i).f3):=by
 obtain⟨ad,c,e,_,hK,hc0⟩:=Kd.C_get h z75 i h0 h1;have hc:∀j u,c[j]? =some u→w.cell? (ad.add (i.toNat*4+j))=some u:=hc0;obtain rfl:=k75_open hK;exact⟨ad,e,hc 0 _ rfl,by rw[←zT _ _ 1 (by omega)];exact hc 1 _ rfl,by rw[←zT _ _ 2 (by omega)];exact hc 2 _ rfl,by rw[←zT _ _ 3 (by omega)];exact hc 3 _ rfl⟩
end Go.Proofs.YtjopepfemhckjaaGreatDoor.PParseTells
end
section
namespace Go.Proofs.YtjopepfemhckjaaGreatDoor.NW
open Go.Proofs Go.RowKit Go.Shelf Go.Proofs.YtjopepfemhckjaaGreatDoorW.PrintWords
attribute [local go_sem] Oper.semAt_some
def bk (n k:Nat):List (Fin n):=(List.finRange n).reverse.take k
theorem bk_zero (n:Nat):bk n 0=[]:=rfl
theorem bk_succ (n k:Nat)(h:k<n):bk n (k+1)=bk n k++[⟨n-1-k,by omega⟩]:=by
 have hl:(List.finRange n).reverse.length=n:=by simp
 unfold bk;rw[List.take_add_one,List.getElem?_eq_getElem (by omega)]
 congr 1
 rw[List.getElem_reverse];simp
theorem bk_length (n k:Nat)(h:k≤n):(bk n k).length=k:=by simp[bk];omega
theorem mem_bk (n k:Nat)(hk:k≤n)(y:Fin n):y∈bk n k↔n-k≤y.val:=by
 induction k with
 |zero=>rw[bk_zero];have:=y.isLt;constructor
        ·intro h;cases h
        ·intro h;omega
 |succ k ih=>
  rw[bk_succ n k (by omega),List.mem_append,ih (by omega),List.mem_singleton]
  have:=y.isLt;constructor
  ·rintro(h|h)
   ·omega
   ·rw[h];simp only;omega
  ·intro h
   by_cases h2:n-k≤y.val
   ·exact .inl h2
   ·exact .inr (Fin.ext (by simp only;omega))
theorem bk_last (n k:Nat)(hk:k≤n)(ini:List (Fin n))(last:Fin n)(h:bk n k=ini++[last]):∃k',k'+1=k∧ini=bk n k'∧last.val=n-1-k':=by
 cases k with
 |zero=>rw[bk_zero]at h;simp at h
 |succ k=>
  rw[bk_succ n k (by omega)]at h
  obtain⟨h1,h2⟩:=List.append_inj' h rfl;have h3:(⟨n-1-k,by omega⟩:Fin n)=last:=by simpa using h2
  exact⟨k,rfl,h1.symm,by rw[←h3]⟩
def encI (zs:List Int)(x:Fin zs.length):Array Value:=#[.int .i64 (x.val:Int),.int .i64 (rd zs (x.val:Int))]
def zW (n₀ Bs:Nat)(W W':World):Prop:=∀p v,(p.block<n₀∨p.block=Bs)→W.cell? p=some v→W'.cell? p=some v
theorem zW.refl (n₀ Bs:Nat)(W:World):zW n₀ Bs W W:=fun _ _ _ h=>h
theorem zW.trans {n₀ Bs:Nat}{A B C:World}(h:zW n₀ Bs A B)(k:zW n₀ Bs B C):zW n₀ Bs A C:=fun p v hp hc=>k p v hp (h p v hp hc)
theorem keepsB_t {n₀ Bs:Nat}{A B C:World}(h:zW n₀ Bs A B)(k:zW n₀ Bs B C):zW n₀ Bs A C:=h.trans k
theorem keepsB_b {n₀ Bs:Nat}{w:World}(hn:n₀≤w.heap.size)(hb:Bs<w.heap.size)(W:World)(l:Nat)(o o':Obj)(hl:w.heap.size≤l)(h:W.heap[l]? =some o)(hc:o.isCells=false)(hw:o.isWalk=false):zW n₀ Bs W (W.putObj l o'):=fun p v hp hv=>by
 have hb1:Below w.heap.size W (W.putObj l o'):=belowK_b (Nat.le_refl _) W l o o' hl h hc hw;exact(hb1.cell (p:=p) (by omega)).trans hv
theorem back1_in (F:Fence)(n:Nat)(hF:F.fn 230)(hro:F.round=none)(hn:1≤n)(l Bs:Nat)(A:Option Addr)(cap:Nat)(zs:List Int)(hl:zs.length≤4611686018427387904)(w0:World)(J Jx:List (Fin zs.length)→World→Prop)
 (hC:Kd.C (Kd.int .i64) w0 A zs.length zs)
 (hY:∀pre x W,J pre W→pre.length<zs.length→YieldAt F (n-1) Tryz.prog l (encI zs x) W fun e W'=>
  (e= .returned (.bool true)∧J (pre++[x]) W'∧zW w0.heap.size Bs W W')∨(e= .returned (.bool false)∧Jx (pre++[x]) W'))
 (W:World)(hB:Below w0.heap.size w0 W)(hBs:W.cell? ⟨Bs,0,none⟩=some (.slice A zs.length cap))(h0:J [] W):
 CallsIn F n Tryz.prog 230 #[.func (.yield l) #[] #[],.pointer (some ⟨Bs,0,none⟩)] W fun e W'=>(∃v,e= .returned v)∧
  ((∃ys,ys=bk zs.length zs.length∧J ys W')∨(∃pre,(∃k,k≤zs.length∧pre=bk zs.length k)∧Jx pre W')):=by
 refine callsIn_of_wp Tryz.func230 rfl hF ?_ hro;simp only[Tryz.ntmps230,List.size_toArray,List.length_cons,List.length_nil,Nat.reduceAdd,Nat.reduceSub,Array.replicate_succ,Array.replicate_zero,List.push_toArray,List.append_toArray,List.nil_append,List.cons_append];gi_wp2
 gi_loopw [3] (fun i wr=>∃k:Nat,k≤zs.length∧i= .int .i64 ((zs.length:Int)-1-(k:Int))∧J (bk zs.length k) wr∧zW w0.heap.size Bs W wr)
  (fun i _=>(intOf i+1).toNat)
 case atStart=>exact⟨0,Nat.zero_le _,by simp,h0,zW.refl _ _ _⟩
 case round=>
  obtain⟨k,hk,rfl,hJs,hnx⟩:=hrel;have hbs:=hnx _ _ (.inr rfl) hBs;by_cases hlt:k<zs.length
  ·obtain⟨ad,hA,hc0⟩:=Kd.at_int hC ((zs.length:Int)-1-(k:Int)) (by omega) (by omega)
   have hcx:=hnx _ _ (.inl (by exact World.block_lt_of_cell? w0 _ hc0)) (zt hB hc0)
   obtain⟨fn,tmps,assign,body,hy,hR⟩:=hY _ ⟨zs.length-1-k,by omega⟩ wr hJs (by rw[bk_length _ _ hk];exact hlt)
   rw[←bk_succ _ _ hlt]at hR;dsimp only[encI]at hy;rw[show((zs.length-1-k:Nat):Int)=(zs.length:Int)-1-(k:Int) by omega]at hy
   subst hA;rw[show((zs.length:Int)-1-(k:Int)).toNat=zs.length-1-k by omega]at hcx
   clear hc0 hC;gi_wp2
   refine hR.mono ?_;rintro e W3 (⟨rfl,hJ3,hk3⟩|⟨rfl,hJx3⟩)
   ·gi_wp2
    go_roundw
    case rel=>exact⟨k+1,by omega,by first|rfl|(congr 1;omega)|(simp;omega),hJ3,hnx.trans hk3⟩
    case measure=>simp[intOf];omega
   ·gi_wp2
    refine bodyPost_ret (results_none rfl _ _ _) rfl ?_;exact⟨⟨_,rfl⟩,.inr ⟨_,⟨k+1,by omega,rfl⟩,hJx3⟩⟩
  ·obtain rfl:k=zs.length:=by omega
   gi_wp2
   go_end0
   exact⟨⟨_,rfl⟩,.inl ⟨_,rfl,hJs⟩⟩
theorem back_in (F:Fence)(n:Nat)(hF:F.fn 214)(hro:F.round=none)(a:Option Addr)(len cap:Nat)(w:World):
 CallsIn F n Tryz.prog 214 #[.slice a len cap] w fun e w'=>e= .returned (.func (.func 230) #[] #[.pointer (some ⟨w.heap.size,0,none⟩)])∧w'=w.alloc (.cells #[.slice a len cap] 167):=by
 refine callsIn_of_wp Tryz.func214 rfl hF ?_ hro;simp only[Tryz.ntmps214,List.size_toArray,List.length_cons,List.length_nil,Nat.reduceAdd,Nat.reduceSub,Array.replicate_succ,Array.replicate_zero,List.push_toArray,List.append_toArray,List.nil_append,List.cons_append];gi_wp2
 go_ret;exact⟨rfl,rfl⟩
theorem back_stops (F:Fence)(n:Nat)(hF:F.fn 230)(hro:F.round=none)(hn:1≤n)(Bs:Nat)(A:Option Addr)(cap:Nat)(zs:List Int)(hl:zs.length≤4611686018427387904)(w0 w:World)
 (hC:Kd.C (Kd.int .i64) w0 A zs.length zs)(hB:Below w0.heap.size w0 w)(hBs:Bs<w.heap.size)(hc:w.cell? ⟨Bs,0,none⟩=some (.slice A zs.length cap)):
 SeqStopsK F n Tryz.prog 230 #[.pointer (some ⟨Bs,0,none⟩)] (encI zs) (zW w0.heap.size Bs) (fun ys=>ys=bk zs.length zs.length)
  (fun pre=>∃k,k≤zs.length∧pre=bk zs.length k) zs.length w:=fun l J Jx W hW _ _ hY h0=>
 back1_in F n hF hro hn l Bs A cap zs hl w0 J Jx hC hY W (hB.trans (hW.mono hB.size)) ((hW.cell (p:=⟨Bs,0,none⟩) hBs).trans hc) h0
end Go.Proofs.YtjopepfemhckjaaGreatDoor.NW
end
section
namespace Go.Proofs.YtjopepfemhckjaaGreatDoor.PN
def dv (l:List UInt8):Nat:=l.foldl (fun a c=>10*a+(c.toNat-48)) 0
def allD (l:List UInt8):Prop:=∀c∈l,48≤c.toNat∧c.toNat≤57
structure okN (l:List UInt8):Prop where
 ne:l≠[]
 dig:allD l
 lead:l.head?=some 48→l=[48]
theorem dv_foldl (l:List UInt8):∀a:Nat,l.foldl (fun a c=>10*a+(c.toNat-48)) a=a*10^l.length+dv l:=by
 induction l with
 |nil=>intro a;simp[dv]
 |cons c l ih=>
  intro a;unfold dv;rw[List.foldl_cons,List.foldl_cons,ih,ih (10*0+(c.toNat-48)),List.length_cons,Nat.pow_succ];rw[show 10*0+(c.toNat-48)=c.toNat-48 by omega,Nat.add_mul,Nat.mul_comm 10 a,Nat.mul_assoc,Nat.mul_comm 10]
  omega
theorem je (a b:List UInt8):dv (a++b)=dv a*10^b.length+dv b:=by
 show List.foldl _ _ _=_
 rw[List.foldl_append,dv_foldl];rfl
theorem dv_nil:dv []=0:=rfl
theorem dv_one (c:UInt8):dv [c]=c.toNat-48:=by simp[dv]
theorem z6 (c:UInt8)(l:List UInt8):dv (c::l)=(c.toNat-48)*10^l.length+dv l:=by
 have:=je [c] l;rw[dv_one]at this;exact this
theorem dv_snoc (l:List UInt8)(c:UInt8):dv (l++[c])=10*dv l+(c.toNat-48):=by
 rw[je,dv_one];simp;omega
theorem qt (l:List UInt8)(h:allD l):dv l<10^l.length:=by
 induction l with
 |nil=>simp[dv]
 |cons c l ih=>
  have h1:=h c (by simp)
  have h2:=ih (fun d hd=>h d (by simp[hd]))
  rw[z6,List.length_cons,Nat.pow_succ];have:(c.toNat-48)*10^l.length≤9*10^l.length:=Nat.mul_le_mul_right _ (by omega)
  omega
theorem dv_ge (c:UInt8)(l:List UInt8)(h:49≤c.toNat):10^l.length≤dv (c::l):=by
 rw[z6];have:1*10^l.length≤(c.toNat-48)*10^l.length:=Nat.mul_le_mul_right _ (by omega)
 omega
theorem u8_ext {a b:UInt8}(h:a.toNat=b.toNat):a=b:=UInt8.toNat_inj.1 h
theorem same_len (l m:List UInt8)(hl:allD l)(hm:allD m)(e:l.length=m.length)(h:dv l=dv m):l=m:=by
 induction l generalizing m with
 |nil=>cases m with
  |nil=>rfl
  |cons _ _=>cases e
 |cons c l ih=>
  cases m with
  |nil=>cases e
  |cons d m=>
   have e':l.length=m.length:=by simpa using e
   have b1:=qt l (fun x hx=>hl x (by simp[hx]))
   have b2:=qt m (fun x hx=>hm x (by simp[hx]))
   have c1:=hl c (by simp)
   have d1:=hm d (by simp)
   rw[z6,z6,e']at h;rw[e']at b1;have hp:0<10^m.length:=Nat.pow_pos (by omega)
   have q:c.toNat-48=d.toNat-48:=by
    have h1:=congrArg (·/10^m.length) h
    simp only[Nat.mul_comm _ (10^m.length),Nat.mul_add_div hp,Nat.div_eq_of_lt b1,Nat.div_eq_of_lt b2]at h1;omega
   have hcd:c=d:=u8_ext (by omega)
   subst hcd;rw[ih m (fun x hx=>hl x (by simp[hx])) (fun x hx=>hm x (by simp[hx])) e' (by omega)]
theorem okN.ge {l:List UInt8}(h:okN l)(h0:dv l≠0):10^(l.length-1)≤dv l:=by
 cases l with
 |nil=>exact absurd rfl h.ne
 |cons c l=>
  have hc:=h.dig c (by simp)
  by_cases h48:c=48
  ·subst h48
   have:=h.lead rfl;rw[this]at h0;exact absurd rfl h0
  ·have:c.toNat≠48:=fun e=>h48 (u8_ext e)
   exact dv_ge c l (by omega)
theorem okN.pos_len {l:List UInt8}(h:okN l):0<l.length:=by
 cases l with
 |nil=>exact absurd rfl h.ne
 |cons _ _=>simp
theorem okN.zero {l:List UInt8}(h:okN l)(h0:dv l=0):l=[48]:=by
 cases l with
 |nil=>exact absurd rfl h.ne
 |cons c l=>
  have hc:=h.dig c (by simp)
  by_cases h48:c=48
  ·subst h48;exact h.lead rfl
  ·have:c.toNat≠48:=fun e=>h48 (u8_ext e)
   have:=dv_ge c l (by omega)
   have hp:0<10^l.length:=Nat.pow_pos (by omega)
   omega
theorem okN.inj {a b:List UInt8}(ha:okN a)(hb:okN b)(h:dv a=dv b):a=b:=by
 by_cases h0:dv a=0
 ·rw[ha.zero h0,hb.zero (by omega)]
 ·have a1:=ha.ge h0
  have b1:=hb.ge (by omega)
  have a2:=qt a ha.dig;have b2:=qt b hb.dig;have ap:=ha.pos_len;have bp:=hb.pos_len;refine same_len a b ha.dig hb.dig ?_ h;have l1:a.length-1<b.length:=(Nat.pow_lt_pow_iff_right (by omega)).1 (Nat.lt_of_le_of_lt a1 (h▸b2))
  have l2:b.length-1<a.length:=(Nat.pow_lt_pow_iff_right (by omega)).1 (Nat.lt_of_le_of_lt b1 (h▸a2))
  omega
def IsN (s:ByteArray)(n:Nat):Prop:=okN s.data.toList∧dv s.data.toList=n
theorem IsN.inj {s t:ByteArray}{n:Nat}(h:IsN s n)(k:IsN t n):s=t:=by
 have:=okN.inj h.1 k.1 (h.2.trans k.2.symm);cases s;cases t;congr 1
 exact Array.toList_inj.1 this
theorem IsN.val {s:ByteArray}{n m:Nat}(h:IsN s n)(k:IsN s m):n=m:=h.2.symm.trans k.2
theorem isN_0:IsN ⟨#[48]⟩ 0:=⟨⟨by simp,by intro c hc;simp at hc;subst hc;decide,fun _=>rfl⟩,rfl⟩
theorem isN_1:IsN ⟨#[49]⟩ 1:=⟨⟨by simp,by intro c hc;simp at hc;subst hc;decide,fun h=>by simp at h⟩,rfl⟩
theorem IsN.eq0 {s:ByteArray}{n:Nat}(h:IsN s n):s=⟨#[48]⟩↔n=0:=
 ⟨fun e=>by subst e;exact h.val isN_0,fun e=>by subst e;exact h.inj isN_0⟩
theorem IsN.eq1 {s:ByteArray}{n:Nat}(h:IsN s n):s=⟨#[49]⟩↔n=1:=
 ⟨fun e=>by subst e;exact h.val isN_1,fun e=>by subst e;exact h.inj isN_1⟩
end Go.Proofs.YtjopepfemhckjaaGreatDoor.PN
end
section
namespace Go.Proofs.YtjopepfemhckjaaGreatDoor.PParseTells
open Go.RowKit Go.Proofs.YtjopepfemhckjaaGreatDoorW.PrintWords Go.Proofs.YtjopepfemhckjaaGreatDoorW.PrintLast
def nat_limbs_trim.l0:Nat→List Int→Option (List Int)
 |0,_=>none
 |k+1,x0=>if(x0.length:Int)>0 then(if 0≤(wrap64 ((x0.length:Int)-1))then(if(wrap64 ((x0.length:Int)-1))<(x0.length:Int)then(if(rd x0 (wrap64 ((x0.length:Int)-1)))=0 then(if(wrap64 ((x0.length:Int)-1))≤(x0.length:Int)then(nat_limbs_trim.l0 k (x0.take ((wrap64 ((x0.length:Int)-1)):Int).toNat))else(none))else(some x0))else(none))else(none))else(some x0)
def nat_limbs_trim.f (k:Nat)(l0:List Int):Option (List Int):=nat_limbs_trim.l0 k l0
theorem nat_limbs_trim.calls (k:Nat)(P0_:Nat→Prop)(A0:Option Addr)(c0:Nat)(l0:List Int)(r:List Int)(w:World)(hs0:Kd.V (Kd.int .i64) 3 w w.heap.size (fun k_=>P0_ k_) (.slice A0 l0.length c0) l0)(h:nat_limbs_trim.f k l0=some r):
 Calls Tryz.prog 213 #[.slice A0 l0.length c0] w fun e w'=>∃v0_:Value,e= .returned (v0_)∧Kd.V (Kd.int .i64) 3 w' w.heap.size (fun k_=>(P0_ k_∨w.heap.size≤k_)) v0_ r∧Below w.heap.size w w':=by
 have HO0:=zc.mk (show Kd.V (Kd.int .i64) 3 w w.heap.size (fun k_=>(P0_ k_∨w.heap.size≤k_)) (.slice A0 l0.length c0) l0 from Kd.V_mono hs0 (fun k_ hk=> .inl hk))
 have HB:=zc.mk (Below.refl w.heap.size w);have H:(nat_limbs_trim.l0 k l0)=some r:=h;clear h;have H':=zc.mk H;clear H;go_enter Tryz.func213,Tryz.ntmps213
 go_wp2;go_loopg [0] k (fun kq v0 w'=>∃(x0_1:List Int),zc (nat_limbs_trim.l0 kq x0_1=some r)∧zc (kq≤k)∧zc (Kd.V (Kd.int .i64) 3 w' w.heap.size (fun k_=>(P0_ k_∨w.heap.size≤k_)) v0 x0_1)∧zc (Below w.heap.size w w'))
 case atStart=>exact⟨(l0),H',⟨Nat.le_refl _⟩,⟨by(with_reducible repeat(first|apply Kd.V_alloc|apply Kd.V_drewN|apply Kd.V_drew));exact HO0.out⟩,⟨by repeat(first|(with_reducible first|exact HB.out|apply zk|apply ze|apply zm)|exact HB.out)⟩⟩
 case round=>
  clear H';obtain⟨x0_1,HA,HK1,HO_0,HB⟩:=hrel;cases gk with
  |zero=>exact absurd HA.out (by simp[nat_limbs_trim.l0])
  |succ k1=>
   have H:=HA.out;clear HA;simp only[nat_limbs_trim.l0]at H;by_cases c2:(x0_1.length:Int)>0
   ·rw[if_pos c2]at H
    have c2b0:decide (0<(x0_1.length:Int))=true:=decide_eq_true c2;have c2b1:decide (0<x0_1.length)=true:=decide_eq_true (by omega)
    clear c2;obtain⟨ji3,hji3⟩:∃j_:Int,(wrap64 ((x0_1.length:Int)-1))=j_:=⟨_,rfl⟩;replace H:(if 0≤(ji3)then(if(ji3)<(x0_1.length:Int)then(if(rd x0_1 (ji3))=0 then(if(ji3)≤(x0_1.length:Int)then(nat_limbs_trim.l0 k1 (x0_1.take ((ji3):Int).toNat))else(none))else(some x0_1))else(none))else(none))=some r:=by first|(rw[hji3]at H;exact H)|(simp only[hji3]at H ⊢;exact H)
    have hji3w:(IntKind.i64.wrap ((x0_1.length:Int)-1))=ji3:=(i64_w _).trans hji3;by_cases c4:0≤(ji3)
    ·rw[if_pos c4]at H
     have c4b0:decide (0≤(ji3))=true:=decide_eq_true c4;clear c4;by_cases c5:(ji3)<(x0_1.length:Int)
     ·rw[if_pos c5]at H
      have c5b0:decide ((ji3)<(x0_1.length:Int))=true:=decide_eq_true c5;clear c5;by_cases c6:(rd x0_1 (ji3))=0
      ·rw[if_pos c6]at H
       have c6b0:((rd x0_1 (ji3))==0)=true:=beq_iff_eq.mpr c6;have c6b1:((rd x0_1 (ji3))!=0)=false:=bne_eq_false_iff_eq.mpr c6;clear c6;have c7b0:=eq_true (of_decide_eq_true (by first|(with_reducible assumption)|assumption):0≤(ji3))
       by_cases c8:(ji3)≤(x0_1.length:Int)
       ·rw[if_pos c8]at H
        have c8b0:=eq_true c8;have c8b1:decide ((ji3)≤(x0_1.length:Int))=true:=decide_eq_true c8;clear c8;obtain⟨y166,hy166⟩:∃y_:List Int,y_=(x0_1.take ((ji3):Int).toNat):=⟨_,rfl⟩;replace H:(nat_limbs_trim.l0 k1 y166)=some r:=by first|(rw[hy166];with_reducible exact H)|(have H2_:=(Option.bind_some _ _).symm.trans H;rw[hy166];with_reducible exact H2_)|(have H2_:=(Option.bind_some _ _).symm.trans H;with_reducible exact H2_)|with_reducible exact H|(rw[hy166];exact H)|exact H
        have Ny166:=zc.mk hy166;clear hy166;have H':=zc.mk H;clear H;obtain⟨Ao9,co9,eo9⟩:=Kd.V_slice HO_0.out;subst eo9;have p165:0≤((ji3):Int):=of_decide_eq_true (by first|(with_reducible assumption)|assumption)
        have q165:(ji3)<(x0_1.length:Int):=of_decide_eq_true (by first|(with_reducible assumption)|assumption)
        obtain⟨ad165,e165,hx165_0⟩:=Kd.at_int (Kd.V_reads' HO_0.out).2.2 (ji3) p165 q165;cases e165;replace p165:=eq_true p165;replace q165:=eq_true q165;have q10:((ji3):Int)≤((x0_1.length:Int):Int):=of_decide_eq_true (by first|(with_reducible assumption)|assumption)
        obtain⟨i010,hi010,_,hsz10,_⟩:=info_parts info3;have hroom10:x0_1.length≤co9:=(Kd.V_reads' HO_0.out).2.1;have hC10:Kd.F (Kd.int .i64) _ _ (some ad165) x0_1.length x0_1:=(Kd.V_at (base:=w.heap.size) HO_0.out).2.2;have hcut10:=cut_to (P:=Tryz.prog) 167 3 .i64 Tryz.underlying167 hi010 (some ad165) x0_1.length co9 (ji3) (of_decide_eq_true (by first|(with_reducible assumption)|assumption)) q10 hroom10
        have hr10:=Kd.F_take (m:=((ji3):Int).toNat) hC10 (by omega)
        have hy10:y166.length=((ji3):Int).toNat:=(by rw[Ny166.out,List.length_take];omega)
        rw[←Ny166.out]at hr10;rw[←hy10]at hcut10;have HO170:=zc.mk (show Kd.V (Kd.int .i64) 3 _ w.heap.size _ (.slice (some ad165) y166.length co9) y166 from Kd.V_mk (by omega) hr10)
        have HC170:=zc.mk (show y166.length≤co9 from by omega)
        clear hr10 hC10 hroom10 hi010 hsz10;have KY10:=zc.mk hy10;clear hy10;replace q10:=eq_true q10;go_wp2;go_roundg k1
        case measure=>have:=HK1.out;omega
        case rel=>exact⟨(y166),H',⟨by have:=HK1.out;omega⟩,⟨by(with_reducible repeat(first|apply Kd.V_alloc|apply Kd.V_drewN|apply Kd.V_drew));exact HO170.out⟩,⟨by repeat(first|(with_reducible first|exact HB.out|apply zk|apply ze|apply zm)|exact HB.out)⟩⟩
       ·rw[if_neg c8]at H
        exact absurd H (by simp)
      ·rw[if_neg c6]at H
       have c6b0:((rd x0_1 (ji3))==0)=false:=beq_eq_false_iff_ne.mpr c6;have c6b1:((rd x0_1 (ji3))!=0)=true:=bne_iff_ne.mpr c6;obtain rfl:=Option.some.inj H;obtain⟨Ao11,co11,eo11⟩:=Kd.V_slice HO_0.out;subst eo11;have p165:0≤((ji3):Int):=of_decide_eq_true (by first|(with_reducible assumption)|assumption)
       have q165:(ji3)<(x0_1.length:Int):=of_decide_eq_true (by first|(with_reducible assumption)|assumption)
       obtain⟨ad165,e165,hx165_0⟩:=Kd.at_int (Kd.V_reads' HO_0.out).2.2 (ji3) p165 q165;cases e165;replace p165:=eq_true p165;replace q165:=eq_true q165;go_wp2;go_ret;exact⟨_,by first|rfl|(simp[zz,zy]<;>rfl)|(simp only[←hji3];first|rfl|(simp[zz,zy]<;>rfl))|(simp[*,zz,zy]<;>rfl),by(with_reducible repeat(first|apply Kd.V_alloc|apply Kd.V_drewN|apply Kd.V_drew));exact HO_0.out,by repeat(first|(with_reducible first|exact HB.out|apply zk|apply ze|apply zm)|exact HB.out)⟩
     ·rw[if_neg c5]at H
      exact absurd H (by simp)
    ·rw[if_neg c4]at H
     exact absurd H (by simp)
   ·rw[if_neg c2]at H
    have c2b0:decide (0<(x0_1.length:Int))=false:=decide_eq_false c2;have c2b1:decide (0<x0_1.length)=false:=decide_eq_false (by omega)
    clear c2;obtain rfl:=Option.some.inj H;obtain⟨Ao12,co12,eo12⟩:=Kd.V_slice HO_0.out;subst eo12;go_wp2;go_ret;exact⟨_,by first|rfl|(simp[zz,zy]<;>rfl)|(simp[*,zz,zy]<;>rfl),by(with_reducible repeat(first|apply Kd.V_alloc|apply Kd.V_drewN|apply Kd.V_drew));exact HO_0.out,by repeat(first|(with_reducible first|exact HB.out|apply zk|apply ze|apply zm)|exact HB.out)⟩
end Go.Proofs.YtjopepfemhckjaaGreatDoor.PParseTells
end
