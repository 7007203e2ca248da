/-
  Part 6 of the proof of parseTells_holds: texts of this seat, put together.
-/
import Derived.Lib.ItoaNum
import Derived.Test.YtjopepfemhckjaaGreatDoorProg
import Derived.WalkKit
import Derived.Lib.Strings
import Derived.Lib.Slices
import Derived.Lib.Walk
import Derived.Lib.Builder
import Derived.Lib.AppendStr
import Derived.Lib.UnsafeStr
import Derived.Laws.Externs
import Derived.Laws.IdiomCopy
import Derived.Laws.BitsLemmas
import Derived.RegionTactic
import Derived.KernelRfl
import Derived.Lib.OthersKept
import Derived.Test.YtjopepfemhckjaaGreatDoorRows
import Derived.ProofKit
import Derived.OpenShut
import Derived.ShutString
import Derived.ChangeOld
import Derived.Below
import Derived.SizedLaws
import Derived.HandedShaped
import Derived.LaidMore
import Derived.LaidLaws
import Derived.LaidSub
import Derived.MakeChecks
import Derived.Lib.LaidU8
import Derived.Shelf.Vars
import Derived.Test.YtjopepfemhckjaaGreatDoorTl5
set_option linter.unusedVariables false
set_option linter.unusedSimpArgs false
set_option maxHeartbeats 16000000
set_option maxRecDepth 100000
section
namespace Go.Proofs.YtjopepfemhckjaaGreatDoor.PN
open Go.Proofs Go.RowKit Go.Proofs.YtjopepfemhckjaaGreatDoorW.PrintWords Go.Proofs.YtjopepfemhckjaaGreatDoor.PParseTells Go.Proofs.YtjopepfemhckjaaGreatDoor.NW
theorem head_app (a b:List UInt8)(h:a≠[]):(a++b).head?=a.head?:=by
 cases a with
 |nil=>exact absurd rfl h
 |cons _ _=>rfl
theorem u8_digit (d:Nat)(h:d<10):(UInt8.ofNat (48+d)).toNat=48+d:=by
 rw[UInt8.toNat_ofNat'];omega
theorem zF (n:Nat):allD (Lib.decDigits n)∧dv (Lib.decDigits n)=n∧Lib.decDigits n≠[]∧(n≠0→(Lib.decDigits n).head?≠some 48):=by
 induction n using Nat.strongRecOn with
 |ind n ih=>
  rw[Lib.decDigits];by_cases h:n<10
  ·rw[dif_pos h]
   have hu:=u8_digit n h;refine⟨fun c hc=>by rw[List.mem_singleton.1 hc,hu];omega,by rw[dv_one,hu];omega,by simp,fun h0 e0=>?_⟩
   have e:=Option.some.inj e0;have e2:=congrArg UInt8.toNat e;rw[hu]at e2;have:(48:UInt8).toNat=48:=rfl;omega
  ·rw[dif_neg h]
   obtain⟨h1,h2,h3,h4⟩:=ih (n/10) (by omega)
   have hu:=u8_digit (n%10) (by omega)
   refine⟨fun c hc=>?_,by rw[dv_snoc,h2,hu];omega,by simp,fun _=>?_⟩
   ·rcases List.mem_append.1 hc with h'|h'
    ·exact h1 c h'
    ·rw[List.mem_singleton.1 h',hu];omega
   ·rw[head_app _ _ h3]
    exact h4 (by omega)
theorem dec_okN (n:Nat):okN (Lib.decDigits n):=by
 obtain⟨h1,h2,h3,h4⟩:=zF n;refine⟨h3,h1,fun h=>?_⟩
 by_cases h0:n=0
 ·subst h0
  rw[Lib.decDigits,dif_pos (by omega)]
  rfl
 ·exact absurd h (h4 h0)
def natS (n:Nat):ByteArray:=⟨(Lib.decDigits n).toArray⟩
theorem zq (n:Nat):(natS n).data.toList=Lib.decDigits n:=by simp[natS]
theorem zh (n:Nat):IsN (natS n) n:=by
 unfold IsN;rw[zq];exact⟨dec_okN n,(zF n).2.1⟩
theorem IsN.eq {s:ByteArray}{n:Nat}(h:IsN s n):s=natS n:=h.inj (zh n)
theorem zH (n k:Nat)(h:n<10^k)(hk:0<k):(Lib.decDigits n).length≤k:=by
 by_cases h0:dv (Lib.decDigits n)=0
 ·rw[(dec_okN n).zero h0];simp;omega
 ·have h1:=(dec_okN n).ge h0
  rw[(zF n).2.1]at h1;have:(Lib.decDigits n).length-1<k:=(Nat.pow_lt_pow_iff_right (a:=10) (by omega)).1 (by omega)
  omega
def limbT (la:List Int)(i:Nat):List UInt8:=
 if(i:Int)<(la.length:Int)-1 then List.replicate (4-(Lib.decDigits (rd la (i:Int)).toNat).length) 48++Lib.decDigits (rd la (i:Int)).toNat else Lib.decDigits (rd la (i:Int)).toNat
def txF (la:List Int)(pre:List (Fin la.length)):List UInt8:=pre.foldl (fun acc x=>acc++limbT la x.val) []
theorem txF_snoc (la:List Int)(pre:List (Fin la.length))(x:Fin la.length):txF la (pre++[x])=txF la pre++limbT la x.val:=by simp[txF]
theorem dv_zeros (k:Nat)(l:List UInt8):dv (List.replicate k 48++l)=dv l:=by
 induction k with
 |zero=>simp
 |succ k ih=>
  rw[List.replicate_succ,List.cons_append,z6,ih];simp
theorem tx_inv (la:List Int)(hw:wfL la)(ht:trd la):∀k,k≤la.length→allD (txF la (bk la.length k))∧dv (txF la (bk la.length k))=lv (la.drop (la.length-k))∧(0<k→txF la (bk la.length k)≠[]∧(txF la (bk la.length k)).head?≠some 48)∧(txF la (bk la.length k)).length≤4*k:=by
 intro k;induction k with
 |zero=>
  intro _;refine⟨fun c hc=>by simp[bk_zero,txF]at hc,?_,fun h=>by omega,by simp[bk_zero,txF]⟩
  rw[Nat.sub_zero,List.drop_eq_nil_of_le (Nat.le_refl _)];rfl
 |succ k ih=>
  intro hk;obtain⟨h1,h2,h3,h4⟩:=ih (by omega)
  obtain⟨i,hi⟩:∃i,la.length-1-k=i:=⟨_,rfl⟩;have e1:la.length-k=i+1:=by omega
  have e2:la.length-(k+1)=i:=by omega
  have hil:i<la.length:=by omega
  rw[bk_succ _ _ (by omega),txF_snoc,e2]
  simp only[hi];rw[e1]at h2;have hxm:rd la (i:Int)∈la:=by
   unfold rd;rw[Int.toNat_natCast,List.getD_eq_getElem?_getD,List.getElem?_eq_getElem hil];exact List.getElem_mem hil
  have hxb:=hw _ hxm;obtain⟨y,hy⟩:∃y:Nat,rd la (i:Int)=(y:Int):=⟨(rd la (i:Int)).toNat,by omega⟩
  have hd1:lv (la.drop i)=y+10000*lv (la.drop (i+1)):=by
   rw[drop_at la i hil,hy];show(y:Int).toNat+_=_
   rw[Int.toNat_natCast]
  obtain⟨q1,q2,q3,q4⟩:=zF y;have q5:=zH y 4 (by omega) (by omega)
  unfold limbT;rw[hy,Int.toNat_natCast];by_cases hlt:(i:Int)<(la.length:Int)-1
  ·rw[if_pos hlt]
   have hk0:0<k:=by omega
   refine⟨?_,?_,fun _=>⟨?_,?_⟩,?_⟩
   ·intro c hc
    rcases List.mem_append.1 hc with h|h
    ·exact h1 c h
    ·rcases List.mem_append.1 h with h|h
     ·have:=List.eq_of_mem_replicate h
      subst this;exact⟨by decide,by decide⟩
     ·exact q1 c h
   ·rw[je,dv_zeros,q2,h2,hd1,List.length_append,List.length_replicate,show 4-(Lib.decDigits y).length+(Lib.decDigits y).length=4 by omega]
    omega
   ·intro e
    exact(h3 hk0).1 (List.append_eq_nil_iff.1 e).1
   ·rw[head_app _ _ (h3 hk0).1]
    exact(h3 hk0).2
   ·rw[List.length_append,List.length_append,List.length_replicate];omega
  ·rw[if_neg hlt]
   have hk0:k=0:=by omega
   subst hk0;have hT:lv (la.drop (i+1))=0:=by
    rw[List.drop_eq_nil_of_le (by omega)]
    rfl
   have hy0:y≠0:=by
    intro e;apply ht;rw[List.getLast?_eq_getElem?,List.getElem?_eq_getElem (by omega)]
    unfold rd at hy;rw[Int.toNat_natCast,List.getD_eq_getElem?_getD,List.getElem?_eq_getElem hil]at hy;simp only[Option.getD_some]at hy;simp only[show la.length-1=i by omega,hy,e]
    rfl
   rw[bk_zero];show allD ([]++_)∧dv ([]++_)=_∧(_→([]++_)≠[]∧([]++_).head?≠some 48)∧([]++_).length≤_
   rw[List.nil_append];exact⟨q1,by rw[q2,hd1,hT];omega,fun _=>⟨q3,q4 hy0⟩,by omega⟩
theorem tx_end (la:List Int)(n:Nat)(h:isL la n)(hn:la≠[]):txF la (bk la.length la.length)=Lib.decDigits n:=by
 obtain⟨h1,h2,h3,_⟩:=tx_inv la h.wf h.tr la.length (Nat.le_refl _);have hp:0<la.length:=List.length_pos_iff.2 hn;rw[Nat.sub_self,List.drop_zero,h.val]at h2;exact okN.inj ⟨(h3 hp).1,h1,fun e=>absurd e (h3 hp).2⟩ (dec_okN n) (h2.trans (zF n).2.1.symm)
end Go.Proofs.YtjopepfemhckjaaGreatDoor.PN
end
section
namespace Go.Proofs.YtjopepfemhckjaaGreatDoor.Bld
open Go.RowKit
theorem sizeB:(Tryz.prog.info? 149).map (·.size)=some 2:=by kernel_rfl
theorem liesB:liesAt Tryz.prog Tryz.prog.depth 149 (2/Tryz.prog.cellsOf 149) 0 149 1=true:=by kernel_rfl
theorem infoByte:(Tryz.prog.info? 5).map (fun i=>(i.zero,i.size,i.bytes))=some (some (.int .u8 0),1,1):=by kernel_rfl
theorem cellsByte:Tryz.prog.cellsOf 5=1:=by kernel_rfl
theorem check_used (b:Nat)(w:World)(h0:w.cell? ⟨b,0,none⟩=some (.pointer (some ⟨b,0,none⟩))):
 Calls Tryz.prog 180 #[.pointer (some ⟨b,0,none⟩)] w fun e w'=>e= .returned (.tuple #[])∧w'=w:=by
 obtain⟨j,hj,_⟩:=Option.map_eq_some_iff.1 sizeB;go_enter Tryz.func180,Tryz.ntmps180
 go_wp2;rw[Lib.run_neq_ptr_same w _ Tryz.underlying147 hj];go_wp2;go_end0
 exact⟨rfl,rfl⟩
theorem check_fresh (b:Nat)(w:World)(h0:w.cell? ⟨b,0,none⟩=some (.pointer none))(hsh:w.shape? b=some (149,2))(hfz:w.frozen? ⟨b,0,none⟩=false):
 Calls Tryz.prog 180 #[.pointer (some ⟨b,0,none⟩)] w fun e w'=>e= .returned (.tuple #[])∧w'=w.setCell ⟨b,0,none⟩ (.pointer (some ⟨b,0,none⟩)):=by
 obtain⟨j,hj,hjs⟩:=Option.map_eq_some_iff.1 sizeB;go_enter Tryz.func180,Tryz.ntmps180
 go_wp2;rw[Lib.run_to_unsafe w ⟨b,0,none⟩ Tryz.underlying147 Tryz.underlying181 hj (by rw[hjs];decide) hsh (Nat.zero_lt_succ 1)]
 simp only[Result.andThen];rw[Oper.upon_value];go_wp2;rw[run_callFunc_extern Tryz.func205 (by kernel_rfl) (by kernel_rfl) (by kernel_rfl) (e:=Extern.AbiNoEscape.same) (by kernel_rfl)]
 rw[Lib.run_noEscape];simp only[Result.andThen];rw[Oper.upon_value];go_wp2;rw[Lib.run_from_unsafe w ⟨b,0,none⟩ Tryz.underlying181 Tryz.underlying147 hj hsh liesB];simp only[Result.andThen];rw[Oper.upon_value];go_wp2;go_end0
 exact⟨rfl,rfl⟩
theorem oth_grown {e:TypeId}{bo:Option Nat}{a w w2:World}(h:Lib.OthersKept e bo a w){row:Option Nat}(hg:w.grownBy w2 row)(hr:∀k,row=some k→∃cur fz,w.heap[k]? =some (.cells cur e fz)):Lib.OthersKept e bo a w2:=by
 intro k x hk hb hx;have h1:=h k x hk hb hx;have hlt:k<w.heap.size:=(Array.getElem?_eq_some_iff.1 h1).1;rw[hg.block k hlt ?_]
 ·exact h1
 ·intro e1
  obtain⟨cur,fz,hc⟩:=hr k e1.symm;rw[h1]at hc;injection hc with hc;exact hx cur fz hc
theorem check_any (B b:Nat)(bs:List Value)(w:World)(h:Lib.IsBuilder 149 5 B b bs w):
 Calls Tryz.prog 180 #[.pointer (some ⟨b,0,none⟩)] w fun e w'=>e= .returned (.tuple #[])∧(Lib.BuilderAt 149 5 B b (.pointer (some ⟨b,0,none⟩)) bs w'∧Below B w w'∧Lib.OthersKept 5 (some b) w w'):=by
 rcases h with h|h
 ·refine(check_fresh b w h.cell0 h.shape h.frozen0).mono ?_
  rintro e w' ⟨rfl,rfl⟩;exact⟨rfl,h.used _,(Below.refl B w).setCell (p:=⟨b,0,none⟩) h.1 _,Lib.OthersKept.setCell (b:=b) (Lib.OthersKept.refl _ _ _) ⟨b,0,none⟩ rfl _⟩
 ·refine(check_used b w h.cell0).mono ?_
  rintro e w' ⟨rfl,rfl⟩;exact⟨rfl,h,Below.refl B _,Lib.OthersKept.refl _ _ _⟩
theorem write (B b:Nat)(bs:List Value)(s:ByteArray)(w:World)(h:Lib.IsBuilder 149 5 B b bs w)(hlen:bs.length+s.size≤140737488355328)(hBw:B≤w.heap.size):
 Calls Tryz.prog 141 #[.pointer (some ⟨b,0,none⟩),.string s] w fun e w'=>e= .returned (.tuple #[.int .i64 s.size,.nilIface])∧(Lib.BuilderAt 149 5 B b (.pointer (some ⟨b,0,none⟩)) (bs++Lib.strCells s) w'∧Below B w w'∧Lib.OthersKept 5 (some b) w w'):=by
 obtain⟨i0,hi,hz0,hz1,hz2⟩:=info_parts infoByte;go_enter Tryz.func141,Tryz.ntmps141
 go_wp2_with(go_at_call 180;refine(check_any B b bs _ h).mono ?_)
 rintro e w1 ⟨rfl,h1,hb1,ho1⟩;obtain⟨hB,v,hbk,hown,hne⟩:=h1;have c0:w1.cell? ⟨b,0,none⟩=some (.pointer (some ⟨b,0,none⟩)):=by rw[Lib.cell_of_heap hbk];rfl
 have c1:w1.cell? ⟨b,1,none⟩=some v:=by rw[Lib.cell_of_heap hbk];rfl
 go_wp2_with(at_builtin;refine Lib.wpList_append_own_string _ rfl _ _ 121 9 rfl B 5 i0 Tryz.underlying121 Tryz.underlying9 hi hz0 hz1 hz2 _ _ _ rfl hown s rfl ?c3 ?c4 ?c5 ?_)
 case c3=>unfold maxLen;omega
 case c4=>omega
 case c5=>have:=hb1.size;omega
 intro v' w2 hown' hgrow _;have hlt:b<w1.heap.size:=Lib.BuilderAt.lt ⟨hB,v,hbk,hown,hne⟩;have hb2:w2.heap[b]? =some (.cells #[.pointer (some ⟨b,0,none⟩),v] 149 (0,0)):=by
  rw[hgrow.block b hlt (fun e=>hne e.symm)]
  exact hbk
 have d0:w2.cell? ⟨b,0,none⟩=some (.pointer (some ⟨b,0,none⟩)):=by rw[Lib.cell_of_heap hb2];rfl
 have d1:w2.cell? ⟨b,1,none⟩=some v:=by rw[Lib.cell_of_heap hb2];rfl
 have f1:w2.frozen? ⟨b,1,none⟩=false:=Lib.frozen_of_heap hb2 1;obtain⟨ao,n',cap,rfl⟩:∃ao n' cap,v'= .slice ao n' cap:=by
  rcases hown'.2 with⟨hv,_⟩|⟨g,cap,cur,hv,_⟩
  ·exact⟨_,_,_,hv⟩
  ·exact⟨_,_,_,hv⟩
 go_wp2;go_ret2
 refine⟨rfl,?_,?_,?_⟩
 ·exact Lib.BuilderAt.put (T:=149) (e:=5) hB hb2 (bs':=bs++Lib.strCells s) (by simpa[Lib.strCells_length]using hown') (by decide)
 ·exact(hb1.grown hgrow (by have:=hb1.size;omega) (fun k hk=>(hown.lt k hk).1)).setCell (p:=⟨b,1,none⟩) hB _
 ·refine Lib.OthersKept.setCell (b:=b) (oth_grown ho1 hgrow ?_) ⟨b,1,none⟩ rfl _
  intro k hk;rcases hown.2 with⟨rfl,_⟩|⟨g,cap,cur,rfl,_,hh,_⟩
  ·simp[Value.ownBlock]at hk
  ·simp[Value.ownBlock]at hk
   subst hk;exact⟨cur,_,hh⟩
end Go.Proofs.YtjopepfemhckjaaGreatDoor.Bld
end
section
namespace Go.Proofs.YtjopepfemhckjaaGreatDoor.NW
open Go.Proofs Go.RowKit Go.Shelf Go.Proofs.YtjopepfemhckjaaGreatDoor.PN Go.Proofs.YtjopepfemhckjaaGreatDoorW.PrintWords Go.Proofs.YtjopepfemhckjaaGreatDoor.PParseTells
attribute [local go_sem] Oper.semAt_some
def Glob (w:World):Prop:=Lib.TabIs Tryz.prog w "internal/strconv.uint64pow10" .u64 Lib.pow10Tab∧∃m,w.cell? ⟨0,0,none⟩=some (.int .i64 m)
theorem Glob.below {w w':World}(h0:Glob w)(hb:Below w.heap.size w w'):Glob w':=by
 obtain⟨h,m,hm⟩:=h0;refine⟨?_,m,zt hb hm⟩;have hg:Tryz.prog.globalNamed "internal/strconv.uint64pow10" =some 3:=by kernel_rfl
 unfold Lib.TabIs World.var? at h ⊢;rw[hg]at h ⊢;simp only[Option.bind_some]at h ⊢;have hlt:3<w.heap.size:=by
  rcases Nat.lt_or_ge 3 w.heap.size with h'|h'
  ·exact h'
  ·rw[Array.getElem?_eq_none h']at h;cases h
 rw[hb.block 3 hlt];exact h
theorem below_growN (w:World)(k:Nat)(os:Array Obj):Below w.heap.size w (Sort.grow (w.drewN k) os):=
 ⟨rfl,rfl,rfl,by first|(simp[Sort.grow];done)|(simp[Sort.grow];omega),fun i hi=>by
  show((w.drewN k).heap++os)[i]? =_
  rw[Array.getElem?_append_left (by show i<w.heap.size;omega)]
  rfl⟩
theorem itoa_at (n:Nat)(hn:n≤9223372036854775807)(w:World)(hg:Glob w):
 Calls Tryz.prog 120 #[.int .i64 (n:Int)] w fun e w'=>e= .returned (.string (natS n))∧Below w.heap.size w w':=by
 refine(Tryz.strconv_Itoa (n:Int) (by omega) (by omega) w hg.1).mono ?_
 rintro e w' ⟨rfl,k,os,rfl⟩;refine⟨?_,below_growN _ _ _⟩;rw[Lib.itoa_nonneg];rfl
theorem js (k:Nat):Lib.repeatL (⟨#[48]⟩:ByteArray).data.toList k=List.replicate k 48:=by
 induction k with
 |zero=>rfl
 |succ k ih=>
  rw[List.replicate_succ,←ih];rfl
theorem limbT_len (la:List Int)(hw:wfL la)(x:Fin la.length):(limbT la x.val).length≤4:=by
 have hxm:rd la (x.val:Int)∈la:=by
  unfold rd;rw[Int.toNat_natCast,List.getD_eq_getElem?_getD,List.getElem?_eq_getElem x.isLt];exact List.getElem_mem x.isLt
 have hxb:=hw _ hxm;have:=zH (rd la (x.val:Int)).toNat 4 (by omega) (by omega)
 unfold limbT;split
 ·rw[List.length_append,List.length_replicate];omega
 ·omega
theorem txF_len (la:List Int)(hw:wfL la)(pre:List (Fin la.length)):(txF la pre).length≤4*pre.length:=by
 have key:∀(pre:List (Fin la.length)) (acc:List UInt8),(pre.foldl (fun acc x=>acc++limbT la x.val) acc).length≤acc.length+4*pre.length:=by
  intro pre;induction pre with
  |nil=>intro acc;simp
  |cons x pre ih=>
   intro acc;have h1:=ih (acc++limbT la x.val);have h2:=limbT_len la hw x;rw[List.foldl_cons];rw[List.length_append]at h1;rw[List.length_cons];omega
 have:=key pre [];simpa[txF]using this
theorem isB_kept {T e:TypeId}{B b:Nat}{bs:List Value}{W W':World}(h:Lib.IsBuilder T e B b bs W)(hk:∀(k:Nat) (o:Obj),W.heap[k]? =some o→o.isCells=true→W'.heap[k]? =some o):Lib.IsBuilder T e B b bs W':=by
 have key:∀p,Lib.BuilderAt T e B b p bs W→Lib.BuilderAt T e B b p bs W':=by
  rintro p ⟨h1,v,h2,h3,h4⟩;refine⟨h1,v,hk _ _ h2 rfl,⟨h3.1,?_⟩,h4⟩;rcases h3.2 with h5|⟨g,cap,cur,a1,a2,a3,a4⟩
  ·exact .inl h5
  ·exact .inr ⟨g,cap,cur,a1,a2,hk _ _ a3 rfl,a4⟩
 rcases h with h|h
 ·exact .inl (key _ h)
 ·exact .inr (key _ h)
structure TI (w:World) (sv:Value) (acc:List UInt8) (W:World):Prop where
 bld:Lib.IsBuilder 149 5 (w.heap.size+1) (w.heap.size+1) (Lib.byteCells acc) W
 box:W.heap[w.heap.size]? =some (.cells #[sv] 167 (0,0))
 ibox:W.heap[w.heap.size+2]? =some (.cells #[sv] 167 (0,0))
 bel:Below w.heap.size w W
def KT (w:World)(W W':World):Prop:=KeepsFrom (w.heap.size+3) W W'∧zW w.heap.size (w.heap.size+2) W W'
theorem KT.trans {w A B C:World}(h:KT w A B)(k:KT w B C):KT w A C:=⟨h.1.trans k.1,h.2.trans k.2⟩
theorem TI.below {w W W':World}{sv:Value}{acc:List UInt8}(h:TI w sv acc W)(hb:Below W.heap.size W W'):TI w sv acc W'∧KT w W W':=by
 have hk:∀(k:Nat) (o:Obj),W.heap[k]? =some o→W'.heap[k]? =some o:=fun k o ho=>(hb.block k (Array.getElem?_eq_some_iff.1 ho).1).trans ho
 refine⟨⟨isB_kept h.bld (fun k o ho _=>hk k o ho),hk _ _ h.box,hk _ _ h.ibox,h.bel.trans (hb.mono h.bel.size)⟩,⟨hb.size,fun k o _ ho _=>hk k o ho⟩,fun p v _ hc=>zt hb hc⟩
theorem TI.grown {w W W':World}{sv:Value}{acc:List UInt8}(h:TI w sv acc W){row:Option Nat}(hg:W.grownBy W' row)(hr:∀r,row=some r→∃o,W.heap[r]? =some o∧o.isCells=false)(hb:Below w.heap.size w W'):TI w sv acc W':=by
 have hk:∀(k:Nat) (o:Obj),W.heap[k]? =some o→o.isCells=true→W'.heap[k]? =some o:=by
  intro k o ho hc;rw[hg.block k (Array.getElem?_eq_some_iff.1 ho).1 ?_]
  ·exact ho
  ·intro e
   obtain⟨o',ho',hc'⟩:=hr k e.symm;rw[ho]at ho';injection ho' with ho';subst ho';rw[hc]at hc';cases hc'
 exact⟨isB_kept h.bld hk,hk _ _ h.box rfl,hk _ _ h.ibox rfl,hb⟩
theorem write_t {w W:World}{sv:Value}{acc:List UInt8}(h:TI w sv acc W)(s:ByteArray)(hl:acc.length+s.size≤140737488355328):
 Calls Tryz.prog 141 #[.pointer (some ⟨w.heap.size+1,0,none⟩),.string s] W fun e W'=>e= .returned (.tuple #[.int .i64 s.size,.nilIface])∧TI w sv (acc++s.data.toList) W'∧KT w W W':=by
 have hsz:w.heap.size+2<W.heap.size:=(Array.getElem?_eq_some_iff.1 h.ibox).1;refine(Bld.write (w.heap.size+1) (w.heap.size+1) _ s W h.bld (by rw[Lib.byteCells_length];exact hl) (by omega)).mono ?_
 rintro e W' ⟨rfl,hb,hbel,hoth⟩;have hbox:W'.heap[w.heap.size]? =some (.cells #[sv] 167 (0,0)):=(hbel.block _ (by omega)).trans h.box
 have hib:W'.heap[w.heap.size+2]? =some (.cells #[sv] 167 (0,0)):=hoth _ _ h.ibox (by simp) (fun c fz e=>by injection e with _ e2;exact absurd e2 (by decide))
 refine⟨rfl,⟨?_,hbox,hib,?_⟩,⟨hbel.size,fun k o hk ho hc=>hoth k o ho (fun e=>?_) (fun c fz e=>by subst e;simp[Obj.isCells]at hc)⟩,?_⟩
 ·rw[Lib.strCells_eq]at hb
  have:Lib.byteCells (acc++s.data.toList)=Lib.byteCells acc++Lib.byteCells s.data.toList:=by simp[Lib.byteCells]
  rw[this];exact .inr hb
 ·have:=h.bel
  exact this.trans (hbel.mono (by omega))
 ·injection e with e;omega
 ·intro p v hp hc
  rcases hp with hp|hp
  ·exact(hbel.cell (p:=p) (by omega)).trans hc
  ·unfold World.cell? at hc ⊢
   rw[hp,h.ibox]at hc;rw[hp,hib];exact hc
theorem text_walk (A:Option Addr)(c0:Nat)(la:List Int)(n:Nat)(w:World)(hn:la≠[])(hl:la.length≤1000000)(hla:isL la n)(hA:Kd.C (Kd.int .i64) w A la.length la)(hg:Glob w):
 CallsIn Fence.wide 6 Tryz.prog 184 #[.slice A la.length c0] w fun e w'=>e= .returned (.string (natS n))∧Below w.heap.size w w':=by
 have HA:=zc.mk hA;have HG:=zc.mk hg;have HL:=zc.mk hla;have hpos:0<la.length:=List.length_pos_iff.2 hn;have hpos2:¬((la.length:Int)=0):=by omega
 clear hA hla hn hg;refine callsIn_of_wp_marks Tryz.func184 rfl trivial ?_;refine wpIn_wide.2 ?_;simp only[Tryz.ntmps184,List.size_toArray,List.length_cons,List.length_nil,Nat.reduceAdd,Nat.reduceSub,Array.replicate_succ,Array.replicate_zero,List.push_toArray,List.append_toArray,List.nil_append,List.cons_append];have bX:=Boxed.new w 167 (.slice A la.length c0);go_wp2_with(refine(callsIn_wide.1 (back_in Fence.wide 5 trivial rfl _ _ _ _)).mono ?_;rintro e w' ⟨rfl,rfl⟩)
 have t0:TI w (.slice A la.length c0) [] (((w.alloc (.cells #[.slice A la.length c0] 167)).alloc (.cells #[.pointer none,.slice none 0 0] 149)).alloc (.cells #[.slice A la.length c0] 167)):=by
  refine⟨?_,?_,?_,(((Below.refl _ w).alloc (Nat.le_refl _) _).alloc (by simp) _).alloc (by simp;omega) _⟩
  ·have h:=Lib.fresh_isBuilder 149 5 (w.alloc (.cells #[.slice A la.length c0] 167))
   rw[World.size_alloc]at h;exact isB_kept h (fun k o ho _=>(Lib.alloc_old _ _ k (Array.getElem?_eq_some_iff.1 ho).1).trans ho)
  ·rw[Lib.alloc_old _ _ _ (by simp;omega),Lib.alloc_old _ _ _ (by simp)]
   exact World.alloc_heap_new _ _
  ·have h:=World.alloc_heap_new ((w.alloc (.cells #[.slice A la.length c0] 167)).alloc (.cells #[.pointer none,.slice none 0 0] 149)) (.cells #[.slice A la.length c0] 167)
   simp only[World.size_alloc]at h;exact h
 have hsz:(((w.alloc (.cells #[.slice A la.length c0] 167)).alloc (.cells #[.pointer none,.slice none 0 0] 149)).alloc (.cells #[.slice A la.length c0] 167)).heap.size=w.heap.size+3:=by simp
 generalize ((w.alloc (.cells #[.slice A la.length c0] 167)).alloc (.cells #[.pointer none,.slice none 0 0] 149)).alloc (.cells #[.slice A la.length c0] 167)=W0 at*;clear bX;refine(wpIn_wide (n:=6)).1 ?_;refine wpIn_rangeFunc_ownG rfl (by decide) (gf:=230) (lb:=#[.pointer (some ⟨w.heap.size+1+1,0,none⟩)]) rfl trivial (enters_of Tryz.func230 (by kernel_rfl) rfl)
  (back_stops Fence.wide 5 trivial rfl (by decide) (w.heap.size+1+1) A c0 la (by omega) w W0 HA.out t0.bel (by omega) (by rw[Lib.cell_of_heap t0.ibox];rfl)) keepsB_t (keepsB_b (by omega) (by omega)) (Below.refl _ _) (fun _=>rfl)
  (fun pre W=>TI w (.slice A la.length c0) (txF la pre) W∧Below w.heap.size w W)
  (fun _ _ _=>False)
  (fun s A B row hs hg hr=>have hb:=hs.2.grown hg hs.2.size (fun k e=>by have:=(hr k e).1;omega);⟨hs.1.grown hg (fun r e=>(hr r e).2) hb,hb⟩)
  (fun _ _ _ _ _ hs _ _=>hs)
  ⟨t0,t0.bel⟩
  (fun x=>{tmps:=#[.slice A la.length c0,.pointer (some ⟨w.heap.size,0,none⟩),.string ⟨#[]⟩,.pointer (some ⟨w.heap.size+1,0,none⟩),.int .i64 (x.val:Int),.int .i64 (rd la (x.val:Int)),undef,.slice A la.length c0,.int .i64 (la.length:Int),.bool false,.slice A la.length c0,.func (.func 230) #[] #[.pointer (some ⟨w.heap.size+1+1,0,none⟩)],.int .i64 (x.val:Int),.int .i64 (rd la (x.val:Int)),undef,undef,undef,undef,undef,undef,undef,undef,undef,undef,undef,undef,undef,undef,undef],defers:=[]}) ?assign ?body ?done ?stop
 case assign=>
  intro l x W K hK;dsimp only[encI];gi_wp2
  exact hK
 case body=>
  rintro l pre x W ⟨hT,hB⟩ hpre;have hbx:W.cell? ⟨w.heap.size,0,none⟩=some (.slice A la.length c0):=by rw[Lib.cell_of_heap hT.box];rfl
  have htl:=txF_len la HL.out.wf pre;have hxm:rd la (x.val:Int)∈la:=by
   unfold rd;rw[Int.toNat_natCast,List.getD_eq_getElem?_getD,List.getElem?_eq_getElem x.isLt];exact List.getElem_mem x.isLt
  have hxb:=HL.out.wf _ hxm;obtain⟨y,hy⟩:∃y:Nat,rd la (x.val:Int)=(y:Int):=⟨(rd la (x.val:Int)).toNat,by omega⟩
  have hsn:=txF_snoc la pre x;unfold limbT at hsn;rw[hy,Int.toNat_natCast]at hsn;rw[hy]at hxb ⊢;have hdl:=zH y 4 (by omega) (by omega)
  have hns:(natS y).size=(Lib.decDigits y).length:=by
   show(natS y).data.toList.length=_
   rw[zq]
  have hxl:=x.isLt;clear hxm hy;generalize x.val=i at*;generalize txF la pre=acc at*;have HT:=zc.mk hT;have HI:=itoa_at y (by omega) W (HG.out.below hB)
  clear hT hB;by_cases hlt:(i:Int)<(la.length:Int)-1
  ·rw[if_pos hlt]at hsn
   have hlt':decide ((i:Int)<(la.length:Int)-1)=true:=decide_eq_true hlt;gi_wp2_with fail
   refine⟨trivial,(CallsIn.inRound l (callsIn_wide.2 HI)).mono ?_⟩;rintro e W1 ⟨rfl,hb1⟩;obtain⟨t1,k1⟩:=HT.out.below hb1;have hbx1:W1.cell? ⟨w.heap.size,0,none⟩=some (.slice A la.length c0):=by rw[Lib.cell_of_heap t1.box];rfl
   have T1:=zc.mk t1;have K1:=zc.mk k1;clear t1 k1 hb1 HT HI;gi_wp2_with fail
   rw[show(4:Int)-((Lib.decDigits y).length:Int)=((4-(Lib.decDigits y).length:Nat):Int) by omega]
   refine⟨trivial,(CallsIn.inRound l (callsIn_wide.2 (Tryz.strings_Repeat ⟨#[48]⟩ (4-(Lib.decDigits y).length) W1 (by omega) (by rw[show(⟨#[48]⟩:ByteArray).size=1 from rfl,Nat.one_mul];omega)))).mono ?_⟩
   rintro e W2 ⟨rfl,hb2⟩;obtain⟨t2,k2⟩:=T1.out.below hb2;have T2:=zc.mk t2;have K2:=zc.mk (K1.out.trans k2);clear t2 k2 hb2 T1 K1;rw[js];gi_wp2_with fail
   refine⟨trivial,(CallsIn.inRound l (callsIn_wide.2 (write_t T2.out _ (by show _+(List.replicate (4-(Lib.decDigits y).length) (48:UInt8)).toArray.size≤_;simp;omega)))).mono ?_⟩
   rintro e W3 ⟨rfl,t3,k3⟩;have T3:=zc.mk t3;have K3:=zc.mk (K2.out.trans k3);clear t3 k3 T2 K2;gi_wp2_with fail
   refine⟨trivial,(CallsIn.inRound l (callsIn_wide.2 (write_t T3.out (natS y) (by simp;omega)))).mono ?_⟩
   rintro e W4 ⟨rfl,t4,k4⟩;have T4:=zc.mk t4;have K4:=zc.mk (K3.out.trans k4);clear t4 k4 T3 K3;gi_wp2_with fail
   refine⟨?_,K4.out.2,?_,T4.out.bel⟩
   ·have:=K4.out.1
    rw[hsz];exact this
   ·have:=T4.out
    rw[zq,List.append_assoc]at this;rw[hsn];exact this
  ·rw[if_neg hlt]at hsn
   have hlt':decide ((i:Int)<(la.length:Int)-1)=false:=decide_eq_false hlt;gi_wp2_with fail
   refine⟨trivial,(CallsIn.inRound l (callsIn_wide.2 HI)).mono ?_⟩;rintro e W1 ⟨rfl,hb1⟩;obtain⟨t1,k1⟩:=HT.out.below hb1;have hbx1:W1.cell? ⟨w.heap.size,0,none⟩=some (.slice A la.length c0):=by rw[Lib.cell_of_heap t1.box];rfl
   have T1:=zc.mk t1;have K1:=zc.mk k1;clear t1 k1 hb1 HT HI;gi_wp2_with fail
   refine⟨trivial,(CallsIn.inRound l (callsIn_wide.2 (write_t T1.out (natS y) (by omega)))).mono ?_⟩
   rintro e W4 ⟨rfl,t4,k4⟩;have T4:=zc.mk t4;have K4:=zc.mk (K1.out.trans k4);clear t4 k4 T1 K1;gi_wp2_with fail
   refine⟨?_,K4.out.2,?_,T4.out.bel⟩
   ·have:=K4.out.1
    rw[hsz];exact this
   ·have:=T4.out
    rw[zq]at this;rw[hsn];exact this
 case done=>
  rintro D ys W hD rfl ⟨hT,hB⟩ hK;rw[tx_end la n HL.out (List.length_pos_iff.1 hpos)]at hT;have HT:=zc.mk hT;clear hT;have hF:Lib.IsBuilderF 149 5 (w.heap.size+1) (w.heap.size+1) (Lib.byteCells (Lib.decDigits n)) W:=by
   rcases HT.out.bld with h|h
   ·exact .inl (Lib.BuilderAtF.of h)
   ·exact .inr (Lib.BuilderAtF.of h)
  have HS:=Tryz.Builder_String_k (w.heap.size+1) (w.heap.size+1) (Lib.decDigits n) W hF (zF n).2.2.1;clear hF;go_wp2_with fail;refine HS.mono ?_;rintro e W1 ⟨rfl,_,hb1,ho1⟩;go_wp2_with fail;have hK':W1.heap[D]? =some (.deferred (some [])):=ho1 _ _ hK (by simp;omega) (fun c fz e=>by cases e)
  refine⟨by simp,.inl ⟨_,_,rfl,run_takeDeferred hK',?_⟩⟩
  have hgr:=grownBy_putObj' W1 D (.deferred none);have hle:=HT.out.bel.size;have hl1:=hb1.size;refine⟨.string (natS n),?_,rfl,(HT.out.bel.trans (hb1.mono (by omega))).grown hgr (by omega) (fun k e=>by cases e;omega)⟩
  simp[results,Tryz.f184,go_sem,natS]
 case stop=>
  rintro D c pre W _ _ h _;exact h.elim
theorem text_nil (A:Option Addr)(c0:Nat)(w:World):
 Calls Tryz.prog 184 #[.slice A 0 c0] w fun e w'=>e= .returned (.string (natS 0))∧Below w.heap.size w w':=by
 have bX:=(Boxed.new w 167 (.slice A 0 c0)).cell;have hz:natS 0=⟨#[48]⟩:=(isN_0.eq).symm;rw[hz];go_enter Tryz.func184,Tryz.ntmps184
 go_wp2_with fail;go_ret;exact⟨rfl,(Below.refl _ w).alloc (Nat.le_refl _) _⟩
theorem text_at (A:Option Addr)(c0:Nat)(la:List Int)(n:Nat)(w:World)(hl:la.length≤1000000)(hla:isL la n)(hA:Kd.C (Kd.int .i64) w A la.length la)(hg:Glob w):
 Calls Tryz.prog 184 #[.slice A la.length c0] w fun e w'=>e= .returned (.string (natS n))∧Below w.heap.size w w':=by
 by_cases hn:la=[]
 ·have h0:=hla.nil_iff.1 hn
  subst hn h0;exact text_nil A c0 w
 ·exact callsIn_wide.1 (text_walk A c0 la n w hn hl hla hA hg)
theorem short_at (A:Option Addr)(c0:Nat)(la:List Int)(n d:Nat)(hd:0<d)(hd2:d<10000)(w:World)(hl:la.length≤1000000)(hla:isL la n)(hA:Kd.C (Kd.int .i64) w A la.length la):
 Calls Tryz.prog 209 #[.slice A la.length c0,.int .i64 (d:Int)] w fun e w'=>
  ∃v1 v2 l1 l2,e= .returned (.tuple #[v1,v2])∧Kd.V (Kd.int .i64) 3 w' w.heap.size (fun k=>w.heap.size≤k) v1 l1∧Kd.V (Kd.int .i64) 3 w' w.heap.size (fun k=>w.heap.size≤k) v2 l2∧isL l1 (n/d)∧isL l2 (n%d)∧Below w.heap.size w w':=by
 have h:=callsIn_wide.1 (short_walk A c0 la d hd hd2 w hl hla.wf hA);rw[hla.val]at h;exact h
end Go.Proofs.YtjopepfemhckjaaGreatDoor.NW
end
section
namespace Go.Proofs.YtjopepfemhckjaaGreatDoor.RG
open Go.ChangeShapes Go.WideShapes Go.ChangeAt Go.RowKit
theorem own:ownKnob Tryz.prog.godebug=none:=by kernel_rfl
def laidS:List (String×DataW Unit):=[("math/bits.deBruijn32tab",Rows.laid_math_bits_deBruijn32tab),("math/bits.deBruijn64tab",Rows.laid_math_bits_deBruijn64tab),("internal/strconv.uint64pow10",Rows.laid_internal_strconv_uint64pow10),("unicode/utf8.acceptRanges",Rows.laid_unicode_utf8_acceptRanges),("strconv.ErrRange",Rows.laid_strconv_ErrRange),("strconv.ErrSyntax",Rows.laid_strconv_ErrSyntax),("unicode/utf8.first",Rows.laid_unicode_utf8_first)]
theorem returns_laid {H:Type}{enc:TypeId×Value→H}{a:Assume}{C:Checked}{os:Os}{f:FuncId}{fn:Func}{s:ChangeSpec}{conds:List PathCond}{apart fresh handsOn again:Bool}{X:World→Array Value→Prop}
 (hX:∀(w w':World) (args:Array Value),w.heap=w'.heap→X w args→X w' args)
 (own:ownKnob C.prog.godebug=none)(started:os.Started)(noInit:C.prog.inits.idxOf? f=none)(hfn:C.prog.funcs[f]? =some fn)
 (witness:∃(w:World) (tape:Tape) (i:Input),w.os=os∧(w.forCall tape i).Shaped C.prog∧i.vars=[]∧Input.okWide C.prog (w.forCall tape i) .any w.heap.size f i∧
  ((s.pre enc C.prog fn conds apart (w.forCall tape i).memory i.args∧X (w.forCall tape i).memory i.args)∧sizedMet enc C.prog fn (OpenSpec.ofChange s) apart (w.forCall tape i).memory i.args)∧a.holds C.prog (lone (Frame.enter C.prog f i.args .normal) [] (w.forCall tape i)))
 (contract:∀(W:World) (base:Nat) (args:Array Value) (ds gs:List (DataW H)) (before:List MemPlace),
  (∀(j:Nat) t v,fn.params[j]? =some t→args[j]? =some v→Value.okWide C.prog W .any base t v)→
  DataW.Whole enc C.prog fn.params.toList s.vars apart W args.toList ds gs before→
  conds.all (PathCond.test C.prog ⟨fn.params.toList,ds,s.plain.varTypes C.prog,gs⟩)=true→
  (DataW.weightsEach C.prog (fn.params.toList++s.plain.varTypes C.prog) (ds++gs)).all (·≤reachBytes)=true→X W args→W.ShapedOpen C.prog→
  Calls C.prog f args W fun e W'=>∃v,e= .returned v∧s.post enc C.prog fn apart fresh handsOn again W args v W'):
 ReturnsInHanded a C os f .any (fun w args=>(s.pre enc C.prog fn conds apart w args∧X w args)∧sizedMet enc C.prog fn (OpenSpec.ofChange s) apart w args) (s.post enc C.prog fn apart fresh handsOn again):=by
 refine returnsInHanded_of_calls own started noInit witness ?_;intro w tape i _ hsh _ hok hpre hholds;obtain⟨_,_,_,fn',hfn',_,_,_,_,hval⟩:=hok;have e:fn'=fn:=Option.some.inj (hfn'.symm.trans hfn);subst e;obtain⟨⟨⟨ds,gs,before,hw,hc⟩,hx⟩,hz⟩:=hpre;have hw':=DataW.Whole.of_heap (w':=w.forCall tape i) (by rfl) hw
 refine(contract (w.forCall tape i) w.heap.size i.args ds gs before hval hw' hc (hz.weights hw) (hX _ _ _ (by rfl) hx) hsh).mono fun e W' ⟨v,he,hp⟩=>?_
 subst he;exact ChangeSpec.post_blind hp
theorem pow10:(Rows.laid_internal_strconv_uint64pow10:DataW Unit)=Lib.tabData .u64 Lib.pow10Tab:=by kernel_rfl
theorem glob_of {W:World}(h:laidMetH Tryz.prog laidS W)(hsh:W.ShapedOpen Tryz.prog):NW.Glob W:=by
 rw[MakeChecks.laidMetH_plain _ _ _ (by kernel_rfl)]at h
 refine⟨?_,cell_of_shapedOpen_int (P:=Tryz.prog) (g:=0) (t:=3) (zero:=#[.int .i64 0]) hsh (of_decide_eq_true (by kernel_rfl)) (by kernel_rfl) rfl (by kernel_rfl) (by kernel_rfl) Tryz.underlying3⟩
 have hm:("internal/strconv.uint64pow10",Lib.tabData .u64 Lib.pow10Tab)∈laidS:=by
  rw[←pow10];unfold laidS;simp
 obtain⟨g,t,cs,fuel,p,hg,ht,hvar,hd⟩:=Lib.laidMet.reads h hm;obtain rfl:=Option.some.inj ((show Tryz.prog.globalNamed "internal/strconv.uint64pow10" =some 3 by kernel_rfl).symm.trans hg)
 obtain rfl:=Option.some.inj ((show(Tryz.prog.globals[3]?).map (·.type)=some 215 by kernel_rfl).symm.trans ht)
 unfold Lib.TabIs;rw[hvar,←Lib.cells_of_tab (n:=20) (e:=163) Tryz.underlying215 Tryz.underlying163 (by kernel_rfl) (by kernel_rfl) hd]
noncomputable def firstCells:Array Value:=(Go.Pinned.utf8FirstZ.map fun(n:Nat)=>Value.int .u8 (n:Int)).toArray
noncomputable def start (os:Os):World:={World.doorLaid Tryz.prog 72 os with heap:=(World.doorLaid Tryz.prog 72 os).heap.modify 1 fun
 | .cells _ t fr=> .cells firstCells t fr
 |o=>o}
theorem start_met (os:Os)(args:Array Value):laidMetH Tryz.prog laidS ((start os).forCall (fun _ _=>0) ⟨#[],args,[]⟩).memory:=
 laidMetH_of_parts3 (fuel:=8) (laidMet_of_run' 8 (by kernel_rfl) (by kernel_rfl)) (by kernel_rfl) (by kernel_rfl)
end Go.Proofs.YtjopepfemhckjaaGreatDoor.RG
end
