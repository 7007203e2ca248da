/-
  Part 15 of the proof of parseTells_holds: texts of this seat, put together.
-/
import Derived.Lib.Bytealg
import Derived.Shelf.Abstract
import Derived.ScopeJumps
import Derived.Test.YtjopepfemhckjaaGreatDoorTl14
set_option linter.unusedVariables false
set_option linter.unusedSimpArgs false
set_option maxHeartbeats 16000000
set_option maxRecDepth 100000
section
namespace Go.Proofs.YtjopepfemhckjaaGreatDoor.WW
open Go.Proofs Go.RowKit Go.Proofs.YtjopepfemhckjaaGreatDoor.WP Go.Proofs.YtjopepfemhckjaaGreatDoor.Fl Go.Proofs.YtjopepfemhckjaaGreatDoorW.PrintWords
theorem slite_index (s:ByteArray)(c:Int)(w:World):
 Calls Tryz.prog 101 #[.string s,.int .u8 c] w fun e w'=>e= .returned (.int .i64 (Lib.indexByte s.data.toList c.toNat.toUInt8))∧w'=w:=by
 go_enter Tryz.func101,Tryz.ntmps101
 go_wp2;rw[run_callFunc_extern Tryz.func128 (by kernel_rfl) (by kernel_rfl) (by kernel_rfl) (e:=Extern.BytealgIndexByte.indexByte) (by kernel_rfl),Lib.run_indexByteString]
 simp only[Result.andThen];rw[Oper.upon_value];go_wp2;go_ret;exact⟨rfl,rfl⟩
theorem str_index (s:ByteArray)(c:Int)(w:World):
 Calls Tryz.prog 65 #[.string s,.int .u8 c] w fun e w'=>e= .returned (.int .i64 (Lib.indexByte s.data.toList c.toNat.toUInt8))∧w'=w:=by
 go_enter Tryz.func65,Tryz.ntmps65
 go_wp2_with fail;refine(slite_index s c w).mono ?_;rintro e w' ⟨rfl,rfl⟩;go_wp2;go_ret;exact⟨rfl,rfl⟩
theorem signs_index:∀c:Nat,c<256→decide (0≤Lib.indexByte [43,45,42,47,40,41,44] c.toUInt8)=isS c:=by decide+kernel
theorem isS_index (c:Nat)(w:World)(h:c<256):
 Calls Tryz.prog 65 #[.string ⟨#[43,45,42,47,40,41,44]⟩,.int .u8 c] w fun e w'=>(∃v:Int,e= .returned (.int .i64 v)∧decide (0≤v)=isS c)∧w=w':=by
 refine(str_index _ _ w).mono ?_;rintro e w' ⟨rfl,rfl⟩;exact⟨⟨_,rfl,signs_index c h⟩,rfl⟩
def numL (l:List UInt8):Nat:=
 if zx l (runL isD l)=46∧isD (zx l (runL isD l+1))=true then runL isD l+(1+runL isD (l.drop (runL isD l+1)))else runL isD l
def kindL (l:List UInt8):Nat×Nat:=
 if isL (zx l 0)=true then(if 20<runL isLD l then(0,0)else(0,runL isLD l))
 else if isD (zx l 0)=true then(if 100<numL l then(0,0)else(1,numL l))
 else if isS (zx l 0)=true then(2,1)else(0,0)
theorem zR (l:List UInt8)(n:Nat):zx l n<256:=by
 unfold zx;cases l[n]? with
 |none=>simp
 |some c=>exact c.toNat_lt
theorem jY:∀(args:Array Value) (w:World),(callFunc 63 args).run Tryz.prog w= .ok (.enter 63 args) w:=Go.Proofs.enters_of Tryz.func63 (by kernel_rfl) rfl
theorem zI:∀(args:Array Value) (w:World),(callFunc 64 args).run Tryz.prog w= .ok (.enter 64 args) w:=Go.Proofs.enters_of Tryz.func64 (by kernel_rfl) rfl
theorem enters_blank:∀(args:Array Value) (w:World),(callFunc 35 args).run Tryz.prog w= .ok (.enter 35 args) w:=Go.Proofs.enters_of Tryz.func35 (by kernel_rfl) rfl
abbrev jp (b:Nat)(k:Nat×Nat)(w:World):Prop:=
 Calls Tryz.prog 37 #[.pointer (some ⟨b,0,none⟩)] w fun e w'=>e= .returned (.tuple #[.int .i64 k.1,.int .i64 k.2])∧w=w'
theorem kind_name (b:Nat)(s:ByteArray)(p:Nat×Nat)(w:World)(h:Scan b s p w)(hs:s.size≤1000000000)(c n:Nat)(hc:zx s.data.toList 0=c)(hL:isL c=true)(hn:runL isLD s.data.toList=n)(h2:n≤20):
 jp b (0,n) w:=by
 have hp:=peek b s p 0 w h hs (by omega) (by omega)
 have hr:=run 63 isLD (fun c w h=>namely c w h) jY b s p 0 w h hs (by omega) (by omega)
 simp only[Int.toNat_zero,List.drop_zero,hc,hn]at hp hr;have hk:=letter c w (by rw[←hc];exact zR _ _)
 rw[hL]at hk;have HP:=Lib.hid hp;have HR:=Lib.hid hr;have HK:=Lib.hid hk;clear hp hr hk hc hL hn h;go_enter Tryz.func37,Tryz.ntmps37
 go_wp2_with fail;refine HP.out.mono ?_;rintro e w1 ⟨rfl,rfl⟩;go_wp2_with fail;refine HK.out.mono ?_;rintro e w1 ⟨rfl,rfl⟩;go_wp2_with fail;refine HR.out.mono ?_;rintro e w1 ⟨rfl,rfl⟩;go_wp2;go_ret2
 exact⟨rfl,rfl⟩
theorem kind_long (b:Nat)(s:ByteArray)(p:Nat×Nat)(w:World)(h:Scan b s p w)(hs:s.size≤1000000000)(c n:Nat)(hc:zx s.data.toList 0=c)(hL:isL c=true)(hn:runL isLD s.data.toList=n)(h2:20<n)(h3:n≤1000000000):
 jp b (0,0) w:=by
 have hp:=peek b s p 0 w h hs (by omega) (by omega)
 have hr:=run 63 isLD (fun c w h=>namely c w h) jY b s p 0 w h hs (by omega) (by omega)
 simp only[Int.toNat_zero,List.drop_zero,hc,hn]at hp hr;have hk:=letter c w (by rw[←hc];exact zR _ _)
 rw[hL]at hk;have HP:=Lib.hid hp;have HR:=Lib.hid hr;have HK:=Lib.hid hk;clear hp hr hk hc hL hn h;go_enter Tryz.func37,Tryz.ntmps37
 go_wp2_with fail;refine HP.out.mono ?_;rintro e w1 ⟨rfl,rfl⟩;go_wp2_with fail;refine HK.out.mono ?_;rintro e w1 ⟨rfl,rfl⟩;go_wp2_with fail;refine HR.out.mono ?_;rintro e w1 ⟨rfl,rfl⟩;go_wp2;go_ret2
 exact⟨rfl,rfl⟩
theorem kind_else (b:Nat)(s:ByteArray)(p:Nat×Nat)(w:World)(h:Scan b s p w)(hs:s.size≤1000000000)(c:Nat)(hc:zx s.data.toList 0=c)(hL:isL c=false)(hD:isD c=false):
 jp b (if isS c=true then(2,1)else(0,0)) w:=by
 have hp:=peek b s p 0 w h hs (by omega) (by omega)
 have hc2:c<256:=by rw[←hc];exact zR _ _
 simp only[Int.toNat_zero,hc]at hp;have hk:=letter c w hc2;rw[hL]at hk;have hd:=digit c w hc2;rw[hD]at hd;have HP:=Lib.hid hp;have HD:=Lib.hid hd;have HK:=Lib.hid hk;have HX:=Lib.hid (isS_index c w hc2);clear hp hd hk hc hL hD h;cases hS:isS c
 ·have HS:=Lib.hid hS
  clear hS;go_enter Tryz.func37,Tryz.ntmps37
  go_wp2_with fail;refine HP.out.mono ?_;rintro e w1 ⟨rfl,rfl⟩;go_wp2_with fail;refine HK.out.mono ?_;rintro e w1 ⟨rfl,rfl⟩;go_wp2_with fail;refine HD.out.mono ?_;rintro e w1 ⟨rfl,rfl⟩;go_wp2_with fail;refine HX.out.mono ?_;rintro e w1 ⟨⟨v,rfl,hv⟩,rfl⟩;rw[HS.out]at hv;go_wp2;go_ret2
  exact⟨rfl,rfl⟩
 ·have HS:=Lib.hid hS
  clear hS;go_enter Tryz.func37,Tryz.ntmps37
  go_wp2_with fail;refine HP.out.mono ?_;rintro e w1 ⟨rfl,rfl⟩;go_wp2_with fail;refine HK.out.mono ?_;rintro e w1 ⟨rfl,rfl⟩;go_wp2_with fail;refine HD.out.mono ?_;rintro e w1 ⟨rfl,rfl⟩;go_wp2_with fail;refine HX.out.mono ?_;rintro e w1 ⟨⟨v,rfl,hv⟩,rfl⟩;rw[HS.out]at hv;go_wp2;go_ret2
  exact⟨rfl,rfl⟩
theorem ja (l:List UInt8)(n:Nat)(h:isD (zx l n)=true):n<l.length:=by
 apply Classical.byContradiction;intro hn;unfold zx at h;rw[List.getElem?_eq_none (by omega)]at h
 exact absurd h (by decide)
theorem kind_numa0 (b:Nat)(s:ByteArray)(p:Nat×Nat)(w:World)(h:Scan b s p w)(hs:s.size≤100000000)(c n:Nat)(hc:zx s.data.toList 0=c)(hL:isL c=false)(hD:isD c=true)(hn:runL isD s.data.toList=n)(hn1:n≤s.size)(k:Nat)(hk1:zx s.data.toList n=k)(h46:k≠46)(h2:n≤100):
 jp b (1,n) w:=by
 replace hs:s.size≤1000000000∧s.size≤100000000:=by omega
 obtain⟨hs,hs3⟩:=hs;have hp:=peek b s p 0 w h hs (by omega) (by omega)
 have hr:=run 64 isD (fun c w h=>digit c w h) zI b s p 0 w h hs (by omega) (by omega)
 simp only[Int.toNat_zero,List.drop_zero,hc,hn]at hp hr;have hc2:c<256:=by rw[←hc];exact zR _ _
 have hk:=letter c w hc2;rw[hL]at hk;have hd:=digit c w hc2;rw[hD]at hd;have hp1:=peek b s p n w h hs (by omega) (by omega)
 rw[xa]at hp1;rw[hk1]at hp1;have t1:((k:Int)==46)=false:=by rw[beq_eq_false_iff_ne];omega
 clear hk1 h46;have HP:=Lib.hid hp;have HR:=Lib.hid hr;have HK:=Lib.hid hk;have HD:=Lib.hid hd;have HP1:=Lib.hid hp1;clear hp hr hk hd hp1 hc hL hD hn h;go_enter Tryz.func37,Tryz.ntmps37
 go_wp2_with fail;refine HP.out.mono ?_;rintro e w1 ⟨rfl,rfl⟩;go_wp2_with fail;refine HK.out.mono ?_;rintro e w1 ⟨rfl,rfl⟩;go_wp2_with fail;refine HD.out.mono ?_;rintro e w1 ⟨rfl,rfl⟩;go_wp2_with fail;refine HR.out.mono ?_;rintro e w1 ⟨rfl,rfl⟩;go_wp2_with fail;refine HP1.out.mono ?_;rintro e w1 ⟨rfl,rfl⟩;go_wp2;go_ret2
 exact⟨rfl,rfl⟩
theorem kind_numb0 (b:Nat)(s:ByteArray)(p:Nat×Nat)(w:World)(h:Scan b s p w)(hs:s.size≤100000000)(c n d:Nat)(hc:zx s.data.toList 0=c)(hL:isL c=false)(hD:isD c=true)(hn:runL isD s.data.toList=n)(hn1:n≤s.size)(hk1:zx s.data.toList n=46)(hk2:zx s.data.toList (n+1)=d)(hd1:isD d=false)(h2:n≤100):
 jp b (1,n) w:=by
 replace hs:s.size≤1000000000∧s.size≤100000000:=by omega
 obtain⟨hs,hs3⟩:=hs;have hp:=peek b s p 0 w h hs (by omega) (by omega)
 have hr:=run 64 isD (fun c w h=>digit c w h) zI b s p 0 w h hs (by omega) (by omega)
 simp only[Int.toNat_zero,List.drop_zero,hc,hn]at hp hr;have hc2:c<256:=by rw[←hc];exact zR _ _
 have hk:=letter c w hc2;rw[hL]at hk;have hd:=digit c w hc2;rw[hD]at hd;have hp1:=peek b s p n w h hs (by omega) (by omega)
 rw[xa]at hp1;rw[hk1]at hp1;have hp2:=peek b s p (n+1) w h hs (by omega) (by omega)
 rw[show((n:Int)+1).toNat=n+1 by omega,hk2]at hp2
 have hd2:=digit d w (by rw[←hk2];exact zR _ _)
 rw[hd1]at hd2;have HP2:=Lib.hid hp2;have HD2:=Lib.hid hd2;clear hp2 hd2 hk1;clear hk2 hd1;have HP:=Lib.hid hp;have HR:=Lib.hid hr;have HK:=Lib.hid hk;have HD:=Lib.hid hd;have HP1:=Lib.hid hp1;clear hp hr hk hd hp1 hc hL hD hn h;go_enter Tryz.func37,Tryz.ntmps37
 go_wp2_with fail;refine HP.out.mono ?_;rintro e w1 ⟨rfl,rfl⟩;go_wp2_with fail;refine HK.out.mono ?_;rintro e w1 ⟨rfl,rfl⟩;go_wp2_with fail;refine HD.out.mono ?_;rintro e w1 ⟨rfl,rfl⟩;go_wp2_with fail;refine HR.out.mono ?_;rintro e w1 ⟨rfl,rfl⟩;go_wp2_with fail;refine HP1.out.mono ?_;rintro e w1 ⟨rfl,rfl⟩;go_wp2_with fail;refine HP2.out.mono ?_;rintro e w1 ⟨rfl,rfl⟩;go_wp2_with fail;refine HD2.out.mono ?_;rintro e w1 ⟨rfl,rfl⟩;go_wp2;go_ret2
 exact⟨rfl,rfl⟩
theorem kind_numc0 (b:Nat)(s:ByteArray)(p:Nat×Nat)(w:World)(h:Scan b s p w)(hs:s.size≤100000000)(c n d m:Nat)(hc:zx s.data.toList 0=c)(hL:isL c=false)(hD:isD c=true)(hn:runL isD s.data.toList=n)(hn1:n≤s.size)(hk1:zx s.data.toList n=46)(hk2:zx s.data.toList (n+1)=d)(hd1:isD d=true)(hm:runL isD (s.data.toList.drop (n+1))=m)(hm1:m≤1000000000)(h2:n+(1+m)≤100):
 jp b (1,n+(1+m)) w:=by
 replace hs:s.size≤1000000000∧s.size≤100000000:=by omega
 obtain⟨hs,hs3⟩:=hs;have hp:=peek b s p 0 w h hs (by omega) (by omega)
 have hr:=run 64 isD (fun c w h=>digit c w h) zI b s p 0 w h hs (by omega) (by omega)
 simp only[Int.toNat_zero,List.drop_zero,hc,hn]at hp hr;have hc2:c<256:=by rw[←hc];exact zR _ _
 have hk:=letter c w hc2;rw[hL]at hk;have hd:=digit c w hc2;rw[hD]at hd;have hp1:=peek b s p n w h hs (by omega) (by omega)
 rw[xa]at hp1;rw[hk1]at hp1;have hp2:=peek b s p (n+1) w h hs (by omega) (by omega)
 rw[show((n:Int)+1).toNat=n+1 by omega,hk2]at hp2
 have hd2:=digit d w (by rw[←hk2];exact zR _ _)
 rw[hd1]at hd2;have HP2:=Lib.hid hp2;have HD2:=Lib.hid hd2;clear hp2 hd2 hk1;have hin:=ja s.data.toList (n+1) (by rw[hk2];exact hd1)
 have hin2:n+1≤s.size:=by simp at hin;omega
 have hr2:=run 64 isD (fun c w h=>digit c w h) zI b s p (n+1) w h hs (by omega) (by omega)
 rw[show((n:Int)+1).toNat=n+1 by omega,hm]at hr2
 have HR2:=Lib.hid hr2;clear hr2 hm hk2 hd1 hin;have HP:=Lib.hid hp;have HR:=Lib.hid hr;have HK:=Lib.hid hk;have HD:=Lib.hid hd;have HP1:=Lib.hid hp1;clear hp hr hk hd hp1 hc hL hD hn h;go_enter Tryz.func37,Tryz.ntmps37
 go_wp2_with fail;refine HP.out.mono ?_;rintro e w1 ⟨rfl,rfl⟩;go_wp2_with fail;refine HK.out.mono ?_;rintro e w1 ⟨rfl,rfl⟩;go_wp2_with fail;refine HD.out.mono ?_;rintro e w1 ⟨rfl,rfl⟩;go_wp2_with fail;refine HR.out.mono ?_;rintro e w1 ⟨rfl,rfl⟩;go_wp2_with fail;refine HP1.out.mono ?_;rintro e w1 ⟨rfl,rfl⟩;go_wp2_with fail;refine HP2.out.mono ?_;rintro e w1 ⟨rfl,rfl⟩;go_wp2_with fail;refine HD2.out.mono ?_;rintro e w1 ⟨rfl,rfl⟩;go_wp2_with fail;refine HR2.out.mono ?_;rintro e w1 ⟨rfl,rfl⟩;go_wp2;go_ret2
 exact⟨rfl,rfl⟩
theorem kind_numa1 (b:Nat)(s:ByteArray)(p:Nat×Nat)(w:World)(h:Scan b s p w)(hs:s.size≤100000000)(c n:Nat)(hc:zx s.data.toList 0=c)(hL:isL c=false)(hD:isD c=true)(hn:runL isD s.data.toList=n)(hn1:n≤s.size)(k:Nat)(hk1:zx s.data.toList n=k)(h46:k≠46)(h2:100<n):
 jp b (0,0) w:=by
 replace hs:s.size≤1000000000∧s.size≤100000000:=by omega
 obtain⟨hs,hs3⟩:=hs;have hp:=peek b s p 0 w h hs (by omega) (by omega)
 have hr:=run 64 isD (fun c w h=>digit c w h) zI b s p 0 w h hs (by omega) (by omega)
 simp only[Int.toNat_zero,List.drop_zero,hc,hn]at hp hr;have hc2:c<256:=by rw[←hc];exact zR _ _
 have hk:=letter c w hc2;rw[hL]at hk;have hd:=digit c w hc2;rw[hD]at hd;have hp1:=peek b s p n w h hs (by omega) (by omega)
 rw[xa]at hp1;rw[hk1]at hp1;have t1:((k:Int)==46)=false:=by rw[beq_eq_false_iff_ne];omega
 clear hk1 h46;have HP:=Lib.hid hp;have HR:=Lib.hid hr;have HK:=Lib.hid hk;have HD:=Lib.hid hd;have HP1:=Lib.hid hp1;clear hp hr hk hd hp1 hc hL hD hn h;go_enter Tryz.func37,Tryz.ntmps37
 go_wp2_with fail;refine HP.out.mono ?_;rintro e w1 ⟨rfl,rfl⟩;go_wp2_with fail;refine HK.out.mono ?_;rintro e w1 ⟨rfl,rfl⟩;go_wp2_with fail;refine HD.out.mono ?_;rintro e w1 ⟨rfl,rfl⟩;go_wp2_with fail;refine HR.out.mono ?_;rintro e w1 ⟨rfl,rfl⟩;go_wp2_with fail;refine HP1.out.mono ?_;rintro e w1 ⟨rfl,rfl⟩;go_wp2;go_ret2
 exact⟨rfl,rfl⟩
theorem kind_numb1 (b:Nat)(s:ByteArray)(p:Nat×Nat)(w:World)(h:Scan b s p w)(hs:s.size≤100000000)(c n d:Nat)(hc:zx s.data.toList 0=c)(hL:isL c=false)(hD:isD c=true)(hn:runL isD s.data.toList=n)(hn1:n≤s.size)(hk1:zx s.data.toList n=46)(hk2:zx s.data.toList (n+1)=d)(hd1:isD d=false)(h2:100<n):
 jp b (0,0) w:=by
 replace hs:s.size≤1000000000∧s.size≤100000000:=by omega
 obtain⟨hs,hs3⟩:=hs;have hp:=peek b s p 0 w h hs (by omega) (by omega)
 have hr:=run 64 isD (fun c w h=>digit c w h) zI b s p 0 w h hs (by omega) (by omega)
 simp only[Int.toNat_zero,List.drop_zero,hc,hn]at hp hr;have hc2:c<256:=by rw[←hc];exact zR _ _
 have hk:=letter c w hc2;rw[hL]at hk;have hd:=digit c w hc2;rw[hD]at hd;have hp1:=peek b s p n w h hs (by omega) (by omega)
 rw[xa]at hp1;rw[hk1]at hp1;have hp2:=peek b s p (n+1) w h hs (by omega) (by omega)
 rw[show((n:Int)+1).toNat=n+1 by omega,hk2]at hp2
 have hd2:=digit d w (by rw[←hk2];exact zR _ _)
 rw[hd1]at hd2;have HP2:=Lib.hid hp2;have HD2:=Lib.hid hd2;clear hp2 hd2 hk1;clear hk2 hd1;have HP:=Lib.hid hp;have HR:=Lib.hid hr;have HK:=Lib.hid hk;have HD:=Lib.hid hd;have HP1:=Lib.hid hp1;clear hp hr hk hd hp1 hc hL hD hn h;go_enter Tryz.func37,Tryz.ntmps37
 go_wp2_with fail;refine HP.out.mono ?_;rintro e w1 ⟨rfl,rfl⟩;go_wp2_with fail;refine HK.out.mono ?_;rintro e w1 ⟨rfl,rfl⟩;go_wp2_with fail;refine HD.out.mono ?_;rintro e w1 ⟨rfl,rfl⟩;go_wp2_with fail;refine HR.out.mono ?_;rintro e w1 ⟨rfl,rfl⟩;go_wp2_with fail;refine HP1.out.mono ?_;rintro e w1 ⟨rfl,rfl⟩;go_wp2_with fail;refine HP2.out.mono ?_;rintro e w1 ⟨rfl,rfl⟩;go_wp2_with fail;refine HD2.out.mono ?_;rintro e w1 ⟨rfl,rfl⟩;go_wp2;go_ret2
 exact⟨rfl,rfl⟩
theorem kind_numc1 (b:Nat)(s:ByteArray)(p:Nat×Nat)(w:World)(h:Scan b s p w)(hs:s.size≤100000000)(c n d m:Nat)(hc:zx s.data.toList 0=c)(hL:isL c=false)(hD:isD c=true)(hn:runL isD s.data.toList=n)(hn1:n≤s.size)(hk1:zx s.data.toList n=46)(hk2:zx s.data.toList (n+1)=d)(hd1:isD d=true)(hm:runL isD (s.data.toList.drop (n+1))=m)(hm1:m≤1000000000)(h2:100<n+(1+m)):
 jp b (0,0) w:=by
 replace hs:s.size≤1000000000∧s.size≤100000000:=by omega
 obtain⟨hs,hs3⟩:=hs;have hp:=peek b s p 0 w h hs (by omega) (by omega)
 have hr:=run 64 isD (fun c w h=>digit c w h) zI b s p 0 w h hs (by omega) (by omega)
 simp only[Int.toNat_zero,List.drop_zero,hc,hn]at hp hr;have hc2:c<256:=by rw[←hc];exact zR _ _
 have hk:=letter c w hc2;rw[hL]at hk;have hd:=digit c w hc2;rw[hD]at hd;have hp1:=peek b s p n w h hs (by omega) (by omega)
 rw[xa]at hp1;rw[hk1]at hp1;have hp2:=peek b s p (n+1) w h hs (by omega) (by omega)
 rw[show((n:Int)+1).toNat=n+1 by omega,hk2]at hp2
 have hd2:=digit d w (by rw[←hk2];exact zR _ _)
 rw[hd1]at hd2;have HP2:=Lib.hid hp2;have HD2:=Lib.hid hd2;clear hp2 hd2 hk1;have hin:=ja s.data.toList (n+1) (by rw[hk2];exact hd1)
 have hin2:n+1≤s.size:=by simp at hin;omega
 have hr2:=run 64 isD (fun c w h=>digit c w h) zI b s p (n+1) w h hs (by omega) (by omega)
 rw[show((n:Int)+1).toNat=n+1 by omega,hm]at hr2
 have HR2:=Lib.hid hr2;clear hr2 hm hk2 hd1 hin;have HP:=Lib.hid hp;have HR:=Lib.hid hr;have HK:=Lib.hid hk;have HD:=Lib.hid hd;have HP1:=Lib.hid hp1;clear hp hr hk hd hp1 hc hL hD hn h;go_enter Tryz.func37,Tryz.ntmps37
 go_wp2_with fail;refine HP.out.mono ?_;rintro e w1 ⟨rfl,rfl⟩;go_wp2_with fail;refine HK.out.mono ?_;rintro e w1 ⟨rfl,rfl⟩;go_wp2_with fail;refine HD.out.mono ?_;rintro e w1 ⟨rfl,rfl⟩;go_wp2_with fail;refine HR.out.mono ?_;rintro e w1 ⟨rfl,rfl⟩;go_wp2_with fail;refine HP1.out.mono ?_;rintro e w1 ⟨rfl,rfl⟩;go_wp2_with fail;refine HP2.out.mono ?_;rintro e w1 ⟨rfl,rfl⟩;go_wp2_with fail;refine HD2.out.mono ?_;rintro e w1 ⟨rfl,rfl⟩;go_wp2_with fail;refine HR2.out.mono ?_;rintro e w1 ⟨rfl,rfl⟩;go_wp2;go_ret2
 exact⟨rfl,rfl⟩
theorem kind (b:Nat)(s:ByteArray)(p:Nat×Nat)(w:World)(h:Scan b s p w)(hs:s.size≤100000000):jp b (kindL s.data.toList) w:=by
 have hlen:s.data.toList.length=s.size:=by simp
 unfold kindL;by_cases hL:isL (zx s.data.toList 0)=true
 ·rw[if_pos hL]
  have hle:=z8 isLD s.data.toList;by_cases h2:20<runL isLD s.data.toList
  ·rw[if_pos h2];exact kind_long b s p w h (by omega) _ _ rfl hL rfl h2 (by omega)
  ·rw[if_neg h2];exact kind_name b s p w h (by omega) _ _ rfl hL rfl (by omega)
 ·rw[if_neg hL]
  have hL':isL (zx s.data.toList 0)=false:=by simpa using hL
  by_cases hD:isD (zx s.data.toList 0)=true
  ·rw[if_pos hD]
   have hle:=z8 isD s.data.toList;have hle2:=z8 isD (s.data.toList.drop (runL isD s.data.toList+1));rw[List.length_drop]at hle2;by_cases h46:zx s.data.toList (runL isD s.data.toList)=46
   ·by_cases hd:isD (zx s.data.toList (runL isD s.data.toList+1))=true
    ·have e:numL s.data.toList=_:=if_pos ⟨h46,hd⟩
     rw[e];by_cases h2:100<runL isD s.data.toList+(1+runL isD (s.data.toList.drop (runL isD s.data.toList+1)))
     ·rw[if_pos h2];exact kind_numc1 b s p w h hs _ _ _ _ rfl hL' hD rfl (by omega) h46 rfl hd rfl (by omega) h2
     ·rw[if_neg h2];exact kind_numc0 b s p w h hs _ _ _ _ rfl hL' hD rfl (by omega) h46 rfl hd rfl (by omega) (by omega)
    ·have e:numL s.data.toList=_:=if_neg (fun h=>hd h.2)
     rw[e];by_cases h2:100<runL isD s.data.toList
     ·rw[if_pos h2];exact kind_numb1 b s p w h hs _ _ _ rfl hL' hD rfl (by omega) h46 rfl (by simpa using hd) h2
     ·rw[if_neg h2];exact kind_numb0 b s p w h hs _ _ _ rfl hL' hD rfl (by omega) h46 rfl (by simpa using hd) (by omega)
   ·have e:numL s.data.toList=_:=if_neg (fun h=>h46 h.1)
    rw[e];by_cases h2:100<runL isD s.data.toList
    ·rw[if_pos h2];exact kind_numa1 b s p w h hs _ _ rfl hL' hD rfl (by omega) _ rfl h46 h2
    ·rw[if_neg h2];exact kind_numa0 b s p w h hs _ _ rfl hL' hD rfl (by omega) _ rfl h46 (by omega)
  ·rw[if_neg hD]
   exact kind_else b s p w h (by omega) _ rfl hL' (by simpa using hD)
end Go.Proofs.YtjopepfemhckjaaGreatDoor.WW
end
section
namespace Go.Proofs.YtjopepfemhckjaaGreatDoor.WW
open Go.Proofs Go.RowKit Go.Proofs.YtjopepfemhckjaaGreatDoor.WP Go.Proofs.YtjopepfemhckjaaGreatDoor.Fl Go.Proofs.YtjopepfemhckjaaGreatDoorW.PrintWords Go.Proofs.YtjopepfemhckjaaGreatDoor.PParseTells
theorem results_tmp4 {fn:Func}{t u v x:Tmp}(h:fn.results=#[.tmp t,.tmp u,.tmp v,.tmp x])(tmps:Array Value)(P:Program)(w:World):
 (results fn tmps).run P w= .ok (.tuple #[tmps.getD t undef,tmps.getD u undef,tmps.getD v undef,tmps.getD x undef]) w:=by
 simp[results,h]
def lexB:Nat→ByteArray→Nat×Nat→Sum (Nat×Nat) (List S75)
 |0,_,_=> .inr []
 |k+1,s,p=>
  let n:=runL isB s.data.toList
  let s1:=s.extract n s.size
  let p1:=advP p (s.data.toList.take n)
  if s1=⟨#[]⟩then .inr []else
  let kn:=kindL s1.data.toList
  if kn.2=0 then .inl p1 else
  match lexB k (s1.extract kn.2 s1.size) (advP p1 (s1.data.toList.take kn.2))with
  | .inl q=> .inl q
  | .inr ts=> .inr (⟨kn.1,s1.extract 0 kn.2,p1.1,p1.2⟩::ts)
def comb (acc:List S75):Sum (Nat×Nat) (List S75)→List S75×Int×Int×Int
 | .inl q=>([],90,q.1,q.2)
 | .inr ts=>(acc++ts,0,0,0)
def lexD (s:ByteArray):List S75×Int×Int×Int:=comb [] (lexB (s.size+1) s (1,1))
theorem kindL_le (l:List UInt8)(h:l≠[]):(kindL l).2≤l.length:=by
 have h1:1≤l.length:=by cases l with
  |nil=>exact absurd rfl h
  |cons _ _=>simp
 have h2:=z8 isLD l;have h3:=z8 isD l;unfold kindL;split
 ·split
  ·exact Nat.zero_le _
  ·exact h2
 ·split
  ·split
   ·exact Nat.zero_le _
   ·show numL l≤l.length
    unfold numL;split
    ·rename_i hh
     have h4:=ja l _ hh.2;have h5:=z8 isD (l.drop (runL isD l+1));rw[List.length_drop]at h5;omega
    ·exact h3
  ·split
   ·exact h1
   ·exact Nat.zero_le _
theorem kindL_le100 (l:List UInt8):(kindL l).2≤100∧(kindL l).1≤2:=by
 unfold kindL;repeat' split
 all_goals simp
 all_goals omega
theorem Scan.grown {b:Nat}{s:ByteArray}{p:Nat×Nat}{w w':World}{r:Option Nat}(h:Scan b s p w)(hg:w.grownBy w' r)(hb:b<w.heap.size)(hr:some b≠r):Scan b s p w':=(hg.block b hb hr).trans h
theorem Scan.lt {b:Nat}{s:ByteArray}{p:Nat×Nat}{w:World}(h:Scan b s p w):b<w.heap.size:=by
 unfold Scan at h;exact(xe h).1
theorem qU {base b:Nat}{w w1 w':World}(hb:Below base w w1)(hg:w1.grownBy w' (some b))(h:base≤b)(h2:base≤w.heap.size):Below base w w':=
 hb.trans ⟨hg.os,hg.tape,hg.output,hg.size,fun k hk=>hg.block k (Nat.lt_of_lt_of_le hk (Nat.le_trans h2 hb.size)) (fun e=>by injection e with e;omega)⟩
def left (b:Nat)(w:World):Nat:=match w.cell? ⟨b,0,none⟩with
 |some (.string s)=>s.size
 |_=>0
theorem left_of {b:Nat}{s:ByteArray}{p:Nat×Nat}{w:World}(h:Scan b s p w):left b w=s.size:=by
 unfold left;rw[h.s]
theorem comb_cons (acc:List S75)(t:S75)(r:Sum (Nat×Nat) (List S75)):comb acc (match r with| .inl q=> .inl q| .inr ts=> .inr (t::ts))=comb (acc++[t]) r:=by
 cases r<;>simp[comb]
theorem empty_not {s:ByteArray}(h:¬s=⟨#[]⟩):s.toList.isEmpty=false:=by
 have e:s.toList=s.data.toList:=ByteArray.toList_eq s;rw[e];cases hs:s.data.toList with
 |nil=>
  refine absurd ?_ h;cases s with
  |mk a=>cases a with
   |mk l=>exact congrArg (fun l=>(⟨⟨l⟩⟩:ByteArray)) hs
 |cons _ _=>rfl
theorem lex (s:ByteArray)(w:World)(hs:s.size≤20000):
 Calls Tryz.prog 18 #[.string s] w fun e w'=>∃v,e= .returned (.tuple #[v,.int .i64 (lexD s).2.1,.int .i64 (lexD s).2.2.1,.int .i64 (lexD s).2.2.2])∧Kd.R k75 75 w' w.heap.size (fun _=>True) v (lexD s).1∧Below w.heap.size w w':=by
 generalize hD:lexD s=D;have HD:=Lib.hid hD;clear hD;go_enter Tryz.func18,Tryz.ntmps18
 go_wp2;refine wp_scope_jumps 0 (fun a' w'=>∃(s1:ByteArray) (p:Nat×Nat) (acc:List S75) (k:Nat) (v u8 u9 u10 u11 u12 u13 u14 u15 u16 u17 u18 u19 u20 u21 u22 u23 u24 u25 u26 u27 u28 u29 u30 u31 u32 u33 u34 u35 u36 u37 u38 u39 u40 u41 u42 u43 u44 u45 u46 u47 u48 u49 u50 u51 u52 u53 u54:Value),a'={tmps:=#[.string s,undef,.slice none 0 0,.int .i64 0,.int .i64 0,.int .i64 0,.pointer (some ⟨w.heap.size,0,none⟩),v,u8,u9,u10,u11,u12,u13,u14,u15,u16,u17,u18,u19,u20,u21,u22,u23,u24,u25,u26,u27,u28,u29,u30,u31,u32,u33,u34,u35,u36,u37,u38,u39,u40,u41,u42,u43,u44,u45,u46,u47,u48,u49,u50,u51,u52,u53,u54],defers:=[]}∧zc (Scan w.heap.size s1 p w')∧zc (Kd.R k75 75 w' w.heap.size (fun k=>k≠w.heap.size) v acc)∧zc (Below w.heap.size w w')∧zc (comb acc (lexB k s1 p)=D∧s1.size<k)∧zc (s1.size≤20000∧1≤p.1∧1≤p.2∧p.1+s1.size≤100000∧p.2+s1.size≤100000∧acc.length+s1.size≤100000)) (fun _ w'=>left w.heap.size w') rfl ?_ ?_
 ·obtain⟨k,hk⟩:∃k,s.size+1=k:=⟨_,rfl⟩
  have HK:zc (comb [] (lexB k s (1,1))=D∧s.size<k):=⟨by rw[←hk];exact HD.out,by omega⟩
  have HN:zc (s.size≤20000∧1≤1∧1≤1∧1+s.size≤100000∧1+s.size≤100000∧([]:List S75).length+s.size≤100000):=⟨by simp;omega⟩
  clear hk;go_wp2_with fail;go_step3
  obtain⟨W,hW⟩:∃W,w.alloc (Obj.cells #[Value.string s,Value.complex FloatKind.f64 4607182418800017408 4607182418800017408] 70)=W:=⟨_,rfl⟩;have HS:zc (Scan w.heap.size s (1,1) W):=⟨by rw[←hW];unfold Scan;rw[one_bits];exact heap_alloc_new _ _⟩
  have HB:zc (Below w.heap.size w W):=⟨by rw[←hW];exact(xb _ _).alloc (xc _) _⟩
  have HV:zc (Kd.R k75 75 W w.heap.size (fun k=>k≠w.heap.size) (Value.slice none 0 0) []):=⟨Kd.R_nil _ _ _ _ _⟩
  rw[hW];clear hW;go_wp2_with fail;cases k with
  |zero=>exact absurd HK.out.2 (Nat.not_lt_zero _)
  |succ k=>
  have hlb:=z8 isB s.data.toList;obtain⟨n,hn⟩:∃n,runL isB s.data.toList=n:=⟨_,rfl⟩;have hlen:s.data.toList.length=s.size:=by simp
  rw[hn,hlen]at hlb;have hrun:=run 35 isB (fun c w h=>blank c w h) enters_blank w.heap.size s (1,1) 0 W HS.out (by have:=HN.out;omega) (by omega) (by omega)
  rw[Int.toNat_zero,List.drop_zero,hn]at hrun;have htake:=take w.heap.size s (1,1) n W HS.out (by have:=HN.out;omega) (by omega) (by omega) (by have:=HN.out;omega) (by have:=HN.out;omega) (by have:=HN.out;omega) (by have:=HN.out;omega)
  rw[xa]at htake;have hal:=advP_le (1,1) (s.data.toList.take n) HN.out.2.2.1;have htl:(s.data.toList.take n).length=n:=by simp;omega
  have hs2:(s.extract n s.size).size=s.size-n:=by simp
  rw[htl]at hal;have hL:lexB (k+1) s (1,1)=_:=lexB.eq_2 s (1,1) k;rw[hn]at hL;simp only[]at hL;generalize s.extract n s.size=s2 at*;generalize advP (1,1) (s.data.toList.take n)=q at*;rw[hL]at HK;have HP:=Lib.hid htake;have HR1:=Lib.hid hrun;clear htake hrun hL hlen hn;refine HR1.out.mono ?_;rintro e w1 ⟨rfl,rfl⟩;go_wp2_with fail;refine HP.out.mono ?_;rintro e w2 ⟨rfl,hsc,hgr⟩;have HV:=zc.mk (Kd.R_grown HV.out hgr (fun k hk e=>hk (by injection e)))
  have HS2:=zc.mk hsc;have HB2:=zc.mk (qU HB.out hgr (xc _) (xc _));have hN2:s2.size≤20000∧1≤q.1∧1≤q.2∧q.1+s2.size≤100000∧q.2+s2.size≤100000∧([]:List S75).length+s2.size≤100000∧s2.size<k+1:=by have h1:=HN.out;have h2:=HK.out.2;omega
  have HN2:=zc.mk hN2;have hM:s2.size≤s.size:=by omega
  have HM:=zc.mk hM;have hc0:=hsc.s;have hc1:=hsc.at;clear HP HR1 hgr hsc HB HN hN2 hM hlb hal htl hs2;by_cases e0:s2=⟨#[]⟩
  ·rw[if_pos e0]at HK
   subst e0;go_wp2_with fail;simp only[Exit.jump]
   (try simp only[Exit.inBlock,Exit.then])
   refine bodyPost_ret (results_tmp4 rfl _ _ _) rfl ?_;have hD2:comb ([]:List S75) (.inr [])=D:=HK.out.1;rw[←hD2];exact⟨_,rfl,by rw[comb,List.append_nil];exact Kd.R_mono HV.out (fun _ _=>trivial),HB2.out⟩
  ·rw[if_neg e0]at HK
   obtain⟨⟨kd,m⟩,hkm⟩:∃x,kindL s2.data.toList=x:=⟨_,rfl⟩;have hk:=kind w.heap.size s2 q w2 HS2.out (by have:=HN2.out;omega)
   have hat:=at_place q.1 q.2 w2 (by have:=HN2.out;omega) (by have:=HN2.out;omega) (by have:=HN2.out;omega) (by have:=HN2.out;omega)
   have ht:s2.toList.isEmpty=false:=empty_not e0;have hm1:m≤s2.size:=by
    have:=kindL_le s2.data.toList (fun h=>e0 (by
     cases s2 with
     |mk a=>cases a with
      |mk l=>exact congrArg (fun l=>(⟨⟨l⟩⟩:ByteArray)) h))
    rw[hkm]at this;simpa using this
   have hm2:m≤100:=by have:=(kindL_le100 s2.data.toList).1;rw[hkm]at this;exact this
   rw[hkm]at hk HK;simp only[]at hk HK;clear hkm e0;have HKD:=Lib.hid hk;have HAT:=Lib.hid hat;clear hk hat;go_wp2_with fail;refine HAT.out.mono ?_;rintro e w1 ⟨rfl,rfl⟩;go_wp2_with fail;refine HKD.out.mono ?_;rintro e w1 ⟨rfl,rfl⟩;clear HKD HAT;by_cases hm0:m=0
   ·subst hm0
    rw[if_pos rfl]at HK;go_wp2_with fail;simp only[Exit.jump]
    (try simp only[Exit.inBlock,Exit.then])
    refine bodyPost_ret (results_tmp4 rfl _ _ _) rfl ?_;have hD2:comb ([]:List S75) (.inl q)=D:=HK.out.1;rw[←hD2];exact⟨_,rfl,Kd.R_nil _ _ _ _ _,HB2.out⟩
   ·rw[if_neg hm0]at HK
    have hm3:((m:Int)==0)=false:=by rw[beq_eq_false_iff_ne];omega
    have htake:=take w.heap.size s2 q m w2 HS2.out (by have:=HN2.out;omega) (by omega) (by omega) (by have:=HN2.out;omega) (by have:=HN2.out;omega) (by have:=HN2.out;omega) (by have:=HN2.out;omega)
    rw[xa]at htake;have hal:=advP_le q (s2.data.toList.take m) HN2.out.2.2.1;have htl:(s2.data.toList.take m).length=m:=by simp;omega
    have hs3:(s2.extract m s2.size).size=s2.size-m:=by simp
    rw[htl]at hal;generalize s2.extract m s2.size=s3 at*;generalize advP q (s2.data.toList.take m)=q3 at*;generalize s2.extract 0 m=tx at*;have HT:=Lib.hid htake;clear htake ht hc0 hc1;go_wp2_with fail;refine HT.out.mono ?_;rintro e w3 ⟨rfl,hsc,hgr⟩;have HV3:=zc.mk (Kd.R_grown HV.out hgr (fun k hk e=>hk (by injection e)))
    have HS3:=zc.mk hsc;have HB3:=zc.mk (qU HB2.out hgr (xc _) (xc _));have hN3:s3.size≤20000∧1≤q3.1∧1≤q3.2∧q3.1+s3.size≤100000∧q3.2+s3.size≤100000∧([]:List S75).length+1+s3.size≤100000∧s3.size<k∧s3.size<s.size:=by have h1:=HN2.out;have h2:=HM.out;omega
    have HN3:=zc.mk hN3;have hacc:(([]:List S75).length+1)*40≤140737488355328:=by omega
    have hlt:=Scan.lt hsc;clear hN3 HN2 hgr hsc HT hal htl hs3 hm1 hm2 HV HS2;go_wp2_with(at_builtin;refine Kd.R_append k75 (w0:=w) w.heap.size rfl (.tmp 45) (.tmp 53) 44 75 (.agg #[(.int .i64 0),(.string ⟨#[]⟩),(.int .i64 0),(.int .i64 0)]) 40 rfl Tryz.underlying44 info75 rfl (by decide) (by omega) (Value.slice none 0 0) ([]:List S75) ⟨kd,tx,q.1,q.2⟩ [.int .i64 kd,.string tx,.int .i64 q.1,.int .i64 q.2] (fun k=>k≠w.heap.size) (fun _=>False) rfl rfl (k75_mkM _ _ _ ⟨kd,tx,q.1,q.2⟩) (fun _ hk=>hk.elim) ?aF ?aO ?aB ?aS ?aL ?_)
    case aF=>exact fun k hk=>by have:=hlt;omega
    case aO=>exact HV3.out
    case aB=>exact HB3.out
    case aS=>exact HB3.out.size
    case aL=>exact hacc
    intro v4 w4 hv4 hb4 hg4 ho4;go_wp2;go_step3
    rw[comb_cons]at HK;have hsc4:=Scan.grown HS3.out hg4 hlt (fun e=>HV3.out.1 _ e.symm rfl)
    exact⟨rfl,⟨s3,q3,([]:List S75)++[⟨kd,tx,q.1,q.2⟩],k,v4,_,_,_,_,_,_,_,_,_,_,_,_,_,_,_,_,_,_,_,_,_,_,_,_,_,_,_,_,_,_,_,_,_,_,_,_,_,_,_,_,_,_,_,_,_,_,_,rfl,⟨hsc4⟩,⟨hv4⟩,⟨hb4⟩,⟨HK.out.1,HN3.out.2.2.2.2.2.2.1⟩,⟨by have:=HN3.out;rw[List.length_append];simp only[List.length_cons,List.length_nil];omega⟩⟩⟩
 ·rintro a' W ⟨s1,p,acc,k,v,u8,u9,u10,u11,u12,u13,u14,u15,u16,u17,u18,u19,u20,u21,u22,u23,u24,u25,u26,u27,u28,u29,u30,u31,u32,u33,u34,u35,u36,u37,u38,u39,u40,u41,u42,u43,u44,u45,u46,u47,u48,u49,u50,u51,u52,u53,u54,rfl,HS,HV,HB,HK,HN⟩
  go_wp2_with fail;cases k with
  |zero=>exact absurd HK.out.2 (Nat.not_lt_zero _)
  |succ k=>
  have hlb:=z8 isB s1.data.toList;obtain⟨n,hn⟩:∃n,runL isB s1.data.toList=n:=⟨_,rfl⟩;have hlen:s1.data.toList.length=s1.size:=by simp
  rw[hn,hlen]at hlb;have hrun:=run 35 isB (fun c w h=>blank c w h) enters_blank w.heap.size s1 p 0 W HS.out (by have:=HN.out;omega) (by omega) (by omega)
  rw[Int.toNat_zero,List.drop_zero,hn]at hrun;have htake:=take w.heap.size s1 p n W HS.out (by have:=HN.out;omega) (by omega) (by omega) (by have:=HN.out;omega) (by have:=HN.out;omega) (by have:=HN.out;omega) (by have:=HN.out;omega)
  rw[xa]at htake;have hal:=advP_le p (s1.data.toList.take n) HN.out.2.2.1;have htl:(s1.data.toList.take n).length=n:=by simp;omega
  have hs2:(s1.extract n s1.size).size=s1.size-n:=by simp
  rw[htl]at hal;have hL:lexB (k+1) s1 p=_:=lexB.eq_2 s1 p k;rw[hn]at hL;simp only[]at hL;generalize s1.extract n s1.size=s2 at*;generalize advP p (s1.data.toList.take n)=q at*;rw[hL]at HK;have HP:=Lib.hid htake;have HR1:=Lib.hid hrun;clear htake hrun hL hlen hn;refine HR1.out.mono ?_;rintro e w1 ⟨rfl,rfl⟩;go_wp2_with fail;refine HP.out.mono ?_;rintro e w2 ⟨rfl,hsc,hgr⟩;have HV:=zc.mk (Kd.R_grown HV.out hgr (fun k hk e=>hk (by injection e)))
  have HS2:=zc.mk hsc;have HB2:=zc.mk (qU HB.out hgr (xc _) (xc _));have hN2:s2.size≤20000∧1≤q.1∧1≤q.2∧q.1+s2.size≤100000∧q.2+s2.size≤100000∧acc.length+s2.size≤100000∧s2.size<k+1:=by have h1:=HN.out;have h2:=HK.out.2;omega
  have HN2:=zc.mk hN2;have hM:s2.size≤s1.size:=by omega
  have HM:=zc.mk hM;have hc0:=hsc.s;have hc1:=hsc.at;clear HP HR1 hgr hsc HB HN hN2 hM hlb hal htl hs2;by_cases e0:s2=⟨#[]⟩
  ·rw[if_pos e0]at HK
   subst e0;go_wp2_with fail;simp only[Exit.jump]
   (try simp only[Exit.inBlock,Exit.then])
   refine bodyPost_ret (results_tmp4 rfl _ _ _) rfl ?_;have hD2:comb acc (.inr [])=D:=HK.out.1;rw[←hD2];exact⟨_,rfl,by rw[comb,List.append_nil];exact Kd.R_mono HV.out (fun _ _=>trivial),HB2.out⟩
  ·rw[if_neg e0]at HK
   obtain⟨⟨kd,m⟩,hkm⟩:∃x,kindL s2.data.toList=x:=⟨_,rfl⟩;have hk:=kind w.heap.size s2 q w2 HS2.out (by have:=HN2.out;omega)
   have hat:=at_place q.1 q.2 w2 (by have:=HN2.out;omega) (by have:=HN2.out;omega) (by have:=HN2.out;omega) (by have:=HN2.out;omega)
   have ht:s2.toList.isEmpty=false:=empty_not e0;have hm1:m≤s2.size:=by
    have:=kindL_le s2.data.toList (fun h=>e0 (by
     cases s2 with
     |mk a=>cases a with
      |mk l=>exact congrArg (fun l=>(⟨⟨l⟩⟩:ByteArray)) h))
    rw[hkm]at this;simpa using this
   have hm2:m≤100:=by have:=(kindL_le100 s2.data.toList).1;rw[hkm]at this;exact this
   rw[hkm]at hk HK;simp only[]at hk HK;clear hkm e0;have HKD:=Lib.hid hk;have HAT:=Lib.hid hat;clear hk hat;go_wp2_with fail;refine HAT.out.mono ?_;rintro e w1 ⟨rfl,rfl⟩;go_wp2_with fail;refine HKD.out.mono ?_;rintro e w1 ⟨rfl,rfl⟩;clear HKD HAT;by_cases hm0:m=0
   ·subst hm0
    rw[if_pos rfl]at HK;go_wp2_with fail;simp only[Exit.jump]
    (try simp only[Exit.inBlock,Exit.then])
    refine bodyPost_ret (results_tmp4 rfl _ _ _) rfl ?_;have hD2:comb acc (.inl q)=D:=HK.out.1;rw[←hD2];exact⟨_,rfl,Kd.R_nil _ _ _ _ _,HB2.out⟩
   ·rw[if_neg hm0]at HK
    have hm3:((m:Int)==0)=false:=by rw[beq_eq_false_iff_ne];omega
    have htake:=take w.heap.size s2 q m w2 HS2.out (by have:=HN2.out;omega) (by omega) (by omega) (by have:=HN2.out;omega) (by have:=HN2.out;omega) (by have:=HN2.out;omega) (by have:=HN2.out;omega)
    rw[xa]at htake;have hal:=advP_le q (s2.data.toList.take m) HN2.out.2.2.1;have htl:(s2.data.toList.take m).length=m:=by simp;omega
    have hs3:(s2.extract m s2.size).size=s2.size-m:=by simp
    rw[htl]at hal;generalize s2.extract m s2.size=s3 at*;generalize advP q (s2.data.toList.take m)=q3 at*;generalize s2.extract 0 m=tx at*;have HT:=Lib.hid htake;clear htake ht hc0 hc1;go_wp2_with fail;refine HT.out.mono ?_;rintro e w3 ⟨rfl,hsc,hgr⟩;have HV3:=zc.mk (Kd.R_grown HV.out hgr (fun k hk e=>hk (by injection e)))
    have HS3:=zc.mk hsc;have HB3:=zc.mk (qU HB2.out hgr (xc _) (xc _));have hN3:s3.size≤20000∧1≤q3.1∧1≤q3.2∧q3.1+s3.size≤100000∧q3.2+s3.size≤100000∧acc.length+1+s3.size≤100000∧s3.size<k∧s3.size<s1.size:=by have h1:=HN2.out;have h2:=HM.out;omega
    have HN3:=zc.mk hN3;have hacc:(acc.length+1)*40≤140737488355328:=by omega
    have hlt:=Scan.lt hsc;clear hN3 HN2 hgr hsc HT hal htl hs3 hm1 hm2 HV HS2;go_wp2_with(at_builtin;refine Kd.R_append k75 (w0:=w) w.heap.size rfl (.tmp 45) (.tmp 53) 44 75 (.agg #[(.int .i64 0),(.string ⟨#[]⟩),(.int .i64 0),(.int .i64 0)]) 40 rfl Tryz.underlying44 info75 rfl (by decide) (by omega) v acc ⟨kd,tx,q.1,q.2⟩ [.int .i64 kd,.string tx,.int .i64 q.1,.int .i64 q.2] (fun k=>k≠w.heap.size) (fun _=>False) rfl rfl (k75_mkM _ _ _ ⟨kd,tx,q.1,q.2⟩) (fun _ hk=>hk.elim) ?aF ?aO ?aB ?aS ?aL ?_)
    case aF=>exact fun k hk=>by have:=hlt;omega
    case aO=>exact HV3.out
    case aB=>exact HB3.out
    case aS=>exact HB3.out.size
    case aL=>exact hacc
    intro v4 w4 hv4 hb4 hg4 ho4;go_wp2;go_step3
    rw[comb_cons]at HK;have hsc4:=Scan.grown HS3.out hg4 hlt (fun e=>HV3.out.1 _ e.symm rfl)
    refine⟨rfl,⟨s3,q3,acc++[⟨kd,tx,q.1,q.2⟩],k,v4,_,_,_,_,_,_,_,_,_,_,_,_,_,_,_,_,_,_,_,_,_,_,_,_,_,_,_,_,_,_,_,_,_,_,_,_,_,_,_,_,_,_,_,_,_,_,_,rfl,⟨hsc4⟩,⟨hv4⟩,⟨hb4⟩,⟨HK.out.1,HN3.out.2.2.2.2.2.2.1⟩,⟨by have:=HN3.out;rw[List.length_append];simp only[List.length_cons,List.length_nil];omega⟩⟩,?_⟩
    show left _ _<left _ _
    rw[left_of hsc4,left_of HS.out];exact HN3.out.2.2.2.2.2.2.2
end Go.Proofs.YtjopepfemhckjaaGreatDoor.WW
end
