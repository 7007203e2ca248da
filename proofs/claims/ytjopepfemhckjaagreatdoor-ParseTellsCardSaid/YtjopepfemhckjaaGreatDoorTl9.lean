/-
  Part 9 of the proof of parseTells_holds: texts of this seat, put together.
-/
import Derived.Shelf.Strings.SlTrimAscii
import Derived.Test.YtjopepfemhckjaaGreatDoorTl8
set_option linter.unusedVariables false
set_option linter.unusedSimpArgs false
set_option maxHeartbeats 16000000
set_option maxRecDepth 100000
section
namespace Go.Proofs.YtjopepfemhckjaaGreatDoor.NW
open Go.Proofs Go.RowKit Go.Shelf Go.Proofs.YtjopepfemhckjaaGreatDoor.PN Go.Proofs.YtjopepfemhckjaaGreatDoorW.PrintWords Go.Proofs.YtjopepfemhckjaaGreatDoor.PParseTells
theorem q9 (M:Nat)(hD:zX M)(z:Int)(d:Nat)(hz:(intS z).size≤1000000)(hd:(natS d).size≤1000000)(h0:0<d)(hM:d<M)(w:World)(hg:Glob w):
 Calls Tryz.prog 152 #[ratV z d] w fun e w'=>e= .returned (.bool (decide (Nat.gcd z.natAbs d=1)))∧Below w.heap.size w w':=by
 have hza:=qR z hz;have H1:=fun W=>Lib.hid (wmay_at z hz W)
 have H2:=fun W=>Lib.hid (jS (natS d) hd W)
 rw[qd]at H2;have H3:=fun W=>Lib.hid (abs_at z hz W)
 have H4:=fun W h=>Lib.hid (natGcd_at M hD z.natAbs d hza hd hM W h)
 have hne:((natS d).toList==([48]:List UInt8))=false:=beq_eq_false_iff_ne.2 (one_ne_zero d (by omega))
 have hne2:((natS d).toList !=([48]:List UInt8))=true:=by rw[bne,hne];rfl
 have hne3:¬(natS d).toList=([48]:List UInt8):=one_ne_zero d (by omega)
 have hone:((natS (Nat.gcd z.natAbs d)).toList==([49]:List UInt8))=decide (Nat.gcd z.natAbs d=1):=by
  rw[Bool.eq_iff_iff,beq_iff_eq,decide_eq_true_eq,Lib.toList_data];constructor
  ·intro h
   exact(zh _).eq1.1 (z7 h)
  ·intro h
   rw[h];exact congrArg (fun s:ByteArray=>s.data.toList) ((zh 1).eq1.2 rfl)
 have HG:=zc.mk hg;unfold ratV;rw[←hone];generalize natS (Nat.gcd z.natAbs d)=gs at*;generalize natS z.natAbs=za at*;generalize natS d=ds at*;generalize intS z=zs at*;clear hone hza hz hd h0 hM hg hD;have k0:=j7 w (.cells #[.string zs,.string ds] 35);have B0:Below w.heap.size w (w.alloc (.cells #[.string zs,.string ds] 35)):=(xb _ w).alloc (xc _) _;go_enter Tryz.func152,Tryz.ntmps152
 go_wp2_with fail;generalize w.alloc (.cells #[.string zs,.string ds] 35)=w0 at*;have hSB:∀w':World,Below w0.heap.size w0 w'→w'.cell? ⟨w.heap.size,0,none⟩=some (.string zs)∧w'.cell? ⟨w.heap.size,1,none⟩=some (.string ds):=fun w' hb=>by
  have k:=(hb.block _ (xe k0).1).trans k0;exact⟨by rw[j6 k];rfl,by rw[j6 k];rfl⟩
 have HB:=zc.mk (xb w0.heap.size w0);have hGB:∀w':World,Below w0.heap.size w0 w'→Glob w':=fun w' hb=>HG.out.below (B0.trans (hb.mono B0.size))
 clear k0;go_region_held3 (fun w':World=>w'.cell? ⟨w.heap.size,0,none⟩=some (.string zs)∧w'.cell? ⟨w.heap.size,1,none⟩=some (.string ds)) (exact hSB _ bb) (first|(go_at_call 109;with_reducible refine(H1 _).out.mono ?_;rintro e w' ⟨rfl,hb⟩;have n0:=zc.mk (zi bb hb);clear HB hb;have HB:=n0;clear n0)|(go_at_call 144;with_reducible refine(H2 _).out.mono ?_;rintro e w' ⟨rfl,hb⟩;have n0:=zc.mk (zi bb hb);clear HB hb;have HB:=n0;clear n0)|(go_at_call 147;with_reducible refine(H3 _).out.mono ?_;rintro e w' ⟨rfl,hb⟩;have n0:=zc.mk (zi bb hb);clear HB hb;have HB:=n0;clear n0)|(go_at_call 146;with_reducible refine(H4 _ ?_).out.mono ?_;(exact hGB _ bb);rintro e w' ⟨rfl,hb⟩;have n0:=zc.mk (zi bb hb);clear HB hb;have HB:=n0;clear n0))
 go_wp2;go_ret;exact⟨rfl,B0.trans (HB.out.mono B0.size)⟩
theorem ratSign_at (M:Nat)(hD:zX M)(z:Int)(d:Nat)(hz:(intS z).size≤1000000)(hd:(natS d).size≤1000000)(h0:0<d)(hM:d<M)(hgcd:Nat.gcd z.natAbs d=1)(w:World)(hg:Glob w):
 Calls Tryz.prog 156 #[ratV z d] w fun e w'=>e= .returned (.int .i64 (sgn z))∧Below w.heap.size w w':=by
 have H1:=fun W h=>Lib.hid (q9 M hD z d hz hd h0 hM W h)
 have ht:decide (Nat.gcd z.natAbs d=1)=true:=decide_eq_true hgcd;rw[ht]at H1;have H2:=fun W=>Lib.hid (wsign_at z hz W)
 have HG:=zc.mk hg;unfold ratV at*;generalize natS d=ds at*;generalize intS z=zs at*;generalize sgn z=sg at*;clear hz hd h0 hM hg hD hgcd ht;have k0:=j7 w (.cells #[.string zs,.string ds] 35);have B0:Below w.heap.size w (w.alloc (.cells #[.string zs,.string ds] 35)):=(xb _ w).alloc (xc _) _;go_enter Tryz.func156,Tryz.ntmps156
 go_wp2_with fail;generalize w.alloc (.cells #[.string zs,.string ds] 35)=w0 at*;refine(H1 _ (HG.out.below B0)).out.mono ?_;rintro e w1 ⟨rfl,hb1⟩;have k1:=(hb1.block _ (xe k0).1).trans k0;have B1:=B0.trans (hb1.mono B0.size);have c1:w1.cell? ⟨w.heap.size,0,none⟩=some (.string zs):=by rw[j6 k1];rfl
 clear k0 B0 hb1 H1;go_wp2_with fail;refine(H2 _).out.mono ?_;rintro e w2 ⟨rfl,hb2⟩;have B2:=B1.trans (hb2.mono B1.size);go_wp2_with fail;go_ret;exact⟨rfl,B2⟩
theorem index_none (l:List UInt8)(c:UInt8)(h:c ∉ l):Lib.index l [c]= -1:=by
 induction l with
 |nil=>rfl
 |cons b l ih=>
  have h1:¬c=b:=fun e=>h (by rw[e];simp)
  have h2:=ih (fun hm=>h (by simp[hm]))
  unfold Lib.index;rw[h2];simp[h1]
theorem index_at (a b:List UInt8)(c:UInt8)(h:c ∉ a):Lib.index (a++c::b) [c]=a.length:=by
 induction a with
 |nil=>simp[Lib.index]
 |cons x a ih=>
  have h1:¬c=x:=fun e=>h (by rw[e];simp)
  have h2:=ih (fun hm=>h (by simp[hm]))
  rw[List.cons_append];unfold Lib.index;rw[h2];simp only[List.isPrefixOf,List.length_cons];have:(c==x)=false:=beq_eq_false_iff_ne.2 h1;have h3:((a.length:Int)== -1)=false:=beq_eq_false_iff_ne.2 (by omega)
  simp[h1,h3]
theorem cut_none (l:List UInt8)(c:UInt8)(h:c ∉ l):Lib.cut l [c]=(l,[],false):=by
 unfold Lib.cut;rw[index_none l c h,if_neg (by omega)]
theorem cut_at (a b:List UInt8)(c:UInt8)(h:c ∉ a):Lib.cut (a++c::b) [c]=(a,b,true):=by
 unfold Lib.cut;rw[index_at a b c h,if_pos (by omega)]
 simp
def isDig (l:List UInt8):Bool:= !l.isEmpty&&l.all (fun c=>decide (48≤c.toNat)&&decide (c.toNat≤57))
theorem jV (l:List UInt8)(h:allD l)(hn:l≠[]):isDig l=true:=by
 unfold isDig;simp only[Bool.and_eq_true,List.all_eq_true,decide_eq_true_eq,Bool.not_eq_true'];exact⟨by cases l with
  |nil=>exact absurd rfl hn
  |cons _ _=>rfl,h⟩
theorem tenset (c:UInt8):([48,49,50,51,52,53,54,55,56,57]:List UInt8).contains c=(decide (48≤c.toNat)&&decide (c.toNat≤57)):=by
 have key:∀n:Fin 256,([48,49,50,51,52,53,54,55,56,57]:List UInt8).contains (UInt8.ofNat n.val)=(decide (48≤(UInt8.ofNat n.val).toNat)&&decide ((UInt8.ofNat n.val).toNat≤57)):=by decide+kernel
 have h:=key ⟨c.toNat,c.toNat_lt⟩;simpa using h
theorem dropWhile_nil {p:UInt8→Bool}{l:List UInt8}:l.dropWhile p=[]↔∀x∈l,p x=true:=by
 induction l with
 |nil=>simp
 |cons a l ih=>
  rw[List.dropWhile_cons];cases h:p a with
  |true=>simp[h,ih]
  |false=>simp[h]
theorem trimS_nil (l:List UInt8):(Lib.trimS l [48,49,50,51,52,53,54,55,56,57]=[])↔l.all (fun c=>decide (48≤c.toNat)&&decide (c.toNat≤57))=true:=by
 unfold Lib.trimS Lib.trimLeftS Lib.trimRightS;simp only[tenset];generalize (fun c:UInt8=>decide (48≤c.toNat)&&decide (c.toNat≤57))=p
 rw[List.all_eq_true];constructor
 ·intro h
  rw[dropWhile_nil]at h;have h2:∀x∈l.reverse,p x=true:=by
   have hd:l.reverse.dropWhile p=[]:=by
    cases hc:l.reverse.dropWhile p with
    |nil=>rfl
    |cons y r=>
     have h3:p y=true:=h y (by rw[hc];simp)
     have h4:=List.head?_dropWhile_not p l.reverse;rw[hc]at h4;simp[h3]at h4
   exact dropWhile_nil.1 hd
  intro x hx;exact h2 x (List.mem_reverse.2 hx)
 ·intro h
  rw[dropWhile_nil];intro x hx;exact h x (List.mem_reverse.1 ((List.dropWhile_sublist p).subset (List.mem_reverse.1 hx)))
theorem qK (s:ByteArray)(hs:s.size≤1000000)(w:World):
 Calls Tryz.prog 68 #[.string s] w fun e w'=>e= .returned (.bool (isDig s.data.toList))∧Below w.heap.size w w':=by
 have HT:=fun W=>Lib.hid (Any.strings_Trim_laid Tryz.lays160 (by kernel_rfl) s ⟨#[48,49,50,51,52,53,54,55,56,57]⟩ W (by omega) (by decide) (ascii_of_all (by decide)))
 by_cases h0:s.data.toList=[]
 ·have e:s=⟨#[]⟩:=z7 h0
  subst e;clear HT;go_enter Tryz.func68,Tryz.ntmps68
  go_wp2_with fail;go_ret;exact⟨rfl,xb _ _⟩
 ·have hne:(s.toList !=([]:List UInt8))=true:=by
   rw[Lib.toList_data];simpa using h0
  have hne2:¬s.toList=([]:List UInt8):=by rw[Lib.toList_data];exact h0
  have hres:isDig s.data.toList=((⟨(Lib.trimS s.data.toList [48,49,50,51,52,53,54,55,56,57]).toArray⟩:ByteArray).toList==([]:List UInt8)):=by
   rw[Lib.toList_data,Bool.eq_iff_iff,beq_iff_eq];have e1:(⟨(Lib.trimS s.data.toList [48,49,50,51,52,53,54,55,56,57]).toArray⟩:ByteArray).data.toList=Lib.trimS s.data.toList [48,49,50,51,52,53,54,55,56,57]:=by simp
   rw[e1,trimS_nil];unfold isDig;rw[Bool.and_eq_true];constructor
   ·exact fun h=>h.2
   ·intro h
    refine⟨?_,h⟩;cases hl:s.data.toList with
    |nil=>exact absurd hl h0
    |cons _ _=>rfl
  rw[hres];have e2:(⟨#[48,49,50,51,52,53,54,55,56,57]⟩:xf).data.toList=[48,49,50,51,52,53,54,55,56,57]:=rfl;rw[e2]at HT;generalize (⟨(Lib.trimS s.data.toList [48,49,50,51,52,53,54,55,56,57]).toArray⟩:ByteArray)=r at*;clear hres e2 h0;go_enter Tryz.func68,Tryz.ntmps68
  go_wp2_with fail;refine(HT _).out.mono ?_;rintro e w1 ⟨rfl,hb1⟩;go_wp2_with fail;go_ret;have he:s.toList.isEmpty=false:=by cases hl:s.toList with
   |nil=>exact absurd hl hne2
   |cons _ _=>rfl
  exact⟨by simp[he],hb1⟩
theorem pow_isN (n:Nat):IsN ((⟨#[49]⟩:xf)++⟨(List.replicate n 48).toArray⟩) (10^n):=by
 have hl:((⟨#[49]⟩:xf)++⟨(List.replicate n 48).toArray⟩).data.toList=49::List.replicate n 48:=by rw[ByteArray.data_append];simp
 unfold IsN;rw[hl];have hz:dv (List.replicate n 48)=0:=by
  have:=dv_zeros n [];rw[List.append_nil]at this;exact this
 refine⟨⟨by simp,?_,fun h=>by simp at h⟩,?_⟩
 ·intro c hc
  rcases List.mem_cons.1 hc with rfl|h
  ·exact⟨by decide,by decide⟩
  ·rw[List.eq_of_mem_replicate h]
   exact⟨by decide,by decide⟩
 ·rw[z6,hz,List.length_replicate]
  simp
theorem power_at (n:Nat)(hn:n≤1000000)(w:World):
 Calls Tryz.prog 69 #[.int .i64 (n:Int)] w fun e w'=>e= .returned (.string (natS (10^n)))∧Below w.heap.size w w':=by
 have HT:=fun W=>Lib.hid (Tryz.strings_Repeat ⟨#[48]⟩ n W (by omega) (by rw[show(⟨#[48]⟩:xf).size=1 from rfl,Nat.one_mul];omega))
 rw[js]at HT;rw[←(pow_isN n).eq];have hsz:(⟨(List.replicate n (48:UInt8)).toArray⟩:ByteArray).size=n:=by
  show(List.replicate n (48:UInt8)).toArray.size=n
  simp
 generalize (⟨(List.replicate n (48:UInt8)).toArray⟩:ByteArray)=r at*;have hlt:¬9223372036854775807<1+r.size:=by omega
 have hlt2:¬9223372036854775807<(⟨#[49]⟩:xf).size+r.size:=by rw[show(⟨#[49]⟩:xf).size=1 from rfl];exact hlt
 go_enter Tryz.func69,Tryz.ntmps69
 go_wp2_with fail;refine(HT _).out.mono ?_;rintro e w1 ⟨rfl,hb1⟩;go_wp2_with fail;go_ret;exact⟨rfl,hb1⟩
theorem trimLeft0 (l:List UInt8)(h:allD l):Lib.trimLeftB l 48=(if dv l=0 then[]else Lib.decDigits (dv l)):=by
 unfold Lib.trimLeftB;induction l with
 |nil=>rfl
 |cons c l ih=>
  have hc:=h c (by simp)
  have hl:allD l:=fun d hd=>h d (by simp[hd])
  rw[List.dropWhile_cons];by_cases h48:c=48
  ·subst h48
   rw[if_pos (by rfl),ih hl,z6]
   simp
  ·have h0:dv (c::l)≠0:=by
    have hcn:c.toNat≠48:=fun e=>h48 (u8_ext e)
    have:=dv_ge c l (by omega)
    have hp:0<10^l.length:=Nat.pow_pos (by omega)
    omega
   rw[if_neg (by simp[h48]),if_neg h0]
   exact okN.inj ⟨by simp,h,fun e=>by simp at e;exact absurd e h48⟩ (dec_okN _) (zF _).2.1.symm
theorem plain_at (s:ByteArray)(hd:allD s.data.toList)(w:World):
 Calls Tryz.prog 70 #[.string s] w fun e w'=>e= .returned (.string (natS (dv s.data.toList)))∧Below w.heap.size w w':=by
 have HT:=fun W=>Lib.hid (Tryz.strings_TrimLeft_one s 48 (by decide) W)
 rw[trimLeft0 _ hd]at HT;obtain⟨n,hn⟩:∃n,dv s.data.toList=n:=⟨_,rfl⟩;rw[hn]at HT ⊢;clear hd hn;by_cases h0:n=0
 ·subst h0
  rw[if_pos rfl]at HT;have e0:natS 0=(⟨#[48]⟩:xf):=(zh 0).eq0.2 rfl;rw[e0];go_enter Tryz.func70,Tryz.ntmps70
  go_wp2_with fail;refine(HT _).out.mono ?_;rintro e w1 ⟨rfl,rfl⟩;go_wp2_with fail;go_ret;exact⟨rfl,xb _ _⟩
 ·rw[if_neg h0]at HT
  have hne:¬(natS n).toList=([]:List UInt8):=by rw[Lib.toList_data,zq];exact(zF n).2.2.1
  have hne2:((natS n).toList !=([]:List UInt8))=true:=by simpa using hne
  have he:(natS n).toList.isEmpty=false:=by cases hl:(natS n).toList with
   |nil=>exact absurd hl hne
   |cons _ _=>rfl
  have hr:(⟨(Lib.decDigits n).toArray⟩:ByteArray)=natS n:=rfl;rw[hr]at HT;generalize natS n=r at*;clear hr;go_enter Tryz.func70,Tryz.ntmps70
  go_wp2_with fail;refine(HT _).out.mono ?_;rintro e w1 ⟨rfl,rfl⟩;go_wp2_with fail;go_ret;exact⟨rfl,xb _ _⟩
theorem mkB (s:ByteArray):(⟨s.data.toList.toArray⟩:ByteArray)=s:=z7 (by simp)
theorem cutp_at (s:ByteArray)(h:s.data.toList.head?≠some 45)(w:World):
 Calls Tryz.prog 66 #[.string s,.string ⟨#[45]⟩] w fun e w'=>e= .returned (.tuple #[.string s,.bool false])∧w'=w:=by
 have hT:=Tryz.strings_CutPrefix s ⟨#[45]⟩ w;have hp:Lib.hasPrefix s.data.toList [45]=false:=by
  cases hl:s.data.toList with
  |nil=>rfl
  |cons c r=>
   have hc:¬c=45:=fun e=>h (by rw[hl,e];rfl)
   show(45==c&&true)=false
   rw[Bool.and_true,beq_eq_false_iff_ne];exact fun e=>hc e.symm
 have ht:Lib.trimPrefix s.data.toList [45]=s.data.toList:=by
  unfold Lib.trimPrefix;rw[hp];rfl
 have e45:(⟨#[45]⟩:xf).data.toList=[45]:=rfl;rw[e45,hp,ht,mkB]at hT;exact hT
theorem cutno_at (s:ByteArray)(c:UInt8)(h:c ∉ s.data.toList)(hs:s.size≤1000000)(w:World)(hg:Glob w):
 Calls Tryz.prog 67 #[.string s,.string ⟨#[c]⟩] w fun e w'=>e= .returned (.tuple #[.string s,.string ⟨#[]⟩,.bool false])∧Below w.heap.size w w':=by
 obtain⟨m,hm⟩:=hg.2;refine(Tryz.strings_Cut s ⟨#[c]⟩ m w (by omega) hm).mono ?_
 have e1:(⟨#[c]⟩:ByteArray).data.toList=[c]:=rfl;rw[e1,cut_none _ _ h];rintro e w' ⟨rfl,k,rfl⟩;refine⟨?_,ze (xb _ _) k⟩;rw[mkB]
theorem cutat_at (a b:List UInt8)(c:UInt8)(h:c ∉ a)(hs:a.length+b.length≤100000)(w:World)(hg:Glob w):
 Calls Tryz.prog 67 #[.string ⟨(a++c::b).toArray⟩,.string ⟨#[c]⟩] w fun e w'=>e= .returned (.tuple #[.string ⟨a.toArray⟩,.string ⟨b.toArray⟩,.bool true])∧Below w.heap.size w w':=by
 obtain⟨m,hm⟩:=hg.2;refine(Tryz.strings_Cut ⟨(a++c::b).toArray⟩ ⟨#[c]⟩ m w (by show(a++c::b).toArray.size<_;simp;omega) hm).mono ?_
 have e1:(⟨#[c]⟩:ByteArray).data.toList=[c]:=rfl;have e2:(⟨(a++c::b).toArray⟩:ByteArray).data.toList=a++c::b:=by simp
 rw[e1,e2,cut_at _ _ _ h];rintro e w' ⟨rfl,k,rfl⟩;exact⟨rfl,ze (xb _ _) k⟩
theorem j4 (l:List UInt8)(h:allD l)(c:UInt8)(hc:c.toNat<48):c ∉ l:=fun hm=>by have:=h c hm;omega
theorem decInt_at (M:Nat)(hD:zX M)(hM:1<M)(s:ByteArray)(hd:allD s.data.toList)(hn:s.data.toList≠[])(hs:s.size≤1000)(w:World)(hg:Glob w):
 Calls Tryz.prog 40 #[.string s] w fun e w'=>e= .returned (.tuple #[ratV (rnum (dv s.data.toList:Int) 1) (rden (dv s.data.toList:Int) 1),.int .i64 0])∧Below w.heap.size w w':=by
 have hl:s.data.toList.length=s.size:=rfl;obtain⟨n,hnn⟩:∃n,dv s.data.toList=n:=⟨_,rfl⟩;have hns:(natS n).size≤1000000:=by
  have h1:=qt _ hd;rw[hnn,hl]at h1;have h2:=zH n s.size h1 (by rw[←hl];exact List.length_pos_iff.2 hn)
  have e1:(natS n).size=(Lib.decDigits n).length:=by show(natS n).data.toList.length=_;rw[zq]
  omega
 have hns2:(intS (n:Int)).size≤1000000:=by rw[zo];exact hns
 have hone:natS 1=(⟨#[49]⟩:xf):=(zh 1).eq1.2 rfl;have h1s:(natS 1).size≤1000000:=by rw[hone];decide
 have HC:=fun W=>Lib.hid (cutp_at s (by
  cases hl:s.data.toList with
  |nil=>simp
  |cons c r=>
   have:=hd c (by rw[hl];simp)
   intro e;injection e with e;subst e;exact absurd this.1 (by decide)) W)
 have HS:=fun W h=>Lib.hid (cutno_at s 47 (j4 _ hd 47 (by decide)) (by omega) W h)
 have HP:=fun W h=>Lib.hid (cutno_at s 46 (j4 _ hd 46 (by decide)) (by omega) W h)
 have HD1:=fun W=>Lib.hid (qK s (by omega) W)
 rw[jV _ hd hn]at HD1;have HD2:=fun W=>Lib.hid (qK ⟨#[49]⟩ (by decide) W)
 have hd49:isDig (⟨#[49]⟩:xf).data.toList=true:=by decide
 rw[hd49]at HD2;have HP1:=fun W=>Lib.hid (plain_at s hd W)
 rw[hnn]at HP1;have HP2:=fun W=>Lib.hid (plain_at ⟨#[49]⟩ (by intro c hc;simp at hc;subst hc;exact⟨by decide,by decide⟩) W)
 have hv49:dv (⟨#[49]⟩:xf).data.toList=1:=rfl;rw[hv49]at HP2;have HM:=fun W h=>Lib.hid (make_at M hD (n:Int) 1 hns2 h1s (by omega) hM W h)
 rw[zo]at HM;rw[hnn];have HG:=zc.mk hg;unfold ratV at*;have hsz:¬(1000:Int)<(s.size:Int):=by omega
 generalize natS (rden (n:Int) 1)=rd' at*;generalize intS (rnum (n:Int) 1)=rn' at*;generalize natS n=ns at*;generalize natS 1=os at*;clear hns hns2 hone h1s hd49 hv49 hnn hD hM hg hd hn hl;have k0:=j7 w (.cells #[.string ⟨#[]⟩,.string ⟨#[]⟩] 35);have B0:Below w.heap.size w (w.alloc (.cells #[.string ⟨#[]⟩,.string ⟨#[]⟩] 35)):=(xb _ w).alloc (xc _) _;go_enter Tryz.func40,Tryz.ntmps40
 go_wp2_with fail;generalize w.alloc (.cells #[.string ⟨#[]⟩,.string ⟨#[]⟩] 35)=w0 at*;refine(HC _).out.mono ?_;rintro e w1 ⟨rfl,rfl⟩;go_wp2_with fail;refine(HS _ (HG.out.below B0)).out.mono ?_;rintro e w2 ⟨rfl,hb2⟩;have k2:=(hb2.block _ (xe k0).1).trans k0;have B2:=B0.trans (hb2.mono B0.size);clear k0 B0 hb2;go_wp2_with fail;refine(HP _ (HG.out.below B2)).out.mono ?_;rintro e w3 ⟨rfl,hb3⟩;have k3:=(hb3.block _ (xe k2).1).trans k2;have B3:=B2.trans (hb3.mono B2.size);clear k2 B2 hb3;go_wp2_with fail;refine(HD1 _).out.mono ?_;rintro e w4 ⟨rfl,hb4⟩;have k4:=(hb4.block _ (xe k3).1).trans k3;have B4:=B3.trans (hb4.mono B3.size);clear k3 B3 hb4;go_wp2_with fail;refine(HD2 _).out.mono ?_;rintro e w5 ⟨rfl,hb5⟩;have k5:=(hb5.block _ (xe k4).1).trans k4;have B5:=B4.trans (hb5.mono B4.size);clear k4 B4 hb5;go_wp2_with fail;refine(HP1 _).out.mono ?_;rintro e w6 ⟨rfl,hb6⟩;have k6:=(hb6.block _ (xe k5).1).trans k5;have B6:=B5.trans (hb6.mono B5.size);clear k5 B5 hb6;go_wp2_with fail;refine(HP2 _).out.mono ?_;rintro e w7 ⟨rfl,hb7⟩;have k7:=(hb7.block _ (xe k6).1).trans k6;have B7:=B6.trans (hb7.mono B6.size);clear k6 B6 hb7;go_wp2_with fail;refine(HM _ (HG.out.below B7)).out.mono ?_;rintro e w8 ⟨rfl,hb8⟩;have k8:=(hb8.block _ (xe k7).1).trans k7;have B8:=B7.trans (hb8.mono B7.size);clear k7 B7 hb8 HC HS HP HD1 HD2 HP1 HP2 HM;have k9:=(Lib.alloc_old w8 (.cells #[.string rn',.string rd'] 35) _ (xe k8).1).trans k8;have l9:=j7 w8 (.cells #[.string rn',.string rd'] 35);have B9:Below w.heap.size w (w8.alloc (.cells #[.string rn',.string rd'] 35)):=B8.alloc B8.size _;have c1:=j6 k9 0;have c2:=j6 k9 1;have f1:=Lib.frozen_of_heap k9 0;have f2:=Lib.frozen_of_heap k9 1;have c3:=j6 l9 0;have c4:=j6 l9 1;simp only[show∀(x y:Value),(#[x,y]:Array Value)[1]? =some y from fun _ _=>rfl,show∀(x y:Value),(#[x,y]:Array Value)[0]? =some x from fun _ _=>rfl]at c1 c2 c3 c4
 go_wp2_with fail;obtain⟨r1,r2⟩:=put2 k9 (.string rn') (.string rd');refine bodyPost_ret (v:= .tuple #[.agg #[.string rn',.string rd'],.int .i64 0]) ?_ rfl ⟨rfl,(B9.setCell (by simp) _).setCell (by simp) _⟩
 simp[results,Tryz.f40,go_sem,r1,r2]
theorem decFrac_at (M:Nat)(hD:zX M)(a b:List UInt8)(hM:10^b.length<M)(ha:allD a)(hb:allD b)(hna:a≠[])(hnb:b≠[])(hs:a.length+b.length≤900)(w:World)(hg:Glob w):
 Calls Tryz.prog 40 #[.string ⟨(a++46::b).toArray⟩] w fun e w'=>e= .returned (.tuple #[ratV (rnum (dv (a++b):Int) (10^b.length)) (rden (dv (a++b):Int) (10^b.length)),.int .i64 0])∧Below w.heap.size w w':=by
 have hab:allD (a++b):=fun c hc=>by
  rcases List.mem_append.1 hc with h|h
  ·exact ha c h
  ·exact hb c h
 have hlen:(a++b).length≤900:=by rw[List.length_append];omega
 have hpa:=List.length_pos_iff.2 hna;obtain⟨n,hnn⟩:∃n,dv (a++b)=n:=⟨_,rfl⟩;have hns:(natS n).size≤1000000:=by
  have h1:=qt _ hab;rw[hnn]at h1;have h2:=zH n _ h1 (by rw[List.length_append];omega)
  have e1:(natS n).size=(Lib.decDigits n).length:=by show(natS n).data.toList.length=_;rw[zq]
  omega
 have hns2:(intS (n:Int)).size≤1000000:=by rw[zo];exact hns
 have hpl:(natS (10^b.length)).data.toList=49::List.replicate b.length 48:=by
  rw[←(pow_isN b.length).eq,ByteArray.data_append];simp
 have h1s:(natS (10^b.length)).size≤1000000:=by
  show(natS (10^b.length)).data.toList.length≤_
  rw[hpl];simp;omega
 have hpd:allD (natS (10^b.length)).data.toList:=(zh _).1.dig;have hpn:(natS (10^b.length)).data.toList≠[]:=(zh _).1.ne;have hsl:(⟨(a++46::b).toArray⟩:ByteArray).data.toList=a++46::b:=by simp
 have hal:(⟨a.toArray⟩:ByteArray).data.toList=a:=by simp
 have hbl:(⟨b.toArray⟩:ByteArray).data.toList=b:=by simp
 have habl:((⟨a.toArray⟩:ByteArray)++⟨b.toArray⟩).data.toList=a++b:=by rw[ByteArray.data_append];simp
 have hasz:(⟨a.toArray⟩:ByteArray).size=a.length:=by show a.toArray.size=_;simp
 have hbsz:(⟨b.toArray⟩:ByteArray).size=b.length:=by show b.toArray.size=_;simp
 have hssz:(⟨(a++46::b).toArray⟩:ByteArray).size=a.length+b.length+1:=by show(a++46::b).toArray.size=_;simp;omega
 have HC:=fun W=>Lib.hid (cutp_at ⟨(a++46::b).toArray⟩ (by
  rw[hsl];cases a with
  |nil=>exact absurd rfl hna
  |cons c r=>
   have:=ha c (by simp)
   intro e;injection e with e;subst e;exact absurd this.1 (by decide)) W)
 have HS:=fun W h=>Lib.hid (cutno_at ⟨(a++46::b).toArray⟩ 47 (by
  rw[hsl,List.mem_append,List.mem_cons];rintro(h|h|h)
  ·exact j4 _ ha 47 (by decide) h
  ·exact absurd h (by decide)
  ·exact j4 _ hb 47 (by decide) h) (by omega) W h)
 have HP:=fun W h=>Lib.hid (cutat_at a b 46 (j4 _ ha 46 (by decide)) (by omega) W h)
 have HA1:=fun W=>Lib.hid (qK ⟨a.toArray⟩ (by omega) W)
 rw[hal,jV _ ha hna]at HA1;have HA2:=fun W=>Lib.hid (qK ⟨b.toArray⟩ (by omega) W)
 rw[hbl,jV _ hb hnb]at HA2;have HPW:=fun W=>Lib.hid (power_at b.length (by omega) W)
 have HD1:=fun W=>Lib.hid (qK ((⟨a.toArray⟩:ByteArray)++⟨b.toArray⟩) (by rw[j8];omega) W)
 rw[habl,jV _ hab (by intro e;rw[e]at hlen;exact hna (List.append_eq_nil_iff.1 e).1)]at HD1
 have HD2:=fun W=>Lib.hid (qK (natS (10^b.length)) h1s W)
 rw[jV _ hpd hpn]at HD2;have HP1:=fun W=>Lib.hid (plain_at ((⟨a.toArray⟩:ByteArray)++⟨b.toArray⟩) (by rw[habl];exact hab) W)
 rw[habl,hnn]at HP1;have HP2:=fun W=>Lib.hid (plain_at (natS (10^b.length)) hpd W)
 rw[(zh (10^b.length)).2]at HP2;have HM:=fun W h=>Lib.hid (make_at M hD (n:Int) (10^b.length) hns2 h1s (Nat.pow_pos (by omega)) hM W h)
 rw[zo]at HM;rw[hnn];have HG:=zc.mk hg;unfold ratV at*;have hsz:¬(1000:Int)<((a.length+b.length+1:Nat):Int):=by omega
 have hov:¬9223372036854775807<(⟨a.toArray⟩:ByteArray).size+(⟨b.toArray⟩:ByteArray).size:=by omega
 generalize natS (rden (n:Int) (10^b.length))=rd' at*;generalize intS (rnum (n:Int) (10^b.length))=rn' at*;generalize natS n=ns at*;generalize natS (10^b.length)=os at*;clear hns hns2 h1s hnn hD hM hg hpl hpd hpn hsl hal hbl habl hab hlen hpa hs ha hb hna hnb;generalize (⟨(a++46::b).toArray⟩:ByteArray)=s at*;generalize (⟨a.toArray⟩:ByteArray)=sa at*;generalize (⟨b.toArray⟩:ByteArray)=sb at*;have k0:=j7 w (.cells #[.string ⟨#[]⟩,.string ⟨#[]⟩] 35);have B0:Below w.heap.size w (w.alloc (.cells #[.string ⟨#[]⟩,.string ⟨#[]⟩] 35)):=(xb _ w).alloc (xc _) _;go_enter Tryz.func40,Tryz.ntmps40
 go_wp2_with fail;generalize w.alloc (.cells #[.string ⟨#[]⟩,.string ⟨#[]⟩] 35)=w0 at*;refine(HC _).out.mono ?_;rintro e w1 ⟨rfl,rfl⟩;go_wp2_with fail;refine(HS _ (HG.out.below B0)).out.mono ?_;rintro e w2 ⟨rfl,hb2⟩;have k2:=(hb2.block _ (xe k0).1).trans k0;have B2:=B0.trans (hb2.mono B0.size);clear k0 B0 hb2;go_wp2_with fail;refine(HP _ (HG.out.below B2)).out.mono ?_;rintro e w3 ⟨rfl,hb3⟩;have k3:=(hb3.block _ (xe k2).1).trans k2;have B3:=B2.trans (hb3.mono B2.size);clear k2 B2 hb3;go_wp2_with fail;refine(HA1 _).out.mono ?_;rintro e wHA1' ⟨rfl,hbHA1'⟩;have kHA1':=(hbHA1'.block _ (xe k3).1).trans k3;have BHA1':=B3.trans (hbHA1'.mono B3.size);clear k3 B3 hbHA1';go_wp2_with fail;refine(HA2 _).out.mono ?_;rintro e wHA2' ⟨rfl,hbHA2'⟩;have kHA2':=(hbHA2'.block _ (xe kHA1').1).trans kHA1';have BHA2':=BHA1'.trans (hbHA2'.mono BHA1'.size);clear kHA1' BHA1' hbHA2';go_wp2_with fail;refine(HPW _).out.mono ?_;rintro e wHPW' ⟨rfl,hbHPW'⟩;have kHPW':=(hbHPW'.block _ (xe kHA2').1).trans kHA2';have BHPW':=BHA2'.trans (hbHPW'.mono BHA2'.size);clear kHA2' BHA2' hbHPW';go_wp2_with fail;generalize sa++sb=sab at*;refine(HD1 _).out.mono ?_;rintro e w4 ⟨rfl,hb4⟩;have k4:=(hb4.block _ (xe kHPW').1).trans kHPW';have B4:=BHPW'.trans (hb4.mono BHPW'.size);clear kHPW' BHPW' hb4;go_wp2_with fail;refine(HD2 _).out.mono ?_;rintro e w5 ⟨rfl,hb5⟩;have k5:=(hb5.block _ (xe k4).1).trans k4;have B5:=B4.trans (hb5.mono B4.size);clear k4 B4 hb5;go_wp2_with fail;refine(HP1 _).out.mono ?_;rintro e w6 ⟨rfl,hb6⟩;have k6:=(hb6.block _ (xe k5).1).trans k5;have B6:=B5.trans (hb6.mono B5.size);clear k5 B5 hb6;go_wp2_with fail;refine(HP2 _).out.mono ?_;rintro e w7 ⟨rfl,hb7⟩;have k7:=(hb7.block _ (xe k6).1).trans k6;have B7:=B6.trans (hb7.mono B6.size);clear k6 B6 hb7;go_wp2_with fail;refine(HM _ (HG.out.below B7)).out.mono ?_;rintro e w8 ⟨rfl,hb8⟩;have k8:=(hb8.block _ (xe k7).1).trans k7;have B8:=B7.trans (hb8.mono B7.size);clear k7 B7 hb8 HC HS HP HA1 HA2 HPW HD1 HD2 HP1 HP2 HM;have k9:=(Lib.alloc_old w8 (.cells #[.string rn',.string rd'] 35) _ (xe k8).1).trans k8;have l9:=j7 w8 (.cells #[.string rn',.string rd'] 35);have B9:Below w.heap.size w (w8.alloc (.cells #[.string rn',.string rd'] 35)):=B8.alloc B8.size _;have c1:=j6 k9 0;have c2:=j6 k9 1;have f1:=Lib.frozen_of_heap k9 0;have f2:=Lib.frozen_of_heap k9 1;have c3:=j6 l9 0;have c4:=j6 l9 1;simp only[show∀(x y:Value),(#[x,y]:Array Value)[1]? =some y from fun _ _=>rfl,show∀(x y:Value),(#[x,y]:Array Value)[0]? =some x from fun _ _=>rfl]at c1 c2 c3 c4
 go_wp2_with fail;obtain⟨r1,r2⟩:=put2 k9 (.string rn') (.string rd');refine bodyPost_ret (v:= .tuple #[.agg #[.string rn',.string rd'],.int .i64 0]) ?_ rfl ⟨rfl,(B9.setCell (by simp) _).setCell (by simp) _⟩
 simp[results,Tryz.f40,go_sem,r1,r2]
end Go.Proofs.YtjopepfemhckjaaGreatDoor.NW
end
