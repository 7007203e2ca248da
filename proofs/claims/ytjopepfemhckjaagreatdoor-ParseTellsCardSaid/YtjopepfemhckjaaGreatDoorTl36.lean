/-
  Part 36 of the proof of parseTells_holds: texts of this seat, put together.
-/
import Derived.Test.YtjopepfemhckjaaGreatDoorTl35
set_option linter.unusedVariables false
set_option linter.unusedSimpArgs false
set_option maxHeartbeats 16000000
set_option maxRecDepth 100000
section
namespace Go.Proofs.YtjopepfemhckjaaGreatDoor.NW
open Go.Proofs Go.RowKit Go.Shelf Go.Proofs.YtjopepfemhckjaaGreatDoor.PN Go.Proofs.YtjopepfemhckjaaGreatDoorW.PrintWords Go.Proofs.YtjopepfemhckjaaGreatDoor.WP Go.Proofs.YtjopepfemhckjaaGreatDoor.WW
theorem lrun_at (p:Nat→Bool)(s:ByteArray)(n:Nat)(h:n<s.size):runL p (s.data.toList.drop n)=if p (s[n]'h).toNat=true then runL p (s.data.toList.drop (n+1))+1 else 0:=by
 have h':n<s.data.toList.length:=by rw[zv];exact h
 rw[List.drop_eq_getElem_cons h',ba_at s n h];rfl
theorem lpeek_at (s:ByteArray)(n k:Nat)(h:n+k<s.size):zx (s.data.toList.drop n) k=(s[n+k]'h).toNat:=by
 have h':n+k<s.data.toList.length:=by rw[zv];exact h
 unfold zx;rw[List.getElem?_drop,List.getElem?_eq_getElem h',ba_at s (n+k) h];rfl
theorem lpeek_no (s:ByteArray)(n k:Nat)(h:¬n+k<s.size):zx (s.data.toList.drop n) k=0:=by
 unfold zx;rw[List.getElem?_drop,List.getElem?_eq_none (by rw[zv];omega)]
 rfl
theorem rletter_w (c:Nat)(hc:c<256):Rs 85 #[.int .u8 (c:Int)] (.bool (WP.isL c)):=by
 intro w;by_cases h1:97≤c
 ·by_cases h2:c≤122
  ·rw[show WP.isL c=true by simp[WP.isL,h1,h2]]
   have q1:¬(c:Int)<97:=by omega
   have q2:¬(122:Int)<(c:Int):=by omega
   clear h1 h2 hc;go_enter Tryz.func85,Tryz.ntmps85
   go_wp2_with fail;go_ret;exact⟨by first|rfl|(simp;done)|(simp;omega)|(simp[*];done),rfl⟩
  ·rw[show WP.isL c=false by simp[WP.isL,h2]]
   have q1:¬(c:Int)<97:=by omega
   have q2:(122:Int)<(c:Int):=by omega
   clear h1 h2 hc;go_enter Tryz.func85,Tryz.ntmps85
   go_wp2_with fail;go_ret;exact⟨by first|rfl|(simp;done)|(simp;omega)|(simp[*];done),rfl⟩
 ·rw[show WP.isL c=false by simp[WP.isL,h1]]
  have q1:(c:Int)<97:=by omega
  clear h1 hc;go_enter Tryz.func85,Tryz.ntmps85
  go_wp2_with fail;go_ret;exact⟨by first|rfl|(simp;done)|(simp;omega)|(simp[*];done),rfl⟩
theorem jE (c:Nat)(hc:c<256):Rs 87 #[.int .u8 (c:Int)] (.bool (isD c)):=by
 intro w;by_cases h1:48≤c
 ·by_cases h2:c≤57
  ·rw[show isD c=true by simp[isD,h1,h2]]
   have q1:¬(c:Int)<48:=by omega
   have q2:¬(57:Int)<(c:Int):=by omega
   clear h1 h2 hc;go_enter Tryz.func87,Tryz.ntmps87
   go_wp2_with fail;go_ret;exact⟨by first|rfl|(simp;done)|(simp;omega)|(simp[*];done),rfl⟩
  ·rw[show isD c=false by simp[isD,h2]]
   have q1:¬(c:Int)<48:=by omega
   have q2:(57:Int)<(c:Int):=by omega
   clear h1 h2 hc;go_enter Tryz.func87,Tryz.ntmps87
   go_wp2_with fail;go_ret;exact⟨by first|rfl|(simp;done)|(simp;omega)|(simp[*];done),rfl⟩
 ·rw[show isD c=false by simp[isD,h1]]
  have q1:(c:Int)<48:=by omega
  clear h1 hc;go_enter Tryz.func87,Tryz.ntmps87
  go_wp2_with fail;go_ret;exact⟨by first|rfl|(simp;done)|(simp;omega)|(simp[*];done),rfl⟩
theorem rsig_w (c:Nat)(hc:c<256):Rs 89 #[.int .u8 (c:Int)] (.bool (isS c)):=by
 intro w;by_cases h0:c=43
 ·subst h0
  rw[show isS 43=true by decide]
  clear hc;go_enter Tryz.func89,Tryz.ntmps89
  go_wp2_with fail;go_ret;exact⟨by first|rfl|(simp;done)|(simp;omega)|(simp[*];done),rfl⟩
 ·skip
  by_cases h1:c=45
  ·subst h1
   rw[show isS 45=true by decide]
   clear hc h0;go_enter Tryz.func89,Tryz.ntmps89
   go_wp2_with fail;go_ret;exact⟨by first|rfl|(simp;done)|(simp;omega)|(simp[*];done),rfl⟩
  ·skip
   by_cases h2:c=42
   ·subst h2
    rw[show isS 42=true by decide]
    clear hc h0 h1;go_enter Tryz.func89,Tryz.ntmps89
    go_wp2_with fail;go_ret;exact⟨by first|rfl|(simp;done)|(simp;omega)|(simp[*];done),rfl⟩
   ·skip
    by_cases h3:c=47
    ·subst h3
     rw[show isS 47=true by decide]
     clear hc h0 h1 h2;go_enter Tryz.func89,Tryz.ntmps89
     go_wp2_with fail;go_ret;exact⟨by first|rfl|(simp;done)|(simp;omega)|(simp[*];done),rfl⟩
    ·skip
     by_cases h4:c=40
     ·subst h4
      rw[show isS 40=true by decide]
      clear hc h0 h1 h2 h3;go_enter Tryz.func89,Tryz.ntmps89
      go_wp2_with fail;go_ret;exact⟨by first|rfl|(simp;done)|(simp;omega)|(simp[*];done),rfl⟩
     ·skip
      by_cases h5:c=41
      ·subst h5
       rw[show isS 41=true by decide]
       clear hc h0 h1 h2 h3 h4;go_enter Tryz.func89,Tryz.ntmps89
       go_wp2_with fail;go_ret;exact⟨by first|rfl|(simp;done)|(simp;omega)|(simp[*];done),rfl⟩
      ·skip
       by_cases h6:c=44
       ·subst h6
        rw[show isS 44=true by decide]
        clear hc h0 h1 h2 h3 h4 h5;go_enter Tryz.func89,Tryz.ntmps89
        go_wp2_with fail;go_ret;exact⟨by first|rfl|(simp;done)|(simp;omega)|(simp[*];done),rfl⟩
       ·skip
        rw[show isS c=false by simp[isS,h0,h1,h2,h3,h4,h5,h6]]
        have q0:((c:Int)==43)=false:=by rw[beq_eq_false_iff_ne];omega
        have q1:((c:Int)==45)=false:=by rw[beq_eq_false_iff_ne];omega
        have q2:((c:Int)==42)=false:=by rw[beq_eq_false_iff_ne];omega
        have q3:((c:Int)==47)=false:=by rw[beq_eq_false_iff_ne];omega
        have q4:((c:Int)==40)=false:=by rw[beq_eq_false_iff_ne];omega
        have q5:((c:Int)==41)=false:=by rw[beq_eq_false_iff_ne];omega
        have q6:((c:Int)==44)=false:=by rw[beq_eq_false_iff_ne];omega
        clear hc h0 h1 h2 h3 h4 h5 h6;go_enter Tryz.func89,Tryz.ntmps89
        go_wp2_with fail;go_ret;exact⟨by first|rfl|(simp;done)|(simp;omega)|(simp[*];done),rfl⟩
theorem rdigs_w (s:ByteArray)(i:Nat)(hi:i≤s.size)(hs:s.size≤1000000):Rs 122 #[.string s,.int .i64 (i:Int)] (.int .i64 ((i+runL isD (s.data.toList.drop i):Nat):Int)):=by
 intro w;obtain⟨R,hR⟩:∃R,i+runL isD (s.data.toList.drop i)=R:=⟨_,rfl⟩;rw[hR];have HR0:=zc.mk hR;clear hR;go_enter Tryz.func122,Tryz.ntmps122
 go_wp2_with fail;go_loopg [1] (s.size+1) (fun kq v1 w'=>∃n:Nat,v1= .int .i64 n∧n<s.size+1∧s.size+1≤n+kq∧zc (n+runL isD (s.data.toList.drop n)=R)∧w=w')
 case atStart=>exact⟨i,rfl,by omega,by omega,HR0,rfl⟩
 case round=>
  obtain⟨n,rfl,hn,hn2,HR,rfl⟩:=hrel;clear HR0;by_cases hlt:n<s.size
  ·have hr:=lrun_at isD s n hlt
   cases hb:isD (s[n]'hlt).toNat with
   |true=>
    rw[hb,if_pos rfl]at hr;have H:=jE (s[n]'hlt).toNat (s[n]'hlt).toNat_lt;rw[hb]at H;clear hb;go_wp2_with(with_reducible refine H.go ?_)
    go_roundg (gk-1)
    case measure=>omega
    case rel=>exact⟨n+1,by go_num,by omega,by omega,⟨by rw[←HR.out,hr];omega⟩,rfl⟩
   |false=>
    rw[hb,if_neg (by decide)]at hr
    have H:=jE (s[n]'hlt).toNat (s[n]'hlt).toNat_lt;rw[hb]at H;have hR:=HR.out;rw[hr]at hR;have hR:n=R:=hR;subst hR;clear hb hr HR;go_wp2_with(with_reducible refine H.go ?_)
    go_ret;exact⟨rfl,rfl⟩
  ·have hn3:n=s.size:=by omega
   have hR:n=R:=by
    have h:=HR.out;rw[List.drop_eq_nil_of_le (by rw[zv];omega)]at h
    exact h
   clear HR;subst hR;clear hn3;go_wp2_with fail;go_ret;exact⟨rfl,rfl⟩
theorem rnm_w (s:ByteArray)(i:Nat)(hi:i≤s.size)(hs:s.size≤1000000):Rs 86 #[.string s,.int .i64 (i:Int)] (.int .i64 ((i+runL isLD (s.data.toList.drop i):Nat):Int)):=by
 intro w;obtain⟨R,hR⟩:∃R,i+runL isLD (s.data.toList.drop i)=R:=⟨_,rfl⟩;rw[hR];have HR0:=zc.mk hR;clear hR;go_enter Tryz.func86,Tryz.ntmps86
 go_wp2_with fail;go_loopg [1] (s.size+1) (fun kq v1 w'=>∃n:Nat,v1= .int .i64 n∧n<s.size+1∧s.size+1≤n+kq∧zc (n+runL isLD (s.data.toList.drop n)=R)∧w=w')
 case atStart=>exact⟨i,rfl,by omega,by omega,HR0,rfl⟩
 case round=>
  obtain⟨n,rfl,hn,hn2,HR,rfl⟩:=hrel;clear HR0;by_cases hlt:n<s.size
  ·have hr:=lrun_at isLD s n hlt
   have hLD:isLD (s[n]'hlt).toNat=(WP.isL (s[n]'hlt).toNat||isD (s[n]'hlt).toNat):=rfl
   have H1:=rletter_w (s[n]'hlt).toNat (s[n]'hlt).toNat_lt;have H2:=jE (s[n]'hlt).toNat (s[n]'hlt).toNat_lt;rw[hLD]at hr;clear hLD;cases ha:WP.isL (s[n]'hlt).toNat with
   |true=>
    rw[ha,Bool.true_or,if_pos rfl]at hr;rw[ha]at H1;clear ha H2;go_wp2_with(with_reducible refine H1.go ?_)
    go_roundg (gk-1)
    case measure=>omega
    case rel=>exact⟨n+1,by go_num,by omega,by omega,⟨by rw[←HR.out,hr];omega⟩,rfl⟩
   |false=>
    rw[ha]at H1;cases hb:isD (s[n]'hlt).toNat with
    |true=>
     rw[ha,hb,Bool.or_true,if_pos rfl]at hr;rw[hb]at H2;clear ha hb;go_wp2_with(first|(with_reducible refine H1.go ?_)|(with_reducible refine H2.go ?_))
     go_roundg (gk-1)
     case measure=>omega
     case rel=>exact⟨n+1,by go_num,by omega,by omega,⟨by rw[←HR.out,hr];omega⟩,rfl⟩
    |false=>
     rw[ha,hb,if_neg (by decide)]at hr
     rw[hb]at H2;have hR:=HR.out;rw[hr]at hR;have hR:n=R:=hR;subst hR;clear ha hb hr HR;go_wp2_with(first|(with_reducible refine H1.go ?_)|(with_reducible refine H2.go ?_))
     go_ret;exact⟨rfl,rfl⟩
  ·have hn3:n=s.size:=by omega
   have hR:n=R:=by
    have h:=HR.out;rw[List.drop_eq_nil_of_le (by rw[zv];omega)]at h
    exact h
   clear HR;subst hR;clear hn3;go_wp2_with fail;go_ret;exact⟨rfl,rfl⟩
theorem rnumb_w (s:ByteArray)(i:Nat)(hi:i≤s.size)(hs:s.size≤1000000):Rs 88 #[.string s,.int .i64 (i:Int)] (.int .i64 ((i+numL (s.data.toList.drop i):Nat):Int)):=by
 intro w;have H1:=rdigs_w s i hi hs;have hle:i+runL isD (s.data.toList.drop i)≤s.size:=by
  have:=z8 isD (s.data.toList.drop i);rw[List.length_drop,zv]at this;omega
 have hdd:(s.data.toList.drop i).drop (runL isD (s.data.toList.drop i)+1)=s.data.toList.drop (i+runL isD (s.data.toList.drop i)+1):=by
  rw[List.drop_drop];congr 1
 unfold numL;rw[hdd];clear hdd;generalize hr:runL isD (s.data.toList.drop i)=r at*;obtain⟨k,hk⟩:∃k,i+r=k:=⟨_,rfl⟩;by_cases h1:k+1<s.size
 ·rw[lpeek_at s i r (by omega),lpeek_at s i (r+1) (by omega)]
  have e1:s[i+r]'(by omega)=s[k]'(by omega):=by congr 1
  have e2:s[i+(r+1)]'(by omega)=s[k+1]'h1:=by congr 1;omega
  rw[e1,e2];have H2:=jE (s[k+1]'h1).toNat (s[k+1]'h1).toNat_lt;have H3:Rs 122 #[.string s,.int .i64 ((k:Int)+1)] (.int .i64 ((k+1+runL isD (s.data.toList.drop (k+1)):Nat):Int)):=by
   rw[show((k:Int)+1)=((k+1:Nat):Int) by omega]
   exact rdigs_w s (k+1) (by omega) hs
  have hk0:k<s.size:=by omega
  have hcon:k+1<s.size:=h1;by_cases h2:(s[k]'(by omega)).toNat=46
  ·have q1:(((s[k]'hk0).toNat:Int)==46)=true:=by rw[beq_iff_eq];omega
   cases h3:isD (s[k+1]'h1).toNat with
   |true=>
    rw[if_pos ⟨h2,rfl⟩,hk];rw[show i+(r+(1+runL isD (s.data.toList.drop (k+1))))=k+1+runL isD (s.data.toList.drop (k+1)) by omega]
    rw[hk]at H1;rw[h3]at H2;generalize k+1+runL isD (s.data.toList.drop (k+1))=R at*;clear h2 h3 e1 e2 hr hk hle;go_enter Tryz.func88,Tryz.ntmps88
    go_wp2_with(first|(with_reducible refine H1.go ?_)|(with_reducible refine H2.go ?_)|(with_reducible refine H3.go ?_))
    go_ret;exact⟨rfl,rfl⟩
   |false=>
    rw[if_neg (fun h=>by have:=h.2;cases this),hk]
    rw[hk]at H1;rw[h3]at H2;clear H3 h2 h3 e1 e2 hr hk hle;go_enter Tryz.func88,Tryz.ntmps88
    go_wp2_with(first|(with_reducible refine H1.go ?_)|(with_reducible refine H2.go ?_))
    go_ret;exact⟨rfl,rfl⟩
  ·have q1:(((s[k]'hk0).toNat:Int)==46)=false:=by rw[beq_eq_false_iff_ne];omega
   rw[if_neg (fun h=>h2 h.1),hk]
   rw[hk]at H1;clear H2 H3 h2 e1 e2 hr hk hle;go_enter Tryz.func88,Tryz.ntmps88
   go_wp2_with(first|(with_reducible refine H1.go ?_))
   go_ret;exact⟨rfl,rfl⟩
 ·rw[lpeek_no s i (r+1) (by omega),if_neg (fun h=>by have:=h.2;revert this;decide),hk]
  rw[hk]at H1;have q1:¬(k:Int)+1<(s.size:Int):=by omega
  have q2:k≤s.size:=by omega
  clear hr hk hle h1;go_enter Tryz.func88,Tryz.ntmps88
  go_wp2_with(first|(with_reducible refine H1.go ?_))
  go_ret;exact⟨rfl,rfl⟩
def tokR (i:Nat)(k:Nat×Nat):Int×Int:=if k.2=0 then(0,-1)else((k.1:Int),((i+k.2:Nat):Int))
theorem rtok_w (s:ByteArray)(i:Nat)(hi:i<s.size)(hs:s.size≤1000000):Rs 51 #[.string s,.int .i64 (i:Int)] (.tuple #[.int .i64 (tokR i (kindL (s.data.toList.drop i))).1,.int .i64 (tokR i (kindL (s.data.toList.drop i))).2]):=by
 intro w;have hp:zx (s.data.toList.drop i) 0=(s[i]'hi).toNat:=lpeek_at s i 0 hi;have H1:=rletter_w (s[i]'hi).toNat (s[i]'hi).toNat_lt;have H2:=jE (s[i]'hi).toNat (s[i]'hi).toNat_lt;have H3:=rsig_w (s[i]'hi).toNat (s[i]'hi).toNat_lt;have H4:=rnm_w s i (by omega) hs
 have H5:=rnumb_w s i (by omega) hs
 have h4:WP.isL (s[i]'hi).toNat=true→0<runL isLD (s.data.toList.drop i):=fun h=>by
  rw[lrun_at isLD s i hi,if_pos (by unfold isLD;rw[h,Bool.true_or])]
  omega
 have h5:isD (s[i]'hi).toNat=true→0<numL (s.data.toList.drop i):=fun h=>by
  unfold numL;rw[lrun_at isD s i hi,if_pos h];split<;>omega
 have h4':i+runL isLD (s.data.toList.drop i)≤s.size:=by
  have:=z8 isLD (s.data.toList.drop i);rw[List.length_drop,zv]at this;omega
 have h5':numL (s.data.toList.drop i)≤1000000:=by
  have q1:=z8 isD (s.data.toList.drop i);have q2:=z8 isD ((s.data.toList.drop i).drop (runL isD (s.data.toList.drop i)+1));rw[List.length_drop]at q2;rw[List.length_drop,zv]at q1 q2;unfold numL;split
  ·rename_i h
   by_cases h6:i+runL isD (s.data.toList.drop i)<s.size
   ·omega
   ·have:=h.1
    rw[lpeek_no s i _ h6]at this;cases this
  ·omega
 unfold kindL;rw[hp];clear hp;generalize runL isLD (s.data.toList.drop i)=a at*;generalize numL (s.data.toList.drop i)=b at*;cases c1:WP.isL (s[i]'hi).toNat with
 |true=>
  rw[if_pos rfl];rw[c1]at H1;have h4:=h4 c1;clear c1 H2 H3 H5 h5 h5';by_cases h6:20<a
  ·rw[if_pos h6]
   have q1:(20:Int)<((i+a:Nat):Int)-(i:Int):=by omega
   obtain⟨e,he⟩:∃e,i+a=e:=⟨_,rfl⟩;rw[he]at H4 q1 h4';have q2:IntKind.i64.wrap ((e:Int)-(i:Int))=(e:Int)-(i:Int):=by simp[j9];omega
   show Calls _ _ _ _ fun ex w'=>ex= .returned (.tuple #[.int .i64 0,.int .i64 (-1)])∧w'=w
   clear h6 he h4;go_enter Tryz.func51,Tryz.ntmps51
   go_wp2_with(first|(with_reducible refine H1.go ?_)|(with_reducible refine H4.go ?_))
   refine bodyPost_ret (results_tmp2 rfl _ _ _) rfl ?_;exact⟨rfl,rfl⟩
  ·rw[if_neg h6]
   have hv:tokR i (0,a)=(0,((i+a:Nat):Int)):=if_neg (by show¬a=0;omega)
   rw[hv];have q1:¬(20:Int)<((i+a:Nat):Int)-(i:Int):=by omega
   obtain⟨e,he⟩:∃e,i+a=e:=⟨_,rfl⟩;rw[he]at H4 q1 h4' ⊢;have q2:IntKind.i64.wrap ((e:Int)-(i:Int))=(e:Int)-(i:Int):=by simp[j9];omega
   clear h6 he h4 hv;go_enter Tryz.func51,Tryz.ntmps51
   go_wp2_with(first|(with_reducible refine H1.go ?_)|(with_reducible refine H4.go ?_))
   refine bodyPost_ret (results_tmp2 rfl _ _ _) rfl ?_;exact⟨rfl,rfl⟩
 |false=>
  rw[if_neg (by decide)]
  rw[c1]at H1;cases c2:isD (s[i]'hi).toNat with
  |true=>
   rw[if_pos rfl];rw[c2]at H2;have h5:=h5 c2;clear c1 c2 H3 H4 h4 h4';by_cases h6:100<b
   ·rw[if_pos h6]
    have q1:(100:Int)<((i+b:Nat):Int)-(i:Int):=by omega
    obtain⟨e,he⟩:∃e,i+b=e:=⟨_,rfl⟩;have h7:e≤2000000:=by omega
    rw[he]at H5 q1;have q2:IntKind.i64.wrap ((e:Int)-(i:Int))=(e:Int)-(i:Int):=by simp[j9];omega
    show Calls _ _ _ _ fun ex w'=>ex= .returned (.tuple #[.int .i64 0,.int .i64 (-1)])∧w'=w
    clear h6 he h5 h5' h7;go_enter Tryz.func51,Tryz.ntmps51
    go_wp2_with(first|(with_reducible refine H1.go ?_)|(with_reducible refine H2.go ?_)|(with_reducible refine H5.go ?_))
    refine bodyPost_ret (results_tmp2 rfl _ _ _) rfl ?_;exact⟨rfl,rfl⟩
   ·rw[if_neg h6]
    have hv:tokR i (1,b)=(1,((i+b:Nat):Int)):=if_neg (by show¬b=0;omega)
    rw[hv];have q1:¬(100:Int)<((i+b:Nat):Int)-(i:Int):=by omega
    obtain⟨e,he⟩:∃e,i+b=e:=⟨_,rfl⟩;have h7:e≤2000000:=by omega
    rw[he]at H5 q1 ⊢;have q2:IntKind.i64.wrap ((e:Int)-(i:Int))=(e:Int)-(i:Int):=by simp[j9];omega
    clear h6 he h5 h5' h7 hv;go_enter Tryz.func51,Tryz.ntmps51
    go_wp2_with(first|(with_reducible refine H1.go ?_)|(with_reducible refine H2.go ?_)|(with_reducible refine H5.go ?_))
    refine bodyPost_ret (results_tmp2 rfl _ _ _) rfl ?_;exact⟨rfl,rfl⟩
  |false=>
   rw[if_neg (by decide)]
   rw[c2]at H2;clear c1 c2 H4 H5 h4 h5 h4' h5';cases c3:isS (s[i]'hi).toNat with
   |true=>
    rw[if_pos rfl];rw[c3]at H3;show Calls _ _ _ _ fun ex w'=>ex= .returned (.tuple #[.int .i64 2,.int .i64 ((i+1:Nat):Int)])∧w'=w
    clear c3;go_enter Tryz.func51,Tryz.ntmps51
    go_wp2_with(first|(with_reducible refine H1.go ?_)|(with_reducible refine H2.go ?_)|(with_reducible refine H3.go ?_))
    refine bodyPost_ret (results_tmp2 rfl _ _ _) rfl ?_;exact⟨rfl,rfl⟩
   |false=>
    rw[if_neg (by decide)]
    rw[c3]at H3;show Calls _ _ _ _ fun ex w'=>ex= .returned (.tuple #[.int .i64 0,.int .i64 (-1)])∧w'=w
    clear c3;go_enter Tryz.func51,Tryz.ntmps51
    go_wp2_with(first|(with_reducible refine H1.go ?_)|(with_reducible refine H2.go ?_)|(with_reducible refine H3.go ?_))
    refine bodyPost_ret (results_tmp2 rfl _ _ _) rfl ?_;exact⟨rfl,rfl⟩
end Go.Proofs.YtjopepfemhckjaaGreatDoor.NW
end
section
namespace Go.Proofs.YtjopepfemhckjaaGreatDoor.NW
open Go.Proofs Go.RowKit Go.Shelf Go.Proofs.YtjopepfemhckjaaGreatDoor.PN Go.Proofs.YtjopepfemhckjaaGreatDoorW.PrintWords Go.Proofs.YtjopepfemhckjaaGreatDoor.PParseTells Go.Proofs.YtjopepfemhckjaaGreatDoor.WP Go.Proofs.YtjopepfemhckjaaGreatDoor.WW
theorem adv_line:∀(l:List UInt8) (p:Nat×Nat),(∀x∈l,x.toNat≠10)→advP p l=(p.1,p.2+l.length):=by
 intro l;induction l with
 |nil=>intro p h;rfl
 |cons c l ih=>
  intro p h;show advP (qA p c) l=_
  have e:qA p c=(p.1,p.2+1):=if_neg (h c (List.mem_cons_self ..));rw[e,ih _ (fun x hx=>h x (List.mem_cons_of_mem _ hx)),List.length_cons]
  show(p.1,p.2+1+l.length)=(p.1,p.2+(l.length+1))
  congr 1
  omega
theorem tok_line {t:S75}(h:TokOK t):∀x∈t.f1.data.toList,x.toNat≠10:=by
 intro x hx;rcases h with⟨_,h⟩|⟨_,h⟩|⟨_,c,hc,hm⟩
 ·have h1:=List.all_eq_true.1 h.hall x hx
  intro h2;have:x=10:=UInt8.toNat_inj.1 h2;subst this;exact absurd h1 (by decide)
 ·obtain⟨_,a,ha,_,h|⟨b,hb,_,h⟩⟩:=h
  ·rw[h]at hx
   have:=ha x hx;omega
  ·rw[h]at hx
   rcases List.mem_append.1 hx with hx|hx
   ·have:=ha x hx
    omega
   ·rcases List.mem_cons.1 hx with rfl|hx
    ·decide
    ·have:=hb x hx
     omega
 ·rw[hc]at hx
  have hx:x=c:=by simpa using hx
  subst hx;intro h2;have:x=10:=UInt8.toNat_inj.1 h2;subst this;exact absurd hm (by decide)
theorem tok_at (s:ByteArray)(n:Nat)(hn:n<s.size)(h0:(kindL (s.data.toList.drop n)).2≠0):n+(kindL (s.data.toList.drop n)).2≤s.size∧mkL ((s.data.toList.drop n).take (kindL (s.data.toList.drop n)).2)=s.extract n (n+(kindL (s.data.toList.drop n)).2)∧∀p:Nat×Nat,advP p ((s.data.toList.drop n).take (kindL (s.data.toList.drop n)).2)=(p.1,p.2+(kindL (s.data.toList.drop n)).2):=by
 have hn':n<s.data.toList.length:=by rw[zv];exact hn
 have hne:s.data.toList.drop n≠[]:=by rw[List.drop_eq_getElem_cons hn'];exact fun h=>by cases h
 have hl:=kindL_le _ hne;have hl2:(s.data.toList.drop n).length=s.size-n:=by rw[List.length_drop,zv]
 refine⟨by omega,toL_inj ?_,?_⟩
 ·rw[toL_mkL,jq]
  congr 1
  omega
 ·intro p
  have hk:TokOK ⟨((kindL (s.data.toList.drop n)).1:Int),mkL ((s.data.toList.drop n).take (kindL (s.data.toList.drop n)).2),0,0⟩:=by
   rw[List.drop_eq_getElem_cons hn']at h0 ⊢;exact kindL_ok _ _ h0 0 0
  have h1:=tok_line hk;rw[toL_mkL]at h1;rw[adv_line _ p h1,List.length_take];congr 2
  omega
theorem rlex_at (s:ByteArray)(hs:s.size≤20000)(T:List S75)(e l c:Int)(hD:lexD s=(T,e,l,c))(w:World):Calls Tryz.prog 21 #[.string s] w fun ex w'=>∃v,ex= .returned (.tuple #[v,.int .i64 e,.int .i64 l,.int .i64 c])∧Kd.R k75 75 w' w.heap.size (fun _=>True) v T∧Below w.heap.size w w':=by
 have hD0:comb [] (lexL (s.size+1) (s.data.toList.drop 0) (1,1))=(T,e,l,c):=by
  rw[←hD,List.drop_zero,←lexB_list];rfl
 have HD0:=zc.mk hD0;have hs2:¬(20000:Int)<(s.size:Int):=by omega
 clear hD hD0;go_enter Tryz.func21,Tryz.ntmps21
 go_wp2_with(first|((with_reducible refine gate_dst (N:=15) rfl ?_);refine Kd.R_lit k75 (w0:=w) w.heap.size 75 ?hg (N:=15) ?hd (xs:=[]) (inner:=[]) (ok:=fun _=>True) (okp:=fun _=>False) ?hr (Reps.none _ _) (fun _ hk=>hk.elim) trivial ?hb ?hs (Nat.zero_le _) ?_;(case hd=>rfl);(case hg=>rfl);(case hr=>first|(go_simp;done)|(go_simp;rfl));(case hb=>exact xb _ _);(case hs=>exact xc _);intro v6 w4 ho4 hb4 hg4 hn4;clear hg4 hn4;have HO4:=zc.mk ho4;have HB4:=zc.mk hb4;clear ho4 hb4))
 go_loopg [6,7,8,9] (s.size+1) (fun kq v6 v7 v8 v9 w'=>∃(n ln bg k:Nat) (acc:List S75),v7= .int .i64 ln∧v8= .int .i64 bg∧v9= .int .i64 n∧n≤s.size∧s.size+1≤n+kq∧bg≤n∧ln≤n+1∧acc.length≤n∧s.size+1≤n+k∧zc (Kd.R k75 75 w' w.heap.size (fun _=>True) v6 acc)∧zc (Below w.heap.size w w')∧zc (comb acc (lexL k (s.data.toList.drop n) (ln,n-bg+1))=(T,e,l,c)))
 case atStart=>exact⟨0,1,0,s.size+1,[],rfl,rfl,rfl,by omega,by omega,by omega,by omega,by simp,by omega,HO4,HB4,HD0⟩
 case round=>
  clear HO4 HB4 HD0;obtain⟨n,ln,bg,k,acc,rfl,rfl,rfl,hn,hq,hbg,hln,hac,hk,HO,HB,HC⟩:=hrel;by_cases hlt:n<s.size
  ·obtain⟨k,rfl⟩:∃k',k=k'+1:=⟨k-1,by omega⟩
   have hn':n<s.data.toList.length:=by rw[zv];exact hlt
   have hdr:s.data.toList.drop n=s[n]'hlt::s.data.toList.drop (n+1):=by rw[List.drop_eq_getElem_cons hn',ba_at s n hlt]
   by_cases h10:(s[n]'hlt).toNat=10
   ·have HC2:zc (comb acc (lexL (k+1) (s.data.toList.drop (n+1)) (ln+1,n+1-(n+1)+1))=(T,e,l,c)):=by
     have h:=HC.out;rw[hdr,lexL_blank _ _ _ _ (by unfold isB;exact decide_eq_true (.inr h10))]at h
     have es:qA (ln,n-bg+1) (s[n]'hlt)=(ln+1,1):=if_pos h10;rw[es]at h;rw[show n+1-(n+1)+1=1 by omega]
     exact⟨h⟩
    have q1:(((s[n]'hlt).toNat:Int)==10)=true:=by rw[beq_iff_eq];omega
    have q2:(((s[n]'hlt).toNat:Int)==32)=false:=by rw[beq_eq_false_iff_ne];omega
    clear HC hdr h10 hn';go_wp2_with fail;go_roundg (gk-1)
    case measure=>omega
    case rel=>exact⟨n+1,ln+1,n+1,k+1,acc,by go_num,by go_num,by go_num,by omega,by omega,by omega,by omega,by omega,by omega,HO,HB,HC2⟩
   ·by_cases h32:(s[n]'hlt).toNat=32
    ·have HC2:zc (comb acc (lexL (k+1) (s.data.toList.drop (n+1)) (ln,n+1-bg+1))=(T,e,l,c)):=by
      have h:=HC.out;rw[hdr,lexL_blank _ _ _ _ (by unfold isB;exact decide_eq_true (.inl h32))]at h
      have es:qA (ln,n-bg+1) (s[n]'hlt)=(ln,n-bg+1+1):=if_neg h10;rw[es]at h;rw[show n+1-bg+1=n-bg+1+1 by omega]
      exact⟨h⟩
     have q1:(((s[n]'hlt).toNat:Int)==10)=false:=by rw[beq_eq_false_iff_ne];omega
     have q2:(((s[n]'hlt).toNat:Int)==32)=true:=by rw[beq_iff_eq];omega
     clear HC hdr h10 h32 hn';go_wp2_with fail;go_roundg (gk-1)
     case measure=>omega
     case rel=>exact⟨n+1,ln,bg,k+1,acc,rfl,rfl,by go_num,by omega,by omega,by omega,by omega,by omega,by omega,HO,HB,HC2⟩
    ·have q1:(((s[n]'hlt).toNat:Int)==10)=false:=by rw[beq_eq_false_iff_ne];omega
     have q2:(((s[n]'hlt).toNat:Int)==32)=false:=by rw[beq_eq_false_iff_ne];omega
     have HT:=rtok_w s n hlt (by omega)
     have hX:=HC.out;rw[hdr,lexL_tok _ _ _ _ (by unfold isB;exact decide_eq_false (by omega)),←hdr]at hX
     have htk:=tok_at s n hlt;unfold tokR at HT;obtain⟨C,hC⟩:∃C,n-bg+1=C:=⟨_,rfl⟩;have e1:(n:Int)-(bg:Int)+1=(C:Int):=by omega
     have e2:IntKind.i64.wrap ((n:Int)-(bg:Int))=(n:Int)-(bg:Int):=by simp[j9];omega
     have e3:IntKind.i64.wrap (C:Int)=(C:Int):=by simp[j9];omega
     rw[hC]at hX;generalize kindL (s.data.toList.drop n)=kd at*;obtain⟨kd,m⟩:=kd;by_cases hm:m=0
     ·subst hm
      rw[if_pos rfl]at HT hX;have HX:=zc.mk hX;clear HC hX htk hdr hn' h10 h32;go_wp2_with(with_reducible refine HT.go ?_)
      refine bodyPost_ret (results_tmp4 rfl _ _ _) rfl ?_;have hX:=HX.out;injection hX with x1 x2;injection x2 with x2 x3;injection x3 with x3 x4;subst x1 x2;rw[←x3,←x4];exact⟨_,rfl,Kd.R_nil _ _ _ _ _,HB.out⟩
     ·rw[if_neg hm]at HT hX
      obtain⟨t1,t2,t3⟩:=htk hm;have t1:n+m≤s.size:=t1;have t2:mkL ((s.data.toList.drop n).take m)=s.extract n (n+m):=t2;have t3:∀p:Nat×Nat,advP p ((s.data.toList.drop n).take m)=(p.1,p.2+m):=t3;have hX:comb acc (match lexL k ((s.data.toList.drop n).drop m) (advP (ln,C) ((s.data.toList.drop n).take m))with| .inl q=> .inl q| .inr ts=> .inr (⟨kd,mkL ((s.data.toList.drop n).take m),ln,C⟩::ts))=(T,e,l,c):=hX
      have HT:Rs 51 #[.string s,.int .i64 (n:Int)] (.tuple #[.int .i64 (kd:Int),.int .i64 ((n+m:Nat):Int)]):=HT;rw[t2,t3,List.drop_drop]at hX;obtain⟨E,hE⟩:∃E,n+m=E:=⟨_,rfl⟩;rw[hE]at HT hX t1;have hC2:C+m=E-bg+1:=by omega
      have hX:comb (acc++[⟨kd,s.extract n E,ln,C⟩]) (lexL k (s.data.toList.drop E) (ln,C+m))=(T,e,l,c):=by
       have hX:comb acc (match lexL k (s.data.toList.drop E) (ln,C+m)with| .inl q=> .inl q| .inr ts=> .inr (⟨kd,s.extract n E,ln,C⟩::ts))=(T,e,l,c):=hX
       generalize lexL k (s.data.toList.drop E) (ln,C+m)=r at hX ⊢;cases r with
       |inl q=>exact hX
       |inr ts=>
        rw[←hX];show(acc++[_]++ts,(0:Int),(0:Int),(0:Int))=(acc++_::ts,_,_,_)
        rw[List.append_assoc];rfl
      rw[hC2]at hX;have HX:=zc.mk hX;have hnE:n<E:=by omega
      have b1:(n:Int)≤(E:Int):=by omega
      have b2:(E:Int)≤(s.size:Int):=by omega
      have b3:¬(E:Int)<0:=by omega
      have hacc:(acc.length+1)*40≤140737488355328:=by omega
      clear HC hX htk hdr hn' h10 h32 t2 t3 hE hC2 hC;go_wp2_with(first|(with_reducible refine HT.go ?_)|(at_builtin;refine Kd.R_append k75 (w0:=w) w.heap.size rfl (.tmp 53) (.tmp 65) 44 75 (.agg #[(.int .i64 0),(.string ⟨#[]⟩),(.int .i64 0),(.int .i64 0)]) 40 rfl Tryz.underlying44 info75 rfl (by decide) (by omega) _ acc ⟨kd,s.extract n E,ln,C⟩ [.int .i64 kd,.string (s.extract n E),.int .i64 ln,.int .i64 C] (fun _=>True) (fun _=>False) rfl rfl (k75_mkM _ _ _ ⟨kd,s.extract n E,ln,C⟩) (fun _ hk=>hk.elim) ?aF ?aO ?aB ?aS ?aL ?_))
      case aF=>exact fun _ _=>trivial
      case aO=>exact HO.out
      case aB=>exact HB.out
      case aS=>exact HB.out.size
      case aL=>exact hacc
      intro v1 w1 hv1 hb1 hg1 ho1;go_wp2_with fail;go_roundg (gk-1)
      case measure=>omega
      case rel=>exact⟨E,ln,bg,k,_,rfl,rfl,rfl,by omega,by omega,by omega,by omega,by rw[List.length_append];simp only[List.length_cons,List.length_nil];omega,by omega,⟨hv1⟩,⟨hb1⟩,HX⟩
  ·have hn3:n=s.size:=by omega
   have hX:=HC.out;rw[List.drop_eq_nil_of_le (by rw[zv];omega),lexL_nil]at hX
   have hX:(acc++[],(0:Int),(0:Int),(0:Int))=(T,e,l,c):=hX;rw[List.append_nil]at hX;injection hX with x1 x2;injection x2 with x2 x3;injection x3 with x3 x4;subst x1 x2 x3 x4;clear HC;go_wp2_with fail;refine bodyPost_ret (results_tmp4 rfl _ _ _) rfl ?_;exact⟨_,rfl,HO.out,HB.out⟩
end Go.Proofs.YtjopepfemhckjaaGreatDoor.NW
end
