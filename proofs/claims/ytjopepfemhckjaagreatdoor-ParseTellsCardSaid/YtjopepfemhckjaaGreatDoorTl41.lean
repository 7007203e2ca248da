/-
  Part 41 of the proof of parseTells_holds: texts of this seat, put together.
-/
import Derived.Test.YtjopepfemhckjaaGreatDoorTl36
import Derived.Test.YtjopepfemhckjaaGreatDoorTl40
set_option linter.unusedVariables false
set_option linter.unusedSimpArgs false
set_option maxHeartbeats 16000000
set_option maxRecDepth 100000
section
namespace Go.Proofs.YtjopepfemhckjaaGreatDoor.NW
open Go.Proofs Go.RowKit Go.Shelf Go.Proofs.YtjopepfemhckjaaGreatDoor.PN Go.Proofs.YtjopepfemhckjaaGreatDoorW.PrintWords Go.Proofs.YtjopepfemhckjaaGreatDoor.PParseTells
theorem tok40 {x:S75}(h:TokOK x)(h4:x.f1.toList=[40]):x.f0=2:=by
 rcases h with⟨_,h⟩|⟨_,h⟩|⟨h,_⟩
 ·have h5:=h.hall
  rw[Lib.toList_data]at h4;rw[h4]at h5;exact absurd h5 (by decide)
 ·obtain⟨_,a,ha,hna,h7⟩:=h
  rw[Lib.toList_data]at h4;rw[h4]at h7;cases a with
  |nil=>exact absurd rfl hna
  |cons a0 a1=>
   have h8:a0=40:=by
    rcases h7 with h7|⟨_,_,_,h7⟩
    ·injection h7 with h8 _;exact h8.symm
    ·injection h7 with h8 _;exact h8.symm
   have:=ha a0 (List.mem_cons_self ..);subst h8;exact absurd this.1 (by decide)
 ·exact h
section
variable {w0:WK} {g:Nat} {L:List S75} {last:S75}
theorem ratom_b (hK:w0.kp=[]){k:Nat}(HI:Gm w0 g L last 1 22 k):Ga w0 g L last 123 (k+1):=by
 intro toks out dp hk htk hsz hlen hd1 hd2 hm w h;have HR:=zc.mk h;have H1:=jC (w0:=w0) (g:=g) (L:=L) (last:=last) (out:=out) (dp:=dp) (ps toks) 2 ⟨#[40]⟩;cases ho:(ps toks).has 2 (fun t=>t.toList==(⟨#[40]⟩:xf).toList)with
 |true=>
  rw[ho]at H1;obtain⟨t,rest,g1,g2,g3,g4⟩:=qB ho;have g1:toks=t::rest:=g1;subst g1;have ht1:t.f1=⟨#[40]⟩:=by rw[Lib.toList_data]at g4;rw[←mkB t.f1,g4]
  have HO:=ropen_b (w0:=w0) (g:=g) (L:=L) (last:=last) (out:=out) (dp:=dp) (ps (t::rest)) (fun x hx h4=>tok40 (htk x hx) h4) ⟨hd1,by omega⟩
  obtain⟨s0,hs0⟩:∃s0,(ps (t::rest)).push dp last=s0:=⟨_,rfl⟩;have hP:=PX.push (out:=out) g3 ht1 hs0;rw[hs0]at HO;rw[List.length_cons]at hk hlen hd2;have htr:∀t∈rest,TokOK t:=fun x hx=>htk x (List.mem_cons_of_mem _ hx)
  have HS:=sum_any (w0:=w0) (g:=g) (L:=L) (o:=out) (s:=s0) (dp:=dp+1) HI (fun s2 o2=>PX last dp t rest out s2 o2) (by
   rcases hP with⟨h1,h2,h3⟩|⟨h1,h2⟩
   ·exact .inl ⟨h1,by rw[h2];omega,by rw[h2];exact htr,by rw[h2];exact fun x hx=>hsz x (List.mem_cons_of_mem _ hx),by rw[h2];omega,by omega,by rw[h2];omega,fun s2 o2 hG=>PX.sum h3 (by rw[h2]at hG;exact hG)⟩
   ·exact .inr ⟨h1,h2⟩)
  have HT:=zc.mk htr;clear h hs0 hP htk hsz hm ho g2 g3 g4 ht1 htr;go_enter Tryz.func123,Tryz.ntmps123
  go_wp2_with(first|(with_reducible refine H1.go HR ?_;clear HR;intro w1 HR)|(with_reducible refine HO.go HR ?_;clear HR;intro w1 HR))
  refine(HS _ HR.out).mono ?_;rintro e w2 ⟨rfl,s2,o2,HR2,HP⟩;have HE:=zc.mk (HP.out.shut HT.out);have HSh:=rshut_b (w0:=w0) (g:=g) (L:=L) (last:=last) (out:=o2) (dp:=dp+1) s2 ⟨by omega,by omega⟩
  rw[show dp+1-1=dp by omega]at HSh
  clear HR HP HS;go_wp2_with(with_reducible refine HSh.go HR2 ?_;clear HR2;intro w1 HR2)
  refine bodyPost_ret (v:= .tuple #[]) (by simp[results,Tryz.f123,go_sem]) rfl ?_
  exact⟨rfl,_,_,HR2.out,HE.out⟩
 |false=>
  rw[ho]at H1;have H2:=qX (w0:=w0) (g:=g) (L:=L) (last:=last) (out:=out) (dp:=dp) (ps toks) 0;unfold PS.take at H2;cases h0:(ps toks).has 0 (fun _=>true)with
  |false=>
   rw[h0,if_neg (by decide)]at H2
   obtain⟨s1,o1,H3,hG⟩:=number_any (g:=g) (L:=L) (last:=last) (dp:=dp) hK toks htk (by omega:out.length≤100000) ho hm h0
   have HE:=zc.mk hG;clear h hG h0 ho hm htk hsz;go_enter Tryz.func123,Tryz.ntmps123
   go_wp2_with(first|(with_reducible refine H1.go HR ?_;clear HR;intro w1 HR)|(with_reducible refine H2.go HR ?_;clear HR;intro w1 HR)|(with_reducible refine H3.go HR ?_;clear HR;intro w1 HR))
   refine bodyPost_ret (v:= .tuple #[]) (by simp[results,Tryz.f123,go_sem]) rfl ?_
   exact⟨rfl,_,_,HR.out,HE.out⟩
  |true=>
   obtain⟨t,rest,g1,_,ht0,_⟩:=PS.has_cons h0;have g1:toks=t::rest:=g1;subst g1;rw[h0,if_pos rfl]at H2;have hnm:NmOK t.f1:=by
    rcases htk t (List.mem_cons_self ..)with⟨_,h⟩|⟨h,_⟩|⟨h,_⟩
    ·exact h
    ·rw[ht0]at h;exact absurd h (by decide)
    ·rw[ht0]at h;exact absurd h (by decide)
   have hht:hdT (ps (t::rest)).toks=t.f1:=rfl;rw[hht]at H2;rw[List.length_cons]at hk hlen hd2;have htr:∀t∈rest,TokOK t:=fun x hx=>htk x (List.mem_cons_of_mem _ hx)
   have hzr:SzOK (ps rest):=fun x hx=>hsz x (List.mem_cons_of_mem _ hx)
   obtain⟨j,hj,hno,hj2⟩:=nmx_find t.f1 hnm.h0;rcases hj2 with⟨rfl,hb⟩|⟨rfl,hx,hyes⟩|⟨hj1,hj4,hx,hyes⟩|⟨hj1,hj4,hx,hyes⟩
   ·clear h h0 ho hm htk hsz htr hzr hht
    obtain⟨tx,htx⟩:∃tx,t.f1=tx:=⟨_,rfl⟩;rw[htx]at H2 hno;clear htx;have HF:=fun s:PS=>qi (w0:=w0) (g:=g) (L:=L) (last:=last) (out:=out) (dp:=dp) s 110 (by decide)
    go_enter Tryz.func123,Tryz.ntmps123
    go_wp2_with(with_reducible refine H1.go HR ?_;clear HR;intro w1 HR)
    refine H2.go HR ?_;clear HR;intro wq HR;have HR:=zc.mk (HR.out.step ((xb wq.heap.size wq).alloc (xc _) (.cells #[.string ⟨#[110,117,109]⟩,.string ⟨#[112,120]⟩,.string ⟨#[97,118,103]⟩,.string ⟨#[104,105]⟩,.string ⟨#[108,111]⟩,.string ⟨#[]⟩,.string ⟨#[]⟩,.string ⟨#[]⟩,.string ⟨#[]⟩,.string ⟨#[]⟩,.string ⟨#[109,97,120]⟩,.string ⟨#[109,105,110]⟩,.string ⟨#[105,102]⟩] 9)));have hN:=jK (j7 wq (.cells #[.string ⟨#[110,117,109]⟩,.string ⟨#[112,120]⟩,.string ⟨#[97,118,103]⟩,.string ⟨#[104,105]⟩,.string ⟨#[108,111]⟩,.string ⟨#[]⟩,.string ⟨#[]⟩,.string ⟨#[]⟩,.string ⟨#[]⟩,.string ⟨#[]⟩,.string ⟨#[109,97,120]⟩,.string ⟨#[109,105,110]⟩,.string ⟨#[105,102]⟩] 9));go_wp2_with fail;generalize wq.alloc (.cells #[.string ⟨#[110,117,109]⟩,.string ⟨#[112,120]⟩,.string ⟨#[97,118,103]⟩,.string ⟨#[104,105]⟩,.string ⟨#[108,111]⟩,.string ⟨#[]⟩,.string ⟨#[]⟩,.string ⟨#[]⟩,.string ⟨#[]⟩,.string ⟨#[]⟩,.string ⟨#[109,97,120]⟩,.string ⟨#[109,105,110]⟩,.string ⟨#[105,102]⟩] 9)=wk at*;generalize wq.heap.size=B at*;go_loopg [5] 14 (fun kq v5 w'=>∃i:Nat,v5= .int .i64 i∧i+kq=14∧i≤13∧wk=w')
    case atStart=>exact⟨0,rfl,by omega,by omega,rfl⟩
    case round=>
     obtain⟨i,rfl,hi,hij,rfl⟩:=hrel;by_cases hlt:i<13
     ·have hq:=hN i (by omega)
      have hne:=hno i hlt;have h13:(i:Int)<13:=by omega
      have h0i:(0:Int)≤(i:Int):=by omega
      have hnw:IntKind.i64.wrap ((i:Int)+1)=(i:Int)+1:=by simp[j9];omega
      clear hN hno;generalize nmx i=ni at*;go_wp2_with fail;go_roundg (gk-1)
      case measure=>omega
      case rel=>exact⟨i+1,by go_num,by omega,by omega,rfl⟩
     ·obtain rfl:i=13:=by omega
      have HE:=zc.mk (Gst.none (last:=last) (dp:=dp) (out:=out) (toks:=t::rest) (fun r=> .oBad 0 t rest r out dp ht0 hb (fun e=>by
       have h5:=hnm.hall;rw[Lib.toList_data]at e;rw[e]at h5;exact absurd h5 (by decide))))
      clear hN hno hb hnm;go_wp2_with(with_reducible refine(HF _).go HR ?_;clear HR;intro w3 HR)
      refine bodyPost_end (v:= .tuple #[]) (by simp[results,Tryz.f123,go_sem]) rfl ?_
      exact⟨rfl,_,_,HR.out,HE.out⟩
   ·have HA:∀w,RBS w0 g L last out dp (ps rest) w→Calls Tryz.prog 163 #[.pointer (some ⟨g,0,none⟩)] w fun e w'=>e= .returned (.tuple #[])∧∃s3 o3,RBS w0 g L last o3 dp s3 w'∧Gst last dp 4 (t::rest) out s3 o3:=by
     intro w hR;refine(rnum_b hK (ps rest) hzr (by omega) w hR).mono ?_
     rintro e w' ⟨rfl,q⟩;exact⟨rfl,_,_,q,Gst.leaf sfx_num (fun he k r R hR=> .oNumF k t rest r out dp R ht0 hx (fun _=>hR) (fun hne=>absurd he hne)) (fun he r=> .oNumF 0 t rest r out dp _ ht0 hx (fun h0=>absurd h0 he) (fun _=>rfl))⟩
    clear h h0 ho hm htk hsz htr hzr hht hnm hx;generalize t.f1=tx at*;have HF:=fun s:PS=>qi (w0:=w0) (g:=g) (L:=L) (last:=last) (out:=out) (dp:=dp) s 110 (by decide)
    go_enter Tryz.func123,Tryz.ntmps123
    go_wp2_with(with_reducible refine H1.go HR ?_;clear HR;intro w1 HR)
    refine H2.go HR ?_;clear HR;intro wq HR;have HR:=zc.mk (HR.out.step ((xb wq.heap.size wq).alloc (xc _) (.cells #[.string ⟨#[110,117,109]⟩,.string ⟨#[112,120]⟩,.string ⟨#[97,118,103]⟩,.string ⟨#[104,105]⟩,.string ⟨#[108,111]⟩,.string ⟨#[]⟩,.string ⟨#[]⟩,.string ⟨#[]⟩,.string ⟨#[]⟩,.string ⟨#[]⟩,.string ⟨#[109,97,120]⟩,.string ⟨#[109,105,110]⟩,.string ⟨#[105,102]⟩] 9)));have hN:=jK (j7 wq (.cells #[.string ⟨#[110,117,109]⟩,.string ⟨#[112,120]⟩,.string ⟨#[97,118,103]⟩,.string ⟨#[104,105]⟩,.string ⟨#[108,111]⟩,.string ⟨#[]⟩,.string ⟨#[]⟩,.string ⟨#[]⟩,.string ⟨#[]⟩,.string ⟨#[]⟩,.string ⟨#[109,97,120]⟩,.string ⟨#[109,105,110]⟩,.string ⟨#[105,102]⟩] 9));go_wp2_with fail;generalize wq.alloc (.cells #[.string ⟨#[110,117,109]⟩,.string ⟨#[112,120]⟩,.string ⟨#[97,118,103]⟩,.string ⟨#[104,105]⟩,.string ⟨#[108,111]⟩,.string ⟨#[]⟩,.string ⟨#[]⟩,.string ⟨#[]⟩,.string ⟨#[]⟩,.string ⟨#[]⟩,.string ⟨#[109,97,120]⟩,.string ⟨#[109,105,110]⟩,.string ⟨#[105,102]⟩] 9)=wk at*;generalize wq.heap.size=B at*;go_loopg [5] 14 (fun kq v5 w'=>∃i:Nat,v5= .int .i64 i∧i+kq=14∧i≤0∧wk=w')
    case atStart=>exact⟨0,rfl,by omega,by omega,rfl⟩
    case round=>
     obtain⟨i,rfl,hi,hij,rfl⟩:=hrel;by_cases hlt:i<0
     ·have hq:=hN i (by omega)
      have hne:=hno i hlt;have h13:(i:Int)<13:=by omega
      have h0i:(0:Int)≤(i:Int):=by omega
      have hnw:IntKind.i64.wrap ((i:Int)+1)=(i:Int)+1:=by simp[j9];omega
      clear hN hno;generalize nmx i=ni at*;go_wp2_with fail;go_roundg (gk-1)
      case measure=>omega
      case rel=>exact⟨i+1,by go_num,by omega,by omega,rfl⟩
     ·obtain rfl:0=i:=by omega
      have hq:=hN 0 (by omega)
      have h13:((0:Nat):Int)<13:=by omega
      have h0i:(0:Int)≤((0:Nat):Int):=by omega
      skip
      clear hN hno;generalize nmx 0=ni at*;obtain⟨A,c,ov,i9,bad,h3,h4⟩:=HR.out;have q1:=h3.cells.2.1;have f1:=h3.frozen 1;obtain⟨k9,rfl,hw,h5⟩:=RBS.tl h3 h4 rfl (fun h=>by cases h)
      obtain⟨K,hK⟩:∃K,k9+1=K:=⟨_,rfl⟩;rw[hK]at h5;have hK2:(↑k9+1:Int)= ↑K:=by omega
      rw[hK2]at hw;have HR:=zc.mk h5;clear h3 h4 h5;go_wp2_with fail;refine(HA _ HR.out).mono ?_;rintro e w3 ⟨rfl,s3,o3,q7,q8⟩;have HE:=zc.mk (And.intro q7 q8);clear q7 q8 HR HA;go_wp2_with fail;refine bodyPost_ret (v:= .tuple #[]) (by simp[results,Tryz.f123,go_sem]) rfl ?_
      exact⟨rfl,s3,o3,HE.out.1,HE.out.2⟩
   ·have HA:∀w,RBS w0 g L last out dp (ps rest) w→Calls Tryz.prog 164 #[.pointer (some ⟨g,0,none⟩),.int .i64 (j:Int)] w fun e w'=>e= .returned (.tuple #[])∧∃s3 o3,RBS w0 g L last o3 dp s3 w'∧Gst last dp 4 (t::rest) out s3 o3:=by
     intro w hR;have hf:Gst last dp 4 (t::rest) out ((ps rest).price j last).1 (out++[((ps rest).price j last).2]):=Gst.leaf (sfx_price _) (fun he k r R hR=> .oPrice k t rest r out dp R j ht0 hx ⟨hj1,hj4⟩ (fun _=>hR) (fun hne=>absurd he hne)) (fun he r=> .oPrice 0 t rest r out dp _ j ht0 hx ⟨hj1,hj4⟩ (fun h0=>absurd h0 he) (fun _=>rfl))
     by_cases h1:j=1
     ·subst h1
      refine(rprice1_b hK (ps rest) hzr (by omega) w hR).mono ?_
      rintro e w' ⟨rfl,q⟩;exact⟨rfl,_,_,q,hf⟩
     ·refine(rprice2_b hK (ps rest) hzr (by omega) (j:Int) (by omega) w hR).mono ?_
      rintro e w' ⟨rfl,q⟩;exact⟨rfl,_,_,q,hf⟩
    clear h h0 ho hm htk hsz htr hzr hht hnm hx;generalize t.f1=tx at*;have HF:=fun s:PS=>qi (w0:=w0) (g:=g) (L:=L) (last:=last) (out:=out) (dp:=dp) s 110 (by decide)
    go_enter Tryz.func123,Tryz.ntmps123
    go_wp2_with(with_reducible refine H1.go HR ?_;clear HR;intro w1 HR)
    refine H2.go HR ?_;clear HR;intro wq HR;have HR:=zc.mk (HR.out.step ((xb wq.heap.size wq).alloc (xc _) (.cells #[.string ⟨#[110,117,109]⟩,.string ⟨#[112,120]⟩,.string ⟨#[97,118,103]⟩,.string ⟨#[104,105]⟩,.string ⟨#[108,111]⟩,.string ⟨#[]⟩,.string ⟨#[]⟩,.string ⟨#[]⟩,.string ⟨#[]⟩,.string ⟨#[]⟩,.string ⟨#[109,97,120]⟩,.string ⟨#[109,105,110]⟩,.string ⟨#[105,102]⟩] 9)));have hN:=jK (j7 wq (.cells #[.string ⟨#[110,117,109]⟩,.string ⟨#[112,120]⟩,.string ⟨#[97,118,103]⟩,.string ⟨#[104,105]⟩,.string ⟨#[108,111]⟩,.string ⟨#[]⟩,.string ⟨#[]⟩,.string ⟨#[]⟩,.string ⟨#[]⟩,.string ⟨#[]⟩,.string ⟨#[109,97,120]⟩,.string ⟨#[109,105,110]⟩,.string ⟨#[105,102]⟩] 9));go_wp2_with fail;generalize wq.alloc (.cells #[.string ⟨#[110,117,109]⟩,.string ⟨#[112,120]⟩,.string ⟨#[97,118,103]⟩,.string ⟨#[104,105]⟩,.string ⟨#[108,111]⟩,.string ⟨#[]⟩,.string ⟨#[]⟩,.string ⟨#[]⟩,.string ⟨#[]⟩,.string ⟨#[]⟩,.string ⟨#[109,97,120]⟩,.string ⟨#[109,105,110]⟩,.string ⟨#[105,102]⟩] 9)=wk at*;generalize wq.heap.size=B at*;go_loopg [5] 14 (fun kq v5 w'=>∃i:Nat,v5= .int .i64 i∧i+kq=14∧i≤j∧wk=w')
    case atStart=>exact⟨0,rfl,by omega,by omega,rfl⟩
    case round=>
     obtain⟨i,rfl,hi,hij,rfl⟩:=hrel;by_cases hlt:i<j
     ·have hq:=hN i (by omega)
      have hne:=hno i hlt;have h13:(i:Int)<13:=by omega
      have h0i:(0:Int)≤(i:Int):=by omega
      have hnw:IntKind.i64.wrap ((i:Int)+1)=(i:Int)+1:=by simp[j9];omega
      clear hN hno;generalize nmx i=ni at*;go_wp2_with fail;go_roundg (gk-1)
      case measure=>omega
      case rel=>exact⟨i+1,by go_num,by omega,by omega,rfl⟩
     ·obtain rfl:j=i:=by omega
      have hq:=hN j (by omega)
      have h13:((j:Nat):Int)<13:=by omega
      have h0i:(0:Int)≤((j:Nat):Int):=by omega
      have hj4:(j:Int)≤4:=by omega
      have hj0:¬(j:Int)=0:=by omega
      clear hN hno;generalize nmx j=ni at*;obtain⟨A,c,ov,i9,bad,h3,h4⟩:=HR.out;have q1:=h3.cells.2.1;have f1:=h3.frozen 1;obtain⟨k9,rfl,hw,h5⟩:=RBS.tl h3 h4 rfl (fun h=>by cases h)
      obtain⟨K,hK⟩:∃K,k9+1=K:=⟨_,rfl⟩;rw[hK]at h5;have hK2:(↑k9+1:Int)= ↑K:=by omega
      rw[hK2]at hw;have HR:=zc.mk h5;clear h3 h4 h5;go_wp2_with fail;refine(HA _ HR.out).mono ?_;rintro e w3 ⟨rfl,s3,o3,q7,q8⟩;have HE:=zc.mk (And.intro q7 q8);clear q7 q8 HR HA;go_wp2_with fail;refine bodyPost_ret (v:= .tuple #[]) (by simp[results,Tryz.f123,go_sem]) rfl ?_
      exact⟨rfl,s3,o3,HE.out.1,HE.out.2⟩
   ·have HA:∀w,RBS w0 g L last out dp (ps rest) w→Calls Tryz.prog 165 #[.pointer (some ⟨g,0,none⟩),.int .i64 (j:Int)] w fun e w'=>e= .returned (.tuple #[])∧∃s3 o3,RBS w0 g L last o3 dp s3 w'∧Gst last dp 4 (t::rest) out s3 o3:=fun w hR=>rcall_b hK HI t rest out dp j ht0 hx ⟨hj1,hj4⟩ (by omega) htr hzr (by omega) hd1 (by omega) w hR
    clear h h0 ho hm htk hsz htr hzr hht hnm hx;generalize t.f1=tx at*;have HF:=fun s:PS=>qi (w0:=w0) (g:=g) (L:=L) (last:=last) (out:=out) (dp:=dp) s 110 (by decide)
    go_enter Tryz.func123,Tryz.ntmps123
    go_wp2_with(with_reducible refine H1.go HR ?_;clear HR;intro w1 HR)
    refine H2.go HR ?_;clear HR;intro wq HR;have HR:=zc.mk (HR.out.step ((xb wq.heap.size wq).alloc (xc _) (.cells #[.string ⟨#[110,117,109]⟩,.string ⟨#[112,120]⟩,.string ⟨#[97,118,103]⟩,.string ⟨#[104,105]⟩,.string ⟨#[108,111]⟩,.string ⟨#[]⟩,.string ⟨#[]⟩,.string ⟨#[]⟩,.string ⟨#[]⟩,.string ⟨#[]⟩,.string ⟨#[109,97,120]⟩,.string ⟨#[109,105,110]⟩,.string ⟨#[105,102]⟩] 9)));have hN:=jK (j7 wq (.cells #[.string ⟨#[110,117,109]⟩,.string ⟨#[112,120]⟩,.string ⟨#[97,118,103]⟩,.string ⟨#[104,105]⟩,.string ⟨#[108,111]⟩,.string ⟨#[]⟩,.string ⟨#[]⟩,.string ⟨#[]⟩,.string ⟨#[]⟩,.string ⟨#[]⟩,.string ⟨#[109,97,120]⟩,.string ⟨#[109,105,110]⟩,.string ⟨#[105,102]⟩] 9));go_wp2_with fail;generalize wq.alloc (.cells #[.string ⟨#[110,117,109]⟩,.string ⟨#[112,120]⟩,.string ⟨#[97,118,103]⟩,.string ⟨#[104,105]⟩,.string ⟨#[108,111]⟩,.string ⟨#[]⟩,.string ⟨#[]⟩,.string ⟨#[]⟩,.string ⟨#[]⟩,.string ⟨#[]⟩,.string ⟨#[109,97,120]⟩,.string ⟨#[109,105,110]⟩,.string ⟨#[105,102]⟩] 9)=wk at*;generalize wq.heap.size=B at*;go_loopg [5] 14 (fun kq v5 w'=>∃i:Nat,v5= .int .i64 i∧i+kq=14∧i≤j∧wk=w')
    case atStart=>exact⟨0,rfl,by omega,by omega,rfl⟩
    case round=>
     obtain⟨i,rfl,hi,hij,rfl⟩:=hrel;by_cases hlt:i<j
     ·have hq:=hN i (by omega)
      have hne:=hno i hlt;have h13:(i:Int)<13:=by omega
      have h0i:(0:Int)≤(i:Int):=by omega
      have hnw:IntKind.i64.wrap ((i:Int)+1)=(i:Int)+1:=by simp[j9];omega
      clear hN hno;generalize nmx i=ni at*;go_wp2_with fail;go_roundg (gk-1)
      case measure=>omega
      case rel=>exact⟨i+1,by go_num,by omega,by omega,rfl⟩
     ·obtain rfl:j=i:=by omega
      have hq:=hN j (by omega)
      have h13:((j:Nat):Int)<13:=by omega
      have h0i:(0:Int)≤((j:Nat):Int):=by omega
      have hj4:¬(j:Int)≤4:=by omega
      have hj5:(4:Int)<(j:Int):=by omega
      have hj0:¬(j:Int)=0:=by omega
      clear hN hno;generalize nmx j=ni at*;obtain⟨A,c,ov,i9,bad,h3,h4⟩:=HR.out;have q1:=h3.cells.2.1;have f1:=h3.frozen 1;obtain⟨k9,rfl,hw,h5⟩:=RBS.tl h3 h4 rfl (fun h=>by cases h)
      obtain⟨K,hK⟩:∃K,k9+1=K:=⟨_,rfl⟩;rw[hK]at h5;have hK2:(↑k9+1:Int)= ↑K:=by omega
      rw[hK2]at hw;have HR:=zc.mk h5;clear h3 h4 h5;go_wp2_with fail;refine(HA _ HR.out).mono ?_;rintro e w3 ⟨rfl,s3,o3,q7,q8⟩;have HE:=zc.mk (And.intro q7 q8);clear q7 q8 HR HA;go_wp2_with fail;refine bodyPost_ret (v:= .tuple #[]) (by simp[results,Tryz.f123,go_sem]) rfl ?_
      exact⟨rfl,s3,o3,HE.out.1,HE.out.2⟩
theorem rsum_all (hK:w0.kp=[]):∀k,Gm w0 g L last 1 22 k:=by
 intro k;induction k with
 |zero=>intro toks out dp h;exact absurd h (by omega)
 |succ k ih=>exact rsum_b hK (rproduct_b hK (rminus_b hK (ratom_b hK ih)))
end
end Go.Proofs.YtjopepfemhckjaaGreatDoor.NW
end
section
namespace Go.Proofs.YtjopepfemhckjaaGreatDoor.NW
open Go.Proofs Go.RowKit Go.Shelf Go.Proofs.YtjopepfemhckjaaGreatDoor.PN Go.Proofs.YtjopepfemhckjaaGreatDoorW.PrintWords Go.Proofs.YtjopepfemhckjaaGreatDoor.PParseTells
theorem tok_cells {w0 w:World}{A:Option Addr}{L:List S75}(tk:Kd.C k75 w0 A L.length L)(ta:∀ad,A=some ad→∃tb o,ad=⟨tb,o,none⟩∧tb<w0.heap.size)(hb:Below w0.heap.size w0 w)(k:Nat)(hk:k<L.length):
 ∃tb o:Nat,A=some ⟨tb,o,none⟩∧w.cell? ⟨tb,o+k*4,none⟩=some (.int .i64 (L[k]'hk).f0)∧w.cell? ⟨tb,o+k*4+1,none⟩=some (.string (L[k]'hk).f1)∧w.cell? ⟨tb,o+k*4+2,none⟩=some (.int .i64 (L[k]'hk).f2)∧w.cell? ⟨tb,o+k*4+3,none⟩=some (.int .i64 (L[k]'hk).f3):=by
 obtain⟨ad,hA,q0,q1,q2,q3⟩:=at_T75 tk (k:Int) (by omega) (by omega)
 obtain⟨tb,o,rfl,hlt⟩:=ta ad hA;have e0:(Addr.add ⟨tb,o,none⟩ ((k:Int).toNat*4))=⟨tb,o+k*4,none⟩:=by
  simp[Addr.add];try(intros;omega)
 have hx:qY L (k:Int)=L[k]'hk:=by
  unfold qY;rw[xa,List.getD_eq_getElem?_getD,List.getElem?_eq_getElem hk];rfl
 rw[e0,hx]at q0 q1 q2 q3;exact⟨tb,o,hA,(zg hb _ hlt).trans q0,(zg hb _ hlt).trans q1,(zg hb _ hlt).trans q2,(zg hb _ hlt).trans q3⟩
theorem rplace_at {w0 w:World}{A:Option Addr}{c:Nat}{L:List S75}(tk:Kd.C k75 w0 A L.length L)(ta:∀ad,A=some ad→∃tb o,ad=⟨tb,o,none⟩∧tb<w0.heap.size)(hb:Below w0.heap.size w0 w)(hl:L.length≤100000)(last:S75)(hlast:(L=[]∧last=⟨0,⟨#[]⟩,1,1⟩)∨(∃pre,L=pre++[last]))(hla:0≤last.f3∧last.f3+last.f1.size≤1000000)(b:Nat)(hbL:b≤L.length)(p0 p1:Int)(hf:zC (L.drop b) last=(p0,p1)):Calls Tryz.prog 24 #[.slice A L.length c,.int .i64 (b:Int)] w fun e w'=>e= .returned (.tuple #[.int .i64 p0,.int .i64 p1])∧Below w.heap.size w w':=by
 rcases Nat.lt_or_ge b L.length with h1|h1
 ·obtain⟨tb,o,rfl,q0,q1,q2,q3⟩:=tok_cells tk ta hb b h1
  have hd:L.drop b=L[b]'h1::L.drop (b+1):=List.drop_eq_getElem_cons h1;rw[hd]at hf;have hf:((L[b]'h1).f2,(L[b]'h1).f3)=(p0,p1):=hf;injection hf with e1 e2;rw[e1]at q2;rw[e2]at q3;have g1:¬(L.length:Int)=0:=by omega
  have g2:((L.length:Int)==0)=false:=by rw[beq_eq_false_iff_ne];omega
  have g3:¬(L.length:Int)≤(b:Int):=by omega
  have g4:(b:Int)<(L.length:Int):=by omega
  have HB:=zc.mk (xb w.heap.size w);clear hd e1 e2 hlast hla q0 q1 tk ta hb hf hbL hl;generalize L.length=n at*;go_enter Tryz.func24,Tryz.ntmps24
  go_wp2_with fail;go_quiet (fail)
  go_wp2_with fail;refine bodyPost_ret (results_tmp2 rfl _ _ _) rfl ?_;exact⟨rfl,ze (xb _ _) _⟩
 ·have hbe:b=L.length:=by omega
  subst hbe;rw[List.drop_eq_nil_of_le (xc _)]at hf;have hf:(last.f2,last.f3+last.f1.size)=(p0,p1):=hf;injection hf with e1 e2;rcases hlast with⟨rfl,rfl⟩|⟨pre,rfl⟩
  ·subst e1 e2
   clear tk ta hb hla;go_enter Tryz.func24,Tryz.ntmps24
   go_wp2_with fail;refine bodyPost_ret (results_tmp2 rfl _ _ _) rfl ?_;exact⟨rfl,xb _ _⟩
  ·have hlen:(pre++[last]).length=pre.length+1:=by simp
   obtain⟨tb,o,rfl,q0,q1,q2,q3⟩:=tok_cells tk ta hb pre.length (by omega)
   have hx:(pre++[last])[pre.length]'(by omega)=last:=by simp
   rw[hx]at q0 q1 q2 q3;rw[hlen]at hl ⊢;obtain⟨n,hn⟩:∃n,pre.length=n:=⟨_,rfl⟩;rw[hn]at q0 q1 q2 q3 hl ⊢;obtain⟨N,hN⟩:∃N,n+1=N:=⟨_,rfl⟩;rw[hN];have g1:¬(N:Int)=0:=by omega
   have g2:((N:Int)==0)=false:=by rw[beq_eq_false_iff_ne];omega
   have g3:(N:Int)≤(N:Int):=by omega
   have g5:(N:Int)-1=(n:Int):=by omega
   have g6:IntKind.i64.wrap (n:Int)=(n:Int):=by simp[j9];omega
   have g7:(n:Int)<(N:Int):=by omega
   have k0:=j7 w (.cells #[.int .i64 last.f0,.string last.f1,.int .i64 last.f2,.int .i64 last.f3] 75);have B0:=(xb w.heap.size w).alloc (xc _) (.cells #[.int .i64 last.f0,.string last.f1,.int .i64 last.f2,.int .i64 last.f3] 75);have hw:IntKind.i64.wrap (last.f3+(last.f1.size:Int))=last.f3+(last.f1.size:Int):=by simp[j9];omega
   have HE:=zc.mk (And.intro e1 e2);clear hlen hx hN hn e1 e2 tk ta hb hbL h1;obtain⟨lf0,lf1,lf2,lf3⟩:=last;go_enter Tryz.func24,Tryz.ntmps24
   go_wp2_with fail;have m1:(w.alloc (.cells #[.int .i64 lf0,.string lf1,.int .i64 lf2,.int .i64 lf3] 75)).cell? ⟨w.heap.size,1,none⟩=some (.string lf1):=by rw[j6 k0];rfl
   have m2:(w.alloc (.cells #[.int .i64 lf0,.string lf1,.int .i64 lf2,.int .i64 lf3] 75)).cell? ⟨w.heap.size,2,none⟩=some (.int .i64 lf2):=by rw[j6 k0];rfl
   have m3:(w.alloc (.cells #[.int .i64 lf0,.string lf1,.int .i64 lf2,.int .i64 lf3] 75)).cell? ⟨w.heap.size,3,none⟩=some (.int .i64 lf3):=by rw[j6 k0];rfl
   generalize w.alloc (.cells #[.int .i64 lf0,.string lf1,.int .i64 lf2,.int .i64 lf3] 75)=w1 at*;go_quiet (fail)
   go_wp2_with fail;refine bodyPost_ret (results_tmp2 rfl _ _ _) rfl ?_;rw[←HE.out.1,←HE.out.2];exact⟨rfl,ze B0 _⟩
end Go.Proofs.YtjopepfemhckjaaGreatDoor.NW
end
section
namespace Go.Proofs.YtjopepfemhckjaaGreatDoor.NW
open Go.Proofs Go.RowKit Go.Shelf Go.Proofs.YtjopepfemhckjaaGreatDoor.PN Go.Proofs.YtjopepfemhckjaaGreatDoorW.PrintWords Go.Proofs.YtjopepfemhckjaaGreatDoor.PParseTells Go.Proofs.YtjopepfemhckjaaGreatDoor.WP
theorem intS_pos (z:Int):0<(intS z).size:=by
 unfold intS;split
 ·rw[j8]
  show 0<1+_
  omega
 ·exact qw _
theorem ndP_pos (n:Nd)(l:List ByteArray):0<(ndP n l).size:=by
 cases n with
 |num z d=>
  show 0<(numP z d).size
  unfold numP;split
  ·split
   ·exact intS_pos z
   ·unfold decP
    rw[j8,j8];show 0<_+1+_
    omega
  ·rw[j8]
   show 0<_+1
   omega
 |px s a=>
  show 0<(pxP s a).size
  unfold pxP;rw[j8];show 0<_+1
  omega
 |op k=>
  show 0<(opP k l).size
  unfold opP;split
  ·rw[j8]
   show 0<_+1
   omega
  ·split
   ·rw[j8]
    show 0<_+1
    omega
   ·rw[j8]
    show 0<_+1
    omega
 |raw x=>
  show 0<(spP x).size
  unfold spP;rw[j8];show 0<_+1
  omega
theorem runF_pos:∀(o:List Nd) (st st':List ByteArray),(∀x∈st,0<x.size)→runF ndP o st=some st'→∀x∈st',0<x.size
 |[],st,st',h,hr=>by
  injection hr with hr;subst hr;exact h
 |n::o,st,st',h,hr=>by
  have hr2:(stp ndP n st).bind (runF ndP o)=some st':=hr;unfold stp at hr2;by_cases ha:ar n≤st.length
  ·rw[if_pos ha]at hr2
   refine runF_pos o _ st' ?_ hr2;intro x hx;rcases List.mem_append.1 hx with hx|hx
   ·exact h x (List.mem_of_mem_take hx)
   ·rw[List.mem_singleton.1 hx]
    exact ndP_pos _ _
  ·rw[if_neg ha]at hr2
   cases hr2
theorem tok_size {t:S75}(h:TokOK t):t.f1.size≤100:=by
 rcases h with⟨_,h⟩|⟨_,h⟩|⟨_,c,h,_⟩
 ·have:=h.h20;omega
 ·exact h.1
 ·rw[h]
  show 1≤100
  omega
structure ToksOK (s:ByteArray) (T:List S75):Prop where
 sz:s.size≤2010
 D:WW.lexD s=(T,0,0,0)
 ok:∀t∈T,TokOK t∧0≤t.f3∧t.f3≤((1+s.size:Nat):Int)
 len:T.length≤s.size
theorem last_of (T:List S75):∃last,(T=[]∧last=⟨0,⟨#[]⟩,1,1⟩)∨(∃pre,T=pre++[last]):=by
 rcases List.eq_nil_or_concat T with h|⟨pre,x,h⟩
 ·exact⟨_,.inl ⟨h,rfl⟩⟩
 ·exact⟨x,.inr ⟨pre,by rw[h,List.concat_eq_append]⟩⟩
theorem iv0:Iv true [] [] 0:=⟨⟨0,.nil,HG.nil⟩,fun x hx=>(by cases hx),by show((0:Nat):Int)+0≤0;decide⟩
end Go.Proofs.YtjopepfemhckjaaGreatDoor.NW
end
section
namespace Go.Proofs.YtjopepfemhckjaaGreatDoor.NW
open Go.Proofs Go.RowKit Go.Shelf Go.Proofs.YtjopepfemhckjaaGreatDoor.PN Go.Proofs.YtjopepfemhckjaaGreatDoorW.PrintWords Go.Proofs.YtjopepfemhckjaaGreatDoor.PParseTells
section
variable {s:ByteArray} {T:List S75} {last:S75}
inductive End3 (w0:WK) (g:Nat) (T:List S75) (last:S75) (R:Res) (w:World):Prop
 |ok (A c ov o) (hR:R= .ok o) (h:RB w0 g A c T ov o T.length 0 0 0 w)
 |ok' (A c ov o bad) (hR:R= .ok o) (h:RB w0 g A c T ov o T.length 0 0 bad w)
 |more (A c ov o bad) (k:Nat) (hk:k<T.length) (hR:R= .err 110 (zC (T.drop k) last).1 (zC (T.drop k) last).2) (h:RB w0 g A c T ov o k 0 0 bad w)
 |er (A c ov o) (i e:Int) (b:Nat) (hb:b≤T.length) (he:e≠0) (hR:R= .err e (zC (T.drop b) last).1 (zC (T.drop b) last).2) (h:RB w0 g A c T ov o i 0 e b w)
theorem end3 {w0:WK}{g:Nat}{R:Res}{k:Nat}{w wg:World}(hg:Glob wg)(hrun:Run2 last k true T [] [] 0 R){s':PS}{o':List Nd}(h:RBS w0 g T last o' 0 s' w)(hG:Gst last 0 1 T [] s' o'):End3 w0 g T last R w:=by
 obtain⟨A,c,ov,i,bad,h1,h2,h3⟩:=h;rcases hG with⟨g1,g2,g3,g4,g5,g6⟩|⟨g1,g2,g3⟩
 ·obtain⟨j,rfl,hj,hd⟩:=h2 g1
  obtain⟨tks,ht⟩:∃tks,s'.toks=tks:=⟨_,rfl⟩;rw[ht]at g2 g3 hd;obtain⟨k2,hw⟩:=g2.whole g3;rw[g1]at h1;have hR:=run_det hg hrun hw;cases tks with
  |nil=>
   have:j=T.length:=by
    have:=List.drop_eq_nil_iff.1 hd;omega
   subst this;exact .ok' A c ov o' bad hR h1
  |cons t r=>
   have hj2:j<T.length:=by
    rcases Nat.lt_or_ge j T.length with h|h
    ·exact h
    ·rw[List.drop_eq_nil_of_le h]at hd
     cases hd
   exact .more A c ov o' bad j hj2 (by rw[hd];exact hR) h1
 ·obtain⟨b,rfl,hb,hf⟩:=h3 g1
  obtain⟨k2,hw⟩:=g2 [] (fun x r' e=>by cases e)
  have hR:=run_det hg hrun hw;exact .er A c ov o' i s'.e b hb g1 (by rw[hf];exact hR) h1
end
theorem rparseErr_at (s:ByteArray)(hs:s.size≤20000)(T:List S75)(hD:WW.lexD s=(T,0,0,0))(hT:T.length≤20000)(htk:∀t∈T,TokOK t)(last:S75)(hlast:(T=[]∧last=⟨0,⟨#[]⟩,1,1⟩)∨(∃pre,T=pre++[last]))(hla:0≤last.f3∧last.f3+last.f1.size≤1000000)(k:Nat)(e l c:Int)(hrun:Run2 last k true T [] [] 0 (.err e l c)){wg:World}(hg:Glob wg)(w:World):Calls Tryz.prog 11 #[.string s] w fun ex w'=>ex= .returned (.tuple #[.slice none 0 0,.int .i64 e,.int .i64 l,.int .i64 c])∧Below w.heap.size w w':=by
 have HL:=Lib.hid (rlex_at s hs T 0 0 0 hD w);have HI:=zc.mk (And.intro hT (And.intro htk (And.intro hlast (And.intro hla (And.intro hrun hg)))));clear hD hT htk hlast hla hrun hg;go_enter Tryz.func11,Tryz.ntmps11
 go_wp2_with fail;refine HL.out.mono ?_;rintro ex w1 ⟨v,rfl,hv,hb⟩;obtain⟨A,c0,rfl,hc,hA,hC⟩:=ju hv;have HP:zc (RBS ⟨w1,[]⟩ w1.heap.size T last [] 0 (ps T) (w1.alloc (.cells #[.slice A T.length c0,.int .i64 0,.slice none 0 0,.int .i64 0,.int .i64 0,.int .i64 0] 54))):=
  ⟨A,c0,.slice none 0 0,0,0,⟨j7 w1 _,hc,hC,hA,Kd.R_nil _ _ _ _ _,(xb _ _).alloc (xc _) _,xc _,by have:=HI.out.1;omega,fun p hp=>(by cases hp),fun p hp=>(by cases hp)⟩,fun _=>⟨0,rfl,Nat.zero_le _,rfl⟩,fun h=>absurd rfl h⟩
 have HS:=Lib.hid (rsum_all (w0:=⟨w1,[]⟩) (g:=w1.heap.size) (L:=T) (last:=last) rfl (T.length+1) T [] 0 (by omega) HI.out.2.1 (fun t ht=>by have:=tok_size (HI.out.2.1 t ht);omega) (by have:=HI.out.1;simp;omega) (by omega) (by have:=HI.out.1;omega) _ HP.out)
 have HB:=zc.mk hb;have HCA:=zc.mk (And.intro hA hC);clear HL hv hb hc hA hC HP;go_wp2_with fail;refine HS.out.mono ?_;rintro ex w2 ⟨rfl,s',o',hRB,hG⟩;have HE:=end3 HI.out.2.2.2.2.2 HI.out.2.2.2.2.1 hRB hG;clear hRB hG HS;have hTl:¬(T.length:Int)<(T.length:Int):=by omega
 rcases HE with⟨A1,c1,ov,o,hR,_⟩|⟨A1,c1,ov,o,bad,hR,_⟩|⟨A1,c1,ov,o,bad,j,hj,hR,h1⟩|⟨A1,c1,ov,o,i,er,b,hb,he,hR,h1⟩
 ·cases hR
 ·cases hR
 ·injection hR with e1 e2 e3
  have HF:=qi (w0:=⟨w1,[]⟩) (g:=w1.heap.size) (L:=T) (last:=last) (out:=o) (dp:=0) (ps (T.drop j)) 110 (by decide)
  have HR:zc (RBS ⟨w1,[]⟩ w1.heap.size T last o 0 (ps (T.drop j)) w2):=⟨A1,c1,ov,j,bad,h1,fun _=>⟨j,rfl,by omega,rfl⟩,fun h=>absurd rfl h⟩
  have q1:=h1.cells.2.1;have hjl:(j:Int)<(T.length:Int):=by omega
  have he0:e≠0:=by rw[e1];decide
  obtain⟨sE,hsE⟩:∃sE,(ps (T.drop j)).fail 110 last=sE:=⟨_,rfl⟩;have hse:sE.e=e:=by rw[←hsE,e1];rfl
  have hp0:sE.p0=l:=by rw[←hsE,e2];rfl
  have hp1:sE.p1=c:=by rw[←hsE,e3];rfl
  rw[hsE]at HF;clear h1 hsE e1 e2 e3;go_wp2_with fail;refine HF.go HR ?_;clear HR q1;intro w3 HR;obtain⟨A2,c2,ov2,i2,bad2,h6,_,h7⟩:=HR.out;obtain⟨b2,rfl,hb2,hf2⟩:=h7 (by rw[hse];exact he0)
  rw[hse]at h6;rw[hp0,hp1]at hf2;have HPl:=fun w hw=>Lib.hid (rplace_at (w0:=w1) (c:=c0) (w:=w) HCA.out.2 HCA.out.1 hw (by have:=HI.out.1;omega) last HI.out.2.2.1 HI.out.2.2.2.1 b2 hb2 _ _ hf2)
  have HQ:=zc.mk h6;obtain⟨c20,c21,c22,c23,q4,q5⟩:=h6.cells;have hlen:=HQ.out.blk;have he3:(e !=0)=true:=by simpa using he0
  clear h6 h7 HR hf2 hb2 hse hp0 hp1 c20 c21 c22 c23 hlen;go_wp2_with fail;refine(HPl _ HQ.out.bl).out.mono ?_;rintro ex w5 ⟨rfl,hb5⟩;have HQ2:=zc.mk (HQ.out.step hb5);clear HPl HQ hb5 q4 q5;have q4:=HQ2.out.cells.2.2.2.2.1;have HB5:=zc.mk (HB.out.trans (HQ2.out.bl.mono HB.out.size));clear HQ2;go_wp2_with fail;go_region;go_wp2_with fail;refine bodyPost_ret (WW.results_tmp4 rfl _ _ _) rfl ?_;exact⟨rfl,HB5.out.drew⟩
 ·injection hR with e1 e2 e3
  have he0:e≠0:=by rw[e1];exact he
  obtain⟨sE,hsE⟩:∃sE:PS,(⟨[],er,(zC (T.drop b) last).1,(zC (T.drop b) last).2⟩:PS)=sE:=⟨_,rfl⟩;have hse:sE.e=e:=by rw[←hsE,e1]
  have hp0:sE.p0=l:=by rw[←hsE,e2]
  have hp1:sE.p1=c:=by rw[←hsE,e3]
  have HR:zc (RBS ⟨w1,[]⟩ w1.heap.size T last o 0 sE w2):=⟨A1,c1,ov,i,b,by rw[←hsE];exact h1,fun h=>absurd (hse.symm.trans h) he0,fun _=>⟨b,rfl,hb,by rw[←hsE]⟩⟩
  have HF:=qi (w0:=⟨w1,[]⟩) (g:=w1.heap.size) (L:=T) (last:=last) (out:=o) (dp:=0) sE 110 (by decide)
  rw[show sE.fail 110 last=sE by unfold PS.fail;rw[if_neg (by rw[hse];exact he0)]]at HF
  have q1:=h1.cells.2.1;have q40:=h1.cells.2.2.2.2.1;have q50:=h1.cells.2.2.2.2.2;rw[←e1]at q40;by_cases hil:i<(T.length:Int)
  ·clear h1 hsE e1 e2 e3 he hb q40 q50
   go_wp2_with fail;refine HF.go HR ?_;clear HR q1;intro w3 HR;obtain⟨A2,c2,ov2,i2,bad2,h6,_,h7⟩:=HR.out;obtain⟨b2,rfl,hb2,hf2⟩:=h7 (by rw[hse];exact he0)
   rw[hse]at h6;rw[hp0,hp1]at hf2;have HPl:=fun w hw=>Lib.hid (rplace_at (w0:=w1) (c:=c0) (w:=w) HCA.out.2 HCA.out.1 hw (by have:=HI.out.1;omega) last HI.out.2.2.1 HI.out.2.2.2.1 b2 hb2 _ _ hf2)
   have HQ:=zc.mk h6;obtain⟨c20,c21,c22,c23,q4,q5⟩:=h6.cells;have hlen:=HQ.out.blk;have he3:(e !=0)=true:=by simpa using he0
   clear h6 h7 HR hf2 hb2 hse hp0 hp1 c20 c21 c22 c23 hlen;go_wp2_with fail;refine(HPl _ HQ.out.bl).out.mono ?_;rintro ex w5 ⟨rfl,hb5⟩;have HQ2:=zc.mk (HQ.out.step hb5);clear HPl HQ hb5 q4 q5;have q4:=HQ2.out.cells.2.2.2.2.1;have HB5:=zc.mk (HB.out.trans (HQ2.out.bl.mono HB.out.size));clear HQ2;go_wp2_with fail;go_region;go_wp2_with fail;refine bodyPost_ret (WW.results_tmp4 rfl _ _ _) rfl ?_;exact⟨rfl,HB5.out.drew⟩
  ·clear h1 hsE e1 e2 e3 he hb HF q40 q50
   obtain⟨A2,c2,ov2,i2,bad2,h6,_,h7⟩:=HR.out;obtain⟨b2,rfl,hb2,hf2⟩:=h7 (by rw[hse];exact he0)
   rw[hse]at h6;rw[hp0,hp1]at hf2;have HPl:=fun w hw=>Lib.hid (rplace_at (w0:=w1) (c:=c0) (w:=w) HCA.out.2 HCA.out.1 hw (by have:=HI.out.1;omega) last HI.out.2.2.1 HI.out.2.2.2.1 b2 hb2 _ _ hf2)
   have HQ:=zc.mk h6;obtain⟨c20,c21,c22,c23,q4,q5⟩:=h6.cells;have hlen:=HQ.out.blk;have he3:(e !=0)=true:=by simpa using he0
   clear h6 h7 HR hf2 hb2 hse hp0 hp1 c20 c21 c22 c23 hlen;go_wp2_with fail;refine(HPl _ HQ.out.bl).out.mono ?_;rintro ex w5 ⟨rfl,hb5⟩;have HQ2:=zc.mk (HQ.out.step hb5);clear HPl HQ hb5 q4 q5;have q4:=HQ2.out.cells.2.2.2.2.1;have HB5:=zc.mk (HB.out.trans (HQ2.out.bl.mono HB.out.size));clear HQ2;go_wp2_with fail;go_region;go_wp2_with fail;refine bodyPost_ret (WW.results_tmp4 rfl _ _ _) rfl ?_;exact⟨rfl,HB5.out.drew⟩
end Go.Proofs.YtjopepfemhckjaaGreatDoor.NW
end
section
namespace Go.Proofs.YtjopepfemhckjaaGreatDoor.NW
open Go.Proofs Go.RowKit Go.Shelf Go.Proofs.YtjopepfemhckjaaGreatDoor.PN Go.Proofs.YtjopepfemhckjaaGreatDoorW.PrintWords Go.Proofs.YtjopepfemhckjaaGreatDoor.PParseTells
theorem rparseOk_at (s:ByteArray)(hs:s.size≤20000)(T:List S75)(hD:WW.lexD s=(T,0,0,0))(hT:T.length≤20000)(htk:∀t∈T,TokOK t)(last:S75)(hlast:(T=[]∧last=⟨0,⟨#[]⟩,1,1⟩)∨(∃pre,T=pre++[last]))(hla:0≤last.f3∧last.f3+last.f1.size≤1000000)(k:Nat)(o:List Nd)(hrun:Run2 last k true T [] [] 0 (.ok o))(chk:Int)(hchk:∀A c w,o.length≤c→Kd.C k37 w A o.length (o.map nd37)→Calls Tryz.prog 15 #[.slice A o.length c] w fun e w'=>e= .returned (.int .i64 chk)∧Below w.heap.size w w'){wg:World}(hg:Glob wg)(w:World):Calls Tryz.prog 11 #[.string s] w fun ex w'=>∃A c,ex= .returned (.tuple #[if chk=0 then .slice A o.length c else .slice none 0 0,.int .i64 (if chk=0 then 0 else 100),.int .i64 (if chk=0 then 0 else 1),.int .i64 (if chk=0 then 0 else 1)])∧(chk=0→o.length≤c∧(∀ad,A=some ad→∃tb of,ad=⟨tb,of,none⟩∧tb<w'.heap.size)∧Kd.C k37 w' A o.length (o.map nd37))∧Below w.heap.size w w':=by
 have HL:=Lib.hid (rlex_at s hs T 0 0 0 hD w);have HI:=zc.mk (And.intro hT (And.intro htk (And.intro hlast (And.intro hla (And.intro hrun hg)))));clear hD hT htk hlast hla hrun hg;go_enter Tryz.func11,Tryz.ntmps11
 go_wp2_with fail;refine HL.out.mono ?_;rintro ex w1 ⟨v,rfl,hv,hb⟩;obtain⟨A,c0,rfl,hc,hA,hC⟩:=ju hv;have HP:zc (RBS ⟨w1,[]⟩ w1.heap.size T last [] 0 (ps T) (w1.alloc (.cells #[.slice A T.length c0,.int .i64 0,.slice none 0 0,.int .i64 0,.int .i64 0,.int .i64 0] 54))):=
  ⟨A,c0,.slice none 0 0,0,0,⟨j7 w1 _,hc,hC,hA,Kd.R_nil _ _ _ _ _,(xb _ _).alloc (xc _) _,xc _,by have:=HI.out.1;omega,fun p hp=>(by cases hp),fun p hp=>(by cases hp)⟩,fun _=>⟨0,rfl,Nat.zero_le _,rfl⟩,fun h=>absurd rfl h⟩
 have HS:=Lib.hid (rsum_all (w0:=⟨w1,[]⟩) (g:=w1.heap.size) (L:=T) (last:=last) rfl (T.length+1) T [] 0 (by omega) HI.out.2.1 (fun t ht=>by have:=tok_size (HI.out.2.1 t ht);omega) (by have:=HI.out.1;simp;omega) (by omega) (by have:=HI.out.1;omega) _ HP.out)
 have HB:=zc.mk hb;have HCA:=zc.mk (And.intro hA hC);clear HL hv hb hc hA hC HP;go_wp2_with fail;refine HS.out.mono ?_;rintro ex w2 ⟨rfl,s',o',hRB,hG⟩;have HE:=end3 HI.out.2.2.2.2.2 HI.out.2.2.2.2.1 hRB hG;clear hRB hG HS;have hTl:¬(T.length:Int)<(T.length:Int):=by omega
 have hfin:∃A1 c1 ov bad,RB ⟨w1,[]⟩ w1.heap.size A1 c1 T ov o T.length 0 0 bad w2:=by
  rcases HE with⟨A1,c1,ov,o1,hR,h1⟩|⟨A1,c1,ov,o1,bad,hR,h1⟩|⟨A1,c1,ov,o1,bad,j,hj,hR,h1⟩|⟨A1,c1,ov,o1,i,er,b,hb,he,hR,h1⟩
  ·injection hR with e;subst e;exact⟨A1,c1,ov,0,h1⟩
  ·injection hR with e;subst e;exact⟨A1,c1,ov,bad,h1⟩
  ·cases hR
  ·cases hR
 obtain⟨A1,c1,ov,bad,h1⟩:=hfin;obtain⟨B,cB,rfl,hcB,hB,hCB⟩:=ju h1.ou;rw[List.length_map]at h1 hcB hCB;have HQ:=zc.mk h1;obtain⟨q0,q1,q2,q3,q4,q5⟩:=h1.cells;have HCk:=Lib.hid (hchk B cB w2 hcB hCB);have HCB:=zc.mk (And.intro hcB (And.intro hB hCB));clear h1 hcB hB hCB hchk HE;go_wp2_with fail;refine HCk.out.mono ?_;rintro ex w3 ⟨rfl,hb3⟩;have h3:=HQ.out.step hb3;have q2:=h3.cells.2.2.1;have HB3:=zc.mk (HB.out.trans (h3.bl.mono HB.out.size));have HF:=zc.mk (ju h3.ou);clear HQ h3 hb3 q0 q1 q3 q4 q5 HCk;by_cases hc0:chk=0
 ·subst hc0
  go_wp2_with fail;refine bodyPost_ret (WW.results_tmp4 rfl _ _ _) rfl ?_;obtain⟨B2,c2,e,k1,k2,k3⟩:=HF.out;rw[List.length_map]at e k1 k3;injection e with e1 e2 e3;subst e1 e3;exact⟨_,_,rfl,⟨k1,fun ad h=>by obtain⟨tb,x,e,hl⟩:=k2 ad h;exact⟨tb,⟨x,e⟩,hl⟩,k3⟩,HB3.out⟩
 ·have hc1:(chk !=0)=true:=by simpa using hc0
  go_wp2_with fail;refine bodyPost_ret (WW.results_tmp4 rfl _ _ _) rfl ?_;first|exact⟨none,0,rfl,fun h=>absurd h hc0,HB3.out⟩|exact⟨rfl,HB3.out⟩|exact⟨none,0,by simp[hc0],fun h=>absurd h hc0,HB3.out⟩|exact⟨none,0,rfl,HB3.out⟩
end Go.Proofs.YtjopepfemhckjaaGreatDoor.NW
end
section
namespace Go.Proofs.YtjopepfemhckjaaGreatDoor.NW
open Go.Proofs Go.RowKit Go.Shelf Go.Proofs.YtjopepfemhckjaaGreatDoor.PN Go.Proofs.YtjopepfemhckjaaGreatDoorW.PrintWords Go.Proofs.YtjopepfemhckjaaGreatDoor.PParseTells
theorem rNodeSp_at (k:Int)(hk:k=2∨k=3∨k=4)(s:ByteArray)(a b:Int)(ha:0≤a)(hb1:a≤b)(hb2:b≤9999)(hb3:b-a<60)(HA:∀w,RowKit.Hid (Calls Tryz.prog 57 #[.string s] w fun e w'=>e= .returned (.bool true)∧Below w.heap.size w w'))(w:World):
 Calls Tryz.prog 27 #[.agg #[.int .i64 k,.string ⟨#[]⟩,.string ⟨#[]⟩,.string s,.int .i64 a,.int .i64 b]] w fun e w'=>e= .returned (.bool true)∧Below w.heap.size w w':=by
 have hw:IntKind.i64.wrap (b-a)=b-a:=by simp[j9];omega
 have n0:¬k=0:=by omega
 have n1:¬k=1:=by omega
 have n2:2≤k:=by omega
 have n4:k≤4:=by omega
 clear hk;have m0:=j7 w (.cells #[.int .i64 k,.string ⟨#[]⟩,.string ⟨#[]⟩,.string s,.int .i64 a,.int .i64 b] 37);have B0:Below w.heap.size w (w.alloc (.cells #[.int .i64 k,.string ⟨#[]⟩,.string ⟨#[]⟩,.string s,.int .i64 a,.int .i64 b] 37)):=(xb _ w).alloc (xc _) _;go_enter Tryz.func27,Tryz.ntmps27
 go_wp2_with fail;generalize w.alloc (.cells #[.int .i64 k,.string ⟨#[]⟩,.string ⟨#[]⟩,.string s,.int .i64 a,.int .i64 b] 37)=w0 at*;refine(HA _).out.mono ?_;rintro e w1 ⟨rfl,hb⟩;have k1:=zK hb m0;have B1:=B0.trans (hb.mono B0.size);have c4:w1.cell? ⟨w.heap.size,4,none⟩=some (.int .i64 a):=by rw[j6 k1];rfl
 have c5:w1.cell? ⟨w.heap.size,5,none⟩=some (.int .i64 b):=by rw[j6 k1];rfl
 clear m0 B0 hb;go_wp2_with fail;go_ret;exact⟨rfl,B1⟩
end Go.Proofs.YtjopepfemhckjaaGreatDoor.NW
end
