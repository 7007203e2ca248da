/-
  Part 42 of the proof of parseTells_holds: texts of this seat, put together.
-/
import Derived.Test.YtjopepfemhckjaaGreatDoorTl41
set_option linter.unusedVariables false
set_option linter.unusedSimpArgs false
set_option maxHeartbeats 16000000
set_option maxRecDepth 100000
section
namespace Go.Proofs.YtjopepfemhckjaaGreatDoor.NW
open Go.Proofs Go.RowKit Go.Shelf Go.Proofs.YtjopepfemhckjaaGreatDoor.PN Go.Proofs.YtjopepfemhckjaaGreatDoorW.PrintWords Go.Proofs.YtjopepfemhckjaaGreatDoor.PParseTells
theorem rof_s (n:Nat)(hn:n≤9223372036854775807):Rs 16 #[.int .i64 (n:Int)] (.string (natS n)):=by
 intro w;have h0:¬(n:Int)<0:=by omega
 obtain⟨R,hR⟩:∃R,natS n=R:=⟨_,rfl⟩;rw[hR];have hRs:R.size≤1000:=by
  rw[←hR];have h1:=zH n 19 (Nat.lt_of_le_of_lt hn (by decide)) (by omega)
  have e:(natS n).size=(Lib.decDigits n).length:=by show(natS n).data.toList.length=_;rw[zq]
  omega
 have HS:zc (natS n++(⟨#[]⟩:xf)=R):=⟨by rw[hR];exact z7 (by rw[cat_l];exact List.append_nil _)⟩
 clear hR;go_enter Tryz.func16,Tryz.ntmps16
 go_wp2_with fail;go_loopg [0,3] (n+1) (fun kq v0 v3 w'=>∃(m:Nat) (s:ByteArray),v0= .int .i64 m∧v3= .string s∧m<kq∧m≤9223372036854775807∧zc (natS m++s=R)∧w=w')
 case atStart=>exact⟨n,⟨#[]⟩,rfl,rfl,by omega,hn,HS,rfl⟩
 case round=>
  clear HS;obtain⟨m,s,rfl,rfl,hlt,hm,HS,rfl⟩:=hrel;have hss:s.size≤1000:=by
   have:=congrArg ByteArray.size HS.out;rw[j8]at this;omega
  by_cases h9:9<m
  ·have h1:(9:Int)<(m:Int):=by omega
   have e1:(m:Int).tmod 10=((m%10:Nat):Int):=by rw[Int.tmod_eq_emod_of_nonneg (by omega)];omega
   have e2:(m:Int).tdiv 10=((m/10:Nat):Int):=by rw[Int.tdiv_eq_ediv_of_nonneg (by omega)];omega
   have hn10:=natS_ten m (by omega)
   have HS2:zc (natS (m/10)++((⟨#[48,49,50,51,52,53,54,55,56,57]⟩:xf).extract (m%10) (m%10+1)++s)=R):=⟨by rw[←HS.out,hn10,ByteArray.append_assoc]⟩
   obtain⟨d,hd⟩:∃d,m%10=d:=⟨_,rfl⟩;obtain⟨u,hu⟩:∃u,m/10=u:=⟨_,rfl⟩;have hd9:d≤9:=by omega
   have hum:u<m:=by omega
   have hxs:((⟨#[48,49,50,51,52,53,54,55,56,57]⟩:xf).extract d (d+1)).size=1:=by rw[dig10 d hd9];rfl
   have hov:¬9223372036854775807<((⟨#[48,49,50,51,52,53,54,55,56,57]⟩:xf).extract d (d+1)).size+s.size:=by rw[hxs];omega
   rw[hd]at e1 HS2;rw[hu]at e2 HS2;have i1:(0:Int)≤(d:Int):=by omega
   have i2:(d:Int)≤(d:Int)+1:=by omega
   have i3:(d:Int)+1≤10:=by omega
   have i4:((d:Int)+1).toNat=d+1:=by omega
   have e3:IntKind.i64.wrap ((d:Int)+1)=(d:Int)+1:=by simp[j9];omega
   have e4:IntKind.i64.wrap (d:Int)=(d:Int):=by simp[j9];omega
   have e5:IntKind.i64.wrap (u:Int)=(u:Int):=by simp[j9];omega
   clear hn10 HS hxs hd hu;go_wp2_with fail;go_roundg (gk-1)
   case measure=>omega
   case rel=>exact⟨u,_,rfl,rfl,by omega,by omega,HS2,rfl⟩
  ·have h1:¬(9:Int)<(m:Int):=by omega
   have hn9:=natS_dig m (by omega)
   have hr:=HS.out;rw[hn9]at hr;have hxs:((⟨#[48,49,50,51,52,53,54,55,56,57]⟩:xf).extract m (m+1)).size=1:=by rw[dig10 m (by omega)];rfl
   have hov:¬9223372036854775807<((⟨#[48,49,50,51,52,53,54,55,56,57]⟩:xf).extract m (m+1)).size+s.size:=by rw[hxs];omega
   have i1:(0:Int)≤(m:Int):=by omega
   have i2:(m:Int)≤(m:Int)+1:=by omega
   have i3:(m:Int)+1≤10:=by omega
   have i4:((m:Int)+1).toNat=m+1:=by omega
   have e3:IntKind.i64.wrap ((m:Int)+1)=(m:Int)+1:=by simp[j9];omega
   subst hr;clear hn9 HS hxs;go_wp2_with fail;go_ret;exact⟨rfl,rfl⟩
theorem j3 {P:Program}{md:Region.Mode}{ops:Array Oper}{Q:Exit→Act→World→Prop}{S S2:World→Prop}(h:∀w,S2 w→S w):∀(fuel:Nat) (listed:Array Bool) (a:Act) (w:World),wpAnyH P md ops Q S2 fuel listed a w→wpAnyH P md ops Q S fuel listed a w
 |0,_,_,_,hh=>hh
 |fuel+1,_,_,_,hh=>⟨hh.1,fun i hi=>wpOp_mono (fun a' w' h'=>⟨h _ h'.1,j3 h fuel _ a' w' h'.2⟩) (hh.2 i hi)⟩
theorem tkH {P:Program}{md:Region.Mode}{ops:Array Oper}{Q:Exit→Act→World→Prop}{S:World→Prop}{fuel:Nat}{listed:Array Bool}{a:Act}{w:World}(i:Nat){oi:Oper}{v:Value}(hi:ops[i]? =some oi:=by simp only[List.getElem?_toArray,List.getElem?_cons_zero,List.getElem?_cons_succ];rfl)(hs:Region.noSelect ops=true:=by kernel_rfl)(hf:Region.free md ops listed i=true:=by kernel_rfl)(hr:(Region.ready md ops listed).contains i=true:=by kernel_rfl)(hQ:∀c a w,Q (.panic c) (a.put oi.dst v) w→Q (.panic c) a w:=by intro _ _ _ h;exact h)(hw:Region.wanted oi (yielded ops a.tmps)=true:=by rfl)(hS:S w:=by assumption)(hy:∀w,S w→(execOp a.eval oi).run P w= .ok (.value v) w:=by intro w h;(try dsimp only at h);first|(go_simp;done)|(go_simp;with_reducible rfl))(h:wpAnyH P md ops Q S fuel (listed.setIfInBounds i true) (a.put oi.dst v) w):wpAnyH P md ops Q S (fuel+1) listed a w:=
 wpAnyH_take hi hs hf hr hQ (.inl ⟨hw,hy⟩) hS h
theorem rLeafSp_at (k:Int)(hk:k=2∨k=3∨k=4)(s pa pb:ByteArray)(a b:Int)(hs:s.size≤100)(hpa:pa.size≤100)(hpb:pb.size≤100)(HO:Rs 16 #[.int .i64 a] (.string pa))(HO2:Rs 16 #[.int .i64 b] (.string pb))(w:World):
 Calls Tryz.prog 29 #[.agg #[.int .i64 k,.string ⟨#[]⟩,.string ⟨#[]⟩,.string s,.int .i64 a,.int .i64 b]] w fun e w'=>e= .returned (.string ((((((((spW k)++(⟨#[40]⟩:xf))++s)++(⟨#[44,32]⟩:xf))++pa)++(⟨#[44,32]⟩:xf))++pb)++(⟨#[41]⟩:xf)))∧Below w.heap.size w w':=by
 obtain⟨RR,hR⟩:∃RR,((((((((spW k)++(⟨#[40]⟩:xf))++s)++(⟨#[44,32]⟩:xf))++pa)++(⟨#[44,32]⟩:xf))++pb)++(⟨#[41]⟩:xf))=RR:=⟨_,rfl⟩;rw[hR];have n0:¬k=0:=by omega
 have n1:¬k=1:=by omega
 have hJ:(IntKind.i64.wrap (k-2)=0∧spW k++(⟨#[40]⟩:xf)=⟨#[97,118,103,40]⟩)∨(IntKind.i64.wrap (k-2)=1∧spW k++(⟨#[40]⟩:xf)=⟨#[104,105,40]⟩)∨(IntKind.i64.wrap (k-2)=2∧spW k++(⟨#[40]⟩:xf)=⟨#[108,111,40]⟩):=by
  rcases hk with rfl|rfl|rfl
  ·exact .inl ⟨by decide,by decide⟩
  ·exact .inr (.inl ⟨by decide,by decide⟩)
  ·exact .inr (.inr ⟨by decide,by decide⟩)
 have k0:=j7 w (.cells #[.int .i64 k,.string ⟨#[]⟩,.string ⟨#[]⟩,.string s,.int .i64 a,.int .i64 b] 37);have hb0:=(xb w.heap.size w).alloc (xc _) (.cells #[.int .i64 k,.string ⟨#[]⟩,.string ⟨#[]⟩,.string s,.int .i64 a,.int .i64 b] 37);have oa0:¬9223372036854775807<4+s.size:=by omega
 have oa1:¬9223372036854775807<4+s.size+2:=by omega
 have oa2:¬9223372036854775807<4+s.size+2+pa.size:=by omega
 have oa3:¬9223372036854775807<4+s.size+2+pa.size+2:=by omega
 have oa4:¬9223372036854775807<4+s.size+2+pa.size+2+pb.size:=by omega
 have oa5:¬9223372036854775807<4+s.size+2+pa.size+2+pb.size+1:=by omega
 have oc0:¬9223372036854775807<3+s.size:=by omega
 have oc1:¬9223372036854775807<3+s.size+2:=by omega
 have oc2:¬9223372036854775807<3+s.size+2+pa.size:=by omega
 have oc3:¬9223372036854775807<3+s.size+2+pa.size+2:=by omega
 have oc4:¬9223372036854775807<3+s.size+2+pa.size+2+pb.size:=by omega
 have oc5:¬9223372036854775807<3+s.size+2+pa.size+2+pb.size+1:=by omega
 have hSB:∀w':World,Below (w.alloc (.cells #[.int .i64 k,.string ⟨#[]⟩,.string ⟨#[]⟩,.string s,.int .i64 a,.int .i64 b] 37)).heap.size (w.alloc (.cells #[.int .i64 k,.string ⟨#[]⟩,.string ⟨#[]⟩,.string s,.int .i64 a,.int .i64 b] 37)) w'→w'.cell? ⟨w.heap.size,0,none⟩=some (.int .i64 k)∧w'.cell? ⟨w.heap.size,3,none⟩=some (.string s)∧w'.cell? ⟨w.heap.size,4,none⟩=some (.int .i64 a)∧w'.cell? ⟨w.heap.size,5,none⟩=some (.int .i64 b):=fun w' hb=>by
  have k:=zK hb k0;exact⟨by rw[j6 k];rfl,by rw[j6 k];rfl,by rw[j6 k];rfl,by rw[j6 k];rfl⟩
 have HB:=zc.mk (xb (w.alloc (.cells #[.int .i64 k,.string ⟨#[]⟩,.string ⟨#[]⟩,.string s,.int .i64 a,.int .i64 b] 37)).heap.size (w.alloc (.cells #[.int .i64 k,.string ⟨#[]⟩,.string ⟨#[]⟩,.string s,.int .i64 a,.int .i64 b] 37)));have HR:=zc.mk hR;clear hR hk;rcases hJ with⟨hwk,hsg⟩|⟨hwk,hsg⟩|⟨hwk,hsg⟩
 all_goals
  go_enter Tryz.func29,Tryz.ntmps29
  go_wp2_with fail;generalize w.alloc (.cells #[.int .i64 k,.string ⟨#[]⟩,.string ⟨#[]⟩,.string s,.int .i64 a,.int .i64 b] 37)=w1 at*;have hsg:=zc.mk hsg;obtain⟨c0,c3,c4,c5⟩:=hSB _ (xb _ _);clear k0;have HO1:=fun W=>Lib.hid (HO W)
  have HO3:=fun W=>Lib.hid (HO2 W)
  clear HO HO2;have hX:(w1.drew.alloc (.cells #[.string ⟨#[97,118,103,40]⟩,.string ⟨#[104,105,40]⟩,.string ⟨#[108,111,40]⟩] 9)).heap[w1.heap.size]? =some (.cells #[.string ⟨#[97,118,103,40]⟩,.string ⟨#[104,105,40]⟩,.string ⟨#[108,111,40]⟩] 9):=j7 w1.drew _;have hXc:(fun w':World=>w'.cell? ⟨w1.heap.size,0,none⟩=some (.string ⟨#[97,118,103,40]⟩)∧w'.cell? ⟨w1.heap.size,1,none⟩=some (.string ⟨#[104,105,40]⟩)∧w'.cell? ⟨w1.heap.size,2,none⟩=some (.string ⟨#[108,111,40]⟩)) (w1.drew.alloc (.cells #[.string ⟨#[97,118,103,40]⟩,.string ⟨#[104,105,40]⟩,.string ⟨#[108,111,40]⟩] 9)):=⟨by rw[j6 hX];rfl,by rw[j6 hX];rfl,by rw[j6 hX];rfl⟩
  clear hX;refine wp_region_held_drew (S:=fun w'=>w'.cell? ⟨w.heap.size,0,none⟩=some (.int .i64 k)∧w'.cell? ⟨w.heap.size,3,none⟩=some (.string s)∧w'.cell? ⟨w.heap.size,4,none⟩=some (.int .i64 a)∧w'.cell? ⟨w.heap.size,5,none⟩=some (.int .i64 b)) rfl ⟨c0,c3,c4,c5⟩ (fun hH=>?_)
  refine tkH 1 (h:=?_);simp only[Act.put,List.setIfInBounds_toArray,List.set_cons_zero,List.set_cons_succ];refine tkH 6 (h:=?_);simp only[Act.put,List.setIfInBounds_toArray,List.set_cons_zero,List.set_cons_succ];refine tkH 10 (h:=?_);simp only[Act.put,List.setIfInBounds_toArray,List.set_cons_zero,List.set_cons_succ];refine tkH 15 (h:=?_);simp only[Act.put,List.setIfInBounds_toArray,List.set_cons_zero,List.set_cons_succ];refine tkH 2 (h:=?_);simp only[Act.put,List.setIfInBounds_toArray,List.set_cons_zero,List.set_cons_succ];refine tkH 7 (h:=?_);simp only[Act.put,List.setIfInBounds_toArray,List.set_cons_zero,List.set_cons_succ];refine tkH 11 (h:=?_);simp only[Act.put,List.setIfInBounds_toArray,List.set_cons_zero,List.set_cons_succ];refine tkH 16 (h:=?_);simp only[Act.put,List.setIfInBounds_toArray,List.set_cons_zero,List.set_cons_succ];refine tkH 3 (h:=?_);simp only[Act.put,List.setIfInBounds_toArray,List.set_cons_zero,List.set_cons_succ];refine wpAnyH_ready (rs:=[0,12]) (by kernel_rfl) (by simp) ?_
  refine AllReadyH.cons (o:=_) (by simp only[List.getElem?_toArray,List.getElem?_cons_zero,List.getElem?_cons_succ];rfl) (fun K hK=>?_) ?_
  ·go_simp
   refine hK.out _ _ (hSB _ bb) (fun hH2=>?_)
   clear hK K hH
   (try simp only[Act.put,List.setIfInBounds_toArray,List.set_cons_zero,List.set_cons_succ])
   refine j3 (S2:=fun w'=>(w'.cell? ⟨w.heap.size,0,none⟩=some (.int .i64 k)∧w'.cell? ⟨w.heap.size,3,none⟩=some (.string s)∧w'.cell? ⟨w.heap.size,4,none⟩=some (.int .i64 a)∧w'.cell? ⟨w.heap.size,5,none⟩=some (.int .i64 b))∧w'.cell? ⟨w1.heap.size,0,none⟩=some (.string ⟨#[97,118,103,40]⟩)∧w'.cell? ⟨w1.heap.size,1,none⟩=some (.string ⟨#[104,105,40]⟩)∧w'.cell? ⟨w1.heap.size,2,none⟩=some (.string ⟨#[108,111,40]⟩)) (fun w h=>h.1) _ _ _ _ ?_
   have hH:(fun w':World=>(w'.cell? ⟨w.heap.size,0,none⟩=some (.int .i64 k)∧w'.cell? ⟨w.heap.size,3,none⟩=some (.string s)∧w'.cell? ⟨w.heap.size,4,none⟩=some (.int .i64 a)∧w'.cell? ⟨w.heap.size,5,none⟩=some (.int .i64 b))∧w'.cell? ⟨w1.heap.size,0,none⟩=some (.string ⟨#[97,118,103,40]⟩)∧w'.cell? ⟨w1.heap.size,1,none⟩=some (.string ⟨#[104,105,40]⟩)∧w'.cell? ⟨w1.heap.size,2,none⟩=some (.string ⟨#[108,111,40]⟩)) (w1.drew.alloc (.cells #[.string ⟨#[97,118,103,40]⟩,.string ⟨#[104,105,40]⟩,.string ⟨#[108,111,40]⟩] 9)):=⟨hH2,hXc⟩
   clear hH2;refine tkH 4 (h:=?_);simp only[Act.put,List.setIfInBounds_toArray,List.set_cons_zero,List.set_cons_succ];refine tkH 5 (h:=?_);simp only[Act.put,List.setIfInBounds_toArray,List.set_cons_zero,List.set_cons_succ];refine tkH 8 (h:=?_);simp only[Act.put,List.setIfInBounds_toArray,List.set_cons_zero,List.set_cons_succ];refine tkH 9 (h:=?_);simp only[Act.put,List.setIfInBounds_toArray,List.set_cons_zero,List.set_cons_succ];refine wpAnyH_ready (rs:=[12]) (by kernel_rfl) (by simp) ?_
   refine AllReadyH.cons (o:=_) (by simp only[List.getElem?_toArray,List.getElem?_cons_zero,List.getElem?_cons_succ];rfl) (fun K hK=>?_) ?_
   ·go_simp
    go_at_call 16
    refine(HO1 _).out.mono ?_;rintro e w4 ⟨rfl,rfl⟩
    (try go_wp2_with fail)
    refine hK.out _ _ hH (fun hH2=>?_)
    clear hK K hH2
    (try simp only[Act.put,List.setIfInBounds_toArray,List.set_cons_zero,List.set_cons_succ])
    refine tkH 13 (h:=?_);simp only[Act.put,List.setIfInBounds_toArray,List.set_cons_zero,List.set_cons_succ];refine tkH 14 (h:=?_);simp only[Act.put,List.setIfInBounds_toArray,List.set_cons_zero,List.set_cons_succ];refine wpAnyH_ready (rs:=[17]) (by kernel_rfl) (by simp) ?_
    refine AllReadyH.cons (o:=_) (by simp only[List.getElem?_toArray,List.getElem?_cons_zero,List.getElem?_cons_succ];rfl) (fun K hK=>?_) ?_
    ·go_simp
     go_at_call 16
     refine(HO3 _).out.mono ?_;rintro e w4 ⟨rfl,rfl⟩
     (try go_wp2_with fail)
     refine hK.out _ _ hH (fun hH2=>?_)
     clear hK K hH2
     (try simp only[Act.put,List.setIfInBounds_toArray,List.set_cons_zero,List.set_cons_succ])
     refine tkH 18 (h:=?_);simp only[Act.put,List.setIfInBounds_toArray,List.set_cons_zero,List.set_cons_succ];refine tkH 19 (h:=?_);simp only[Act.put,List.setIfInBounds_toArray,List.set_cons_zero,List.set_cons_succ];refine tkH 20 (h:=?_);simp only[Act.put,List.setIfInBounds_toArray,List.set_cons_zero,List.set_cons_succ];refine wpAnyH_done (by kernel_rfl) ?_ _
     go_wp2_with fail;go_ret;exact⟨by rw[←HR.out,hsg.out];rfl,hb0.trans ((show Below _ _ _ from bb).mono hb0.size)⟩
    exact AllReadyH.nil
   exact AllReadyH.nil
  refine AllReadyH.cons (o:=_) (by simp only[List.getElem?_toArray,List.getElem?_cons_zero,List.getElem?_cons_succ];rfl) (fun K hK=>?_) ?_
  ·go_simp
   go_at_call 16
   refine(HO1 _).out.mono ?_;rintro e w4 ⟨rfl,rfl⟩
   (try go_wp2_with fail)
   refine hK.out _ _ hH (fun hH2=>?_)
   clear hK K hH2
   (try simp only[Act.put,List.setIfInBounds_toArray,List.set_cons_zero,List.set_cons_succ])
   refine wpAnyH_ready (rs:=[0,17]) (by kernel_rfl) (by simp) ?_
   refine AllReadyH.cons (o:=_) (by simp only[List.getElem?_toArray,List.getElem?_cons_zero,List.getElem?_cons_succ];rfl) (fun K hK=>?_) ?_
   ·go_simp
    refine hK.out _ _ (hSB _ bb) (fun hH2=>?_)
    clear hK K hH
    (try simp only[Act.put,List.setIfInBounds_toArray,List.set_cons_zero,List.set_cons_succ])
    refine j3 (S2:=fun w'=>(w'.cell? ⟨w.heap.size,0,none⟩=some (.int .i64 k)∧w'.cell? ⟨w.heap.size,3,none⟩=some (.string s)∧w'.cell? ⟨w.heap.size,4,none⟩=some (.int .i64 a)∧w'.cell? ⟨w.heap.size,5,none⟩=some (.int .i64 b))∧w'.cell? ⟨w1.heap.size,0,none⟩=some (.string ⟨#[97,118,103,40]⟩)∧w'.cell? ⟨w1.heap.size,1,none⟩=some (.string ⟨#[104,105,40]⟩)∧w'.cell? ⟨w1.heap.size,2,none⟩=some (.string ⟨#[108,111,40]⟩)) (fun w h=>h.1) _ _ _ _ ?_
    have hH:(fun w':World=>(w'.cell? ⟨w.heap.size,0,none⟩=some (.int .i64 k)∧w'.cell? ⟨w.heap.size,3,none⟩=some (.string s)∧w'.cell? ⟨w.heap.size,4,none⟩=some (.int .i64 a)∧w'.cell? ⟨w.heap.size,5,none⟩=some (.int .i64 b))∧w'.cell? ⟨w1.heap.size,0,none⟩=some (.string ⟨#[97,118,103,40]⟩)∧w'.cell? ⟨w1.heap.size,1,none⟩=some (.string ⟨#[104,105,40]⟩)∧w'.cell? ⟨w1.heap.size,2,none⟩=some (.string ⟨#[108,111,40]⟩)) (w1.drew.alloc (.cells #[.string ⟨#[97,118,103,40]⟩,.string ⟨#[104,105,40]⟩,.string ⟨#[108,111,40]⟩] 9)):=⟨hH2,hXc⟩
    clear hH2;refine tkH 4 (h:=?_);simp only[Act.put,List.setIfInBounds_toArray,List.set_cons_zero,List.set_cons_succ];refine tkH 5 (h:=?_);simp only[Act.put,List.setIfInBounds_toArray,List.set_cons_zero,List.set_cons_succ];refine tkH 8 (h:=?_);simp only[Act.put,List.setIfInBounds_toArray,List.set_cons_zero,List.set_cons_succ];refine tkH 9 (h:=?_);simp only[Act.put,List.setIfInBounds_toArray,List.set_cons_zero,List.set_cons_succ];refine tkH 13 (h:=?_);simp only[Act.put,List.setIfInBounds_toArray,List.set_cons_zero,List.set_cons_succ];refine tkH 14 (h:=?_);simp only[Act.put,List.setIfInBounds_toArray,List.set_cons_zero,List.set_cons_succ];refine wpAnyH_ready (rs:=[17]) (by kernel_rfl) (by simp) ?_
    refine AllReadyH.cons (o:=_) (by simp only[List.getElem?_toArray,List.getElem?_cons_zero,List.getElem?_cons_succ];rfl) (fun K hK=>?_) ?_
    ·go_simp
     go_at_call 16
     refine(HO3 _).out.mono ?_;rintro e w4 ⟨rfl,rfl⟩
     (try go_wp2_with fail)
     refine hK.out _ _ hH (fun hH2=>?_)
     clear hK K hH2
     (try simp only[Act.put,List.setIfInBounds_toArray,List.set_cons_zero,List.set_cons_succ])
     refine tkH 18 (h:=?_);simp only[Act.put,List.setIfInBounds_toArray,List.set_cons_zero,List.set_cons_succ];refine tkH 19 (h:=?_);simp only[Act.put,List.setIfInBounds_toArray,List.set_cons_zero,List.set_cons_succ];refine tkH 20 (h:=?_);simp only[Act.put,List.setIfInBounds_toArray,List.set_cons_zero,List.set_cons_succ];refine wpAnyH_done (by kernel_rfl) ?_ _
     go_wp2_with fail;go_ret;exact⟨by rw[←HR.out,hsg.out];rfl,hb0.trans ((show Below _ _ _ from bb).mono hb0.size)⟩
    exact AllReadyH.nil
   refine AllReadyH.cons (o:=_) (by simp only[List.getElem?_toArray,List.getElem?_cons_zero,List.getElem?_cons_succ];rfl) (fun K hK=>?_) ?_
   ·go_simp
    go_at_call 16
    refine(HO3 _).out.mono ?_;rintro e w4 ⟨rfl,rfl⟩
    (try go_wp2_with fail)
    refine hK.out _ _ hH (fun hH2=>?_)
    clear hK K hH2
    (try simp only[Act.put,List.setIfInBounds_toArray,List.set_cons_zero,List.set_cons_succ])
    refine wpAnyH_ready (rs:=[0]) (by kernel_rfl) (by simp) ?_
    refine AllReadyH.cons (o:=_) (by simp only[List.getElem?_toArray,List.getElem?_cons_zero,List.getElem?_cons_succ];rfl) (fun K hK=>?_) ?_
    ·go_simp
     refine hK.out _ _ (hSB _ bb) (fun hH2=>?_)
     clear hK K hH
     (try simp only[Act.put,List.setIfInBounds_toArray,List.set_cons_zero,List.set_cons_succ])
     refine j3 (S2:=fun w'=>(w'.cell? ⟨w.heap.size,0,none⟩=some (.int .i64 k)∧w'.cell? ⟨w.heap.size,3,none⟩=some (.string s)∧w'.cell? ⟨w.heap.size,4,none⟩=some (.int .i64 a)∧w'.cell? ⟨w.heap.size,5,none⟩=some (.int .i64 b))∧w'.cell? ⟨w1.heap.size,0,none⟩=some (.string ⟨#[97,118,103,40]⟩)∧w'.cell? ⟨w1.heap.size,1,none⟩=some (.string ⟨#[104,105,40]⟩)∧w'.cell? ⟨w1.heap.size,2,none⟩=some (.string ⟨#[108,111,40]⟩)) (fun w h=>h.1) _ _ _ _ ?_
     have hH:(fun w':World=>(w'.cell? ⟨w.heap.size,0,none⟩=some (.int .i64 k)∧w'.cell? ⟨w.heap.size,3,none⟩=some (.string s)∧w'.cell? ⟨w.heap.size,4,none⟩=some (.int .i64 a)∧w'.cell? ⟨w.heap.size,5,none⟩=some (.int .i64 b))∧w'.cell? ⟨w1.heap.size,0,none⟩=some (.string ⟨#[97,118,103,40]⟩)∧w'.cell? ⟨w1.heap.size,1,none⟩=some (.string ⟨#[104,105,40]⟩)∧w'.cell? ⟨w1.heap.size,2,none⟩=some (.string ⟨#[108,111,40]⟩)) (w1.drew.alloc (.cells #[.string ⟨#[97,118,103,40]⟩,.string ⟨#[104,105,40]⟩,.string ⟨#[108,111,40]⟩] 9)):=⟨hH2,hXc⟩
     clear hH2;refine tkH 4 (h:=?_);simp only[Act.put,List.setIfInBounds_toArray,List.set_cons_zero,List.set_cons_succ];refine tkH 5 (h:=?_);simp only[Act.put,List.setIfInBounds_toArray,List.set_cons_zero,List.set_cons_succ];refine tkH 8 (h:=?_);simp only[Act.put,List.setIfInBounds_toArray,List.set_cons_zero,List.set_cons_succ];refine tkH 9 (h:=?_);simp only[Act.put,List.setIfInBounds_toArray,List.set_cons_zero,List.set_cons_succ];refine tkH 13 (h:=?_);simp only[Act.put,List.setIfInBounds_toArray,List.set_cons_zero,List.set_cons_succ];refine tkH 14 (h:=?_);simp only[Act.put,List.setIfInBounds_toArray,List.set_cons_zero,List.set_cons_succ];refine tkH 18 (h:=?_);simp only[Act.put,List.setIfInBounds_toArray,List.set_cons_zero,List.set_cons_succ];refine tkH 19 (h:=?_);simp only[Act.put,List.setIfInBounds_toArray,List.set_cons_zero,List.set_cons_succ];refine tkH 20 (h:=?_);simp only[Act.put,List.setIfInBounds_toArray,List.set_cons_zero,List.set_cons_succ];refine wpAnyH_done (by kernel_rfl) ?_ _
     go_wp2_with fail;go_ret;exact⟨by rw[←HR.out,hsg.out];rfl,hb0.trans ((show Below _ _ _ from bb).mono hb0.size)⟩
    exact AllReadyH.nil
   exact AllReadyH.nil
  exact AllReadyH.nil
def addL (a y:ByteArray):ByteArray:=a++((⟨#[44,32]⟩:xf)++y)
theorem addL_data:∀(t:List ByteArray) (a:ByteArray),(t.foldl addL a).data.toList=a.data.toList++(t.map (fun y=>([44,32]:List UInt8)++y.data.toList)).flatten
 |[],a=>by simp
 |y::t,a=>by
  rw[List.foldl_cons,addL_data t];unfold addL;simp
theorem join_fl (sep:List UInt8):∀(x:List UInt8) (t:List (List UInt8)),Lib.join (x::t) sep=x++(t.map (fun y=>sep++y)).flatten
 |x,[]=>by simp[Lib.join]
 |x,y::t=>by
  have e:Lib.join (x::y::t) sep=x++sep++Lib.join (y::t) sep:=by simp[Lib.join]
  rw[e,join_fl sep y t];simp
theorem opP_fold (k:Nat)(hk:10≤k)(x:ByteArray)(t:List ByteArray):(t.foldl addL ((wd k++(⟨#[40]⟩:xf))++x))++(⟨#[41]⟩:xf)=opP k (x::t):=by
 unfold opP;rw[if_neg (by omega),if_neg (by omega)]
 congr 1
 apply ByteArray.ext;apply Array.toList_inj.1;rw[addL_data];unfold joinB;rw[List.map_cons,join_fl];simp;rfl
theorem cell_blk {w:World}{a:Addr}{v:Value}(h:w.cell? a=some v):a.block<w.heap.size:=World.block_lt_of_cell? w a h
theorem rAboveF_at (k:Nat)(hk:k=10∨k=11∨k=12)(bk o c:Nat)(x:ByteArray)(t:List ByteArray)(ht:t.length≤2)(hc:t.length+1≤c)(hsz:∀y∈x::t,y.size≤10000000)(w:World)(hbk:bk<w.heap.size)(hcell:∀(j:Nat) y,(x::t)[j]? =some y→w.cell? ⟨bk,o+j,none⟩=some (.string y)):
 Calls Tryz.prog 30 #[.int .i64 (k:Int),.slice (some ⟨bk,o,none⟩) (t.length+1) c] w fun e w'=>e= .returned (.string (opP k (x::t)))∧Below w.heap.size w w':=by
 have hJ:(IntKind.i64.wrap ((k:Int)-10)=0∧wd k++(⟨#[40]⟩:xf)=⟨#[109,97,120,40]⟩)∨(IntKind.i64.wrap ((k:Int)-10)=1∧wd k++(⟨#[40]⟩:xf)=⟨#[109,105,110,40]⟩)∨(IntKind.i64.wrap ((k:Int)-10)=2∧wd k++(⟨#[40]⟩:xf)=⟨#[105,102,40]⟩):=by
  rcases hk with rfl|rfl|rfl
  ·exact .inl ⟨by decide,by decide⟩
  ·exact .inr (.inl ⟨by decide,by decide⟩)
  ·exact .inr (.inr ⟨by decide,by decide⟩)
 have n5:¬(k:Int)=5:=by omega
 have n9:¬(k:Int)≤9:=by omega
 have hx:=hsz x (by simp)
 have oa:¬9223372036854775807<4+x.size:=by omega
 have oc:¬9223372036854775807<3+x.size:=by omega
 have HR:=zc.mk (opP_fold k (by omega) x t)
 have hn:((t.length:Int)+1)=((t.length+1:Nat):Int):=by omega
 have HC:=zc.mk (And.intro hsz hcell);have h0:=hcell 0 x rfl;rw[Nat.add_zero]at h0;have hSB:∀w':World,Below w.heap.size w w'→w'.cell? ⟨bk,o,none⟩=some (.string x):=fun w' hb=>(zg hb _ hbk).trans h0
 have HB:=zc.mk (xb w.heap.size w);have HK:=zc.mk hbk;obtain⟨F,hF⟩:∃F,opP k (x::t)=F:=⟨_,rfl⟩;rw[hF]at HR ⊢;generalize hL:t.length+1=L at*;have hL3:L≤3:=by omega
 have hL1:(0:Int)<(L:Int):=by omega
 clear hsz hcell hk hF hn hx hbk;rcases hJ with⟨hwk,hsg⟩|⟨hwk,hsg⟩|⟨hwk,hsg⟩
 all_goals
  rw[hsg]at HR;clear hsg;go_enter Tryz.func30,Tryz.ntmps30
  go_wp2_with fail;have hq0:=hSB _ (xb _ _);have HW:=zc.mk ((xb w.heap.size w).alloc (xc _) (.cells #[.string ⟨#[109,97,120,40]⟩,.string ⟨#[109,105,110,40]⟩,.string ⟨#[105,102,40]⟩] 9)).drew;have hq1:=hSB _ HW.out;go_region
  all_goals
   go_wp2_with fail;go_loopg [5,6] (L+1) (fun kq v5 v6 w'=>∃(i:Nat) (S:ByteArray),v5= .string S∧v6= .int .i64 (i:Int)∧i+kq=L+2∧1≤i∧i≤L∧zc (((x::t).drop i).foldl addL S++(⟨#[41]⟩:xf)=F)∧S.size≤i*20000000∧zc (Below w.heap.size w w'))
   case atStart=>exact⟨1,_,rfl,rfl,by omega,by omega,by omega,HR,by simp only[j8];have:=HC.out.1 x (by simp);first|(show 4+x.size≤_;omega)|(show 3+x.size≤_;omega),HW⟩
   case round=>
    clear HW HR HB hSB h0;obtain⟨i,S,rfl,rfl,hi,hi1,hiL,HF,hS,HW⟩:=hrel;by_cases hie:i=L
    ·subst hie
     have e:=HF.out;rw[List.drop_eq_nil_of_le (by rw[List.length_cons];omega)]at e
     have os:¬9223372036854775807<S.size+1:=by omega
     have BB:=HW.out;have HE:=zc.mk e;clear HF HW HC e HK;go_wp2_with fail;go_ret;exact⟨by rw[←HE.out];rfl,BB⟩
    ·have hlt:i<(x::t).length:=by rw[List.length_cons];omega
     have hiI:(i:Int)<(L:Int):=by omega
     obtain⟨y,hy⟩:∃y,(x::t)[i]=y:=⟨_,rfl⟩;have hd:(x::t).drop i=y::(x::t).drop (i+1):=by rw[List.drop_eq_getElem_cons hlt,hy]
     have hq:=(zg HW.out ⟨bk,o+i,none⟩ HK.out).trans (HC.out.2 i y (by rw[List.getElem?_eq_getElem hlt,hy]))
     have hys:=HC.out.1 y (by rw[←hy];exact List.getElem_mem hlt)
     have HF2:=HF.out;rw[hd,List.foldl_cons]at HF2;have HF3:=zc.mk HF2;have hs1:(addL S y).size=S.size+(2+y.size):=by unfold addL;rw[j8,j8];rfl
     have HZ:=zc.mk hs1;have o1:¬9223372036854775807<2+y.size:=by omega
     have o2:¬9223372036854775807<S.size+((⟨#[44,32]⟩:xf)++y).size:=by rw[j8];show¬_<S.size+(2+y.size);omega
     have o3:¬9223372036854775807<S.size+(2+y.size):=by omega
     clear HF HF2 hd hs1 HC HK hy;go_wp2_with fail;go_roundg (gk-1)
     case measure=>omega
     case rel=>exact⟨i+1,_,rfl,by go_num,by omega,by omega,by omega,HF3,by show(addL S y).size≤_;have:=HZ.out;omega,HW⟩
theorem sp_few (n:Int)(g0:0≤n)(g1:n≤9999):(natS n.toNat).size≤20:=by
 have e:(natS n.toNat).size=(Lib.decDigits n.toNat).length:=by show(natS n.toNat).data.toList.length=_;rw[zq]
 have:=zH n.toNat 4 (by omega) (by omega)
 omega
theorem rn_raw {x:S37}(h:SpOK x):RN (.raw x):=by
 obtain⟨k,⟨p,q⟩,s,a,b⟩:=x;obtain⟨h1,h2,h3,h4,h5,h6,h7⟩:=h;simp only[S35.mk.injEq]at h1 h2 h3 h4 h5 h6 h7;obtain⟨rfl,rfl⟩:=h2;have h20:=h3.h20;have HA:=rasset_at s (by omega) true (by simp[asset_nm h3])
 have HO:=rof_s a.toNat (by omega)
 rw[show((a.toNat:Nat):Int)=a by omega]at HO
 have HO2:=rof_s b.toNat (by omega)
 rw[show((b.toNat:Nat):Int)=b by omega]at HO2
 have hpa:=sp_few a h4 (by omega)
 have hpb:=sp_few b (by omega) h6
 refine⟨fun w=>?_,fun _ w=>?_,fun h=>absurd h (by simp[ar]),fun l hl=>?_⟩
 ·exact rNodeSp_at k h1 s a b h4 h5 h6 h7 (fun w=>Lib.hid (HA w)) w
 ·exact rLeafSp_at k h1 s _ _ a b (by omega) (by omega) (by omega) HO HO2 w
 ·show(spP ⟨k,⟨⟨#[]⟩,⟨#[]⟩⟩,s,a,b⟩).size≤_
  have hz:(spW k).size≤3:=by rcases h1 with rfl|rfl|rfl<;>decide
  unfold spP;simp only[j8,show(⟨#[40]⟩:xf).size=1 from rfl,show(⟨#[41]⟩:xf).size=1 from rfl,show(⟨#[44,32]⟩:xf).size=2 from rfl]
  omega
theorem rn_fun (k:Nat)(hk:k=10∨k=11∨k=12):RN (.op k):=by
 have har:1≤ar (.op k)∧ar (.op k)≤3:=by rcases hk with rfl|rfl|rfl<;>decide
 refine⟨fun w=>?_,fun h=>absurd h (by omega),?_,?_⟩
 ·have h:=rNodeOp_at k (by omega) w
  rw[hnv37]at h;exact h
 ·intro _ bk o c l w hl hlc hsz hcell
  rw[←hl]at har ⊢;match l,har with
  |x::t,har=>exact rAboveF_at k hk bk o c x t (by have:=har.2;rw[List.length_cons]at this;omega) hlc (fun y hy=>Nat.le_trans (szs_mem _ y hy) hsz) w (cell_blk (hcell 0 x rfl)) hcell
 ·intro l hl
  show(opP k l).size≤_
  have hj:=joinB_size l;have hz:(wd k).size≤3:=by rcases hk with rfl|rfl|rfl<;>decide
  unfold opP;rw[if_neg (by omega),if_neg (by omega)]
  simp only[j8,show(⟨#[40]⟩:xf).size=1 from rfl,show(⟨#[41]⟩:xf).size=1 from rfl]
  omega
theorem rn_all {M:Nat}{n:Nd}(h:NdOK M n):RN n:=by
 cases n with
 |num z d=>exact rn_num h
 |px s a=>exact rn_px h
 |raw x=>exact rn_raw h
 |op k=>
  have h:5≤k∧k≤12:=h;by_cases hk:k≤9
  ·exact rn_op k ⟨h.1,hk⟩
  ·exact rn_fun k (by omega)
theorem rDepth_at (ns:List Nd)(hns:∀n∈ns,opOK n)(hl1:1≤ns.length)(hlen:ns.length≤2000)(D:Int)(hrun:runF depF ns []=some [D])(A:Option Addr)(c:Nat)(w:World)(hC:Kd.C k37 w A ns.length (ns.map nd37)):
 Calls Tryz.prog 31 #[.slice A ns.length c] w fun e w'=>e= .returned (.int .i64 D)∧Below w.heap.size w w':=by
 have HF:=Lib.hid (rFormed_at ns hns hl1 hlen depF D hrun A c w hC);have HC:=zc.mk hC;have HRUN:=zc.mk hrun;have HL:=zc.mk hlen;have hl4:(ns.length:Int)≤2000:=by omega
 clear hC hrun hlen;go_enter Tryz.func31,Tryz.ntmps31
 go_wp2_with fail;refine HF.out.mono ?_;rintro e w0 ⟨rfl,hb0⟩;have HB0:=zc.mk hb0;clear HF hb0;go_wp2_with(first|((with_reducible refine gate_dst (N:=11) rfl ?_);refine Kd.R_lit (Kd.int .i64) (w0:=w) w.heap.size 3 ?hg (N:=11) ?hd (xs:=[]) (inner:=[]) (ok:=fun _=>True) (okp:=fun _=>False) ?hr (Reps.none _ _) (fun _ hk=>hk.elim) trivial HB0.out HB0.out.size (Nat.zero_le _) ?_;(case hd=>rfl);(case hg=>rfl);(case hr=>first|(go_simp;done)|(go_simp;rfl));intro v3 w3 ho3 hb3 hg3 hn3;have HO3:=zc.mk ho3;have HB3:=zc.mk hb3;have HN3:=zc.mk hn3;clear ho3 hb3 hg3 hn3))
 go_loopg [3,4] (ns.length+1) (fun kq u3 v4 w'=>∃(i:Nat) (st:List Int),v4= .int .i64 (i:Int)∧i+kq=ns.length+1∧i≤ns.length∧zc (Kd.R (Kd.int .i64) 3 w' w.heap.size (fun _=>True) u3 st)∧zc (∃b,u3.ownBlock=some b)∧zc (Below w.heap.size w w')∧zc (runF depF (ns.drop i) st=some [D])∧st.length≤i∧zc (∀x∈st,x≤(i:Int)))
 case atStart=>exact⟨0,[],rfl,by omega,by omega,HO3,⟨by obtain⟨b,h1,_⟩:=HN3.out;exact⟨b,h1⟩⟩,HB3,HRUN,by simp,⟨fun x hx=>by cases hx⟩⟩
 case round=>
  clear HO3 HN3 HB3 HRUN;obtain⟨i,st,rfl,hi,hin,HS,HNN,HB,HR,hst,HV⟩:=hrel;by_cases hie:i=ns.length
  ·subst hie
   have hst1:st=[D]:=by
    have h:=HR.out;rw[List.drop_length]at h;simpa[runF]using h
   subst hst1;obtain⟨g,cap,rfl,hbg,hgw,_⟩:=Kd.R_form HS.out (by simp)
   have hcell:wr.cell? ⟨g,0,none⟩=some (.int .i64 D):=(Kd.R_cell (0:Int) HS.out 0 (by omega) (by simp)).1
   have BB:=HB.out;have hlR:([D]:List Int).length=1:=rfl;clear HS HNN HB HC HR hns HL HV;go_wp2_with fail;go_ret;exact⟨rfl,BB⟩
  ·have hlt:i<ns.length:=by omega
   have hilt:(i:Int)<(ns.length:Int):=by omega
   obtain⟨n,hn⟩:∃n,ns[i]=n:=⟨_,rfl⟩;have hd:ns.drop i=n::ns.drop (i+1):=by rw[List.drop_eq_getElem_cons hlt,hn]
   have HS2:=HR.out;rw[hd]at HS2;obtain⟨st2,hst2⟩:∃st2,stp depF n st=some st2:=by
    cases h:stp depF n st with
    |none=>rw[runF,h]at HS2;cases HS2
    |some x=>exact⟨x,rfl⟩
   rw[runF,hst2]at HS2;have hnm:=hns n (by rw[←hn];exact List.getElem_mem hlt)
   have har:ar n≤st.length:=by
    unfold stp at hst2;split at hst2
    ·assumption
    ·cases hst2
   have hst3:st2=st.take (st.length-ar n)++[depF n (st.drop (st.length-ar n))]:=by
    unfold stp at hst2;rw[if_pos har]at hst2;exact(Option.some.inj hst2).symm
   subst hst3;have HR3:zc (runF depF (ns.drop (i+1)) (st.take (st.length-ar n)++[depF n (st.drop (st.length-ar n))])=some [D]):=⟨HS2⟩;have hx:rd_T37 (ns.map nd37) (i:Int)=nd37 n:=by
    unfold rd_T37;rw[xa,List.getD_eq_getElem?_getD,List.getElem?_map,List.getElem?_eq_getElem hlt,hn];rfl
   obtain⟨ad,hAd,q0,q1,q2,q3,q4,q5⟩:=at_T37 (Kd.C_below HC.out HB.out) (i:Int) (by omega) (by omega)
   rw[hx]at q0;rw[xa]at q0;have H1:=fun W=>Lib.hid (rArityN_at n hnm W)
   have hop:(nd37 n).f0=opI n:=by cases n<;>rfl
   rw[hop]at q0;obtain⟨m,hm⟩:∃m,st.length-ar n=m:=⟨_,rfl⟩;have hmm:m+ar n=st.length:=by omega
   rw[hm]at HR3;obtain⟨r,hr⟩:∃r,(st.drop m).foldl max 0=r:=⟨_,rfl⟩;have hfr:depF n (st.drop m)=r+1:=by unfold depF;rw[hr]
   rw[hfr]at HR3;have hr1:r≤(i:Int):=by rw[←hr];exact jd _ 0 _ (by omega) (fun x hx=>HV.out x (List.mem_of_mem_drop hx))
   have hr0:0≤r:=by rw[←hr];exact foldl_max_ge _ 0
   have hwr:IntKind.i64.wrap (r+1)=r+1:=by simp[j9];omega
   have hmL:(m:Int)≤(st.length:Int):=by omega
   have hm0:0≤(m:Int):=by omega
   have hst1:(st.length:Int)≤2000:=by omega
   have hw1:IntKind.i64.wrap ((st.length:Int)-(ar n:Int))=(m:Int):=by simp[j9];omega
   have hstm:(st.take m).length=m:=by rw[List.length_take];omega
   have HST:=zc.mk hstm;have HLE:=zc.mk (And.intro hi hst);have HVN:zc (∀x∈st.take m++[r+1],x≤((i+1:Nat):Int)):=⟨fun x hx=>by
    rcases List.mem_append.1 hx with hx|hx
    ·have:=HV.out x (List.mem_of_mem_take hx)
     omega
    ·rw[List.mem_singleton.1 hx]
     omega⟩
   have HRD:=zc.mk hr;clear HR HS2 hst2 hd hx hnm q1 q2 q3 q4 q5 hop hstm hfr hr hns hn hm;subst hAd;generalize opI n=z0 at*;obtain⟨g5,c5,hv5,hc5⟩:=R_slice1 HS.out HNN.out;subst hv5;have hcI:(st.length:Int)≤(c5:Int):=by omega
   generalize ar n=a at*;generalize hL:st.length=L at*;have HLL:=zc.mk hL;clear hL;go_wp2_with fail;refine(H1 _).out.mono ?_;rintro e w1 ⟨rfl,hb1⟩;have HS1:=zc.mk (Kd.R_below HS.out hb1);have HB1:=zc.mk (HB.out.trans (hb1.mono HB.out.size));clear HS HB hb1 H1 q0;go_wp2_with fail;obtain⟨gq,hgq⟩:∃gq,gk=gq:=⟨_,rfl⟩;go_loopg [6,7] (L+1) (fun kq u6 u7 w'=>∃(j:Nat) (d:Int),u6= .int .i64 d∧u7= .int .i64 (j:Int)∧j+kq=L+1+m∧m≤j∧j≤L∧zc ((st.drop j).foldl max d=r)∧zc (Below w1.heap.size w1 w'))
   case atStart=>exact⟨m,0,rfl,rfl,by omega,by omega,by omega,HRD,⟨xb _ _⟩⟩
   case round=>
    clear HRD;obtain⟨j,d,rfl,rfl,hj,hmj,hjL,HF2,HW⟩:=hrel;by_cases hje:j=L
    ·have hdr:d=r:=by
      have h:=HF2.out;rw[List.drop_eq_nil_of_le (by rw[HLL.out];omega)]at h
      exact h
     subst hje;subst hdr;have HSW:=zc.mk (Kd.R_below HS1.out HW.out);have HBW:=zc.mk (HB1.out.trans (HW.out.mono HB1.out.size));clear HF2 HS1 HB1 HW HC HV HNN;generalize wr=w3 at*;go_wp2_with(first|((with_reducible refine gate_dst (N:=40) rfl ?_);refine Kd.R_lit (Kd.int .i64) (w0:=w3) w3.heap.size 3 ?hg (N:=40) ?hd (xs:=[]) (inner:=[]) (ok:=fun _=>True) (okp:=fun _=>False) ?hr (Reps.none _ _) (fun _ hk=>hk.elim) trivial (xb _ _) (xc _) (Nat.zero_le _) ?_;(case hd=>rfl);(case hg=>rfl);(case hr=>first|(go_simp;done)|(go_simp;rfl));intro v8 w2 ho8 hb8 hg8 hn8;have HO8:=zc.mk ho8;have HB8:=zc.mk hb8;have HN8:=zc.mk hn8;have HS2:=Kd.R_below HSW.out hb8;have HS2:=(Kd.R_reads' HS2).2.2;have HS2:=zc.mk HS2;clear ho8 hb8 hg8 hn8)|(at_builtin;refine Kd.R_append_rows (Kd.int .i64) (Rr:=(Kd.int .i64).K w2) (w0:=w3) w3.heap.size rfl (.tmp 40) (.tmp 46) 40 3 (.int .i64 0) 8 rfl Tryz.underlying40 zZ rfl (by decide) (by omega) v8 [] (st.take m) _ m _ (fun _=>True) (fun _=>False) rfl rfl HO8.out ?hRR ?hKM (fun _ hk=>hk.elim) (fun _ _=>trivial) HB8.out HB8.out.size ?hll ?_;(case hRR=>exact C_take HS2.out m (by rw[HLL.out];omega));(case hKM=>exact fun x cs h=>h);(case hll=>simp;omega);intro v9 w4 ho9 hb9 hg9 hn9;have HO9:=zc.mk ho9;have HB9:=zc.mk hb9;have HN9:=zc.mk hn9;clear ho9 hb9 hg9 hn9)|(at_builtin;refine Kd.R_append (Kd.int .i64) (w0:=w3) w3.heap.size rfl (.tmp 47) (.tmp 50) 40 3 (.int .i64 0) 8 rfl Tryz.underlying40 zZ rfl (by decide) (by omega) v9 (st.take m) (d+1) [.int .i64 (d+1)] (fun _=>True) (fun _=>False) rfl rfl rfl (fun _ hk=>hk.elim) (fun _ _=>trivial) HO9.out HB9.out HB9.out.size ?hll2 ?_;(case hll2=>rw[HST.out];omega);intro v10 w6 ho10 hb10 hg10 hn10;have HO10:=zc.mk ho10;have HB10:=zc.mk hb10;have HN10:=zc.mk hn10;clear ho10 hb10 hg10 hn10))
     have HE10:∃b,v10.ownBlock=some b:=by
      rcases HN10.out with h|⟨b,h,_⟩
      ·rcases HN9.out with h2|⟨b,h2,_⟩
       ·obtain⟨b,h3,_⟩:=HN8.out
        exact⟨b,by rw[h,h2,h3]⟩
       ·exact⟨b,by rw[h,h2]⟩
      ·exact⟨b,h⟩
     have HS7:=Kd.R_lower HO10.out HBW.out.size;have HB7:=HBW.out.trans (HB10.out.mono HBW.out.size);have hle:=HLE.out;go_wp2;go_roundg (gq-1)
     case measure=>omega
     case rel=>exact⟨i+1,_,rfl,by omega,by omega,⟨HS7⟩,⟨HE10⟩,⟨HB7⟩,HR3,by rw[List.length_append,HST.out];simp;omega,HVN⟩
    ·have hjlt:j<st.length:=by rw[HLL.out];omega
     have hjI:(j:Int)<(L:Int):=by omega
     obtain⟨x,hx⟩:∃x,st[j]=x:=⟨_,rfl⟩;have hd:st.drop j=x::st.drop (j+1):=by rw[List.drop_eq_getElem_cons hjlt,hx]
     have hq:=(Kd.R_celln (0:Int) (Kd.R_below HS1.out HW.out) (j:Int) (by omega) (by omega)).1
     rw[xa]at hq;have hrd:rdOf (0:Int) st (j:Int)=x:=by
      unfold rdOf;rw[xa,List.getD_eq_getElem?_getD,List.getElem?_eq_getElem hjlt,hx];rfl
     rw[hrd]at hq;have HF3:=HF2.out;rw[hd,List.foldl_cons]at HF3;have HF4:=zc.mk HF3;clear HF2 HF3 hd hrd hx hjlt;go_wp2_with fail;go_roundg (gk-1)
     case measure=>omega
     case rel=>exact⟨j+1,max d x,rfl,by go_num,by omega,by omega,by omega,HF4,HW⟩
theorem nd_op {M:Nat}{n:Nd}(h:NdOK M n):opOK n:=by
 cases n with
 |num z d=>trivial
 |px s a=>trivial
 |op k=>exact h
 |raw x=>
  have h:SpOK x:=h;show 0≤x.f0∧x.f0≤4
  rcases h.k with e|e|e<;>rw[e]<;>exact⟨by decide,by decide⟩
theorem rCheck_at (o:List Nd)(hok:NdOKs o)(hlen:o.length≤2000)(S:ByteArray)(D:Int)(hP:runF ndP o []=some [S])(hD:runF depF o []=some [D])(hS0:0<S.size)(A:Option Addr)(c:Nat)(w:World)(hC:Kd.C k37 w A o.length (o.map nd37)):
 Calls Tryz.prog 15 #[.slice A o.length c] w fun e w'=>e= .returned (.int .i64 (if S.size≤20000∧D≤150 then 0 else 100))∧Below w.heap.size w w':=by
 have hl1:1≤o.length:=by
  cases o with
  |nil=>cases hP
  |cons x t=>simp
 have hns:∀n∈o,opOK n:=fun n hn=>nd_op (hok n hn)
 have HP:=Lib.hid (rPrint_at o hns (fun n hn=>rn_all (hok n hn)) hl1 hlen depF D hD S hP A c w hC)
 have HD:=fun W (hb:Below w.heap.size w W)=>Lib.hid (rDepth_at o hns hl1 hlen D hD A c W (Kd.C_below hC hb))
 have hne2:(S.toList==([]:List UInt8))=false:=by
  rw[beq_eq_false_iff_ne];intro h;have h2:S.toList.length=0:=by rw[h];rfl
  rw[ByteArray.toList_eq]at h2;have h3:S.data.toList.length=S.size:=rfl;omega
 clear hok hlen hP hD hC hns hl1;by_cases hb:S.size≤20000∧D≤150
 ·rw[if_pos hb]
  have h1:¬(20000:Int)<(S.size:Int):=by omega
  have h2:¬(150:Int)<D:=by omega
  clear hb hS0;go_enter Tryz.func15,Tryz.ntmps15
  go_wp2_with fail;refine HP.out.mono ?_;rintro e w1 ⟨rfl,hb⟩;have HB:=zc.mk hb;clear HP hb;go_wp2_with fail;refine(HD _ HB.out).out.mono ?_;rintro e w2 ⟨rfl,hb⟩;have HB2:=zc.mk (HB.out.trans (hb.mono HB.out.size));clear HD hb;go_wp2_with fail;go_ret;exact⟨rfl,HB2.out⟩
 ·rw[if_neg hb]
  by_cases h1:(20000:Int)<(S.size:Int)
  ·clear HD hb hS0
   go_enter Tryz.func15,Tryz.ntmps15
   go_wp2_with fail;refine HP.out.mono ?_;rintro e w1 ⟨rfl,hb⟩;have HB:=zc.mk hb;clear HP hb;go_wp2_with fail;go_ret;exact⟨rfl,HB.out⟩
  ·have h2:(150:Int)<D:=by omega
   clear hb hS0;go_enter Tryz.func15,Tryz.ntmps15
   go_wp2_with fail;refine HP.out.mono ?_;rintro e w1 ⟨rfl,hb⟩;have HB:=zc.mk hb;clear HP hb;go_wp2_with fail;refine(HD _ HB.out).out.mono ?_;rintro e w2 ⟨rfl,hb⟩;have HB2:=zc.mk (HB.out.trans (hb.mono HB.out.size));clear HD hb;go_wp2_with fail;go_ret;exact⟨rfl,HB2.out⟩
end Go.Proofs.YtjopepfemhckjaaGreatDoor.NW
end
