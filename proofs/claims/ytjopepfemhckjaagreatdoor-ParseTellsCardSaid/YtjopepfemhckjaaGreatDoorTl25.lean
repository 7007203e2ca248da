/-
  Part 25 of the proof of parseTells_holds: texts of this seat, put together.
-/
import Derived.Test.YtjopepfemhckjaaGreatDoorTl24
set_option linter.unusedVariables false
set_option linter.unusedSimpArgs false
set_option maxHeartbeats 16000000
set_option maxRecDepth 100000
section
namespace Go.Proofs.YtjopepfemhckjaaGreatDoor.NW
open Go.Proofs Go.RowKit Go.Shelf Go.Proofs.YtjopepfemhckjaaGreatDoor.PN Go.Proofs.YtjopepfemhckjaaGreatDoorW.PrintWords Go.Proofs.YtjopepfemhckjaaGreatDoor.PParseTells
theorem limb_two {l:List Int}{m:Nat}(h:isL l m)(hm:10000≤m):2≤l.length:=by
 have h1:=lv_lt l h.wf;rw[h.val]at h1;match l,h1 with
 |[],h1=>simp at h1;omega
 |[x],h1=>simp at h1;omega
 |_::_::_,_=>simp
theorem limb_top {l:List Int}{m:Nat}(h:isL l m)(hm:0<m):0<rd l ((l.length-1:Nat):Int):=by
 have hl:l≠[]:=fun e=>by have:=h.nil_iff.1 e;omega
 have hp:=List.length_pos_iff.2 hl;have h0:=qc l h.wf (l.length-1);apply Classical.byContradiction;intro hn;have hz:rd l ((l.length-1:Nat):Int)=0:=by omega
 apply h.tr;rw[List.getLast?_eq_getElem?,List.getElem?_eq_getElem (by omega)]
 unfold rd at hz;rw[xa,List.getD_eq_getElem?_getD,List.getElem?_eq_getElem (by omega)]at hz
 exact congrArg some hz
theorem C_two (W:World)(x y:Int):Kd.C (Kd.int .i64) (W.alloc (.cells #[.int .i64 x,.int .i64 y] 3)) (some ⟨W.heap.size,0,none⟩) 2 [x,y]:=by
 have h:=j7 W (.cells #[.int .i64 x,.int .i64 y] 3);refine⟨rfl,by simp,fun _=>⟨_,rfl,fun j p hj=>?_⟩⟩
 match j,hj with
 |0,hj=>
  simp at hj;subst hj;refine⟨[.int .i64 x],rfl,rfl,fun i u hu=>?_⟩
  match i,hu with
  |0,hu=>
   simp at hu;subst hu;rw[add_plain,j6 h];rfl
  |i+1,hu=>simp at hu
 |1,hj=>
  simp at hj;subst hj;refine⟨[.int .i64 y],rfl,rfl,fun i u hu=>?_⟩
  match i,hu with
  |0,hu=>
   simp at hu;subst hu;rw[add_plain,j6 h];rfl
  |i+1,hu=>simp at hu
 |j+2,hj=>simp at hj
theorem C_oneB {W:World}{b:Nat}{x:Int}(h:W.heap[b]? =some (.cells #[.int .i64 x] 3 (0,0))):Kd.C (Kd.int .i64) W (some ⟨b,0,none⟩) [x].length [x]:=by
 refine⟨rfl,by simp,fun _=>⟨_,rfl,fun j p hj=>?_⟩⟩
 match j,hj with
 |0,hj=>
  simp at hj;subst hj;refine⟨[.int .i64 x],rfl,rfl,fun i u hu=>?_⟩
  match i,hu with
  |0,hu=>
   simp at hu;subst hu;rw[add_plain,j6 h];rfl
  |i+1,hu=>simp at hu
 |j+1,hj=>simp at hj
theorem wp_scope_one {P:Program}{a:Act}{w:World}{Q:Exit→Act→World→Prop}{c t:Code}(l:Nat)(J:Act→World→Prop)(μ:Act→World→Nat)(hf:findLabel c l=some (.seq .skip t))
 (pass:∀a w,J a w→t.wp P (Exit.jump l (fun a' w'=>J a' w'∧μ a' w'<μ a w) Q) a w)
 (first:(∀a w,J a w→t.wp P (Exit.jump l J Q) a w)→c.wp P (Exit.jump l J Q) a w):(Code.scope c).wp P Q a w:=by
 refine wp_scope_jumps l J μ hf (first fun a w h=>Code.wp_mono ?_ (pass a w h)) (fun a w h=>wp_seq (wp_skip (pass a w h)))
 intro e a w hh;cases e with
 |goto l=>exact⟨hh.1,hh.2.1⟩
 |_=>exact hh
theorem at_label1 {P:Program}{Q:Exit→Act→World→Prop}{a:Act}{w:World}{l:Nat}{c:Code}{K:Act→World→Prop}(hK:∀a w,c.wp P Q a w→K a w)(h:c.wp P Q a w):(Code.label l).wp P (Exit.then K Q) a w:=wp_label (hK _ _ h)
def mu13 (a:Act):Nat:=match a.tmps[13]? with
 |some (Value.int _ z)=>z.toNat
 |_=>0
theorem scale_lt {lb:List Int}{m s:Nat}{t:Int}(hl:isL lb m)(h1:1≤lb.length)(ht:rd lb ((lb.length-1:Nat):Int)=t)(h:(s:Int)*(t+1)≤10000)(hs:1≤s):m*s<10000^lb.length:=by
 have e1:=qP lb (lb.length-1);have e2:=jt lb hl.wf (lb.length-1);rw[show lb.length-1+1=lb.length from by omega,List.drop_length,ht]at e2
 have e3:=ql lb hl.wf (lb.length-1);have h0:=(qc lb hl.wf (lb.length-1)).1;rw[ht]at h0;obtain⟨tn,rfl⟩:=Int.eq_ofNat_of_zero_le h0;rw[xa]at e2;have e4:lv ([]:List Int)=0:=rfl;rw[e4,Nat.mul_zero,Nat.add_zero]at e2;rw[e2,hl.val]at e1;have hst:s*(tn+1)≤10000:=by exact_mod_cast h
 have e5:10000^lb.length=10000^(lb.length-1)*10000:=by
  rw[←Nat.pow_succ];congr 1
  omega
 rw[e5];generalize 10000^(lb.length-1)=P at*;have h2:m<P*(tn+1):=by
  rw[Nat.mul_succ];omega
 have h3:m*s<P*(tn+1)*s:=Nat.mul_lt_mul_of_pos_right h2 (by omega)
 have h4:P*(tn+1)*s=P*(s*(tn+1)):=by grind
 have h5:P*(s*(tn+1))≤P*10000:=Nat.mul_le_mul_left _ hst;omega
theorem dv_start {n m s N V:Nat}{u0 v0:List Int}(hs:1≤s)(hN:n*s=N)(hV:m*s=V)(hm:10000≤m)(hmn:m≤n)(hu:isL u0 N)(hv:isL v0 V):2≤v0.length∧v0.length≤u0.length∧0<rd v0 ((v0.length-1:Nat):Int)∧0<V∧
 DvI N V v0.length (u0.length+2) (u0.length+2-v0.length) (u0++[0,0]) (List.replicate (u0.length+2-v0.length) 0):=by
 have hVN:V≤N:=by rw[←hN,←hV];exact Nat.mul_le_mul_right _ hmn
 have hV4:10000≤V:=by rw[←hV];exact Nat.le_trans hm (Nat.le_mul_of_pos_right _ hs)
 have h2:=limb_two hv hV4;have hlen:v0.length≤u0.length:=by
  apply Classical.byContradiction;intro hn;have:=hu.len_lt hv (by omega)
  omega
 have hz:lv (List.replicate (u0.length+2-v0.length) (0:Int))=0:=jT _ (fun i=>by
  unfold rd;rw[xa,List.getD_eq_getElem?_getD,List.getElem?_replicate];split<;>rfl)
 have hu2:lv (u0++[0,0])=N:=by rw[lv_append,hu.val];simp[lv]
 refine⟨h2,hlen,limb_top hv (by omega),by omega,⟨by simp,by simp,wfL_app.2 ⟨hu.wf,fun x hx=>by simp at hx;omega⟩,fun x hx=>?_,?_,?_,?_⟩⟩
 ·have:=List.eq_of_mem_replicate hx
  omega
 ·intro i hi
  unfold rd;rw[xa,List.getD_eq_getElem?_getD,List.getElem?_replicate];split<;>rfl
 ·rw[hu2,hz]
  omega
 ·rw[hu2]
  have h3:=lv_lt u0 hu.wf;rw[hu.val]at h3;have h4:=trd_ge v0 hv.wf hv.tr (fun e=>by rw[e]at h2;simp at h2)
  rw[hv.val]at h4;have h5:10000^(v0.length-1)*10000^(u0.length+2-v0.length)≤V*10000^(u0.length+2-v0.length):=Nat.mul_le_mul_right _ h4;rw[←Nat.pow_add,show v0.length-1+(u0.length+2-v0.length)=u0.length+1 from by omega,Nat.pow_succ]at h5
  omega
theorem div_long (n m:Nat)(a b:Value)(w:World)(ha:LS w a n)(hb:LS w b m)(hm:10000≤m)(hmn:m≤n)(hn:Fits n):
 Calls Tryz.prog 183 #[a,b] w fun e w'=>∃q r,e= .returned (.tuple #[q,r])∧LS w' q (n/m)∧LS w' r (n%m)∧Below w.heap.size w w':=by
 obtain⟨A,c0,la,rfl,ha1,ha2,ha3,ha4⟩:=ha.ex;obtain⟨B,c1,lb,rfl,hb1,hb2,hb3,hb4⟩:=hb.ex;obtain⟨z,hz,hz2⟩:∃z:Int,cmpZ n m=z∧¬z<0:=by
  unfold cmpZ;rw[if_neg (by omega)]
  split
  ·exact⟨0,rfl,by omega⟩
  ·exact⟨1,rfl,by omega⟩
 have HC:=compare_at A B c0 c1 la lb n m w ha3 hb3 ha2 hb2 ha4 hb4;rw[hz]at HC;have hl2:=limb_two hb3 hm;have htop:=limb_top hb3 (by omega)
 have htw:=qc lb hb3.wf (lb.length-1);obtain⟨ad,hB,hcell⟩:=Kd.at_int hb4 ((lb.length-1:Nat):Int) (by omega) (by omega)
 rw[xa]at hcell;obtain⟨t,ht⟩:∃t,rd lb ((lb.length-1:Nat):Int)=t:=⟨_,rfl⟩;rw[ht]at htop htw hcell;obtain⟨s,hs⟩:∃s:Nat,10000/(t+1)=(s:Int):=⟨(10000/(t+1)).toNat,by have:0≤10000/(t+1):=Int.ediv_nonneg (by omega) (by omega);omega⟩
 have hs1:(1:Int)≤s:=by rw[←hs];exact(Int.le_ediv_iff_mul_le (by omega)).2 (by omega)
 have hs2:(s:Int)≤5000:=by rw[←hs];exact Int.ediv_le_of_le_mul (by omega) (by omega)
 have hst:(s:Int)*(t+1)≤10000:=by rw[←hs];exact Int.ediv_mul_le _ (by omega)
 have e1:IntKind.i64.wrap ((lb.length:Int)-1)=((lb.length-1:Nat):Int):=by simp[j9];omega
 have e2:IntKind.i64.wrap (t+1)=t+1:=by simp[j9];omega
 have e3:Int.tdiv 10000 (t+1)=(s:Int):=by rw[Int.tdiv_eq_ediv_of_nonneg (by omega),hs]
 have e4:IntKind.i64.wrap (s:Int)=(s:Int):=by simp[j9];omega
 have e5:¬(t+1=0):=by omega
 have e6:¬((lb.length:Int)=1):=by omega
 have i1:(0:Int)≤((lb.length-1:Nat):Int):=by omega
 have i2:((lb.length-1:Nat):Int)<(lb.length:Int):=by omega
 have i3:((lb.length-1:Nat):Int).toNat=lb.length-1:=xa _;have HC':=Lib.hid HC;have HA:=zc.mk ha4;have HB:=zc.mk hb4;have HcA:=zc.mk hcell;have HM1:=fun W B' h1 h2=>Lib.hid (mul_at A B' c0 1 la [(s:Int)] W ha3.wf (fun x hx=>by simp at hx;omega) h1 h2 (by omega) (by simp))
 have HM2:=fun W B' h1 h2=>Lib.hid (mul_at B B' c1 1 lb [(s:Int)] W hb3.wf (fun x hx=>by simp at hx;omega) h1 h2 (by omega) (by simp))
 rw[ha3.val,lv_one,xa]at HM1;rw[hb3.val,lv_one,xa]at HM2;have HNS:zc ((∀l,isL l (n*s)→l.length≤1000001)∧(∀l,isL l (m*s)→l.length≤1000001)):=by
  obtain⟨k,hk1,hk2⟩:=hn;have hsk:s<10000:=by omega
  have h5:n*s<10000^(k+1):=by
   rw[Nat.pow_succ];exact Nat.mul_lt_mul'' hk2 hsk
  have h6:m*s≤n*s:=Nat.mul_le_mul_right _ hmn;exact⟨fun l hl=>by have:=hl.len _ h5;omega,fun l hl=>by have:=hl.len (k+1) (by omega);omega⟩
 have hsl:=scale_lt (s:=s) hb3 (by omega) ht hst (by omega)
 have HSL:=zc.mk hsl;clear hsl;have HSC:=zc.mk (And.intro hs1 (And.intro hs2 (And.intro hst htop)));have HLB:=zc.mk hb3;have HLA:=zc.mk ha3;subst hB;clear HC ha hb ha3 hb3 ha4 hb4 hz hcell ht hs hst htw htop;go_enter Tryz.func183,Tryz.ntmps183
 go_wp2_with fail;refine HC'.out.mono ?_;rintro e w1 ⟨rfl,hb1'⟩;have hcell:=zt hb1' HcA.out;have HB1:=zc.mk hb1';clear HC' hb1';go_wp2_with fail;have hbs:=xb w1.heap.size w1;refine(HM1 _ _ (Kd.C_below HA.out (HB1.out.trans (((xb w1.heap.size w1).alloc (xc _) _).mono HB1.out.size))) (C_one w1 (s:Int))).out.mono ?_;rintro e w2 ⟨gu,u0,cu,rfl,hRu,hgu,hLu,hb2⟩;have hsz1:(w1.alloc (.cells #[.int .i64 (s:Int)] 3)).heap.size=w1.heap.size+1:=by simp
 have hB2:=HB1.out.trans ((((xb w1.heap.size w1).alloc (xc _) (.cells #[.int .i64 (s:Int)] 3)).trans (hb2.mono (by rw[hsz1];omega))).mono HB1.out.size)
 have HB2:=zc.mk hB2;have HS2:=zc.mk (Kd.C_below (C_one w1 (s:Int)) hb2);rw[hsz1]at hRu hgu;have hs20:w1.heap.size+1≤w2.heap.size:=by rw[←hsz1];exact hb2.size
 have kS2:w2.heap[w1.heap.size]? =some (.cells #[.int .i64 (s:Int)] 3 (0,0)):=(hb2.block _ (by rw[hsz1];omega)).trans (j7 w1 _)
 have KS2:=zc.mk kS2;clear kS2;have HRu:=zc.mk hRu;have HLu:=zc.mk hLu;have hw1:=HB1.out.size;clear hbs hb2 hB2 hsz1 hRu hLu HM1 hcell;have hul:u0.length≤1000001:=HNS.out.1 u0 HLu.out;have hb20:=(xb w2.heap.size w2).alloc (xc _) (.cells #[.int .i64 0,.int .i64 0] 3);go_wp2_with(at_builtin;refine Kd.R_append_rows (Kd.int .i64) (Rr:=(Kd.int .i64).K (w2.alloc (.cells #[.int .i64 0,.int .i64 0] 3))) (w0:=w2) (w1.heap.size+1) rfl (.tmp 43) (.tmp 44) 167 3 (.int .i64 0) 8 rfl Tryz.underlying167 info3 rfl (by decide) (by omega) _ u0 [0,0] (some ⟨w2.heap.size,0,none⟩) 2 2 (fun _=>True) (fun _=>False) rfl rfl (Kd.R_mono (Kd.R_below HRu.out hb20) (fun _ _=>trivial)) (C_two w2 0 0) (fun x cs h=>h) (fun _ hk=>hk.elim) (fun _ _=>trivial) (hb20.mono hs20) (by simp;omega) (by omega) ?_;intro v7 w3 ho7 hb7 hg7 hn7)
 obtain⟨g7,hg71,hg72⟩:∃g7,v7.ownBlock=some g7∧w1.heap.size+1≤g7:=by
  rcases hn7 with h|⟨b,h,hb⟩
  ·exact⟨gu,h,hgu⟩
  ·exact⟨b,h,by simp at hb;omega⟩
 have r7:=RI1.of ho7 hg71;obtain⟨cap7,rfl,hcap7⟩:=r7.form hg71;have hu2:(u0++[0,0]).length=u0.length+2:=by simp
 rw[hu2]at r7 hcap7;have HR7:=zc.mk r7;have KS3:=zc.mk ((hb7.block w1.heap.size (by omega)).trans KS2.out)
 have HB3:=zc.mk (HB2.out.trans (hb7.mono (by omega)))
 have hw3:=hb7.size;clear ho7 hb7 hg7 hn7 r7 hg71 HRu HS2 KS2 hgu hb20 HB2;refine(HM2 _ _ (Kd.C_below HB.out HB3.out) (C_oneB KS3.out)).out.mono ?_;rintro e w4 ⟨gv,v0,cv,rfl,hRv,hgv,hLv,hb4⟩;have HRv:=zc.mk hRv;have HLv:=zc.mk hLv;have HR74:=zc.mk (HR7.out.below hb4);have KS4:=zc.mk ((hb4.block w1.heap.size (by omega)).trans KS3.out)
 have HB4:=zc.mk (HB3.out.trans (hb4.mono HB3.out.size));have hw4:=hb4.size;have hg7lt:g7<w3.heap.size:=by
  obtain⟨inner,ho⟩:=Kd.R_own HR7.out;exact own_lt ho g7 rfl
 have hgvlt:gv<w4.heap.size:=by
  obtain⟨inner,ho⟩:=Kd.R_own hRv;exact own_lt ho gv rfl
 obtain⟨N,hN⟩:∃N,n*s=N:=⟨_,rfl⟩;obtain⟨V,hV⟩:∃V,m*s=V:=⟨_,rfl⟩;have hs0:1≤s:=by have:=HSC.out.1;omega
 rw[hN]at HLu;rw[hV]at HLv;obtain⟨hv2,hvu,hvt,hV0,hDV⟩:=dv_start hs0 hN hV hm hmn HLu.out HLv.out;clear hRv hLv hb4 HM2 HR7 KS3 HB3;obtain⟨lu,hlu⟩:∃lu,u0.length+2=lu:=⟨_,rfl⟩;obtain⟨nv,hnv⟩:∃nv,v0.length=nv:=⟨_,rfl⟩;have hu3:(u0++[0,0]).length=lu:=by simp;omega
 rw[hlu]at HR74 hDV;rw[hnv]at hv2 hvu hvt hDV HRv;have e7:IntKind.i64.wrap ((lu:Int)-(nv:Int))=((lu-nv:Nat):Int):=by simp[j9];omega
 have e8:IntKind.i64.wrap (((lu-nv:Nat):Int)-1)=((lu-nv:Nat):Int)-1:=by simp[j9];omega
 obtain⟨D,hD⟩:∃D,lu-nv=D:=⟨_,rfl⟩;rw[hD]at e7 e8 hDV;have HDV:=zc.mk hDV;clear hDV;try rw[hu3]
 try rw[hu2]
 try rw[hlu]
 try rw[hnv]
 go_wp2_with((with_reducible refine gate_dst (N:=55) rfl ?_);refine Kd.R_make (Kd.int .i64) (w0:=w4) w4.heap.size 3 rfl (N:=55) rfl 167 _ _ rfl (D:Int) rfl rfl Tryz.underlying167 (.int .i64 0) 8 info3 rfl (by decide) (by omega) 0 (ok:=fun _=>True) (okp:=fun _=>True) rfl (fun _ hk=>hk) trivial (by omega) (by omega) (xb _ _) (xc _) ?_;intro vo w5 ho hbo hgo hnew;obtain⟨go,hg1,hg2⟩:=hnew;have r1:=RI1.of ho hg1;obtain⟨capo,rfl,hcapo⟩:=r1.form hg1;clear hg1 ho;have HRo:=zc.mk r1;have HG:=zc.mk hbo;clear r1 hgo hbo)
 have hNo:(List.replicate (D:Int).toNat (0:Int)).length=D:=by rw[List.length_replicate,xa]
 rw[hNo]at HRo hcapo;rw[xa]at HRo;try rw[hNo]
 try rw[List.length_replicate]
 try rw[xa]
 have HR75:=zc.mk (HR74.out.below HG.out);have HRv5:=zc.mk (HRv.out.below HG.out);have KS5:=zc.mk ((HG.out.block w1.heap.size (by omega)).trans KS4.out)
 have HB5:=zc.mk (HB4.out.trans (HG.out.mono HB4.out.size));have hsw:w.heap.size≤w1.heap.size:=HB1.out.size;have hne1:gv≠g7:=by omega
 have hne2:go≠g7:=by omega
 have hne3:go≠gv:=by omega
 have hne4:w1.heap.size≠g7:=by omega
 have hne5:w1.heap.size≠go:=by omega
 have HVW:=zc.mk HLv.out.wf;have HVV:zc (lv v0=V):=⟨HLv.out.val⟩;have hNV:N/V=n/m∧N%V=n%m*s:=by
  rw[←hN,←hV];exact⟨Nat.mul_div_mul_right _ _ hs0,Nat.mul_mod_mul_right _ _ _⟩
 have HNV:=zc.mk hNV;have hDlu:D+nv=lu:=by omega
 clear hNV HR74 HRv KS4 HG HB4 hw3 hw4 hNo e1 e2 e3 e4 e5 e6 i1 i2 i3;go_loopg [11] (D+1) (fun kq v11 w'=>∃(jj:Nat) (jz:Int) (u out:List Int),v11= .int .i64 jz∧jz=(jj:Int)-1∧jj+1≤kq∧jj≤D∧zc (DvI N V nv lu jj u out)∧zc (RI1 w' (w1.heap.size+1) g7 (.slice (some ⟨g7,0,none⟩) lu cap7) u)∧zc (RI1 w' w3.heap.size gv (.slice (some ⟨gv,0,none⟩) nv cv) v0)∧zc (RI1 w' w4.heap.size go (.slice (some ⟨go,0,none⟩) D capo) out)∧zc (w'.heap[w1.heap.size]? =some (.cells #[.int .i64 (s:Int)] 3 (0,0)))∧zc (Below w.heap.size w w'))
 case atStart=>exact⟨D,_,_,_,rfl,rfl,by omega,by omega,HDV,HR75,HRv5,HRo,KS5,HB5⟩
 case round=>
  clear HDV HR75 HRv5 HRo KS5 HB5;obtain⟨jj,jz,u,out,rfl,hjz,hk,hjD,HDV,HRu,HRv,HRo,KS,HB⟩:=hrel;obtain⟨gq,hgq⟩:∃gq,gk=gq:=⟨_,rfl⟩;rcases Nat.eq_zero_or_pos jj with hj0|hj0
  ·subst hj0
   have hjn:¬(0:Int)≤jz:=by omega
   clear hjz;have hfu:=HDV.out.val;have hfl:=HDV.out.lt;rw[Nat.pow_zero,Nat.mul_one]at hfl;have hq:N/V=lv out∧N%V=lv u:=by
    rw[Nat.div_mod_unique hV0];exact⟨hfu,hfl⟩
   rw[HNV.out.1,HNV.out.2]at hq;have hul:=HDV.out.ulen;have hol:=HDV.out.olen;have HUL:=zc.mk (qD u HDV.out.uwf);have HOL:=zc.mk (qD out HDV.out.owf);rw[←hq.2]at HUL;rw[←hq.1]at HOL;have htl:(zA u).length≤1000000:=by
    have:=HUL.out.len lb.length (by
     have h1:=HSL.out;rw[hV]at h1;rw[hq.2];omega)
    omega
   have HT1:=fun W' h=>trim_bigN (some ⟨g7,0,none⟩) cap7 lu u W' hul h (by omega) (by have:=HRu.out.len;omega)
   have HT3:=fun W' h=>trim_bigN (some ⟨go,0,none⟩) capo D out W' (by omega) h (by omega) (by have:=HRo.out.len;omega)
   have HCu:zc (Kd.C (Kd.int .i64) wr (some ⟨g7,0,none⟩) lu u):=⟨HRu.out.C⟩;have HCt:zc (Kd.C (Kd.int .i64) wr (some ⟨g7,0,none⟩) (zA u).length (zA u)):=by
    refine⟨?_⟩;have h:=C_take (l:=u) (by rw[hul];exact HCu.out) (zA u).length (zO u).2.2.2
    rw[←ji]at h;exact h
   have HT2:=fun W' h=>short_at (some ⟨g7,0,none⟩) cap7 (zA u) _ s (by omega) (by omega) W' htl HUL.out h
   rw[Nat.mul_div_cancel _ (show 0<s by omega)]at HT2
   have hcs:wr.cell? ⟨w1.heap.size,0,none⟩=some (.int .i64 (s:Int)):=by rw[j6 KS.out];rfl
   have hSB:∀w':World,Below wr.heap.size wr w'→w'.cell? ⟨w1.heap.size,0,none⟩=some (.int .i64 (s:Int)):=fun w' hb=>zt hb hcs
   clear hq hfu hfl HRv HNV;go_wp2_with fail;go_region_held3 (fun w':World=>w'.cell? ⟨w1.heap.size,0,none⟩=some (.int .i64 (s:Int))) (exact hSB _ (by repeat(first|exact xb _ _|assumption|apply zk|apply ze|apply zm))) (first|(go_at_call 213;with_reducible refine(HT1 _ ?_).mono ?_;(exact Kd.C_below HCu.out (by repeat(first|exact xb _ _|apply zk|apply ze|apply zm)));rintro e w' ⟨rfl,rfl⟩)|(go_at_call 209;with_reducible refine(HT2 _ ?_).mono ?_;(exact Kd.C_below HCt.out (by repeat(first|exact xb _ _|apply zk|apply ze|apply zm)));rintro e w' ⟨v1,v2,l1,l2,rfl,hv1,hv2,hl1,hl2,hb2⟩;(have hb3:Below wr.heap.size wr w':=by first|exact hb2|exact((xb wr.heap.size wr).drew).trans (hb2.mono (by first|exact xc _|(simp;done)))|exact(((xb wr.heap.size wr).drew).drew).trans (hb2.mono (by first|exact xc _|(simp;done))));clear hb2))
   have hLq:LS wr (.slice (some ⟨go,0,none⟩) (zA out).length capo) (n/m):=by
    have h1:=C_take (l:=out) (by rw[hol,hD];exact HRo.out.C) (zA out).length (zO out).2.2.2
    rw[←ji]at h1;obtain⟨k,hk1,hk2⟩:=hn;have h2:=HOL.out.len k (Nat.lt_of_le_of_lt (Nat.div_le_self _ _) hk2);have h3:=(zO out).2.2.2;have h4:=HRo.out.len;exact⟨_,_,zA out,rfl,by omega,by omega,HOL.out,h1⟩
   have HLq:=zc.mk (hLq.below hb3);have HLr:=zc.mk (LS.of_V hv1 hl1 (hn.mono (Nat.mod_le _ _)));have HB6:=zc.mk (HB.out.trans (hb3.mono HB.out.size));have HT3':=Lib.hid (HT3 w' (HRo.out.below hb3).C);clear hv1 hv2 hl1 hl2 hb3 HT1 HT2 HT3 hSB hcs hLq;go_wp2_with fail;refine HT3'.out.mono ?_;rintro e w6 ⟨rfl,rfl⟩;go_wp2_with fail;refine bodyPost_ret (results_tmp2 rfl _ _ _) rfl ?_;exact⟨_,_,rfl,HLq.out,HLr.out,HB6.out⟩
  ·obtain⟨j,rfl⟩:∃j,jj=j+1:=⟨jj-1,by omega⟩
   obtain rfl:jz=(j:Int):=by omega
   have hwn:=HDV.out.uwf;obtain⟨x0,hx0⟩:=Int.eq_ofNat_of_zero_le (qc u HDV.out.uwf (j+nv)).1;obtain⟨x1,hx1⟩:=Int.eq_ofNat_of_zero_le (qc u HDV.out.uwf (j+nv-1)).1;obtain⟨x2,hx2⟩:=Int.eq_ofNat_of_zero_le (qc u HDV.out.uwf (j+nv-2)).1;obtain⟨vt,hvt'⟩:=Int.eq_ofNat_of_zero_le (qc v0 HVW.out (nv-1)).1;obtain⟨vs,hvs⟩:=Int.eq_ofNat_of_zero_le (qc v0 HVW.out (nv-2)).1;have b0:=qc u HDV.out.uwf (j+nv);have b1:=qc u HDV.out.uwf (j+nv-1);have b2:=qc u HDV.out.uwf (j+nv-2);have b3:=qc v0 HVW.out (nv-1);have b4:=qc v0 HVW.out (nv-2);have hgs:=gs_of u v0 V nv j HDV.out.uwf HVW.out HVV.out hnv hv2 hvt HDV.out.lt;rw[hx0,hx1,hx2,hvt',hvs]at hgs;simp only[xa]at hgs;rw[hx0]at b0;rw[hx1]at b1;rw[hx2]at b2;rw[hvt']at b3;rw[hvs]at b4;have HGS:=zc.mk hgs;obtain⟨hd,hhd⟩:∃hd,x0*10000+x1=hd:=⟨_,rfl⟩;rw[hhd]at HGS;have hvt0:=HGS.out.vt0;have f1:IntKind.i64.wrap ((j:Int)+(nv:Int))=((j+nv:Nat):Int):=by simp[j9];omega
   have f2:IntKind.i64.wrap (((j+nv:Nat):Int)-1)=((j+nv-1:Nat):Int):=by simp[j9];omega
   have f3:IntKind.i64.wrap (((j+nv:Nat):Int)-2)=((j+nv-2:Nat):Int):=by simp[j9];omega
   have f4:IntKind.i64.wrap ((nv:Int)-1)=((nv-1:Nat):Int):=by simp[j9];omega
   have f5:IntKind.i64.wrap ((nv:Int)-2)=((nv-2:Nat):Int):=by simp[j9];omega
   have f6:IntKind.i64.wrap ((x0:Int)*10000)=(x0:Int)*10000:=by simp[j9];omega
   have f7:IntKind.i64.wrap ((x0:Int)*10000+(x1:Int))=(hd:Int):=by simp[j9];omega
   have f8:((hd:Int)).tdiv (vt:Int)=((hd/vt:Nat):Int):=(Int.ofNat_tdiv ..).symm;have f9:((hd:Int)).tmod (vt:Int)=((hd%vt:Nat):Int):=(Int.ofNat_tmod ..).symm;have f10:IntKind.i64.wrap ((hd/vt:Nat):Int)=((hd/vt:Nat):Int):=by
    have:=Nat.div_le_self hd vt;generalize hd/vt=qq at*;simp[j9];omega
   have f11:IntKind.i64.wrap ((hd%vt:Nat):Int)=((hd%vt:Nat):Int):=by
    have:=Nat.mod_le hd vt;generalize hd%vt=qq at*;simp[j9];omega
   have f12:¬((vt:Int)=0):=by omega
   have i1:(0:Int)≤((j+nv:Nat):Int)∧((j+nv:Nat):Int)<(lu:Int)∧((j+nv:Nat):Int).toNat=j+nv:=by omega
   have i2:(0:Int)≤((j+nv-1:Nat):Int)∧((j+nv-1:Nat):Int)<(lu:Int)∧((j+nv-1:Nat):Int).toNat=j+nv-1:=by omega
   have i3:(0:Int)≤((j+nv-2:Nat):Int)∧((j+nv-2:Nat):Int)<(lu:Int)∧((j+nv-2:Nat):Int).toNat=j+nv-2:=by omega
   have i4:(0:Int)≤((nv-1:Nat):Int)∧((nv-1:Nat):Int)<(nv:Int)∧((nv-1:Nat):Int).toNat=nv-1:=by omega
   have i5:(0:Int)≤((nv-2:Nat):Int)∧((nv-2:Nat):Int)<(nv:Int)∧((nv-2:Nat):Int).toNat=nv-2:=by omega
   have i6:(0:Int)≤(j:Int):=by omega
   have q0:=HRu.out.cell (j+nv) (by omega)
   have q1:=HRu.out.cell (j+nv-1) (by omega)
   have q3:=HRv.out.cell (nv-1) (by omega)
   rw[hx0]at q0;rw[hx1]at q1;rw[hvt']at q3;obtain⟨i1a,i1b,i1c⟩:=i1;obtain⟨i2a,i2b,i2c⟩:=i2;obtain⟨i3a,i3b,i3c⟩:=i3;obtain⟨i4a,i4b,i4c⟩:=i4;obtain⟨i5a,i5b,i5c⟩:=i5;have HX0:=zc.mk (And.intro hx2 (And.intro hvt' hvs));have HQ0:zc (hd/vt*vt+hd%vt=hd∧lv (u.drop j)/V≤hd/vt):=⟨by rw[Nat.mul_comm];exact Nat.div_add_mod hd vt,HGS.out.top⟩
   have hdb:hd<100000000:=by omega
   clear hx0 hx1 hx2 hvt' hvs hgs hwn hjz;go_wp2_with fail;obtain⟨JF,hJF⟩:∃JF:(Nat→Value)→Act→World→Prop,JF=fun f a' w'=>∃(q rs:Nat),a'={tmps:=#[Value.slice A la.length c0,Value.slice (some ad) lb.length c1,undef,undef,Value.slice none 0 0,Value.slice none 0 0,Value.slice (some ⟨w1.heap.size,0,none⟩) 1 1,Value.slice (some ⟨g7,0,none⟩) lu cap7,Value.slice (some ⟨gv,0,none⟩) nv cv,Value.int .i64 (nv:Int),Value.slice (some ⟨go,0,none⟩) D capo,Value.int .i64 (j:Int),(f 12),Value.int .i64 (q:Int),Value.int .i64 (rs:Int),undef,undef,Value.slice A la.length c0,Value.slice (some ad) lb.length c1,Value.int .i64 z,Value.bool (decide (z<0)),undef,Value.slice (some ad) lb.length c1,Value.int .i64 (lb.length:Int),Value.bool false,undef,undef,undef,undef,undef,undef,undef,Value.slice (some ad) lb.length c1,Value.slice (some ad) lb.length c1,Value.int .i64 (lb.length:Int),Value.int .i64 ((lb.length-1:Nat):Int),Value.pointer (some (ad.add (lb.length-1))),Value.int .i64 t,Value.int .i64 (t+1),Value.int .i64 (s:Int),Value.slice (some ⟨w1.heap.size,0,none⟩) 1 1,Value.slice A la.length c0,Value.slice (some ⟨w1.heap.size,0,none⟩) 1 1,Value.slice (some ⟨gu,0,none⟩) u0.length cu,Value.slice (some ⟨w2.heap.size,0,none⟩) 2 2,Value.slice (some ⟨g7,0,none⟩) lu cap7,Value.slice (some ad) lb.length c1,Value.slice (some ⟨w1.heap.size,0,none⟩) 1 1,Value.slice (some ⟨gv,0,none⟩) nv cv,Value.slice (some ⟨gv,0,none⟩) nv cv,Value.int .i64 (nv:Int),Value.slice (some ⟨g7,0,none⟩) lu cap7,Value.int .i64 (lu:Int),Value.int .i64 (nv:Int),Value.int .i64 (D:Int),Value.slice (some ⟨go,0,none⟩) D capo,Value.slice (some ⟨g7,0,none⟩) lu cap7,Value.int .i64 (lu:Int),Value.int .i64 (nv:Int),Value.int .i64 (D:Int),Value.int .i64 ((D:Int)-1),(f 61),(f 62),(f 63),(f 64),(f 65),(f 66),(f 67),(f 68),(f 69),(f 70),(f 71),(f 72),(f 73),(f 74),(f 75),(f 76),(f 77),(f 78),(f 79),(f 80),(f 81),(f 82),(f 83),(f 84),(f 85),(f 86),(f 87),(f 88),(f 89),(f 90),(f 91),(f 92),(f 93),(f 94),(f 95),(f 96),(f 97),(f 98),(f 99),(f 100),(f 101),(f 102),(f 103),(f 104),(f 105),(f 106),(f 107),(f 108),(f 109),(f 110),(f 111),(f 112),(f 113),(f 114),(f 115),(f 116),(f 117),(f 118),(f 119),(f 120),(f 121),(f 122),(f 123),(f 124),(f 125),(f 126),(f 127),(f 128),(f 129),(f 130),(f 131),(f 132),(f 133),(f 134),(f 135),(f 136),(f 137),(f 138),(f 139),(f 140),(f 141),(f 142),undef,undef,undef,undef,undef,undef,undef,undef,undef,undef,undef,undef],defers:=[]}∧zc (q*vt+rs=hd∧lv (u.drop j)/V≤q)∧zc (RI1 w' (w1.heap.size+1) g7 (.slice (some ⟨g7,0,none⟩) lu cap7) u)∧zc (RI1 w' w3.heap.size gv (.slice (some ⟨gv,0,none⟩) nv cv) v0)∧zc (RI1 w' w4.heap.size go (.slice (some ⟨go,0,none⟩) D capo) out)∧zc (w'.heap[w1.heap.size]? =some (.cells #[.int .i64 (s:Int)] 3 (0,0)))∧zc (Below w.heap.size w w'):=⟨_,rfl⟩
   have HJF:=zc.mk hJF;clear hJF;refine wp_scope_one 0 (fun a' w'=>JF (fun i=>a'.tmps.getD i undef) a' w') (fun a' _=>mu13 a') rfl ?pass ?first
   case first=>
    intro HJ;go_wp2_with fail;go_quiet (fail)
    have HRu1:=zc.mk (HRu.out.drewN nq);have HRv1:=zc.mk (HRv.out.drewN nq);have HRo1:=zc.mk (HRo.out.drewN nq);have HB1':=zc.mk (ze HB.out nq);have KS1:zc ((wr.drewN nq).heap[w1.heap.size]? =some (.cells #[.int .i64 (s:Int)] 3 (0,0))):=KS;have q4:=HRv1.out.cell (nv-1) (by omega)
    rw[HX0.out.2.1]at q4;generalize wr.drewN nq=W1 at*;clear q0 q1 q3 HRu HRv HRo HB KS;go_wp2_with fail;go_quiet (fail)
    have f13:wrap64 ((hd:Int)/(vt:Int))=((hd/vt:Nat):Int):=by
     rw[←Int.natCast_ediv];have:=Nat.div_le_self hd vt;generalize hd/vt=qq at*;exact wrap_id _ (by omega) (by omega)
    have f14:(hd:Int)%(vt:Int)=((hd%vt:Nat):Int):=(Int.natCast_emod ..).symm;rw[f13,f14];have HRu2:=zc.mk (HRu1.out.drewN nq);have HRv2:=zc.mk (HRv1.out.drewN nq);have HRo2:=zc.mk (HRo1.out.drewN nq);have HB2':=zc.mk (ze HB1'.out nq);have KS2:zc ((W1.drewN nq).heap[w1.heap.size]? =some (.cells #[.int .i64 (s:Int)] 3 (0,0))):=KS1;generalize W1.drewN nq=W2 at*;generalize hd/vt=qn at*;generalize hd%vt=rn at*;clear q4 HRu1 HRv1 HRo1 HB1' KS1;go_wp2_with fail;refine at_label1 (by assumption) ?_
    refine HJ _ _ ?_;rw[HJF.out];exact⟨qn,rn,rfl,HQ0,HRu2,HRv2,HRo2,KS2,HB2'⟩
   case pass=>
    intro a' W1 hJ;generalize (fun i=>a'.tmps.getD i undef)=f at hJ
    rw[HJF.out]at hJ;obtain⟨q,rs,rfl,HQ,HRu1,HRv1,HRo1,KS1,HB1'⟩:=hJ;clear HRu HRv HRo HB KS HQ0 q0 q1 q3;have hqd:q≤hd:=by
     have h:=HQ.out.1;have:q*1≤q*vt:=Nat.mul_le_mul_left _ hvt0;omega
    have hrd:rs≤hd:=by have h:=HQ.out.1;omega
    have q4:=HRv1.out.cell (nv-1) (by omega)
    rw[HX0.out.2.1]at q4;have q5:=HRv1.out.cell (nv-2) (by omega)
    rw[HX0.out.2.2]at q5;have q6:=HRu1.out.cell (j+nv-2) (by omega)
    rw[HX0.out.1]at q6;have hqvs:q<10000→q*vs≤100000000:=fun h=>Nat.mul_le_mul (show q≤10000 by omega) (show vs≤10000 by omega)
    obtain⟨qv,hqv⟩:∃qv,q*vs=qv:=⟨_,rfl⟩;rw[hqv]at hqvs;have g1:(q:Int)*(vs:Int)=(qv:Int):=by rw[←hqv,Int.natCast_mul]
    have g2:q<10000→IntKind.i64.wrap ((q:Int)*(vs:Int))=(qv:Int):=fun h=>by
     have:=hqvs h;rw[g1];simp[j9];omega
    have g3:IntKind.i64.wrap ((rs:Int)*10000)=((rs*10000:Nat):Int):=by simp[j9];omega
    have g4:IntKind.i64.wrap (((rs*10000:Nat):Int)+(x2:Int))=((rs*10000+x2:Nat):Int):=by simp[j9];omega
    have g5:IntKind.i64.wrap ((rs:Int)+(vt:Int))=((rs+vt:Nat):Int):=by simp[j9];omega
    obtain⟨rt,hrt⟩:∃rt,rs*10000=rt:=⟨_,rfl⟩;obtain⟨rx,hrx⟩:∃rx,rt+x2=rx:=⟨_,rfl⟩;obtain⟨rv,hrv⟩:∃rv,rs+vt=rv:=⟨_,rfl⟩;rw[hrt]at g3 g4;rw[hrx]at g4;rw[hrv]at g5;have hless:(10000≤q∨rx<qv)→lv (u.drop j)/V<q:=fun h=>HGS.out.less q rs HQ.out.1 HQ.out.2 (by rw[hrt,hrx,hqv];exact h)
    have hrlt:rs≤hd:=hrd;by_cases hjm:(10000≤q∨rx<qv)∧rv<10000
    ·by_cases hqb:10000≤q
     ·skip
      have d1:decide ((10000:Int)≤(q:Int))=true:=decide_eq_true (by omega)
      have d2:(10000:Int)≤(q:Int):=by omega
      clear g1 g2 g3 g4 q5 q6 hqvs;go_wp2_with fail;go_quiet (fail)
      have HRu2:=zc.mk (HRu1.out.drewN nq);have HRv2:=zc.mk (HRv1.out.drewN nq);have HRo2:=zc.mk (HRo1.out.drewN nq);have HB2':=zc.mk (ze HB1'.out nq);have KS2:zc ((W1.drewN nq).heap[w1.heap.size]? =some (.cells #[.int .i64 (s:Int)] 3 (0,0))):=KS1;have q7:=HRv2.out.cell (nv-1) (by omega)
      rw[HX0.out.2.1]at q7;generalize W1.drewN nq=Wt at*;clear HRu1 HRv1 HRo1 HB1' KS1 q4;have hq1:1≤q:=Nat.succ_le_of_lt (Nat.lt_of_le_of_lt (Nat.zero_le _) (hless (.inl hqb)));have hqq:(q-1)*vt+rv=hd:=by
       have h:=HQ.out.1;obtain⟨q',rfl⟩:∃q',q=q'+1:=⟨q-1,by omega⟩
       rw[Nat.add_sub_cancel];rw[Nat.succ_mul]at h;omega
      have hqx:lv (u.drop j)/V≤q-1:=Nat.le_sub_one_of_lt (hless (.inl hqb));have g7':IntKind.i64.wrap ((q:Int)-1)=((q-1:Nat):Int):=by simp[j9];omega
      have d3:(rv:Int)<10000:=by omega
      go_wp2_with fail;go_step3
      refine⟨rfl,?_,?_⟩
      ·rw[HJF.out]
       exact⟨q-1,rv,rfl,⟨hqq,hqx⟩,HRu2,HRv2,HRo2,KS2,HB2'⟩
      ·show q-1<q
       omega
     ·have hcd:rx<qv:=by
       rcases hjm.1 with h|h
       ·exact absurd h hqb
       ·exact h
      have d4:(rx:Int)<(qv:Int):=by omega
      have d1:decide ((10000:Int)≤(q:Int))=false:=decide_eq_false (by omega)
      have d2:¬(10000:Int)≤(q:Int):=by omega
      have g6:=g2 (by omega)
      clear g1 g2;go_wp2_with fail;go_quiet (fail)
      have HRu2:=zc.mk (HRu1.out.drewN nq);have HRv2:=zc.mk (HRv1.out.drewN nq);have HRo2:=zc.mk (HRo1.out.drewN nq);have HB2':=zc.mk (ze HB1'.out nq);have KS2:zc ((W1.drewN nq).heap[w1.heap.size]? =some (.cells #[.int .i64 (s:Int)] 3 (0,0))):=KS1;have q7:=HRv2.out.cell (nv-1) (by omega)
      rw[HX0.out.2.1]at q7;generalize W1.drewN nq=Wt at*;clear HRu1 HRv1 HRo1 HB1' KS1 q4;clear q5 q6 hqvs g3 g4 g6;have hq1:1≤q:=Nat.succ_le_of_lt (Nat.lt_of_le_of_lt (Nat.zero_le _) (hless (.inr hcd)));have hqq:(q-1)*vt+rv=hd:=by
       have h:=HQ.out.1;obtain⟨q',rfl⟩:∃q',q=q'+1:=⟨q-1,by omega⟩
       rw[Nat.add_sub_cancel];rw[Nat.succ_mul]at h;omega
      have hqx:lv (u.drop j)/V≤q-1:=Nat.le_sub_one_of_lt (hless (.inr hcd));have g7':IntKind.i64.wrap ((q:Int)-1)=((q-1:Nat):Int):=by simp[j9];omega
      have d3:(rv:Int)<10000:=by omega
      go_wp2_with fail;go_step3
      refine⟨rfl,?_,?_⟩
      ·rw[HJF.out]
       exact⟨q-1,rv,rfl,⟨hqq,hqx⟩,HRu2,HRv2,HRo2,KS2,HB2'⟩
      ·show q-1<q
       omega
    by_cases hqb:10000≤q
    have d1:decide ((10000:Int)≤(q:Int))=true:=decide_eq_true (by omega)
    have d2:(10000:Int)≤(q:Int):=by omega
    clear g1 g2 g3 g4 q5 q6 hqvs;go_wp2_with fail;go_quiet (fail)
    have HRu2:=zc.mk (HRu1.out.drewN nq);have HRv2:=zc.mk (HRv1.out.drewN nq);have HRo2:=zc.mk (HRo1.out.drewN nq);have HB2':=zc.mk (ze HB1'.out nq);have KS2:zc ((W1.drewN nq).heap[w1.heap.size]? =some (.cells #[.int .i64 (s:Int)] 3 (0,0))):=KS1;have q7:=HRv2.out.cell (nv-1) (by omega)
    rw[HX0.out.2.1]at q7;generalize W1.drewN nq=Wt at*;clear HRu1 HRv1 HRo1 HB1' KS1 q4;have hq1:1≤q:=Nat.succ_le_of_lt (Nat.lt_of_le_of_lt (Nat.zero_le _) (hless (.inl hqb)));have hqq:(q-1)*vt+rv=hd:=by
     have h:=HQ.out.1;obtain⟨q',rfl⟩:∃q',q=q'+1:=⟨q-1,by omega⟩
     rw[Nat.add_sub_cancel];rw[Nat.succ_mul]at h;omega
    have hqx:lv (u.drop j)/V≤q-1:=Nat.le_sub_one_of_lt (hless (.inl hqb));have g7':IntKind.i64.wrap ((q:Int)-1)=((q-1:Nat):Int):=by simp[j9];omega
    have d3:¬(rv:Int)<10000:=by omega
    obtain⟨hp3,hp2⟩:=HGS.out.far (q-1) rv hqq (by omega)
    obtain⟨p,hp⟩:∃p,q-1=p:=⟨_,rfl⟩;rw[hp]at hp2 hp3 hqx g7';have hp1:lv (u.drop j)/V≤p:=hqx;clear hqx hqq hp hq1;go_wp2_with fail;rotate_left;by_cases hcd:rx<qv
    have d4:(rx:Int)<(qv:Int):=by omega
    have d1:decide ((10000:Int)≤(q:Int))=false:=decide_eq_false (by omega)
    have d2:¬(10000:Int)≤(q:Int):=by omega
    have g6:=g2 (by omega)
    clear g1 g2;go_wp2_with fail;go_quiet (fail)
    have HRu2:=zc.mk (HRu1.out.drewN nq);have HRv2:=zc.mk (HRv1.out.drewN nq);have HRo2:=zc.mk (HRo1.out.drewN nq);have HB2':=zc.mk (ze HB1'.out nq);have KS2:zc ((W1.drewN nq).heap[w1.heap.size]? =some (.cells #[.int .i64 (s:Int)] 3 (0,0))):=KS1;have q7:=HRv2.out.cell (nv-1) (by omega)
    rw[HX0.out.2.1]at q7;generalize W1.drewN nq=Wt at*;clear HRu1 HRv1 HRo1 HB1' KS1 q4;clear q5 q6 hqvs g3 g4 g6;have hq1:1≤q:=Nat.succ_le_of_lt (Nat.lt_of_le_of_lt (Nat.zero_le _) (hless (.inr hcd)));have hqq:(q-1)*vt+rv=hd:=by
     have h:=HQ.out.1;obtain⟨q',rfl⟩:∃q',q=q'+1:=⟨q-1,by omega⟩
     rw[Nat.add_sub_cancel];rw[Nat.succ_mul]at h;omega
    have hqx:lv (u.drop j)/V≤q-1:=Nat.le_sub_one_of_lt (hless (.inr hcd));have g7':IntKind.i64.wrap ((q:Int)-1)=((q-1:Nat):Int):=by simp[j9];omega
    have d3:¬(rv:Int)<10000:=by omega
    obtain⟨hp3,hp2⟩:=HGS.out.far (q-1) rv hqq (by omega)
    obtain⟨p,hp⟩:∃p,q-1=p:=⟨_,rfl⟩;rw[hp]at hp2 hp3 hqx g7';have hp1:lv (u.drop j)/V≤p:=hqx;clear hqx hqq hp hq1;go_wp2_with fail;rotate_left;have d4:¬(rx:Int)<(qv:Int):=by omega
    have d1:decide ((10000:Int)≤(q:Int))=false:=decide_eq_false (by omega)
    have d2:¬(10000:Int)≤(q:Int):=by omega
    have g6:=g2 (by omega)
    clear g1 g2;go_wp2_with fail;go_quiet (fail)
    have HRu2:=zc.mk (HRu1.out.drewN nq);have HRv2:=zc.mk (HRv1.out.drewN nq);have HRo2:=zc.mk (HRo1.out.drewN nq);have HB2':=zc.mk (ze HB1'.out nq);have KS2:zc ((W1.drewN nq).heap[w1.heap.size]? =some (.cells #[.int .i64 (s:Int)] 3 (0,0))):=KS1;have q7:=HRv2.out.cell (nv-1) (by omega)
    rw[HX0.out.2.1]at q7;generalize W1.drewN nq=Wt at*;clear HRu1 HRv1 HRo1 HB1' KS1 q4;clear q5 q6 hqvs g3 g4 g6;have hp3:q<10000:=by omega
    have hp2:=HGS.out.done q rs HQ.out.1 hp3 (by rw[hrt,hrx,hqv];omega)
    obtain⟨p,hp⟩:∃p,q=p:=⟨_,rfl⟩;have hp1:lv (u.drop j)/V≤q:=HQ.out.2;rw[hp]at hp1 hp2 hp3 ⊢;clear hp;go_wp2_with fail;rotate_left
    all_goals
     have hpt:p<10000:=hp3;have HTK:=take_at g7 (w1.heap.size+1) cap7 u v0 cv j p Wt (by rw[HDV.out.ulen];exact HRu2.out) gv w3.heap.size hne1 (by rw[hnv];exact HRv2.out) HDV.out.uwf HVW.out hpt (by rw[HDV.out.ulen,hnv];omega) (by rw[HDV.out.ulen];omega)
     rw[HDV.out.ulen,hnv]at HTK;have HTK:=Lib.hid HTK;refine HTK.out.mono ?_;rintro e Wa ⟨cc,rfl,hcc,u',ht,hRu',hga⟩;obtain⟨hA,hBn⟩:=HDV.out.took (by omega) HVW.out HVV.out hnv hV0 HGS.out.lt p hp1 hp2 ht hcc
     have HRv3:=zc.mk (HRv2.out.gr hga hne1);have HRo3:=zc.mk (HRo2.out.gr hga hne2);have KS3:=zc.mk ((hga.block w1.heap.size (xe KS2.out).1 (fun e=>hne4 (by injection e))).trans KS2.out)
     have HB3':zc (Below w.heap.size w Wa):=⟨HB2'.out.grown hga (by have:=HB2'.out.size;omega) (fun k e=>by cases e;omega)⟩
     have HTT:=zc.mk ht;have HRu3:=zc.mk hRu';have e9:IntKind.i64.wrap ((j:Int)-1)=(j:Int)-1:=by simp[j9];omega
     have jD:(j:Int)<(D:Int):=by omega
     have jN:((j:Int)).toNat=j:=xa _;clear HTK HRu2 HRv2 HRo2 KS2 HB2' hga ht hRu';by_cases hcn:cc<0
     ·have hG1:=HB3'
      have HGV:=give_at g7 (w1.heap.size+1) cap7 u' v0 cv j Wa (by rw[HTT.out.len,HDV.out.ulen];exact HRu3.out) gv w3.heap.size hne1 (by rw[hnv];exact HRv3.out) HTT.out.wf HVW.out (by rw[HTT.out.len,HDV.out.ulen,hnv];omega) (by rw[HTT.out.len,HDV.out.ulen];omega)
      rw[HTT.out.len,HDV.out.ulen,hnv]at HGV;have HGV:=Lib.hid HGV;have hp0:=(hBn hcn).1;have hBn:=zc.mk (hBn hcn).2;have e10:1≤p→IntKind.i64.wrap ((p:Int)-1)=((p-1:Nat):Int):=fun h=>by simp[j9];omega
      have e10:=e10 hp0;clear hA;go_wp2_with fail;refine HGV.out.mono ?_;rintro e Wb ⟨rfl,c2,hc2,u2,ht2,hRu2,hgb⟩;have hA:=zc.mk (hBn.out c2 u2 ht2);have HRo5:=zc.mk (HRo3.out.gr hgb hne2);have HRu5:=zc.mk hRu2;have HRv5:=zc.mk (HRv3.out.gr hgb hne1);have KS5:=zc.mk ((hgb.block w1.heap.size (xe KS3.out).1 (fun e=>hne4 (by injection e))).trans KS3.out)
      have HB5:zc (Below w.heap.size w Wb):=⟨HB3'.out.grown hgb (by have:=HB3'.out.size;omega) (fun k e=>by cases e;omega)⟩
      clear hBn HTT HRu3 HRv3 HRo3 KS3 HB3' HGV hgb ht2 hRu2;have qo:=HRo5.out.cell j (by omega)
      have fo:=HRo5.out.frozen j;have HRo4:=zc.mk (HRo5.out.put j (by omega) ((p-1:Nat):Int))
      have hgo:=gset (World.grownBy.refl Wb (some go)) j (.int .i64 ((p-1:Nat):Int));have HRu4:=zc.mk (HRu5.out.gr hgo (fun e=>hne2 e.symm))
      have HRv4:=zc.mk (HRv5.out.gr hgo (fun e=>hne3 e.symm))
      have KS4:=zc.mk ((hgo.block w1.heap.size (xe KS5.out).1 (fun e=>hne5 (by injection e))).trans KS5.out)
      have HB4':=zc.mk (HB5.out.setCell (p:=⟨go,j,none⟩) (by simp only;omega) (.int .i64 ((p-1:Nat):Int)))
      clear HRu5 HRv5 KS5 HB5 hgo;go_wp2_with fail;simp only[Exit.jump];go_wp2_with fail;go_roundg (gq-1)
      case measure=>omega
      case rel=>exact⟨j,(j:Int)-1,u2,out.set j ((p-1:Nat):Int),rfl,rfl,by omega,by omega,hA,HRu4,HRv4,HRo4,KS4,HB4'⟩
     ·have HAx:=zc.mk (hA hcn)
      have qo:=HRo3.out.cell j (by omega)
      have fo:=HRo3.out.frozen j;have HRo4:=zc.mk (HRo3.out.put j (by omega) (p:Int))
      have hgo:=gset (World.grownBy.refl Wa (some go)) j (.int .i64 (p:Int));have HRu4:=zc.mk (HRu3.out.gr hgo (fun e=>hne2 e.symm))
      have HRv4:=zc.mk (HRv3.out.gr hgo (fun e=>hne3 e.symm))
      have KS4:=zc.mk ((hgo.block w1.heap.size (xe KS3.out).1 (fun e=>hne5 (by injection e))).trans KS3.out)
      have HB4':=zc.mk (HB3'.out.setCell (p:=⟨go,j,none⟩) (by simp only;omega) (.int .i64 (p:Int)))
      clear hBn hA HTT HRu3 HRv3 KS3 HB3' hgo;go_wp2_with fail;simp only[Exit.jump];go_wp2_with fail;go_roundg (gq-1)
      case measure=>omega
      case rel=>exact⟨j,(j:Int)-1,u',out.set j (p:Int),rfl,rfl,by omega,by omega,HAx,HRu4,HRv4,HRo4,KS4,HB4'⟩
theorem jf (M:Nat):zX M:=by
 intro n m a b w ha hb h0 hM hn;by_cases hlt:n<m
 ·exact div_lt n m a b w ha hb hlt
 ·by_cases hm:m<10000
  ·exact div_one n m a b w ha hb h0 hm (by omega) hn
  ·exact div_long n m a b w ha hb (by omega) (by omega) hn
end Go.Proofs.YtjopepfemhckjaaGreatDoor.NW
end
