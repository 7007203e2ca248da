/-
  Part 32 of the proof of parseTells_holds: texts of this seat, put together.
-/
import Derived.Deep.RegionHeld3
import Derived.Test.YtjopepfemhckjaaGreatDoorTl30
set_option linter.unusedVariables false
set_option linter.unusedSimpArgs false
set_option maxHeartbeats 16000000
set_option maxRecDepth 100000
section
namespace Go.Proofs.YtjopepfemhckjaaGreatDoor.NW
open Go.Proofs Go.RowKit Go.Shelf Go.Proofs.YtjopepfemhckjaaGreatDoor.PN Go.Proofs.YtjopepfemhckjaaGreatDoorW.PrintWords Go.Proofs.YtjopepfemhckjaaGreatDoor.PParseTells
theorem bcell {W w1:World}(hb:Below W.heap.size W w1):(∀b o,b<W.heap.size→w1.cell? ⟨b,o,none⟩=W.cell? ⟨b,o,none⟩)∧(∀b o,b<W.heap.size→w1.frozen? ⟨b,o,none⟩=W.frozen? ⟨b,o,none⟩):=
 ⟨fun b o h=>hb.cell (p:=⟨b,o,none⟩) h,fun b o h=>hb.frozen (p:=⟨b,o,none⟩) h⟩
theorem zK {w w1:World}(h:Below w.heap.size w w1){b:Nat}{o:Obj}(hb:w.heap[b]? =some o):w1.heap[b]? =some o:=(h.block b (xe hb).1).trans hb
theorem put2c {w:World}{b:Nat}{u v:Value}(c1:w.cell? ⟨b,0,none⟩=some u)(c2:w.cell? ⟨b,1,none⟩=some v)(x y:Value):
 ((w.setCell ⟨b,0,none⟩ x).setCell ⟨b,1,none⟩ y).cell? ⟨b,0,none⟩=some x∧((w.setCell ⟨b,0,none⟩ x).setCell ⟨b,1,none⟩ y).cell? ⟨b,1,none⟩=some y:=by
 refine⟨?_,?_⟩
 ·rw[zV _ _ _ _ (by simp)]
  exact World.cell?_setCell_same' _ _ _ (by rw[c1];rfl)
 ·exact World.cell?_setCell_same' _ _ _ (by rw[zV _ _ _ _ (by simp),c2];rfl)
theorem jA (z:Int)(d:Nat)(hz:(intS z).size≤100000)(hd:(natS d).size≤100000)(h0:0<d)(hg:z.natAbs.gcd d=1):Rt 55 #[ratV z d] (.bool true):=by
 intro w;have hge:=qQ z;have H1:=qf z (by omega)
 have H2:=Rt.same (zP d (by omega))
 have H3:=rabs_at z (by omega)
 have H4:=rgcd_at z.natAbs d (by omega) hd
 rw[hg,natS_1]at H4;have hn:=qh d;rw[decide_eq_false (by omega)]at hn
 have hn2:((natS d).toList !=([48]:List UInt8))=true:=by rw[bne,hn];rfl
 have h1:((⟨#[49]⟩:xf).toList==([49]:List UInt8))=true:=by rw[ByteArray.toList_eq];rfl
 unfold ratV;generalize natS z.natAbs=a at*;generalize natS d=ds at*;generalize intS z=zs at*;clear hg;have k0:=j7 w (.cells #[.string zs,.string ds] 35);have hb0:=(xb w.heap.size w).alloc (xc _) (.cells #[.string zs,.string ds] 35);have hSB:∀w':World,Below (w.alloc (.cells #[.string zs,.string ds] 35)).heap.size (w.alloc (.cells #[.string zs,.string ds] 35)) w'→w'.cell? ⟨w.heap.size,0,none⟩=some (.string zs)∧w'.cell? ⟨w.heap.size,1,none⟩=some (.string ds):=fun w' hb=>by
  have k:=zK hb k0;exact⟨by rw[j6 k];rfl,by rw[j6 k];rfl⟩
 have HB:=zc.mk (xb (w.alloc (.cells #[.string zs,.string ds] 35)).heap.size (w.alloc (.cells #[.string zs,.string ds] 35)));obtain⟨c0,c1⟩:=hSB _ (xb _ _);go_enter Tryz.func55,Tryz.ntmps55
 go_wp2_with fail;generalize hw0:w.alloc (.cells #[.string zs,.string ds] 35)=w0 at*;clear hw0 k0;go_region_held3 (fun w':World=>w'.cell? ⟨w.heap.size,0,none⟩=some (.string zs)∧w'.cell? ⟨w.heap.size,1,none⟩=some (.string ds)) (exact hSB _ bb) ((first|(go_at_call 91;with_reducible refine H1.go ⟨by repeat(first|(with_reducible first|exact HB.out|apply zk|apply ze|apply zm)|exact HB.out)⟩ ?_;clear HB;intro w4 HB hb4;clear hb4)|(go_at_call 92;with_reducible refine H2.go ⟨by repeat(first|(with_reducible first|exact HB.out|apply zk|apply ze|apply zm)|exact HB.out)⟩ ?_;clear HB;intro w4 HB hb4;clear hb4)|(go_at_call 56;with_reducible refine H3.go ⟨by repeat(first|(with_reducible first|exact HB.out|apply zk|apply ze|apply zm)|exact HB.out)⟩ ?_;clear HB;intro w4 HB hb4;clear hb4)|(go_at_call 93;with_reducible refine H4.go ⟨by repeat(first|(with_reducible first|exact HB.out|apply zk|apply ze|apply zm)|exact HB.out)⟩ ?_;clear HB;intro w4 HB hb4;clear hb4)))
 go_wp2_with fail;go_ret;exact⟨by first|rfl|simp[*],hb0.trans (HB.out.mono hb0.size)⟩
theorem jB (z:Int)(d:Nat)(hz:(intS z).size≤100000)(hd:(natS d).size≤100000)(h0:0<d):Rt 168 #[.string (intS z),.string (natS d)] (.tuple #[ratV (rnum z d) (rden z d),.bool true]):=by
 intro w;have hge:=qQ z;have hgp:0<Nat.gcd z.natAbs d:=Nat.gcd_pos_of_pos_right _ h0;have hgs:(natS (Nat.gcd z.natAbs d)).size≤100000:=Nat.le_trans (zr (Nat.le_of_dvd h0 (Nat.gcd_dvd_right _ _))) hd;have M1:=qf z (by omega)
 have M2:=rmay2_nat d (by omega)
 have S1:=rsign2_at (d:Int) (by rw[zo];omega)
 have A1:=rabs_at z (by omega)
 have G1:=rgcd_at z.natAbs d (by omega) hd
 have D1:=rdiv2_at z (Nat.gcd z.natAbs d) hz hgs hgp (Nat.gcd_dvd_left _ _);have D2:=rdiv2_at (d:Int) (Nat.gcd z.natAbs d) (by rw[zo];exact hd) hgs hgp (by rw[Int.natAbs_natCast];exact Nat.gcd_dvd_right _ _)
 have e1:sg (decide (z<0)) (z.natAbs/Nat.gcd z.natAbs d)=rnum z d:=by
  unfold sg rnum;by_cases h:z<0
  ·rw[decide_eq_true h,if_pos rfl,if_pos h]
  ·rw[decide_eq_false h,if_neg (by decide),if_neg h]
 have e2:sg (decide ((d:Int)<0)) ((d:Int).natAbs/Nat.gcd z.natAbs d)=((rden z d:Nat):Int):=by
  unfold sg rden;rw[decide_eq_false (by omega),if_neg (by decide),Int.natAbs_natCast]
 have e3:sgn (d:Int)=1:=by unfold sgn;rw[if_neg (by omega),if_neg (by omega)]
 rw[e1]at D1;rw[e2,zo,zo]at D2;rw[zo,e3]at S1;have hn:=qh d;rw[decide_eq_false (by omega)]at hn
 unfold ratV;generalize natS (rden z d)=y at*;generalize intS (rnum z d)=x at*;generalize natS (Nat.gcd z.natAbs d)=g at*;generalize natS z.natAbs=za at*;generalize natS d=b at*;generalize intS z=a at*;generalize natS 0=o at*;clear e1 e2 e3 hgp;have k0:=j7 w (.cells #[.string ⟨#[]⟩,.string ⟨#[]⟩] 35);have B0:=(xb w.heap.size w).alloc (xc _) (.cells #[.string ⟨#[]⟩,.string ⟨#[]⟩] 35);have HB:=zc.mk (xb (w.alloc (.cells #[.string ⟨#[]⟩,.string ⟨#[]⟩] 35)).heap.size (w.alloc (.cells #[.string ⟨#[]⟩,.string ⟨#[]⟩] 35)));go_enter Tryz.func168,Tryz.ntmps168
 go_wp2_with fail;generalize w.alloc (.cells #[.string ⟨#[]⟩,.string ⟨#[]⟩] 35)=w0 at*;refine M1.go HB ?_;clear HB;intro w1 HB hb;go_wp2_with(first|(with_reducible refine M2.go HB ?_;clear HB;intro w1 HB hb)|(with_reducible refine S1.go HB ?_;clear HB;intro w1 HB hb)|(with_reducible refine A1.go HB ?_;clear HB;intro w1 HB hb)|(with_reducible refine G1.go HB ?_;clear HB;intro w1 HB hb)|(with_reducible refine D1.go HB ?_;clear HB;intro w1 HB hb))
 refine D2.go HB ?_;clear HB;intro w2 HB hb2;have k7:=zK HB.out k0;have c0:w2.cell? ⟨w.heap.size,0,none⟩=some (.string ⟨#[]⟩):=by rw[j6 k7];rfl
 have c1:w2.cell? ⟨w.heap.size,1,none⟩=some (.string ⟨#[]⟩):=by rw[j6 k7];rfl
 have f0:w2.frozen? ⟨w.heap.size,0,none⟩=false:=Lib.frozen_of_heap k7 0;have f1:w2.frozen? ⟨w.heap.size,1,none⟩=false:=Lib.frozen_of_heap k7 1;go_wp2_with fail;obtain⟨q1,q2⟩:=put2 k7 (.string x) (.string y);refine bodyPost_ret (v:= .tuple #[.agg #[.string x,.string y],.bool true]) ?_ rfl ⟨rfl,((B0.trans (HB.out.mono B0.size)).setCell (by simp) _).setCell (by simp) _⟩
 simp[results,Tryz.f168,go_sem,q1,q2]
theorem rsign3_at (z:Int)(d:Nat)(hz:(intS z).size≤100000)(hd:(natS d).size≤100000)(h0:0<d)(hg:z.natAbs.gcd d=1):Rt 97 #[ratV z d] (.int .i64 (sgn z)):=by
 intro w;have H1:=jA z d hz hd h0 hg;have H2:=rsign2_at z (by omega)
 unfold ratV at*;generalize natS d=ds at*;generalize intS z=zs at*;generalize sgn z=r at*;clear hg;have k0:=j7 w (.cells #[.string zs,.string ds] 35);have B0:=(xb w.heap.size w).alloc (xc _) (.cells #[.string zs,.string ds] 35);have HB:=zc.mk (xb (w.alloc (.cells #[.string zs,.string ds] 35)).heap.size (w.alloc (.cells #[.string zs,.string ds] 35)));have c0:(w.alloc (.cells #[.string zs,.string ds] 35)).cell? ⟨w.heap.size,0,none⟩=some (.string zs):=by rw[j6 k0];rfl
 have c1:(w.alloc (.cells #[.string zs,.string ds] 35)).cell? ⟨w.heap.size,1,none⟩=some (.string ds):=by rw[j6 k0];rfl
 go_enter Tryz.func97,Tryz.ntmps97
 go_wp2_with fail;generalize w.alloc (.cells #[.string zs,.string ds] 35)=w0 at*;refine H1.go HB ?_;clear HB c0 c1;intro w1 HB hb;have c0:w1.cell? ⟨w.heap.size,0,none⟩=some (.string zs):=by rw[j6 (zK HB.out k0)];rfl
 go_wp2_with(with_reducible refine H2.go HB ?_;clear HB;intro w1 HB hb)
 go_ret;exact⟨rfl,B0.trans (HB.out.mono B0.size)⟩
theorem rMul3_of (a b c d m n x y:ByteArray)(hMa:Rt 55 #[.agg #[.string a,.string b]] (.bool true))(hMb:Rt 55 #[.agg #[.string c,.string d]] (.bool true))(hm:Rt 169 #[.string a,.string c] (.string m))(hn:Rt 170 #[.string b,.string d] (.string n))(hk:Rt 168 #[.string m,.string n] (.tuple #[.agg #[.string x,.string y],.bool true])):Rt 126 #[.agg #[.string a,.string b],.agg #[.string c,.string d]] (.agg #[.string x,.string y]):=by
 intro w;have HMa:=fun w=>Lib.hid (hMa w)
 have HMb:=fun w=>Lib.hid (hMb w)
 have H2:=fun w=>Lib.hid (hm w)
 have H1:=fun w=>Lib.hid (hn w)
 have HK:=fun w=>Lib.hid (hk w)
 have s1:(w.alloc (.cells #[.string a,.string b] 35)).heap.size=w.heap.size+1:=by simp
 have s2:((w.alloc (.cells #[.string a,.string b] 35)).alloc (.cells #[.string c,.string d] 35)).heap.size=w.heap.size+2:=by simp
 have kx:(((w.alloc (.cells #[.string a,.string b] 35)).alloc (.cells #[.string c,.string d] 35)).alloc (.cells #[.string ⟨#[]⟩,.string ⟨#[]⟩] 35)).heap[w.heap.size]? =some (.cells #[.string a,.string b] 35):=(Lib.alloc_old _ _ _ (by first|(simp;done)|(simp;omega))).trans ((Lib.alloc_old _ _ _ (by first|(simp;done)|(simp;omega))).trans (j7 w (.cells #[.string a,.string b] 35)))
 have ky:(((w.alloc (.cells #[.string a,.string b] 35)).alloc (.cells #[.string c,.string d] 35)).alloc (.cells #[.string ⟨#[]⟩,.string ⟨#[]⟩] 35)).heap[w.heap.size+1]? =some (.cells #[.string c,.string d] 35):=by
  have h:=j7 (w.alloc (.cells #[.string a,.string b] 35)) (.cells #[.string c,.string d] 35);rw[s1]at h;exact(Lib.alloc_old _ _ _ (by first|(simp;done)|(simp;omega))).trans h
 have kz:(((w.alloc (.cells #[.string a,.string b] 35)).alloc (.cells #[.string c,.string d] 35)).alloc (.cells #[.string ⟨#[]⟩,.string ⟨#[]⟩] 35)).heap[w.heap.size+2]? =some (.cells #[.string ⟨#[]⟩,.string ⟨#[]⟩] 35):=by
  have h:=j7 ((w.alloc (.cells #[.string a,.string b] 35)).alloc (.cells #[.string c,.string d] 35)) (.cells #[.string ⟨#[]⟩,.string ⟨#[]⟩] 35);rw[s2]at h;exact h
 have B0:=zc.mk (((((xb w.heap.size w).alloc (xc _) (.cells #[.string a,.string b] 35)).alloc (by first|(simp;done)|(simp;omega)) (.cells #[.string c,.string d] 35)).alloc (by first|(simp;done)|(simp;omega)) (.cells #[.string ⟨#[]⟩,.string ⟨#[]⟩] 35)))
 clear hMa hMb hm hn hk s1 s2;go_enter Tryz.func126,Tryz.ntmps126
 go_wp2_with fail;generalize ((w.alloc (.cells #[.string a,.string b] 35)).alloc (.cells #[.string c,.string d] 35)).alloc (.cells #[.string ⟨#[]⟩,.string ⟨#[]⟩] 35)=w0 at*;refine(HMa _).out.mono ?_;rintro e w1 ⟨rfl,hb⟩;have kx:=zK hb kx;have ky:=zK hb ky;have kz:=zK hb kz;have B1:=zc.mk (B0.out.trans (hb.mono B0.out.size));have y0:w1.cell? ⟨w.heap.size+1,0,none⟩=some (.string c):=by rw[j6 ky];rfl
 have y1:w1.cell? ⟨w.heap.size+1,1,none⟩=some (.string d):=by rw[j6 ky];rfl
 clear hb B0;go_wp2_with fail;refine(HMb _).out.mono ?_;rintro e w2 ⟨rfl,hb⟩;have kx:=zK hb kx;have ky:=zK hb ky;have kz:=zK hb kz;have HB2:=zc.mk (B1.out.trans (hb.mono B1.out.size));clear hb B1 y0 y1;have hSB:∀w':World,Below w2.heap.size w2 w'→w'.cell? ⟨w.heap.size,0,none⟩=some (.string a)∧w'.cell? ⟨w.heap.size,1,none⟩=some (.string b)∧w'.cell? ⟨w.heap.size+1,0,none⟩=some (.string c)∧w'.cell? ⟨w.heap.size+1,1,none⟩=some (.string d):=fun w' hb=>by
  have k:=zK hb kx;have k':=zK hb ky;exact⟨by rw[j6 k];rfl,by rw[j6 k];rfl,by rw[j6 k'];rfl,by rw[j6 k'];rfl⟩
 have HB:=zc.mk (xb w2.heap.size w2);have HKZ:=zc.mk kz;obtain⟨c0,c1,c2,c3⟩:=hSB w2 (xb _ _);clear kx ky kz;go_wp2_with fail;go_region_held3 (fun w':World=>w'.cell? ⟨w.heap.size,0,none⟩=some (.string a)∧w'.cell? ⟨w.heap.size,1,none⟩=some (.string b)∧w'.cell? ⟨w.heap.size+1,0,none⟩=some (.string c)∧w'.cell? ⟨w.heap.size+1,1,none⟩=some (.string d)) (first|exact hSB _ (bput (bput bb (by first|exact xc _|omega) _ _) (by first|exact xc _|omega) _ _)|exact hSB _ (bput bb (by first|exact xc _|omega) _ _)|exact hSB _ bb) (first|(go_at_call 169;with_reducible refine(H2 _).out.mono ?_;rintro e w4 ⟨rfl,hb4⟩;obtain⟨hc4,hf4⟩:=bcell hb4;have hz4:=hb4.size;(try simp at hz4);(try have hz4w2:w2.heap.size<w4.heap.size:=by omega);(try have hz4w5:w5.heap.size<w4.heap.size:=by omega);have n0:=zc.mk (zi bb hb4);clear HB hb4;have HB:=n0;clear n0)|(go_at_call 170;with_reducible refine(H1 _).out.mono ?_;rintro e w5 ⟨rfl,hb5⟩;obtain⟨hc5,hf5⟩:=bcell hb5;have hz5:=hb5.size;(try simp at hz5);(try have hz5w2:w2.heap.size<w5.heap.size:=by omega);(try have hz5w4:w4.heap.size<w5.heap.size:=by omega);have n0:=zc.mk (zi bb hb5);clear HB hb5;have HB:=n0;clear n0)|(go_at_call 168;with_reducible refine(HK _).out.mono ?_;rintro e w6 ⟨rfl,hb6⟩;obtain⟨hc6,hf6⟩:=bcell hb6;have hz6:=hb6.size;(try simp at hz6);(try have hz6w2:w2.heap.size<w6.heap.size:=by omega);(try have hz6w4:w4.heap.size<w6.heap.size:=by omega);(try have hz6w5:w5.heap.size<w6.heap.size:=by omega);have n0:=zc.mk (zi bb hb6);clear HB hb6;have HB:=n0;clear n0))
 all_goals rename_i K hC hH
 all_goals refine hC _ _ ?_
 ·skip
  have hbW:Below w2.heap.size w2 (w6.alloc (.cells #[.string x,.string y] 35)):=zk HB.out _;have kb:=j7 w6 (.cells #[.string x,.string y] 35);have d0:(w6.alloc (.cells #[.string x,.string y] 35)).cell? ⟨w6.heap.size,0,none⟩=some (.string x):=by rw[j6 kb];rfl
  have d1:(w6.alloc (.cells #[.string x,.string y] 35)).cell? ⟨w6.heap.size,1,none⟩=some (.string y):=by rw[j6 kb];rfl
  clear kb;have k:=zK hbW HKZ.out;have c0:(w6.alloc (.cells #[.string x,.string y] 35)).cell? ⟨w.heap.size+1+1,0,none⟩=some (.string ⟨#[]⟩):=by rw[j6 k];rfl
  have c1:(w6.alloc (.cells #[.string x,.string y] 35)).cell? ⟨w.heap.size+1+1,1,none⟩=some (.string ⟨#[]⟩):=by rw[j6 k];rfl
  have f0:(w6.alloc (.cells #[.string x,.string y] 35)).frozen? ⟨w.heap.size+1+1,0,none⟩=false:=Lib.frozen_of_heap k 0;have f1:(w6.alloc (.cells #[.string x,.string y] 35)).frozen? ⟨w.heap.size+1+1,1,none⟩=false:=Lib.frozen_of_heap k 1;have hbF:=zc.mk (HB2.out.trans (hbW.mono HB2.out.size));obtain⟨q1,q2⟩:=put2c c0 c1 (.string x) (.string y);clear k hbW HB HKZ HB2 hSB hH hc4 hc5 hc6 hf4 hf5 hf6 hz4 hz5 hz6;generalize (w6.alloc (.cells #[.string x,.string y] 35))=W' at*;go_wp2_with fail;refine bodyPost_ret (v:= .agg #[.string x,.string y]) ?_ rfl ⟨rfl,(hbF.out.setCell (by simp;try omega) _).setCell (by simp;try omega) _⟩
  simp[results,Tryz.f126,go_sem,q1,q2]
 ·skip
  have hbW:Below w2.heap.size w2 ((w6.setCell ⟨w5.heap.size,0,none⟩ (.string x)).setCell ⟨w5.heap.size,1,none⟩ (.string y)):=bput (bput HB.out (by first|exact xc _|omega) _ _) (by first|exact xc _|omega) _ _
  have e0:w6.cell? ⟨w5.heap.size,0,none⟩=some (.string ⟨#[]⟩):=by
   repeat(first|rw[hc6 (w5.heap.size) 0 (by first|(simp;done)|omega|(simp;omega))]|rw[hc5 (w5.heap.size) 0 (by first|(simp;done)|omega|(simp;omega))]|rw[hc4 (w5.heap.size) 0 (by first|(simp;done)|omega|(simp;omega))])
   first|(rw[j6 (j7 _ _)];rfl)|(change(w2.alloc _).cell? _=_;rw[j6 (j7 _ _)];rfl)
  have e1:w6.cell? ⟨w5.heap.size,1,none⟩=some (.string ⟨#[]⟩):=by
   repeat(first|rw[hc6 (w5.heap.size) 1 (by first|(simp;done)|omega|(simp;omega))]|rw[hc5 (w5.heap.size) 1 (by first|(simp;done)|omega|(simp;omega))]|rw[hc4 (w5.heap.size) 1 (by first|(simp;done)|omega|(simp;omega))])
   first|(rw[j6 (j7 _ _)];rfl)|(change(w2.alloc _).cell? _=_;rw[j6 (j7 _ _)];rfl)
  obtain⟨d0,d1⟩:=put2c e0 e1 (.string x) (.string y);clear e0 e1;have k:=zK hbW HKZ.out;have c0:((w6.setCell ⟨w5.heap.size,0,none⟩ (.string x)).setCell ⟨w5.heap.size,1,none⟩ (.string y)).cell? ⟨w.heap.size+1+1,0,none⟩=some (.string ⟨#[]⟩):=by rw[j6 k];rfl
  have c1:((w6.setCell ⟨w5.heap.size,0,none⟩ (.string x)).setCell ⟨w5.heap.size,1,none⟩ (.string y)).cell? ⟨w.heap.size+1+1,1,none⟩=some (.string ⟨#[]⟩):=by rw[j6 k];rfl
  have f0:((w6.setCell ⟨w5.heap.size,0,none⟩ (.string x)).setCell ⟨w5.heap.size,1,none⟩ (.string y)).frozen? ⟨w.heap.size+1+1,0,none⟩=false:=Lib.frozen_of_heap k 0;have f1:((w6.setCell ⟨w5.heap.size,0,none⟩ (.string x)).setCell ⟨w5.heap.size,1,none⟩ (.string y)).frozen? ⟨w.heap.size+1+1,1,none⟩=false:=Lib.frozen_of_heap k 1;have hbF:=zc.mk (HB2.out.trans (hbW.mono HB2.out.size));obtain⟨q1,q2⟩:=put2c c0 c1 (.string x) (.string y);clear k hbW HB HKZ HB2 hSB hH hc4 hc5 hc6 hf4 hf5 hf6 hz4 hz5 hz6;generalize ((w6.setCell ⟨w5.heap.size,0,none⟩ (.string x)).setCell ⟨w5.heap.size,1,none⟩ (.string y))=W' at*;go_wp2_with fail;refine bodyPost_ret (v:= .agg #[.string x,.string y]) ?_ rfl ⟨rfl,(hbF.out.setCell (by simp;try omega) _).setCell (by simp;try omega) _⟩
  simp[results,Tryz.f126,go_sem,q1,q2]
 ·skip
  have hbW:Below w2.heap.size w2 ((w6.setCell ⟨w4.heap.size,0,none⟩ (.string x)).setCell ⟨w4.heap.size,1,none⟩ (.string y)):=bput (bput HB.out (by first|exact xc _|omega) _ _) (by first|exact xc _|omega) _ _
  have e0:w6.cell? ⟨w4.heap.size,0,none⟩=some (.string ⟨#[]⟩):=by
   repeat(first|rw[hc6 (w4.heap.size) 0 (by first|(simp;done)|omega|(simp;omega))]|rw[hc5 (w4.heap.size) 0 (by first|(simp;done)|omega|(simp;omega))]|rw[hc4 (w4.heap.size) 0 (by first|(simp;done)|omega|(simp;omega))])
   first|(rw[j6 (j7 _ _)];rfl)|(change(w2.alloc _).cell? _=_;rw[j6 (j7 _ _)];rfl)
  have e1:w6.cell? ⟨w4.heap.size,1,none⟩=some (.string ⟨#[]⟩):=by
   repeat(first|rw[hc6 (w4.heap.size) 1 (by first|(simp;done)|omega|(simp;omega))]|rw[hc5 (w4.heap.size) 1 (by first|(simp;done)|omega|(simp;omega))]|rw[hc4 (w4.heap.size) 1 (by first|(simp;done)|omega|(simp;omega))])
   first|(rw[j6 (j7 _ _)];rfl)|(change(w2.alloc _).cell? _=_;rw[j6 (j7 _ _)];rfl)
  obtain⟨d0,d1⟩:=put2c e0 e1 (.string x) (.string y);clear e0 e1;have k:=zK hbW HKZ.out;have c0:((w6.setCell ⟨w4.heap.size,0,none⟩ (.string x)).setCell ⟨w4.heap.size,1,none⟩ (.string y)).cell? ⟨w.heap.size+1+1,0,none⟩=some (.string ⟨#[]⟩):=by rw[j6 k];rfl
  have c1:((w6.setCell ⟨w4.heap.size,0,none⟩ (.string x)).setCell ⟨w4.heap.size,1,none⟩ (.string y)).cell? ⟨w.heap.size+1+1,1,none⟩=some (.string ⟨#[]⟩):=by rw[j6 k];rfl
  have f0:((w6.setCell ⟨w4.heap.size,0,none⟩ (.string x)).setCell ⟨w4.heap.size,1,none⟩ (.string y)).frozen? ⟨w.heap.size+1+1,0,none⟩=false:=Lib.frozen_of_heap k 0;have f1:((w6.setCell ⟨w4.heap.size,0,none⟩ (.string x)).setCell ⟨w4.heap.size,1,none⟩ (.string y)).frozen? ⟨w.heap.size+1+1,1,none⟩=false:=Lib.frozen_of_heap k 1;have hbF:=zc.mk (HB2.out.trans (hbW.mono HB2.out.size));obtain⟨q1,q2⟩:=put2c c0 c1 (.string x) (.string y);clear k hbW HB HKZ HB2 hSB hH hc4 hc5 hc6 hf4 hf5 hf6 hz4 hz5 hz6;generalize ((w6.setCell ⟨w4.heap.size,0,none⟩ (.string x)).setCell ⟨w4.heap.size,1,none⟩ (.string y))=W' at*;go_wp2_with fail;refine bodyPost_ret (v:= .agg #[.string x,.string y]) ?_ rfl ⟨rfl,(hbF.out.setCell (by simp;try omega) _).setCell (by simp;try omega) _⟩
  simp[results,Tryz.f126,go_sem,q1,q2]
 ·skip
  have hbW:Below w2.heap.size w2 ((w6.setCell ⟨w2.heap.size,0,none⟩ (.string x)).setCell ⟨w2.heap.size,1,none⟩ (.string y)):=bput (bput HB.out (by first|exact xc _|omega) _ _) (by first|exact xc _|omega) _ _
  have e0:w6.cell? ⟨w2.heap.size,0,none⟩=some (.string ⟨#[]⟩):=by
   repeat(first|rw[hc6 (w2.heap.size) 0 (by first|(simp;done)|omega|(simp;omega))]|rw[hc5 (w2.heap.size) 0 (by first|(simp;done)|omega|(simp;omega))]|rw[hc4 (w2.heap.size) 0 (by first|(simp;done)|omega|(simp;omega))])
   first|(rw[j6 (j7 _ _)];rfl)|(change(w2.alloc _).cell? _=_;rw[j6 (j7 _ _)];rfl)
  have e1:w6.cell? ⟨w2.heap.size,1,none⟩=some (.string ⟨#[]⟩):=by
   repeat(first|rw[hc6 (w2.heap.size) 1 (by first|(simp;done)|omega|(simp;omega))]|rw[hc5 (w2.heap.size) 1 (by first|(simp;done)|omega|(simp;omega))]|rw[hc4 (w2.heap.size) 1 (by first|(simp;done)|omega|(simp;omega))])
   first|(rw[j6 (j7 _ _)];rfl)|(change(w2.alloc _).cell? _=_;rw[j6 (j7 _ _)];rfl)
  obtain⟨d0,d1⟩:=put2c e0 e1 (.string x) (.string y);clear e0 e1;have k:=zK hbW HKZ.out;have c0:((w6.setCell ⟨w2.heap.size,0,none⟩ (.string x)).setCell ⟨w2.heap.size,1,none⟩ (.string y)).cell? ⟨w.heap.size+1+1,0,none⟩=some (.string ⟨#[]⟩):=by rw[j6 k];rfl
  have c1:((w6.setCell ⟨w2.heap.size,0,none⟩ (.string x)).setCell ⟨w2.heap.size,1,none⟩ (.string y)).cell? ⟨w.heap.size+1+1,1,none⟩=some (.string ⟨#[]⟩):=by rw[j6 k];rfl
  have f0:((w6.setCell ⟨w2.heap.size,0,none⟩ (.string x)).setCell ⟨w2.heap.size,1,none⟩ (.string y)).frozen? ⟨w.heap.size+1+1,0,none⟩=false:=Lib.frozen_of_heap k 0;have f1:((w6.setCell ⟨w2.heap.size,0,none⟩ (.string x)).setCell ⟨w2.heap.size,1,none⟩ (.string y)).frozen? ⟨w.heap.size+1+1,1,none⟩=false:=Lib.frozen_of_heap k 1;have hbF:=zc.mk (HB2.out.trans (hbW.mono HB2.out.size));obtain⟨q1,q2⟩:=put2c c0 c1 (.string x) (.string y);clear k hbW HB HKZ HB2 hSB hH hc4 hc5 hc6 hf4 hf5 hf6 hz4 hz5 hz6;generalize ((w6.setCell ⟨w2.heap.size,0,none⟩ (.string x)).setCell ⟨w2.heap.size,1,none⟩ (.string y))=W' at*;go_wp2_with fail;refine bodyPost_ret (v:= .agg #[.string x,.string y]) ?_ rfl ⟨rfl,(hbF.out.setCell (by simp;try omega) _).setCell (by simp;try omega) _⟩
  simp[results,Tryz.f126,go_sem,q1,q2]
def zer (n:Nat):ByteArray:=⟨(List.replicate n 48).toArray⟩
theorem jg (n:Nat):(zer n).size=n:=by
 show(List.replicate n (48:UInt8)).toArray.size=n
 simp
theorem zer_succ (n:Nat):zer n++(⟨#[48]⟩:xf)=zer (n+1):=z7 (by
 rw[cat_l];show(List.replicate n (48:UInt8)).toArray.toList++[48]=(List.replicate (n+1) (48:UInt8)).toArray.toList
 simp[List.replicate_succ'])
theorem rzeros_w (n:Nat)(hn:n≤1000000):Rs 127 #[.int .i64 (n:Int)] (.string (zer n)):=by
 intro w;go_enter Tryz.func127,Tryz.ntmps127
 go_wp2_with fail;go_loopg [3,4] (n+1) (fun kq v3 v4 w'=>∃i:Nat,v3= .string (zer i)∧v4= .int .i64 i∧i+kq=n+1∧i≤n∧w=w')
 case atStart=>exact⟨0,rfl,rfl,by omega,by omega,rfl⟩
 case round=>
  obtain⟨i,rfl,rfl,hi,hin,rfl⟩:=hrel;by_cases hie:i=n
  ·subst hie
   go_wp2_with fail;go_ret;exact⟨rfl,rfl⟩
  ·have h1:(i:Int)<(n:Int):=by omega
   have hz:=jg i;have hs:=zer_succ i;have hov:¬9223372036854775807<(zer i).size+(⟨#[48]⟩:xf).size:=by rw[hz];show¬_<i+1;omega
   have hov2:¬9223372036854775807<(zer i).size+1:=by rw[hz];omega
   clear hz;generalize zer i=z at*;go_wp2_with fail;go_roundg (gk-1)
   case measure=>omega
   case rel=>exact⟨i+1,by rw[←hs],by go_num,by omega,by omega,rfl⟩
theorem rzeros_at (n:Nat)(hn:n≤1000000):Rt 127 #[.int .i64 (n:Int)] (.string (zer n)):=Rt.same (rzeros_w n hn)
theorem natS_is1 (n:Nat):((natS n).toList==([49]:List UInt8))=decide (n=1):=by
 have h:=natS_eqB n 1;rwa [show(natS 1).toList=[49] by rw[natS_1,ByteArray.toList_eq]]at h
def PlI (d x a b:Nat):Prop:=0<x∧x≤d∧2^a*(2^b*x)≤d∧pl d=(max (a+(tm x x 2).1) (b+(tm (tm x x 2).2 (tm x x 2).2 5).1),(tm (tm x x 2).2 (tm x x 2).2 5).2)
theorem PlI.two {d x a b:Nat}(h:PlI d x a b)(hx:x%2=0):PlI d (x/2) (a+1) b:=by
 obtain⟨h1,h2,h3,h4⟩:=h;have e:=tm_step 2 x (by omega) h1 hx
 refine⟨by omega,by omega,?_,?_⟩
 ·have:x=2*(x/2):=by omega
  generalize x/2=y at*;subst this;rw[Nat.pow_succ];generalize 2^a=p at*;generalize 2^b=q at*;have:p*2*(q*y)=p*(q*(2*y)):=by grind
  omega
 ·rw[h4,e]
  simp only;congr 2
  omega
theorem PlI.five {d x a b:Nat}(h:PlI d x a b)(hx:x%2≠0)(h5:x%5=0):PlI d (x/5) a (b+1):=by
 obtain⟨h1,h2,h3,h4⟩:=h;have e1:=qW 2 x hx;have e2:=qW 2 (x/5) (by omega)
 have e:=tm_step 5 x (by omega) h1 h5
 refine⟨by omega,by omega,?_,?_⟩
 ·have:2*(x/5)≤x:=by omega
  generalize x/5=y at*;rw[Nat.pow_succ];refine Nat.le_trans ?_ h3;rw[Nat.mul_assoc];exact Nat.mul_le_mul_left _ (Nat.mul_le_mul_left _ this)
 ·rw[h4,e1,e2]
  simp only;rw[e];simp only;congr 2
  omega
theorem PlI.none {d x a b:Nat}(h:PlI d x a b)(hx:x%2≠0)(h5:x%5≠0):pl d=(max a b,x):=by
 obtain⟨h1,h2,h3,h4⟩:=h;rw[h4,qW 2 x hx];simp only;rw[qW 5 x h5];simp
theorem PlI.few {d x a b:Nat}(h:PlI d x a b)(hb:Bits d):a<1000000∧b<1000000:=by
 obtain⟨h1,h2,h3,h4⟩:=h;have h5:0<2^b*x:=Nat.mul_pos (Nat.pow_pos (by omega)) h1
 refine⟨many_lt hb h3 h5,many_lt hb (x:=x) ?_ h1⟩;refine Nat.le_trans ?_ h3;have:1*(2^b*x)≤2^a*(2^b*x):=Nat.mul_le_mul_right _ (Nat.pow_pos (by omega))
 omega
theorem tm_eq (b:Nat)(hb:2≤b):∀n:Nat,0<n→b^(tm n n b).1*(tm n n b).2=n:=by
 intro n;induction n using Nat.strongRecOn with
 |ind n ih=>
  intro h0;by_cases h:n%b=0
  ·have hq:0<n/b:=Nat.div_pos (Nat.le_of_dvd (by omega) (Nat.dvd_of_mod_eq_zero h)) (by omega)
   have hl:n/b<n:=Nat.div_lt_self (by omega) hb
   rw[tm_step b n hb h0 h];simp only;rw[Nat.pow_succ,Nat.mul_right_comm,ih _ hl hq,Nat.mul_comm,Nat.mul_div_cancel' (Nat.dvd_of_mod_eq_zero h)]
  ·rw[qW b n h]
   simp
theorem pl_dvd (d:Nat)(h0:0<d)(h:(pl d).2=1):d∣10^(pl d).1:=by
 have h1:=tm_eq 2 (by omega) d h0
 have h2:=tm_eq 5 (by omega) (tm d d 2).2 (tm_le 2 (by omega) d h0).1
 have h3:(tm (tm d d 2).2 (tm d d 2).2 5).2=1:=h;rw[h3,Nat.mul_one]at h2;rw[←h2]at h1;have e:(pl d).1=max (tm d d 2).1 (tm (tm d d 2).2 (tm d d 2).2 5).1:=rfl;rw[e];generalize (tm (tm d d 2).2 (tm d d 2).2 5).1=b at*;generalize (tm d d 2).1=a at*;rw[←h1,show(10:Nat)=2*5 from rfl,Nat.mul_pow]
 exact Nat.mul_dvd_mul (Nat.pow_dvd_pow 2 (by omega)) (Nat.pow_dvd_pow 5 (by omega))
theorem rplaces_at (z:Int)(d:Nat)(hz:(intS z).size≤100000)(hd:(natS d).size≤100000)(h0:0<d)(hg:z.natAbs.gcd d=1)(hb:Bits d):Rt 96 #[ratV z d] (.tuple #[.int .i64 (if(pl d).2=1 then((pl d).1:Int)else 0),.bool (decide ((pl d).2=1))]):=by
 intro w;have H1:=jA z d hz hd h0 hg;have HI:zc (PlI d d 0 0):=⟨⟨h0,xc _,by simp,by simp[pl]⟩⟩
 obtain⟨R1,hR1⟩:∃R1,(if(pl d).2=1 then((pl d).1:Int)else 0)=R1:=⟨_,rfl⟩
 obtain⟨R2,hR2⟩:∃R2,decide ((pl d).2=1)=R2:=⟨_,rfl⟩;rw[hR1,hR2];have HR:=zc.mk (And.intro hR1 hR2);have hs2:(natS 2).size≤100000:=by rw[show natS 2=⟨#[50]⟩ by kernel_rfl];decide
 have hs5:(natS 5).size≤100000:=by rw[show natS 5=⟨#[53]⟩ by kernel_rfl];decide
 have D2:=fun x h=>rdiv_at x 2 (by omega) h hs2
 have D5:=fun x h=>rdiv_at x 5 (by omega) h hs5
 rw[show natS 2=⟨#[50]⟩ by kernel_rfl]at D2
 rw[show natS 5=⟨#[53]⟩ by kernel_rfl]at D5
 have HZ:=zc.mk hd;clear hR1 hR2 hd hg hs2 hs5;unfold ratV at*;obtain⟨ds,hds⟩:∃ds,natS d=ds:=⟨_,rfl⟩;rw[hds]at H1 ⊢;generalize intS z=zs at*;have k0:=j7 w (.cells #[.string zs,.string ds] 35);have B0:=(xb w.heap.size w).alloc (xc _) (.cells #[.string zs,.string ds] 35);have HB:=zc.mk (xb (w.alloc (.cells #[.string zs,.string ds] 35)).heap.size (w.alloc (.cells #[.string zs,.string ds] 35)));have c0:(w.alloc (.cells #[.string zs,.string ds] 35)).cell? ⟨w.heap.size,0,none⟩=some (.string zs):=by rw[j6 k0];rfl
 have c1:(w.alloc (.cells #[.string zs,.string ds] 35)).cell? ⟨w.heap.size,1,none⟩=some (.string ds):=by rw[j6 k0];rfl
 go_enter Tryz.func96,Tryz.ntmps96
 go_wp2_with fail;generalize w.alloc (.cells #[.string zs,.string ds] 35)=w0 at*;refine H1.go HB ?_;clear HB c0 c1;intro w1 HB hb1;have c1:w1.cell? ⟨w.heap.size,1,none⟩=some (.string ds):=by rw[j6 (zK HB.out k0)];rfl
 clear hb1 k0;subst hds;go_wp2_with fail;clear c1;go_loopg [4,5,6] (d+1) (fun kq v4 v5 v6 w'=>∃x a b:Nat,v4= .string (natS x)∧v5= .int .i64 a∧v6= .int .i64 b∧x<kq∧zc (PlI d x a b)∧zc (Below w0.heap.size w0 w'))
 case atStart=>exact⟨d,0,0,rfl,rfl,rfl,by omega,HI,HB⟩
 case round=>
  clear HI HB;obtain⟨x,a,b,rfl,rfl,rfl,hlt,HI,HB⟩:=hrel;obtain⟨ha,hb'⟩:=HI.out.few hb;have h1:=natS_is1 x;by_cases hx:x=1
  ·subst hx
   rw[decide_eq_true rfl]at h1;have hpl:=HI.out.none (by decide) (by decide)
   have hr:=HR.out;rw[hpl,if_pos rfl,decide_eq_true rfl]at hr;obtain⟨rfl,rfl⟩:=hr;have h2:((natS 1).toList !=([49]:List UInt8))=false:=by rw[bne,h1];rfl
   have hmx:max (a:Int) (b:Int)=((max a b:Nat):Int):=by omega
   clear HR HI hpl;generalize natS 1=xs at*;go_wp2_with fail;refine bodyPost_ret (results_tmp2 rfl _ _ _) rfl ?_;exact⟨by simp[hmx],B0.trans (HB.out.mono B0.size)⟩
  ·rw[decide_eq_false hx]at h1
   have h2:((natS x).toList !=([49]:List UInt8))=true:=by rw[bne,h1];rfl
   have hxs:=Nat.le_trans (zr HI.out.2.1) HZ.out;have E2:=D2 x hxs;have E5:=D5 x hxs;have z2:=qh (x%2);have z5:=qh (x%5);have hw1:IntKind.i64.wrap ((a:Int)+1)=(a:Int)+1:=by simp[j9];omega
   have hw2:IntKind.i64.wrap ((b:Int)+1)=(b:Int)+1:=by simp[j9];omega
   have hx0:=HI.out.1;by_cases he:x%2=0
   ·have HI2:=zc.mk (HI.out.two he)
    rw[decide_eq_true he]at z2;have hlt2:x/2<x:=by omega
    clear HI z5 he;generalize natS (x%5)=r5 at*;generalize natS (x/5)=q5 at*;generalize natS (x%2)=r2 at*;generalize x/2=y at*;go_wp2_with(first|(with_reducible refine E2.go HB ?_;clear HB;intro w2 HB hb2;clear hb2)|(with_reducible refine E5.go HB ?_;clear HB;intro w3 HB hb3;clear hb3))
    go_roundg (gk-1)
    case measure=>omega
    case rel=>exact⟨y,a+1,b,rfl,by go_num,rfl,by omega,HI2,HB⟩
   ·rw[decide_eq_false he]at z2
    by_cases h5:x%5=0
    ·have HI2:=zc.mk (HI.out.five he h5)
     rw[decide_eq_true h5]at z5;have hlt2:x/5<x:=by omega
     clear HI he h5;generalize natS (x%5)=r5 at*;generalize natS (x/2)=q2 at*;generalize natS (x%2)=r2 at*;generalize x/5=y at*;go_wp2_with(first|(with_reducible refine E2.go HB ?_;clear HB;intro w2 HB hb2;clear hb2)|(with_reducible refine E5.go HB ?_;clear HB;intro w3 HB hb3;clear hb3))
     go_roundg (gk-1)
     case measure=>omega
     case rel=>exact⟨y,a,b+1,rfl,rfl,by go_num,by omega,HI2,HB⟩
    ·rw[decide_eq_false h5]at z5
     have hpl:=HI.out.none he h5;have hr:=HR.out;rw[hpl]at hr;simp only at hr;rw[if_neg hx,decide_eq_false hx]at hr;obtain⟨rfl,rfl⟩:=hr;clear HI he h5 HR hpl;generalize natS (x%5)=r5 at*;generalize natS (x/5)=q5 at*;generalize natS (x/2)=q2 at*;generalize natS (x%2)=r2 at*;go_wp2_with(first|(with_reducible refine E2.go HB ?_;clear HB;intro w2 HB hb2;clear hb2)|(with_reducible refine E5.go HB ?_;clear HB;intro w3 HB hb3;clear hb3))
     refine bodyPost_ret (results_tmp2 rfl _ _ _) rfl ?_;exact⟨rfl,B0.trans (HB.out.mono B0.size)⟩
end Go.Proofs.YtjopepfemhckjaaGreatDoor.NW
end
