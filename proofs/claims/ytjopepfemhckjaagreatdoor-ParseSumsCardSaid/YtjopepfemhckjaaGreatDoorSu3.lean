/-
  Part 3 of the proof of parseSums_holds: texts of this seat, put together.
-/
import Derived.Test.YtjopepfemhckjaaGreatDoorProg
import Derived.Below
import Derived.Deep.Draws
import Derived.Deep.AppendLies
import Derived.Maps.AppendAt
import Derived.OwnWalk
import Derived.Laws.BytesArg
import Derived.Laws.MakeOwn
import Derived.Laws.OwnMore
import Derived.Deep.OwnRows
import Derived.Tactics
import Derived.Lib.ConvBytes
import Derived.Laws.Slices
import Derived.WalkKit
import Derived.KernelRfl
import Derived.RowKit3
import Derived.Deep.LoopGhost
import Derived.Deep.QuietTactic
import Derived.BigQuiet
import Derived.WideLaws
import Derived.Deep.DeepCutAuto
import Derived.Deep.CutBlock
import Derived.Deep.RegionHeld3
import Derived.Laws.Rows
import Derived.Lib.AppendStr
import Derived.ArgAppend
import Derived.Laws.IdiomCopy
import Derived.OrdersHeld
import Derived.Laws.BitsLemmas
import Derived.RowKit
import Derived.Laws.StructEq
import Derived.RangeFuncBox
import Derived.RangeFuncLeaves
import Derived.RangeFuncWrites
import Derived.RangeFuncCalls
import Derived.RangeFuncNested
import Derived.Shelf.RegionOpen
import Derived.Shelf.Abstract
import Derived.OwnWalkIn
import Derived.TacticsInMore
import Derived.LoopNIn
import Derived.LoopIn
import Derived.Test.YtjopepfemhckjaaGreatDoorSu2
set_option linter.unusedVariables false
set_option linter.unusedSimpArgs false
section
namespace Go.Proofs.YtjopepfemhckjaaGreatDoor.PParseTells
open Go.RowKit Go.Proofs.YtjopepfemhckjaaGreatDoorW.PrintWords Go.Proofs.YtjopepfemhckjaaGreatDoorW.PrintLast Go.Proofs.YtjopepfemhckjaaGreatDoorW.PrintMore
attribute [local go_sem] max2_int max_two
def errW : Option Int → Value
 | none => .nilIface
 | some c => .iface 208 (.int .i64 c)
theorem errW_none : errW none = .nilIface := rfl
theorem errW_some (c : Int) : errW (some c) = .iface 208 (.int .i64 c) := rfl
theorem info3 : (Tryz.prog.info? 3).map (fun i => (i.zero, i.size, i.bytes)) = some (some (.int .i64 0), 1, 8) := by kernel_rfl
theorem info5 : (Tryz.prog.info? 5).map (fun i => (i.zero, i.size, i.bytes)) = some (some (.int .u8 0), 1, 1) := by kernel_rfl
theorem info75 : (Tryz.prog.info? 75).map (fun i => (i.zero, i.size, i.bytes)) = some (some (.agg #[(.int .i64 0), (.string ⟨#[]⟩), (.int .i64 0), (.int .i64 0)]), 4, 40) := by kernel_rfl
structure S35 where
 f0 : ByteArray
 f1 : ByteArray
def z35 : S35 := ⟨(⟨#[]⟩ : ByteArray), (⟨#[]⟩ : ByteArray)⟩
def k35 : Kd S35 := Kd.iso (Kd.pair Kd.string Kd.string) (fun x : S35 => (x.f0, x.f1))
theorem k35_open {w : World} {x : S35} {cs : List Value} (h : k35.K w x cs) : cs = [.string x.f0, .string x.f1] := by
 obtain ⟨_, _, rfl, rfl, rfl⟩ := h
 exact rfl
theorem k35_mkM (w : World) (base : Nat) (ok : Nat → Prop) (x : S35)  : k35.M w base ok x [.string x.f0, .string x.f1] := ⟨[.string x.f0], [.string x.f1], rfl, rfl, rfl⟩
structure S37 where
 f0 : Int
 f1 : S35
 f2 : ByteArray
 f3 : Int
 f4 : Int
def z37 : S37 := ⟨(0 : Int), z35, (⟨#[]⟩ : ByteArray), (0 : Int), (0 : Int)⟩
def k37 : Kd S37 := Kd.iso (Kd.pair (Kd.int .i64) (Kd.pair k35 (Kd.pair Kd.string (Kd.pair (Kd.int .i64) (Kd.int .i64))))) (fun x : S37 => (x.f0, x.f1, x.f2, x.f3, x.f4))
theorem k37_open {w : World} {x : S37} {cs : List Value} (h : k37.K w x cs) : cs = [.int .i64 x.f0, .string x.f1.f0, .string x.f1.f1, .string x.f2, .int .i64 x.f3, .int .i64 x.f4] := by
 obtain ⟨_, _, rfl, rfl, ⟨_, _, rfl, s1, ⟨_, _, rfl, rfl, ⟨_, _, rfl, rfl, rfl⟩⟩⟩⟩ := h
 obtain rfl := k35_open s1
 exact rfl
theorem k37_mkM (w : World) (base : Nat) (ok : Nat → Prop) (x : S37)  : k37.M w base ok x [.int .i64 x.f0, .string x.f1.f0, .string x.f1.f1, .string x.f2, .int .i64 x.f3, .int .i64 x.f4] := ⟨[.int .i64 x.f0], [.string x.f1.f0, .string x.f1.f1, .string x.f2, .int .i64 x.f3, .int .i64 x.f4], rfl, rfl, ⟨[.string x.f1.f0, .string x.f1.f1], [.string x.f2, .int .i64 x.f3, .int .i64 x.f4], rfl, (k35_mkM w base ok x.f1 ), ⟨[.string x.f2], [.int .i64 x.f3, .int .i64 x.f4], rfl, rfl, ⟨[.int .i64 x.f3], [.int .i64 x.f4], rfl, rfl, rfl⟩⟩⟩⟩
def rd_T37 (xs : List S37) (i : Int) : S37 := xs.getD i.toNat z37
theorem at_T37 {w : World} {A : Option Addr} {n : Nat} {xs : List S37} (h : Kd.C k37 w A n xs) (i : Int) (h0 : 0 ≤ i) (h1 : i < n) : ∃ ad , A = some ad ∧ w.cell? (ad.add (i.toNat * 6)) = some (.int .i64 (rd_T37 xs i).f0) ∧ w.cell? ⟨(ad.add (i.toNat * 6)).block, (ad.add (i.toNat * 6)).off + 1, none⟩ = some (.string (rd_T37 xs i).f1.f0) ∧ w.cell? ⟨(ad.add (i.toNat * 6)).block, (ad.add (i.toNat * 6)).off + 2, none⟩ = some (.string (rd_T37 xs i).f1.f1) ∧ w.cell? ⟨(ad.add (i.toNat * 6)).block, (ad.add (i.toNat * 6)).off + 3, none⟩ = some (.string (rd_T37 xs i).f2) ∧ w.cell? ⟨(ad.add (i.toNat * 6)).block, (ad.add (i.toNat * 6)).off + 4, none⟩ = some (.int .i64 (rd_T37 xs i).f3) ∧ w.cell? ⟨(ad.add (i.toNat * 6)).block, (ad.add (i.toNat * 6)).off + 5, none⟩ = some (.int .i64 (rd_T37 xs i).f4) := by
 obtain ⟨ad, c, e, _, hK, hc0⟩ := Kd.C_get h z37 i h0 h1
 have hc : ∀ j u, c[j]? = some u → w.cell? (ad.add (i.toNat * 6 + j)) = some u := hc0
 obtain rfl := k37_open hK
 exact ⟨ad, e, hc 0 _ rfl, by rw [← add_field _ _ 1 (by omega)]; exact hc 1 _ rfl, by rw [← add_field _ _ 2 (by omega)]; exact hc 2 _ rfl, by rw [← add_field _ _ 3 (by omega)]; exact hc 3 _ rfl, by rw [← add_field _ _ 4 (by omega)]; exact hc 4 _ rfl, by rw [← add_field _ _ 5 (by omega)]; exact hc 5 _ rfl⟩
structure S75 where
 f0 : Int
 f1 : ByteArray
 f2 : Int
 f3 : Int
def z75 : S75 := ⟨(0 : Int), (⟨#[]⟩ : ByteArray), (0 : Int), (0 : Int)⟩
def k75 : Kd S75 := Kd.iso (Kd.pair (Kd.int .i64) (Kd.pair Kd.string (Kd.pair (Kd.int .i64) (Kd.int .i64)))) (fun x : S75 => (x.f0, x.f1, x.f2, x.f3))
theorem k75_open {w : World} {x : S75} {cs : List Value} (h : k75.K w x cs) : cs = [.int .i64 x.f0, .string x.f1, .int .i64 x.f2, .int .i64 x.f3] := by
 obtain ⟨_, _, rfl, rfl, ⟨_, _, rfl, rfl, ⟨_, _, rfl, rfl, rfl⟩⟩⟩ := h
 exact rfl
theorem k75_mkM (w : World) (base : Nat) (ok : Nat → Prop) (x : S75)  : k75.M w base ok x [.int .i64 x.f0, .string x.f1, .int .i64 x.f2, .int .i64 x.f3] := ⟨[.int .i64 x.f0], [.string x.f1, .int .i64 x.f2, .int .i64 x.f3], rfl, rfl, ⟨[.string x.f1], [.int .i64 x.f2, .int .i64 x.f3], rfl, rfl, ⟨[.int .i64 x.f2], [.int .i64 x.f3], rfl, rfl, rfl⟩⟩⟩
def rd_T75 (xs : List S75) (i : Int) : S75 := xs.getD i.toNat z75
theorem at_T75 {w : World} {A : Option Addr} {n : Nat} {xs : List S75} (h : Kd.C k75 w A n xs) (i : Int) (h0 : 0 ≤ i) (h1 : i < n) : ∃ ad , A = some ad ∧ w.cell? (ad.add (i.toNat * 4)) = some (.int .i64 (rd_T75 xs i).f0) ∧ w.cell? ⟨(ad.add (i.toNat * 4)).block, (ad.add (i.toNat * 4)).off + 1, none⟩ = some (.string (rd_T75 xs i).f1) ∧ w.cell? ⟨(ad.add (i.toNat * 4)).block, (ad.add (i.toNat * 4)).off + 2, none⟩ = some (.int .i64 (rd_T75 xs i).f2) ∧ w.cell? ⟨(ad.add (i.toNat * 4)).block, (ad.add (i.toNat * 4)).off + 3, none⟩ = some (.int .i64 (rd_T75 xs i).f3) := by
 obtain ⟨ad, c, e, _, hK, hc0⟩ := Kd.C_get h z75 i h0 h1
 have hc : ∀ j u, c[j]? = some u → w.cell? (ad.add (i.toNat * 4 + j)) = some u := hc0
 obtain rfl := k75_open hK
 exact ⟨ad, e, hc 0 _ rfl, by rw [← add_field _ _ 1 (by omega)]; exact hc 1 _ rfl, by rw [← add_field _ _ 2 (by omega)]; exact hc 2 _ rfl, by rw [← add_field _ _ 3 (by omega)]; exact hc 3 _ rfl⟩
end Go.Proofs.YtjopepfemhckjaaGreatDoor.PParseTells
end
section
namespace Go.Proofs.YtjopepfemhckjaaGreatDoor.NW
open Go.Proofs Go.RowKit Go.Shelf Go.Proofs.YtjopepfemhckjaaGreatDoorW.PrintWords
attribute [local go_sem] Oper.semAt_some
def bk (n k : Nat) : List (Fin n) := (List.finRange n).reverse.take k
theorem bk_zero (n : Nat) : bk n 0 = [] := rfl
theorem bk_succ (n k : Nat) (h : k < n) : bk n (k + 1) = bk n k ++ [⟨n - 1 - k, by omega⟩] := by
 have hl : (List.finRange n).reverse.length = n := by simp
 unfold bk
 rw [List.take_add_one, List.getElem?_eq_getElem (by omega)]
 congr 1
 rw [List.getElem_reverse]
 simp
theorem bk_length (n k : Nat) (h : k ≤ n) : (bk n k).length = k := by simp [bk]; omega
theorem mem_bk (n k : Nat) (hk : k ≤ n) (y : Fin n) : y ∈ bk n k ↔ n - k ≤ y.val := by
 induction k with
 | zero => rw [bk_zero]; have := y.isLt; constructor
           ·intro h; cases h
           ·intro h; omega
 | succ k ih =>
   rw [bk_succ n k (by omega), List.mem_append, ih (by omega), List.mem_singleton]
   have := y.isLt
   constructor
   ·rintro (h | h)
    ·omega
    ·rw [h]; simp only; omega
   ·intro h
    by_cases h2 : n - k ≤ y.val
    ·exact .inl h2
    ·exact .inr (Fin.ext (by simp only; omega))
theorem bk_last (n k : Nat) (hk : k ≤ n) (ini : List (Fin n)) (last : Fin n) (h : bk n k = ini ++ [last]) : ∃ k', k' + 1 = k ∧ ini = bk n k' ∧ last.val = n - 1 - k' := by
 cases k with
 | zero => rw [bk_zero] at h; simp at h
 | succ k =>
   rw [bk_succ n k (by omega)] at h
   obtain ⟨h1, h2⟩ := List.append_inj' h rfl
   have h3 : (⟨n - 1 - k, by omega⟩ : Fin n) = last := by simpa using h2
   exact ⟨k, rfl, h1.symm, by rw [← h3]⟩
def encI (zs : List Int) (x : Fin zs.length) : Array Value := #[.int .i64 (x.val : Int), .int .i64 (rd zs (x.val : Int))]
def KeepsB (n₀ Bs : Nat) (W W' : World) : Prop := ∀ p v, (p.block < n₀ ∨ p.block = Bs) → W.cell? p = some v → W'.cell? p = some v
theorem KeepsB.refl (n₀ Bs : Nat) (W : World) : KeepsB n₀ Bs W W := fun _ _ _ h => h
theorem KeepsB.trans {n₀ Bs : Nat} {A B C : World} (h : KeepsB n₀ Bs A B) (k : KeepsB n₀ Bs B C) : KeepsB n₀ Bs A C := fun p v hp hc => k p v hp (h p v hp hc)
theorem keepsB_t {n₀ Bs : Nat} {A B C : World} (h : KeepsB n₀ Bs A B) (k : KeepsB n₀ Bs B C) : KeepsB n₀ Bs A C := h.trans k
theorem keepsB_b {n₀ Bs : Nat} {w : World} (hn : n₀ ≤ w.heap.size) (hb : Bs < w.heap.size) (W : World) (l : Nat) (o o' : Obj) (hl : w.heap.size ≤ l) (h : W.heap[l]? = some o) (hc : o.isCells = false) (hw : o.isWalk = false) : KeepsB n₀ Bs W (W.putObj l o') := fun p v hp hv => by
 have hb1 : Below w.heap.size W (W.putObj l o') := belowK_b (Nat.le_refl _) W l o o' hl h hc hw
 exact (hb1.cell (p := p) (by omega)).trans hv
set_option maxRecDepth 100000 in
set_option maxHeartbeats 2000000 in
theorem back1_in (F : Fence) (n : Nat) (hF : F.fn 230) (hro : F.round = none) (hn : 1 ≤ n) (l Bs : Nat) (A : Option Addr) (cap : Nat) (zs : List Int) (hl : zs.length ≤ 4611686018427387904) (w0 : World) (J Jx : List (Fin zs.length) → World → Prop)
  (hC : Kd.C (Kd.int .i64) w0 A zs.length zs)
  (hY : ∀ pre x W, J pre W → pre.length < zs.length → YieldAt F (n - 1) Tryz.prog l (encI zs x) W fun e W' =>
   (e = .returned (.bool true) ∧ J (pre ++ [x]) W' ∧ KeepsB w0.heap.size Bs W W') ∨ (e = .returned (.bool false) ∧ Jx (pre ++ [x]) W'))
  (W : World) (hB : Below w0.heap.size w0 W) (hBs : W.cell? ⟨Bs, 0, none⟩ = some (.slice A zs.length cap)) (h0 : J [] W) :
  CallsIn F n Tryz.prog 230 #[.func (.yield l) #[] #[], .pointer (some ⟨Bs, 0, none⟩)] W fun e W' => (∃ v, e = .returned v) ∧
   ((∃ ys, ys = bk zs.length zs.length ∧ J ys W') ∨ (∃ pre, (∃ k, k ≤ zs.length ∧ pre = bk zs.length k) ∧ Jx pre W')) := by
 refine callsIn_of_wp Tryz.func230 rfl hF ?_ hro
 simp only [Tryz.ntmps230, List.size_toArray, List.length_cons, List.length_nil, Nat.reduceAdd, Nat.reduceSub, Array.replicate_succ, Array.replicate_zero, List.push_toArray, List.append_toArray, List.nil_append, List.cons_append]
 gi_wp2
 gi_loopw [3] (fun i wr => ∃ k : Nat, k ≤ zs.length ∧ i = .int .i64 ((zs.length : Int) - 1 - (k : Int)) ∧ J (bk zs.length k) wr ∧ KeepsB w0.heap.size Bs W wr)
  (fun i _ => (intOf i + 1).toNat)
 case atStart => exact ⟨0, Nat.zero_le _, by simp, h0, KeepsB.refl _ _ _⟩
 case round =>
  obtain ⟨k, hk, rfl, hJs, hnx⟩ := hrel
  have hbs := hnx _ _ (.inr rfl) hBs
  by_cases hlt : k < zs.length
  ·obtain ⟨ad, hA, hc0⟩ := Kd.at_int hC ((zs.length : Int) - 1 - (k : Int)) (by omega) (by omega)
   have hcx := hnx _ _ (.inl (by exact World.block_lt_of_cell? w0 _ hc0)) (pw_cell_below hB hc0)
   obtain ⟨fn, tmps, assign, body, hy, hR⟩ := hY _ ⟨zs.length - 1 - k, by omega⟩ wr hJs (by rw [bk_length _ _ hk]; exact hlt)
   rw [← bk_succ _ _ hlt] at hR
   dsimp only [encI] at hy
   rw [show ((zs.length - 1 - k : Nat) : Int) = (zs.length : Int) - 1 - (k : Int) by omega] at hy
   subst hA
   rw [show ((zs.length : Int) - 1 - (k : Int)).toNat = zs.length - 1 - k by omega] at hcx
   clear hc0 hC
   gi_wp2
   refine hR.mono ?_
   rintro e W3 (⟨rfl, hJ3, hk3⟩ | ⟨rfl, hJx3⟩)
   ·gi_wp2
    go_roundw
    case rel => exact ⟨k + 1, by omega, by first | rfl | (congr 1; omega) | (simp; omega), hJ3, hnx.trans hk3⟩
    case measure => simp [intOf]; omega
   ·gi_wp2
    refine bodyPost_ret (results_none rfl _ _ _) rfl ?_
    exact ⟨⟨_, rfl⟩, .inr ⟨_, ⟨k + 1, by omega, rfl⟩, hJx3⟩⟩
  ·obtain rfl : k = zs.length := by omega
   gi_wp2
   go_end0
   exact ⟨⟨_, rfl⟩, .inl ⟨_, rfl, hJs⟩⟩
set_option maxHeartbeats 1000000 in
theorem back_in (F : Fence) (n : Nat) (hF : F.fn 214) (hro : F.round = none) (a : Option Addr) (len cap : Nat) (w : World) :
  CallsIn F n Tryz.prog 214 #[.slice a len cap] w fun e w' => e = .returned (.func (.func 230) #[] #[.pointer (some ⟨w.heap.size, 0, none⟩)]) ∧ w' = w.alloc (.cells #[.slice a len cap] 167) := by
 refine callsIn_of_wp Tryz.func214 rfl hF ?_ hro
 simp only [Tryz.ntmps214, List.size_toArray, List.length_cons, List.length_nil, Nat.reduceAdd, Nat.reduceSub, Array.replicate_succ, Array.replicate_zero, List.push_toArray, List.append_toArray, List.nil_append, List.cons_append]
 gi_wp2
 go_ret
 exact ⟨rfl, rfl⟩
theorem back_stops (F : Fence) (n : Nat) (hF : F.fn 230) (hro : F.round = none) (hn : 1 ≤ n) (Bs : Nat) (A : Option Addr) (cap : Nat) (zs : List Int) (hl : zs.length ≤ 4611686018427387904) (w0 w : World)
  (hC : Kd.C (Kd.int .i64) w0 A zs.length zs) (hB : Below w0.heap.size w0 w) (hBs : Bs < w.heap.size) (hc : w.cell? ⟨Bs, 0, none⟩ = some (.slice A zs.length cap)) :
  SeqStopsK F n Tryz.prog 230 #[.pointer (some ⟨Bs, 0, none⟩)] (encI zs) (KeepsB w0.heap.size Bs) (fun ys => ys = bk zs.length zs.length)
   (fun pre => ∃ k, k ≤ zs.length ∧ pre = bk zs.length k) zs.length w := fun l J Jx W hW _ _ hY h0 =>
 back1_in F n hF hro hn l Bs A cap zs hl w0 J Jx hC hY W (hB.trans (hW.mono hB.size)) ((hW.cell (p := ⟨Bs, 0, none⟩) hBs).trans hc) h0
end Go.Proofs.YtjopepfemhckjaaGreatDoor.NW
end
section
namespace Go.Proofs.YtjopepfemhckjaaGreatDoor.PN
def dv (l : List UInt8) : Nat := l.foldl (fun a c => 10 * a + (c.toNat - 48)) 0
def allD (l : List UInt8) : Prop := ∀ c ∈ l, 48 ≤ c.toNat ∧ c.toNat ≤ 57
structure okN (l : List UInt8) : Prop where
 ne : l ≠ []
 dig : allD l
 lead : l.head? = some 48 → l = [48]
theorem dv_foldl (l : List UInt8) : ∀ a : Nat, l.foldl (fun a c => 10 * a + (c.toNat - 48)) a = a * 10 ^ l.length + dv l := by
 induction l with
 | nil => intro a; simp [dv]
 | cons c l ih =>
   intro a
   unfold dv
   rw [List.foldl_cons, List.foldl_cons, ih, ih (10 * 0 + (c.toNat - 48)), List.length_cons, Nat.pow_succ]
   rw [show 10 * 0 + (c.toNat - 48) = c.toNat - 48 by omega, Nat.add_mul, Nat.mul_comm 10 a, Nat.mul_assoc, Nat.mul_comm 10]
   omega
theorem dv_append (a b : List UInt8) : dv (a ++ b) = dv a * 10 ^ b.length + dv b := by
 show List.foldl _ _ _ = _
 rw [List.foldl_append, dv_foldl]
 rfl
theorem dv_nil : dv [] = 0 := rfl
theorem dv_one (c : UInt8) : dv [c] = c.toNat - 48 := by simp [dv]
theorem dv_cons (c : UInt8) (l : List UInt8) : dv (c :: l) = (c.toNat - 48) * 10 ^ l.length + dv l := by
 have := dv_append [c] l
 rw [dv_one] at this
 exact this
theorem dv_snoc (l : List UInt8) (c : UInt8) : dv (l ++ [c]) = 10 * dv l + (c.toNat - 48) := by
 rw [dv_append, dv_one]
 simp
 omega
theorem dv_lt (l : List UInt8) (h : allD l) : dv l < 10 ^ l.length := by
 induction l with
 | nil => simp [dv]
 | cons c l ih =>
   have h1 := h c (by simp)
   have h2 := ih (fun d hd => h d (by simp [hd]))
   rw [dv_cons, List.length_cons, Nat.pow_succ]
   have : (c.toNat - 48) * 10 ^ l.length ≤ 9 * 10 ^ l.length := Nat.mul_le_mul_right _ (by omega)
   omega
theorem dv_ge (c : UInt8) (l : List UInt8) (h : 49 ≤ c.toNat) : 10 ^ l.length ≤ dv (c :: l) := by
 rw [dv_cons]
 have : 1 * 10 ^ l.length ≤ (c.toNat - 48) * 10 ^ l.length := Nat.mul_le_mul_right _ (by omega)
 omega
theorem u8_ext {a b : UInt8} (h : a.toNat = b.toNat) : a = b := UInt8.toNat_inj.1 h
theorem same_len (l m : List UInt8) (hl : allD l) (hm : allD m) (e : l.length = m.length) (h : dv l = dv m) : l = m := by
 induction l generalizing m with
 | nil => cases m with
   | nil => rfl
   | cons _ _ => cases e
 | cons c l ih =>
   cases m with
   | nil => cases e
   | cons d m =>
     have e' : l.length = m.length := by simpa using e
     have b1 := dv_lt l (fun x hx => hl x (by simp [hx]))
     have b2 := dv_lt m (fun x hx => hm x (by simp [hx]))
     have c1 := hl c (by simp)
     have d1 := hm d (by simp)
     rw [dv_cons, dv_cons, e'] at h
     rw [e'] at b1
     have hp : 0 < 10 ^ m.length := Nat.pow_pos (by omega)
     have q : c.toNat - 48 = d.toNat - 48 := by
      have h1 := congrArg (· / 10 ^ m.length) h
      simp only [Nat.mul_comm _ (10 ^ m.length), Nat.mul_add_div hp, Nat.div_eq_of_lt b1, Nat.div_eq_of_lt b2] at h1
      omega
     have hcd : c = d := u8_ext (by omega)
     subst hcd
     rw [ih m (fun x hx => hl x (by simp [hx])) (fun x hx => hm x (by simp [hx])) e' (by omega)]
theorem okN.ge {l : List UInt8} (h : okN l) (h0 : dv l ≠ 0) : 10 ^ (l.length - 1) ≤ dv l := by
 cases l with
 | nil => exact absurd rfl h.ne
 | cons c l =>
   have hc := h.dig c (by simp)
   by_cases h48 : c = 48
   ·subst h48
    have := h.lead rfl
    rw [this] at h0
    exact absurd rfl h0
   ·have : c.toNat ≠ 48 := fun e => h48 (u8_ext e)
    exact dv_ge c l (by omega)
theorem okN.pos_len {l : List UInt8} (h : okN l) : 0 < l.length := by
 cases l with
 | nil => exact absurd rfl h.ne
 | cons _ _ => simp
theorem okN.zero {l : List UInt8} (h : okN l) (h0 : dv l = 0) : l = [48] := by
 cases l with
 | nil => exact absurd rfl h.ne
 | cons c l =>
   have hc := h.dig c (by simp)
   by_cases h48 : c = 48
   ·subst h48; exact h.lead rfl
   ·have : c.toNat ≠ 48 := fun e => h48 (u8_ext e)
    have := dv_ge c l (by omega)
    have hp : 0 < 10 ^ l.length := Nat.pow_pos (by omega)
    omega
theorem okN.inj {a b : List UInt8} (ha : okN a) (hb : okN b) (h : dv a = dv b) : a = b := by
 by_cases h0 : dv a = 0
 ·rw [ha.zero h0, hb.zero (by omega)]
 ·have a1 := ha.ge h0
  have b1 := hb.ge (by omega)
  have a2 := dv_lt a ha.dig
  have b2 := dv_lt b hb.dig
  have ap := ha.pos_len
  have bp := hb.pos_len
  refine same_len a b ha.dig hb.dig ?_ h
  have l1 : a.length - 1 < b.length := (Nat.pow_lt_pow_iff_right (by omega)).1 (Nat.lt_of_le_of_lt a1 (h ▸ b2))
  have l2 : b.length - 1 < a.length := (Nat.pow_lt_pow_iff_right (by omega)).1 (Nat.lt_of_le_of_lt b1 (h ▸ a2))
  omega
def IsN (s : ByteArray) (n : Nat) : Prop := okN s.data.toList ∧ dv s.data.toList = n
theorem IsN.inj {s t : ByteArray} {n : Nat} (h : IsN s n) (k : IsN t n) : s = t := by
 have := okN.inj h.1 k.1 (h.2.trans k.2.symm)
 cases s; cases t
 congr 1
 exact Array.toList_inj.1 this
theorem IsN.val {s : ByteArray} {n m : Nat} (h : IsN s n) (k : IsN s m) : n = m := h.2.symm.trans k.2
theorem isN_0 : IsN ⟨#[48]⟩ 0 := ⟨⟨by simp, by intro c hc; simp at hc; subst hc; decide, fun _ => rfl⟩, rfl⟩
theorem isN_1 : IsN ⟨#[49]⟩ 1 := ⟨⟨by simp, by intro c hc; simp at hc; subst hc; decide, fun h => by simp at h⟩, rfl⟩
theorem IsN.eq0 {s : ByteArray} {n : Nat} (h : IsN s n) : s = ⟨#[48]⟩ ↔ n = 0 :=
 ⟨fun e => by subst e; exact h.val isN_0, fun e => by subst e; exact h.inj isN_0⟩
theorem IsN.eq1 {s : ByteArray} {n : Nat} (h : IsN s n) : s = ⟨#[49]⟩ ↔ n = 1 :=
 ⟨fun e => by subst e; exact h.val isN_1, fun e => by subst e; exact h.inj isN_1⟩
end Go.Proofs.YtjopepfemhckjaaGreatDoor.PN
end
