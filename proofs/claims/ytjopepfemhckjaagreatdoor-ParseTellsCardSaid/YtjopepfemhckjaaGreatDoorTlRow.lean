/-
  The card of the law ParseTells: whatever the input, the Go function returns true and leaves its arguments as they were.
-/
import Derived.Test.YtjopepfemhckjaaGreatDoorCards
import Derived.Test.YtjopepfemhckjaaGreatDoorTie
import Derived.SevenTiedAt
import Derived.ShutString
import Derived.Test.YtjopepfemhckjaaGreatDoorTl43
set_option linter.unusedVariables false
set_option linter.unusedSimpArgs false
set_option maxHeartbeats 16000000
set_option maxRecDepth 100000
namespace Go.Proofs.YtjopepfemhckjaaGreatDoor.parseTells
open Go.ChangeShapes Go.WideShapes Go.ChangeAt Go.RowKit
open Go.ChangeMaps (open_string shut_string)
theorem lifted (os:Os)(started:os.Started)(H:Type)(enc:TypeId×Value→H):
 ReturnsInHanded {} Tryz.checked os 3 .any (fun w args=>(Rows.parseTellsSpec.pre enc Tryz.prog Tryz.f3 Rows.parseTellsRow.domain false w args∧laidMetH Tryz.prog RG.laidS w)∧sizedMet enc Tryz.prog Tryz.f3 (OpenSpec.ofChange Rows.parseTellsSpec) false w args) (Rows.parseTellsSpec.post enc Tryz.prog Tryz.f3 false true false false):=by
 refine RG.returns_laid (C:=Tryz.checked) (X:=fun w _=>laidMetH Tryz.prog RG.laidS w) (fun _ _ _ hh h=>h.of_heap hh) RG.own started (by kernel_rfl) Tryz.func3
  (ChangeSpec.witness_shaped (enc:=enc) (C:=Tryz.checked) (os:=os) (X:=fun w _=>laidMetH Tryz.prog RG.laidS w) false (RG.start os) #[.string ByteArray.empty] 8 rfl (World.shaped_of_RefB (by kernel_rfl) (by kernel_rfl)) (by kernel_rfl) (by kernel_rfl) (by kernel_rfl) (RG.start_met os _)) ?_
 intro W base args ds gs before hval0 hW hcnd hsz0 hL hsh;have hg:=RG.glob2_of hL hsh;have hval:∀(j:Nat) t v,Tryz.f3.params[j]? =some t→args[j]? =some v→Value.okWide Tryz.prog W .any base t v:=hval0;have hW':=hW;obtain⟨p,q,hA0,hV,rfl,hfz,hnd⟩:=hW;have hA:DataW.TrodAll enc Tryz.prog W 0 (fun _=>true) true Tryz.f3.params.toList args.toList ds p:=hA0
 rw[Tryz.params3]at hA hval;obtain⟨v0,vs0,d0,ds0,p0,q0,hargs,rfl,rfl,h0,r0⟩:=trodAll_cons hA;obtain⟨rfl,rfl,rfl⟩:=trodAll_nil r0;obtain rfl:args=#[v0]:=by cases args;simp_all
 obtain⟨rfl,rfl⟩:=trodVars_none hV;obtain⟨a0,rfl,rfl,rfl,w0⟩:=open_string Tryz.underlying9 (hval 0 9 v0 rfl rfl) h0;clear hA0 hval0;refine(NW.tells_at a0 W hg).mono fun e W' ⟨he,bel⟩=>?_
 subst he;exact⟨_,rfl,_,_,_,[],_,[],hW',trodAll_mk1 (shut_bool Tryz.underlying4 _),(trodAll_cons_mk (shut_string Tryz.underlying9 w0) trodAll_mk0),rfl,bel.frame _,fun h=>by cases h⟩
theorem over:Rows.parseTellsRow.holds Tryz.pinned (OpenSpec.ofChange Rows.parseTellsSpec):=
 OpenClaim.holds_of_wide 3 Tryz.f3 rfl rfl rfl rfl rfl rfl rfl ⟨rfl,rfl,rfl,rfl,rfl⟩ rfl rfl rfl rfl rfl (by kernel_rfl) Tryz.func3 (by kernel_rfl)
  (of_decide_eq_true (by kernel_rfl)) (by unfold Func.isWrapper;first|(rw[if_pos (by decide+kernel)];kernel_rfl)|(rw[if_neg (by decide+kernel)];exact⟨rfl,rfl⟩))
  (fun os started H enc _=>lifted os started H enc)
end Go.Proofs.YtjopepfemhckjaaGreatDoor.parseTells
namespace Go.Proofs.YtjopepfemhckjaaGreatDoor
theorem parseTells_holds:Rows.ParseTellsCardSaid:=
 Claim7.holds_tied_plain_at .later [] [.data,.data,.data,.data,.sentinel,.sentinel,.pinned] true (true,"4757ce96fe76183923a49868ae1a5be535bb6bd060b4299d030c75e24247ef1f") true
  parseTells.over (fun _ h=>by cases h) (by kernel_rfl) (fun _ h=>by cases h) parseTells_row_tie rfl ⟨rfl,rfl⟩ (by kernel_rfl) rfl
  (fun f fn hf hfn=>by
   obtain rfl:f=3:=Option.some.inj ((show Tryz.prog.funcNamed "debenture/debenturelaw11.ParseTells" =some 3 by kernel_rfl).symm.trans hf) |>.symm
   obtain rfl:fn=Tryz.f3:=(Option.some.inj (Tryz.func3.symm.trans hfn)).symm;exact⟨by kernel_rfl,fun j t ht=>by
    rw[Tryz.params3]at ht;have hm:t∈[9]:=by simpa using Array.mem_of_getElem? ht
    have hall:([9].all fun u=> !Tryz.prog.wantsStandIn u)=true:=by kernel_rfl
    exact(show Tryz.prog.wantsStandIn t=false by simpa using List.all_eq_true.1 hall t hm)⟩)
  (by kernel_rfl)
#print axioms parseTells_holds
end Go.Proofs.YtjopepfemhckjaaGreatDoor
