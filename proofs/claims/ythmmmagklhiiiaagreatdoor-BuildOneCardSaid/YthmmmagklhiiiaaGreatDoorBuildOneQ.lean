/- BuildOne: what the law needs. No condition beyond the bounds that each states. -/
import Derived.LaidMore
import Derived.LaidHandle
import Derived.SevenTiedAt
import Derived.Test.YthmmmagklhiiiaaGreatDoorCards
import Derived.Test.YthmmmagklhiiiaaGreatDoorTie
import Derived.Test.YthmmmagklhiiiaaGreatDoorBuildOneQ5
namespace Go.Proofs.YthmmmagklhiiiaaGreatDoor
open Go Go.RowKit
set_option linter.unusedVariables false
set_option linter.unusedSectionVars false
set_option maxHeartbeats 64000000
section
namespace buildOne
open Go.ChangeShapes Go.WideShapes Go.ChangeAt Go.RowKit
open Go.ChangeMaps (open_string shut_string)
theorem own:ownKnob Tryz.prog.godebug=none:=by kernel_rfl
def cellsOf:DataW Unit→Array Value
|.agg xs=>(xs.map fun|.lit (.int k n)=>Value.int k n|_=>.bool false).toArray
|_=>#[]
noncomputable def doorW (os:Os):World:=
 { World.doorLaid Tryz.prog 400 os with heap := (World.doorLaid Tryz.prog 400 os).heap.modify ((Tryz.prog.globalNamed "unicode/utf8.first").getD 0) fun
  | .cells _ t frozen=>.cells (cellsOf Go.Pinned.utf8First) t frozen
  | o=>o }
theorem door_met(os:Os)(args:Array Value):laidMetH Tryz.prog Rows.buildOneRow.laid ((doorW os).forCall (fun _ _=>0) ⟨#[],args,[]⟩).memory:=
 laidMetH_of_parts3 (fuel:=8) (laidMet_of_run' 8 (by kernel_rfl) (by kernel_rfl)) (by kernel_rfl) (by kernel_rfl)
theorem laidOut:laidOutB Tryz.prog=true:=by kernel_rfl
set_option maxRecDepth 100000 in
theorem lifted (os:Os) (started:os.Started) (H:Type) (enc:TypeId×Value→H) :
 ReturnsInHanded {} Tryz.checked os 6 .any (fun w args=>(Rows.buildOneSpec.pre enc Tryz.prog Tryz.f6 [] false w args∧laidMetH Tryz.prog Rows.buildOneRow.laid w)∧sizedMet enc Tryz.prog Tryz.f6 (OpenSpec.ofChange Rows.buildOneSpec) false w args) (Rows.buildOneSpec.post enc Tryz.prog Tryz.f6 false true false false):=by
 refine returnsInHanded_of_change_and (C:=Tryz.checked) (X:=fun w _=>laidMetH Tryz.prog Rows.buildOneRow.laid w) (fun _ _ _ hh h=>h.of_heap hh) own started (by kernel_rfl) Tryz.func6
  (ChangeSpec.witness_shaped (enc:=enc) (C:=Tryz.checked) (os:=os) (X:=fun w _=>laidMetH Tryz.prog Rows.buildOneRow.laid w) false (doorW os) #[sN,sN] 8 rfl (World.shaped_of_RefB (by kernel_rfl) (by kernel_rfl)) (by kernel_rfl) (by kernel_rfl) (by kernel_rfl) (door_met os _)) ?_
 intro W base args ds gs before hval0 hW _ _ hL _;have hval:∀ (j:Nat) t v,Tryz.f6.params[j]?=some t→args[j]?=some v→Value.okWide Tryz.prog W .any base t v:=hval0;have hW':=hW;obtain⟨p,q,hA0,hV,rfl,hfz,hnd⟩:=hW;have hA:DataW.TrodAll enc Tryz.prog W 0 (fun _=>true) true Tryz.f6.params.toList args.toList ds p:=hA0;rw[Tryz.params6] at hA hval;obtain⟨v0,vs0,d0,ds0,p0,q0,hargs,rfl,rfl,h0,r0⟩:=trodAll_cons hA;obtain⟨v1,vs1,d1,ds1,p1,q1,rfl,rfl,rfl,h1,r1⟩:=trodAll_cons r0;obtain⟨rfl,rfl,rfl⟩:=trodAll_nil r1;obtain rfl:args=#[v0,v1]:=by cases args;simp_all
 obtain⟨rfl,rfl⟩:=trodVars_none hV;have k0:=h0;have lt0:∀ x∈p0,x.block<W.heap.size:=by obtain⟨m,hm⟩:=k0;exact DataW.trod_lt m _ _ _ hm
 obtain⟨a0,cap0,x0,rfl,hv0,hw0⟩:=wM Tryz.underlying22 (⟨Tryz.underlying37,by kernel_rfl,rfl,by kernel_rfl,Tryz.underlying32,Tryz.underlying9,by kernel_rfl,Tryz.underlying3,Tryz.underlying3,Tryz.underlying34,rfl,by kernel_rfl,Tryz.underlying3,Tryz.underlying3,Tryz.underlying3,Tryz.underlying25,Tryz.underlying5,by kernel_rfl,Tryz.underlying9,Tryz.underlying35,Tryz.underlying123,by kernel_rfl,⟨rfl,rfl⟩,⟨by kernel_rfl,by kernel_rfl⟩,Tryz.underlying9,Tryz.underlying25,Tryz.underlying5,by kernel_rfl,Tryz.underlying4⟩) h0 (by obtain⟨a,n,c,h⟩:=okWide_slice Tryz.underlying22 (hval 0 22 v0 rfl rfl);exact⟨a,n,c,h⟩);have k1:=h1;have lt1:∀ x∈p1,x.block<W.heap.size:=by obtain⟨m,hm⟩:=k1;exact DataW.trod_lt m _ _ _ hm
 obtain⟨a1,cap1,x1,rfl,hv1,hw1⟩:=wM Tryz.underlying22 (⟨Tryz.underlying37,by kernel_rfl,rfl,by kernel_rfl,Tryz.underlying32,Tryz.underlying9,by kernel_rfl,Tryz.underlying3,Tryz.underlying3,Tryz.underlying34,rfl,by kernel_rfl,Tryz.underlying3,Tryz.underlying3,Tryz.underlying3,Tryz.underlying25,Tryz.underlying5,by kernel_rfl,Tryz.underlying9,Tryz.underlying35,Tryz.underlying123,by kernel_rfl,⟨rfl,rfl⟩,⟨by kernel_rfl,by kernel_rfl⟩,Tryz.underlying9,Tryz.underlying25,Tryz.underlying5,by kernel_rfl,Tryz.underlying4⟩) h1 (by obtain⟨a,n,c,h⟩:=okWide_slice Tryz.underlying22 (hval 1 22 v1 rfl rfl);exact⟨a,n,c,h⟩);clear hA0 hval0;refine(DE a0 cap0 x0 a1 cap1 x1 W hv0 hw0 hv1 hw1).mono fun e W' hR=>?_;obtain⟨he,bel⟩:=IM hR;subst he;exact⟨_,rfl,_,_,_,[],_,[],hW',trodAll_mk1 (shut_bool Tryz.underlying4 _),(trodAll_cons_mk (Below.trod laidOut (by kernel_rfl) (of_decide_eq_true (by kernel_rfl)) k0 bel lt0) (trodAll_cons_mk (Below.trod laidOut (by kernel_rfl) (of_decide_eq_true (by kernel_rfl)) k1 bel lt1) trodAll_mk0)),rfl,bel.frame _,fun h=>by cases h⟩
theorem over:Rows.buildOneRow.holds Tryz.pinned (OpenSpec.ofChange Rows.buildOneSpec):=
 OpenClaim.holds_of_wide 6 Tryz.f6 rfl rfl rfl rfl rfl rfl rfl ⟨rfl,rfl,rfl,rfl,rfl⟩ rfl rfl rfl rfl rfl (by kernel_rfl) Tryz.func6 (by kernel_rfl)
  (of_decide_eq_true (by kernel_rfl)) (by unfold Func.isWrapper;first|(rw[Wu (by decide +kernel)];kernel_rfl)|(rw[Wt (by decide +kernel)];exact⟨rfl,rfl⟩))
  (fun os started H enc _=>lifted os started H enc)
theorem proved:Rows.BuildOneCardSaid:=
 Claim7.holds_tied_plain_at .later [] [.data, .pinned] true (true, "9df5dd50a46127b70de4b420279acd90ccb31b74530bd9e1b546913cd3d42b4c") false
  over (fun _ h=>by cases h) (by kernel_rfl) (fun _ h=>by cases h) buildOne_row_tie rfl ⟨rfl,rfl⟩ (by kernel_rfl) rfl
  (fun f fn hf hfn=>by
    obtain rfl : f = 6 := Option.some.inj ((show Tryz.prog.funcNamed "lamella/lamellalaw14.BuildOne" = some 6 by kernel_rfl).symm.trans hf) |>.symm
    obtain rfl:fn=Tryz.f6:=(Option.some.inj (Tryz.func6.symm.trans hfn)).symm;exact ⟨by kernel_rfl,fun j t ht=>by
     rw [Tryz.params6] at ht;have hm:t∈[22,22]:=by simpa using Array.mem_of_getElem? ht
     have hall:([22,22].all fun u=>!Tryz.prog.wantsStandIn u)=true:=by kernel_rfl
     exact (show Tryz.prog.wantsStandIn t=false by simpa using List.all_eq_true.1 hall t hm)⟩)
  (by kernel_rfl)
#print axioms proved
end buildOne
end
end Go.Proofs.YthmmmagklhiiiaaGreatDoor
