/- MountSpoilt: what the law needs. No condition beyond the bounds that each states. -/
import Derived.Test.YthdecfkdgdagcaaGreatMountSpoiltQ5
namespace Go.Proofs.YthdecfkdgdagcaaGreat
open Go Go.RowKit
set_option linter.unusedVariables false
set_option linter.unusedSectionVars false
set_option maxHeartbeats 64000000
section
namespace mountSpoilt
open Go.ChangeShapes Go.WideShapes Go.ChangeAt Go.RowKit
open Go.ChangeMaps (open_string shut_string)
theorem own:ownKnob Tryz.prog.godebug=none:=by kernel_rfl
theorem laidOut:laidOutB Tryz.prog=true:=by kernel_rfl
set_option maxRecDepth 100000 in
theorem lifted (os:Os) (started:os.Started) (H:Type) (enc:TypeId×Value→H) :
 ReturnsInHanded {} Tryz.checked os 5 .any (Rows.mountSpoiltSpec.pre6 enc Tryz.prog Tryz.f5 Rows.mountSpoiltRow.domain false) (Rows.mountSpoiltSpec.post enc Tryz.prog Tryz.f5 false true false false):=by
 refine returnsInHanded_of_change (C:=Tryz.checked) own started (by kernel_rfl) Tryz.func5
  (ChangeSpec.witness6 (enc:=enc) (C:=Tryz.checked) false ⟨#[],#[sN,sN,iV 0],[]⟩ 8 (by kernel_rfl) (by kernel_rfl) (by kernel_rfl) (by kernel_rfl)) ?_
 intro W base args ds gs before hval0 hW hcnd _;have hval:∀ (j:Nat) t v,Tryz.f5.params[j]?=some t→args[j]?=some v→Value.okWide Tryz.prog W .any base t v:=hval0;have hW':=hW;obtain⟨p,q,hA0,hV,rfl,hfz,hnd⟩:=hW;have hA:DataW.TrodAll enc Tryz.prog W 0 (fun _=>true) true Tryz.f5.params.toList args.toList ds p:=hA0;rw[Tryz.params5] at hA hval;obtain⟨v0,vs0,d0,ds0,p0,q0,hargs,rfl,rfl,h0,r0⟩:=trodAll_cons hA;obtain⟨v1,vs1,d1,ds1,p1,q1,rfl,rfl,rfl,h1,r1⟩:=trodAll_cons r0;obtain⟨v2,vs2,d2,ds2,p2,q2,rfl,rfl,rfl,h2,r2⟩:=trodAll_cons r1;obtain⟨rfl,rfl,rfl⟩:=trodAll_nil r2;obtain rfl:args=#[v0,v1,v2]:=by cases args;simp_all
 obtain⟨rfl,rfl⟩:=trodVars_none hV;have k0:=h0;have lt0:∀ x∈p0,x.block<W.heap.size:=by obtain⟨m,hm⟩:=k0;exact DataW.trod_lt m _ _ _ hm
 obtain⟨a0,cap0,x0,rfl,hv0,hw0⟩:=EO Tryz.underlying22 (⟨Tryz.underlying68,by kernel_rfl,rfl,by kernel_rfl,Tryz.underlying23,Tryz.underlying9,by kernel_rfl,Tryz.underlying3,Tryz.underlying3,Tryz.underlying43,rfl,by kernel_rfl,Tryz.underlying3,Tryz.underlying3,Tryz.underlying3,Tryz.underlying25,Tryz.underlying5,by kernel_rfl,Tryz.underlying9,Tryz.underlying66,Tryz.underlying183,by kernel_rfl,⟨rfl,rfl⟩,⟨by kernel_rfl,by kernel_rfl⟩,Tryz.underlying9,Tryz.underlying25,Tryz.underlying5,by kernel_rfl,Tryz.underlying4⟩) h0 (by obtain⟨a,n,c,h⟩:=okWide_slice Tryz.underlying22 (hval 0 22 v0 rfl rfl);exact⟨a,n,c,h⟩);have k1:=h1;have lt1:∀ x∈p1,x.block<W.heap.size:=by obtain⟨m,hm⟩:=k1;exact DataW.trod_lt m _ _ _ hm
 obtain⟨a1,cap1,x1,rfl,hv1,hw1⟩:=EP Tryz.underlying55 Tryz.underlying57 (by kernel_rfl) (by kernel_rfl) h1 (by obtain⟨a,n,c,h⟩:=okWide_slice Tryz.underlying55 (hval 1 55 v1 rfl rfl);exact⟨a,n,c,h⟩);obtain⟨z2,rfl,rfl,rfl,wf2⟩:=open_int Tryz.underlying3 (hval 2 3 v2 rfl rfl) h2;clear hA0 hval0;refine(wV a0 cap0 x0 a1 cap1 x1 z2 W hv0 hw0 hv1 (fun x hx=>⟨Eb (hw1 x hx).1,Eb (hw1 x hx).2⟩) (Eb wf2)).mono fun e W' hR=>?_;obtain⟨he,bel⟩:=JB hR;subst he;exact⟨_,rfl,_,_,_,[],_,[],hW',trodAll_mk1 (shut_bool Tryz.underlying4 _),(trodAll_cons_mk (Below.trod laidOut (by kernel_rfl) (of_decide_eq_true (by kernel_rfl)) k0 bel lt0) (trodAll_cons_mk (Below.trod laidOut (by kernel_rfl) (of_decide_eq_true (by kernel_rfl)) k1 bel lt1) (trodAll_cons_mk (shut_int Tryz.underlying3 wf2) trodAll_mk0))),rfl,bel.frame _,fun h=>by cases h⟩
theorem over:Rows.mountSpoiltRow.holds Tryz.pinned (OpenSpec.ofChange Rows.mountSpoiltSpec):=
 OpenClaim.holds_of_wide 5 Tryz.f5 rfl rfl rfl rfl rfl rfl rfl ⟨rfl,rfl,rfl,rfl,rfl⟩ rfl rfl rfl rfl rfl (by kernel_rfl) Tryz.func5 (by kernel_rfl)
  (of_decide_eq_true (by kernel_rfl)) (by unfold Func.isWrapper;first|(rw[if_pos (by decide +kernel)];kernel_rfl)|(rw[if_neg (by decide +kernel)];exact⟨rfl,rfl⟩))
  (fun os started H enc _=>lifted os started H enc)
theorem proved:Rows.MountSpoiltSaid:=over
#print axioms proved
end mountSpoilt
end
end Go.Proofs.YthdecfkdgdagcaaGreat
