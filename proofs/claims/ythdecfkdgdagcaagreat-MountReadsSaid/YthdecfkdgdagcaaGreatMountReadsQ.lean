/- MountReads: what the law needs. No condition beyond the bounds that each states. -/
import Derived.Test.YthdecfkdgdagcaaGreatMountReadsQ6
namespace Go.Proofs.YthdecfkdgdagcaaGreat
open Go Go.RowKit
set_option linter.unusedVariables false
set_option linter.unusedSectionVars false
set_option maxHeartbeats 64000000
section
namespace mountReads
open Go.ChangeShapes Go.WideShapes Go.ChangeAt Go.RowKit
open Go.ChangeMaps (open_string shut_string)
theorem own:ownKnob Tryz.prog.godebug=none:=by kernel_rfl
theorem laidOut:laidOutB Tryz.prog=true:=by kernel_rfl
set_option maxRecDepth 100000 in
theorem lifted (os:Os) (started:os.Started) (H:Type) (enc:TypeId×Value→H) :
 ReturnsInHanded {} Tryz.checked os 6 .any (Rows.mountReadsSpec.pre6 enc Tryz.prog Tryz.f6 Rows.mountReadsRow.domain false) (Rows.mountReadsSpec.post enc Tryz.prog Tryz.f6 false true false false):=by
 refine returnsInHanded_of_change (C:=Tryz.checked) own started (by kernel_rfl) Tryz.func6
  (ChangeSpec.witness6 (enc:=enc) (C:=Tryz.checked) false ⟨#[],#[sN,sN,sN],[]⟩ 8 (by kernel_rfl) (by kernel_rfl) (by kernel_rfl) (by kernel_rfl)) ?_
 intro W base args ds gs before hval0 hW hcnd _;have hval:∀ (j:Nat) t v,Tryz.f6.params[j]?=some t→args[j]?=some v→Value.okWide Tryz.prog W .any base t v:=hval0;have hW':=hW;obtain⟨p,q,hA0,hV,rfl,hfz,hnd⟩:=hW;have hA:DataW.TrodAll enc Tryz.prog W 0 (fun _=>true) true Tryz.f6.params.toList args.toList ds p:=hA0;rw[Tryz.params6] at hA hval;obtain⟨v0,vs0,d0,ds0,p0,q0,hargs,rfl,rfl,h0,r0⟩:=trodAll_cons hA;obtain⟨v1,vs1,d1,ds1,p1,q1,rfl,rfl,rfl,h1,r1⟩:=trodAll_cons r0;obtain⟨v2,vs2,d2,ds2,p2,q2,rfl,rfl,rfl,h2,r2⟩:=trodAll_cons r1;obtain⟨rfl,rfl,rfl⟩:=trodAll_nil r2;obtain rfl:args=#[v0,v1,v2]:=by cases args;simp_all
 obtain⟨rfl,rfl⟩:=trodVars_none hV;have k0:=h0;have lt0:∀ x∈p0,x.block<W.heap.size:=by obtain⟨m,hm⟩:=k0;exact DataW.trod_lt m _ _ _ hm
 obtain⟨a0,cap0,x0,rfl,hv0,hw0⟩:=GP Tryz.underlying22 (⟨Tryz.underlying68,by kernel_rfl,rfl,by kernel_rfl,Tryz.underlying23,Tryz.underlying9,by kernel_rfl,Tryz.underlying3,Tryz.underlying3,Tryz.underlying43,rfl,by kernel_rfl,Tryz.underlying3,Tryz.underlying3,Tryz.underlying3,Tryz.underlying25,Tryz.underlying5,by kernel_rfl,Tryz.underlying9,Tryz.underlying66,Tryz.underlying183,by kernel_rfl,⟨rfl,rfl⟩,⟨by kernel_rfl,by kernel_rfl⟩,Tryz.underlying9,Tryz.underlying25,Tryz.underlying5,by kernel_rfl,Tryz.underlying4⟩) h0 (by obtain⟨a,n,c,h⟩:=okWide_slice Tryz.underlying22 (hval 0 22 v0 rfl rfl);exact⟨a,n,c,h⟩);have k1:=h1;have lt1:∀ x∈p1,x.block<W.heap.size:=by obtain⟨m,hm⟩:=k1;exact DataW.trod_lt m _ _ _ hm
 obtain⟨a1,cap1,x1,rfl,hv1,hw1⟩:=GR Tryz.underlying55 Tryz.underlying57 (by kernel_rfl) (by kernel_rfl) h1 (by obtain⟨a,n,c,h⟩:=okWide_slice Tryz.underlying55 (hval 1 55 v1 rfl rfl);exact⟨a,n,c,h⟩);have k2:=h2;have lt2:∀ x∈p2,x.block<W.heap.size:=by obtain⟨m,hm⟩:=k2;exact DataW.trod_lt m _ _ _ hm
 obtain⟨a2,cap2,x2,rfl,hv2,hw2⟩:=JN Tryz.underlying60 Tryz.underlying64 (by kernel_rfl) (by kernel_rfl) h2 (by obtain⟨a,n,c,h⟩:=okWide_slice Tryz.underlying60 (hval 2 60 v2 rfl rfl);exact⟨a,n,c,h⟩);clear hA0 hval0;refine(Bn a0 cap0 x0 a1 cap1 x1 a2 cap2 x2 W hv0 hw0 hv1 (fun x hx=>⟨CW (hw1 x hx).1,CW (hw1 x hx).2⟩) hv2 (fun x hx=>⟨CW (hw2 x hx).2.1,CW (hw2 x hx).2.2⟩)).mono fun e W' hR=>?_;obtain⟨he,bel⟩:=LB hR;subst he;exact⟨_,rfl,_,_,_,[],_,[],hW',trodAll_mk1 (shut_bool Tryz.underlying4 _),(trodAll_cons_mk (Below.trod laidOut (by kernel_rfl) (of_decide_eq_true (by kernel_rfl)) k0 bel lt0) (trodAll_cons_mk (Below.trod laidOut (by kernel_rfl) (of_decide_eq_true (by kernel_rfl)) k1 bel lt1) (trodAll_cons_mk (Below.trod laidOut (by kernel_rfl) (of_decide_eq_true (by kernel_rfl)) k2 bel lt2) trodAll_mk0))),rfl,bel.frame _,fun h=>by cases h⟩
theorem over:Rows.mountReadsRow.holds Tryz.pinned (OpenSpec.ofChange Rows.mountReadsSpec):=
 OpenClaim.holds_of_wide 6 Tryz.f6 rfl rfl rfl rfl rfl rfl rfl ⟨rfl,rfl,rfl,rfl,rfl⟩ rfl rfl rfl rfl rfl (by kernel_rfl) Tryz.func6 (by kernel_rfl)
  (of_decide_eq_true (by kernel_rfl)) (by unfold Func.isWrapper;first|(rw[ZP (by decide +kernel)];kernel_rfl)|(rw[ZO (by decide +kernel)];exact⟨rfl,rfl⟩))
  (fun os started H enc _=>lifted os started H enc)
theorem proved:Rows.MountReadsSaid:=over
#print axioms proved
end mountReads
end
end Go.Proofs.YthdecfkdgdagcaaGreat
