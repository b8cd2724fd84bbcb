/- tree: the law TreeLooks. No condition beyond the bounds that each states. -/
import Derived.Test.YtpnfjfbfgaiolaaTsI
namespace Go.Proofs.Ytpnfjfbfgaiolaa
open Go Go.RowKit Go.Maps
set_option linter.unusedVariables false
variable {D D' : Nat → Prop}
set_option maxHeartbeats 1000000 in
theorem treeLooks_ok (lo : Option Addr) (lc : Nat) (ps : List (NdH × Nd)) (h : Hd) (s : List (List UInt8)) (z : Int) (W : World) (hv : NodesV D W.heap lo lc ps) (hs : NmV D' W.heap h s) :
    Calls Try.prog 5 [.slice lo ps.length lc, hd h, .int .i64 z].toArray W (Ret fun v w' => v = .bool true ∧ Foot nob W w') := by
  refine calls_of_sc 62 [(0, _), (1, _), (2, _)] Try.func5 rfl rfl rfl (enter_slots ⟨rfl, rfl, rfl, trivial⟩) ?_
  refine Sc.seq ?_
  refine Sc.region ?_
  refine Sl.calm (Cm.assign rfl) rfl ?_
  refine Sl.nil ?_
  refine At.go ?_
  refine Sc.seq ?_
  refine Sc.region ?_
  refine Sl.call fn10 rfl (shown_ok W) rfl ?_
  rintro _ w1 ⟨rfl, hf1⟩
  refine Sl.calm (Cm.assign rfl) rfl ?_
  refine Sl.nil ?_
  refine At.weak [(0, _), (1, _), (2, _), (6, _), (7, _)] ⟨rfl, rfl, rfl, rfl, rfl, trivial⟩ ?_
  refine At.go ?_
  refine Sc.seq ?_
  refine Sc.region ?_
  refine Sl.calm (Cm.move rfl) rfl ?_
  refine Sl.call fn11 rfl (few_ok lo lc ps w1 (hv.grow hf1)) rfl ?_
  rintro _ w2 ⟨o, c, rfl, ho, hfo, hf2, hvf⟩
  have hs2 := (hs.keep hf1 (fun _ _ => id)).keep hf2 (fun _ _ => id)
  have hn60 := few_len ps
  refine Sl.calm (Cm.assign rfl) rfl ?_
  refine Sl.nil ?_
  refine At.weak [(0, _), (1, _), (2, _), (6, _), (7, _)] ⟨rfl, rfl, rfl, rfl, rfl, trivial⟩ ?_
  refine At.go ?_
  refine Sc.seq ?_
  refine Sc.region ?_
  refine Sl.calm (Cm.move rfl) rfl ?_
  refine Sl.calm (Cm.move rfl) rfl ?_
  refine Sl.call fn16 rfl ((by show Calls _ _ [_, Value.slice h.a h.n h.c].toArray _ _; rw [hs2.1]; exact kids_ok o c (fewL ps) h.a h.c s w2 hvf hs2.2.1 (by omega))) rfl ?_
  rintro _ w3 ⟨o3, c3, ys, rfl, ho3, hfo3, hk3, hf3⟩
  refine Sl.calm (Cm.assign rfl) rfl ?_
  refine Sl.nil ?_
  refine At.weak [(0, _), (1, _), (2, _), (6, _), (7, _), (8, _)] ⟨rfl, rfl, rfl, rfl, rfl, rfl, trivial⟩ ?_
  refine At.go ?_
  refine Sc.seq ?_
  refine Sc.region ?_
  refine Sl.calm (Cm.move rfl) rfl ?_
  refine Sl.calm (Cm.move rfl) rfl ?_
  refine Sl.call fn17 rfl ((by show Calls _ _ [_, Value.slice h.a h.n h.c].toArray _ _; rw [hs2.1]; exact rkids_ok o c (fewL ps) h.a h.c s w3 (hvf.grow hf3) (hs2.2.1.grow hf3) (by omega))) rfl ?_
  rintro _ w4 ⟨o4, c4, zs, rfl, ho4, hfo4, hk4, hf4⟩
  have ezy : zs = ys := hk4.uniq hk3
  subst ezy
  have hv4 := (hvf.grow hf3).grow hf4
  have hs4 := (hs2.keep hf3 (fun _ _ => id)).keep hf4 (fun _ _ => id)
  have ho34 := ho3.grow hf4
  refine Sl.calm (Cm.assign rfl) rfl ?_
  refine Sl.nil ?_
  refine At.weak [(0, _), (1, _), (2, _), (6, _), (7, _), (8, _), (9, _)] ⟨rfl, rfl, rfl, rfl, rfl, rfl, rfl, trivial⟩ ?_
  refine At.go ?_
  refine Sc.seq ?_
  refine Sc.seq ?_
  refine Sc.region ?_
  refine Sl.calm (Cm.move rfl) rfl ?_
  refine Sl.calm (Cm.not rfl) rfl ?_
  refine Sl.calm (Cm.move rfl) rfl ?_
  refine Sl.want rfl rfl (Cm.move rfl) rfl ?_
  refine Sl.want rfl rfl (Cm.move rfl) rfl ?_
  refine Sl.callWant rfl rfl fn18 rfl (find_ok (D := fun _ => True) o c (fewL ps) h s w4 ⟨hv4.1, fun p hp => (hv4.2 p hp).mono (fun _ _ => trivial)⟩ (hs4.mono (fun _ _ => trivial))) rfl ?_
  rintro _ w5 ⟨rfl, hf5⟩
  refine Sl.want rfl rfl (Cm.move rfl) rfl ?_
  refine Sl.want rfl rfl (Cm.move rfl) rfl ?_
  refine Sl.callWant rfl rfl fn19 rfl ((by show Calls _ _ [_, Value.slice h.a h.n h.c].toArray _ _; rw [hs4.1]; exact rfind_ok o c (fewL ps) h.a h.c s w5 (hv4.grow hf5) (hs4.2.1.grow hf5))) rfl ?_
  rintro _ w6 ⟨rfl, hf6⟩
  refine Sl.want rfl rfl (Cm.no (Cm.neq rfl rfl) (fun h => h rfl)) rfl ?_
  refine Sl.calm (Cm.pick_f rfl rfl) rfl ?_
  refine Sl.calm (Cm.move rfl) rfl ?_
  refine Sl.want rfl rfl (Cm.move rfl) rfl ?_
  refine Sl.want rfl rfl (Cm.len sl37 rfl) rfl ?_
  refine Sl.want rfl rfl (Cm.move rfl) rfl ?_
  refine Sl.want rfl rfl (Cm.len sl37 rfl) rfl ?_
  refine Sl.want rfl rfl (Cm.no (Cm.neq rfl rfl) (fun h => h rfl)) rfl ?_
  refine Sl.calm (Cm.pick_f rfl rfl) rfl ?_
  refine Sl.calm (Cm.move rfl) rfl ?_
  refine Sl.want rfl rfl (Cm.move rfl) rfl ?_
  refine Sl.want rfl rfl (Cm.move rfl) rfl ?_
  refine Sl.callWant rfl rfl fn20 rfl (links_ok o c (fewL ps) z w6 ((hv4.grow hf5).grow hf6)) rfl ?_
  rintro _ w7 ⟨rfl, hf7⟩
  refine Sl.want rfl rfl (Cm.move rfl) rfl ?_
  refine Sl.want rfl rfl (Cm.move rfl) rfl ?_
  refine Sl.callWant rfl rfl fn21 rfl (rlinks_ok o c (fewL ps) z w7 (((hv4.grow hf5).grow hf6).grow hf7)) rfl ?_
  rintro _ w8 ⟨rfl, hf8⟩
  refine Sl.want rfl rfl (Cm.no (Cm.neq rfl rfl) (fun h => h rfl)) rfl ?_
  have hF8 := (hf5.trans hf6).trans (hf7.trans hf8)
  have hoA := ho34.grow hF8
  have hoB := ho4.grow hF8
  have hz63 := hoA.vw.len63
  have hFW : Foot nob W w8 := (((hf1.trans hf2).trans hf3).trans hf4).trans hF8
  refine Sl.calm (Cm.pick_f rfl rfl) rfl ?_
  refine Sl.nil ?_
  refine At.weak [(0, _), (1, _), (2, _), (6, _), (7, _), (8, _), (9, _), (46, _)] ⟨rfl, rfl, rfl, rfl, rfl, rfl, rfl, rfl, trivial⟩ ?_
  refine At.go ?_
  refine Sc.cond_f rfl ?_
  refine Sc.skip ?_
  refine At.go ?_
  refine Sc.seq ?_
  refine Sc.seq ?_
  refine Sc.region ?_
  refine Sl.calm (Cm.assign rfl) rfl ?_
  refine Sl.nil ?_
  refine At.go ?_
  refine Sc.block ?_
  refine Sc.loop (β := Nat) (fun i => [(8, .slice o3 zs.length c3), (9, .slice o4 zs.length c4), (10, .int .i64 i)]) (fun i w => Foot nob w8 w) (fun i => zs.length - i) 0 ⟨rfl, rfl, rfl, trivial⟩ (Foot.refl _ _) ?_
  rintro i w9 hFi
  refine Sc.seq ?_
  refine Sc.seq ?_
  refine Sc.region ?_
  refine Sl.calm (Cm.move rfl) rfl ?_
  refine Sl.calm (Cm.move rfl) rfl ?_
  refine Sl.calm (Cm.len sl37 rfl) rfl ?_
  refine Sl.fork (Cm.lss rfl rfl) rfl (fun h50 => ?_) (fun h50 => ?_)
  ·
    have hil : i < zs.length := by omega
    refine Sl.nil ?_
    refine At.weak [(8, _), (9, _), (10, _), (50, _)] ⟨rfl, rfl, rfl, rfl, trivial⟩ ?_
    refine At.go ?_
    refine Sc.cond_t rfl ?_
    refine Sc.skip ?_
    refine At.go ?_
    refine Sc.seq ?_
    refine Sc.block ?_
    refine Sc.seq ?_
    refine Sc.quiet 9 [0, 1, 2, 3, 4, 5, 6, 7, 8] mixed (by kernel_rfl) ?_
    refine Sx.calm rfl rfl (Cm.move rfl) rfl ?_
    refine Sx.calm rfl rfl (Cm.move rfl) rfl ?_
    refine Sx.calm rfl rfl (Cm.indexAddr1 sl37 rfl rfl (hoA.grow hFi).vw.non (by omega)) rfl ?_
    refine Sx.calm rfl rfl (Cm.ofEq (u := .int .i64 (zs.getD i 0)) (Cm.ld sca3 rfl ((hoA.grow hFi).vw.gd 0 hil)) rfl) rfl ?_
    refine Sx.calm rfl rfl (Cm.move rfl) rfl ?_
    refine Sx.calm rfl rfl (Cm.move rfl) rfl ?_
    refine Sx.calm rfl rfl (Cm.indexAddr1 sl37 rfl rfl (hoB.grow hFi).vw.non (by omega)) rfl ?_
    refine Sx.calm rfl rfl (Cm.ofEq (u := .int .i64 (zs.getD i 0)) (Cm.ld sca3 rfl ((hoB.grow hFi).vw.gd 0 hil)) rfl) rfl ?_
    refine Sx.calm rfl rfl (Cm.no (Cm.neq rfl rfl) (fun h => h rfl)) rfl ?_
    refine Sx.nil ?_
    refine At.weak [(8, _), (9, _), (10, _), (50, _), (61, _)] ⟨rfl, rfl, rfl, rfl, rfl, trivial⟩ ?_
    refine At.go ?_
    refine Sc.cond_f rfl ?_
    refine Sc.skip ?_
    refine At.block_normal ?_
    refine At.go ?_
    refine Sc.region ?_
    refine Sl.calm (Cm.move rfl) rfl ?_
    refine Sl.calm (Cm.add64 rfl rfl (by omega)) rfl ?_
    refine Sl.calm (Cm.assign rfl) rfl ?_
    refine Sl.nil ?_
    exact At.again (i + 1) ⟨rfl, rfl, rfl, trivial⟩ (hFi.draws 1) (by show zs.length - (i + 1) < zs.length - i; omega)
  ·
    refine Sl.nil ?_
    refine At.weak [(8, _), (9, _), (10, _), (50, _)] ⟨rfl, rfl, rfl, rfl, trivial⟩ ?_
    refine At.go ?_
    refine Sc.cond_f rfl ?_
    refine Sc.exit ?_
    refine At.then_exit ?_
    refine At.then_exit ?_
    refine At.block_hit ?_
    refine At.go ?_
    refine Sc.seq ?_
    refine Sc.region ?_
    refine Sl.calm (Cm.assign rfl) rfl ?_
    refine Sl.nil ?_
    refine At.go ?_
    refine Sc.ret ?_
    refine At.ret1 rfl rfl ?_
    exact ⟨_, rfl, rfl, hFW.trans hFi⟩
end Go.Proofs.Ytpnfjfbfgaiolaa
