/- lamella: what the law needs. No condition beyond the bounds that each states. -/
import Derived.Shelf.SlIterI.Sorted
import Derived.Shelf.SortM.Plain
import Derived.Shelf.SortM.SortNone
import Derived.Shelf.SlSortCmp.InsertionK
import Derived.Shelf.SlSortCmp.WholeK
import Derived.Test.YthmmmagklhiiiaaGreatDoorBuildOnceQ2
namespace Go.Proofs.YthmmmagklhiiiaaGreatDoor
open Go Go.RowKit
set_option linter.unusedVariables false
set_option linter.unusedSectionVars false
set_option maxHeartbeats 64000000
open List (append_inj sum_cons)
open List renaming length_append → R6, getElem?_eq_getElem → R7, getElem?_eq_some_iff → R9, mem_of_getElem? → Sd, length_eq_zero_iff → Sg, length_take → Sh, getD → Sj, length_pos_iff → Sk, length_drop → Sm, take_of_length_le → So, length_cons → Sq, getElem?_of_mem → Sr, mem_cons → St, take_succ_eq_append_getElem → Sv, length_singleton → Sw, replicate → Sy, eq_nil_of_length_eq_zero → SB, length_map → SC, not_mem_nil → SD, mem_singleton → SE, take_append_drop → SG, append_assoc → SI, length → SJ, length_nil → SL, mem_map → SN, mem_append → SO, length_replicate → SP, getElem?_set_self → SQ, pairwise_iff_getElem → SR, getElem?_map → SU, map_cons → SV, getElem?_eq_none → SY, getElem?_take → SZ, take_length → S1, length_set → S7, getElem_of_mem → S8, getElem?_set_ne → S9, foldl_append → Tb, flatMap_cons → Tc, filter_append → Tf, mem_cons_of_mem → Tg, cons_append → Th, findIdx?_eq_some_iff_getElem → Ti, ext_getElem? → Tj, foldl_cons → Tm, drop_eq_getElem_cons → Tn, getElem_mem → Tv, range → Tw, append_nil → TA, getElem?_set → TD, take_take → TF, filter_cons_of_pos → TG, length_dropLast → TN, map_map → TQ, mem_of_find?_eq_some → TR, flatMap_append → TS, range_succ → TV, getElem?_drop → TX, cons → T1, drop_drop → T5, length_filter_le → T8, mem_flatMap → Ua, take_left' → Ub, drop_left' → Ud, take_drop → Um, pairwise_cons → Un, mem_range → Uo, idxOf_lt_length_iff → Ux, eq_of_mem_replicate → Uy
open _root_.Nat renaming le_refl → Sa, zero_le → Sf, le_trans → SM, lt_of_lt_of_le → Te, blt_eq → Tp, add_zero → T2, le_add_right → T9, add_sub_cancel → Ul, add_sub_cancel_left → UB
open _root_.Array renaming getElem?_eq_some_iff → Sb, getElem?_eq_getElem → Tz, getElem?_modify → TM
open Classical renaming byContradiction → Se, not_not → S5
open _root_.Option renaming map_eq_some_iff → Sn
open UInt8 renaming ofNat → Ss, toNat_ofNat' → S6, toNat_inj → TK
open Go.Op renaming bytesLess → Su
open _root_.Int renaming toNat_natCast → SX, eq_ofNat_of_zero_le → Tq, natCast_nonneg → TY, le_refl → Uu
open Prod renaming ext → Uh
section
open Go Go.RowKit Go.Maps
def nmG(ps:List (NdH×Nd))(k:Nat):List By:=(ps.getD k (yC,nd0)).2.names
theorem oR{ps:List (NdH×Nd)}{k:Nat}{p:NdH×Nd}(h:ps[k]?=some p):nmG ps k=p.2.names:=by unfold nmG;rw[Sj,h];rfl
def iE(l s:List By):Prop:=l.length=s.length+1∧l.take s.length=s
instance (l s:List By):Decidable (iE l s):=by unfold iE;exact inferInstance
theorem sY{l s:List By}:iE l s↔l.length=s.length+1∧kK l s:=by
 unfold iE kK;constructor
 ·rintro⟨h1,h2⟩;exact⟨h1,by omega,h2⟩
 ·rintro⟨h1,_,h2⟩;exact⟨h1,h2⟩
def aZ(ps:List (NdH×Nd))(s:List By):Nat→List Int
|0=>[]
|i+1=>if iE (nmG ps i) s then aZ ps s i++[(i:Int)] else aZ ps s i
section
variable {ps:List (NdH×Nd)}{s:List (List UInt8)}
theorem nI{i:Nat}(h:iE (nmG ps i) s):aZ ps s (i+1)=aZ ps s i++[(i:Int)]:=by rw[aZ,R4 h]
theorem nJ{i:Nat}(h:¬ iE (nmG ps i) s):aZ ps s (i+1)=aZ ps s i:=by rw[aZ,R3 h]
theorem eJ{z:Int}:∀ {i:Nat},z∈aZ ps s i↔∃ k:Nat,z=k∧k<i∧iE (nmG ps k) s
|0=>⟨fun h=>(by simp[aZ] at h),fun⟨k,_,h,_⟩=>(by omega)⟩
|i+1=>by
   by_cases h:iE (nmG ps i) s
   · rw[nI h,SO,SE,eJ (i:=i)]
     constructor
     · rintro(⟨k,h1,h2,h3⟩|h1)
       ·exact⟨k,h1,by omega,h3⟩
       ·exact⟨i,h1,by omega,h⟩
     · rintro⟨k,h1,h2,h3⟩
       by_cases e:k=i
       ·exact .inr (by rw[h1,e])
       ·exact .inl ⟨k,h1,by omega,h3⟩
   · rw[nJ h,eJ (i:=i)]
     constructor
     ·rintro⟨k,h1,h2,h3⟩;exact⟨k,h1,by omega,h3⟩
     · rintro⟨k,h1,h2,h3⟩
       by_cases e:k=i
       ·exact absurd (e ▸ h3) h
       ·exact⟨k,h1,by omega,h3⟩
theorem kE:∀ i:Nat,(aZ ps s i).Pairwise (· < ·)
|0=>List.Pairwise.nil
|i+1=>by
   by_cases h:iE (nmG ps i) s
   · rw[nI h,List.pairwise_append]
     refine⟨kE i,by simp,fun a ha b hb=>?_⟩;obtain⟨k,e,hk,_⟩:=eJ.1 ha;rw[SE] at hb;subst hb;omega
   ·rw[nJ h];exact kE i
theorem nK:∀ i:Nat,(aZ ps s i).length≤i
|0=>Sa _
|i+1=>by
   have:=nK i;by_cases h:iE (nmG ps i) s
   ·rw[nI h,R6,Sw];omega
   ·rw[nJ h];omega
end
theorem vX{xs:List Int}{k:Nat}(h:k<xs.length):xs.getD k 0=xs[k]:=by simp[Sj,h]
theorem Ks{xs:List Int}(h:xs.Pairwise (· < ·)):Inc xs 0 xs.length:=fun i j _ hij hj=>by
 rw[vX (by omega),vX hj];exact SR.1 h i j (by omega) hj hij
section
variable {K:Int→List (List UInt8)}
theorem Fu{xs:List Int}(h:Srt K xs 0 xs.length):xs.Pairwise (ltS K):=SR.2 fun i j hi hj hij=>by
 have:=h i j (Sf _) hij hj;rwa[vX hi,vX hj] at this
theorem IC{x:Int}(h:ltS K x x):False:=by
 rcases h with h|⟨_,h⟩
 ·rw[lC] at h;omega
 ·omega
theorem ID{x y:Int}(h:ltS K x y)(g:ltS K y x):False:=IC (kU h g)
theorem C2:∀ {xs ys:List Int},xs.Perm ys→xs.Pairwise (ltS K)→ys.Pairwise (ltS K)→xs=ys
|[],ys,hp,_,_=>by rw[List.nil_perm] at hp;exact hp.symm
|x::xs,[],hp,_,_=>by have:=hp.length_eq;simp at this
|x::xs,y::ys,hp,hx,hy=>by
   have h1:=Un.1 hx;have h2:=Un.1 hy;have e:x=y:=by
    apply Se;intro hne;have hxm:x∈ys:=by
     have:=hp.mem_iff.1 (show x∈x::xs by simp);rcases St.1 this with e|h
     ·exact absurd e hne
     ·exact h
    have hym:y∈xs:=by
     have:=hp.mem_iff.2 (show y∈y::ys by simp);rcases St.1 this with e|h
     ·exact absurd e.symm hne
     ·exact h
    exact ID (h1.1 y hym) (h2.1 x hxm)
   subst e;rw[C2 (List.Perm.cons_inv hp) h1.2 h2.2]
theorem Gq{xs ys:List Int}(hp:xs.Perm ys)(hx:Srt K xs 0 xs.length)(hy:Srt K ys 0 ys.length):xs=ys:=C2 hp (Fu hx) (Fu hy)
end
theorem uW{a b:Nat}(ha:a≤9223372036854775807)(hb:b≤9223372036854775807):((a:Int)=IntKind.i64.wrap ((b:Int)+1))↔a=b+1:=by
 by_cases h:b=9223372036854775807
 · subst h
   have e:IntKind.i64.wrap (((9223372036854775807:Nat):Int)+1) = -9223372036854775808:=by unfold IntKind.wrap;simp[IntKind.bits,IntKind.signed]
   rw[e];omega
 ·rw[cI (by omega)];omega
def xG(ps:List (NdH×Nd))(s:List By)(ys:List Int):Prop:=ys.Perm (aZ ps s ps.length)∧Srt (fun z=>nmG ps z.toNat) ys 0 ys.length
theorem xG.uniq{ps:List (NdH×Nd)}{s:List By}{xs ys:List Int}(h:xG ps s xs)(g:xG ps s ys):xs=ys:=Gq (h.1.trans g.1.symm) h.2 g.2
def bC(l:List By):By:=l.getD (l.length-1) []
theorem IN{a b s:List By}(ha:iE a s)(hb:iE b s):bT a b=qK (bC a) (bC b):=by
 have e:∀ {l:List By},iE l s→l=s++[bC l]:=fun {l} h=>by
  have h1:l[s.length]?=some (bC l):=by
   unfold bC;rw[h.1,Sj,Ul,R7 (by have:=h.1;omega)];rfl
  have h2:=tkL h1;rw[h.2,So (by have:=h.1;omega)] at h2;exact h2
 conv=>lhs;rw[e ha,e hb]
 rw[tW];show (if bC a=bC b then bT [] [] else if Su (bC a) (bC b)=true then -1 else 1)=_;unfold qK;by_cases h1:Su (bC a) (bC b)=true
 ·rw[R4 h1,R3 (fun h=>by rw[h,jF] at h1;cases h1),R4 h1]
 · rw[R3 h1]
   by_cases h2:bC a=bC b
   ·rw[R4 h2,R4 h2,R3 h1];rfl
   ·rw[R3 h2,R3 h2,R3 h1]
theorem Jk{a b:By}:qK a b<0↔Su a b=true:=by
 unfold qK;by_cases h1:Su a b=true
 ·rw[R4 h1];simp[h1]
 · rw[R3 h1]
   by_cases h2:a=b
   ·rw[R4 h2];simp[h1]
   ·rw[R3 h2];simp[h1]
variable {D:Nat→Prop}
theorem IQ(lo:Option Addr)(lc:Nat)(ps:List (NdH×Nd))(g:Nat)(x y:Int)(W:World){T:TypeId}{fr:Nat×Nat}(hv:bD D W.heap lo lc ps)(hg:W.heap[g]?=some (.cells [Value.slice lo ps.length lc].toArray T fr))(hx:0≤x∧x<ps.length)(hy:0≤y∧y<ps.length) :
 CA 171 [iV x,iV y,pT g] W fun v w'=>v=iV (bT (nmG ps x.toNat) (nmG ps y.toNat))∧aA nob W w':=by
 have h63:=hv.1.RX;obtain⟨p,hp⟩:∃ p,ps[x.toNat]?=some p:=⟨_,R7 (by omega)⟩
 obtain⟨q,hq⟩:∃ q,ps[y.toNat]?=some q:=⟨_,R7 (by omega)⟩
 rw[oR hp,oR hq];have hpn:=(hv.2 p (Sd hp)).1;have hqn:=(hv.2 q (Sd hq)).1;have hgv:VwM 10 aH W.heap lo lc ps:=hv.1;refine cS 17 [(0,_),(1,_),(2,_)] Tryz.func171 ?_;refine Gz 6 ?_;refine OI 12 (fun H=>H[g]?=some (.cells [Value.slice lo ps.length lc].toArray T fr)∧VwM 10 aH H lo lc ps) [10] [0,1,2,3,4,5,6,7,8,9,10,11] aM (by kernel_rfl) (⟨hg,hgv⟩) ?_;refine xC rfl (OB vH rfl (fun H hH=>aY hH.1 rfl)) ?_;refine Gz 1 ?_;refine xC rfl (OA gL rfl rfl hv.1.non (by omega)) ?_;refine Gz 1 ?_;refine xC rfl (OB lK rfl (fun H hH=>hH.2.rowZ x.toNat (by omega) hp 0 _ rfl)) ?_;refine xC rfl (OB vH rfl (fun H hH=>aY hH.1 rfl)) ?_;refine Gz 1 ?_;refine xC rfl (OA gL rfl rfl hv.1.non (by omega)) ?_;refine Gz 1 ?_;refine xC rfl (OB lK rfl (fun H hH=>hH.2.rowZ y.toNat (by omega) hq 0 _ rfl)) ?_;refine OE rfl rfl (Ot Lq rfl ((by show Calls _ _ [Value.slice p.1.names.a p.1.names.n p.1.names.c,Value.slice q.1.names.a q.1.names.n q.1.names.c].toArray _ _;rw[hpn.1,hqn.1];exact tU _ _ _ _ p.2.names q.2.names _ hpn.2.1 hqn.2.1)) rfl ?_);rintro _ w3 ⟨rfl,hw3⟩;subst hw3;refine OK (by exact⟨hg,hgv⟩) ?_;refine Gz 5 ?_;exact⟨_,rfl,rfl,(Rk _ _).draws 1⟩
theorem IM(lo:Option Addr)(lc:Nat)(ps:List (NdH×Nd))(so:Option Addr)(sc:Nat)(s:List By)(W:World)(hv:bD D W.heap lo lc ps)(hs:Vw iK W.heap so sc s)(hn:ps.length≤100000) :
 CA 120 [.slice lo ps.length lc,.slice so s.length sc] W fun v w'=>∃ o c ys,v=.slice o (SJ (α:=Int) ys) c∧Own i64 3 w'.heap o c ys∧Fr W.heap.size o∧xG ps s ys∧aA nob W w':=by
 have h63:=hv.1.RX;have hs63:s.length≤9223372036854775807:=by have:=hs.RX;omega
 refine cS 37 [(0,_),(1,_)] Tryz.func120 ?_;refine Gz 2 ?_;refine OR rfl rfl ?_;intro w1 hg1 hs1 hf1;obtain⟨g,hg⟩:∃ g,g=W.heap.size:=⟨_,rfl⟩
 rw[←hg] at hg1 hs1 ⊢
 replace hg1:w1.heap[g]?=some (.cells [Value.slice lo ps.length lc].toArray 22 (0,0)):=hg1
 refine Gz 11 ?_;refine cL (Ox (u:=.slice lo ps.length lc) (Ow vH rfl (aY hg1 rfl)) rfl) ?_;refine Gz 5 ?_;refine Oy (β:=Nat×Option Addr×Nat) (fun⟨i,o,c⟩=>[(0,.slice lo ps.length lc),(1,.slice so s.length sc),(2,pT g),(5,.slice o (aZ ps s i).length c),(8,.slice lo ps.length lc),(9,iV ps.length),(10,iV i)]) (fun⟨i,o,c⟩ w=>i≤ps.length∧Own i64 3 w.heap o c (aZ ps s i)∧Fr w1.heap.size o∧aA nob w1 w) (fun⟨i,o,c⟩=>ps.length-i) ⟨0,none,0⟩ ⟨rfl,rfl,rfl,rfl,rfl,rfl,rfl,trivial⟩ ⟨Sf _,Rr,Rp,Rk _ _⟩ ?_;rintro⟨i,o,c⟩ w2 ⟨hi,ho2,hfo,hF2⟩;refine fK 2 ?_ ?_<;>intro h11
 ·have hil:i<ps.length:=by omega
  obtain⟨p,hp⟩:∃ p,ps[i]?=some p:=⟨_,R7 hil⟩
  have hv2:=(hv.RY hf1).RY hF2;have hll:=nK (ps:=ps) (s:=s) i;have hnm:=oR hp;have hpl:p.2.names.length≤9223372036854775807:=by have:=((hv2.2 p (Sd hp)).1).2.1.RX;omega
  refine Gz 11 ?_;refine cL (OA gL rfl rfl hv2.1.non (by omega)) ?_;refine cL (OG (cs:=aH p) aX rfl (fun j v hj=>hv2.1.rowZ i rfl hp j v hj)) ?_;refine Ov fS rfl ?_;intro w3 hg3 hs3 hf3;obtain⟨r,hr⟩:∃ r,r=w2.heap.size:=⟨_,rfl⟩
  rw[←hr] at hg3 ⊢;refine Gz 1 ?_;refine OD (vs:=aH p) aX rfl rfl (aB p).2 hg3 rfl ?_;intro w4 hg4 hs4 hf4;have hf24:aA nob w2 w4:=hf3.RV hf4 (fun k e=>.inr (by have e:k=r:=e;omega));have hF4:aA nob w1 w4:=hF2.trans hf24;have hv4:=(hv.RY hf1).RY hF4;have hs4:=(hs.RY hf1).RY hF4;have hn4:=(hv4.2 p (Sd hp)).1;have ho4:=ho2.RY hf24;refine Gz 1 ?_;refine aW [(0,_),(1,_),(2,_),(5,_),(6,_),(7,_),(8,_),(9,_),(10,_),(11,_)] ?_;refine Gz 5 ?_;refine cL (Ox (u:=iV p.2.names.length) (Qe lU rfl) (by rw[←hn4.1])) ?_;refine Gz 2 ?_;refine cL (Qm rfl rfl) ?_;refine fK 0 ?_ ?_<;>intro h21
  ·
   replace h21:=(uW hpl hs63).1 h21
   refine Gz 4 ?_;refine OC rfl rfl LY rfl ((by show Calls _ _ [Value.slice p.1.names.a p.1.names.n p.1.names.c,_].toArray _ _;rw[hn4.1];exact HA p.1.names.a so p.1.names.c sc p.2.names s w4 hn4.2.1 hs4)) rfl ?_;rintro _ w5 ⟨rfl,hf5⟩;by_cases h26:kK p.2.names s
   ·rw[R8 h26];have hkd:iE (nmG ps i) s:=by rw[hnm];exact sY.2 ⟨by omega,h26⟩
    refine Gz 7 ?_;refine Pd (enc:=i64) (u:=(i:Int)) bP (dS _) rfl rfl ?_;intro w6 ho6 hs6 hf6;refine OJ dS bP rfl rfl ((ho4.RY hf5).RY hf6) ho6.vw (by simp only[Sw];omega) (by simp only[Sw];unfold maxLen;omega) rfl ?_;intro o7 c7 w7 ho7 hf7 hr7 hn7;refine Gz 8 ?_;have hF7:aA nob w1 w7:=(hF4.trans (hf5.trans hf6)).RV hf7 hfo.step;rw[←nI hkd] at ho7 ⊢;exact aG ⟨i+1,o7,c7⟩ ⟨by omega,ho7,tF hfo hr7 (by have:=hF2.size;have:=hf24.size;have:=hf5.size;have:=hf6.size;omega),hF7⟩ (by show ps.length-(i+1)<ps.length-i;omega)
   rw[R5 h26];have hkd:¬ iE (nmG ps i) s:=by rw[hnm];exact fun h=>h26 (sY.1 h).2
   refine Gz 11 ?_;have key:∀ w5:World,aA nob w4 w5→¬ iE (nmG ps i) s→(Own i64 3 w5.heap o c (aZ ps s (i+1))∧Value.slice o (aZ ps s i).length c=.slice o (aZ ps s (i+1)).length c):=fun w5 hf hk=>by rw[nJ hk];exact⟨ho4.RY hf,rfl⟩
   first
   |exact ON ⟨i+1,o,c⟩ ⟨rfl,rfl,rfl,congrArg some (key w5 hf5 hkd).2,rfl,rfl,rfl,trivial⟩ ⟨by omega,(key w5 hf5 hkd).1,hfo,hF4.trans hf5⟩ (by show ps.length-(i+1)<ps.length-i;omega)
   |exact ON ⟨i+1,o,c⟩ ⟨rfl,rfl,rfl,congrArg some (key w4 (Rk _ _) (by rw[hnm];exact fun h=>h21 (by have:=h.1;omega))).2,rfl,rfl,rfl,trivial⟩ ⟨by omega,(key w4 (Rk _ _) (by rw[hnm];exact fun h=>h21 (by have:=h.1;omega))).1,hfo,hF4⟩ (by show ps.length-(i+1)<ps.length-i;omega)
  replace h21:=fun h=>h21 ((uW hpl hs63).2 h)
  refine Gz 16 ?_;have key:∀ w5:World,aA nob w4 w5→¬ iE (nmG ps i) s→(Own i64 3 w5.heap o c (aZ ps s (i+1))∧Value.slice o (aZ ps s i).length c=.slice o (aZ ps s (i+1)).length c):=fun w5 hf hk=>by rw[nJ hk];exact⟨ho4.RY hf,rfl⟩
  first
  |exact ON ⟨i+1,o,c⟩ ⟨rfl,rfl,rfl,congrArg some (key w5 hf5 hkd).2,rfl,rfl,rfl,trivial⟩ ⟨by omega,(key w5 hf5 hkd).1,hfo,hF4.trans hf5⟩ (by show ps.length-(i+1)<ps.length-i;omega)
  |exact ON ⟨i+1,o,c⟩ ⟨rfl,rfl,rfl,congrArg some (key w4 (Rk _ _) (by rw[hnm];exact fun h=>h21 (by have:=h.1;omega))).2,rfl,rfl,rfl,trivial⟩ ⟨by omega,(key w4 (Rk _ _) (by rw[hnm];exact fun h=>h21 (by have:=h.1;omega))).1,hfo,hF4⟩ (by show ps.length-(i+1)<ps.length-i;omega)
 have hie:i=ps.length:=by omega
 subst hie;have hapw:∀ w,aA (blk o) w2 w→aA nob w1 w:=fun w hf=>hF2.RV hf hfo.step;have hvk:∀ w,aA (blk o) w2 w→bD D w.heap lo lc ps:=fun w hf=>(hv.RY hf1).RY (hapw w hf);have hgk:∀ w,aA (blk o) w2 w→w.heap[g]?=some (.cells [Value.slice lo ps.length lc].toArray 22 (0,0)):=fun w hf=>(hapw w hf).obj hg1 id;refine Gz 12 ?_;refine cL (Po (vs:=[pT g]) rfl) ?_;refine Ot LX rfl (uK (V:=fun z:Int=>0≤z∧z<ps.length) (K:=fun z:Int=>nmG ps z.toNat) w2 o ⟨LW,fun w x y hf hx hy=>IQ lo lc ps g x y w (hvk w hf) (hgk w hf) hx hy⟩ c (aZ ps s ps.length).length (by have:=nK (ps:=ps) (s:=s) ps.length;omega) (aZ ps s ps.length) w2 ⟨ho2,rfl,Rk _ _⟩ (fun z hz=>by obtain⟨k,e,hk,_⟩:=eJ.1 hz;omega) (Ks (kE _))) rfl ?_;rintro _ w8 ⟨rfl,ys,hy,hyp,hys⟩;have hF8:aA nob w1 w8:=hF2.RV hy.2.2 hfo.step;refine Gz 1 ?_;refine aW [(0,_),(1,_),(2,_),(5,_),(8,_),(9,_),(10,_),(11,_)] ?_;refine Gz 9 ?_;exact⟨_,rfl,o,c,ys,by rw[hy.2.1],hy.1,hfo.mono (by omega),⟨hyp,by rw[hy.2.1];exact hys⟩,hf1.trans hF8⟩
end
section
open Go Go.RowKit Go.Maps
theorem J1{K:Int→List By}{xs:List Int}(h:xs.Pairwise (ltS K)):Srt K xs 0 xs.length:=fun i j _ hij hj=>by
 rw[vX (by omega),vX hj];exact SR.1 h i j (by omega) hj hij
variable {D:Nat→Prop}
end
section
open Go Go.Proofs Go.Shelf
def RL:Go.Shelf.Ren:=⟨fun|7=>64|10=>117|n=>n,fun|23=>126|26=>3|3=>4|28=>129|0=>0|27=>128|33=>142|4=>4|n=>n,fun|n=>n⟩
theorem RM:Go.Proofs.SlLaysZI.n7 Tryz.prog RL where
 mixed:=by kernel_rfl
 f7 := ⟨ "maps.Keys[map[int]bool,int,bool]", by decide, Tryz.func64.trans (congrArg some (by kernel_rfl))⟩
 f10 := ⟨ "maps.Keys[map[int]bool,int,bool]$1", by decide, Tryz.func117.trans (congrArg some (by kernel_rfl))⟩
 t0:=Tryz.underlying0
 a0:=Tryz.isAgg0
 z0:=Tryz.sizeOf0
 v0:=Tryz.zeroValue0
 t4:=Tryz.underlying4
 a4:=Tryz.isAgg4
 z4:=Tryz.sizeOf4
 v4:=Tryz.zeroValue4
 t23:=Tryz.underlying126
 a23:=Tryz.isAgg126
 z23:=Tryz.sizeOf126
 v23:=Tryz.zeroValue126
 t26:=Tryz.underlying3
 a26:=Tryz.isAgg3
 z26:=Tryz.sizeOf3
 v26:=Tryz.zeroValue3
 t27:=Tryz.underlying128
 a27:=Tryz.isAgg128
 z27:=Tryz.sizeOf128
 v27:=Tryz.zeroValue128
 t28:=Tryz.underlying129
 a28:=Tryz.isAgg129
 z28:=Tryz.sizeOf129
 v28:=Tryz.zeroValue129
 t33:=Tryz.underlying142
 a33:=Tryz.isAgg142
 z33:=Tryz.sizeOf142
 v33:=Tryz.zeroValue142
def RN:Go.Shelf.Ren:=⟨fun|6=>63|8=>115|9=>116|11=>165|13=>113|12=>166|23=>162|24=>163|14=>202|15=>203|16=>204|17=>205|18=>206|19=>207|20=>122|21=>208|22=>209|25=>222|26=>198|27=>199|28=>223|29=>224|30=>173|31=>234|n=>n,fun|26=>3|28=>129|24=>31|0=>0|3=>3|37=>97|48=>39|50=>227|4=>4|40=>220|39=>219|45=>118|5=>5|9=>9|51=>252|55=>72|57=>273|58=>91|33=>142|n=>n,fun|n=>n⟩
theorem RO:Go.Proofs.SlLaysZI.n6 Tryz.prog RN where
 mixed:=by kernel_rfl
 f6 := ⟨ "slices.Sorted[int]", by decide, Tryz.func63.trans (congrArg some (by kernel_rfl))⟩
 f8 := ⟨ "slices.Collect[int]", by decide, Tryz.func115.trans (congrArg some (by kernel_rfl))⟩
 f11 := ⟨ "slices.AppendSeq[[]int,int]", by decide, Tryz.func165.trans (congrArg some (by kernel_rfl))⟩
 t0:=Tryz.underlying0
 a0:=Tryz.isAgg0
 z0:=Tryz.sizeOf0
 v0:=Tryz.zeroValue0
 t24:=Tryz.underlying31
 a24:=Tryz.isAgg31
 z24:=Tryz.sizeOf31
 v24:=Tryz.zeroValue31
 t26:=Tryz.underlying3
 a26:=Tryz.isAgg3
 z26:=Tryz.sizeOf3
 v26:=Tryz.zeroValue3
 t28:=Tryz.underlying129
 a28:=Tryz.isAgg129
 z28:=Tryz.sizeOf129
 v28:=Tryz.zeroValue129
 i26:=by kernel_rfl
def RP:Go.Shelf.Ren:=⟨fun|5=>116|8=>113|7=>166|19=>162|20=>163|10=>202|11=>203|12=>204|13=>205|14=>206|15=>207|16=>122|17=>208|18=>209|30=>222|31=>198|32=>199|33=>223|34=>224|35=>173|40=>234|n=>n,fun|23=>31|25=>3|3=>3|32=>97|22=>31|0=>0|44=>39|46=>227|4=>4|36=>220|35=>219|41=>118|5=>5|9=>9|53=>252|57=>72|63=>273|64=>91|n=>n,fun|n=>n⟩
theorem RQ:Go.Proofs.SlLaysM.n5 Tryz.prog RP where
 mixed:=by kernel_rfl
 f5 := ⟨ "slices.Sort[[]int,int]", by decide, Tryz.func116.trans (congrArg some (by kernel_rfl))⟩
 f7 := ⟨ "slices.pdqsortOrdered[int]", by decide, Tryz.func166.trans (congrArg some (by kernel_rfl))⟩
 f8:=Tryz.func113.trans (congrArg some (by kernel_rfl))
 f10 := ⟨ "slices.insertionSortOrdered[int]", by decide, Tryz.func202.trans (congrArg some (by kernel_rfl))⟩
 f11 := ⟨ "slices.heapSortOrdered[int]", by decide, Tryz.func203.trans (congrArg some (by kernel_rfl))⟩
 f12 := ⟨ "slices.breakPatternsOrdered[int]", by decide, Tryz.func204.trans (congrArg some (by kernel_rfl))⟩
 f13 := ⟨ "slices.choosePivotOrdered[int]", by decide, Tryz.func205.trans (congrArg some (by kernel_rfl))⟩
 f14 := ⟨ "slices.reverseRangeOrdered[int]", by decide, Tryz.func206.trans (congrArg some (by kernel_rfl))⟩
 f15 := ⟨ "slices.partialInsertionSortOrdered[int]", by decide, Tryz.func207.trans (congrArg some (by kernel_rfl))⟩
 f16 := ⟨ "cmp.Less[int]", by decide, Tryz.func122.trans (congrArg some (by kernel_rfl))⟩
 f17 := ⟨ "slices.partitionEqualOrdered[int]", by decide, Tryz.func208.trans (congrArg some (by kernel_rfl))⟩
 f18 := ⟨ "slices.partitionOrdered[int]", by decide, Tryz.func209.trans (congrArg some (by kernel_rfl))⟩
 f19:=Tryz.func162.trans (congrArg some (by kernel_rfl))
 f20:=Tryz.func163.trans (congrArg some (by kernel_rfl))
 f30 := ⟨ "slices.siftDownOrdered[int]", by decide, Tryz.func222.trans (congrArg some (by kernel_rfl))⟩
 f31:=Tryz.func198.trans (congrArg some (by kernel_rfl))
 f32:=Tryz.func199.trans (congrArg some (by kernel_rfl))
 f33 := ⟨ "slices.medianAdjacentOrdered[int]", by decide, Tryz.func223.trans (congrArg some (by kernel_rfl))⟩
 f34 := ⟨ "slices.medianOrdered[int]", by decide, Tryz.func224.trans (congrArg some (by kernel_rfl))⟩
 f35 := ⟨ "cmp.isNaN[int]", by decide, Tryz.func173.trans (congrArg some (by kernel_rfl))⟩
 f40 := ⟨ "slices.order2Ordered[int]", by decide, Tryz.func234.trans (congrArg some (by kernel_rfl))⟩
 t0:=Tryz.underlying0
 a0:=Tryz.isAgg0
 z0:=Tryz.sizeOf0
 v0:=Tryz.zeroValue0
 t3:=Tryz.underlying3
 a3:=Tryz.isAgg3
 z3:=Tryz.sizeOf3
 v3:=Tryz.zeroValue3
 t4:=Tryz.underlying4
 a4:=Tryz.isAgg4
 z4:=Tryz.sizeOf4
 v4:=Tryz.zeroValue4
 t5:=Tryz.underlying5
 a5:=Tryz.isAgg5
 z5:=Tryz.sizeOf5
 v5:=Tryz.zeroValue5
 t9:=Tryz.underlying9
 a9:=Tryz.isAgg9
 z9:=Tryz.sizeOf9
 v9:=Tryz.zeroValue9
 t22:=Tryz.underlying31
 a22:=Tryz.isAgg31
 z22:=Tryz.sizeOf31
 v22:=Tryz.zeroValue31
 t23:=Tryz.underlying31
 a23:=Tryz.isAgg31
 z23:=Tryz.sizeOf31
 v23:=Tryz.zeroValue31
 t25:=Tryz.underlying3
 a25:=Tryz.isAgg3
 z25:=Tryz.sizeOf3
 v25:=Tryz.zeroValue3
 t32:=Tryz.underlying97
 a32:=Tryz.isAgg97
 z32:=Tryz.sizeOf97
 v32:=Tryz.zeroValue97
 t35:=Tryz.underlying219
 a35:=Tryz.isAgg219
 z35:=Tryz.sizeOf219
 v35:=Tryz.zeroValue219
 t36:=Tryz.underlying220
 a36:=Tryz.isAgg220
 z36:=Tryz.sizeOf220
 v36:=Tryz.zeroValue220
 t41:=Tryz.underlying118
 a41:=Tryz.isAgg118
 z41:=Tryz.sizeOf118
 v41:=Tryz.zeroValue118
 t44:=Tryz.underlying39
 a44:=Tryz.isAgg39
 z44:=Tryz.sizeOf39
 v44:=Tryz.zeroValue39
 t46:=Tryz.underlying227
 a46:=Tryz.isAgg227
 z46:=Tryz.sizeOf227
 v46:=Tryz.zeroValue227
 t53:=Tryz.underlying252
 a53:=Tryz.isAgg252
 z53:=Tryz.sizeOf252
 v53:=Tryz.zeroValue252
 t57:=Tryz.underlying72
 a57:=Tryz.isAgg72
 z57:=Tryz.sizeOf72
 v57:=Tryz.zeroValue72
 t63:=Tryz.underlying273
 a63:=Tryz.isAgg273
 z63:=Tryz.sizeOf273
 v63:=Tryz.zeroValue273
 t64:=Tryz.underlying91
 a64:=Tryz.isAgg91
 z64:=Tryz.sizeOf91
 v64:=Tryz.zeroValue91
end
section
open Go Go.RowKit Go.Maps Go.Sort
theorem mpB:pH Tryz.prog 126 3 4 (.bool false):=⟨by kernel_rfl,z4⟩
theorem Dk(a:I6):keyOf Tryz.prog 3 (enI a)=some (.int .i64 a.1):=by
 have h:(Lit.int .i64 a.1).wf=true:=by have:=a.2;simpa[Lit.wf,IntKind.min,IntKind.max,IntKind.signed,IntKind.bits] using this
 unfold keyOf;rw[show Tryz.prog.underlying 3=some (.int .i64) by kernel_rfl];simp[mapKey,show Tryz.prog.underlying 3=some (.int .i64) by kernel_rfl,enI,h]
theorem Ik{g:Nat}{m:List (I6×Value)}{W:World}(hm:cC enI W.heap g m)(hb:∀ p∈m,p.2=.bool true)(hl:m.length≤maxLen) :
 ∃ D0:DataW Unit,W.ownsMap Tryz.prog 3 (plainElem Tryz.prog 4) g m.length D0∧Maps.size D0=m.length∧(intKeys D0).Perm (m.map (·.1.1)):=by
 have hrd:∀ x∈aV enI m,∃ p∈m,x.key=enI p.1∧WideElems.rd (H:=Unit) Tryz.prog 3 (plainElem Tryz.prog 4) x=some (.int .i64 p.1.1,.lit (.bool true)):=fun x hx=>by
  obtain⟨p,hp,h1,h2⟩:=A2 hx;refine⟨p,hp,h1,?_⟩;unfold WideElems.rd;rw[h1,Dk,h2,hb p hp,plainElem_bool (show Tryz.prog.underlying 4=some .bool by kernel_rfl)];rfl
 have hborn:(aV enI m).map (·.born)=Tw m.length:=by
  apply Tj;intro i;by_cases hi:i<m.length
  ·simp[aV,hi]
  ·simp[aV,hi]
 have hkey:(aV enI m).map (·.key)=(m.map (·.1)).map enI:=by
  apply Tj;intro i;by_cases hi:i<m.length
  ·simp[aV,hi]
  ·simp[aV,hi]
 have hrg:(aV enI m).map (WideElems.rg (H:=Unit) Tryz.prog 3 (plainElem Tryz.prog 4))=m.map (fun p=>(Lit.int .i64 p.1.1,DataW.lit (.bool true))):=by
  apply Tj;intro i;by_cases hi:i<m.length
  · have hx:(aV enI m)[i]?=some ⟨enI m[i].1,m[i].2,i⟩:=by simp[aV,hi]
    have:WideElems.rd (H:=Unit) Tryz.prog 3 (plainElem Tryz.prog 4) ⟨enI m[i].1,m[i].2,i⟩=some (.int .i64 m[i].1.1,.lit (.bool true)):=by
     unfold WideElems.rd;rw[Dk,hb m[i] (Tv hi),plainElem_bool (show Tryz.prog.underlying 4=some .bool by kernel_rfl)];rfl
    rw[SU,hx,SU,R7 hi];simp[WideElems.rg,this]
  ·rw[SY (by simp[aV];omega),SY (by simp;omega)]
 refine⟨.map (((aV enI m).toArray.toList.map (WideElems.rg Tryz.prog 3 (plainElem Tryz.prog 4))).foldr DataW.insert []),⟨_,_,hm.1,⟨?_,⟨?_,?_,?_⟩,?_⟩,?_,rfl⟩,?_,?_⟩
 ·simp[aV];exact hl
 · intro x hx
   have h1:x.born∈(aV enI m).map (·.born):=SN.2 ⟨x,by simpa using hx,rfl⟩;rw[hborn] at h1;exact Uo.1 h1
 · show ((aV enI m).map (·.born)).Nodup
   rw[hborn];exact List.nodup_range
 · show ((aV enI m).map (·.key)).Nodup
   rw[hkey];exact List.Pairwise.map _ (fun a b h e=>h (qH.inj a b e)) hm.2
 · intro x hx
   obtain⟨p,hp,_,h⟩:=hrd x (by simpa using hx);exact⟨_,h⟩
 ·simp[aV]
 · show (((aV enI m).map _).foldr DataW.insert []).length=_
   rw[(WideShapes.sorted_perm _).length_eq];simp[aV]
 · show ((((aV enI m).map _).foldr DataW.insert []).map fun p=>Go.intOf p.1).Perm _
   refine((WideShapes.sorted_perm _).map _).trans ?_;rw[hrg,TQ];exact List.Perm.refl _
theorem Fw(n:Nat):AnyZI.SortsIn Tryz.prog RN Fence.wide n:=
 ⟨fun blk off cap ss W hH hblk hsz=>callsIn_wide.2 (AnyM.slices_Sort_int RQ blk off cap ss W hH hblk hsz),
  fun p cap W=>callsIn_wide.2 (AnyM.slices_Sort_int_none RQ p cap W)⟩
theorem IP(mb:Option Nat)(W:World):CA 64 [.map mb] W fun v w'=>v=.func (.func 117) #[] #[pT W.heap.size]∧w'=W.alloc (.cells #[.map mb] 126):=by
 have h:CallsIn Fence.wide 5 Tryz.prog 64 #[.map mb] W fun e w'=>e=.returned (.func (.func 117) #[] #[pT W.heap.size])∧w'=W.alloc (.cells #[.map mb] 126):=AnyZI.keys_in RM Fence.wide 5 trivial rfl mb W;refine(callsIn_wide.1 h).mono ?_;rintro e w' ⟨rfl,rfl⟩;exact⟨_,rfl,rfl,rfl⟩
theorem DP(g:Nat)(m:List (I6×Value))(W:World)(hm:cC enI W.heap g m)(hb:∀ p∈m,p.2=.bool true)(hl:m.length≤100000) :
 Calls Tryz.prog 63 [.func (.func 117) #[] #[pT W.heap.size]].toArray (W.alloc (.cells #[.map (some g)] 126))
  (Ret fun v w'=>∃ o c,v=.slice o ((m.map (·.1.1)).mergeSort leI).length c∧Own i64 3 w'.heap o c ((m.map (·.1.1)).mergeSort leI)∧Fr W.heap.size o∧aA nob W w'):=by
 obtain⟨D0,hown,hsz,hpm⟩:=Ik hm hb (by unfold maxLen;omega);have hbl:=hm.obj;have hseq:SeqGives Fence.wide 2 Tryz.prog 117 #[pT W.heap.size] encZ (fun ss=>ss.Perm (intKeys D0)) (Maps.size D0) (W.alloc (.cells #[.map (some g)] 126)):=
  AnyZI.keys_gives (ρ:=RL) { RM with } Fence.wide _ trivial rfl (by omega) W.heap.size g m.length D0 _ (by simp) (by simp) (by
   obtain⟨es,clock,hb,Ft,hs,hD⟩:=hown;exact⟨es,clock,(Below.heap_alloc _ _ g hbl).trans hb,Ft,hs,hD⟩)
 have cS:=AnyZI.sorted_in RO Fence.wide 5 trivial trivial trivial trivial rfl (by omega) (Fw _) (enters_of Tryz.func116 (by kernel_rfl) rfl) 117 #[pT W.heap.size] trivial (enters_of Tryz.func117 (by kernel_rfl) rfl) _ _ (by rw[hsz];unfold maxLen;omega) (by rw[hsz];omega) _ hseq;change CallsIn _ _ Tryz.prog 63 _ _ _ at cS;refine(callsIn_wide.1 cS).mono ?_;rintro e w' ⟨v,ss,rfl,hS,⟨hlen,hrow⟩,hnil,hbw⟩;have hF:aA nob W w':=(aA.alloc nob W _).trans ⟨hbw.os,hbw.tape,hbw.output,hbw.size,fun k hk _=>hbw.block k hk⟩;have hss:ss.mergeSort (fun x y=>decide (x≤y))=(m.map (·.1.1)).mergeSort leI:=mergeSort_of_perm_i (hS.trans hpm);have hsl:ss.length=((m.map (·.1.1)).mergeSort leI).length:=by rw[←hss,List.length_mergeSort]
 rw[hss] at hrow;rcases hrow with⟨rfl,h0⟩|⟨gb,cap,cur,rfl,hbase,hgb,r1,r2,r3,r4⟩
 · have hz:(m.map (·.1.1)).mergeSort leI=[]:=SB (by omega)
   rw[hz];exact⟨_,rfl,none,0,rfl,Rr,Rp,hF⟩
 · refine⟨_,rfl,some ⟨gb,0,none⟩,cap,by rw[←hsl],.inr ⟨gb,cur,rfl,hgb,by omega,r2,by omega,?_⟩,fun a ha=>?_,hF⟩
   ·rw[Nat.mul_one,hsl] at r4;exact r4
   · cases ha
     have:W.heap.size+1≤gb:=by simpa using hbase
     show W.heap.size≤gb;omega
end
section
open Go Go.RowKit Go.Maps
theorem oL{α:Type}[DecidableEq α](a:α)(v:Value):∀ l:List (α×Value),(bV l a v).map (·.1)=if a∈l.map (·.1) then l.map (·.1) else l.map (·.1)++[a]
|[]=>by simp[bV]
|p::r=>by
   unfold bV;by_cases hp:p.1=a
   ·rw[R4 hp];simp[hp]
   · rw[R3 hp]
     simp only[SV,oL a v r];by_cases hm:a∈r.map (·.1)
     ·rw[R4 hm,R4 (Tg _ hm)]
     ·rw[R3 hm,R3 (fun e=>by rcases St.1 e with e|e;exact hp e.symm;exact hm e)];rfl
theorem fB{α:Type}[DecidableEq α]{a x:α}{v:Value}{l:List (α×Value)}:x∈(bV l a v).map (·.1)↔x=a∨x∈l.map (·.1):=by
 rw[oL]
 split
 · rename_i h
   exact⟨.inr,fun hx=>hx.elim (fun e=>e ▸ h) id⟩
 ·rw[SO,SE];exact Or.comm
theorem Ac{α:Type}[DecidableEq α]{a:α}{v:Value}{l:List (α×Value)}:(bV l a v).length≤l.length+1:=by
 have h:=congrArg SJ (oL a v l);rw[SC] at h
 split at h<;>simp at h<;>omega
theorem oK{α:Type}[DecidableEq α]{a:α}{v:Value}:∀ {l:List (α×Value)},(∀ p∈l,p.2=v)→∀ p∈bV l a v,p.2=v
|[],_,p,hp=>by simp[bV] at hp;rw[hp]
|q::r,h,p,hp=>by
   unfold bV at hp
   split at hp
   · rcases St.1 hp with rfl|hp
     ·rfl
     ·exact h p (Tg _ hp)
   · rcases St.1 hp with rfl|hp
     ·exact h _ (List.mem_cons_self ..)
     ·exact oK (fun x hx=>h x (Tg _ hx)) p hp
def gU(ps:List (NdH×Nd)):List Int:=ps.flatMap fun p=>[p.2.ud,p.2.gd]
theorem Ed(ps:List (NdH×Nd))(p:NdH×Nd):gU (ps++[p])=gU ps++[p.2.ud,p.2.gd]:=by simp[gU]
def pJ(ps:List (NdH×Nd))(L:List Int):Prop:=L.Pairwise (· < ·)∧∀ z,z∈L↔z∈gU ps
theorem Ku{ps:List (NdH×Nd)}{m:List (I6×Value)}(hn:(m.map (·.1)).Nodup)(hm:∀ z,z∈m.map (·.1.1)↔z∈gU ps):pJ ps ((m.map (·.1.1)).mergeSort leI):=by
 have tr:∀ a b c:Int,leI a b=true→leI b c=true→leI a c=true:=fun a b c h1 h2=>by simp only[leI,decide_eq_true_eq] at *;exact Int.le_trans h1 h2
 have to:∀ a b:Int,(leI a b || leI b a)=true:=fun a b=>by simp only[leI,Bool.or_eq_true,decide_eq_true_eq];exact Int.le_total a b
 have hnd:(m.map (·.1.1)).Nodup:=by
  have:m.map (·.1.1)=(m.map (·.1)).map (·.1):=by rw[TQ];rfl
  rw[this];exact List.Pairwise.map _ (fun a b h e=>h (Subtype.ext e)) hn
 have hp:=List.mergeSort_perm (m.map (·.1.1)) leI;refine⟨?_,fun z=>(hp.mem_iff).trans (hm z)⟩;have h1:=List.pairwise_mergeSort tr to (m.map (·.1.1));have h2:((m.map (·.1.1)).mergeSort leI).Nodup:=hp.nodup_iff.2 hnd;exact(h1.and h2).imp (fun⟨a,b⟩=>by simp only[leI,decide_eq_true_eq] at a;omega)
theorem tkP{ps:List (NdH×Nd)}{i:Nat}{p:NdH×Nd}(h:ps[i]?=some p):ps.take (i+1)=ps.take i++[p]:=by
 have hi:=(R9.1 h).1;rw[Sv hi,(R9.1 h).2]
theorem JV{ps:List (NdH×Nd)}{i:Nat}{p:NdH×Nd}{m:List (I6×Value)}{v:Value}(hp:ps[i]?=some p)(hmem:∀ z,z∈m.map (·.1.1)↔z∈gU (ps.take i))(hu : -9223372036854775808≤p.2.ud∧p.2.ud≤9223372036854775807)(hg : -9223372036854775808≤p.2.gd∧p.2.gd≤9223372036854775807) :
 ∀ z,z∈(bV (bV m (⟨p.2.ud,hu⟩:I6) v) (⟨p.2.gd,hg⟩:I6) v).map (·.1.1)↔z∈gU (ps.take (i+1)):=by
 have e:∀ l:List (I6×Value),∀ z,z∈l.map (·.1.1)↔∃ a∈l.map (·.1),a.1=z:=fun l z=>by simp
 intro z;rw[tkP hp,Ed,SO,←hmem z,e,e];constructor
 · rintro⟨a,ha,rfl⟩
   rcases fB.1 ha with rfl|ha
   ·exact .inr (by simp)
   · rcases fB.1 ha with rfl|ha
     ·exact .inr (by simp)
     ·exact .inl ⟨a,ha,rfl⟩
 · rintro(⟨a,ha,rfl⟩|h)
   ·exact⟨a,fB.2 (.inr (fB.2 (.inr ha))),rfl⟩
   · simp only[St,SD,or_false] at h
     rcases h with rfl|rfl
     ·exact⟨⟨p.2.ud,hu⟩,fB.2 (.inr (fB.2 (.inl rfl))),rfl⟩
     ·exact⟨⟨p.2.gd,hg⟩,fB.2 (.inl rfl),rfl⟩
theorem Kt(lo:Option Addr)(lc:Nat)(ps:List (NdH×Nd))(W:World)(hv:VwM 10 aH W.heap lo lc ps)(hok:∀ p∈ps,okN p.2)(hl:ps.length≤1000) :
 CA 20 [.slice lo ps.length lc] W fun v w'=>∃ o c L,v=.slice o (SJ (α:=Int) L) c∧Own i64 3 w'.heap o c L∧Fr W.heap.size o∧pJ ps L∧aA nob W w':=by
 refine cS 25 [(0,_)] Tryz.func20 ?_;refine Gz 7 ?_;refine O2 (enc:=enI) rfl ?_;intro w1 hm1 hs1 hf1;obtain⟨g,hg⟩:∃ g,g=W.heap.size:=⟨_,rfl⟩
 rw[←hg] at hm1 ⊢;refine Gz 12 ?_;refine Oy (β:=Nat×List (I6×Value)) (fun⟨i,m⟩=>[(3,.map (some g)),(7,.slice lo ps.length lc),(8,iV ps.length),(9,iV i)]) (fun⟨i,m⟩ w=>i≤ps.length∧cC enI w.heap g m∧(∀ p∈m,p.2=.bool true)∧(∀ z,z∈m.map (·.1.1)↔z∈gU (ps.take i))∧m.length≤2*i∧aA nob W w) (fun⟨i,m⟩=>ps.length-i) ⟨0,[]⟩ ⟨rfl,rfl,rfl,rfl,trivial⟩ ⟨Sf _,hm1,by simp,by simp[gU],Sf _,hf1⟩ ?_;rintro⟨i,m⟩ w2 ⟨hi,hm2,hmv,hmem,hml,hF2⟩;refine fK 2 ?_ ?_<;>intro h10
 ·have hil:i<ps.length:=by omega
  obtain⟨p,hp⟩:∃ p,ps[i]?=some p:=⟨_,R7 hil⟩
  have hpo:=hok p (Sd hp);have hu:=hpo p.2.ud (by simp);have hgd:=hpo p.2.gd (by simp);have hv2:=hv.RZ hF2 (fun _ _=>id);refine Gz 6 ?_;refine O1 (β:=List (I6×Value)) (fun m2=>[(3,.map (some g)),(7,.slice lo ps.length lc),(8,iV ps.length),(9,iV i)]) (fun m2 w=>cC enI w.heap g m2∧(∀ p∈m2,p.2=.bool true)∧(∀ z,z∈m2.map (·.1.1)↔z∈gU (ps.take (i+1)))∧m2.length≤2*(i+1)∧aA nob W w) ?_ ?_
  ·refine Gz 3 ?_;refine cL (OA gL rfl rfl hv2.non (by omega)) ?_;refine cL (OG (cs:=aH p) aX rfl (fun j v hj=>hv2.rowZ i rfl hp j v hj)) ?_;refine Ov fS rfl ?_;intro w3 hg3 hs3 hf3;obtain⟨q,hq⟩:∃ q,q=w2.heap.size:=⟨_,rfl⟩
   rw[←hq] at hg3 ⊢;have hm3:=hm2.RZ hf3 id;have hgl:=hm2.obj;refine OD (vs:=aH p) aX rfl rfl (aB p).2 hg3 rfl ?_;intro w4 hg4 hs4 hf4;have hm4:=hm3.RZ hf4 (fun e=>by have e:g=q:=e;omega);have hF4:aA nob W w4:=(hF2.trans hf3).RV hf4 (fun k e=>.inr (by have e:k=q:=e;have:=hF2.size;omega));refine Gz 1 ?_;refine aW [(3,_),(5,_),(7,_),(8,_),(9,_),(10,_)] ?_;refine Gz 1 ?_;refine OI 10 (fun H=>H[q]?=some (.cells (aH p).toArray 37 (0,0))) [8,9] [0,1,2,3,4,5,6,7,8,9] aM (by kernel_rfl) (hg4) ?_;refine Gz 3 ?_;refine xC rfl (OB aL rfl (fun H hH=>show aS H ((⟨q,0,none⟩:Addr).add 4)=some (iV p.2.ud) from aD hH rfl)) ?_;refine Gz 3 ?_;refine xC rfl (OB aL rfl (fun H hH=>show aS H ((⟨q,0,none⟩:Addr).add 5)=some (iV p.2.gd) from aD hH rfl)) ?_;refine OE rfl rfl (OS mpB qH (a:=(⟨p.2.ud,hu⟩:I6)) rfl rfl rfl hm4 ?_);intro w5 hm5 hs5 hf5;have hf5:=hf5.RW;refine OK (by exact hf5.obj hg4 (fun e=>by have e:q=g:=e;omega)) ?_;refine OE rfl rfl (OS mpB qH (a:=(⟨p.2.gd,hgd⟩:I6)) rfl rfl rfl hm5 ?_);intro w6 hm6 hs6 hf6;have hF6:aA nob W w6:=(hF4.RV hf5 (fun k e=>.inr (by have e:k=g:=e;omega))).RV hf6 (fun k e=>.inr (by have e:k=g:=e;omega));refine OK (by exact hf6.obj (hf5.obj hg4 (fun e=>by have e:q=g:=e;omega)) (fun e=>by have e:q=g:=e;omega)) ?_;refine Gz 2 ?_;exact aC _ ⟨hm6,oK (oK hmv),JV hp hmem hu hgd,by have:=Ac (a:=(⟨p.2.ud,hu⟩:I6)) (v:=.bool true) (l:=m);have:=Ac (a:=(⟨p.2.gd,hgd⟩:I6)) (v:=.bool true) (l:=bV m (⟨p.2.ud,hu⟩:I6) (.bool true));omega,hF6⟩
  rintro m2 w9 ⟨hm9,hmv9,hmem9,hml9,hF9⟩;refine Gz 4 ?_;exact aG ⟨i+1,m2⟩ ⟨by omega,hm9,hmv9,hmem9,hml9,hF9⟩ (by show ps.length-(i+1)<ps.length-i;omega)
 have hie:i=ps.length:=by omega
 subst hie;rw[S1] at hmem;refine cA 12 N0 (IP (some g) w2) ?_;rintro _ w7 ⟨rfl,rfl⟩;refine Ot N1 rfl (DP g m w2 hm2 hmv (by omega)) rfl ?_;rintro _ w8 ⟨o8,c8,rfl,ho8,hfr8,hf8⟩;refine Gz 2 ?_;refine aW [(2,_),(3,_),(7,_),(8,_),(9,_),(10,_)] ?_;refine Gz 3 ?_;exact⟨_,rfl,o8,c8,_,rfl,ho8,by rw[hg];exact hfr8.mono hF2.size,Ku hm2.2 hmem,hF2.trans hf8⟩
end
section
open Go Go.RowKit Go.Maps
theorem GA(x:Int):(i64 x).oneCell'=true:=rfl
theorem C8:∀ (ps:List (NdH×Nd)) (k:Nat) (p:NdH×Nd),ps[k]?=some p→(gU ps).getD (2*k) 0=p.2.ud∧(gU ps).getD (2*k+1) 0=p.2.gd
|[],k,p,h=>by simp at h
|q::r,0,p,h=>by simp at h;subst h;exact⟨rfl,rfl⟩
|q::r,k+1,p,h=>C8 r k p (by simpa using h)
theorem sL:∀ (ps:List (NdH×Nd)),(gU ps).length=2*ps.length
|[]=>rfl
|q::r=>by have:=sL r;show (q.2.ud::q.2.gd::gU r).length=2*(r.length+1);simp only[Sq];omega
theorem xE(a:Addr)(i j:Nat):(a.add i).add j=a.add (i+j):=Addr.add_add a i j
end
def cE(F:Nat→Int):List Value:=[iV (F 0),iV (F 1),iV (F 2),iV (F 3),iV (F 4),iV (F 5),iV (F 6),iV (F 7),iV (F 8),iV (F 9)]
theorem cQ(F:Nat→Int):∀ v∈cE F,v.oneCell'=true:=by
 intro v hv;simp only[cE,St,SD,or_false] at hv;rcases hv with rfl|rfl|rfl|rfl|rfl|rfl|rfl|rfl|rfl|rfl<;>rfl
def gC(F:Nat→Int):List Int:=[64,F 2,F 3,F 4,F 5,F 6,F 0,1048576]
def Ab(F:Nat→Int):Prop:=64≤F 2∧F 2≤F 3∧F 3≤F 4∧F 4≤F 5∧F 5≤F 6∧F 6≤F 0∧F 0≤1048576
def jK(F:Nat→Int):Prop:=Ab F∧1≤F 1∧F 1≤1024∧1≤F 7∧F 7≤2048∧0≤F 8∧F 8≤1024∧0≤F 9∧F 9≤4294967295
instance (F:Nat→Int):Decidable (jK F):=by unfold jK Ab;infer_instance
theorem Aa{F:Nat→Int}:Ab F↔∀ i,i+1<8→(gC F).getD i 0≤(gC F).getD (i+1) 0:=by
 constructor
 · rintro⟨a,b,c,d,e,f,g⟩ i hi
   match i,hi with
  |0,_=>exact a
  |1,_=>exact b
  |2,_=>exact c
  |3,_=>exact d
  |4,_=>exact e
  |5,_=>exact f
  |6,_=>exact g
 · intro h
   exact⟨h 0 (by decide),h 1 (by decide),h 2 (by decide),h 3 (by decide),h 4 (by decide),h 5 (by decide),h 6 (by decide)⟩
def suL:List Fd:=[⟨0,0,4,0⟩,⟨0,2,4,0⟩,⟨0,3,4,0⟩,⟨0,4,4,0⟩,⟨0,5,4,0⟩,⟨0,6,4,0⟩,⟨0,9,4,0⟩,⟨0,1,2,0⟩,⟨0,7,2,0⟩,⟨0,8,2,0⟩]
def suM:By:=[76,77,76,65]
def zF:Nat→Int:=fun _=>0
def suQ(ys:By):Rd×(Nat→Int):=suL.foldl gF ((0,ys),zF)
def suH(F:Nat→Int):By:=suM++fQ F suL
def suB(F:Nat→Int):By:=suH F++(le (iB (suH F):Nat) 4++Sy 22 0)
def gR(F:Nat→Int):By×Int:=if jK F then (suB F,0) else ([],1)
def suF(im:By):Nat→Int:=(suQ ((im.take 64).drop 4)).2
def iA(im:By):Prop:=64≤im.length∧jK (suF im)∧im.take 64=suB (suF im)∧suF im 0=im.length
instance (im:By):Decidable (iA im):=by unfold iA;infer_instance
def dE(im:By):(Nat→Int)×Int:=if iA im then (suF im,0) else (zF,2)
theorem K7:∀ x∈suL,1≤x.b∧x.b≤4:=by decide
theorem JW:(suL.map (·.o)).Nodup:=by decide
theorem HY:BB suL=34:=rfl
theorem qQ(F:Nat→Int):(suH F).length=38:=by unfold suH;rw[R6,kJ];rfl
theorem kP(F:Nat→Int):(suB F).length=64:=by unfold suB;rw[R6,R6,qQ,bE,SP]
theorem CT{ys:By}(h:34≤ys.length):(suQ ys).1.1=0∧ys=fQ (suQ ys).2 suL++(suQ ys).1.2∧(suQ ys).1.2=ys.drop 34:=by
 obtain⟨_,_,i3,i4⟩:=Ds suL ((0,ys),zF) K7 JW;have h0:(suQ ys).1.1=0:=Se fun hc=>by
  have:=i4 rfl hc;rw[HY] at this;have:ys.length<34:=this;omega
 have h3:ys=fQ (suQ ys).2 suL++(suQ ys).1.2:=i3 h0;refine⟨h0,h3,?_⟩;have hl:(fQ (suQ ys).2 suL).length=34:=by rw[kJ];rfl
 have:=congrArg (List.drop 34) h3;rw[Ud hl] at this;exact this.symm
theorem zU{im:By}(h:64≤im.length):im.take 64=suB (suF im) ↔
 im.take 4=suM∧iB (im.take 38)=bX ((im.drop 38).take 4)∧(im.take 64).drop 42=Sy 22 0:=by
 have hl:((im.take 64).drop 4).length=60:=by rw[Sm,Sh];omega
 obtain⟨h0,h1,h2⟩:=CT (ys:=(im.take 64).drop 4) (by omega);have e4:im.take 64=im.take 4++(im.take 64).drop 4:=by
  have:=SG 4 (im.take 64);rw[TF] at this;exact this.symm
 have e38:im.take 38=im.take 4++fQ (suF im) suL:=by
  have h3:=congrArg (List.take 34) h1;have hle:(fQ (suQ ((im.take 64).drop 4)).2 suL).length=34:=by rw[kJ];rfl
  rw[Ub hle] at h3;show _=_++fQ (suQ ((im.take 64).drop 4)).2 suL;rw[←h3,Um,TF];have:=SG 4 (im.take 38);rw[TF] at this;exact this.symm
 have e26:(suQ ((im.take 64).drop 4)).1.2=(im.take 64).drop 38:=by rw[h2,T5]
 have eall:im.take 64=(im.take 4++fQ (suF im) suL)++(im.take 64).drop 38:=by
  rw[←e38];have:=SG 38 (im.take 64);rw[TF] at this;exact this.symm
 have e42:(im.take 64).drop 38=(im.drop 38).take 4++(im.take 64).drop 42:=by
  have h3:=SG 4 ((im.take 64).drop 38);rw[T5,Um,TF] at h3;rw[Um];exact h3.symm
 have hr4:((im.drop 38).take 4).length=4:=by rw[Sh,Sm];omega
 constructor
 · intro he
   unfold suB suH at he;rw[eall] at he;have hi1:=append_inj he (by rw[R6,R6,Sh];show min 4 _+_=4+_;omega);have hi2:=append_inj hi1.1 (by rw[Sh];show min 4 _=4;omega);rw[e42] at hi1;have hi3:=append_inj hi1.2 (by rw[hr4,bE]);refine⟨hi2.1,?_,hi3.2⟩;rw[e38,hi2.1,hi3.1];have:=xL 4 (iB (suH (suF im)):Nat) (TY _) (by have:=qO (suH (suF im));show ((iB _:Nat):Int)<256 ^ 4;omega);show iB (suH (suF im))=_;have h5:((bX (le (iB (suH (suF im)):Nat) 4):Nat):Int)=((iB (suH (suF im)):Nat):Int):=this;show iB (suH (suF im))=bX (le (iB (suH (suF im)):Nat) 4);omega
 · rintro⟨a,b,c⟩
   unfold suB;rw[eall,e42,c];have e5:im.take 4++fQ (suF im) suL=suH (suF im):=by rw[a];rfl
   rw[e5];congr 2;have h5:iB (suH (suF im))=bX ((im.drop 38).take 4):=by rw[←e5,←e38];exact b
   rw[h5];have:=yH ((im.drop 38).take 4);rw[hr4] at this;exact this.symm
theorem Bo{b:By}{n:Nat}(hl:b.length=n):b=Sy n 0↔∀ c∈b,c=0:=by
 rw[List.eq_replicate_iff];exact⟨fun h=>h.2,fun h=>⟨hl,h⟩⟩
abbrev Ent:=By×Int×Int
def Ck:Ent:=([],0,0)
def tO(x:Ent):List Value:=[.string (bs x.1),iV x.2.1,iV x.2.2]
theorem hO:iP 3 tO:=fun x=>⟨rfl,by simp[tO,Value.oneCell']⟩
def iD(x:Ent)(last:By):Prop:=cM x.1=0∧Su last x.1=true∧1≤x.2.1∧x.2.1≤3∧0≤x.2.2∧x.2.2≤4294967295
instance (x:Ent)(last:By):Decidable (iD x last):=by unfold iD;infer_instance
def kI(x:Ent):By:=(Ss x.1.length::x.1)++(le x.2.1 1++le x.2.2 4)
def bK(L:List Ent):By:=L.flatMap kI
def xU(s:Rd):Ent:=(gTx s,gV 1 (iF s),gV 4 (gS 1 (iF s)))
def uN(s:Rd):Rd:=gS 4 (gS 1 (iF s))
def cF:By→List Ent→Prop
|_,[]=>True
|last,x::r=>iD x last∧cF x.1 r
def sV(l:List Ent):By:=(l.getLast?.getD Ck).1
def dtP:Nat→By→By→Option (List Ent)
|0,_,_=>none
|n+1,last,ys=>if ys=[] then some [] else if (uN (0,ys)).1=0∧iD (xU (0,ys)) last then (dtP n (xU (0,ys)).1 (uN (0,ys)).2).map (xU (0,ys) :: ·) else none
def KM(b:By):List Ent×Int:=match dtP (b.length+1) [] b with
|some L=>(L,0)
|none=>([],2)
def I2(x:Ent):Prop:=x.1.length≤255∧0≤x.2.1∧x.2.1<256∧0≤x.2.2∧x.2.2≤4294967295
theorem nD{x:Ent}{last:By}(h:iD x last):I2 x:=⟨(jG h.1).1,by have:=h.2.2.1;omega,by have:=h.2.2.2.1;omega,h.2.2.2.2.1,h.2.2.2.2.2⟩
theorem KB{t rest:By}(h:t.length≤255):gTx (0,(Ss t.length::t)++rest)=t∧iF (0,(Ss t.length::t)++rest)=(0,rest):=by
 have e0:bZ 0 1=0:=by decide
 have l1:(0:Int)<((Ss t.length::t)++rest).length:=by simp only[R6,Sq];omega
 have e1:cY 0 ((Ss t.length::t)++rest) 1=0:=by rw[gJ (by decide) (by omega)]
 obtain⟨c1,c2⟩:=eA e1;have eE:tE 0 ((Ss t.length::t)++rest)=0:=by unfold tE;rw[e0,e1]
 have eR:tR 0 ((Ss t.length::t)++rest)=t++rest:=by unfold tR;rw[e0,c2];rfl
 have eN:tN 0 ((Ss t.length::t)++rest)=(t.length:Int):=by
  unfold tN;rw[e0,c1];show ((Ss t.length).toNat+256*0:Nat)=(t.length:Int)
  rw[S6];omega
 have e2:cY 0 (t++rest) (t.length:Int)=0:=by rw[gJ (by omega) (by rw[R6];omega)]
 obtain⟨c3,c4⟩:=eA e2;unfold gTx iF;show fR (tE 0 _) (tR 0 _) (tN 0 _)=t∧(cY (tE 0 _) (tR 0 _) (tN 0 _),nX (tE 0 _) (tR 0 _) (tN 0 _))=(0,rest)
 rw[eE,eR,eN,c3,e2,c4];exact⟨Ub rfl,by rw[SX,Ud rfl]⟩
theorem GF{s:Rd}(h:s.1≠0):(iF s).1≠0:=by
 unfold iF;have h1:tE s.1 s.2≠0:=Dq (n:=1) h;show cY _ _ _≠0;rw[pB h1];exact h1
theorem IV{s:Rd}(h:(iF s).1=0):s.1=0∧s.2=(Ss (gTx s).length::gTx s)++(iF s).2∧(gTx s).length≤255:=by
 have h0:s.1=0:=Se fun hc=>GF hc h;obtain⟨E,ys⟩:=s;obtain rfl:E=0:=h0;have e0:bZ 0 1=0:=by decide
 have hz:tE 0 ys=0:=Se fun hc=>by
  have:(iF (0,ys)).1=cY (tE 0 ys) (tR 0 ys) (tN 0 ys):=rfl;rw[this,pB hc] at h;exact hc h
 have hz1:cY 0 ys 1=0:=by unfold tE at hz;rw[e0] at hz;exact hz
 obtain⟨_,_,hl⟩:=lB hz1;obtain⟨c1,c2⟩:=eA hz1;obtain⟨d,t,rfl⟩:∃ d t,ys=d::t:=by cases ys with|nil=>(simp at hl)|cons d t=>exact⟨d,t,rfl⟩
 have etR:tR 0 (d::t)=t:=by unfold tR;rw[e0,c2];rfl
 have etN:tN 0 (d::t)=(d.toNat:Int):=by unfold tN;rw[e0,c1];show ((d.toNat+256*0:Nat):Int)=_;omega
 have h2:cY 0 t (d.toNat:Int)=0:=by
  have:(iF (0,d::t)).1=cY (tE 0 (d::t)) (tR 0 (d::t)) (tN 0 (d::t)):=rfl;rw[this,hz,etR,etN] at h;exact h
 obtain⟨_,_,hl2⟩:=lB h2;obtain⟨c3,c4⟩:=eA h2;have eT:gTx (0,d::t)=t.take d.toNat:=by unfold gTx;rw[hz,etR,etN,c3];rfl
 have eS:iF (0,d::t)=(0,t.drop d.toNat):=by unfold iF;rw[hz,etR,etN,h2,c4];rfl
 have hd:=UInt8.toNat_lt d;have hlen:(t.take d.toNat).length=d.toNat:=by rw[Sh];omega
 refine⟨rfl,?_,by rw[eT,hlen];omega⟩;rw[eT,eS,hlen];show d::t=(Ss d.toNat::t.take d.toNat)++t.drop d.toNat;rw[UInt8.ofNat_toNat,Th,SG]
theorem KA{n:Nat}{x:Int}(h1:1≤n)(h4:n≤4)(h0:0≤x)(hx:x<256 ^ n)(rest:By):gV n (0,le x n++rest)=x∧gS n (0,le x n++rest)=(0,rest):=by
 have hl:(le x n).length=n:=bE _ _;obtain⟨a,b⟩:=tD (n:=(n:Int)) (s:=(0,le x n++rest)) (by omega) (by omega) rfl (by show (n:Int)≤(le x n++rest).length;rw[R6,hl];omega);rw[a,b];show ((bX ((le x n++rest).take (n:Int).toNat):Nat):Int)=x∧(0,(le x n++rest).drop (n:Int).toNat)=(0,rest)
 rw[show ((n:Int).toNat)=n by omega,Ub hl,Ud hl];exact⟨xL n x h0 hx,rfl⟩
theorem JC{n:Nat}{s:Rd}(h1:1≤n)(h4:n≤4)(h:(gS n s).1=0):s.1=0∧s.2=le (gV n s) n++(gS n s).2:=by
 have h0:s.1=0:=Se fun hc=>Dq hc h;have hl:(n:Int)≤s.2.length:=Se fun hc=>Dp (by omega) (by omega) h0 (by omega) h;obtain⟨a,b⟩:=tD (n:=(n:Int)) (s:=s) (by omega) (by omega) h0 hl;rw[a,b];refine⟨h0,?_⟩;show s.2=le ((bX (s.2.take (n:Int).toNat):Nat):Int) n++s.2.drop (n:Int).toNat;rw[show ((n:Int).toNat)=n by omega,Dh (by omega),SG]
theorem FL{x:Ent}(h:I2 x)(rest:By):xU (0,kI x++rest)=x∧uN (0,kI x++rest)=(0,rest):=by
 obtain⟨h1,h2,h3,h4,h5⟩:=h;obtain⟨a,b⟩:=KB (t:=x.1) (rest:=le x.2.1 1++(le x.2.2 4++rest)) h1;obtain⟨c,d⟩:=KA (n:=1) (x:=x.2.1) (by decide) (by decide) h2 (by show x.2.1<256;exact h3) (le x.2.2 4++rest);obtain⟨e,f⟩:=KA (n:=4) (x:=x.2.2) (by decide) (by decide) h4 (by show x.2.2<256 ^ 4;omega) rest;have he:kI x++rest=(Ss x.1.length::x.1)++(le x.2.1 1++(le x.2.2 4++rest)):=by unfold kI;simp only[SI]
 rw[he];unfold xU uN;rw[a,b];have d':gS 1 (0,le x.2.1 1++(le x.2.2 4++rest))=(0,le x.2.2 4++rest):=d;have c':gV 1 (0,le x.2.1 1++(le x.2.2 4++rest))=x.2.1:=c;rw[c',d'];have e':gV 4 (0,le x.2.2 4++rest)=x.2.2:=e;have f':gS 4 (0,le x.2.2 4++rest)=(0,rest):=f;rw[e',f'];exact⟨rfl,rfl⟩
theorem C1{s:Rd}(h:(uN s).1=0):s.1=0∧s.2=kI (xU s)++(uN s).2∧(xU s).1.length≤255:=by
 obtain⟨a1,a2⟩:=JC (n:=4) (by decide) (by decide) h;obtain⟨b1,b2⟩:=JC (n:=1) (by decide) (by decide) a1;obtain⟨c1,c2,c3⟩:=IV b1;refine⟨c1,?_,c3⟩;unfold kI;rw[c2];show _=((Ss (gTx s).length::gTx s)++(le (gV 1 (iF s)) 1++le (gV 4 (gS 1 (iF s))) 4))++(gS 4 (gS 1 (iF s))).2;rw[SI,SI];congr 1;have b2':(iF s).2=le (gV 1 (iF s)) 1++(gS 1 (iF s)).2:=b2;have a2':(gS 1 (iF s)).2=le (gV 4 (gS 1 (iF s))) 4++(gS 4 (gS 1 (iF s))).2:=a2;rw[←a2',←b2']
theorem nW(x:Ent):(kI x).length=x.1.length+6:=by unfold kI;simp[bE]
theorem FK{ys:By}(h:(uN (0,ys)).1=0):(uN (0,ys)).2.length+6≤ys.length:=by
 have h2:=(C1 h).2.1;have:=congrArg SJ h2;rw[R6,nW] at this;have e:((0,ys):Rd).2=ys:=rfl;rw[e] at this;omega
theorem DB:∀ (n:Nat) (last ys:By) (L:List Ent),ys.length<n→(dtP n last ys=some L↔cF last L∧ys=bK L)
|0,_,_,_,h=>by omega
|n+1,last,ys,L,h=>by
   unfold dtP;by_cases h0:ys=[]
   · rw[R4 h0]
     subst h0;constructor
     ·intro h;cases h;exact⟨trivial,rfl⟩
     · rintro⟨h1,h2⟩
       cases L with
      |nil=>rfl
      |cons x r=>have:=congrArg SJ h2;simp[bK,nW] at this;omega
   · rw[R3 h0]
     by_cases hg:(uN (0,ys)).1=0∧iD (xU (0,ys)) last
     · rw[R4 hg]
       obtain⟨hg1,hg2⟩:=hg;have hc:=(C1 hg1).2.1;have e:((0,ys):Rd).2=ys:=rfl;rw[e] at hc;have hl:=FK hg1;have ih:=fun L=>DB n (xU (0,ys)).1 (uN (0,ys)).2 L (by omega);constructor
       · intro h
         obtain⟨R,hR,rfl⟩:=Sn.1 h;obtain⟨i1,i2⟩:=(ih R).1 hR;refine⟨⟨hg2,i1⟩,?_⟩;show ys=kI _++bK R;rw[←i2];exact hc
       · rintro⟨h1,h2⟩
         cases L with
        |nil=>exact absurd h2 h0
        |cons x r=>
           obtain⟨a,b⟩:=FL (nD h1.1) (bK r);have h2':ys=kI x++bK r:=h2;rw[←h2'] at a b;rw[a,b];have:=(ih r).2 (by rw[a,b];exact⟨h1.2,rfl⟩);rw[a,b] at this;rw[this];rfl
     · rw[R3 hg]
       constructor
       ·intro h;cases h
       · rintro⟨h1,h2⟩
         cases L with
        |nil=>exact absurd h2 h0
        |cons x r=>
           obtain⟨a,b⟩:=FL (nD h1.1) (bK r);have h2':ys=kI x++bK r:=h2;rw[←h2'] at a b;exact absurd ⟨by rw[b],by rw[a];exact h1.1⟩ hg
theorem Hb{b:By}{L:List Ent}(h1:cF [] L)(h2:b=bK L):KM b=(L,0):=by
 unfold KM;rw[(DB (b.length+1) [] b L (by omega)).2 ⟨h1,h2⟩]
theorem qA{x:Ent}:∀ {l:List Ent} {last:By},cF last (l++[x])↔cF last l∧iD x (if l=[] then last else sV l)
|[],last=>by simp[cF]
|y::r,last=>by
   rw[Th];show iD y last∧cF y.1 (r++[x])↔(iD y last∧cF y.1 r)∧_;rw[qA];have hne:¬ (y::r=[]):=by simp
   rw[R3 hne];have e:sV (y::r)=if r=[] then y.1 else sV r:=by
    unfold sV;cases r with
   |nil=>rfl
   |cons z r=>rw[R3 (by simp),List.getLast?_cons_cons]
   rw[e,and_assoc]
theorem BY(l:List Ent)(x:Ent):sV (l++[x])=x.1:=by unfold sV;simp
theorem Cj(l:List Ent)(x:Ent):bK (l++[x])=bK l++kI x:=by unfold bK;simp
structure Rec where
 ref:Int
 ino:(Nat→Int)×By
 list:List Ent
 xs:List Xa
abbrev MSt:=List (Rec×Int)×Nat
structure Img where
 im:By
 F:Nat→Int
 dV:List Int
 ids:List Int
 recs:List (Rec×Int)
theorem zW(F:Nat→Int){o:Nat}(h:o<10):(cE F)[o]?=some (iV (F o)):=by
 match o,h with
|0,_|1,_|2,_|3,_|4,_|5,_|6,_|7,_|8,_|9,_=>rfl
theorem zV(F:Nat→Int){o:Nat}(h:o<10)(z:Int):(cE F).set o (iV z)=cE (upd F o z):=by
 match o,h with
|0,_|1,_|2,_|3,_|4,_|5,_|6,_|7,_|8,_|9,_=>simp[cE,upd]
def fdZ:Fd:=⟨0,0,0,0⟩
theorem zZ{j:Nat}(h:j<10):(suL.getD j fdZ).o<10:=by
 match j,h with
|0,_|1,_|2,_|3,_|4,_|5,_|6,_|7,_|8,_|9,_=>decide
def suE(F:Nat→Int)(j:Nat):By:=suM++fQ F (suL.take j)
theorem Fo(F:Nat→Int){j:Nat}(h:j<10):suE F (j+1)=suE F j++le (F (suL.getD j fdZ).o) (suL.getD j fdZ).b.toNat:=by
 have hl:j<suL.length:=h;unfold suE fQ;rw[Sv hl,TS,SI];congr 2;simp[Sj,hl]
theorem H1(F:Nat→Int)(j:Nat):(suE F j).length≤38:=by
 unfold suE;rw[R6,kJ];by_cases h:j<10
 · match j,h with
  |0,_|1,_|2,_|3,_|4,_|5,_|6,_|7,_|8,_|9,_=>decide
 ·rw[So (show suL.length≤j from by show 10≤j;omega)];decide
theorem Iz{F:Nat→Int}(h:jK F){j:Nat}(hj:j<10):¬ eO (F (suL.getD j fdZ).o) (suL.getD j fdZ).b:=by
 obtain⟨⟨a1,a2,a3,a4,a5,a6,a7⟩,b1,b2,b3,b4,b5,b6,b7,b8⟩:=h;have wide:∀ z:Int,0≤z→z≤4294967295→¬ eO z 4:=fun z h0 h1=>eK (m:=4294967295) (by decide) (by decide) h0 h1 (by decide);have narrow:∀ z:Int,0≤z→z≤65535→¬ eO z 2:=fun z h0 h1=>eK (m:=65535) (by decide) (by decide) h0 h1 (by decide)
 match j,hj with
|0,_=>exact wide (F 0) (by omega) (by omega)
|1,_=>exact wide (F 2) (by omega) (by omega)
|2,_=>exact wide (F 3) (by omega) (by omega)
|3,_=>exact wide (F 4) (by omega) (by omega)
|4,_=>exact wide (F 5) (by omega) (by omega)
|5,_=>exact wide (F 6) (by omega) (by omega)
|6,_=>exact wide (F 9) (by omega) (by omega)
|7,_=>exact narrow (F 1) (by omega) (by omega)
|8,_=>exact narrow (F 7) (by omega) (by omega)
|9,_=>exact narrow (F 8) (by omega) (by omega)
def suX(F:Nat→Int)(n:Nat):By:=suH F++(le (iB (suH F):Nat) 4++Sy n 0)
theorem qP(F:Nat→Int)(n:Nat):(suX F n).length=42+n:=by unfold suX;rw[R6,R6,qQ,bE,SP];omega
section
variable {P:Program}{N:Nt}{l:SF}{ty:TypeId}{pos:String}{aft:Array Edge}{CH:Array Obj→Prop}{x:Operand}{t t2 e:TypeId}{g:Option (Nat×Bool)}{dd:Option Nat}{n size bytes:Nat}
theorem QD{parts:List (Nat×Operand)}{vs:List (Nat×Value)}{zc cs:Array Value}(hu:P.underlying t=some (.array n e))(ht:aN P t2 e size bytes)(hz:(P.info? t).map (fun i=>i.zero.map (·.cells))=some (some zc))
 (hx:evPs l parts=some vs)(hf:Instr.fill (fun i=>some (i*size,size)) zc vs=some cs):Cm P N CH l ⟨dd,.build t parts.toArray,ty,pos,aft,g⟩ (.agg cs):=fun a w ha _=>by
 obtain⟨i,hi,h1⟩:=Sn.1 hz;obtain⟨z,hz',rfl⟩:=Sn.1 h1;have hv:=ha.evPs hx;simp only[execOp,Instr.build,Sem.run_bind,zeroValue,typeInfo,run_program,Result.andThen_ok,hi,hz',run_underlying hu,Sem.run_pure,ht.size,List.map_toArray,hv];rw[hf];simp
theorem Qc{ad:Addr}(hu:P.underlying t=some (.array n e))(ht:aN P t2 e size bytes)(hx:evL l x=some (.pointer (some ad))):Cm P N CH l ⟨dd,.slice t x none none none,ty,pos,aft,g⟩ (.slice (some ad) n n):=fun a w ha _=>by
 simp only[execOp,ha.ev hx,Instr.sliceAt,Sem.run_bind,run_underlying hu,Result.andThen_ok,Instr.sureAddr,Instr.sliceBounds,Sem.run_pure,ht.size];by_cases h:n=0
 ·simp[h]
 ·simp[h,Addr.add]
end
theorem Fl(x:Int)(W:World):CA 173 [iV x] W fun v w'=>v=.bool false∧w'=W:=by
 refine cS 6 [(0,_)] Tryz.func173 ?_;refine Gz 9 ?_;refine cL (PY (PC rfl rfl) (fun h=>h rfl)) ?_;refine Gz 5 ?_;exact⟨_,rfl,rfl,rfl⟩
theorem vD(x y:Int)(W:World):CA 122 [iV x,iV y] W fun v w'=>v=.bool (decide (x<y))∧w'=W:=by
 refine cS 17 [(0,_),(1,_)] Tryz.func122 ?_;refine cA 8 LU (Fl x W) ?_;rintro _ w1 ⟨rfl,hw1⟩;subst w1;refine Gz 8 ?_;refine cW (Pp rfl rfl) ?_;refine Gz 6 ?_;exact⟨_,rfl,rfl,rfl⟩
def upI(l:List Int):Prop:=∀ i,i+1<l.length→l.getD i 0≤l.getD (i+1) 0
instance (l:List Int):Decidable (upI l):=decidable_of_iff ((Tw (l.length-1)).all (fun i=>decide (l.getD i 0≤l.getD (i+1) 0))=true) (by
 rw[List.all_eq_true];exact⟨fun h i hi=>of_decide_eq_true (h i (by rw[Uo];omega)),fun h i hi=>R8 (h i (by rw[Uo] at hi;omega))⟩)
theorem zY(lo:Option Addr)(lc:Nat)(l:List Int)(W:World)(hv:Vw i64 W.heap lo lc l) :
 CA 100 [.slice lo l.length lc] W fun v w'=>v=.bool (decide (upI l))∧aA nob W w':=by
 have h63:=hv.RX;refine cS 21 [(0,_)] Tryz.func100 ?_;refine Gz 15 ?_;refine Oy (β:=Int) (fun z=>[(0,.slice lo l.length lc),(3,iV z)]) (fun z w=>-1≤z∧z<l.length∧(∀ j:Nat,z≤j→j+1<l.length→l.getD j 0≤l.getD (j+1) 0)∧aA nob W w) (fun z=>z.toNat) ((l.length:Int)-1) ⟨rfl,rfl,trivial⟩ ⟨by omega,by omega,fun j h1 h2=>by omega,Rk _ _⟩ ?_;rintro z w ⟨hz1,hz2,hall,hF⟩;refine fK 4 ?_ ?_<;>intro h8
 ·refine Gz 8 ?_;refine OI 9 (fun H=>Vw i64 H lo lc l) [9] [0,1,2,3,4,5,6,7,8,9] aM (by kernel_rfl) (hv.RY hF) ?_;refine Gz 2 ?_;refine xC rfl (Ou bP rfl rfl hv.non (by omega)) ?_;refine xC rfl (OB aL rfl (fun H hH=>hH.gz 0 z.toNat (by omega) (by omega))) ?_;refine Gz 3 ?_;refine xC rfl (Ou bP rfl rfl hv.non (by omega)) ?_;refine xC rfl (OB aL rfl (fun H hH=>hH.gz 0 (z-1).toNat (by omega) (by omega))) ?_;refine OE rfl rfl (Ot JM rfl (vD (l.getD z.toNat 0) (l.getD (z-1).toNat 0) _) rfl ?_);rintro _ w1 ⟨rfl,rfl⟩;refine O8 rfl ?_;by_cases h20:l.getD z.toNat 0<l.getD (z-1).toNat 0
  ·rw[R8 h20];refine Gz 15 ?_;exact⟨_,rfl,by rw[R5 (fun h=>by have:=h (z-1).toNat (by omega);rw[show (z-1).toNat+1=z.toNat by omega] at this;omega)],hF.draws 1⟩
  rw[R5 h20];refine Gz 11 ?_;refine aG (z-1) ⟨by omega,by omega,fun j h1 h2=>?_,hF.draws 1⟩ (by show (z-1).toNat<z.toNat;omega);by_cases e:(j:Int)=z-1
  · have e1:(z-1).toNat=j:=by omega
    have e2:z.toNat=j+1:=by omega
    rw[e1,e2] at h20;omega
  ·exact hall j (by omega) h2
 refine Gz 15 ?_;exact⟨_,rfl,by rw[R8 (show upI l from fun i hi=>hall i (by omega) hi)],hF⟩
section
variable {R:UInt8→Prop}[DecidablePred R]
theorem BC(f:FuncId)(hf:fnB Tryz.prog f=true)(lo:Option Addr)(lc:Nat)(b:By)(W:World)(hv:Vw b8 W.heap lo lc b)
 (hc:∀ w c,Calls Tryz.prog f [b8 c].toArray w (Ret fun v w'=>v=.bool (decide (R c))∧w'=w)) :
 CA 102 [.slice lo b.length lc,.func (.func f) #[] #[]] W fun v w'=>∃ z:Int,v=iV z∧(0≤z↔∃ c∈b,R c)∧w'=W:=by
 have h63:=hv.RX;refine cS 19 [(0,_),(1,_)] Tryz.func102 ?_;refine Gz 14 ?_;refine Oy (β:=Nat) (fun i=>[(0,.slice lo b.length lc),(1,.func (.func f) #[] #[]),(7,iV b.length),(8,iV i)]) (fun i w=>i≤b.length∧(∀ j,j<i→¬ R (b.getD j 0))∧w=W) (fun i=>b.length-i) 0 ⟨rfl,rfl,rfl,rfl,trivial⟩ ⟨Sf _,fun j hj=>by omega,rfl⟩ ?_;rintro i w ⟨hi,hno,hw⟩;subst w;refine fK 2 ?_ ?_<;>intro h9
 ·have hil:i<b.length:=by omega
  refine Gz 19 ?_;refine cL (Ou aP rfl rfl hv.non (by omega)) ?_;refine cL (Ow uL rfl (hv.gz 0 i rfl hil)) ?_;refine Pt hf rfl rfl (hc W (b.getD i 0)) rfl ?_;rintro _ w1 ⟨rfl,hw1⟩;subst w1;by_cases h16:R (b.getD i 0)
  ·rw[R8 h16];refine Gz 16 ?_;exact⟨_,rfl,i,rfl,⟨fun _=>⟨_,(by rw[Sj,R7 hil];exact Tv hil),h16⟩,fun _=>by omega⟩,rfl⟩
  rw[R5 h16];refine Gz 10 ?_;refine aG (i+1) ⟨by omega,fun j hj=>?_,rfl⟩ (by show b.length-(i+1)<b.length-i;omega);by_cases e:j=i
  ·subst e;exact h16
  ·exact hno j (by omega)
 have hie:i=b.length:=by omega
 refine Gz 16 ?_;exact⟨_,rfl,-1,rfl,⟨fun h=>by omega,fun⟨c,hc1,hc2⟩=>by obtain⟨j,hj,rfl⟩:=S8 hc1;exact absurd hc2 (by have:=hno j (by omega);rwa[Sj,R7 hj] at this)⟩,rfl⟩
theorem uJ(f:FuncId)(hf:fnB Tryz.prog f=true)(lo:Option Addr)(lc:Nat)(b:By)(W:World)(hv:Vw b8 W.heap lo lc b)
 (hc:∀ w c,Calls Tryz.prog f [b8 c].toArray w (Ret fun v w'=>v=.bool (decide (R c))∧w'=w)) :
 CA 50 [.slice lo b.length lc,.func (.func f) #[] #[]] W fun v w'=>v=.bool (decide (∃ c∈b,R c))∧w'=W:=by
 refine cS 9 [(0,_),(1,_)] Tryz.func50 ?_;refine cA 9 Mk (BC f hf lo lc b W hv hc) ?_;rintro _ w1 ⟨z,rfl,hz,hw1⟩;subst w1;refine cL (PB rfl rfl) ?_;refine Gz 5 ?_;exact⟨_,rfl,congrArg _ (decide_eq_decide.2 hz),rfl⟩
end
theorem Bz(W:World)(c:UInt8):CA 51 [b8 c] W fun v w'=>v=.bool (decide (c≠0))∧w'=W:=by
 refine cS 5 [(0,_)] Tryz.func51 ?_;refine Gz 8 ?_;refine cL (PC rfl rfl) ?_;refine Gz 5 ?_;refine⟨_,rfl,congrArg Value.bool (decide_eq_decide.2 (not_congr ⟨fun h=>?_,fun h=>by rw[h];rfl⟩)),rfl⟩;have h:((c.toNat:Nat):Int)=0:=h;exact TK.1 (by show c.toNat=0;omega)
def lM(E:Int)(ys:By):Int:=if E≠0 then 0 else ys.length
theorem vB{D:Nat→Prop}(p:Nat)(E:Int)(ys:By)(W:World)(hP:RdL D W.heap p E ys) :
 CA 46 [pT p] W fun v w'=>v=iV (lM E ys)∧w'=W:=by
 obtain⟨ao,c,hobj,hv,hap⟩:=hP;refine cS 14 [(0,_)] Tryz.func46 ?_;refine fK 13 ?_ ?_<;>intro h8
 ·refine Gz 11 ?_;exact⟨_,rfl,by unfold lM;rw[R4 h8],rfl⟩
 refine Gz 17 ?_;exact⟨_,rfl,by unfold lM;rw[R3 h8],rfl⟩
theorem Fk{D:Nat→Prop}(p:Nat)(E:Int)(ys:By)(W:World)(hP:RdL D W.heap p E ys) :
 CA 47 [pT p] W fun v w'=>v=iV E∧w'=W:=by
 obtain⟨ao,c,hobj,hv,hap⟩:=hP;refine cS 7 [(0,_)] Tryz.func47 ?_;refine Gz 16 ?_;exact⟨_,rfl,rfl,rfl⟩
theorem iG(x a b:Int)(W:World):CA 101 [iV x,iV a,iV b] W fun v w'=>v=.bool (decide (a≤x∧x≤b))∧w'=W:=by
 refine cS 15 [(0,_),(1,_),(2,_)] Tryz.func101 ?_;refine fK 9 ?_ ?_<;>intro h9
 ·refine fW 3 ?_ ?_<;>intro h13
  ·refine Gz 6 ?_;exact⟨_,rfl,by rw[R8 ⟨h9,h13⟩],rfl⟩
  refine Gz 6 ?_;exact⟨_,rfl,by rw[R5 (fun h:a≤x∧x≤b=>by omega)],rfl⟩
 refine Gz 10 ?_;exact⟨_,rfl,by rw[R5 (fun h:a≤x∧x≤b=>by omega)],rfl⟩
theorem HX(F:Nat→Int)(W:World):CA 99 [.agg (cE F).toArray] W fun v w'=>v=.agg ((gC F).map i64).toArray∧aA nob W w':=by
 refine cS 16 [(0,_)] Tryz.func99 ?_;refine Gz 2 ?_;refine OR rfl rfl ?_;intro w1 hg1 hs1 hf1;have hg1:w1.heap[W.heap.size]?=some (.cells (cE F).toArray 44 (0,0)):=hg1;obtain⟨g,eg⟩:∃ g,g=W.heap.size:=⟨_,rfl⟩
 rw[←eg] at hg1 ⊢;refine Ov E1 rfl ?_;intro w2 hg2a hs2 hf2;have hg2:=hf2.obj hg1 id;obtain⟨r,er⟩:∃ r,r=w1.heap.size:=⟨_,rfl⟩
 rw[←er] at hg2a ⊢;refine Gz 16 ?_;refine cL (QD (n:=8) (cs:=((gC F).map i64).toArray) (by kernel_rfl) bP E1 rfl (by kernel_rfl)) ?_;refine sA rfl Ct (by intro v hv;obtain⟨z,_,rfl⟩:=SN.1 hv;rfl) hg2a ?_;intro w3 hg3 hs3 hf3;refine Gz 3 ?_;refine PJ (cs:=(gC F).map i64) rfl Ct rfl (fun j v hj=>aD hg3 hj) ?_;exact⟨_,rfl,rfl,(hf1.trans hf2).tw hf3⟩
theorem zX(F:Nat→Int)(W:World):CA 49 [.agg (cE F).toArray] W fun v w'=>v=.bool (decide (jK F))∧aA nob W w':=by
 refine cS 28 [(0,_)] Tryz.func49 ?_;refine Gz 2 ?_;refine OR rfl rfl ?_;intro w1 hg1 hs1 hf1;have hg1:w1.heap[W.heap.size]?=some (.cells (cE F).toArray 44 (0,0)):=hg1;obtain⟨g,eg⟩:∃ g,g=W.heap.size:=⟨_,rfl⟩
 rw[←eg] at hg1 ⊢;refine Gz 5 ?_;refine cL (OG (cs:=cE F) cU rfl (bO hg1 0 rfl)) ?_;refine cA 0 NM (HX F w1) ?_;rintro _ w2 ⟨rfl,hf2⟩;refine Ov E1 rfl ?_;intro w3 hg3a hs3 hf3;refine sA rfl Ct (by intro v hv;obtain⟨z,_,rfl⟩:=SN.1 hv;rfl) hg3a ?_;intro w3b hg3 hs3b hf3b;obtain⟨r,er⟩:∃ r,r=w2.heap.size:=⟨_,rfl⟩
 rw[←er] at hg3 hf3b ⊢;have hF3:aA nob w1 w3b:=(hf2.trans hf3).RV hf3b (fun k hk=>.inr (by have h:k=r:=hk;have:=hf2.size;omega));have hv3:Vw i64 w3b.heap (some ⟨r,0,none⟩) 8 (gC F):=⟨by show 8≤8;decide,by decide,fun _=>by simp,fun i x hx=>by
  have h1:((gC F).map i64)[i]?=some (i64 x):=by rw[SU,hx];rfl
  exact aD hg3 h1⟩
 refine Gz 4 ?_;refine cL (Qc (n:=8) (by kernel_rfl) bP rfl) ?_;refine cA 0 Ml (zY (some ⟨r,0,none⟩) 8 (gC F) w3b hv3) ?_;rintro _ w4 ⟨rfl,hf4⟩;have hW4:=(hf1.trans hF3).trans hf4;have hg4:=(hF3.trans hf4).obj hg1 id;by_cases h7:upI (gC F)
 ·rw[R8 h7];have hso:Ab F:=Aa.2 (fun i hi=>h7 i hi);refine Gz 3 ?_;refine OC rfl rfl Dx rfl (iG _ _ _ w4) rfl ?_;rintro _ w5 ⟨rfl,hw5⟩;subst w5;by_cases h11:1≤F 1∧F 1≤1024
  ·rw[R8 h11];refine Gz 4 ?_;refine OC rfl rfl Dx rfl (iG _ _ _ w4) rfl ?_;rintro _ w5 ⟨rfl,hw5⟩;subst w5;by_cases h16:1≤F 7∧F 7≤2048
   ·rw[R8 h16];refine Gz 4 ?_;refine OC rfl rfl Dx rfl (iG _ _ _ w4) rfl ?_;rintro _ w5 ⟨rfl,hw5⟩;subst w5;by_cases h21:0≤F 8∧F 8≤1024
    ·rw[R8 h21];refine Gz 4 ?_;refine OC rfl rfl Dx rfl (iG _ _ _ w4) rfl ?_;rintro _ w5 ⟨rfl,hw5⟩;subst w5;by_cases h26:0≤F 9∧F 9≤4294967295
     ·rw[R8 h26];refine Gz 6 ?_;exact⟨_,rfl,by rw[R8 ⟨hso,h11.1,h11.2,h16.1,h16.2,h21.1,h21.2,h26.1,h26.2⟩],hW4⟩
     rw[R5 h26];refine Gz 6 ?_;exact⟨_,rfl,by rw[R5 (fun h=>by first|exact hso h.1|(unfold jK at h;omega))],hW4⟩
    rw[R5 h21];refine Gz 11 ?_;exact⟨_,rfl,by rw[R5 (fun h=>by first|exact hso h.1|(unfold jK at h;omega))],hW4⟩
   rw[R5 h16];refine Gz 16 ?_;exact⟨_,rfl,by rw[R5 (fun h=>by first|exact hso h.1|(unfold jK at h;omega))],hW4⟩
  rw[R5 h11];refine Gz 21 ?_;exact⟨_,rfl,by rw[R5 (fun h=>by first|exact hso h.1|(unfold jK at h;omega))],hW4⟩
 rw[R5 h7];have hso:¬ Ab F:=fun h=>h7 (fun i hi=>Aa.1 h i hi);refine Gz 25 ?_;exact⟨_,rfl,by rw[R5 (fun h=>by first|exact hso h.1|(unfold jK at h;omega))],hW4⟩
def ptO(g:Nat)(o:Nat):Value:=.pointer (some ⟨g,o,none⟩)
def oW:List Nat:=[0,2,3,4,5,6,9]
def oN:List Nat:=[1,7,8]
theorem Da{i:Nat}(h:i<7):oW.getD i 0=(suL.getD i fdZ).o∧(suL.getD i fdZ).b=4:=by
 match i,h with
|0,_|1,_|2,_|3,_|4,_|5,_|6,_=>exact⟨rfl,rfl⟩
theorem Db{i:Nat}(h:i<3):oN.getD i 0=(suL.getD (7+i) fdZ).o∧(suL.getD (7+i) fdZ).b=2:=by
 match i,h with
|0,_|1,_|2,_=>exact⟨rfl,rfl⟩
theorem vA(g:Nat)(W:World):CA 43 [pT g] W fun v w'=>∃ q,v=.slice (some ⟨q,0,none⟩) oW.length 7∧Own (ptO g) 72 w'.heap (some ⟨q,0,none⟩) 7 oW∧W.heap.size≤q∧q<w'.heap.size∧aA nob W w':=by
 refine cS 25 [(0,_)] Tryz.func43 ?_;refine Gz 6 ?_;refine OI 23 (fun _=>True) [21] [0,1,2,3,4,5,6,7,8,9,10,11,12,13,14,15,16,17,18,19,20,21,22] aM (by kernel_rfl) (trivial) ?_;refine Gz 21 ?_;refine OE rfl rfl (Pa xO (cs:=(oW.map (ptO g)).toArray) JR rfl rfl rfl (by kernel_rfl) rfl ?_);intro w1 hg1 hs1 hf1;refine OK (by exact trivial) ?_;refine Gz 5 ?_;exact⟨_,rfl,_,rfl,iH (xs:=oW) hg1 (by decide),Sa _,by have h:w1.heap.size=W.heap.size+1:=hs1;show W.heap.size<_;omega,hf1.RW⟩
theorem pL(g:Nat)(W:World):CA 45 [pT g] W fun v w'=>∃ q,v=.slice (some ⟨q,0,none⟩) oN.length 3∧Own (ptO g) 72 w'.heap (some ⟨q,0,none⟩) 3 oN∧W.heap.size≤q∧q<w'.heap.size∧aA nob W w':=by
 refine cS 13 [(0,_)] Tryz.func45 ?_;refine Gz 6 ?_;refine OI 11 (fun _=>True) [9] [0,1,2,3,4,5,6,7,8,9,10] aM (by kernel_rfl) (trivial) ?_;refine Gz 9 ?_;refine OE rfl rfl (Pa xO (cs:=(oN.map (ptO g)).toArray) JR rfl rfl rfl (by kernel_rfl) rfl ?_);intro w1 hg1 hs1 hf1;refine OK (by exact trivial) ?_;refine Gz 5 ?_;exact⟨_,rfl,_,rfl,iH (xs:=oN) hg1 (by decide),Sa _,by have h:w1.heap.size=W.heap.size+1:=hs1;show W.heap.size<_;omega,hf1.RW⟩
def suT(q:Rd)(k:Nat):Rd×(Nat→Int):=(suL.take k).foldl gF (q,zF)
theorem mR{q:Rd}{j:Nat}(h:j<10):suT q (j+1)=(gS (suL.getD j fdZ).b (suT q j).1,upd (suT q j).2 (suL.getD j fdZ).o (gV (suL.getD j fdZ).b (suT q j).1)):=by
 have hl:j<suL.length:=h;unfold suT;rw[Sv hl,Tb];simp only[Tm,List.foldl_nil,Sj,R7 hl,Option.getD_some];rfl
theorem CQ{q:Rd}{j:Nat}(h:j<10):(suT q (j+1)).2 (suL.getD j fdZ).o=gV (suL.getD j fdZ).b (suT q j).1:=by
 rw[mR h];simp[upd]
theorem vC{q:Rd}{j:Nat}(h:j<10):(cE (suT q j).2).set (suL.getD j fdZ).o (iV ((suT q (j+1)).2 (suL.getD j fdZ).o))=cE (suT q (j+1)).2:=by
 rw[zV _ (zZ h),CQ h,mR h]
theorem CR(q:Rd):∀ k,k≤10→(suT q k).1.2.length≤q.2.length:=by
 intro k
 induction k with
|zero=>intro _;exact Sa _
|succ n ih=>intro hn;rw[mR (by omega)];exact SM (tS _ _ _) (ih (by omega))
theorem CS(q:Rd)(hl:q.2.length≤64)(j:Nat)(hj:j<10)(D:Nat→Prop)(p:Nat)(W:World)(hP:RdL D W.heap p (suT q j).1.1 (suT q j).1.2) :
 CA 44 [pT p,iV (suL.getD j fdZ).b] W fun v w'=>v=iV ((suT q (j+1)).2 (suL.getD j fdZ).o)∧RdL D w'.heap p (suT q (j+1)).1.1 (suT q (j+1)).1.2∧aA (· = p) W w':=by
 rw[CQ hj,mR hj];exact Ai p _ _ _ W hP (by have:=CR q j (by omega);omega)
def spQ(im:By):Rd:=(cY 0 (im.take 64) 4,nX 0 (im.take 64) 4)
def spS(im:By):Rd×(Nat→Int):=suT (spQ im) 10
def spR(s:Rd):Rd:=gS 4 s
def spL(s:Rd):Int:=lM s.1 s.2
def spE(s:Rd):Int:=cY s.1 s.2 (spL s)
def spB(s:Rd):By:=fR s.1 s.2 (spL s)
theorem qR{im:By}(h:64≤im.length):fR 0 (im.take 64) 4=im.take 4∧(spS im).2=suF im∧spL (spS im).1=26∧gV 4 (spS im).1=(bX ((im.drop 38).take 4):Nat)∧spE (spR (spS im).1)=0∧spB (spR (spS im).1)=(im.take 64).drop 42:=by
 have hl:(im.take 64).length=64:=by rw[Sh];omega
 have e1:cY 0 (im.take 64) 4=0:=gJ (by decide) (by omega);obtain⟨c1,c2⟩:=eA e1;have eq:spQ im=(0,(im.take 64).drop 4):=by unfold spQ;rw[e1,c2];rfl
 have es:spS im=suQ ((im.take 64).drop 4):=by unfold spS;rw[eq];rfl
 have hl2:((im.take 64).drop 4).length=60:=by rw[Sm];omega
 obtain⟨h0,h1,h2⟩:=CT (ys:=(im.take 64).drop 4) (by omega);have es1:(spS im).1=(0,(im.take 64).drop 38):=by rw[es];exact Uh h0 (by rw[h2,T5])
 have hl3:((im.take 64).drop 38).length=26:=by rw[Sm];omega
 have hg:=tD (n:=4) (s:=(0,(im.take 64).drop 38)) (by decide) (by decide) rfl (by show (4:Int)≤(((im.take 64).drop 38).length:Nat);omega);have e4:spR (spS im).1=(0,(im.take 64).drop 42):=by rw[es1];unfold spR;rw[hg.1,show ((4:Int).toNat)=4 from rfl];simp only[T5]
 have hl4:((im.take 64).drop 42).length=22:=by rw[Sm];omega
 have e5:spL (spR (spS im).1)=22:=by rw[e4];show lM 0 _=22;unfold lM;rw[R3 (by omega),hl4];rfl
 have e6:cY 0 ((im.take 64).drop 42) 22=0:=gJ (by decide) (by omega);obtain⟨c3,c4⟩:=eA e6;refine⟨by rw[c1,show ((4:Int).toNat)=4 from rfl,TF];rfl,by rw[es];rfl,?_,?_,?_,?_⟩
 ·rw[es1];show lM 0 _=26;unfold lM;rw[R3 (by omega),hl3];rfl
 · rw[es1,hg.2,show ((4:Int).toNat)=4 from rfl,Um,TF,Um]
   simp only[show min (38+4) 64=42 by rfl,show (38+4:Nat)=42 by rfl]
 ·unfold spE;rw[e5,e4];exact e6
 · unfold spB;rw[e5,e4]
   show fR 0 ((im.take 64).drop 42) 22=_;rw[c3,So (by rw[hl4];decide)]
theorem K8{im:By}(h:64≤im.length)(h1:fR 0 (im.take 64) 4=suM)(h2:((bX ((im.drop 38).take 4):Nat):Int)=(iB (im.take 38):Nat))(h3:(suF im) 0=im.length)(h4:jK (suF im))(h5:¬ ∃ c∈spB (spR (spS im).1),c≠0):iA im:=by
 obtain⟨g1,g2,g3,g4,g5,g6⟩:=qR h;rw[g6] at h5;refine⟨h,h4,(zU h).2 ⟨by rw[←g1];exact h1,by omega,(Bo (by rw[Sm,Sh];omega)).2 (fun c hc=>Se fun hn=>h5 ⟨c,hc,hn⟩)⟩,h3⟩
theorem Fv{im:By}(hok:iA im):fR 0 (im.take 64) 4=suM∧((bX ((im.drop 38).take 4):Nat):Int)=(iB (im.take 38):Nat)∧¬ ∃ c∈spB (spR (spS im).1),c≠0:=by
 obtain⟨h,h4,h5,h3⟩:=hok;obtain⟨g1,g2,g3,g4,g5,g6⟩:=qR h;obtain⟨a,b,c⟩:=(zU h).1 h5;refine⟨by rw[g1];exact a,by omega,?_⟩;rw[g6];rintro⟨x,hx,hn⟩;exact hn ((Bo (by rw[Sm,Sh];omega)).1 c x hx)
theorem oH(tp:Nat)(io:Option Addr)(ic:Nat)(im:By)(W:World)(ht:TbV W.heap tp)(hv:Vw b8 W.heap io ic im)(hb:im.length≤1099511627776) :
 CA 14 [pT tp,.slice io im.length ic] W fun v w'=>v=.tuple #[.agg (cE (dE im).1).toArray,iV (dE im).2]∧aA nob W w':=by
 have hl63:=hv.RX;have hle:=hv.le;obtain⟨r,er⟩:∃ r,r=W.heap.size:=⟨_,rfl⟩
 have hml:(im.take 64).length=min 64 im.length:=Sh;obtain⟨ys,hys⟩:∃ ys,ys=im.take 64:=⟨_,rfl⟩
 obtain⟨q0,hq0⟩:∃ q0,q0=spQ im:=⟨_,rfl⟩
 have hql:q0.2.length≤64:=by rw[hq0];have:(spQ im).2.length≤(im.take 64).length:=tS _ _ _;omega
 refine cS 99 [(0,_),(1,_)] Tryz.func14 ?_;refine Gz 2 ?_;refine Ov mM rfl ?_;intro w1 hg1 hs1 hf1;have hg1:w1.heap[W.heap.size]?=some (.cells (cE zF).toArray 44 (0,0)):=hg1;rw[←er] at hg1 ⊢;refine Gz 8 ?_;refine cL (Ox (u:=iV (ys.length:Nat)) (PU rfl rfl) (by rw[hys,hml];congr 1;omega)) ?_;refine cL (Ox (u:=.slice io ys.length ic) (OV aP rfl rfl (by rw[hys,hml];omega)) (by rw[bN];rfl)) ?_;refine Ot N7 rfl (FJ io ic ys w1 (by rw[hys];exact(hv.take 64).RY hf1) (by rw[hys,hml];omega)) rfl ?_;rintro _ w2 ⟨p,rfl,hp,hP,hf2⟩;have hlp:=RdO.lt hP;have hz1:=hf1.size;have hz2:=hf2.size;have hsw1:w1.heap.size=W.heap.size+1:=hs1;refine Gz 5 ?_;refine Ov mM rfl ?_;intro w3 hg3 hs3 hf3;have hg3:w3.heap[w2.heap.size]?=some (.cells (cE (suT q0 0).2).toArray 44 (0,0)):=hg3;obtain⟨q,eq⟩:∃ q,q=w2.heap.size:=⟨_,rfl⟩
 rw[←eq] at hg3 ⊢;refine Gz 5 ?_;refine Ot KF rfl (xX p 0 ys 4 w3 (hP.RY hf3) (by rw[hys,hml];omega)) rfl ?_;rintro _ w4 ⟨o4,c4,rfl,ho4,hfr4,hP4,hF4⟩;have hz3:=hf3.size;have hz4:=hF4.size;have hg4:=hF4.obj hg3 (fun h=>by have h:q=p:=h;omega);have hP4:RdL (fun k=>w1.heap.size≤k∧k<w2.heap.size) w4.heap p (suT q0 0).1.1 (suT q0 0).1.2:=by rw[hq0];rw[hys] at hP4;exact hP4
 have hJ4:aA (fun k=>w1.heap.size≤k) w1 w4:=((hf2.trans hf3).any).trans (hF4.mono (fun k h=>by have h:k=p:=h;omega));refine cL (Pw aP ty5 ty9 rfl ho4.vw) ?_;refine cA 6 Lv (vA q w4) ?_;rintro _ w5 ⟨l,rfl,ho5,hl1,hl2,hf5⟩;have hz5:=hf5.size;have hJ5:=hJ4.trans hf5.any;refine Gz 5 ?_;refine Oy (β:=Nat) (fun i=>[(0,pT tp),(1,.slice io im.length ic),(4,pT r),(6,pT p),(7,pT q),(8,.string (bs (fR 0 ys 4))),(26,.slice (some ⟨l,0,none⟩) oW.length 7),(27,iV (oW.length:Nat)),(28,iV i)]) (fun i w=>i≤7∧RdL (fun k=>w1.heap.size≤k∧k<w2.heap.size) w.heap p (suT q0 i).1.1 (suT q0 i).1.2∧w.heap[q]?=some (.cells (cE (suT q0 i).2).toArray 44 (0,0))∧Own (ptO q) 72 w.heap (some ⟨l,0,none⟩) 7 oW∧aA (fun k=>w1.heap.size≤k) w1 w∧w5.heap.size≤w.heap.size) (fun i=>7-i) 0 ⟨rfl,rfl,rfl,rfl,rfl,rfl,rfl,rfl,rfl,trivial⟩ ⟨by decide,hP4.RY hf5,hf5.obj hg4 id,ho5,hJ5,Sa _⟩ ?_;rintro i w6 ⟨hi,hP6,hg6,how,hJ6,hz56⟩;refine fK 2 ?_ ?_<;>intro h29
 ·have hi7:i<7:=by have:(i:Int)<(oW.length:Nat):=h29;have e:oW.length=7:=rfl;omega
  refine Gz 10 ?_;refine cL (Ou xO rfl rfl how.vw.non (by have e:oW.length=7:=rfl;omega)) ?_;refine cL (Ow vG rfl (how.vw.gz 0 i rfl (by show i<7;exact hi7))) ?_;rw[(Da hi7).1];refine Gz 6 ?_;refine Ot KE rfl (by have h:=CS q0 hql i (by omega) _ p w6 hP6;rw[(Da hi7).2] at h;exact h) rfl ?_;rintro _ w7 ⟨rfl,hP7,hF7⟩;have hz7:=hF7.size;have hg7:=hF7.obj hg6 (fun h=>by have h:q=p:=h;omega);have hJ7:=hJ6.trans (hF7.mono (fun k h=>by have h:k=p:=h;show w1.heap.size≤k;omega));have how7:=how.RZ hF7 (fun a ha e=>by cases ha;have e:l=p:=e;omega);refine Gz 1 ?_;refine OF aL rfl rfl rfl hg7 (by have:=zZ (j:=i) (by omega);rw[Tp];exact this) ?_;intro w8 hg8 hs8 hF8;rw[vC (by omega)] at hg8;have hP8:=hP7.RZ hF8 (fun k hk e=>by have e:k=q:=e;have:=hk.2;omega);have hJ8:=hJ7.trans (hF8.mono (fun k h=>by have h:k=q:=h;show w1.heap.size≤k;omega));have how8:=how7.RZ hF8 (fun a ha e=>by cases ha;have e:l=q:=e;omega);refine Gz 7 ?_;exact aG (i+1) ⟨by omega,hP8,hg8,how8,hJ8,by have h:w8.heap.size=w7.heap.size:=hs8;omega⟩ (by show 7-(i+1)<7-i;omega)
 have hi7:i=7:=by have h29:¬ (i:Int)<(oW.length:Nat):=h29;have e:oW.length=7:=rfl;omega
 subst hi7;refine cA 12 Lu (pL q w6) ?_;rintro _ w9 ⟨l2,rfl,ho9,hm1,hm2,hf9⟩;have hz6:=hJ6.size;have hz9:=hf9.size;have hJ9:=hJ6.trans hf9.any;refine Gz 5 ?_;refine Oy (β:=Nat) (fun i=>[(0,pT tp),(1,.slice io im.length ic),(4,pT r),(6,pT p),(7,pT q),(8,.string (bs (fR 0 ys 4))),(37,.slice (some ⟨l2,0,none⟩) oN.length 3),(38,iV (oN.length:Nat)),(39,iV i)]) (fun i w=>i≤3∧RdL (fun k=>w1.heap.size≤k∧k<w2.heap.size) w.heap p (suT q0 (7+i)).1.1 (suT q0 (7+i)).1.2∧w.heap[q]?=some (.cells (cE (suT q0 (7+i)).2).toArray 44 (0,0))∧Own (ptO q) 72 w.heap (some ⟨l2,0,none⟩) 3 oN∧aA (fun k=>w1.heap.size≤k) w1 w) (fun i=>3-i) 0 ⟨rfl,rfl,rfl,rfl,rfl,rfl,rfl,rfl,rfl,trivial⟩ ⟨by decide,hP6.RY hf9,hf9.obj hg6 id,ho9,hJ9⟩ ?_;rintro i w6 ⟨hi,hP6,hg6,how,hJ6⟩;refine fK 2 ?_ ?_<;>intro h40
 ·have hi3:i<3:=by have:(i:Int)<(oN.length:Nat):=h40;have e:oN.length=3:=rfl;omega
  refine Gz 10 ?_;refine cL (Ou xO rfl rfl how.vw.non (by have e:oN.length=3:=rfl;omega)) ?_;refine cL (Ow vG rfl (how.vw.gz 0 i rfl (by show i<3;exact hi3))) ?_;rw[(Db hi3).1];refine Gz 6 ?_;refine Ot KE rfl (by have h:=CS q0 hql (7+i) (by omega) _ p w6 hP6;rw[(Db hi3).2] at h;exact h) rfl ?_;rintro _ w7 ⟨rfl,hP7,hF7⟩;have hz7:=hF7.size;have hg7:=hF7.obj hg6 (fun h=>by have h:q=p:=h;omega);have hJ7:=hJ6.trans (hF7.mono (fun k h=>by have h:k=p:=h;show w1.heap.size≤k;omega));have how7:=how.RZ hF7 (fun a ha e=>by cases ha;have e:l2=p:=e;omega);refine Gz 1 ?_;refine OF aL rfl rfl rfl hg7 (by have:=zZ (j:=7+i) (by omega);rw[Tp];exact this) ?_;intro w8 hg8 hs8 hF8;rw[vC (by omega)] at hg8;have hP8:=hP7.RZ hF8 (fun k hk e=>by have e:k=q:=e;have:=hk.2;omega);have hJ8:=hJ7.trans (hF8.mono (fun k h=>by have h:k=q:=h;show w1.heap.size≤k;omega));have how8:=how7.RZ hF8 (fun a ha e=>by cases ha;have e:l2=q:=e;omega);refine Gz 7 ?_;exact aG (i+1) ⟨by omega,hP8,hg8,how8,hJ8⟩ (by show 3-(i+1)<3-i;omega)
 have hi3:i=3:=by have h40:¬ (i:Int)<(oN.length:Nat):=h40;have e:oN.length=3:=rfl;omega
 subst hi3;have eS:suT q0 10=spS im:=by rw[hq0];rfl
 have hP6:RdL (fun k=>w1.heap.size≤k∧k<w2.heap.size) w6.heap p (suT q0 10).1.1 (suT q0 10).1.2:=hP6;have hg6:w6.heap[q]?=some (.cells (cE (suT q0 10).2).toArray 44 (0,0)):=hg6;rw[eS] at hP6 hg6;obtain⟨s,hs⟩:∃ s,s=(spS im).1:=⟨_,rfl⟩
 rw[←hs] at hP6;have hsl:s.2.length≤64:=by rw[hs,←eS];have:=CR q0 10 (by decide);omega
 refine cA 12 Ls (vB p s.1 s.2 w6 hP6) ?_;rintro _ wq ⟨rfl,hwq⟩;subst wq;rw[show lM s.1 s.2=spL s from rfl];refine Gz 6 ?_;refine Ot KE rfl (Ai p s.1 s.2 4 w6 hP6 (by omega)) rfl ?_;rintro _ w10 ⟨rfl,hP10,hF10⟩;have hP10:RdL (fun k=>w1.heap.size≤k∧k<w2.heap.size) w10.heap p (spR s).1 (spR s).2:=hP10;have hrl:(spR s).2.length≤s.2.length:=tS _ _ _;have hJ10:=hJ6.trans (hF10.mono (fun k h=>by have h:k=p:=h;show w1.heap.size≤k;omega));have hg10:=hF10.obj hg6 (fun h=>by have h:q=p:=h;omega);obtain⟨vn,hvn⟩:∃ vn,vn=bX (fR (bZ s.1 4) s.2 4):=⟨_,rfl⟩
 have hvn4:vn<4294967296:=by have h1:=qM (fR (bZ s.1 4) s.2 4);have h2:=Ax s.1 s.2 4;rw[←hvn] at h1;exact Te h1 (by have:=Nat.pow_le_pow_right (n:=256) (by decide) h2;omega)
 rw[←hvn];refine cL (OH (n:=((vn:Nat):Int)) is3 K6 rfl (qL hvn4)) ?_;refine cA 7 Ls (vB p (spR s).1 (spR s).2 w10 hP10) ?_;rintro _ wq ⟨rfl,hwq⟩;subst wq;rw[show lM (spR s).1 (spR s).2=spL (spR s) from rfl];refine Ot KF rfl (xX p (spR s).1 (spR s).2 (spL (spR s)) w10 hP10 (by omega)) rfl ?_;rintro _ w11 ⟨o11,c11,rfl,ho11,hfr11,hP11,hF11⟩;have hJ11:=hJ10.trans (hF11.mono (fun k h=>by have h:k=p:=h;show w1.heap.size≤k;omega));have hg11:=hF11.obj hg10 (fun h=>by have h:q=p:=h;omega);have hP11:RdL (fun k=>w1.heap.size≤k∧k<w2.heap.size) w11.heap p (spE (spR s)) (nX (spR s).1 (spR s).2 (spL (spR s))):=hP11;have ho11:Own b8 5 w11.heap o11 c11 (spB (spR s)):=ho11;rw[show fR (spR s).1 (spR s).2 (spL (spR s))=spB (spR s) from rfl];have hW11:aA nob W w11:=(hf1.any.RV hJ11 (fun k h=>.inl h)).fresh (fun k h=>by omega);have hr11:=hJ11.obj hg1 (fun h=>by have h:w1.heap.size≤r:=h;omega);refine Gz 9 ?_;refine Ot AS rfl (Fk p _ _ w11 hP11) rfl ?_;rintro _ wq ⟨rfl,hwq⟩;subst wq;refine fK 0 ?_ ?_<;>intro h61
 ·have hno:¬ iA im:=fun h=>h61 (by rw[hs];exact(qR h.1).2.2.2.2.1);refine Gz 10 ?_;refine cL (bU (cE zF) pS mM) ?_;refine sA rfl cU (by exact cQ _) hr11 ?_;intro w20 hg20 hs20 hf20;have hFx:aA nob W w20:=hW11.tw hf20;refine Gz 5 ?_;refine rC hg20 cU ?_;have e:dE im=(zF,2):=R3 hno;exact⟨_,rfl,by rw[e],hFx⟩
 refine fW 3 ?_ ?_<;>intro h65
 ·have hno:¬ iA im:=fun h=>by have:=h.1;omega
  refine Gz 6 ?_;refine cL (bU (cE zF) pS mM) ?_;refine sA rfl cU (by exact cQ _) hr11 ?_;intro w20 hg20 hs20 hf20;have hFx:aA nob W w20:=hW11.tw hf20;refine Gz 5 ?_;refine rC hg20 cU ?_;have e:dE im=(zF,2):=R3 hno;exact⟨_,rfl,by rw[e],hFx⟩
 have h64:64≤im.length:=by omega
 obtain⟨g1,g2,g3,g4,g5,g6⟩:=qR h64;rw[←hs] at g3 g4;have g4:((vn:Nat):Int)=(bX ((im.drop 38).take 4):Nat):=by rw[hvn];exact g4
 rw[g2] at hg11;rw[g3];refine Gz 9 ?_;refine OZ (Pf (b:=suM) rfl rfl) rfl (fun h69=>?_) (fun h69=>?_)
 ·have hm1:fR 0 (im.take 64) 4=suM:=by rw[←hys];exact h69
  refine Gz 6 ?_;refine cW (Ox (u:=.slice io (im.take 38).length ic) (OV aP rfl rfl (by omega)) (by rw[bN,Sh,Nat.min_eq_left (by omega)];rfl)) ?_;refine OC rfl rfl KD rfl (BA tp io ic (im.take 38) w11 (hW11.obj ht id) ((hv.take 38).RY hW11)) rfl ?_;rintro _ wq ⟨rfl,hwq⟩;subst wq;refine fW 0 ?_ ?_<;>intro h78
  ·have hm2:((bX ((im.drop 38).take 4):Nat):Int)=(iB (im.take 38):Nat):=by rw[←g4];exact h78
   refine fW 6 ?_ ?_<;>intro h85
   ·refine Gz 2 ?_;refine cW (OG (cs:=cE (suF im)) cU rfl (bO hg11 0 rfl)) ?_;refine OC rfl rfl Lr rfl (zX (suF im) w11) rfl ?_;rintro _ w12 ⟨rfl,hf12⟩;have hr12:=hf12.obj hr11 id;have hg12:=hf12.obj hg11 id;have hW12:=hW11.trans hf12;by_cases h89:jK (suF im)
    ·rw[R8 h89];refine Gz 8 ?_;refine cL (OL rfl) ?_;refine Gz 2 ?_;refine OC rfl rfl N6 rfl (uJ (R:=fun c=>c≠0) 51 N5 o11 c11 (spB (spR s)) w12 (ho11.RY hf12).vw Bz) rfl ?_;rintro _ wq ⟨rfl,hwq⟩;subst wq;by_cases h95:∃ c∈spB (spR s),c≠0
     ·rw[R8 h95];have hno:¬ iA im:=fun h=>(Fv h).2.2 (by rw[←hs];exact h95);refine Gz 6 ?_;refine cL (bU (cE zF) pS mM) ?_;refine sA rfl cU (by exact cQ _) (by first|exact hr12|exact hr11) ?_;intro w20 hg20 hs20 hf20;have hFx:aA nob W w20:=by first|exact hW12.tw hf20|exact hW11.tw hf20
      refine Gz 5 ?_;refine rC hg20 cU ?_;have e:dE im=(zF,2):=R3 hno;exact⟨_,rfl,by rw[e],hFx⟩
     rw[R5 h95];have hyes:iA im:=K8 h64 hm1 hm2 h85 h89 (by rw[←hs];exact h95);refine Gz 8 ?_;refine cL (OG (cs:=cE (suF im)) cU rfl (bO hg12 0 rfl)) ?_;refine sA rfl cU (by exact cQ _) hr12 ?_;intro w20 hg20 hs20 hf20;have hFx:aA nob W w20:=hW12.tw hf20;refine Gz 4 ?_;refine rC hg20 cU ?_;have e:dE im=(suF im,0):=R4 hyes;exact⟨_,rfl,by rw[e],hFx⟩
    rw[R5 h89];have hno:¬ iA im:=fun h=>h89 h.2.1;refine Gz 8 ?_;refine cL (OL rfl) ?_;refine Gz 9 ?_;refine cL (bU (cE zF) pS mM) ?_;refine sA rfl cU (by exact cQ _) (by first|exact hr12|exact hr11) ?_;intro w20 hg20 hs20 hf20;have hFx:aA nob W w20:=by first|exact hW12.tw hf20|exact hW11.tw hf20
    refine Gz 5 ?_;refine rC hg20 cU ?_;have e:dE im=(zF,2):=R3 hno;exact⟨_,rfl,by rw[e],hFx⟩
   have hno:¬ iA im:=fun h=>h85 h.2.2.2;refine Gz 12 ?_;refine cL (OL rfl) ?_;refine Gz 9 ?_;refine cL (bU (cE zF) pS mM) ?_;refine sA rfl cU (by exact cQ _) (by first|exact hr12|exact hr11) ?_;intro w20 hg20 hs20 hf20;have hFx:aA nob W w20:=by first|exact hW12.tw hf20|exact hW11.tw hf20
   refine Gz 5 ?_;refine rC hg20 cU ?_;have e:dE im=(zF,2):=R3 hno;exact⟨_,rfl,by rw[e],hFx⟩
  have hno:¬ iA im:=fun h=>h78 (by rw[g4];exact(Fv h).2.1);refine Gz 19 ?_;refine cL (OL rfl) ?_;refine Gz 9 ?_;refine cL (bU (cE zF) pS mM) ?_;refine sA rfl cU (by exact cQ _) (by first|exact hr12|exact hr11) ?_;intro w20 hg20 hs20 hf20;have hFx:aA nob W w20:=by first|exact hW12.tw hf20|exact hW11.tw hf20
  refine Gz 5 ?_;refine rC hg20 cU ?_;have e:dE im=(zF,2):=R3 hno;exact⟨_,rfl,by rw[e],hFx⟩
 have hno:¬ iA im:=fun h=>h69 (by rw[hys];exact(Fv h).1);refine Gz 28 ?_;refine cL (OL rfl) ?_;refine Gz 9 ?_;refine cL (bU (cE zF) pS mM) ?_;refine sA rfl cU (by exact cQ _) (by first|exact hr12|exact hr11) ?_;intro w20 hg20 hs20 hf20;have hFx:aA nob W w20:=by first|exact hW12.tw hf20|exact hW11.tw hf20
 refine Gz 5 ?_;refine rC hg20 cU ?_;have e:dE im=(zF,2):=R3 hno;exact⟨_,rfl,by rw[e],hFx⟩
theorem G5(x:Ent):∀ v∈tO x,v.oneCell'=true:=(hO x).2
theorem G8(x:Ent)(last:By)(W:World)(hx:x.1.length≤maxLen):CA 172 [.agg (tO x).toArray,.string (bs last)] W fun v w'=>v=.bool (decide (iD x last))∧aA nob W w':=by
 refine cS 35 [(0,_),(1,_)] Tryz.func172 ?_;refine Gz 2 ?_;refine OR rfl rfl ?_;intro w1 hg1 hs1 hf1;have hg2:w1.heap[W.heap.size]?=some (.cells (tO x).toArray 157 (0,0)):=hg1;obtain⟨g,eg⟩:∃ g,g=W.heap.size:=⟨_,rfl⟩
 rw[←eg] at hg2 ⊢;refine cA 7 JJ (zP x.1 w1 hx) ?_;rintro _ w2 ⟨rfl,hf2⟩;have hg2:=hf2.obj hg2 id;have hW:=hf1.trans hf2;refine fK 0 ?_ ?_<;>intro h8
 ·have hv0:cM x.1=0:=h8;refine Gz 4 ?_;refine OW rfl rfl (OP (P1 (a:=x.1) (b:=last) rfl rfl)) rfl (fun h13=>?_) (fun h13=>?_)
  ·have hlt:Su last x.1=true:=by rw[fO] at h13;simpa using h13
   refine fW 4 ?_ ?_<;>intro h18
   ·refine fW 4 ?_ ?_<;>intro h23
    ·refine fW 4 ?_ ?_<;>intro h28
     ·refine fW 4 ?_ ?_<;>intro h33
      ·refine Gz 6 ?_;exact⟨_,rfl,by rw[R8 (show iD x last from ⟨hv0,hlt,h18,h23,h28,h33⟩)],hW⟩
      refine Gz 6 ?_;exact⟨_,rfl,by rw[R5 (fun h:iD x last=>by obtain⟨m1,m2,m3,m4,m5,m6⟩:=h;first|exact h8 m1|exact hlt m2|omega)],hW⟩
     refine Gz 11 ?_;exact⟨_,rfl,by rw[R5 (fun h:iD x last=>by obtain⟨m1,m2,m3,m4,m5,m6⟩:=h;first|exact h8 m1|exact hlt m2|omega)],hW⟩
    refine Gz 16 ?_;exact⟨_,rfl,by rw[R5 (fun h:iD x last=>by obtain⟨m1,m2,m3,m4,m5,m6⟩:=h;first|exact h8 m1|exact hlt m2|omega)],hW⟩
   refine Gz 21 ?_;exact⟨_,rfl,by rw[R5 (fun h:iD x last=>by obtain⟨m1,m2,m3,m4,m5,m6⟩:=h;first|exact h8 m1|exact hlt m2|omega)],hW⟩
  have hlt:¬ Su last x.1=true:=by rw[fO] at h13;simpa using h13
  refine Gz 26 ?_;exact⟨_,rfl,by rw[R5 (fun h:iD x last=>by obtain⟨m1,m2,m3,m4,m5,m6⟩:=h;first|exact h8 m1|exact hlt m2|omega)],hW⟩
 refine Gz 31 ?_;exact⟨_,rfl,by rw[R5 (fun h:iD x last=>by obtain⟨m1,m2,m3,m4,m5,m6⟩:=h;first|exact h8 m1|exact hlt m2|omega)],hW⟩
theorem Ge{x:Ent}{last:By}(h:iD x last):x.1.length≤255:=(nD h).1
def chainB:By→List Ent→Bool
|_,[]=>true
|last,x::r=>decide (iD x last) && chainB x.1 r
theorem tZ:∀ (L:List Ent) (last:By),chainB last L=true↔cF last L
|[],_=>by simp[chainB,cF]
|x::r,last=>by simp only[chainB,cF,Bool.and_eq_true,decide_eq_true_eq,tZ r]
instance (last:By)(L:List Ent):Decidable (cF last L):=decidable_of_iff _ (tZ L last)
theorem WrO.bound{cs:Int→Value→List Value}{T:TypeId}{D D':Nat→Prop}{H:Array Obj}{p:Nat}{E:Int}{xs:By}(h:WrO cs T D H p E xs)(hd:∀ k,D k→k<H.size→D' k):WrO cs T D' H p E xs:=by
 have hl:=h.lt;obtain⟨ao,c,hg,ho,h1,h2,h3⟩:=h;exact⟨ao,c,hg,ho,h1,hd _ h2 hl,fun k hk=>hd k (h3 k hk) (by obtain⟨a,ha,rfl⟩:=hk;exact ho.lt a ha)⟩
def lH(L:List Ent):By×Int:=if cF [] L then (bK L,0) else ([],1)
theorem xA:∀ {L:List Ent} {last:By} {i:Nat} {x:Ent},cF last L→L[i]?=some x→iD x (if i=0 then last else (L.getD (i-1) Ck).1)
|[],_,_,_,_,h=>by simp at h
|y::r,last,0,x,h,hx=>by simp at hx;subst hx;exact h.1
|y::r,last,i+1,x,h,hx=>by
   have:=xA (i:=i) h.2 (by simpa using hx);rw[R3 (by omega)];by_cases hi:i=0
   ·subst hi;simpa using this
   · rw[R3 hi] at this
     have e:(y::r).getD (i+1-1) Ck=r.getD (i-1) Ck:=by
      obtain⟨k,rfl⟩:∃ k,i=k+1:=⟨i-1,by omega⟩
      simp
     rw[e];exact this
theorem rQ{L:List Ent}{i:Nat}{x:Ent}(hx:L[i]?=some x):L.take (i+1)=L.take i++[x]:=by
 obtain⟨h,rfl⟩:=R9.1 hx;exact Sv h
theorem BX{L:List Ent}{i:Nat}(h0:0<i)(h:i≤L.length):sV (L.take i)=(L.getD (i-1) Ck).1:=by
 obtain⟨k,rfl⟩:∃ k,i=k+1:=⟨i-1,by omega⟩
 have hk:k<L.length:=by omega
 rw[rQ (R7 hk),BY];simp[Sj,hk]
theorem tM{L:List Ent}{last:By}(h:cF last L):(bK L).length≤261*L.length:=by
 induction L generalizing last with
|nil=>simp[bK]
|cons x r ih=>
   have h1:=ih h.2;have h2:=Ge h.1;show (kI x++bK r).length≤_;rw[R6,nW,Sq];omega
theorem Oh{x:Ent}(h:I2 x):¬ eO x.2.1 1:=eK (m:=255) (by decide) (by decide) h.2.1 (by have:=h.2.2.1;omega) (by decide)
theorem Og{x:Ent}(h:I2 x):¬ eO x.2.2 4:=eK (m:=4294967295) (by decide) (by decide) h.2.2.2.1 h.2.2.2.2 (by decide)
section
open Go Go.RowKit Go.Maps
theorem Bv{ps qs:List (NdH×Nd)}(h:qs.Perm ps)(ht:¬ cJ (nds ps)):¬ cJ (nds qs):=by
 unfold cJ at *;rw[S5] at *;exact((h.map (·.2)).pairwise_iff (R:=fun a b:Nd=>a.names≠b.names) (fun h e=>h e.symm)).2 ht
theorem JX{ps:List (NdH×Nd)}(ht:¬ cJ (nds ps)){i j:Nat}{p q:NdH×Nd}(hij:i<j)(hp:(eZ ps)[i]?=some p)(hq:(eZ ps)[j]?=some q):cK p.2.names q.2.names=true:=by
 have e1:=R9.1 hp;have e2:=R9.1 hq;have h:=SR.1 (CU ps) i j e1.1 e2.1 hij;rw[e1.2,e2.2] at h;rcases iX.1 h with e|h
 ·exact absurd ((eY (eZ ps)).2 ⟨i,j,p,q,hij,hp,hq,e.symm⟩) (Bv (kC ps) ht)
 ·exact h
theorem Cr{ps qs:List (NdH×Nd)}(hq:nds qs=nds (fU ps)){i:Nat}{q:NdH×Nd}(h:qs[i]?=some q):∃ p,(eZ ps)[i]?=some p∧q.2=(dO (aQ (eZ ps)) p).2:=by
 have h1:=dI h;rw[hq] at h1;simp only[nds,fU,Eg,SU,Sn] at h1;obtain⟨a,⟨p,hp,e⟩,e2⟩:=h1;exact⟨p,hp,by rw[←e2,←e]⟩
theorem Jo{ps qs:List (NdH×Nd)}(hq:nds qs=nds (fU ps)):qs.length=ps.length:=by
 have:=congrArg SJ hq;have h2:=(kC ps).length_eq;simp[nds,fU,Eg] at this;omega
theorem KQ{ps qs:List (NdH×Nd)}(ht:¬ cJ (nds ps))(hq:nds qs=nds (fU ps)){i j:Nat}{p q:NdH×Nd}(hij:i<j)(hp:qs[i]?=some p)(h:qs[j]?=some q):cK p.2.names q.2.names=true:=by
 obtain⟨a,ha,e1⟩:=Cr hq hp;obtain⟨b,hb,e2⟩:=Cr hq h;have:=JX ht hij ha hb;rw[e1,e2];exact this
theorem Er(a:List By):cK a []=false:=by cases a<;>rfl
theorem D2{l:List Nd}(h:plc l=0):eM l []∧∀ n∈l,n.names≠[]→eM l n.names.dropLast:=by
 unfold plc at h;by_cases h0:1024<l.length
 ·rw[R4 h0] at h;cases h
 · rw[R3 h0] at h
   by_cases h1:nmd l=0
   · rw[R3 (fun g=>g h1)] at h
     by_cases h2:eM l []
     · rw[R3 (fun g=>g h2)] at h
       by_cases h3:∃ n∈l,n.names≠[]∧¬ eM l n.names.dropLast
       ·rw[R4 h3] at h;cases h
       ·exact⟨h2,fun n hn hne=>Se fun hd=>h3 ⟨n,hn,hne,hd⟩⟩
     ·rw[R4 h2] at h;cases h
   ·rw[R4 h1] at h;exact absurd h h1
def rX(ps:List (NdH×Nd))(i:Nat):Nat:=(bR (aQ ((eZ ps).take i))).length
theorem Jp{ps qs:List (NdH×Nd)}(hq:nds qs=nds (fU ps)){i:Nat}{q:NdH×Nd}(h:qs[i]?=some q):1≤q.2.ino∧q.2.ino≤(rX ps i:Int)+1∧((rX ps (i+1):Nat):Int)=if (rX ps i:Int)<q.2.ino then q.2.ino else (rX ps i:Int):=by
 obtain⟨p,hp,e⟩:=Cr hq h;have ei:q.2.ino=iT (aQ (eZ ps)) p.2.ino:=by rw[e];rfl
 rw[ei];refine⟨F3 _ _,?_⟩;unfold rX;rw[nL hp];by_cases hm:p.2.ino∈aQ ((eZ ps).take i)
 · have h1:iT (aQ (eZ ps)) p.2.ino≤((bR (aQ ((eZ ps).take i))).length:Int):=by
    obtain⟨r,hr⟩:=Ad (aQ ((eZ ps).take i)) (p.2.ino::aQ ((eZ ps).drop (i+1)));rw[mE hp];unfold iT;rw[hr,List.idxOf_append,R4 (gN.2 hm)];have:=Ux.2 (gN.2 hm);omega
   rw[mT hm];exact⟨by omega,by rw[R3 (by omega)]⟩
 · have h1:iT (aQ (eZ ps)) p.2.ino=((bR (aQ ((eZ ps).take i))).length:Nat)+1:=by rw[mE hp,As hm]
   rw[mU hm,h1];exact⟨by omega,by rw[R4 (by omega)];omega⟩
end
section
open Go Go.RowKit Go.Maps
theorem kX{l s:List By}:iE l s↔l≠[]∧l.dropLast=s:=by
 unfold iE;rw[drop_take];constructor
 · rintro⟨h1,h2⟩
   exact⟨fun e=>by rw[e] at h1;simp at h1,by rw[show l.length-1=s.length by omega];exact h2⟩
 · rintro⟨h1,h2⟩
   have h0:=Sk.2 h1;have h3:s.length=l.length-1:=by rw[←h2,Sh];omega
   exact⟨by omega,by rw[h3];exact h2⟩
section
variable {ps qs:List (NdH×Nd)}
theorem yA(qs:List (NdH×Nd)){i:Nat}(h:i<qs.length):∃ p,qs[i]?=some p∧nmG qs i=p.2.names:=⟨_,R7 h,oR (R7 h)⟩
end
end
def pV(b:By):Prop:=∀ i,i<b.length→b.getD i 0=0
instance (b:By):Decidable (pV b):=by unfold pV;exact inferInstance
theorem Fb(o:Option Addr)(c:Nat)(b:By)(W:World)(hv:Vw b8 W.heap o c b) :
 CA 210 [.slice o b.length c,.int .u8 0] W fun v w'=>∃ o' n c',v=.slice o' n c'∧(n=0↔pV b)∧w'=W:=by
 have hlen:=hv.RX;refine cS 21 [(0,_),(1,_)] Tryz.func210 ?_;refine Gz 7 ?_;refine Oy (β:=Nat×(Option Addr×Nat)) (fun⟨i,⟨oi,ci⟩⟩=>[(0,.slice oi (b.drop i).length ci),(1,.int .u8 0)]) (fun⟨i,⟨oi,ci⟩⟩ w=>i≤b.length∧(∀ j,j<i→b.getD j 0=0)∧Vw b8 W.heap oi ci (b.drop i)∧w=W) (fun⟨i,⟨oi,ci⟩⟩=>b.length-i) ⟨0,⟨o,c⟩⟩ ⟨rfl,rfl,trivial⟩ ⟨Sf _,by intro j hj;omega,hv,rfl⟩ ?_;rintro⟨i,⟨oi,ci⟩⟩ w2 ⟨hi,hz,hvi,hw2⟩;subst hw2;have hdl0:=Sm (i:=i) (l:=b);have hci:=hvi.le;refine fK 5 ?_ ?_<;>intro h7
 ·have hdl:0<(b.drop i).length:=by omega
  refine Gz 2 ?_;refine cW (Ou aP rfl rfl hvi.non (by omega)) ?_;refine cW (Ow uL rfl (hvi.gz 0 0 rfl (by omega))) ?_;refine fW 1 ?_ ?_<;>intro h13
  ·have h13:(((b.drop i).getD 0 0).toNat:Int)=0:=h13;have h0:b.getD i 0=0:=by rw[Sj,TX,T2] at h13;have h13:((b.getD i 0).toNat:Int)=0:=h13;exact TK.1 (by show _=0;omega)
   refine Gz 9 ?_;refine cL (O7 aP rfl rfl (by omega)) ?_;refine Gz 3 ?_;have hcd:=Bb (n:=1) hvi (by decide) (by omega);rw[show (1:Int).toNat=1 from rfl,T5] at hcd;refine ON ⟨i+1,⟨_,_⟩⟩ ⟨?_,rfl,trivial⟩ ⟨by omega,?_,hcd,rfl⟩ (by show b.length-(i+1)<b.length-i;omega)
   · show some (Value.slice _ _ _)=some (Value.slice _ _ _)
     rw[show (1:Int).toNat=1 from rfl,Sm,Sm,Nat.sub_sub]
   · intro j hj
     by_cases hji:j=i
     ·rw[hji];exact h0
     ·exact hz j (by omega)
  have h13:¬ (((b.drop i).getD 0 0).toNat:Int)=0:=h13;have hne:b.getD i 0≠0:=fun e=>h13 (by rw[Sj,TX,T2];show ((b.getD i 0).toNat:Int)=0;rw[e];rfl);refine fK 14 ?_ ?_<;>intro h19
  ·refine Gz 11 ?_
   first
   |exact absurd h19 (by omega)
   |(have h0:b.length≤i:=by omega
     exact⟨_,rfl,none,0,0,rfl,⟨fun _=>fun j hj=>hz j (by omega),fun _=>rfl⟩,rfl⟩)
  refine Gz 13 ?_
  first
  |exact absurd h19 (by omega)
  |(have h0:i<b.length:=by omega
    exact⟨_,rfl,oi,(b.drop i).length,ci,rfl,⟨fun e=>absurd e (by omega),fun h=>absurd (h i h0) hne⟩,rfl⟩)
 refine fK 20 ?_ ?_<;>intro h19
 ·refine Gz 11 ?_
  first
  |exact absurd h19 (by omega)
  |(have h0:b.length≤i:=by omega
    exact⟨_,rfl,none,0,0,rfl,⟨fun _=>fun j hj=>hz j (by omega),fun _=>rfl⟩,rfl⟩)
 refine Gz 13 ?_
 first
 |exact absurd h19 (by omega)
 |(have h0:i<b.length:=by omega
   exact⟨_,rfl,oi,(b.drop i).length,ci,rfl,⟨fun e=>absurd e (by omega),fun h=>absurd (h i h0) hne⟩,rfl⟩)
theorem Eu:pV []:=fun i h=>absurd h (by simp)
theorem Fc(o:Option Addr)(c:Nat)(b:By)(W:World)(hv:Vw b8 W.heap o c b) :
 CA 168 [.slice o b.length c,.string (bs [0])] W fun v w'=>∃ o' n c',v=.slice o' n c'∧(n=0↔pV b)∧w'=W:=by
 have hlen:=hv.RX;refine cS 36 [(0,_),(1,_)] Tryz.func168 ?_;refine fK 10 ?_ ?_<;>intro h9
 ·have h0:b=[]:=Sg.1 (by omega);refine Gz 11 ?_;exact⟨_,rfl,none,0,0,rfl,⟨fun _=>by rw[h0];exact Eu,fun _=>rfl⟩,rfl⟩
 refine Gz 9 ?_;refine cL (PY (Pf (a:=[0]) (b:=[]) rfl rfl) (by decide)) ?_;refine Gz 9 ?_;refine cL (Pg ty9 rfl) ?_;refine cL (O5 (OX rfl rfl) (by decide)) ?_;refine Gz 2 ?_;refine cW (Qq ty9 rfl rfl (by decide)) ?_;refine cW (O5 (Pp rfl rfl) (by decide)) ?_;refine Gz 8 ?_;refine cL (Qq ty9 rfl rfl (by decide)) ?_;refine cA 0 LF (Fb o c b W hv) ?_;rintro _ w1 ⟨o1,n1,c1,rfl,hn,hw1⟩;subst hw1;refine Gz 6 ?_;exact⟨_,rfl,_,_,_,rfl,hn,rfl⟩
theorem IS(o:Option Addr)(c:Nat)(b:By)(W:World)(hv:Vw b8 W.heap o c b) :
 CA 119 [.slice o b.length c] W fun v w'=>v=.bool (decide (pV b))∧w'=W:=by
 refine cS 7 [(0,_)] Tryz.func119 ?_;refine cA 8 LZ (Fc o c b W hv) ?_;rintro _ w1 ⟨o1,n1,c1,rfl,hn,hw1⟩;subst hw1;refine fK 1 ?_ ?_<;>intro h6
 ·refine Gz 5 ?_;refine⟨_,rfl,?_,rfl⟩;congr 1
  first
  |exact(R8 (hn.1 (by omega))).symm
  |exact(R5 (fun h=>h6 (by have:=hn.2 h;omega))).symm
 refine Gz 5 ?_;refine⟨_,rfl,?_,rfl⟩;congr 1
 first
 |exact(R8 (hn.1 (by omega))).symm
 |exact(R5 (fun h=>h6 (by have:=hn.2 h;omega))).symm
def zJ(W:World)(xs:By):Value→World→Prop:=fun v w'=>∃ ao' cap',v=.slice ao' xs.length cap'∧Own b8 5 w'.heap ao' cap' xs∧Fr W.heap.size ao'∧aA nob W w'
theorem EL(cap:Nat)(xs:By)(W:World)(hv:Vw b8 W.heap none cap xs):CA 61 [.slice none xs.length cap] W (zJ W xs):=by
 have hx:xs=[]:=SB (by
  rcases Nat.eq_zero_or_pos xs.length with h|h
  ·exact h
  ·exact absurd rfl (hv.non (by omega)))
 subst hx;refine cS 8 [(0,_)] Tryz.func61 ?_;refine Gz 9 ?_;refine cL (OU aP rfl rfl) ?_;refine Gz 11 ?_;exact⟨_,rfl,none,0,rfl,Rr,Rp,Rk _ _⟩
theorem Co(a:Addr)(cap:Nat)(xs:By)(W:World)(hv:Vw b8 W.heap (some a) cap xs)(hb:xs.length≤140737488355328):CA 61 [.slice (some a) xs.length cap] W (zJ W xs):=by
 have hl:=hv.RX;refine cS 8 [(0,_)] Tryz.func61 ?_;refine Gz 9 ?_;refine cL (OU aP rfl rfl) ?_;refine Gz 7 ?_;refine Py b8 aP rfl ?_;intro w1 ho1 hs1 hf1;refine Gz 1 ?_;refine OJ cP aP rfl rfl ho1 (hv.RY hf1) (by simp only[SL];omega) (by simp only[SL];unfold maxLen;omega) rfl ?_;intro ao2 c2 w2 ho2 hf2 hr2 hn2;refine Gz 5 ?_;have hfr:Fr W.heap.size (some (⟨W.heap.size,0,none⟩:Addr)):=fun a ha=>by cases ha;exact Sa _
 refine⟨_,rfl,ao2,c2,rfl,ho2,fun a ha=>?_,hf1.RV hf2 hfr.step⟩;rcases hr2 a ha with h|h
 ·exact hfr a h
 ·have:=hf1.size;omega
theorem Bj(ao:Option Addr)(cap:Nat)(xs:By)(W:World)(hv:Vw b8 W.heap ao cap xs)(hb:xs.length≤140737488355328):CA 61 [.slice ao xs.length cap] W (zJ W xs):=by
 cases ao with
|none=>exact EL cap xs W hv
|some a=>exact Co a cap xs W hv hb
def KpB(sb nb:Nat)(W W':World):Prop:=W'.heap[sb]?=W.heap[sb]?∧W'.heap[nb]?=W.heap[nb]?
theorem KpB.trans{sb nb:Nat}{A B C:World}(h:KpB sb nb A B)(k:KpB sb nb B C):KpB sb nb A C:=⟨k.1.trans h.1,k.2.trans h.2⟩
def ckN(len k:Nat):Nat:=(len+k-1)/k
def ckE(len k i:Nat):Nat:=min k (len-i*k)
def ckV(o:Option Addr)(len k i:Nat):Value:=.slice (aU o (i*k+ckE len k i) (i*k) 1) (ckE len k i) (ckE len k i)
theorem JP{len k i:Nat}(hk:1≤k):i<ckN len k↔i*k<len:=by
 unfold ckN;rw[Nat.lt_div_iff_mul_lt (by omega)];omega
theorem Jm(i k:Nat):(i+1)*k=i*k+k:=Nat.succ_mul i k
def ckA(sb nb:Nat):List Value:=[pT sb,pT nb]
theorem Hl(sb nb:Nat)(o:Option Addr)(c len k:Nat)(w0:World)(hs:w0.heap[sb]?=some (.cells [Value.slice o len c].toArray 25 (0,0)))(hn:w0.heap[nb]?=some (.cells [Value.int .i64 k].toArray 3 (0,0)))
 (hk:1≤k)(hk2:k≤1099511627776)(hl:len≤c)(hlb:len≤1099511627776) :
 SeqStopsK Fence.wide 3 Tryz.prog 167 (ckA sb nb).toArray (fun i:Fin (ckN len k)=>#[ckV o len k i.1]) (KpB sb nb) (fun xs=>xs.map (·.1)=Tw (ckN len k)) (fun _=>True) (ckN len k) w0:=by
 intro l J Jx W hW hJ hJx hY h0;refine callsIn_wide.2 ?_;have hs1:W.heap[sb]?=some (.cells [Value.slice o len c].toArray 25 (0,0)):=(hW.block sb (Sb.1 hs).1).trans hs;have hn1:W.heap[nb]?=some (.cells [Value.int .i64 k].toArray 3 (0,0)):=(hW.block nb (Sb.1 hn).1).trans hn;have ea:(#[Value.func (.yield l) #[] #[]]++(ckA sb nb).toArray)=[.func (.yield l) #[] #[],pT sb,pT nb].toArray:=by simp[ckA]
 rw[ea];refine cS 31 [(0,_),(1,_),(2,_)] Tryz.func167 ?_;refine Gz 6 ?_;refine Oy (β:=Nat) (fun i=>[(0,.func (.yield l) #[] #[]),(1,pT sb),(2,pT nb),(4,iV (i*k:Nat))]) (fun i w=>i≤ckN len k∧(∃ xs:List (Fin (ckN len k)),xs.map (·.1)=Tw i∧J xs w)∧w.heap[sb]?=some (.cells [Value.slice o len c].toArray 25 (0,0))∧w.heap[nb]?=some (.cells [Value.int .i64 k].toArray 3 (0,0))) (fun i=>ckN len k-i) 0 ⟨rfl,rfl,rfl,(by rw[Nat.zero_mul];rfl),trivial⟩ ⟨Sf _,⟨[],rfl,h0⟩,hs1,hn1⟩ ?_;rintro i w ⟨hi,⟨xs,hx,hJw⟩,hs2,hn2⟩;have hxl:i=xs.length:=by have:=congrArg SJ hx;simpa using this.symm
 refine Gz 4 ?_;refine cL (Ow aT rfl (aY hs2 rfl)) ?_;refine fK 1 ?_ ?_<;>intro h9
 ·have hilt:i<ckN len k:=(JP hk).2 (by omega);have hik:i*k<len:=by omega
  obtain⟨e,he⟩:∃ e,e=ckE len k i:=⟨_,rfl⟩
  have he2:e=min k (len-i*k):=he;have hcv:ckV o len k i=.slice (aU o (i*k+e) (i*k) 1) e e:=by unfold ckV;rw[←he]
  refine Gz 8 ?_;refine Pe 7 [0,1,2,3,4,5,6] aM (by kernel_rfl) ?_;refine xC rfl (Ow aL rfl (aY hn2 rfl)) ?_;refine xC rfl (Ow aT rfl (aY hs2 rfl)) ?_;refine Gz 1 ?_;refine xC rfl (O7 aP rfl rfl (by omega)) ?_;refine Gz 1 ?_;refine xC rfl (Ox (u:=iV (e:Int)) (PU rfl rfl) (by rw[he2];congr 1;omega)) ?_;refine Gz 4 ?_;refine Qk 3 ?_;refine Si.calm (Oz rfl) rfl ?_;refine Si.calm (Ow aT rfl (aY hs2 rfl)) rfl ?_;refine Si.calm (Oz rfl) rfl ?_;refine Si.calm (Oz rfl) rfl ?_;refine Si.calm (Oz rfl) rfl ?_;refine Si.calm (Pb rfl rfl (by omega)) rfl ?_;refine Si.calm (Oz rfl) rfl ?_;refine Si.calm (Oz rfl) rfl ?_;refine Si.calm (Pb rfl rfl (by omega)) rfl ?_;refine Si.calm (Ox (u:=ckV o len k i) (Pr aP rfl rfl rfl rfl (by omega) (by omega) (by omega)) (by rw[hcv,show ((i*k:Nat):Int).toNat=i*k from rfl,show (((i*k:Nat):Int)+(e:Int)).toNat=i*k+e by omega,UB])) rfl ?_;refine Si.yield rfl rfl (hY xs ⟨i,hilt⟩ (w.drewN 1) (hJ _ _ _ none hJw ⟨rfl,rfl,rfl,Sa _,fun _ _ _=>rfl⟩ (fun r e=>by cases e)) (by rw[←hxl];exact hilt)) rfl ?_ ?_
  ·rintro W' ⟨hJ',hK'⟩;refine Si.calm (OL rfl) rfl ?_;refine RB ?_;refine Gz 7 ?_;refine cL (Ow aL rfl (aY (hK'.2.trans hn2) rfl)) ?_;refine Gz 3 ?_;refine ON (i+1) ⟨rfl,rfl,rfl,?_,trivial⟩ ⟨by omega,⟨xs++[⟨i,hilt⟩],by rw[List.map_append,hx,TV];rfl,hJ'⟩,hK'.1.trans hs2,hK'.2.trans hn2⟩ (by show ckN len k-(i+1)<ckN len k-i;omega);rw[Jm];rfl
  rintro W' hJ';refine Si.calm (OL rfl) rfl ?_;refine RB ?_;refine Gz 8 ?_;exact⟨⟨_,rfl⟩,.inr ⟨_,trivial,hJ'⟩⟩
 have h9n:¬ i<ckN len k:=fun q=>(show ¬ i*k<len by omega) ((JP (len:=len) (i:=i) hk).1 q)
 have hie:i=ckN len k:=by omega
 refine Gz 7 ?_;refine OQ rfl ?_;exact⟨⟨_,rfl⟩,.inl ⟨xs,by show xs.map (·.1)=_;rw[hx,hie],hJw⟩⟩
theorem Hk(o:Option Addr)(c len k:Nat)(W:World)(hk:1≤k) :
 CA 118 [.slice o len c,iV k] W fun v w'=>v=.func (.func 167) #[] (ckA W.heap.size (W.heap.size+1)).toArray∧w'.heap[W.heap.size]?=some (.cells [Value.slice o len c].toArray 25 (0,0))∧w'.heap[W.heap.size+1]?=some (.cells [Value.int .i64 k].toArray 3 (0,0))∧W.heap.size+2≤w'.heap.size∧aA nob W w':=by
 refine cS 9 [(0,_),(1,_)] Tryz.func118 ?_;refine Gz 2 ?_;refine OR rfl rfl ?_;intro w1 hg1 hs1 hf1;refine OR rfl rfl ?_;intro w2 hg2 hs2 hf2;have hg1b:=hf2.obj hg1 id;rw[hs1] at hg2 ⊢;refine Gz 6 ?_;refine cL (Ow aL rfl (aY (cs:=[Value.int .i64 k]) hg2 rfl)) ?_;refine cL (PY (Pp rfl rfl) (by omega)) ?_;refine Gz 7 ?_;refine cL (by refine Po (cs:=[.tmp 2,.tmp 3]) (vs:=ckA W.heap.size (W.heap.size+1)) ?_;rfl) ?_;refine Gz 5 ?_;exact⟨_,rfl,rfl,hg1b,hg2,by omega,hf1.trans hf2⟩
def chB(b:By)(i:Nat):By:=(b.drop (i*128)).take 128
def hX(x:By):By:=if pV x then [] else x
def frB(x:By):By:=(cN (hX x)).1
def uM(b:By)(n:Nat):By:=((Tw n).map fun i=>frB (chB b i)).flatten
def bY(b:By):By:=uM b (b.length/128)
def bH(b:By):By:=b.drop (b.length/128*128)
theorem yY(b:By)(i:Nat):(chB b i).length≤128:=by unfold chB;rw[Sh];omega
theorem Ho{b:By}{i:Nat}(h:i<b.length/128):(chB b i).length=128:=by unfold chB;rw[Sh,Sm];omega
theorem Ky(x:By):(hX x).length≤x.length:=by unfold hX;split<;>simp
theorem yO{x:By}(h:x.length≤128):(frB x).length≤135∧3≤(frB x).length:=by
 have h1:=Ky x;have h2:=fF (b:=hX x) (by omega);unfold frB;omega
theorem DV(b:By)(n:Nat):uM b (n+1)=uM b n++frB (chB b n):=by unfold uM;rw[TV];simp
theorem kD(b:By):∀ n,(uM b n).length≤135*n∧3*n≤(uM b n).length
|0=>by simp[uM]
|n+1=>by
   have h:=kD b n;have h2:=yO (yY b n);rw[DV,R6];omega
theorem mpS:pH Tryz.prog 60 9 3 (iV 0):=⟨by kernel_rfl,z3⟩
def vM(m:List (SK×Nat)):List (SK×Value):=m.map fun p=>(p.1,nV p.2)
def dZ:List (SK×Nat)→SK→Option Nat
|[],_=>none
|p::r,a=>if p.1=a then some p.2 else dZ r a
theorem nP(a:SK):∀ m:List (SK×Nat),bL (vM m) a=(dZ m a).map nV
|[]=>rfl
|p::r=>by
   unfold dZ;show (if p.1=a then some (nV p.2) else bL (vM r) a)=_
   split
   ·rfl
   ·exact nP a r
theorem H5{m:List (SK×Nat)}{a:SK}{v:Nat}(h:dZ m a=none):bV (vM m) a (nV v)=vM (m++[(a,v)]):=by
 rw[fA _ (by rw[nP,h];rfl)];simp[vM]
theorem tI{m:List (SK×Nat)}{a b:SK}{v:Nat}:dZ (m++[(a,v)]) b=match dZ m b with|some k=>some k|none=>if a=b then some v else none:=by
 induction m with
|nil=>simp[dZ]
|cons p r ih=>
   simp only[Th,dZ]
   split
   ·rfl
   ·exact ih
structure DS where
 B:By
 m:List (SK×Nat)
def uS(first:Nat)(s:DS)(r:By):DS×Nat:=match dZ s.m (iC r) with
|some k=>(s,k)
|none=>(⟨s.B++r,s.m++[(iC r,first+s.B.length)]⟩,first+s.B.length)
def dA(first:Nat)(s:DS)(b:By):DS×Nat:=if bY b=[] then (s,0) else uS first s (bY b)
theorem EV{first:Nat}{s:DS}{b:By}(h:(bY b).length=0):dA first s b=(s,0):=by unfold dA;rw[R4 (Sg.1 h)]
theorem Br{first:Nat}{s:DS}{b:By}{k:Nat}(h:(bY b).length≠0)(hk:dZ s.m (iC (bY b))=some k):dA first s b=(s,k):=by
 unfold dA uS;rw[R3 (fun e=>h (by rw[e];rfl)),hk]
theorem Bs{first:Nat}{s:DS}{b:By}(h:(bY b).length≠0)(hk:dZ s.m (iC (bY b))=none):dA first s b=(⟨s.B++bY b,s.m++[(iC (bY b),first+s.B.length)]⟩,first+s.B.length):=by
 unfold dA uS;rw[R3 (fun e=>h (by rw[e];rfl)),hk]
def dwC(p first:Nat)(bo:Option Addr)(bn bc mg:Nat):List Value:=[pT p,iV first,.slice bo bn bc,.map (some mg)]
def DwO(D:Nat→Prop)(H:Array Obj)(g p first:Nat)(s:DS):Prop:=
 ∃ bo bc mg,H[g]?=some (.cells (dwC p first bo s.B.length bc mg).toArray 132 (0,0))∧Own b8 5 H bo bc s.B∧cC enS H mg (vM s.m)∧¬ blk bo g∧mg≠g∧¬ blk bo mg∧D g∧(∀ k,blk bo k→D k)∧D mg∧TbV H p∧¬ D p
section
variable {D:Nat→Prop}{g p first:Nat}{s:DS}
theorem DwO.lt{H:Array Obj}(h:DwO D H g p first s):g<H.size:=by obtain⟨bo,bc,mg,hg,_⟩:=h;exact(Sb.1 hg).1
theorem DwO.tab{H:Array Obj}(h:DwO D H g p first s):TbV H p∧¬ D p:=by obtain⟨bo,bc,mg,hg,h1,h2,h3,h4,h5,h6,h7,h8,h9,h10⟩:=h;exact⟨h9,h10⟩
theorem DwO.RZ{S:Nat→Prop}{w w':World}(h:DwO D w.heap g p first s)(hf:aA S w w')(hs:∀ k,D k→¬ S k)(hp:¬ S p):DwO D w'.heap g p first s:=by
 obtain⟨bo,bc,mg,hg,h1,h2,h3,h4,h5,h6,h7,h8,h9,h10⟩:=h;exact⟨bo,bc,mg,hf.obj hg (hs g h6),h1.RZ hf (fun a ha=>hs _ (h7 _ ⟨a,ha,rfl⟩)),h2.RZ hf (hs _ h8),h3,h4,h5,h6,h7,h8,hf.obj h9 hp,h10⟩
theorem DwO.RY{w w':World}(h:DwO D w.heap g p first s)(hf:aA nob w w'):DwO D w'.heap g p first s:=h.RZ hf (fun _ _=>id) id
theorem DwO.mono{D':Nat→Prop}{H:Array Obj}(h:DwO D H g p first s)(hd:∀ k,D k→D' k)(hp:¬ D' p):DwO D' H g p first s:=by
 obtain⟨bo,bc,mg,hg,h1,h2,h3,h4,h5,h6,h7,h8,h9,h10⟩:=h;exact⟨bo,bc,mg,hg,h1,h2,h3,h4,h5,hd _ h6,fun k hk=>hd _ (h7 k hk),hd _ h8,h9,hp⟩
theorem DwO.fresh{B:Nat→Prop}{w w':World}(h:DwO D w.heap g p first s)(hf:aA nob w w')(hB:∀ k,k<w.heap.size→D k→B k)(hp:¬ B p):DwO B w'.heap g p first s:=by
 have hl:=h.lt;obtain⟨bo,bc,mg,hg,h1,h2,h3,h4,h5,h6,h7,h8,h9,h10⟩:=h;exact⟨bo,bc,mg,hf.obj hg id,h1.RY hf,h2.RZ hf id,h3,h4,h5,hB _ hl h6,fun k ⟨a,ha,hb⟩=>hB _ (by have:=h1.lt a ha;omega) (h7 k ⟨a,ha,hb⟩),hB _ h2.obj h8,hf.obj h9 id,hp⟩
theorem MJ{W w1 w2:World}{bo bo':Option Addr}{bc' mg:Nat}{mq:List (SK×Nat)}{Bq:By}(hD:∀ k,W.heap.size≤k→D k)
 (hm:cC enS W.heap mg (vM mq))(h3:¬ blk bo g)(h4:mg≠g)(h5:¬ blk bo mg)(h6:D g)(h7:∀ k,blk bo k→D k)(h8:D mg)(h9:TbV W.heap p)(h10:¬ D p)(hgl:g<W.heap.size)
 (ho:Own b8 5 w1.heap bo' bc' Bq)(hf1:aA (blk bo) W w1)(hr:∀ a,bo'=some a→bo=some a∨W.heap.size≤a.block)
 (hg2:w2.heap[g]?=some (.cells (dwC p first bo' Bq.length bc' mg).toArray 132 (0,0)))(hf2:aA (· = g) w1 w2) :
 DwO D w2.heap g p first ⟨Bq,mq⟩∧aA D W w2:=by
 have hpl:=(Sb.1 h9).1;have hD1:aA D W w1:=hf1.mono h7;have hD2:aA D W w2:=hD1.trans (hf2.mono (fun k h=>by have h:k=g:=h;subst h;exact h6));have hml:=hm.obj;have hn:∀ k,k<W.heap.size→¬ blk bo k→¬ blk bo' k:=fun k hk hb ⟨a,ha,e⟩=>by
  rcases hr a ha with h|h
  ·exact hb ⟨a,h,e⟩
  ·omega
 refine⟨⟨bo',bc',mg,hg2,ho.RZ hf2 (fun a ha h=>hn g hgl h3 ⟨a,ha,h⟩),(hm.RZ hf1 h5).RZ hf2 h4,hn g hgl h3,h4,hn mg hml h5,h6,fun k ⟨a,ha,hb⟩=>?_,h8,hD2.obj h9 h10,h10⟩,hD2⟩;rcases hr a ha with h|h
 ·exact h7 k ⟨a,h,hb⟩
 ·exact hD k (by omega)
end
theorem Jd(p first:Nat)(W:World)(ht:TbV W.heap p) :
 CA 21 [pT p,iV first] W fun v w'=>v=.pointer (some ⟨W.heap.size+1,0,none⟩)∧DwO (fun k=>W.heap.size≤k) w'.heap (W.heap.size+1) p first ⟨[],[]⟩∧aA nob W w':=by
 have hpl:=(Sb.1 ht).1;refine cS 10 [(0,_),(1,_)] Tryz.func21 ?_;refine Gz 9 ?_;refine O2 (enc:=enS) rfl ?_;intro w1 hm1 hs1 hf1;refine cL (Pq (cs:=#[pT p,iV first,sN,.map (some W.heap.size)]) J5 K2 rfl (by kernel_rfl)) ?_;refine OR rfl rfl ?_;intro w2 hg2 hs2 hf2;rw[hs1] at hg2 ⊢;refine Gz 5 ?_;exact⟨_,rfl,rfl,⟨none,0,W.heap.size,hg2,Rr,hm1.RZ hf2 id,(fun⟨a,ha,_⟩=>by cases ha),(by omega),(fun⟨a,ha,_⟩=>by cases ha),(by omega),(fun k ⟨a,ha,_⟩=>by cases ha),Sa _,(hf1.trans hf2).obj ht id,(by omega)⟩,hf1.trans hf2⟩
theorem He(D:Nat→Prop)(g p first:Nat)(s:DS)(W:World)(hM:DwO D W.heap g p first s)(hb:s.B.length≤1099511627776) :
 CA 28 [pT g] W (zJ W s.B):=by
 obtain⟨bo,bc,mg,hg,h1,h2,h3,h4,h5,h6,h7,h8,h9,h10⟩:=hM;refine cS 8 [(0,_)] Tryz.func28 ?_;refine Gz 11 ?_;refine Ot Ca rfl (Bj bo bc s.B W h1.vw (by omega)) rfl ?_;intro _ w1 hP1;refine Gz 5 ?_;exact⟨_,rfl,hP1⟩
def jT(first:Nat)(s:DS)(b:By):DS×Nat:=(⟨s.B++(cN b).1,s.m⟩,first+s.B.length)
theorem EH(D:Nat→Prop)(g p first:Nat)(s:DS)(bo0:Option Addr)(bc0:Nat)(b:By)(W:World)(hM:DwO D W.heap g p first s)(hD:∀ k,W.heap.size≤k→D k)(hv:Vw b8 W.heap bo0 bc0 b)(hfi:first≤1000)(hb:s.B.length≤1099511627776)(hbl:b.length≤128) :
 CA 69 [pT g,.slice bo0 b.length bc0] W fun v w'=>v=iV ((jT first s b).2:Nat)∧DwO D w'.heap g p first (jT first s b).1∧aA D W w':=by
 obtain⟨bo,bc,mg,hg,h1,h2,h3,h4,h5,h6,h7,h8,h9,h10⟩:=hM;have hgl:=(Sb.1 hg).1;have hps:=fF hbl;refine cS 37 [(0,_),(1,_)] Tryz.func69 ?_;refine cA 12 IW (rA p bo0 bc0 b W h9 hv) ?_;rintro _ w1 ⟨o1,c1,rfl,ho1,hfr1,hf1⟩;have hg1:=hf1.obj hg id;refine Gz 8 ?_;refine OI 11 (fun H=>H[g]?=some (.cells (dwC p first bo s.B.length bc mg).toArray 132 (0,0))) [] [0,1,2,3,4,5,6,7,8,9,10] aM (by kernel_rfl) (hg1) ?_;refine Gz 21 ?_;refine OJ cP aP rfl rfl (h1.RY (hf1.draws 1)) ho1.vw (by omega) (by unfold maxLen;omega) rfl ?_;intro o2 c2 w2 ho2 hf2 hr2 hn2;have hf2:=hf2.RW;have hg2:=hf2.obj hg1 h3;refine Gz 2 ?_;refine OF aT rfl rfl rfl hg2 rfl ?_;intro w3 hg3 hs3 hf3;obtain⟨hM3,hF3⟩:=MJ (W:=w1) (mq:=s.m) (first:=first) (Bq:=s.B++(cN b).1) (kF hf1 hD) (h2.RZ hf1 id) h3 h4 h5 h6 h7 h8 (hf1.obj h9 id) h10 (by have:=hf1.size;omega) ho2 hf2 hr2 hg3 hf3;refine Gz 10 ?_;exact⟨_,rfl,rfl,hM3,hf1.any.trans hF3⟩
def jQ{M:Nat}(b:By)(pre:List (Fin M)):By:=(pre.map fun i=>frB (chB b i.1)).flatten
theorem sJ{M:Nat}(b:By)(pre:List (Fin M))(x:Fin M):jQ b (pre++[x])=jQ b pre++frB (chB b x.1):=by simp[jQ]
theorem D5{M:Nat}(b:By)(xs:List (Fin M))(h:xs.map (·.1)=Tw M):jQ b xs=uM b M:=by
 unfold jQ uM;rw[←h,TQ];rfl
theorem D4{M:Nat}(b:By):∀ pre:List (Fin M),(jQ b pre).length≤135*pre.length:=fun pre=>by
 induction pre with
|nil=>simp[jQ]
|cons x r ih=>
   have h2:=(yO (yY b x.1)).1;have e:jQ b (x::r)=frB (chB b x.1)++jQ b r:=by simp[jQ]
   rw[e,R6,Sq];omega
theorem H4{r:By}(h:r.length≤maxLen):iC r=⟨r,h⟩:=by unfold iC;rw[dif_pos h]
theorem Jf(D:Nat→Prop)(g p first:Nat)(s:DS)(bo0:Option Addr)(bc0:Nat)(b:By)(W:World)(hM:DwO D W.heap g p first s)(hD:∀ k,W.heap.size≤k→D k)(hv:Vw b8 W.heap bo0 bc0 b)(hfi:first≤1000)(hb:s.B.length≤1099511627776)(hbl:b.length≤1048576) :
 CA 66 [pT g,.slice bo0 b.length bc0] W fun v w'=>∃ o c,v=.tuple #[iV ((dA first s b).2:Nat),.slice o (bH b).length c]∧Own b8 5 w'.heap o c (bH b)∧Fr W.heap.size o∧DwO (fun k=>D k∧¬ blk o k) w'.heap g p first (dA first s b).1∧aA D W w':=by
 have hM0:=hM;obtain⟨bo,bc,mg,hg,h1,h2,h3,h4,h5,h6,h7,h8,h9,h10⟩:=hM;have hgl:=(Sb.1 hg).1;have hpl:=(Sb.1 h9).1;have hlb:=hv.le;obtain⟨M,hMd⟩:∃ M,M=b.length/128:=⟨_,rfl⟩
 obtain⟨n,hn⟩:∃ n,n=M*128:=⟨_,rfl⟩
 have hnb:n≤b.length:=by omega
 have hrun:=kD b M;have hrd:bY b=uM b M:=by rw[hMd];rfl
 have hck:ckN n 128=M:=by unfold ckN;omega
 refine yZ 83 [(0,_),(1,_)] Tryz.func66 rfl rfl rfl (pZ ⟨rfl,rfl,trivial⟩) ?_;refine Gz 2 ?_;refine OR rfl rfl ?_;intro w1 hg1 hs1 hf1;have hg1:w1.heap[W.heap.size]?=some (.cells [pT g].toArray 63 (0,0)):=hg1;refine Gz 6 ?_;refine Ov KY rfl ?_;intro w2 hg2 hs2 hf2;rw[hs1] at hg2 ⊢;have hg2:w2.heap[W.heap.size+1]?=some (.cells [Value.slice none ([]:By).length 0].toArray 25 (0,0)):=hg2;obtain⟨bx,hbx⟩:∃ bx,bx=W.heap.size+1:=⟨_,rfl⟩
 rw[←hbx] at hg2 ⊢;have hg12:=hf2.obj hg1 id;have hF2:=hf1.trans hf2;refine Gz 6 ?_;refine cL (Ox (u:=iV (M:Int)) (PX rfl rfl (by omega) (by decide)) (by congr 1;omega)) ?_;refine cL (Ox (u:=iV (n:Int)) (Pc rfl rfl (by omega)) (by congr 1;omega)) ?_;refine Gz 8 ?_;refine cL (Ox (u:=.slice bo0 n bc0) (OV aP rfl rfl (by omega)) (by rw[bN];rfl)) ?_;refine Ot Md rfl (Hk bo0 bc0 n 128 w2 (by decide)) rfl ?_;rintro _ w4 ⟨rfl,hsb4,hnb4,hz4,hf4⟩;have hF4:=hF2.trans hf4;have hg4:=hf4.obj hg2 id;have hb4:=hf4.obj hg12 id;have hG4:=hF4.obj hg id;refine Gz 3 ?_;refine QN (α:=Fin (ckN n 128)) (f:=19) (p:=20) (q:=8) (gf:=167) (lb:=(ckA w2.heap.size (w2.heap.size+1)).toArray) (enc:=fun i=>ckV bo0 n 128 i.1) (M:=ckN n 128) rfl L0 (Hl w2.heap.size (w2.heap.size+1) bo0 bc0 n 128 w4 hsb4 hnb4 (by decide) (by decide) (by omega) (by omega)) KpB.trans (fun W1 l1 _ _ hl1 _ _ _=>⟨World.putObj_heap_other (by omega),World.putObj_heap_other (by omega)⟩) (Below.refl _ _) rfl rfl (BbI 5 25 bx w4 (jQ b)) BbI.own ⟨none,0,hg4,Rr,Rp,Rk _ _⟩ ?_ ?_
 ·rintro lp pre x w ⟨oo,oc,hbw,hoo,hfro,hFw⟩ hlt;have hxn:x.1<M:=by have:=x.2;omega
  have hpl2:=D4 b pre;have hpl3:pre.length<M:=by omega
  have hfl:=(yO (yY b x.1)).1;have hvw:=((hv.RY hF4).keep' hFw (fun hne a ha e=>by have e:a.block=bx:=e;have:=zO hv (show 0<b.length by have:=Sk.2 hne;omega) a.block ⟨a,ha,rfl⟩;omega))
  have hGw:=hFw.obj hG4 (by omega);have hbw2:=hFw.obj hb4 (by omega);have hTw:TbV w.heap p:=hFw.obj (hF4.obj h9 id) (by omega);have hx1:ckE n 128 x.1=128:=by unfold ckE;omega
  obtain⟨co,hco⟩:∃ co,co=aU bo0 (x.1*128+128) (x.1*128) 1:=⟨_,rfl⟩
  have hcl:(chB b x.1).length=128:=Ho (by omega);have hcv:=hvw.cut (l:=x.1*128) (h:=x.1*128+128) (m:=x.1*128+128) (by omega) (by omega) (by omega) (by omega);rw[←hco,UB] at hcv;have hcv:Vw b8 w.heap co 128 (chB b x.1):=hcv;have hckv:ckV bo0 n 128 x.1=.slice co (chB b x.1).length 128:=by unfold ckV;rw[hx1,←hco,hcl]
  rw[hckv];obtain⟨wr,hwr⟩:∃ wr,wr=w:=⟨_,rfl⟩
  refine Rc.block ?_;refine Rc.cut (β:=Option Addr×Nat) (fun⟨xo,xc⟩=>[(2,pT W.heap.size),(6,pT bx),(8,.slice xo (hX (chB b x.1)).length xc)]) (fun⟨xo,xc⟩ w=>Vw b8 w.heap xo xc (hX (chB b x.1))∧w=wr) ?_ ?_
  ·refine Rc.seq ?_;refine Rc.region (by repeat first|exact dK.post|with_reducible apply Ry|with_reducible apply dK.block) rfl ?_;refine cA 1 Mc (IS co 128 (chB b x.1) w hcv) ?_;rintro _ wq ⟨rfl,hwq⟩;subst wq;by_cases h22:pV (chB b x.1)
   ·rw[R8 h22];have ex:hX (chB b x.1)=[]:=by unfold hX;rw[R4 h22]
    refine Gz 1 ?_;refine Qj ?_;refine Rz rfl ?_;refine Rc.region (by repeat first|exact dK.post|with_reducible apply Ry|with_reducible apply dK.block) rfl ?_;refine Gz 2 ?_;exact O4 ⟨none,0⟩ ⟨rfl,rfl,(by show some (Value.slice none 0 0)=_;rw[ex];rfl),trivial⟩ ⟨by rw[ex];exact Rq 0 (Sf _),hwr.symm⟩
   rw[R5 h22];have ex:hX (chB b x.1)=chB b x.1:=by unfold hX;rw[R3 h22]
   refine Gz 1 ?_;refine Qj ?_;refine RA rfl ?_;refine Rc.skip ?_;exact O4 ⟨co,128⟩ ⟨rfl,rfl,(by rw[ex];rfl),trivial⟩ ⟨by rw[ex];exact hcv,hwr.symm⟩
  rintro⟨xo,xc⟩ wq ⟨hxv,hwq⟩;obtain rfl:w=wq:=(hwq.trans hwr).symm;refine Rc.seq ?_;refine Rc.region (by repeat first|exact dK.post|with_reducible apply Ry|with_reducible apply dK.block) rfl ?_;refine cL (Ow pN rfl (aY hbw2 rfl)) ?_;refine cA 4 IW (rA p xo xc (hX (chB b x.1)) w hTw hxv) ?_;rintro _ v1 ⟨o1,c1,rfl,ho1,hfr1,hvf1⟩;have ho1:Own b8 5 v1.heap o1 c1 (frB (chB b x.1)):=ho1;have hbw1:=hvf1.obj hbw id;refine Gz 6 ?_;refine Qj ?_;refine Rc.region (by repeat first|exact dK.post|with_reducible apply Ry|with_reducible apply dK.block) rfl ?_;refine cL (Ow aT rfl (aY hbw1 rfl)) ?_;refine Gz 1 ?_;refine OJ cP aP rfl rfl (hoo.RY hvf1) ho1.vw (by rw[show (cN (hX (chB b x.1))).1=frB (chB b x.1) from rfl];omega) (by rw[show (cN (hX (chB b x.1))).1=frB (chB b x.1) from rfl];unfold maxLen;omega) rfl ?_;intro o7 c7 v2 ho7 hvf2 hr7 hn7;have hnb2:∀ k,k<w4.heap.size→¬ blk oo k:=fun k hk ⟨a,ha,e⟩=>by have:=hfro a ha;omega
  have hbw3:=hvf2.obj hbw1 (hnb2 bx (by omega));refine OF aT rfl rfl rfl hbw3 rfl ?_;intro v3 hg3b hs3b hvf3;have hFv:aA (fun k=>k=bx∨blk oo k) w v3:=(hvf1.any.RV hvf2 (fun k hk=>.inl (.inr hk))).RV hvf3 (fun k hk=>.inl (.inl hk));have ho73:=ho7.RZ hvf3 (fun a ha e=>by rcases hr7 a ha with h|h;have:=hfro a h;have e:a.block=bx:=e;omega;have e:a.block=bx:=e;have:=hvf1.size;have:=hFw.size;omega);refine Gz 2 ?_;refine Qa ⟨Gs hFv (fun k hk _=>?_),⟨hFv.same _ (by have:=hFw.size;omega) ?_,hFv.same _ (by have:=hFw.size;omega) ?_⟩,⟨o7,c7,?_,?_,kZ hfro hr7 (by have:=hFw.size;have:=hvf1.size;omega),(hFw.RV hFv (fun k hk=>hk.imp id (fun⟨a,ha,e⟩=>by have:=hfro a ha;omega)))⟩⟩
  · rcases hk with rfl|⟨a,ha,rfl⟩
    ·exact⟨_,_,_,hbw⟩
    ·obtain⟨cur,h⟩:=hoo.cells ha;exact⟨_,_,_,h⟩
  · rintro(h|⟨a,ha,e⟩)
    ·omega
    ·have:=hfro a ha;omega
  · rintro(h|⟨a,ha,e⟩)
    ·omega
    ·have:=hfro a ha;omega
  ·rw[sJ];exact hg3b
  ·rw[sJ];exact ho73
 intro Dm xs w5 hDm hS ⟨oo,oc,hb5,ho5,hfro,hF5⟩ hK;have hS:xs.map (·.1)=Tw (ckN n 128):=hS;have hall:jQ b xs=bY b:=by rw[D5 b xs hS,hck,hrd]
 rw[hall] at hb5 ho5;have hFW5:aA nob W w5:=hF4.RV hF5 (fun k e=>.inr (by have e:k=bx:=e;omega));have htl:(bH b).length=b.length-n:=by unfold bH;rw[Sm,←hMd,←hn]
 have hrb:=kD b M;rw[←hrd] at hrb;have hvt:Vw b8 w5.heap (aU bo0 bc0 n 1) (bc0-n) (bH b):=by
  have h:=(hv.RY hFW5).cut (l:=n) (h:=b.length) (m:=bc0) (by omega) (by omega) (by omega) (Sa _);rw[So (by rw[Sm];omega)] at h;unfold bH;rw[←hMd,←hn];exact h
 refine Gz 6 ?_;refine cL (Ox (u:=.slice (aU bo0 bc0 n 1) (bH b).length (bc0-n)) (O7 aP rfl rfl (by omega)) (by rw[htl];rfl)) ?_;refine Ot Ca rfl (Bj (aU bo0 bc0 n 1) (bc0-n) (bH b) w5 hvt (by omega)) rfl ?_;rintro _ w6 ⟨o6,c6,rfl,ho6,hfr6,hf6⟩;have hK6:=hf6.obj hK id;have hb6:=hf6.obj hb5 id;have ho56:=ho5.RY hf6;have hFW6:=hFW5.trans hf6;have hG6:=hFW6.obj hg id;have hB6:=hf6.obj (hF5.obj hb4 (by omega)) id;have h26:=h2.RZ hFW6 id;have hz6:=hFW6.size;have ho6l:=ho6.lt;have hfr6w:=hfr6.mono hFW5.size;have ho5l:=ho56.lt;have hne6:∀ k,k<W.heap.size→¬ blk o6 k:=fun k hk ⟨a,ha,e⟩=>by have:=hfr6w a ha;omega
 have hsame:∀ wf,aA nob W wf→DwO (fun k=>D k∧¬ blk o6 k) wf.heap g p first s:=fun wf hf=>hM0.fresh hf (fun k hk hd=>⟨hd,hne6 k hk⟩) (fun h=>h10 h.1)
 have hend:∀ wf,aA (· = Dm) w6 wf→Own b8 5 wf.heap o6 c6 (bH b)∧aA nob W wf:=fun wf hf=>⟨ho6.RZ hf (fun a ha e=>by obtain⟨cur,h⟩:=ho6.cells ha;have e:a.block=Dm:=e;rw[e,hK6] at h;cases h),hFW6.RV hf (fun k e=>.inr (by have e:k=Dm:=e;omega))⟩
 refine Gz 6 ?_;refine cL (Ow aT rfl (aY hb6 rfl)) ?_;refine fK 1 ?_ ?_<;>intro h41
 ·have e:=EV (first:=first) (s:=s) (b:=b) (by omega);refine Gz 12 ?_;refine PK rfl rfl rfl hK6 ?_;intro wf _ hfD;obtain⟨e1,e2⟩:=hend wf hfD;rw[e];exact⟨_,rfl,o6,c6,rfl,e1,hfr6w,hsame wf e2,e2.any⟩
 have hrl:(bY b).length≤maxLen:=by unfold maxLen;omega
 have hrne:(bY b).length≠0:=by omega
 have hsk:=H4 hrl;refine Gz 6 ?_;refine OI 12 (fun H=>H[W.heap.size]?=some (.cells [pT g].toArray 63 (0,0))∧H[g]?=some (.cells (dwC p first bo s.B.length bc mg).toArray 132 (0,0))∧H[bx]?=some (.cells [Value.slice oo (bY b).length oc].toArray 25 (0,0))∧Vw b8 H oo oc (bY b)∧cC enS H mg (vM s.m)) [] [0,1,2,3,4,5,6,7,8,9,10,11] aM (by kernel_rfl) (⟨hB6,hG6,hb6,ho56.vw,h26⟩) ?_;refine xC rfl (OB pN rfl (fun H hH=>aY hH.1 rfl)) ?_;refine Gz 3 ?_;refine xC rfl (OB aT rfl (fun H hH=>aY hH.2.2.1 rfl)) ?_;refine xC rfl (PI aP ty5 ty9 rfl (fun H hH=>hH.2.2.2.1)) ?_;refine xC rfl (O6 mpS AI (a:=⟨bY b,hrl⟩) rfl rfl (fun H hH=>hH.2.2.2.2)) ?_;refine Gz 11 ?_;refine OZ (Pz rfl) rfl (fun h54=>?_) (fun h54=>?_)
 ·rw[nP] at h54;have hno:dZ s.m (iC (bY b))=none:=by rw[hsk];simpa using h54
  have e:=Bs (first:=first) hrne hno;refine Gz 4 ?_;refine OI 11 (fun H=>H[W.heap.size]?=some (.cells [pT g].toArray 63 (0,0))∧H[g]?=some (.cells (dwC p first bo s.B.length bc mg).toArray 132 (0,0))) [] [0,1,2,3,4,5,6,7,8,9,10] aM (by kernel_rfl) (⟨hB6,hG6⟩) ?_;refine xC rfl (OB pN rfl (fun H hH=>aY hH.1 rfl)) ?_;refine Gz 3 ?_;refine xC rfl (OB pN rfl (fun H hH=>aY hH.1 rfl)) ?_;refine Gz 9 ?_;refine OI 7 (fun H=>H[W.heap.size]?=some (.cells [pT g].toArray 63 (0,0))∧H[g]?=some (.cells (dwC p first bo s.B.length bc mg).toArray 132 (0,0))∧H[bx]?=some (.cells [Value.slice oo (bY b).length oc].toArray 25 (0,0))∧Vw b8 H oo oc (bY b)) [7] [0,1,2,3,4,5,6,7] aM (by kernel_rfl) (⟨hB6,hG6,hb6,ho56.vw⟩) ?_;refine xC rfl (OB pN rfl (fun H hH=>aY hH.1 rfl)) ?_;refine Gz 3 ?_;refine xC rfl (OB aT rfl (fun H hH=>aY hH.2.2.1 rfl)) ?_;refine xC rfl (PI aP ty5 ty9 rfl (fun H hH=>hH.2.2.2)) ?_;refine Gz 1 ?_;refine OE rfl rfl (OS mpS AI (a:=⟨bY b,hrl⟩) rfl rfl rfl h26 ?_);intro w7 hm7 hs7 hf7;refine O8 rfl ?_;have hf7:=hf7.RW.RW.RW;have hml:=h2.obj;have hDml:=(Sb.1 hK6).1;have hnbo:∀ k,W.heap.size≤k→¬ blk bo k:=fun k hk ⟨a,ha,e⟩=>by have:=h1.lt a ha;omega
  have hG7:=hf7.obj hG6 (fun e=>h4 (Eq.symm e));have hB7:=hf7.obj hB6 (by omega);have hb7:=hf7.obj hb6 (by omega);have ho57:=ho56.RZ hf7 (fun a ha e=>by have:=hfro a ha;have e:a.block=mg:=e;omega);have h17:=(h1.RY hFW6).RZ hf7 (fun a ha e=>h5 ⟨a,ha,e⟩);have hz7:=hf7.size;have hm7q:cC enS w7.heap mg (vM (s.m++[(iC (bY b),first+s.B.length)])):=by rw[←H5 hno,hsk];exact hm7
  refine Gz 2 ?_;refine OI 9 (fun H=>H[W.heap.size]?=some (.cells [pT g].toArray 63 (0,0))∧H[g]?=some (.cells (dwC p first bo s.B.length bc mg).toArray 132 (0,0))∧H[bx]?=some (.cells [Value.slice oo (bY b).length oc].toArray 25 (0,0))) [6,9] [0,1,2,3,4,5,6,7,8,9] aM (by kernel_rfl) (⟨hB7,hG7,hb7⟩) ?_;refine xC rfl (OB pN rfl (fun H hH=>aY hH.1 rfl)) ?_;refine xC rfl (OB pN rfl (fun H hH=>aY hH.1 rfl)) ?_;refine Gz 3 ?_;refine xC rfl (OB aT rfl (fun H hH=>aY hH.2.2 rfl)) ?_;refine OE rfl rfl (OJ cP aP rfl rfl h17 ho57.vw (by omega) (by unfold maxLen;omega) rfl ?_);intro o8 c8 w8 ho8 hf8 hr8 hn8;have hf8:=hf8.RW;have hz8:=hf8.size;refine OK (by exact⟨hf8.obj hB7 (hnbo _ (by omega)),hf8.obj hG7 h3,hf8.obj hb7 (hnbo _ (by omega))⟩) ?_;refine Gz 2 ?_;refine OE rfl rfl (OF aT rfl rfl rfl (hf8.obj hG7 h3) rfl ?_);intro w9 hg9 hs9 hf9;refine O8 rfl ?_;obtain⟨hM9,hF9⟩:=MJ (W:=w7) (D:=fun k=>D k∧¬ blk o6 k∧k≠Dm) (mq:=s.m++[(iC (bY b),first+s.B.length)]) (first:=first) (Bq:=s.B++bY b) (fun k hk=>⟨hD k (by omega),(fun⟨a,ha,e⟩=>by have:=ho6l a ha;omega),by omega⟩) hm7q h3 h4 h5 ⟨h6,hne6 g hgl,by omega⟩ (fun k ⟨a,ha,e⟩=>⟨h7 k ⟨a,ha,e⟩,hne6 k (by have:=h1.lt a ha;omega),by have:=h1.lt a ha;omega⟩) ⟨h8,hne6 mg hml,by omega⟩ (hf7.obj (hFW6.obj h9 id) (fun e=>h10 (by have e:p=mg:=e;rw[e];exact h8))) (fun h=>h10 h.1) (by omega) ho8 hf8 hr8 hg9 hf9;have hK9:=hf9.obj (hf8.obj (hf7.obj hK6 (by omega)) (hnbo _ (by omega))) (fun e=>by have e:Dm=g:=e;omega);have hK6:=hK9;have hz9:=hF9.size;have ho9:=(ho6.RZ hf7 (fun a ha e=>hne6 mg hml ⟨a,ha,e⟩)).RZ hF9 (fun a ha e=>e.2.1 ⟨a,ha,rfl⟩);refine Gz 11 ?_;refine PK rfl rfl rfl hK6 ?_;intro wf _ hfD;have e9:Own b8 5 wf.heap o6 c6 (bH b):=ho9.RZ hfD (fun a ha e=>by obtain⟨cur,h⟩:=ho9.cells ha;have e:a.block=Dm:=e;rw[e,hK6] at h;cases h);rw[e];exact⟨_,rfl,o6,c6,rfl,e9,hfr6w,(hM9.RZ hfD (fun k hk e=>hk.2.2 e) (fun e=>by have e:p=Dm:=e;omega)).mono (fun k hk=>⟨hk.1,hk.2.1⟩) (fun h=>h10 h.1),((hFW6.any.trans (hf7.mono (fun k e=>by have e:k=mg:=e;rw[e];exact h8))).trans (hF9.mono (fun k hk=>hk.1))).RV hfD (fun k e=>.inr (by have e:k=Dm:=e;omega))⟩
 rw[nP] at h54;obtain⟨k,hk⟩:∃ k,dZ s.m (iC (bY b))=some k:=by rw[hsk];cases h:dZ s.m ⟨bY b,hrl⟩ with|none=>rw[h] at h54;exact absurd rfl h54|some k=>exact⟨k,rfl⟩
 have e:=Br (first:=first) hrne hk;have eg:(bL (vM s.m) ⟨bY b,hrl⟩).getD (iV 0)=nV k:=by rw[nP,←hsk,hk];rfl
 rw[eg];refine Gz 14 ?_;refine PK rfl rfl rfl hK6 ?_;intro wf _ hfD;obtain⟨e1,e2⟩:=hend wf hfD.RW;rw[e];exact⟨_,rfl,o6,c6,rfl,e1,hfr6w,hsame wf e2,e2.any⟩
abbrev Ino:=(Nat→Int)×By
def Et(x:Ino):List Value:=bG x.1 x.2
def bW:Ino:=(fun _=>0,[])
def yX(x:Ino):By:=(Ak x.1 x.2).2
theorem A9{x:Ino}(h:iW x.1 x.2):15≤(yX x).length∧(yX x).length≤214:=by
 have h1:=Ic h;have h9:=h.1;unfold iL at h9;unfold yX
 split at h1
 ·omega
 ·split at h1<;>omega
def sI(l:List Int)(n:Int):Int:=match l.findIdx? (fun x=>decide (x=n)) with
|some i=>i
|none=>0
structure BSt where
 ino:By
 lst:By
 fur:By
 refs:List Int
 sets:List (List Xa×Int)
 many:Nat
def mK(n:Nat):BSt:=⟨[],[],[],Sy n 0,[],0⟩
def bQ(s:BSt)(X:List Xa):Int×BSt:=
 if X.length=0 then (0,s) else
 match s.sets.find? (fun y=>decide (y.1=X)) with
|some y=>(y.2+1,s)
|none=>((bI s.fur s.fur.length:Nat)+1,{ s with fur:=s.fur++(iS X).1,sets:=s.sets++[(X,((bI s.fur s.fur.length:Nat):Int))] })
def ndB(qs:List (NdH×Nd))(k:Int):Nd:=(qs.getD k.toNat (yC,nd0)).2
def inB(qs:List (NdH×Nd))(ids:List Int)(k:Int)(i:Ino)(xr:Int):Ino:=
 (fun j=>[(ndB qs k).kind,(ndB qs k).md,sI ids (ndB qs k).ud,sI ids (ndB qs k).gd,uO qs k,xr,i.1 6,i.1 7,i.1 8,i.1 9].getD j 0,i.2)
def dT(qs:List (NdH×Nd))(ids:List Int)(k:Int)(i:Ino)(s:BSt):BSt:=
 { (bQ s (ndB qs k).xs).2 with
  ino:=(bQ s (ndB qs k).xs).2.ino++(mX (inB qs ids k i (bQ s (ndB qs k).xs).1).1 (inB qs ids k i (bQ s (ndB qs k).xs).1).2).1
  refs:=(bQ s (ndB qs k).xs).2.refs.set (ndB qs k).ino.toNat ((bI (bQ s (ndB qs k).xs).2.ino (bQ s (ndB qs k).xs).2.ino.length:Nat)+1)
  many:=(bQ s (ndB qs k).xs).2.many+1 }
def wrK(wr:Int→BSt→BSt)(qs:List (NdH×Nd)):List Int→BSt→BSt×List Ent
|[],s=>(s,[])
|j::r,s=>((wrK wr qs r (wr j s)).1,(bC (ndB qs j).names,(ndB qs j).kind,(wr j s).refs.getD (ndB qs j).ino.toNat 0-1)::(wrK wr qs r (wr j s)).2)
def EG(s:BSt)(b:By):Ino:=(fun j=>if j=6 then ((bI s.lst s.lst.length:Nat):Int) else if j=7 then b.length else 0,[])
def wrB(qs:List (NdH×Nd))(ids:List Int)(files:List Ino):Nat→Int→BSt→BSt
|0,_,s=>s
|n+1,k,s=>
   if 0<s.refs.getD (ndB qs k).ino.toNat 0 then s
   else if (ndB qs k).kind=2 then dT qs ids k (files.getD (ndB qs k).ino.toNat bW) s
   else if (ndB qs k).kind=3 then dT qs ids k (zF,(ndB qs k).tgt) s
   else if (ndB qs k).kind=1 then
    dT qs ids k (EG (wrK (wrB qs ids files n) qs (aZ qs (ndB qs k).names qs.length) s).1 (lH (wrK (wrB qs ids files n) qs (aZ qs (ndB qs k).names qs.length) s).2).1)
     { (wrK (wrB qs ids files n) qs (aZ qs (ndB qs k).names qs.length) s).1 with lst:=(wrK (wrB qs ids files n) qs (aZ qs (ndB qs k).names qs.length) s).1.lst++(lH (wrK (wrB qs ids files n) qs (aZ qs (ndB qs k).names qs.length) s).2).1 }
   else dT qs ids k (zF,[]) s
structure FSt where
 ds:DS
 tails:List By
 files:List Ino
def cR(s:FSt)(x:Nd):FSt:=
 if x.kind≠2∨(s.files.getD x.ino.toNat bW).1 0=2 then s
 else ⟨(dA 64 s.ds x.data).1,(eW s.tails (bH x.data)).1,s.files.set x.ino.toNat (fun j=>[2,0,0,0,0,0,((dA 64 s.ds x.data).2:Int),x.data.length,((eW s.tails (bH x.data)).2.1:Int),((eW s.tails (bH x.data)).2.2:Int)].getD j 0,[])⟩
def aO(qs:List (NdH×Nd)):FSt:=(nds qs).foldl cR ⟨⟨[],[]⟩,[],Sy (qs.length+1) bW⟩
def dB:List By→DS→DS×List Int
|[],s=>(s,[])
|t::r,s=>((dB r (jT 64 s t).1).1,((jT 64 s t).2:Int)::(dB r (jT 64 s t).1).2)
def dnW(T:By):By:=frW T (nF T)
structure uI where
 d:DS
 pl:List Int
 s:BSt
def aF(qs:List (NdH×Nd))(ids:List Int):uI:=⟨(dB (aO qs).tails (aO qs).ds).1,(dB (aO qs).tails (aO qs).ds).2,wrB qs ids (aO qs).files 17 0 (mK (qs.length+1))⟩
def eV(a:uI):By:=a.d.B
def eU(a:uI):By:=eV a++dnW a.s.ino
def fH(a:uI):By:=eU a++dnW a.s.lst
def fY(a:uI):By:=fH a++dnW (aK a.pl 4).1
def gW(a:uI)(ids:List Int):By:=fY a++dnW (aK ids 2).1
def eQ(a:uI)(ids:List Int):By:=gW a ids++dnW a.s.fur
def dN(qs:List (NdH×Nd))(ids:List Int)(a:uI):Nat→Int:=fun j=>[64+((eQ a ids).length:Int),a.s.many,64+(eV a).length,64+(eU a).length,64+(fH a).length,64+(fY a).length,64+(gW a ids).length,ids.length,a.pl.length,a.s.refs.getD (ndB qs 0).ino.toNat 0-1].getD j 0
def uP(qs:List (NdH×Nd))(ids:List Int):By×Int:=
 if 1048576<64+((eQ (aF qs ids) ids).length:Int) then ([],3)
 else ((gR (dN qs ids (aF qs ids))).1++eQ (aF qs ids) ids,0)
structure BiA where
 lo:Option Addr
 lc:Nat
 io:Option Addr
 ic:Nat
 f1:Option Addr
 c1:Nat
 t1:Option Addr
 d1:Nat
 f2:Option Addr
 c2:Nat
 t2:Option Addr
 d2:Nat
 f3:Option Addr
 c3:Nat
 t3:Option Addr
 d3:Nat
 ro:Option Addr
 rc:Nat
 fo:Option Addr
 fc:Nat
 so:Option Addr
 sc:Nat
 tr:Option Addr
 tc:Nat
 hs:List Hd
def Lb(ow:Nat→Nat):Nat→Prop:=fun k=>ow k≠0∧ow k≠4
section
variable {a:BiA}{ow ow':Nat→Nat}{g:Nat}{qs:List (NdH×Nd)}{ids:List Int}{files:List Ino}{s:BSt}
theorem BT{D D' S:Nat→Prop}{w w':World}{lo:Option Addr}{lc:Nat}(h:bD D w.heap lo lc qs)(f:aA S w w')(hS:∀ k,D k→¬ S k)(hl:qs≠[]→∀ k,blk lo k→¬ S k)(hD:∀ k,D k→D' k):bD D' w'.heap lo lc qs:=
 ⟨h.1.keep' f (fun hne a ha=>hl hne _ ⟨a,ha,rfl⟩),fun p hp=>((h.2 p hp).RZ f hS).mono hD⟩
end
def bdB(s:BSt):Prop:=s.ino.length≤137438953472∧s.lst.length≤137438953472∧s.fur.length≤137438953472∧s.sets.length≤1048576∧s.many≤1048576
def bdR(s:BSt):Prop:=(∀ z∈s.refs,0≤z∧z≤1152921504606846977)∧∀ y∈s.sets,0≤y.2∧y.2≤1152921504606846976
theorem Ey{s:BSt}{X:List Xa}(h:X.length=0):bQ s X=(0,s):=R4 h
structure leB (s t:BSt):Prop where
 i:s.ino.length≤t.ino.length
 l:s.lst.length≤t.lst.length
 f:s.fur.length≤t.fur.length
 e:s.sets.length≤t.sets.length
 r:t.refs.length=s.refs.length
 m:s.many≤t.many
theorem leB.rfl{s:BSt}:leB s s:=⟨Sa _,Sa _,Sa _,Sa _,Eq.refl _,Sa _⟩
theorem leB.trans{s t u:BSt}(h:leB s t)(k:leB t u):leB s u:=⟨SM h.i k.i,SM h.l k.l,SM h.f k.f,SM h.e k.e,k.r.trans h.r,SM h.m k.m⟩
theorem leB.bd{s t:BSt}(h:leB s t)(k:bdB t):bdB s:=⟨SM h.i k.1,SM h.l k.2.1,SM h.f k.2.2.1,SM h.e k.2.2.2.1,SM h.m k.2.2.2.2⟩
theorem yN(s:BSt)(X:List Xa):leB s (bQ s X).2:=by
 unfold bQ
 split
 ·exact .rfl
 · split
   ·exact .rfl
   ·exact⟨Sa _,Sa _,by show _≤(s.fur++_).length;rw[R6];omega,by show _≤(s.sets++_).length;rw[R6];omega,Eq.refl _,Sa _⟩
section
variable {qs:List (NdH×Nd)}{ids:List Int}{files:List Ino}
theorem rF(k:Int)(i:Ino)(s:BSt):leB (bQ s (ndB qs k).xs).2 (dT qs ids k i s):=⟨by show _≤(_++_:By).length;rw[R6];omega,Sa _,Sa _,Sa _,S7,Nat.le_succ _⟩
theorem jC(k:Int)(i:Ino)(s:BSt):leB s (dT qs ids k i s):=(yN s _).trans (rF k i s)
theorem xH{wr:Int→BSt→BSt}(hw:∀ k s,leB s (wr k s)):∀ (ys:List Int) (s:BSt),leB s (wrK wr qs ys s).1
|[],s=>.rfl
|j::r,s=>(hw j s).trans (xH hw r (wr j s))
theorem BU(s:BSt)(b:By):leB s { s with lst:=s.lst++b }:=⟨Sa _,by show _≤(s.lst++b).length;rw[R6];omega,Sa _,Sa _,Eq.refl _,Sa _⟩
theorem xI:∀ (n:Nat) (k:Int) (s:BSt),leB s (wrB qs ids files n k s)
|0,k,s=>.rfl
|n+1,k,s=>by
   unfold wrB
   split
   ·exact .rfl
   · split
     ·exact jC _ _ _
     · split
       ·exact jC _ _ _
       · split
         ·exact((xH (xI n) _ s).trans (BU _ _)).trans (jC _ _ _)
         ·exact jC _ _ _
def shS(s:BSt):Prop:=∀ y∈s.sets,∀ x∈y.1,x.1.length≤255
theorem Dt{s:BSt}{X:List Xa}(h:shS s)(hX:∀ x∈X,x.1.length≤255):shS (bQ s X).2:=by
 unfold bQ
 split
 ·exact h
 · split
   ·exact h
   · intro y hy
     rcases SO.1 hy with hy|hy
     ·exact h y hy
     ·rw[SE] at hy;subst hy;exact hX
structure GdB (qs:List (NdH×Nd))(files:List Ino):Prop where
 q:∀ q∈qs,(1≤q.2.ino∧q.2.ino≤qs.length)∧q.2.names.length≤16∧(∀ c∈q.2.names,c.length≤255)∧q.2.tgt.length≤200∧(∀ x∈q.2.xs,x.1.length≤255)
 k:∀ s ys,xG qs s ys→ys=aZ qs s qs.length
 fl:files.length=qs.length+1
 ft:∀ f∈files,f.2.length≤200
 n:qs.length≤1024
theorem GdB.nd(G:GdB qs files)(k:Int):∀ x∈(ndB qs k).xs,x.1.length≤255:=by
 unfold ndB;rw[Sj];cases h:qs[k.toNat]? with
|none=>simp[nd0]
|some q=>exact(G.q q (Sd h)).2.2.2.2
theorem rE(G:GdB qs files){k:Int}{i:Ino}{s:BSt}(h:shS s):shS (dT qs ids k i s):=Dt h (G.nd k)
theorem E4{wr:Int→BSt→BSt}(hw:∀ k s,shS s→shS (wr k s)):∀ (ys:List Int) (s:BSt),shS s→shS (wrK wr qs ys s).1
|[],s,h=>h
|j::r,s,h=>E4 hw r (wr j s) (hw j s h)
theorem E5(G:GdB qs files):∀ (n:Nat) (k:Int) (s:BSt),shS s→shS (wrB qs ids files n k s)
|0,k,s,h=>h
|n+1,k,s,h=>by
   unfold wrB
   split
   ·exact h
   · split
     ·exact rE G h
     · split
       ·exact rE G h
       · split
         ·exact rE G (show shS { (wrK (wrB qs ids files n) qs (aZ qs (ndB qs k).names qs.length) s).1 with lst:=_ } from E4 (E5 G n) _ s h)
         ·exact rE G h
structure okS (qs:List (NdH×Nd))(s:BSt):Prop where
 r:s.refs.length=qs.length+1
 b:bdR s
 h:shS s
end
theorem eH{qs:List (NdH×Nd)}{i:Nat}{q:NdH×Nd}(h:qs[i]?=some q):ndB qs (i:Int)=q.2:=by unfold ndB;rw[SX,Sj,h];rfl
theorem E6{qs:List (NdH×Nd)}{ids:List Int}{files:List Ino}{i m:Nat}{q:NdH×Nd}(n:Nat)(s:BSt)(h:qs[i]?=some q)(hm:q.2.ino=(m:Int)):wrB qs ids files (n+1) (i:Int) s=if 0<s.refs.getD m 0 then s else if q.2.kind=2 then dT qs ids i (files.getD m bW) s else if q.2.kind=3 then dT qs ids i (zF,q.2.tgt) s else if q.2.kind=1 then
 dT qs ids i (EG (wrK (wrB qs ids files n) qs (aZ qs q.2.names qs.length) s).1 (lH (wrK (wrB qs ids files n) qs (aZ qs q.2.names qs.length) s).2).1)
  { (wrK (wrB qs ids files n) qs (aZ qs q.2.names qs.length) s).1 with lst:=(wrK (wrB qs ids files n) qs (aZ qs q.2.names qs.length) s).1.lst++(lH (wrK (wrB qs ids files n) qs (aZ qs q.2.names qs.length) s).2).1 }
 else dT qs ids i (zF,[]) s:=by
 rw[wrB,eH h,hm,SX]
theorem Dj{qs:List (NdH×Nd)}{s:List By}:∀ (n:Nat),(aZ qs s n).length≤n
|0=>Sa _
|n+1=>by
   have:=Dj (qs:=qs) (s:=s) n;unfold aZ
   split
   ·rw[R6,Sw];omega
   ·omega
theorem AF{l:List By}(h:∀ c∈l,c.length≤255):(bC l).length≤255:=by
 unfold bC;rw[Sj];cases hx:l[l.length-1]? with
|none=>exact Sf _
|some x=>exact h x (Sd hx)
theorem jM{ow ow8:Nat→Nat}{w4 w w':World}(h8:∀ k,k<w4.heap.size→ow8 k=ow k)(hF:aA (Lb ow) w4 w)(hf:aA (Lb ow8) w w'):aA (Lb ow) w4 w':=hF.RV hf (fun k h=>by
 by_cases hk:k<w4.heap.size
 · have h:ow8 k≠0∧ow8 k≠4:=h
   rw[h8 k hk] at h;exact .inl h
 ·exact .inr (by omega))
section
open Go Go.RowKit Go.Maps
def qI(l:List Nd):Prop:=l.length≤1024∧(∀ n∈l,∀ s∈n.names,cM s=0)∧(∀ n∈l,n.names.length≤16)∧(l.Pairwise fun a b=>a.names≠b.names)∧eM l []∧(∀ n∈l,n.names≠[]→eM l n.names.dropLast)∧(∀ n∈l,dR n)∧l.Pairwise fM
theorem tY(l:List Nd):chk l=0↔qI l:=by
 constructor
 · intro h
   have h1:=nY h;have h2:=gY (sH h1);have h3:=D2 h1;have hm:¬ ∃ n∈l,¬ dR n:=fun hm=>by
    rw[aI,h1,R3 (show ¬ ((0:Int)≠0) from fun h=>h rfl),R4 hm] at h;cases h
   have hl:l.Pairwise fM:=by
    apply Se;intro hl;rw[aI,h1,R3 (show ¬ ((0:Int)≠0) from fun h=>h rfl),R3 hm,R3 hl] at h;cases h
   exact⟨DD h,fun n hn s hs=>h2.1 s (Ua.2 ⟨n,hn,hs⟩),h2.2.1,S5.1 h2.2.2,h3.1,h3.2,fun n hn=>Se fun h=>hm ⟨n,hn,h⟩,hl⟩
 · rintro⟨g1,g2,g3,g4,g5,g6,g7,g8⟩
   have e1:fL (dU l)=0:=sO fun s hs=>by obtain⟨n,hn,h⟩:=Ua.1 hs;exact g2 n hn s h
   have e2:nmd l=0:=by
    unfold nmd;rw[R3 (fun h=>h e1),R3 (fun⟨n,hn,h⟩=>by have:=g3 n hn;omega),R3 (fun h=>h g4)]
   have e3:plc l=0:=by
    unfold plc;rw[R3 (by omega),R3 (fun h=>h e2),R3 (fun h=>h g5),R3 (fun⟨n,hn,h1,h2⟩=>h2 (g6 n hn h1))]
   rw[aI,e3,R3 (show ¬ ((0:Int)≠0) from fun h=>h rfl),R3 (fun⟨n,hn,h⟩=>h (g7 n hn)),R4 g8]
theorem Em{a b:Nd}(h:fM a b):fM b a:=fun e=>by
 obtain⟨h1,h2⟩:=h e.symm;exact⟨by rw[←h2.1];exact h1,h2.symm⟩
theorem tQ{l m:List Nd}(h:l.Perm m){s:List By}(hd:eM l s):eM m s:=by
 obtain⟨n,hn,h1,h2⟩:=hd;exact⟨n,h.mem_iff.1 hn,h1,h2⟩
theorem oU{l m:List Nd}(h:l.Perm m)(g:qI l):qI m:=by
 obtain⟨g1,g2,g3,g4,g5,g6,g7,g8⟩:=g;exact⟨by rw[←h.length_eq];exact g1,fun n hn=>g2 n (h.mem_iff.2 hn),fun n hn=>g3 n (h.mem_iff.2 hn),(h.pairwise_iff (fun h e=>h e.symm)).1 g4,tQ h g5,fun n hn hne=>tQ h (g6 n (h.mem_iff.2 hn) hne),fun n hn=>g7 n (h.mem_iff.2 hn),(h.pairwise_iff (fun h=>Em h)).1 g8⟩
def sC(f:Int→Int)(n:Nd):Nd:={ n with ino:=f n.ino }
def DG(f:Int→Int)(zs:List Int):Prop:=∀ a∈zs,∀ b∈zs,f a=f b→a=b
theorem wT{f:Int→Int}{l:List Nd}{s:List By}:eM (l.map (sC f)) s↔eM l s:=by
 constructor
 · rintro⟨n,hn,h1,h2⟩
   obtain⟨m,hm,rfl⟩:=SN.1 hn;exact⟨m,hm,h1,h2⟩
 · rintro⟨n,hn,h1,h2⟩
   exact⟨sC f n,SN.2 ⟨n,hn,rfl⟩,h1,h2⟩
theorem AM{f:Int→Int}{l:List Nd}(hf:DG f (l.map (·.ino))):qI (l.map (sC f))↔qI l:=by
 have hp:∀ {R R':Nd→Nd→Prop},(∀ a∈l,∀ b∈l,R (sC f a) (sC f b)↔R' a b)→((l.map (sC f)).Pairwise R↔l.Pairwise R'):=fun {R R'} h=>by
  rw[List.pairwise_map];exact⟨fun g=>g.imp_of_mem (fun ha hb=>(h _ ha _ hb).1),fun g=>g.imp_of_mem (fun ha hb=>(h _ ha _ hb).2)⟩
 have hl:(l.map (sC f)).Pairwise fM↔l.Pairwise fM:=hp fun a ha b hb=>by
  unfold fM;constructor
  ·intro h e;exact h (by show f b.ino=f a.ino;rw[e])
  ·intro h e;exact h (hf _ (SN.2 ⟨b,hb,rfl⟩) _ (SN.2 ⟨a,ha,rfl⟩) e)
 have hn:((l.map (sC f)).Pairwise fun a b=>a.names≠b.names)↔l.Pairwise fun a b=>a.names≠b.names:=hp fun a _ b _=>Iff.rfl;unfold qI;rw[hl,hn,SC,wT];simp only[List.forall_mem_map,wT];exact Iff.rfl
theorem F4(zs:List Int):DG (iT zs) zs:=fun a ha b hb h=>by
 unfold iT at h;have h1:=Ux.2 (gN.2 ha);have h2:=Ux.2 (gN.2 hb);have e:(bR zs).idxOf a=(bR zs).idxOf b:=by omega
 have g1:=List.getElem_idxOf h1;have g2:=List.getElem_idxOf h2;rw[←g1,←g2];exact getElem_congr_idx e
def H9(f:Int→Int)(p:NdH×Nd):NdH×Nd:=(p.1,sC f p.2)
theorem Ir(f:Int→Int)(ps:List (NdH×Nd)):nds (ps.map (H9 f))=(nds ps).map (sC f):=by simp[nds,H9,Function.comp_def]
theorem IU{f:Int→Int}{ps qs:List (NdH×Nd)}(hp:qs.Perm (ps.map (H9 f)))(hf:DG f (aQ ps)):qI (nds qs)↔qI (nds ps):=by
 have h1:(nds qs).Perm ((nds ps).map (sC f)):=by rw[←Ir];exact hp.map _
 have h2:DG f ((nds ps).map (·.ino)):=by
  have e:(nds ps).map (·.ino)=aQ ps:=by simp[nds,aQ,Function.comp_def]
  rw[e];exact hf
 constructor
 ·intro g;exact(AM h2).1 (oU h1 g)
 ·intro g;exact oU h1.symm ((AM h2).2 g)
theorem Hr{ps:List (NdH×Nd)}(g:qI (nds ps)):qI (nds (fU ps)):=by
 have e:fU ps=(eZ ps).map (H9 (iT (aQ (eZ ps)))):=rfl;refine(IU (f:=iT (aQ (eZ ps))) (ps:=eZ ps) (by rw[e]) (F4 _)).2 ?_;exact oU ((kC ps).symm.map _) g
end
section
open Go Go.RowKit Go.Maps
structure GdT (qs:List (NdH×Nd)):Prop where
 n:0<qs.length∧qs.length≤40
 ino:∀ q∈qs,1≤q.2.ino∧q.2.ino≤qs.length
 may:∀ q∈qs,dR q.2
 nmv:∀ q∈qs,∀ c∈q.2.names,cM c=0
 dep:∀ q∈qs,q.2.names.length≤16
 lt:∀ (i j:Nat) (p q:NdH×Nd),i<j→qs[i]?=some p→qs[j]?=some q→cK p.2.names q.2.names=true
 lnk:∀ (i j:Nat) (p q:NdH×Nd),i≠j→qs[i]?=some p→qs[j]?=some q→p.2.ino=q.2.ino→p.2.kind≠1∧Alk p.2 q.2
 root:∃ q,qs[0]?=some q∧q.2.names=[]∧q.2.kind=1
 up:∀ q∈qs,q.2.names≠[]→∃ p∈qs,p.2.names=q.2.names.dropLast∧p.2.kind=1
theorem Hs(ps:List (NdH×Nd)):(fU ps).length=ps.length:=Jo (ps:=ps) rfl
theorem Ht(ps:List (NdH×Nd)):∀ q∈fU ps,1≤q.2.ino∧q.2.ino≤(fU ps).length:=by
 intro q hq;obtain⟨i,hi⟩:=Sr hq;obtain⟨h1,h2,_⟩:=Jp (ps:=ps) rfl hi;have h3:=(R9.1 hi).1;have h4:rX ps i≤i:=by
  have:=CX (aQ ((eZ ps).take i));have:(aQ ((eZ ps).take i)).length≤i:=by simp[aQ];omega
  unfold rX;omega
 omega
theorem yM{ps:List (NdH×Nd)}(hz:chk (nds ps)=0)(hl:ps.length≤40):GdT (fU ps):=by
 have g:=Hr ((tY _).1 hz);obtain⟨qs,hqs⟩:∃ qs,qs=fU ps:=⟨_,rfl⟩
 have hlen:=Hs ps;have hino:=Ht ps;have hq:nds qs=nds (fU ps):=by rw[hqs]
 rw[←hqs] at g hlen hino ⊢;obtain⟨g1,g2,g3,g4,g5,g6,g7,g8⟩:=g;have hlt:∀ (i j:Nat) (p q:NdH×Nd),i<j→qs[i]?=some p→qs[j]?=some q→cK p.2.names q.2.names=true:=fun i j p q hij hp h=>KQ (wZ hz) hq hij hp h;have hmem:∀ q∈qs,q.2∈nds qs:=fun q h=>SN.2 ⟨q,h,rfl⟩;have hr:∃ q,qs[0]?=some q∧q.2.names=[]∧q.2.kind=1:=by
  obtain⟨n,hn,h1,h2⟩:=g5;obtain⟨q,hqm,rfl⟩:=SN.1 hn;obtain⟨i,hi⟩:=Sr hqm;have hi0:=(R9.1 hi).1;by_cases e:i=0
  ·subst e;exact⟨q,hi,h1,h2⟩
  · have:=hlt 0 i _ q (by omega) (R7 (by omega)) hi
    rw[h1,Er] at this;cases this
 refine⟨⟨?_,by omega⟩,hino,fun q h=>g7 _ (hmem q h),fun q h=>g2 _ (hmem q h),fun q h=>g3 _ (hmem q h),hlt,fun i j p q hij hp h e=>?_,hr,fun q h hne=>?_⟩
 · obtain⟨q,h,_⟩:=hr
   have:=(R9.1 h).1;omega
 · have hp':=dI hp
   have hq':=dI h;have l1:=(R9.1 hp').1;have l2:=(R9.1 hq').1;have e1:=(R9.1 hp').2;have e2:=(R9.1 hq').2;rcases Nat.lt_or_gt_of_ne hij with c|c
   · have:=SR.1 g8 i j l1 l2 c
     rw[e1,e2] at this;obtain⟨a,b⟩:=this e.symm;have b':=b.symm;exact⟨fun hk=>a (by rw[←b'.1];exact hk),b'⟩
   · have:=SR.1 g8 j i l2 l1 c
     rw[e1,e2] at this;exact this e
 · obtain⟨n,hn,h1,h2⟩:=g6 _ (hmem q h) hne
   obtain⟨p,hp,rfl⟩:=SN.1 hn;exact⟨p,hp,h1,h2⟩
section
variable {qs:List (NdH×Nd)}(G:GdT qs)
include G
theorem GdT.inj{i j:Nat}{p q:NdH×Nd}(hp:qs[i]?=some p)(h:qs[j]?=some q)(e:p.2.names=q.2.names):i=j:=by
 rcases Nat.lt_trichotomy i j with g|g|g
 ·have:=G.lt i j p q g hp h;rw[e,oS] at this;cases this
 ·exact g
 ·have:=G.lt j i q p g h hp;rw[e,oS] at this;cases this
theorem GdT.kids{s:List By}{ys:List Int}(h:xG qs s ys):ys=aZ qs s qs.length:=by
 refine h.uniq ⟨List.Perm.refl _,?_⟩;refine J1 ?_;have h1:=kE (ps:=qs) (s:=s) qs.length;refine List.Pairwise.imp_of_mem (fun {a b} ha hb hab=>?_) h1;obtain⟨x,rfl,hx,_⟩:=eJ.1 ha;obtain⟨y,rfl,hy,_⟩:=eJ.1 hb;obtain⟨p,hp,ep⟩:=yA qs hx;obtain⟨q,hq',eq⟩:=yA qs hy;have hl:=G.lt x y p q (by omega) hp hq';refine .inl ?_;show bT (nmG qs ((x:Int)).toNat) (nmG qs ((y:Int)).toNat)<0;rw[SX,SX,ep,eq];unfold cK at hl;exact of_decide_eq_true hl
theorem GdT.gdB{files:List Ino}(h1:files.length=qs.length+1)(h2:∀ f∈files,f.2.length≤200):GdB qs files where
 q:=fun q hq=>by
  have hm:=G.may q hq;have ht:q.2.tgt.length≤200:=by
   have h:=hm.2.2.2.2.2.2.2.1;unfold okT at h
   split at h
   ·exact h.2.1
   ·rw[h];exact Sf _
  refine⟨G.ino q hq,G.dep q hq,fun c hc=>(jG (G.nmv q hq c hc)).1,ht,fun x hx=>?_⟩;have hx2:=hm.2.2.2.2.2.2.2.2;obtain⟨i,hi,rfl⟩:=S8 hx;obtain⟨_,g2,_,_⟩:=hx2.1 i hi;have e:q.2.xs.getD i x0=q.2.xs[i]:=by simp[Sj,hi]
  rw[e] at g2;omega
 k:=fun s ys h=>G.kids h
 fl:=h1
 ft:=h2
 n:=by have:=G.n.2;omega
omit G in
theorem sX {s:List By} {z:Int} (h:z∈aZ qs s qs.length):∃ (k:Nat) (q:NdH×Nd),z=(k:Int)∧qs[k]?=some q∧q.2.names=s++[bC q.2.names]:=by
 obtain⟨k,rfl,hkl,hkq⟩:=eJ.1 h;obtain⟨q,hq',eq⟩:=yA qs hkl;rw[eq] at hkq;refine⟨k,q,rfl,hq',?_⟩;have h1:q.2.names[s.length]?=some (bC q.2.names):=by
  unfold bC;rw[hkq.1,Sj,Ul,R7 (by have:=hkq.1;omega)];rfl
 have h2:=tkL h1;rw[hkq.2,So (by have:=hkq.1;omega)] at h2;exact h2
omit G in
theorem Ko {k:Nat} {q:NdH×Nd} {s:List By} (h:qs[k]?=some q) (hne:q.2.names≠[]) (hs:q.2.names.dropLast=s):(k:Int)∈aZ qs s qs.length:=by
 have hk:=(R9.1 h).1;exact eJ.2 ⟨k,rfl,hk,by rw[oR h];exact kX.2 ⟨hne,hs⟩⟩
end
end
theorem C3{s:Int×By}{z n:Int}(h:s.1=0)(hb:¬ eO z n):dL n s z=(0,s.2++le z n.toNat):=by
 have h1:dW s.1 z n=0:=by rw[bB hb,h]
 have h2:dL n s z=(dW s.1 z n,lI s.1 s.2 z n):=rfl;rw[h2,h1,gG h1]
def enW(w:Nat)(l:List Int):By:=l.flatMap fun x=>le x w
def inW(w:Nat)(l:List Int):Prop:=∀ x∈l,0≤x∧x<256 ^ w
def w24(w:Nat):Prop:=w=2∨w=4
theorem Of{w:Nat}(hw:w24 w){z:Int}(h0:0≤z)(h1:z<256 ^ w):¬ eO z w:=by
 rcases hw with rfl|rfl
 ·exact eK (m:=65535) (by decide) (by decide) h0 (by have:z<65536:=h1;omega) (by decide)
 ·exact eK (m:=4294967295) (by decide) (by decide) h0 (by have:z<4294967296:=h1;omega) (by decide)
theorem I9(w:Nat)(l:List Int):(enW w l).length=w*l.length:=by
 induction l with
|nil=>rfl
|cons x r ih=>show (le x w++enW w r).length=_;rw[R6,bE,ih,Sq,Nat.mul_succ];omega
theorem vQ{w:Nat}(hw:w24 w):∀ (l:List Int) (s:Int×By),s.1=0→inW w l→l.foldl (dL (w:Int)) s=(0,s.2++enW w l)
|[],s,h,_=>by show s=_;rw[show enW w []=[] from rfl,TA,←h]
|x::r,s,h,hl=>by
   have h1:=hl x (by simp);rw[Tm,C3 h (Of hw h1.1 h1.2),vQ hw r _ rfl (fun y hy=>hl y (by simp[hy]))];show (0,s.2++le x (w:Int).toNat++enW w r)=(0,s.2++(le x w++enW w r))
   rw[SI,SX]
theorem Al{w:Nat}(hw:w24 w){l:List Int}(h:inW w l):aK l (w:Int)=(enW w l,0):=by
 unfold aK;rw[R4 (by rcases hw with rfl|rfl;exact .inl rfl;exact .inr rfl)];have:jR l (w:Int)=(0,enW w l):=by unfold jR;rw[vQ hw l _ rfl h];rfl
 rw[this];rfl
def yW(s:By):By:=Ss s.length::s
def lQ(x:Xa):By:=yW x.1++yW x.2
def cT(X:List Xa):By:=Ss X.length::X.flatMap lQ
theorem A3(s:By):(yW s).length=1+s.length:=by simp[yW];omega
theorem CM{s:Int×By}{t:By}(h:s.1=0)(ht:t.length≤255):rO s t=(0,s.2++yW t):=by
 have h1:=(gE h ht).1;have h2:rO s t=(lG s.1 t,lS s.1 s.2 t):=rfl;have h3:lG s.1 t=0:=h1;rw[h2,h3];unfold lS yW;rw[R3 (by omega)]
theorem CD{X:List Xa}(h:eC X):∀ k,k≤X.length→xSt X k=(0,Ss X.length::(X.take k).flatMap lQ)
|0,_=>by
   have hb:=kQ (n:=X.length) (by have:=h.2;omega);show dL 1 (0,[]) X.length=_;rw[C3 rfl hb];have:=Gl X.length;simp only[List.nil_append,List.take_zero,List.flatMap_nil];rw[show (1:Int).toNat=1 from rfl,this]
|k+1,hk=>by
   obtain⟨_,g2,_,g4⟩:=h.1 k (by omega);rw[rM X k (by omega),CD h k (by omega)];unfold xF;have i1:=CM (s:=(0,Ss X.length::(X.take k).flatMap lQ)) (t:=(X.getD k x0).1) rfl (by omega);rw[i1,CM rfl (by omega)];rw[Sv (by omega:k<X.length),TS];simp[lQ,Sj,show k<X.length by omega]
theorem oO{X:List Xa}(h:eC X)(h0:0<X.length):iS X=(cT X,0):=by
 unfold iS;rw[R3 (by rintro(h1|h1);omega;exact h1 h),CD h _ (Sa _),S1];rfl
section
variable {im pre rest b:List UInt8}(him:im=pre++(bY b++rest))
include him
end
def Cx(B b:By)(st:Nat):Prop:=(bY b=[]∧st=0)∨(bY b≠[]∧∃ pre rest,B=pre++(bY b++rest)∧st=64+pre.length)
def uH(s:DS):Prop:=∀ a v,dZ s.m a=some v→∃ pre rest,s.B=pre++(a.1++rest)∧64+pre.length=v
theorem uH.zero:uH ⟨[],[]⟩:=fun a v h=>by cases h
theorem EW(s:DS)(b:By):∃ z,(dA 64 s b).1.B=s.B++z:=by
 unfold dA uS
 split
 ·exact⟨[],by simp⟩
 · split
   ·exact⟨[],by simp⟩
   ·exact⟨_,rfl⟩
theorem EX{s:DS}(h:uH s)(b:By)(hb:(bY b).length≤maxLen):uH (dA 64 s b).1∧Cx (dA 64 s b).1.B b (dA 64 s b).2:=by
 by_cases hr:bY b=[]
 · have e:dA 64 s b=(s,0):=by unfold dA;rw[R4 hr]
   rw[e];exact⟨h,.inl ⟨hr,rfl⟩⟩
 · cases hf:dZ s.m (iC (bY b)) with
  |some k=>
     have e:dA 64 s b=(s,k):=Br (fun e=>hr (Sg.1 e)) hf;rw[e];obtain⟨pre,rest,h1,h2⟩:=h _ _ hf;rw[mS hb] at h1;exact⟨h,.inr ⟨hr,pre,rest,h1,h2.symm⟩⟩
  |none=>
     have e:dA 64 s b=(⟨s.B++bY b,s.m++[(iC (bY b),64+s.B.length)]⟩,64+s.B.length):=Bs (fun e=>hr (Sg.1 e)) hf;rw[e];refine⟨fun a v hv=>?_,.inr ⟨hr,s.B,[],by simp,rfl⟩⟩;have hv:dZ (s.m++[(iC (bY b),64+s.B.length)]) a=some v:=hv;rw[tI] at hv;show ∃ pre rest,s.B++bY b=pre++(a.1++rest)∧64+pre.length=v;cases ha:dZ s.m a with
    |some k=>
       rw[ha] at hv;have hkv:k=v:=by simpa using hv
       subst hkv;obtain⟨pre,rest,h1,h2⟩:=h a k ha;exact⟨pre,rest++bY b,by rw[h1];simp,h2⟩
    |none=>
       rw[ha] at hv;by_cases hk:iC (bY b)=a
       · have hv:64+s.B.length=v:=by simpa[hk] using hv
         refine⟨s.B,[],?_,hv⟩;rw[←hk,mS hb,TA]
       ·simp[hk] at hv
theorem Cx.more{B b z:By}{st:Nat}(h:Cx B b st):Cx (B++z) b st:=by
 rcases h with h|⟨h,pre,rest,h1,h2⟩
 ·exact .inl h
 ·exact .inr ⟨h,pre,rest++z,by rw[h1];simp,h2⟩
def TlS(L:List By)(t:By)(fr off:Nat):Prop:=(t=[]∧fr=0∧off=0)∨(0<t.length∧∃ (n:Nat) (a z:By),n<L.length∧fr=n+1∧off=a.length∧L.getD n []=a++(t++z))
def ExL(A B:List By):Prop:=A.length≤B.length∧∀ q,q<A.length→∃ z,B.getD q []=A.getD q []++z
theorem TlS.ext{A B:List By}{t:By}{fr off:Nat}(h:TlS A t fr off)(k:ExL A B):TlS B t fr off:=by
 rcases h with h|⟨h,n,a,z,h1,h2,h3,h4⟩
 ·exact .inl h
 · obtain⟨y,hy⟩:=k.2 n h1
   exact .inr ⟨h,n,a,z++y,Te h1 k.1,h2,h3,by rw[hy,h4];simp⟩
def zB(L:List By):Prop:=∀ b∈L,0<b.length∧b.length≤128
theorem HG{L:List By}(hL:zB L){t:By}(ht:t.length<128):ExL L (eW L t).1∧zB (eW L t).1∧(eW L t).1.length≤L.length+1∧TlS (eW L t).1 t (eW L t).2.1 (eW L t).2.2:=by
 unfold eW;by_cases h0:t.length<1
 · rw[R4 (uE (.inl h0))]
   exact⟨⟨Sa _,fun q _=>⟨[],by simp⟩⟩,hL,Nat.le_succ _,.inl ⟨Sg.1 (by omega),rfl,rfl⟩⟩
 · rw[R3 (by rw[rJ ⟨by omega,ht⟩];simp)]
   by_cases hn:L=[]∨128<(L.getD (L.length-1) []).length+t.length
   · rw[R4 hn]
     refine⟨⟨by simp,fun q hq=>⟨[],by rw[Sj,Sj,List.getElem?_append_left hq];simp⟩⟩,fun b hb=>?_,by simp,.inr ⟨by omega,L.length,[],[],by simp,rfl,rfl,by simp[Sj]⟩⟩;rcases SO.1 hb with hb|hb
     ·exact hL b hb
     ·rw[SE] at hb;subst hb;omega
   · rw[R3 hn]
     have hne:L≠[]:=fun e=>hn (.inl e);have hl:=Sk.2 hne;have hsum:(L.getD (L.length-1) []).length+t.length≤128:=Nat.le_of_not_lt (fun h=>hn (.inr h));have hlast:(L.set (L.length-1) (L.getD (L.length-1) []++t)).getD (L.length-1) []=L.getD (L.length-1) []++t:=by
      rw[Sj,TD,R4 rfl,R4 (by omega)];rfl
     refine⟨⟨by simp,fun q hq=>?_⟩,fun b hb=>?_,by simp,.inr ⟨by omega,L.length-1,L.getD (L.length-1) [],[],by rw[S7];omega,by show L.length=_;omega,rfl,by rw[hlast];simp⟩⟩
     · by_cases e:q=L.length-1
       ·subst e;exact⟨t,hlast⟩
       ·exact⟨[],by rw[Sj,TD,R3 (fun h=>e h.symm)];simp[Sj]⟩
     · rcases List.mem_or_eq_of_mem_set hb with hb|hb
       ·exact hL b hb
       ·rw[hb,R6];omega
def FOk(B:By)(L:List By)(d:By)(f:Ino):Prop:=
 ∃ st fr off:Nat,f=(fun j=>[2,0,0,0,0,0,(st:Int),(d.length:Int),(fr:Int),(off:Int)].getD j 0,[])∧Cx B d st∧TlS L (bH d) fr off
structure FI (V:List Nd)(n:Nat)(s:FSt):Prop where
 g:uH s.ds
 t:zB s.tails
 tn:s.tails.length≤V.length
 l:s.files.length=n
 b:s.ds.B.length≤4320*V.length
 f:∀ i f,s.files[i]?=some f→f=bW∨∃ x∈V,x.kind=2∧x.ino.toNat=i∧FOk s.ds.B s.tails x.data f
 a:∀ x∈V,x.kind=2→(s.files.getD x.ino.toNat bW).1 0=2
theorem DO(d:By):(bH d).length<128:=by unfold bH;rw[Sm];omega
theorem JZ(d:By)(h:d.length≤4096):(bY d).length≤maxLen:=by
 have:=kD d (d.length/128);have:(bY d).length≤135*(d.length/128):=this.1;unfold maxLen;omega
theorem KU(s:DS)(b:By)(h:b.length≤4096):(dA 64 s b).1.B.length≤s.B.length+4320:=by
 have h1:(bY b).length≤135*(b.length/128):=(kD b (b.length/128)).1;unfold dA uS
 split
 ·exact T9 _ _
 · split
   ·exact T9 _ _
   · show (s.B++bY b).length≤_
     rw[R6];omega
theorem AX{V:List Nd}{n:Nat}{s:FSt}(h:FI V n s){x:Nd}(hx:0≤x.ino∧x.ino<n)(hd:x.data.length≤4096):FI (V++[x]) n (cR s x):=by
 unfold cR;by_cases hc:x.kind≠2∨(s.files.getD x.ino.toNat bW).1 0=2
 · rw[R4 hc]
   refine⟨h.g,h.t,by rw[R6];exact SM h.tn (T9 _ _),h.l,by rw[R6];have:=h.b;omega,fun i f hf=>(h.f i f hf).imp id (fun⟨y,hy,r⟩=>⟨y,List.mem_append_left _ hy,r⟩),fun y hy hk=>?_⟩;rcases SO.1 hy with hy|hy
   ·exact h.a y hy hk
   · rw[SE] at hy;subst hy
     exact hc.resolve_left (fun h=>h hk)
 · rw[R3 hc]
   have hk:x.kind=2:=Se fun h=>hc (.inl h);obtain⟨g1,g2⟩:=EX h.g x.data (JZ _ hd);obtain⟨a1,a2,a3,a4⟩:=HG h.t (DO x.data);obtain⟨z,hz⟩:=EW s.ds x.data;refine⟨g1,a2,by rw[R6];exact SM a3 (Nat.add_le_add_right h.tn 1),by show (s.files.set _ _).length=n;rw[S7];exact h.l,by
    have h1:=KU s.ds x.data hd;have:=h.b;show (dA 64 s.ds x.data).1.B.length≤_;rw[R6];simp only[Sw];omega,fun i f hf=>?_,fun y hy hk2=>?_⟩
   · have hf:(s.files.set x.ino.toNat _)[i]?=some f:=hf
     rw[TD] at hf;by_cases e:x.ino.toNat=i
     · rw[R4 e] at hf
       split at hf
       · cases hf
         exact .inr ⟨x,by simp,hk,e,_,_,_,rfl,g2,a4⟩
       ·cases hf
     · rw[R3 e] at hf
       rcases h.f i f hf with hf|⟨y,hy,k1,k2,st,fr,off,k3,k4,k5⟩
       ·exact .inl hf
       ·exact .inr ⟨y,List.mem_append_left _ hy,k1,k2,st,fr,off,k3,by show Cx (dA 64 s.ds x.data).1.B _ _;rw[hz];exact k4.more,k5.ext a1⟩
   · show ((s.files.set x.ino.toNat _).getD y.ino.toNat bW).1 0=2
     rw[Sj,TD];by_cases e:x.ino.toNat=y.ino.toNat
     ·rw[R4 e,R4 (by rw[h.l];omega)];rfl
     · rw[R3 e]
       rcases SO.1 hy with hy|hy
       ·exact h.a y hy hk2
       ·rw[SE] at hy;subst hy;exact absurd rfl e
theorem wO{n:Nat}:∀ (L V:List Nd) (s:FSt),FI V n s→(∀ x∈L,(0≤x.ino∧x.ino<n)∧x.data.length≤4096)→FI (V++L) n (L.foldl cR s)
|[],V,s,h,_=>by rw[TA];exact h
|x::r,V,s,h,hL=>by
   have h1:=AX h (hL x (by simp)).1 (hL x (by simp)).2;have h2:=wO r (V++[x]) _ h1 (fun y hy=>hL y (by simp[hy]));rw[SI] at h2;exact h2
theorem yS{qs:List (NdH×Nd)}(h:∀ q∈qs,(1≤q.2.ino∧q.2.ino≤qs.length)∧q.2.data.length≤4096):FI (nds qs) (qs.length+1) (aO qs):=by
 have h0:FI [] (qs.length+1) ⟨⟨[],[]⟩,[],Sy (qs.length+1) bW⟩:=⟨uH.zero,(by intro b hb;cases hb),Sa _,SP,Sa _,fun i f hf=>.inl (by
  have:=Sd hf;exact Uy this),(by intro x hx;cases hx)⟩
 have:=wO (nds qs) [] _ h0 (fun x hx=>by
  obtain⟨q,hq,rfl⟩:=SN.1 hx;have:=h q hq;omega)
 exact this
theorem jZ:∀ (L:List By) (s:DS),(dB L s).2.length=L.length
|[],_=>rfl
|t::r,s=>by show ((_::(dB r (jT 64 s t).1).2).length=_);rw[Sq,jZ r,Sq]
theorem oG:∀ (L:List By) (s:DS),∃ z,(dB L s).1.B=s.B++z∧z.length≤(L.map (fun t=>(cN t).1.length)).sum
|[],s=>⟨[],by simp[dB],by simp⟩
|t::r,s=>by
   obtain⟨z,hz,hl⟩:=oG r (jT 64 s t).1;refine⟨(cN t).1++z,?_,?_⟩
   · show (dB r (jT 64 s t).1).1.B=_
     rw[hz];show (s.B++(cN t).1)++z=_;rw[SI]
   ·rw[R6,SV,sum_cons];omega
theorem CN:∀ (L:List By) (s:DS) (j:Nat),j<L.length→∃ pre rest,(dB L s).1.B=pre++((cN (L.getD j [])).1++rest)∧(dB L s).2.getD j 0=64+(pre.length:Int)
|[],s,j,h=>absurd h (Nat.not_lt_zero _)
|t::r,s,0,_=>by
   obtain⟨z,hz,_⟩:=oG r (jT 64 s t).1;refine⟨s.B,z,?_,?_⟩
   · show (dB r (jT 64 s t).1).1.B=_
     rw[hz];show (s.B++(cN t).1)++z=_;rw[SI];rfl
   · show ((64+s.B.length:Nat):Int)=_
     omega
|t::r,s,j+1,h=>CN r (jT 64 s t).1 j (Nat.lt_of_succ_lt_succ h)
theorem Dr{F:Nat→Int}:∀ (L:List Fd) (G:Nat→Int) (t:By),(∀ x∈L,(1≤x.b∧x.b≤4)∧0≤F x.o∧F x.o<256 ^ x.b.toNat)→L.foldl gF ((0,fQ F L++t),G)=((0,t),fun o=>if o∈L.map (·.o) then F o else G o)
|[],G,t,_=>by simp[fQ]
|x::r,G,t,h=>by
   obtain⟨⟨b1,b4⟩,h0,hx⟩:=h x (by simp);have e:fQ F (x::r)++t=le (F x.o) x.b.toNat++(fQ F r++t):=by simp[fQ]
   obtain⟨g1,g2⟩:=KA (n:=x.b.toNat) (x:=F x.o) (by omega) (by omega) h0 hx (fQ F r++t);rw[show ((x.b.toNat:Nat):Int)=x.b by omega] at g1 g2;have hs:gF ((0,fQ F (x::r)++t),G) x=((0,fQ F r++t),upd G x.o (F x.o)):=by
    unfold gF;rw[e];simp only;rw[g1,g2]
   rw[Tm,hs,Dr r _ t (fun y hy=>h y (by simp[hy]))];refine Uh rfl (funext fun o=>?_);simp only[SV,St];by_cases ho:o∈r.map (·.o)
   ·rw[R4 ho,R4 (.inr ho)]
   · rw[R3 ho]
     by_cases hx2:o=x.o
     ·rw[R4 (.inl hx2)];subst hx2;simp[upd]
     ·rw[R3 (fun h=>h.elim hx2 ho)];simp[upd,hx2]
theorem HZ{F:Nat→Int}(h:jK F):∀ x∈suL,(1≤x.b∧x.b≤4)∧0≤F x.o∧F x.o<256 ^ x.b.toNat:=by
 obtain⟨⟨a1,a2,a3,a4,a5,a6,a7⟩,b1,b2,b3,b4,b5,b6,b7,b8⟩:=h;intro x hx;simp only[suL,St,SD,or_false] at hx;rcases hx with rfl|rfl|rfl|rfl|rfl|rfl|rfl|rfl|rfl|rfl
 ·exact⟨by decide,by show 0≤F 0;omega,by show F 0<4294967296;omega⟩
 ·exact⟨by decide,by show 0≤F 2;omega,by show F 2<4294967296;omega⟩
 ·exact⟨by decide,by show 0≤F 3;omega,by show F 3<4294967296;omega⟩
 ·exact⟨by decide,by show 0≤F 4;omega,by show F 4<4294967296;omega⟩
 ·exact⟨by decide,by show 0≤F 5;omega,by show F 5<4294967296;omega⟩
 ·exact⟨by decide,by show 0≤F 6;omega,by show F 6<4294967296;omega⟩
 ·exact⟨by decide,by show 0≤F 9;omega,by show F 9<4294967296;omega⟩
 ·exact⟨by decide,by show 0≤F 1;omega,by show F 1<65536;omega⟩
 ·exact⟨by decide,by show 0≤F 7;omega,by show F 7<65536;omega⟩
 ·exact⟨by decide,by show 0≤F 8;omega,by show F 8<65536;omega⟩
theorem Fm(o:Nat):o∈suL.map (·.o)↔o<10:=by
 show o∈[0,2,3,4,5,6,9,1,7,8]↔_;simp only[St,SD,or_false];omega
theorem H0{F:Nat→Int}(h:jK F)(h0:∀ o,10≤o→F o=0)(rest:By):suF (suB F++rest)=F:=by
 have e:((suB F++rest).take 64).drop 4=fQ F suL++(le (iB (suH F):Nat) 4++Sy 22 0):=by
  rw[Ub (kP F)];unfold suB suH;rw[SI];exact Ud (show suM.length=4 from rfl)
 unfold suF suQ;rw[e,Dr suL zF _ (HZ h)];funext o;show (if o∈suL.map (·.o) then F o else zF o)=F o;by_cases ho:o<10
 ·rw[R4 ((Fm o).2 ho)]
 ·rw[R3 (fun h=>ho ((Fm o).1 h)),h0 o (by omega)];rfl
theorem zR{F:Nat→Int}(h:jK F)(h0:∀ o,10≤o→F o=0)(rest:By)(hs:F 0=64+(rest.length:Int)):dE (suB F++rest)=(F,0):=by
 have hl:=kP F;have hF:=H0 h h0 rest;have hok:iA (suB F++rest):=by
  unfold iA;rw[hF];exact⟨by rw[R6];omega,h,Ub hl,by rw[R6];omega⟩
 unfold dE;rw[R4 hok,hF]
theorem Hc{L:List Ent}(h:cF [] L):lH L=(bK L,0)∧KM (bK L)=(L,0):=by
 refine⟨?_,Hb h rfl⟩;unfold lH;rw[R4 h]
section
open Go Go.RowKit Go.Maps
def At3(T X:By)(o:Nat):Prop:=∃ pre rest,T=pre++(X++rest)∧pre.length=o
theorem At3.more{T X z:By}{o:Nat}(h:At3 T X o):At3 (T++z) X o:=by
 obtain⟨pre,rest,h1,h2⟩:=h;exact⟨pre,rest++z,by rw[h1];simp,h2⟩
theorem At3.le{T X:By}{o:Nat}(h:At3 T X o):o+X.length≤T.length:=by
 obtain⟨pre,rest,h1,h2⟩:=h;rw[h1,R6,R6];omega
theorem At3.new(T X:By):At3 (T++X) X T.length:=⟨T,[],by simp,rfl⟩
theorem dY{T z:By}{o:Nat}(h:o≤T.length):bI (T++z) o=bI T o:=by
 rw[vJ (T:=T++z) (by rw[R6];omega),vJ (T:=T) h,List.take_append_of_le_length h]
theorem Ia(T:By){o p:Nat}(h:o<p):bI T o<bI T p:=by
 unfold bI;by_cases e:o/128=p/128
 ·rw[e];omega
 · have h1:(frW T (o/128+1)).length≤(frW T (p/128)).length:=GJ (by omega)
   have h2:=KC (T:=T) (o/128);omega
structure Ex (s t:BSt):Prop where
 i:∃ z,t.ino=s.ino++z
 l:∃ z,t.lst=s.lst++z
 f:∃ z,t.fur=s.fur++z
 r:∀ m,0<s.refs.getD m 0→t.refs.getD m 0=s.refs.getD m 0
theorem Ex.rfl{s:BSt}:Ex s s:=⟨⟨[],by simp⟩,⟨[],by simp⟩,⟨[],by simp⟩,fun _ _=>Eq.refl _⟩
theorem Ex.trans{s t u:BSt}(h:Ex s t)(k:Ex t u):Ex s u:=by
 obtain⟨⟨a,ha⟩,⟨b,hb⟩,⟨c,hc⟩,hr⟩:=h;obtain⟨⟨a',ha'⟩,⟨b',hb'⟩,⟨c',hc'⟩,hr'⟩:=k;exact⟨⟨a++a',by rw[ha',ha,SI]⟩,⟨b++b',by rw[hb',hb,SI]⟩,⟨c++c',by rw[hc',hc,SI]⟩,fun m hm=>by rw[hr' m (by rw[hr m hm];exact hm),hr m hm]⟩
def XrI(s:BSt)(X:List Xa)(xr:Int):Prop:=(X=[]∧xr=0)∨(X≠[]∧∃ o,xr=((bI s.fur o:Nat):Int)+1∧At3 s.fur (cT X) o)
theorem XrI.ex{s t:BSt}{X:List Xa}{xr:Int}(h:XrI s X xr)(e:Ex s t):XrI t X xr:=by
 rcases h with h|⟨h,o,h1,h2⟩
 ·exact .inl h
 · obtain⟨z,hz⟩:=e.f
   have:=h2.le;exact .inr ⟨h,o,by rw[hz,dY (by omega)];exact h1,by rw[hz];exact h2.more⟩
def jU(qs:List (NdH×Nd))(s:BSt)(ys:List Int):List Ent:=ys.map fun j=>(bC (ndB qs j).names,(ndB qs j).kind,s.refs.getD (ndB qs j).ino.toNat 0-1)
def BF(qs:List (NdH×Nd))(s:BSt)(ys:List Int):Prop:=∀ j∈ys,0<s.refs.getD (ndB qs j).ino.toNat 0
theorem BF.ex{qs:List (NdH×Nd)}{s t:BSt}{ys:List Int}(h:BF qs s ys)(e:Ex s t):BF qs t ys:=fun j hj=>by rw[e.r _ (h j hj)];exact h j hj
theorem yV{qs:List (NdH×Nd)}{s t:BSt}{ys:List Int}(h:BF qs s ys)(e:Ex s t):jU qs t ys=jU qs s ys:=by
 unfold jU;apply List.map_congr_left;intro j hj;rw[e.r _ (h j hj)]
def Je(s:BSt)(o n:Nat):Ino:=(fun j=>if j=6 then ((bI s.lst o:Nat):Int) else if j=7 then (n:Int) else 0,[])
def KiI(qs:List (NdH×Nd))(files:List Ino)(s:BSt)(q:Nd)(i:Ino):Prop:=
 (q.kind=2→i=files.getD q.ino.toNat bW)∧(q.kind=3→i=(zF,q.tgt)) ∧
 (q.kind=1→BF qs s (aZ qs q.names qs.length)∧∃ o,i=Je s o (bK (jU qs s (aZ qs q.names qs.length))).length∧At3 s.lst (bK (jU qs s (aZ qs q.names qs.length))) o)
theorem KiI.ex{qs:List (NdH×Nd)}{files:List Ino}{s t:BSt}{q:Nd}{i:Ino}(h:KiI qs files s q i)(e:Ex s t):KiI qs files t q i:=by
 obtain⟨h1,h2,h3⟩:=h;refine⟨h1,h2,fun hk=>?_⟩;obtain⟨a,o,b,c⟩:=h3 hk;obtain⟨z,hz⟩:=e.l;have hl:=c.le;have he:=yV a e;refine⟨a.ex e,o,?_,?_⟩
 ·rw[he,b];unfold Je;rw[hz,dY (by omega)]
 ·rw[he,hz];exact c.more
def Ju(qs:List (NdH×Nd))(ids:List Int)(files:List Ino)(s:BSt)(m:Nat):Prop:=
 ∃ (k:Nat) (q:NdH×Nd) (i:Ino) (xr:Int) (o:Nat),qs[k]?=some q∧q.2.ino=(m:Int)∧s.refs.getD m 0=((bI s.ino o:Nat):Int)+1∧iW (inB qs ids k i xr).1 (inB qs ids k i xr).2∧At3 s.ino (yX (inB qs ids k i xr)) o∧XrI s q.2.xs xr∧KiI qs files s q.2 i
theorem Ju.ex{qs:List (NdH×Nd)}{ids:List Int}{files:List Ino}{s t:BSt}{m:Nat}(h:Ju qs ids files s m)(h0:0<s.refs.getD m 0)(e:Ex s t):Ju qs ids files t m:=by
 obtain⟨k,q,i,xr,o,h1,h2,h3,h4,h5,h6,h7⟩:=h;obtain⟨z,hz⟩:=e.i;have hl:=h5.le;exact⟨k,q,i,xr,o,h1,h2,by rw[e.r m h0,hz,dY (by omega)];exact h3,h4,by rw[hz];exact h5.more,h6.ex e,h7.ex e⟩
def qE(s:BSt):List Int:=s.refs.filter (fun r=>decide (0<r))
structure jV (qs:List (NdH×Nd))(ids:List Int)(files:List Ino)(s:BSt):Prop where
 std:∀ m,0<s.refs.getD m 0→Ju qs ids files s m
 rl:s.refs.length=qs.length+1
 rn:∀ m,0≤s.refs.getD m 0
 sets:∀ y∈s.sets,∃ o,y.2=((bI s.fur o:Nat):Int)∧At3 s.fur (cT y.1) o
 many:s.many=(qE s).length
 dist:∀ m n,0<s.refs.getD m 0→s.refs.getD m 0=s.refs.getD n 0→m=n
 bi:s.ino.length≤214*s.many
 bf:s.fur.length≤4200*s.many
 sn:s.sets.length≤s.many
 sh:shS s
theorem tK{l:List Int}{m:Nat}{v:Int}(h:m<l.length)(h0:l.getD m 0≤0)(hv:0<v):((l.set m v).filter (fun r=>decide (0<r))).length=(l.filter (fun r=>decide (0<r))).length+1:=by
 have e:l=l.take m++l.getD m 0::l.drop (m+1):=by
  rw[show l.getD m 0=l[m] by simp[Sj,h],←Tn h,SG]
 have e2:l.set m v=l.take m++v::l.drop (m+1):=List.set_eq_take_append_cons_drop .. |>.trans (by rw[R4 h]);rw[e2]
 conv=>rhs;rw[e]
 rw[Tf,Tf,TG (by simpa using hv),List.filter_cons_of_neg (by simp only[decide_eq_true_eq];omega)];simp;omega
theorem Lm{l:List Int}{m n:Nat}{v:Int}(h:m<l.length):(l.set m v).getD n 0=if n=m then v else l.getD n 0:=by
 rw[Sj,TD];by_cases e:m=n
 ·subst e;rw[R4 rfl,R4 h,R4 rfl];rfl
 ·rw[R3 e,R3 (fun h=>e h.symm)];rfl
theorem oY{X:List Xa}(h:eC X):(cT X).length≤4200:=by
 have hb:∀ x∈X,x.1.length≤255∧x.2.length≤255:=fun x hx=>by
  obtain⟨i,hi,rfl⟩:=S8 hx;obtain⟨_,g2,_,g4⟩:=h.1 i hi;have e:X.getD i x0=X[i]:=by simp[Sj,hi]
  rw[e] at g2 g4;omega
 have key:∀ Y:List Xa,(∀ x∈Y,x.1.length≤255∧x.2.length≤255)→(Y.flatMap lQ).length≤512*Y.length:=by
  intro Y
  induction Y with
 |nil=>intro _;exact Sa _
 |cons x r ih=>
    intro hy;have h1:=hy x (by simp);have h2:=ih (fun y h=>hy y (by simp[h]));have e:(lQ x).length=(1+x.1.length)+(1+x.2.length):=by unfold lQ;rw[R6,A3,A3]
    rw[Tc,R6,Sq,e];omega
 have h1:=key X hb;have h2:=h.2;unfold cT;rw[Sq];omega
section
variable {qs:List (NdH×Nd)}{ids:List Int}{files:List Ino}
theorem GH{s:BSt}(h:jV qs ids files s){X:List Xa}(hX:eC X) :
 XrI (bQ s X).2 X (bQ s X).1∧Ex s (bQ s X).2∧(bQ s X).2.refs=s.refs∧(bQ s X).2.many=s.many∧(bQ s X).2.ino=s.ino∧(bQ s X).2.lst=s.lst∧(bQ s X).2.fur.length≤s.fur.length+4200 ∧
 (∀ y∈(bQ s X).2.sets,∃ o,y.2=((bI (bQ s X).2.fur o:Nat):Int)∧At3 (bQ s X).2.fur (cT y.1) o)∧0≤(bQ s X).1∧shS (bQ s X).2∧(bQ s X).2.sets.length≤s.sets.length+1:=by
 have hsh:shS (bQ s X).2:=Dt h.sh (fun x hx=>by
  obtain⟨i,hi,rfl⟩:=S8 hx;obtain⟨_,g2,_,_⟩:=hX.1 i hi;have e:X.getD i x0=X[i]:=by simp[Sj,hi]
  rw[e] at g2;omega)
 by_cases h0:X.length=0
 · have e:bQ s X=(0,s):=by unfold bQ;rw[R4 h0]
   rw[e] at hsh ⊢;exact⟨.inl ⟨Sg.1 h0,rfl⟩,.rfl,rfl,rfl,rfl,rfl,T9 _ _,h.sets,Uu _,hsh,Nat.le_succ _⟩
 · have hne:X≠[]:=fun e=>h0 (by rw[e];rfl)
   cases hf:s.sets.find? (fun y=>decide (y.1=X)) with
  |some y=>
     have e:bQ s X=(y.2+1,s):=by unfold bQ;rw[R3 h0,hf]
     rw[e] at hsh ⊢;obtain⟨o,h1,h2⟩:=h.sets y (TR hf);have h3:y.1=X:=by simpa using List.find?_some hf
     exact⟨.inr ⟨hne,o,by rw[h1],by rw[←h3];exact h2⟩,.rfl,rfl,rfl,rfl,rfl,T9 _ _,h.sets,by show 0≤y.2+1;omega,hsh,Nat.le_succ _⟩
  |none=>
     have e:bQ s X=(((bI s.fur s.fur.length:Nat):Int)+1,{ s with fur:=s.fur++(iS X).1,sets:=s.sets++[(X,((bI s.fur s.fur.length:Nat):Int))] }):=by unfold bQ;rw[R3 h0,hf]
     have hp:(iS X).1=cT X:=by rw[oO hX (by omega)]
     rw[hp] at e;rw[e] at hsh ⊢;have hl:=oY hX;refine⟨.inr ⟨hne,s.fur.length,by show _=((bI (s.fur++cT X) s.fur.length:Nat):Int)+1;rw[dY (Sa _)],.new _ _⟩,⟨⟨[],by simp⟩,⟨[],by simp⟩,⟨_,rfl⟩,fun _ _=>rfl⟩,rfl,rfl,rfl,rfl,by show (s.fur++cT X).length≤_;rw[R6];omega,fun y hy=>?_,by show (0:Int)≤((bI _ _:Nat):Int)+1;omega,hsh,by show (s.sets++_).length≤_;rw[R6];exact Sa _⟩;show ∃ o,y.2=((bI (s.fur++cT X) o:Nat):Int)∧At3 (s.fur++cT X) (cT y.1) o;rcases SO.1 hy with hy|hy
     · obtain⟨o,h1,h2⟩:=h.sets y hy
       have:=h2.le;exact⟨o,by rw[dY (by omega)];exact h1,h2.more⟩
     · rw[SE] at hy;subst hy
       exact⟨s.fur.length,by rw[dY (Sa _)],.new _ _⟩
theorem GT{s:BSt}(h:jV qs ids files s){k m:Nat}{q:NdH×Nd}(hq:qs[k]?=some q)(hm:q.2.ino=(m:Int))(hml:m≤qs.length)(h0:s.refs.getD m 0=0)(hX:eC q.2.xs){i:Ino}(hk:KiI qs files s q.2 i)
 (hmay:∀ xr,0≤xr→xr≤4294967295→iW (inB qs ids k i xr).1 (inB qs ids k i xr).2)(hn:qs.length≤40) :
 jV qs ids files (dT qs ids k i s)∧Ex s (dT qs ids k i s)∧0<(dT qs ids k i s).refs.getD m 0∧(∀ n,n≠m→(dT qs ids k i s).refs.getD n 0=s.refs.getD n 0)∧(dT qs ids k i s).lst=s.lst∧(dT qs ids k i s).many=s.many+1:=by
 have hmn:s.many≤41:=by
  have h1:=T8 (fun r:Int=>decide (0<r)) s.refs;rw[h.many];unfold qE;rw[h.rl] at h1;omega
 obtain⟨x1,x2,x3,x4,x5,x6,x7,x8,x9,x10,x11⟩:=GH h hX;have hnd:=eH hq;obtain⟨R,hR⟩:∃ R,R=bQ s q.2.xs:=⟨_,rfl⟩
 rw[←hR] at x1 x2 x3 x4 x5 x6 x7 x8 x9 x10 x11;have hxr:R.1≤4294967295:=by
  rcases x1 with⟨_,e⟩|⟨_,o,e,ha⟩
  ·rw[e];decide
  · have h1:=ha.le
    have h2:=h.bf;have h3:=oV R.2.fur (o/128);rw[e];unfold bI;omega
 have hmy:=hmay R.1 x9 hxr;obtain⟨I,hI⟩:∃ I,I=inB qs ids k i R.1:=⟨_,rfl⟩
 rw[←hI] at hmy;have hput:(mX I.1 I.2).1=yX I:=by unfold mX yX;rw[R4 hmy]
 have hlen:=A9 hmy;have hfix:dT qs ids (k:Int) i s = { R.2 with ino:=R.2.ino++yX I,refs:=R.2.refs.set m ((bI R.2.ino R.2.ino.length:Nat)+1),many:=R.2.many+1 }:=by
  unfold dT;rw[hnd,←hR,hm,SX,←hI,hput]
 obtain⟨t,ht⟩:∃ t,t=dT qs ids (k:Int) i s:=⟨_,rfl⟩
 rw[←ht];have t1:t.ino=R.2.ino++yX I:=by rw[ht,hfix]
 have t2:t.refs=R.2.refs.set m ((bI R.2.ino R.2.ino.length:Nat)+1):=by rw[ht,hfix]
 have t3:t.many=R.2.many+1:=by rw[ht,hfix]
 have t4:t.fur=R.2.fur:=by rw[ht,hfix]
 have t5:t.lst=R.2.lst:=by rw[ht,hfix]
 have t6:t.sets=R.2.sets:=by rw[ht,hfix]
 have hrl:m<R.2.refs.length:=by rw[x3,h.rl];omega
 have hgd:∀ n,t.refs.getD n 0=if n=m then ((bI s.ino s.ino.length:Nat):Int)+1 else s.refs.getD n 0:=fun n=>by rw[t2,Lm hrl,x3,x5]
 have hex2:Ex R.2 t:=⟨⟨_,t1⟩,⟨[],by rw[t5];simp⟩,⟨[],by rw[t4];simp⟩,fun n hn=>by
  rw[hgd n,x3];by_cases e:n=m
  ·subst e;rw[x3,h0] at hn;exact absurd hn (by decide)
  ·rw[R3 e]⟩
 have hex:=x2.trans hex2;have hpos:0<t.refs.getD m 0:=by rw[hgd m,R4 rfl];omega
 have hmt:At3 t.ino (yX I) s.ino.length:=by rw[t1,x5];exact .new _ _
 have hrt:bI t.ino s.ino.length=bI s.ino s.ino.length:=by rw[t1,x5];exact dY (Sa _)
 refine⟨⟨fun n hn=>?_,by rw[t2,S7,x3];exact h.rl,fun n=>?_,fun y hy=>?_,?_,fun a b ha hab=>?_,by rw[t1,t3,x5,x4,R6];have:=h.bi;omega,by rw[t4,t3,x4];have:=h.bf;omega,by rw[t6,t3,x4];have:=h.sn;omega,fun y hy=>x10 y (by rw[←t6];exact hy)⟩,hex,hpos,fun n hn=>by rw[hgd n,R3 hn],by rw[t5,x6],by rw[t3,x4]⟩
 · by_cases e:n=m
   · subst e
     refine⟨k,q,i,R.1,s.ino.length,hq,hm,?_,by rw[←hI];exact hmy,by rw[←hI];exact hmt,x1.ex hex2,hk.ex hex⟩;rw[hgd n,R4 rfl,hrt]
   · have hn':0<s.refs.getD n 0:=by rw[hgd n,R3 e] at hn;exact hn
     exact(h.std n hn').ex hn' hex
 · rw[hgd n]
   split
   ·omega
   ·exact h.rn n
 · rw[t6] at hy
   rw[t4];exact x8 y hy
 · rw[t3,x4,h.many]
   unfold qE;rw[t2,tK hrl (by rw[x3,h0];exact Uu _) (by omega),x3]
 · have old:∀ c,c≠m→0<s.refs.getD c 0→s.refs.getD c 0<((bI s.ino s.ino.length:Nat):Int)+1:=fun c hc hp=>by
    obtain⟨_,_,_,_,o,_,_,e,hmy2,ha,_⟩:=h.std c hp;have h1:=ha.le;have h2:=A9 hmy2;have h3:=Ia s.ino (show o<s.ino.length by omega);rw[e];omega
   rw[hgd a] at ha hab;rw[hgd b] at hab;by_cases ea:a=m
   · by_cases eb:b=m
     ·rw[ea,eb]
     · rw[R4 ea,R3 eb] at hab
       have:=old b eb (by omega);omega
   · rw[R3 ea] at ha hab
     by_cases eb:b=m
     · rw[R4 eb] at hab
       have:=old a ea ha;omega
     · rw[R3 eb] at hab
       exact h.dist a b ha hab
end
end
theorem DwO.tight{D B:Nat→Prop}{w:World}{g p first:Nat}{s:DS}(h:DwO D w.heap g p first s)(hB:∀ k,k<w.heap.size→D k→B k)(hp:¬ B p):DwO B w.heap g p first s:=h.fresh (Rk _ _) hB hp
theorem Ha(p first:Nat)(W:World)(ht:TbV W.heap p) :
 CA 21 [pT p,iV first] W fun v w'=>v=.pointer (some ⟨W.heap.size+1,0,none⟩)∧DwO (fun k=>W.heap.size≤k∧k<w'.heap.size) w'.heap (W.heap.size+1) p first ⟨[],[]⟩∧aA nob W w':=by
 have hpl:=(Sb.1 ht).1;refine(Jd p first W ht).mono ?_;rintro e w' ⟨v,rfl,rfl,h1,h2⟩;exact⟨_,rfl,rfl,h1.tight (fun k hk h=>⟨h,hk⟩) (fun h=>by omega),h2⟩
theorem Hf(A:Nat→Prop)(g p first:Nat)(s:DS)(bo:Option Addr)(bc:Nat)(b:By)(W:World)(hM:DwO A W.heap g p first s)(hv:Vw b8 W.heap bo bc b)(hfi:first≤1000)(hb:s.B.length≤1099511627776)(hbl:b.length≤1048576) :
 CA 66 [pT g,.slice bo b.length bc] W fun v w'=>∃ o c,v=.tuple #[iV ((dA first s b).2:Nat),.slice o (bH b).length c]∧Own b8 5 w'.heap o c (bH b)∧Fr W.heap.size o∧DwO (fun k=>Nx A W w' k∧¬ blk o k) w'.heap g p first (dA first s b).1∧aA A W w':=by
 obtain⟨ht,hp⟩:=hM.tab;have hpl:=(Sb.1 ht).1;refine(Jf (fun k=>A k∨W.heap.size≤k) g p first s bo bc b W (hM.mono (fun k h=>.inl h) (fun h=>h.elim hp (fun h=>by omega))) (fun k h=>.inr h) hv hfi hb hbl).mono ?_;rintro e w' ⟨v,rfl,o,c,rfl,h1,h2,h3,h4⟩;exact⟨_,rfl,o,c,rfl,h1,h2,h3.tight (fun k hk h=>⟨h.1.imp id (fun h=>⟨h,hk⟩),h.2⟩) (fun h=>h.1.elim hp (fun h=>by omega)),h4.nx⟩
theorem Cn(A:Nat→Prop)(g p first:Nat)(s:DS)(bo:Option Addr)(bc:Nat)(b:By)(W:World)(hM:DwO A W.heap g p first s)(hv:Vw b8 W.heap bo bc b)(hfi:first≤1000)(hb:s.B.length≤1099511627776)(hbl:b.length≤128) :
 CA 69 [pT g,.slice bo b.length bc] W fun v w'=>v=iV ((jT first s b).2:Nat)∧DwO (Nx A W w') w'.heap g p first (jT first s b).1∧aA A W w':=by
 obtain⟨ht,hp⟩:=hM.tab;have hpl:=(Sb.1 ht).1;refine(EH (fun k=>A k∨W.heap.size≤k) g p first s bo bc b W (hM.mono (fun k h=>.inl h) (fun h=>h.elim hp (fun h=>by omega))) (fun k h=>.inr h) hv hfi hb hbl).mono ?_;rintro e w' ⟨v,rfl,rfl,h3,h4⟩;exact⟨_,rfl,rfl,h3.tight (fun k hk h=>h.imp id (fun h=>⟨h,hk⟩)) (fun h=>h.elim hp (fun h=>by omega)),h4.nx⟩
theorem EU(first:Nat)(s:DS)(r:By):dZ (uS first s r).1.m (iC r)=some (uS first s r).2:=by
 unfold uS
 split
 ·assumption
 · rename_i h
   show dZ (s.m++[_]) _=_;rw[tI,h];exact R4 rfl
section
open Go Go.RowKit Go.Maps
structure PiA where
 lo:Option Addr
 lc:Nat
 io:Option Addr
 ic:Nat
 g1:Nat
 g2:Nat
 g3:Nat
 r:Nat
 f:Nat
 z:Nat
def piC(a:PiA)(n m:Nat):List Value:=[pT a.g1,pT a.g2,pT a.g3,.slice a.lo n a.lc,.slice a.io m a.ic,.map (some a.r),.map (some a.f),.map (some a.z)]
def fl0(f:Ino):Ino:=(fun j=>if j=0 then 0 else f.1 j,f.2)
def yJ(f:Ino):Value:=.agg (Et f).toArray
def uT(m:List (I6×Value))(refs:List Int):Prop:=∀ a:I6,1≤a.1→bL m a=if 0<refs.getD a.1.toNat 0 then some (iV (refs.getD a.1.toNat 0-1)) else none
def Cz(m:List (I6×Value))(files:List Ino):Prop:=∀ a:I6,1≤a.1→bL m a=if (files.getD a.1.toNat bW).1 0=2 then some (yJ (fl0 (files.getD a.1.toNat bW))) else none
def Cw(m:List (SK×Value))(sets:List (List Xa×Int)):Prop:=∀ X,eC X→X≠[]→bL m (iC (cT X))=(sets.find? (fun y=>decide (y.1=X))).map (fun y=>iV y.2)
def PiX(z:Nat)(a:PiA)(ow:Nat→Nat)(H:Array Obj)(g tp:Nat)(qs:List (NdH×Nd))(ids:List Int)(files:List Ino)(s:BSt):Prop:=
 (H[g]?=some (.cells (piC a qs.length ids.length).toArray 62 (0,0))∧ow g=6)∧(bD (fun k=>ow k=4) H a.lo a.lc qs∧(qs≠[]→∀ k,blk a.lo k→ow k=4))∧(Vw i64 H a.io a.ic ids∧(ids≠[]→∀ k,blk a.io k→ow k=4))∧(TbV H tp∧ow tp=4) ∧
 (z≠1→MwO (fun k=>ow k=1) H a.g1 tp (cO [] s.ino).1 (cO [] s.ino).2)∧(z≠2→MwO (fun k=>ow k=2) H a.g2 tp (cO [] s.lst).1 (cO [] s.lst).2)∧(z≠3→MwO (fun k=>ow k=3) H a.g3 tp (cO [] s.fur).1 (cO [] s.fur).2) ∧
 (ow a.r=5∧(z≠5→∃ m,cC enI H a.r m∧uT m s.refs∧m.length=(qE s).length))∧(ow a.f=7∧(z≠7→∃ m,cC enI H a.f m∧Cz m files))∧(ow a.z=8∧(z≠8→∃ m,cC enS H a.z m∧Cw m s.sets))
section
variable {a:PiA}{ow ow':Nat→Nat}{g tp:Nat}{qs:List (NdH×Nd)}{ids:List Int}{files:List Ino}{s:BSt}{w w':World}
theorem PiX.step{S:Nat→Prop}(h:PiX 0 a ow w.heap g tp qs ids files s)(f:aA S w w')(z:Nat)(hz:z≠4∧z≠6)(hS:∀ k,S k→ow k=z∨ow k=0)(ho:∀ k,ow k≠0→ow' k=ow k):PiX z a ow' w'.heap g tp qs ids files s:=by
 obtain⟨⟨b1,b2⟩,⟨n1,n2⟩,⟨i1,i2⟩,⟨t1,t2⟩,w1,w2,w3,⟨r1,r2⟩,⟨f1,f2⟩,z1,z2⟩:=h;have key:∀ c,c≠0→c≠z→∀ k,ow k=c→¬ S k:=fun c h0 h1 k hk hs=>by rcases hS k hs with h|h<;>omega
 have kz:∀ c,c≠0→∀ k,ow k=c→ow' k=c:=fun c h0 k hk=>by rw[ho k (by omega)];exact hk
 have tb:¬ S tp:=key 4 (by decide) (fun h=>hz.1 h.symm) tp t2;have tn:∀ c,c≠4→¬ ow' tp=c:=fun c hc=>by rw[kz 4 (by decide) tp t2];exact fun h=>hc h.symm
 have d4:=key 4 (by decide) (fun h=>hz.1 h.symm);refine⟨⟨f.obj b1 (key 6 (by decide) (fun h=>hz.2 h.symm) g b2),kz 6 (by decide) g b2⟩,⟨BT n1 f d4 (fun hne k hk=>d4 k (n2 hne k hk)) (kz 4 (by decide)),fun hne k hk=>kz 4 (by decide) k (n2 hne k hk)⟩,
  ⟨i1.keep' f (fun hne b hb=>d4 _ (i2 hne _ ⟨b,hb,rfl⟩)),fun hne k hk=>kz 4 (by decide) k (i2 hne k hk)⟩,⟨f.obj t1 tb,kz 4 (by decide) tp t2⟩,
  fun hc=>((w1 (by decide)).RZ f (key 1 (by decide) (fun h=>hc h.symm)) tb).mono (kz 1 (by decide)) (tn 1 (by decide)),fun hc=>((w2 (by decide)).RZ f (key 2 (by decide) (fun h=>hc h.symm)) tb).mono (kz 2 (by decide)) (tn 2 (by decide)),
  fun hc=>((w3 (by decide)).RZ f (key 3 (by decide) (fun h=>hc h.symm)) tb).mono (kz 3 (by decide)) (tn 3 (by decide)),
  ⟨kz 5 (by decide) _ r1,fun hc=>?_⟩,⟨kz 7 (by decide) _ f1,fun hc=>?_⟩,kz 8 (by decide) _ z1,fun hc=>?_⟩
 · obtain⟨m,m1,m2⟩:=r2 (by decide)
   exact⟨m,m1.RZ f (key 5 (by decide) (fun h=>hc h.symm) _ r1),m2⟩
 · obtain⟨m,m1,m2⟩:=f2 (by decide)
   exact⟨m,m1.RZ f (key 7 (by decide) (fun h=>hc h.symm) _ f1),m2⟩
 · obtain⟨m,m1,m2⟩:=z2 (by decide)
   exact⟨m,m1.RZ f (key 8 (by decide) (fun h=>hc h.symm) _ z1),m2⟩
theorem PiX.RY(h:PiX 0 a ow w.heap g tp qs ids files s)(f:aA nob w w'):PiX 0 a ow w'.heap g tp qs ids files s:=h.step f 0 (by decide) (fun k h=>h.elim) (fun _ _=>rfl)
def mD(W w':World)(z:Nat)(ow:Nat→Nat):Nat→Nat:=fun k=>if k<W.heap.size then ow k else if k<w'.heap.size then z else 0
theorem gZ{W:World}(z:Nat)(ow:Nat→Nat){k:Nat}(h:k<W.heap.size):mD W w' z ow k=ow k:=R4 h
theorem iY{W:World}(z:Nat)(ow:Nat→Nat)(hs:W.heap.size≤w'.heap.size){k:Nat}(h:w'.heap.size≤k):mD W w' z ow k=0:=by unfold mD;rw[R3 (by omega),R3 (by omega)]
theorem fE{W:World}(z:Nat)(hn:∀ k,W.heap.size≤k→ow k=0){k:Nat}(h:ow k≠0):mD W w' z ow k=ow k:=gZ z ow (Se fun hc=>h (hn k (by omega)))
theorem kW{W:World}(z:Nat)(hn:∀ k,W.heap.size≤k→ow k=0)(hz:z≠0){k:Nat}(h:Nx (fun k=>ow k=z) W w' k):mD W w' z ow k=z:=by
 rcases h with h|⟨h1,h2⟩
 ·rw[fE z hn (by omega)];exact h
 ·unfold mD;rw[R3 (by omega),R4 h2]
def iN(a:PiA)(ow:Nat→Nat)(W:World)(g tp:Nat)(qs:List (NdH×Nd))(ids:List Int)(files:List Ino)(s':BSt)(w':World):Prop:=
 ∃ ow':Nat→Nat,PiX 0 a ow' w'.heap g tp qs ids files s'∧(∀ k,k<W.heap.size→ow' k=ow k)∧(∀ k,w'.heap.size≤k→ow' k=0)∧aA (Lb ow) W w'
theorem iN.trans{W:World}{s1 s2:BSt}{ow1:Nat→Nat}{w1:World}(h1:∀ k,k<W.heap.size→ow1 k=ow k)(f1:aA (Lb ow) W w1)(h:iN a ow1 w1 g tp qs ids files s2 w'):iN a ow W g tp qs ids files s2 w':=by
 obtain⟨ow2,a1,a2,a3,a4⟩:=h;refine⟨ow2,a1,fun k hk=>by rw[a2 k (by have:=f1.size;omega),h1 k hk],a3,f1.RV a4 (fun k hk=>?_)⟩;by_cases hk2:k<W.heap.size
 ·left;unfold Lb at hk ⊢;rw[h1 k hk2] at hk;exact hk
 ·right;omega
theorem D8(bo:Option Addr)(bc:Nat)(b:By)(W:World)(hM:PiX 0 a ow W.heap g tp qs ids files s)(hn:∀ k,W.heap.size≤k→ow k=0)(hv:Vw b8 W.heap bo bc b)(hl:s.ino.length+b.length≤274877906944) :
 CA 26 [pT a.g1,.slice bo b.length bc] W fun v w'=>v=iV (bI s.ino s.ino.length:Nat)∧iN a ow W g tp qs ids files { s with ino:=s.ino++b } w':=by
 obtain⟨_,_,_,⟨_,ht⟩,w1,w2,w3,_⟩:=id hM;refine(nG (fun k=>ow k=1) a.g1 tp s.ino bo bc b W (w1 (by decide)) hv hl).mono ?_;rintro e w' ⟨v,rfl,rfl,h1,h2⟩;have hs:=h2.size;obtain⟨b0,b1,b2,b3,c1,c2,c3,b4⟩:=hM.step h2 1 (by decide) (fun k hk=>.inl hk) (fun k hk=>fE (w':=w') 1 hn hk);have hw:=h1.mono (D':=fun k=>mD W w' 1 ow k=1) (fun k hk=>kW 1 hn (by decide) hk) (by rw[fE 1 hn (by omega),ht];decide);exact⟨_,rfl,rfl,mD W w' 1 ow,⟨b0,b1,b2,b3,fun _=>hw,fun _=>c2 (by decide),fun _=>c3 (by decide),b4.1.imp id (fun h _=>h (by decide)),b4.2.1.imp id (fun h _=>h (by decide)),b4.2.2.imp id (fun h _=>h (by decide))⟩,fun k hk=>gZ 1 ow hk,fun k hk=>iY 1 ow hs hk,h2.mono (fun k hk=>by unfold Lb;omega)⟩
theorem D7(bo:Option Addr)(bc:Nat)(b:By)(W:World)(hM:PiX 0 a ow W.heap g tp qs ids files s)(hn:∀ k,W.heap.size≤k→ow k=0)(hv:Vw b8 W.heap bo bc b)(hl:s.lst.length+b.length≤274877906944) :
 CA 26 [pT a.g2,.slice bo b.length bc] W fun v w'=>v=iV (bI s.lst s.lst.length:Nat)∧iN a ow W g tp qs ids files { s with lst:=s.lst++b } w':=by
 obtain⟨_,_,_,⟨_,ht⟩,w1,w2,w3,_⟩:=id hM;refine(nG (fun k=>ow k=2) a.g2 tp s.lst bo bc b W (w2 (by decide)) hv hl).mono ?_;rintro e w' ⟨v,rfl,rfl,h1,h2⟩;have hs:=h2.size;obtain⟨b0,b1,b2,b3,c1,c2,c3,b4⟩:=hM.step h2 2 (by decide) (fun k hk=>.inl hk) (fun k hk=>fE (w':=w') 2 hn hk);have hw:=h1.mono (D':=fun k=>mD W w' 2 ow k=2) (fun k hk=>kW 2 hn (by decide) hk) (by rw[fE 2 hn (by omega),ht];decide);exact⟨_,rfl,rfl,mD W w' 2 ow,⟨b0,b1,b2,b3,fun _=>c1 (by decide),fun _=>hw,fun _=>c3 (by decide),b4.1.imp id (fun h _=>h (by decide)),b4.2.1.imp id (fun h _=>h (by decide)),b4.2.2.imp id (fun h _=>h (by decide))⟩,fun k hk=>gZ 2 ow hk,fun k hk=>iY 2 ow hs hk,h2.mono (fun k hk=>by unfold Lb;omega)⟩
theorem D6(bo:Option Addr)(bc:Nat)(b:By)(W:World)(hM:PiX 0 a ow W.heap g tp qs ids files s)(hn:∀ k,W.heap.size≤k→ow k=0)(hv:Vw b8 W.heap bo bc b)(hl:s.fur.length+b.length≤274877906944) :
 CA 26 [pT a.g3,.slice bo b.length bc] W fun v w'=>v=iV (bI s.fur s.fur.length:Nat)∧iN a ow W g tp qs ids files { s with fur:=s.fur++b } w':=by
 obtain⟨_,_,_,⟨_,ht⟩,w1,w2,w3,_⟩:=id hM;refine(nG (fun k=>ow k=3) a.g3 tp s.fur bo bc b W (w3 (by decide)) hv hl).mono ?_;rintro e w' ⟨v,rfl,rfl,h1,h2⟩;have hs:=h2.size;obtain⟨b0,b1,b2,b3,c1,c2,c3,b4⟩:=hM.step h2 3 (by decide) (fun k hk=>.inl hk) (fun k hk=>fE (w':=w') 3 hn hk);have hw:=h1.mono (D':=fun k=>mD W w' 3 ow k=3) (fun k hk=>kW 3 hn (by decide) hk) (by rw[fE 3 hn (by omega),ht];decide);exact⟨_,rfl,rfl,mD W w' 3 ow,⟨b0,b1,b2,b3,fun _=>c1 (by decide),fun _=>c2 (by decide),fun _=>hw,b4.1.imp id (fun h _=>h (by decide)),b4.2.1.imp id (fun h _=>h (by decide)),b4.2.2.imp id (fun h _=>h (by decide))⟩,fun k hk=>gZ 3 ow hk,fun k hk=>iY 3 ow hs hk,h2.mono (fun k hk=>by unfold Lb;omega)⟩
end
end
section
open Go Go.RowKit Go.Maps
theorem A4{s t A B:By}(hs:s.length≤255)(ht:t.length≤255)(h:yW s++A=yW t++B):s=t∧A=B:=by
 unfold yW at h;simp only[Th,T1.injEq] at h;have hl:s.length=t.length:=by
  have:=congrArg UInt8.toNat h.1;rw[S6,S6] at this;omega
 exact append_inj h.2 hl
theorem A5:∀ {X Y:List Xa},(∀ x∈X,x.1.length≤255∧x.2.length≤255)→(∀ x∈Y,x.1.length≤255∧x.2.length≤255)→X.length=Y.length→X.flatMap lQ=Y.flatMap lQ→X=Y
|[],[],_,_,_,_=>rfl
|[],y::r,_,_,h,_=>by simp at h
|x::r,[],_,_,h,_=>by simp at h
|x::r,y::q,hX,hY,hl,h=>by
   have hx:=hX x (by simp);have hy:=hY y (by simp);rw[Tc,Tc] at h;unfold lQ at h;rw[SI,SI] at h;obtain⟨e1,h1⟩:=A4 hx.1 hy.1 h;obtain⟨e2,h2⟩:=A4 hx.2 hy.2 h1;rw[A5 (fun z hz=>hX z (by simp[hz])) (fun z hz=>hY z (by simp[hz])) (by simpa using hl) h2,Uh e1 e2]
theorem yF{X:List Xa}(h:eC X):∀ x∈X,x.1.length≤255∧x.2.length≤255:=fun x hx=>by
 obtain⟨i,hi,rfl⟩:=S8 hx;obtain⟨_,g2,_,g4⟩:=h.1 i hi;have e:X.getD i x0=X[i]:=by simp[Sj,hi]
 rw[e] at g2 g4;omega
theorem EE{X Y:List Xa}(hX:eC X)(hY:eC Y)(h:cT X=cT Y):X=Y:=by
 unfold cT at h;rw[T1.injEq] at h;have hl:X.length=Y.length:=by
  have:=congrArg UInt8.toNat h.1;rw[S6,S6] at this;have:=hX.2;have:=hY.2;omega
 exact A5 (yF hX) (yF hY) hl h.2
theorem Cw.put{m:List (SK×Value)}{sets:List (List Xa×Int)}(h:Cw m sets){X:List Xa}(hX:eC X)(h0:X≠[])(hl:(cT X).length≤maxLen)(hno:bL m (iC (cT X))=none)(v:Int):Cw (bV m (iC (cT X)) (iV v)) (sets++[(X,v)]):=by
 intro Y hY hY0;have hYl:(cT Y).length≤maxLen:=by have:=oY hY;unfold maxLen;omega
 rw[gM,List.find?_append];by_cases e:Y=X
 · subst e
   have hn:=h Y hY hY0;rw[hno] at hn;have hn:sets.find? (fun y=>decide (y.1=Y))=none:=by
    cases hf:sets.find? (fun y=>decide (y.1=Y)) with
   |none=>rfl
   |some y=>rw[hf] at hn;cases hn
   rw[R4 rfl,hn];simp
 · rw[R3 (fun he=>e (EE hY hX (by have:=congrArg Subtype.val he;rwa[mS hYl,mS hl] at this))),h Y hY hY0]
   have hx:[(X,v)].find? (fun y=>decide (y.1=Y))=none:=by
    simp only[List.find?_cons,List.find?_nil];rw[R5 (fun h=>e h.symm)]
   rw[hx];cases sets.find? (fun y=>decide (y.1=Y))<;>rfl
theorem FU(a:PiA)(ow:Nat→Nat)(g tp:Nat)(qs:List (NdH×Nd))(ids:List Int)(files:List Ino)(s:BSt)(p:NdH×Nd)(W:World)(hM:PiX 0 a ow W.heap g tp qs ids files s)(hn:∀ k,W.heap.size≤k→ow k=0)(hp:NdV (fun k=>ow k=4) W.heap p)(hX:eC p.2.xs)(hb:s.fur.length≤137438953472)(hR:∀ y∈s.sets,0≤y.2∧y.2≤1152921504606846976) :
 CA 73 [pT g,.agg (aH p).toArray] W fun v w'=>v=iV (bQ s p.2.xs).1∧iN a ow W g tp qs ids files (bQ s p.2.xs).2 w':=by
 obtain⟨⟨hg,hg6⟩,_,_,_,_,_,_,_,_,hz8,hzm⟩:=id hM;obtain⟨mz,hmz,hms⟩:=hzm (by decide);obtain⟨X,hXe⟩:∃ X,X=p.2.xs:=⟨_,rfl⟩
 obtain⟨_,_,hxv⟩:=hp;have hxn:p.1.xs.n=X.length:=by rw[hXe];exact hxv.1
 rw[←hXe] at hX hxv ⊢;have hxl:=oY hX;have hxm:(cT X).length≤maxLen:=by unfold maxLen;omega
 have hlg:=(Sb.1 hg).1;refine cS 45 [(0,_),(1,_)] Tryz.func73 ?_;refine Gz 2 ?_;refine OR rfl rfl ?_;intro w1 hg1 hs1 hf1;have hg1:w1.heap[W.heap.size]?=some (.cells (aH p).toArray 37 (0,0)):=hg1;have hM1:=hM.RY hf1;refine Gz 6 ?_;refine cL (Ox (u:=.slice p.1.xs.a X.length p.1.xs.c) (Ow gO rfl (aD hg1 rfl)) (by rw[←hxn];rfl)) ?_;refine Ot L8 rfl (Ie p.1.xs.a p.1.xs.c X w1 ((XsV.RZ hxv hf1 (fun _ _=>id)).xav (fun x hx=>by have:=(yF hX x hx).1;unfold maxLen;omega))) rfl ?_;rintro _ w2 ⟨bo,bc,rfl,ho2,hfr2,hf2⟩;have hF2:=hf1.trans hf2;have hM2:=hM1.RY hf2;refine fK 11 ?_ ?_<;>intro h16
 ·have h0:X=[]:=Se fun hc=>h16 (by rw[oO hX (Sk.2 hc)]);have hfu:bQ s X=(0,s):=Ey (by rw[h0];rfl);refine Gz 11 ?_;exact⟨_,rfl,by rw[hfu],by rw[hfu];exact⟨ow,hM2,fun _ _=>rfl,fun k hk=>hn k (by have:=hF2.size;omega),hF2.any⟩⟩
 have hX0:X≠[]:=fun e=>h16 (by rw[e];decide);have hpx:=oO hX (Sk.2 hX0);rw[hpx] at ho2 ⊢;obtain⟨B,hB⟩:∃ B,B=cT X:=⟨_,rfl⟩
 have ho2:Own b8 5 w2.heap bo bc B:=by rw[hB];exact ho2
 rw[show ((cT X,(0:Int)):By×Int).1=B from hB.symm];have hBs:(iC (cT X))=⟨B,by rw[hB];exact hxm⟩:=Subtype.ext (by rw[mS hxm];exact hB.symm);have hfx:=hms X hX hX0;rw[hBs] at hfx;refine Gz 6 ?_;refine OI 12 (fun H=>H[g]?=some (.cells (piC a qs.length ids.length).toArray 62 (0,0))∧Vw b8 H bo bc B∧cC enS H a.z mz) [] [0,1,2,3,4,5,6,7,8,9,10,11] aM (by kernel_rfl) (⟨hF2.obj hg id,ho2.vw,hmz.RZ hF2 id⟩) ?_;refine Gz 5 ?_;refine xC rfl (PI aP ty5 ty9 rfl (fun H hH=>hH.2.1)) ?_;refine xC rfl (O6 mpS AI (a:=⟨B,by rw[hB];exact hxm⟩) rfl rfl (fun H hH=>hH.2.2)) ?_;refine Gz 11 ?_;refine OZ (Pz rfl) rfl (fun h28=>?_) (fun h28=>?_)
 ·have hno:s.sets.find? (fun y=>decide (y.1=X))=none:=by
   cases hf:s.sets.find? (fun y=>decide (y.1=X)) with
  |none=>rfl
  |some y=>rw[hfx,hf] at h28;simp at h28
  have hrb:=BJ (T:=s.fur) (o:=s.fur.length) (by omega);have hfu:bQ s X=(((bI s.fur s.fur.length:Nat):Int)+1,{ s with fur:=s.fur++(iS X).1,sets:=s.sets++[(X,((bI s.fur s.fur.length:Nat):Int))] }):=by
   unfold bQ;rw[R3 (fun h=>hX0 (Sg.1 h)),hno]
  rw[hpx] at hfu;have hz2:=hF2.size;refine Gz 9 ?_;refine cL (Ow rY rfl (by rw[xE];exact aD (i:=2) (hF2.obj hg id) rfl)) ?_;refine Gz 1 ?_;refine Ot IY rfl (D6 bo bc B (w2.drewN 1) hM2 (fun k hk=>hn k (by have hk:w2.heap.size≤k:=hk;omega)) ho2.vw (by rw[hB];omega)) rfl ?_;rintro _ w3 ⟨rfl,ow3,hM3,hl3,hn3,hf3⟩;have hf3:aA (Lb ow) w2 w3:=hf3.RW;have hF3:aA (Lb ow) W w3:=hF2.any.trans hf3;have hl3:∀ k,k<w2.heap.size→ow3 k=ow k:=hl3;have ho3:=ho2.RZ hf3 (fun b hb h=>by have h1:=hfr2 b hb;have h2:=hf1.size;exact h.1 (hn _ (by omega)));obtain⟨⟨hg3,_⟩,_,_,_,_,_,_,_,_,hz38,hzm3⟩:=id hM3;obtain⟨mz3,hmz3,hms3⟩:=hzm3 (by decide);have hfx3:=hms3 X hX hX0;rw[show ({ s with fur:=s.fur++B }:BSt).sets=s.sets from rfl,hno] at hfx3;have hkey:=hfx3;rw[hBs] at hkey;refine Gz 3 ?_;refine OI 7 (fun H=>H[g]?=some (.cells (piC a qs.length ids.length).toArray 62 (0,0))∧Vw b8 H bo bc B) [7] [0,1,2,3,4,5,6,7] aM (by kernel_rfl) (⟨hg3,ho3.vw⟩) ?_;refine Gz 5 ?_;refine xC rfl (PI aP ty5 ty9 rfl (fun H hH=>hH.2)) ?_;refine Gz 1 ?_;refine OE rfl rfl (OS mpS AI (a:=⟨B,by rw[hB];exact hxm⟩) rfl rfl rfl hmz3 ?_);intro w4 hm4 hs4 hf4;refine O8 rfl ?_;have hf4:aA (· = a.z) w3 w4:=hf4.RW;rw[←hBs] at hm4;have hst:=hM3.step hf4 8 (by decide) (fun k hk=>.inl (by have h:k=a.z:=hk;rw[h];exact hz38)) (fun _ _=>rfl);obtain⟨c0,c1,c2,c3,c4,c5,c6,c7,c8,c9,_⟩:=hst;have hM4:PiX 0 a ow3 w4.heap g tp qs ids files { s with fur:=s.fur++cT X,sets:=s.sets++[(X,((bI s.fur s.fur.length:Nat):Int))] }:=by
   rw[←hB];exact⟨c0,c1,c2,c3,fun _=>c4 (by decide),fun _=>c5 (by decide),fun _=>c6 (by decide),c7.imp id (fun h _=>h (by decide)),c8.imp id (fun h _=>h (by decide)),c9,fun _=>⟨_,hm4,hms3.put hX hX0 hxm hfx3 _⟩⟩
  have hz4:=hf4.size;have hz3:=hf3.size;have hF4:aA (Lb ow) W w4:=hF3.RV hf4 (fun k hk=>.inl (by have h:k=a.z:=hk;rw[h];unfold Lb;omega));refine Gz 11 ?_
  first
  |exact⟨_,rfl,by rw[hfu],by rw[hfu];exact⟨ow3,hM4,fun k hk=>hl3 k (by omega),fun k hk=>hn3 k (by omega),hF4⟩⟩
  |exact⟨_,rfl,by rw[hfu],by rw[hfu];exact⟨ow,hM2,fun _ _=>rfl,fun k hk=>hn k (by have h1:=hF2.size;have h2:w2.heap.size≤k:=hk;omega),hF2.any.draws 1⟩⟩
 obtain⟨y,hy⟩:∃ y,s.sets.find? (fun y=>decide (y.1=X))=some y:=by
  cases hf:s.sets.find? (fun y=>decide (y.1=X)) with
 |none=>rw[hfx,hf] at h28;simp at h28
 |some y=>exact⟨y,rfl⟩
 have eg:(bL mz ⟨B,by rw[hB];exact hxm⟩).getD (iV 0)=iV y.2:=by rw[hfx,hy];rfl
 rw[eg];have hfu:bQ s X=(y.2+1,s):=by
  unfold bQ;rw[R3 (fun h=>hX0 (Sg.1 h)),hy]
 have hyb:=hR y (TR hy);refine Gz 14 ?_
 first
 |exact⟨_,rfl,by rw[hfu],by rw[hfu];exact⟨ow3,hM4,fun k hk=>hl3 k (by omega),fun k hk=>hn3 k (by omega),hF4⟩⟩
 |exact⟨_,rfl,by rw[hfu],by rw[hfu];exact⟨ow,hM2,fun _ _=>rfl,fun k hk=>hn k (by have h1:=hF2.size;have h2:w2.heap.size≤k:=hk;omega),hF2.any.draws 1⟩⟩
end
theorem Ig{l:List Int}(hr:l.Pairwise (· < ·)){e:Nat}{z:Int}(he:l[e]?=some z):sI l z=e∧∀ q,q<l.length→(l.getD q 0<z↔q<e):=by
 obtain⟨hel,hez⟩:=R9.1 he;have key:∀ q,q<l.length→(l.getD q 0<z↔q<e):=fun q hq=>by
  have hd:l.getD q 0=l[q]:=by rw[Sj,R7 hq];rfl
  rw[hd];have hp:=SR.1 hr;constructor
  · intro h
    apply Se;intro hc;rcases Nat.lt_or_eq_of_le (Nat.le_of_not_lt hc) with h1|h1
    ·have:=hp e q hel hq h1;rw[hez] at this;omega
    ·subst h1;rw[hez] at h;omega
  · intro h
    have:=hp q e hq hel h;rw[hez] at this;exact this
 refine⟨?_,key⟩;unfold sI;have h:l.findIdx? (fun x=>decide (x=z))=some e:=by
  rw[Ti];refine⟨hel,by simpa using hez,fun j hj=>?_⟩;have h1:=(key j (by omega)).2 hj;have hd:l.getD j 0=l[j]'(by omega):=by rw[Sj,R7 (by omega)];rfl
  rw[hd] at h1;simp only[decide_eq_true_eq];omega
 rw[h]
theorem Hy(lo:Option Addr)(lc:Nat)(l:List Int)(z:Int)(W:World)(hv:Vw i64 W.heap lo lc l)(hr:l.Pairwise (· < ·))(hz:z∈l)(hll:l.length≤1099511627776) :
 CA 72 [.slice lo l.length lc,iV z] W fun v w'=>v=.tuple #[iV (sI l z),.bool true]∧w'=W:=by
 obtain⟨e,he⟩:=Sr hz;obtain⟨hpe,hlt⟩:=Ig hr he;obtain⟨hel,hez⟩:=R9.1 he;have hed:l.getD e 0=z:=by rw[Sj,he];rfl
 refine cS 54 [(0,_),(1,_)] Tryz.func72 ?_;refine Gz 22 ?_;refine Oy (β:=Nat×Nat) (fun⟨i,j⟩=>[(0,.slice lo l.length lc),(1,iV z),(6,iV l.length),(7,iV i),(8,iV j)]) (fun⟨i,j⟩ w=>i≤e∧e≤j∧j≤l.length∧w=W) (fun⟨i,j⟩=>j-i) ⟨0,l.length⟩ ⟨rfl,rfl,rfl,rfl,rfl,trivial⟩ ⟨Sf _,Nat.le_of_lt hel,Sa _,rfl⟩ ?_;rintro⟨i,j⟩ w2 ⟨hie,hej,hjl,hw⟩;subst w2;refine fK 5 ?_ ?_<;>intro h15
 ·have hij:i<j:=by omega
  refine Gz 11 ?_;refine cL (OH (n:=((i:Int)+j)) is3 E7 rfl (zM (by omega))) ?_;refine cL (PA rfl rfl (by decide)) ?_;refine cL (OH (n:=(((i+j)/2:Nat):Int)) Gu ty3 rfl (AL (by omega))) ?_;obtain⟨q,hq⟩:∃ q:Nat,q=(i+j)/2:=⟨_,rfl⟩
  rw[←hq];have hql:q<l.length:=by omega
  have hqe:=hlt q hql;refine Gz 7 ?_;refine cL (Ou bP rfl rfl hv.non (by omega)) ?_;refine cL (Ow aL rfl (hv.gz 0 q rfl hql)) ?_;refine cA 1 JM (vD (l.getD q 0) z W) ?_;rintro _ wq ⟨rfl,hwq⟩;subst wq;by_cases h27:l.getD q 0<z
  ·rw[R8 h27];refine Gz 9 ?_;exact aG ⟨q+1,j⟩ ⟨by have:=hqe.1 h27;omega,hej,hjl,rfl⟩ (by show j-(q+1)<j-i;omega)
  rw[R5 h27];refine Gz 8 ?_;exact aG ⟨i,q⟩ ⟨hie,by have:¬ q<e:=fun h=>h27 (hqe.2 h);omega,by omega,rfl⟩ (by show q-i<j-i;omega)
 have hie:i=e:=by omega
 subst hie;refine Gz 13 ?_;refine cL (O5 (Pp rfl rfl) (by omega)) ?_;refine Gz 3 ?_;refine cW (Ou bP rfl rfl hv.non (by omega)) ?_;refine cW (Ow aL rfl (hv.gz 0 i rfl hel)) ?_;refine Gz 1 ?_;refine cW (O5 (OX rfl rfl) hed) ?_;refine Gz 18 ?_;exact⟨_,rfl,by rw[hpe],rfl⟩
theorem HL(D:Nat→Prop)(p:Nat)(E:Int)(xs:By)(W:World)(hP:WrL D W.heap p E xs)(hb:xs.length≤1099511627776) :
 CA 82 [pT p] W fun v w'=>v=iV (iJ E xs).length∧aA nob W w':=by
 refine cS 6 [(0,_)] Tryz.func82 ?_;refine cA 8 yQ (eF D p E xs W hP hb) ?_;rintro _ w1 ⟨o1,c1,rfl,ho1,hfr1,hf1⟩;refine Gz 6 ?_;exact⟨_,rfl,rfl,hf1⟩
theorem RR{cs:Int→Value→List Value}{T:TypeId}{A:Nat→Prop}{W w':World}{p:Nat}{E:Int}{xs:By}(h:WrO cs T (fun k=>A k∨W.heap.size≤k) w'.heap p E xs):WrO cs T (Nx A W w') w'.heap p E xs:=
 h.bound (fun k hk hl=>hk.imp id (fun h=>⟨h,hl⟩))
theorem qV(A:Nat→Prop)(p:Nat)(xs:By)(x n:Int)(W:World)(hx:¬ eO x n)(hP:WrL A W.heap p 0 xs)(hb:xs.length≤1099511627776) :
 CA 76 [pT p,iV x,iV n] W fun v w'=>WrL (Nx A W w') w'.heap p 0 (xs++le x n.toNat)∧aA A W w':=by
 refine(lY (fun k=>A k∨W.heap.size≤k) p 0 xs x n W (WrO.mono hP (fun k h=>.inl h)) (fun k h=>.inr h) hb).mono ?_;rintro e w' ⟨v,rfl,h1,h2⟩;have h0:dW 0 x n=0:=bB hx;rw[h0,gG h0] at h1;exact⟨_,rfl,RR h1,h2.nx⟩
theorem zN(A:Nat→Prop)(p:Nat)(xs:By)(yo:Option Addr)(yc:Nat)(ys:By)(W:World)(hP:WrL A W.heap p 0 xs)(hv:Vw b8 W.heap yo yc ys)(hb:xs.length≤1099511627776)(hb2:ys.length≤1099511627776) :
 CA 81 [pT p,.slice yo ys.length yc] W fun v w'=>WrL (Nx A W w') w'.heap p 0 (xs++ys)∧aA A W w':=by
 refine(kN (fun k=>A k∨W.heap.size≤k) p 0 xs yo yc ys W (WrO.mono hP (fun k h=>.inl h)) (fun k h=>.inr h) hv hb hb2).mono ?_;rintro e w' ⟨v,rfl,h1,h2⟩;exact⟨_,rfl,RR h1,h2.nx⟩
theorem CP(F:Nat→Int)(hm:jK F)(j:Nat)(hj:j<10)(b:Int)(hb:(suL.getD j fdZ).b=b)(A:Nat→Prop)(p:Nat)(W:World)(hP:WrL A W.heap p 0 (suE F j)) :
 CA 76 [pT p,iV (F (suL.getD j fdZ).o),iV b] W fun v w'=>WrL (Nx A W w') w'.heap p 0 (suE F (j+1))∧aA A W w':=by
 subst hb;rw[Fo F hj];exact qV A p _ _ _ W (Iz hm hj) hP (by have:=H1 F j;omega)
theorem Fi(tp:Nat)(F:Nat→Int)(W:World)(ht:TbV W.heap tp) :
 CA 29 [pT tp,.agg (cE F).toArray] W (Cy W (gR F)):=by
 refine cS 51 [(0,_),(1,_)] Tryz.func29 ?_;refine Gz 2 ?_;refine OR rfl rfl ?_;intro w1 hg1 hs1 hf1;have hg1:w1.heap[W.heap.size]?=some (.cells (cE F).toArray 44 (0,0)):=hg1;obtain⟨g,eg⟩:∃ g,g=W.heap.size:=⟨_,rfl⟩
 rw[←eg] at hg1 ⊢;refine Gz 7 ?_;refine cL (OG (cs:=cE F) cU rfl (bO hg1 0 rfl)) ?_;refine cA 0 Lr (zX F w1) ?_;rintro _ w2 ⟨rfl,hf2⟩;have hg2:=hf2.obj hg1 id;have hW2:=hf1.trans hf2;obtain⟨p,ep⟩:∃ p,p=w2.heap.size:=⟨_,rfl⟩
 by_cases h12:jK F
 ·rw[R8 h12];refine cL (OL rfl) ?_;refine Gz 7 ?_;refine Ov uV rfl ?_;intro w3 hg3 hs3 hf3;rw[←ep] at hg3 ⊢;have hP3:WrL (· = p) w3.heap p 0 []:=Rx hg3 rfl;refine Gz 4 ?_;refine Pa aP (cs:=(suM.map b8).toArray) zc5 rfl rfl rfl (by kernel_rfl) rfl ?_;intro w5 hg5 hs5 hf5;have ho5:=iH (e:=5) (enc:=b8) (xs:=suM) hg5 (by decide);refine QK aP ty5 (xs:=suM) rfl hg5 ho5.vw rfl ?_;intro w6 hv6 hs6 hf6;have hz3:=hf3.size;have hf36:aA nob w3 w6:=hf5.tw hf6;have hF6:=hf3.trans hf36;refine Ot GK rfl (zN (· = p) p [] _ _ suM w6 (hP3.RY hf36) hv6 (by simp) (by decide)) rfl ?_;rintro _ u0 ⟨hP0,hQ0⟩;have hz6:=hF6.size;have hA0:∀ k,Nx (· = p) w6 u0 k→p≤k∧k<u0.heap.size:=fun k hk=>hk.elim (fun h=>by have h:k=p:=h;have:=hP0.lt;omega) (fun h=>by omega);generalize Nx (· = p) w6 u0=A0 at hP0 hA0;have hP0:WrL A0 u0.heap p 0 (suE F 0):=hP0;have hF0:aA nob w2 u0:=hF6.tw hQ0;have hg0:=hF0.obj hg2 id;have hg_lt:=(Sb.1 hg2).1;refine cA 5 Lv (vA g u0) ?_;rintro _ w7 ⟨l,rfl,ho7,hl1,hl2,hf7⟩;have hF7:=hF0.trans hf7;refine Gz 5 ?_;refine Oy (β:=Nat×(Nat→Prop)) (fun⟨i,A⟩=>[(0,pT tp),(3,pT g),(6,pT p),(17,.slice (some ⟨l,0,none⟩) oW.length 7),(18,iV (oW.length:Nat)),(19,iV i)]) (fun⟨i,A⟩ w=>i≤7∧WrL A w.heap p 0 (suE F i)∧(∀ k,A k→p≤k∧k<w.heap.size∧k≠l)∧w.heap[g]?=some (.cells (cE F).toArray 44 (0,0))∧Own (ptO g) 72 w.heap (some ⟨l,0,none⟩) 7 oW∧aA nob w2 w∧w7.heap.size≤w.heap.size) (fun⟨i,A⟩=>7-i) ⟨0,A0⟩ ⟨rfl,rfl,rfl,rfl,rfl,rfl,trivial⟩ ⟨by decide,hP0.RY hf7,fun k hk=>by have h1:=hA0 k hk;have h2:=hf7.size;omega,hf7.obj hg0 id,ho7,hF7,Sa _⟩ ?_;rintro⟨i,A⟩ w8 ⟨hi,hP8,hA,hg8,how,hF8,hz8⟩;refine fK 2 ?_ ?_<;>intro h20
  ·have hi7:i<7:=by have:(i:Int)<(oW.length:Nat):=h20;have e:oW.length=7:=rfl;omega
   refine Gz 10 ?_;refine cL (Ou xO rfl rfl how.vw.non (by have e:oW.length=7:=rfl;omega)) ?_;refine cL (Ow vG rfl (how.vw.gz 0 i rfl (by show i<7;exact hi7))) ?_;rw[(Da hi7).1];refine Gz 2 ?_;refine aW [(0,_),(3,_),(6,_),(8,_),(17,_),(18,_),(19,_),(20,_)] ?_;refine Gz 4 ?_;refine cL (Ow aL rfl (aY hg8 (zW F (zZ (by omega))))) ?_;refine Ot tH rfl (CP F h12 i (by omega) 4 (Da hi7).2 A p w8 hP8) rfl ?_;rintro _ w9 ⟨hP9,hQ9⟩;have hz9:=hQ9.size;have hz8b:=hF8.size;have hF9:aA nob w2 w9:=hF8.RV hQ9 (fun k hk=>.inr (by have:=(hA k hk).1;omega));have hA9:∀ k,Nx A w8 w9 k→p≤k∧k<w9.heap.size∧k≠l:=fun k hk=>hk.elim (fun h=>by have:=hA k h;omega) (fun h=>by omega);refine Gz 7 ?_;exact aG ⟨i+1,Nx A w8 w9⟩ ⟨by omega,hP9,hA9,hQ9.obj hg8 (fun h=>by have:=(hA _ h).1;omega),how.RZ hQ9 (fun a ha h=>by cases ha;exact(hA _ h).2.2 rfl),hF9,by omega⟩ (by show 7-(i+1)<7-i;omega)
  have hi7:i=7:=by have h20:¬ (i:Int)<(oW.length:Nat):=h20;have e:oW.length=7:=rfl;omega
  subst hi7;refine cA 12 Lu (pL g w8) ?_;rintro _ w10 ⟨l2,rfl,ho10,hm1,hm2,hf10⟩;have hF10:=hF8.trans hf10;refine Gz 5 ?_;refine Oy (β:=Nat×(Nat→Prop)) (fun⟨i,A⟩=>[(0,pT tp),(3,pT g),(6,pT p),(28,.slice (some ⟨l2,0,none⟩) oN.length 3),(29,iV (oN.length:Nat)),(30,iV i)]) (fun⟨i,A⟩ w=>i≤3∧WrL A w.heap p 0 (suE F (7+i))∧(∀ k,A k→p≤k∧k<w.heap.size∧k≠l2)∧w.heap[g]?=some (.cells (cE F).toArray 44 (0,0))∧Own (ptO g) 72 w.heap (some ⟨l2,0,none⟩) 3 oN∧aA nob w2 w∧w10.heap.size≤w.heap.size) (fun⟨i,A⟩=>3-i) ⟨0,A⟩ ⟨rfl,rfl,rfl,rfl,rfl,rfl,trivial⟩ ⟨by decide,hP8.RY hf10,fun k hk=>by have h1:=hA k hk;have h2:=hf10.size;omega,hf10.obj hg8 id,ho10,hF10,Sa _⟩ ?_;rintro⟨i,A⟩ w8 ⟨hi,hP8,hA,hg8,how,hF8,hz8⟩;refine fK 2 ?_ ?_<;>intro h31
  ·have hi3:i<3:=by have:(i:Int)<(oN.length:Nat):=h31;have e:oN.length=3:=rfl;omega
   refine Gz 10 ?_;refine cL (Ou xO rfl rfl how.vw.non (by have e:oN.length=3:=rfl;omega)) ?_;refine cL (Ow vG rfl (how.vw.gz 0 i rfl (by show i<3;exact hi3))) ?_;rw[(Db hi3).1];refine Gz 2 ?_;refine aW [(0,_),(3,_),(6,_),(10,_),(28,_),(29,_),(30,_),(31,_)] ?_;refine Gz 4 ?_;refine cL (Ow aL rfl (aY hg8 (zW F (zZ (by omega))))) ?_;refine Ot tH rfl (CP F h12 (7+i) (by omega) 2 (Db hi3).2 A p w8 hP8) rfl ?_;rintro _ w9 ⟨hP9,hQ9⟩;have hz9:=hQ9.size;have hz8b:=hF8.size;have hF9:aA nob w2 w9:=hF8.RV hQ9 (fun k hk=>.inr (by have:=(hA k hk).1;omega));have hA9:∀ k,Nx A w8 w9 k→p≤k∧k<w9.heap.size∧k≠l2:=fun k hk=>hk.elim (fun h=>by have:=hA k h;omega) (fun h=>by omega);refine Gz 7 ?_;exact aG ⟨i+1,Nx A w8 w9⟩ ⟨by omega,hP9,hA9,hQ9.obj hg8 (fun h=>by have:=(hA _ h).1;omega),how.RZ hQ9 (fun a ha h=>by cases ha;exact(hA _ h).2.2 rfl),hF9,by omega⟩ (by show 3-(i+1)<3-i;omega)
  have hi3:i=3:=by have h31:¬ (i:Int)<(oN.length:Nat):=h31;have e:oN.length=3:=rfl;omega
  subst hi3;refine Gz 12 ?_;refine Ot yQ rfl (eF A p 0 (suH F) w8 hP8 (by rw[qQ];decide)) rfl ?_;rintro _ w11 ⟨o11,c11,rfl,ho11,hfr11,hf11⟩;have ho11:Own b8 5 w11.heap o11 c11 (suH F):=ho11;have hF11:=hF8.trans hf11;have hP11:=hP8.RY hf11;refine cA 0 KD (BA tp o11 c11 (suH F) w11 ((hW2.trans hF11).obj ht id) ho11.vw) ?_;rintro _ wq ⟨rfl,hwq⟩;subst wq;refine cL (OH (n:=((iB (suH F):Nat):Int)) Kq ty3 rfl (cI (by have:=qO (suH F);omega))) ?_;refine Ot tH rfl (qV A p (suH F) _ 4 w11 (eK (m:=4294967295) (by decide) (by decide) (TY _) (by have:=qO (suH F);omega) (by decide)) hP11 (by rw[qQ];decide)) rfl ?_;rintro _ u11 ⟨hP12,hQ12⟩;have hF12:aA nob w2 u11:=hF11.RV hQ12 (fun k hk=>.inr (by have:=(hA k hk).1;omega));have hz11:=hF11.size;have hA12:∀ k,Nx A w11 u11 k→p≤k:=fun k hk=>hk.elim (fun h=>(hA k h).1) (fun h=>by omega);generalize Nx A w11 u11=A12 at hP12 hA12;have hP12:WrL A12 u11.heap p 0 (suX F 0):=by rw[show suX F 0=suH F++le (iB (suH F):Nat) 4 by unfold suX;simp];exact hP12
  refine Gz 1 ?_;refine aW [(0,_),(3,_),(6,_),(28,_),(29,_),(30,_),(31,_)] ?_;refine Gz 3 ?_;refine Ot NO rfl (HL A12 p 0 (suX F 0) u11 hP12 (by rw[qP];decide)) rfl ?_;rintro _ w13 ⟨rfl,hf13⟩;rw[show (iJ 0 (suX F 0)).length=42 from qP F 0];have hP13:=hP12.RY hf13;have hF13:=hF12.trans hf13;refine cL (Ox (u:=iV 22) (Pj rfl rfl (by decide)) rfl) ?_;refine Qp b8 (0:UInt8) aP z5 rfl rfl rfl (by decide) (by decide) (by decide) (by decide) rfl ?_;intro w14 ho14 hs14 hf14;have ho14:Own b8 5 w14.heap (some ⟨w13.heap.size,0,none⟩) 22 (Sy 22 0):=ho14;have hF14:=hF13.trans hf14;refine Ot GK rfl (zN A12 p (suX F 0) (some ⟨w13.heap.size,0,none⟩) 22 (Sy 22 0) w14 (hP13.RY hf14) ho14.vw (by rw[qP];decide) (by decide)) rfl ?_;rintro _ w15 ⟨hP15,hQ15⟩;have hF15:aA nob w2 w15:=hF14.RV hQ15 (fun k hk=>.inr (by have:=hA12 k hk;omega));generalize Nx A12 w14 w15=A15 at hP15;have hP15:WrL A15 w15.heap p 0 (suX F 22):=by rw[show suX F 22=suX F 0++Sy 22 0 by unfold suX;simp];exact hP15
  refine Gz 4 ?_;refine Ot yQ rfl (eF A15 p 0 (suX F 22) w15 hP15 (by rw[qP];decide)) rfl ?_;rintro _ w16 ⟨o16,c16,rfl,ho16,hfr16,hf16⟩;have ho16:Own b8 5 w16.heap o16 c16 (suX F 22):=ho16;have hP16:=hP15.RY hf16;refine cA 1 AS (mH A15 p 0 (suX F 22) w16 hP16) ?_;rintro _ wq ⟨rfl,hwq⟩;subst wq;refine Gz 6 ?_
  first
  |exact⟨_,rfl,none,0,by rw[show gR F=([],1) from R3 h12];rfl,by rw[show gR F=([],1) from R3 h12];exact Rr,Rp,hW2⟩
  |(have e:gR F=(suX F 22,0):=R4 h12;rw[e];exact⟨_,rfl,o16,c16,rfl,ho16,hfr16.mono (by have:=hF15.size;have:=hW2.size;omega),(hW2.trans hF15).trans hf16⟩)
 rw[R5 h12];refine cL (OL rfl) ?_;refine Gz 12 ?_
 first
 |exact⟨_,rfl,none,0,by rw[show gR F=([],1) from R3 h12];rfl,by rw[show gR F=([],1) from R3 h12];exact Rr,Rp,hW2⟩
 |(have e:gR F=(suX F 22,0):=R4 h12;rw[e];exact⟨_,rfl,o16,c16,rfl,ho16,hfr16.mono (by have:=hF15.size;have:=hW2.size;omega),(hW2.trans hF15).trans hf16⟩)
theorem E3(A:Nat→Prop)(p:Nat)(xs s:By)(W:World)(hs:s.length≤255)(hP:WrL A W.heap p 0 xs)(hb:xs.length≤549755813888) :
 CA 128 [pT p,.string (bs s)] W fun v w'=>WrL (Nx A W w') w'.heap p 0 (xs++(Ss s.length::s))∧aA A W w':=by
 refine(mO (fun k=>A k∨W.heap.size≤k) p 0 xs s W (WrO.mono hP (fun k h=>.inl h)) (fun k h=>.inr h) hb).mono ?_;rintro e w' ⟨v,rfl,h1,h2⟩;have e1:lG 0 s=0:=by unfold lG;rw[R3 (by decide),R3 (by omega)]
 have e2:lS 0 xs s=xs++(Ss s.length::s):=by unfold lS;rw[R3 (by omega)]
 rw[e1,e2] at h1;exact⟨_,rfl,RR h1,h2.nx⟩
theorem G7(lo:Option Addr)(lc:Nat)(L:List Ent)(W:World)(hv:VwM 3 tO W.heap lo lc L)(hsm:∀ x∈L,x.1.length≤maxLen)(hll:L.length≤1073741824) :
 CA 121 [.slice lo L.length lc] W (Cy W (lH L)):=by
 have h63:=hv.RX;refine cS 33 [(0,_)] Tryz.func121 ?_;refine Gz 8 ?_;refine Ov uV rfl ?_;intro w1 hg1 hs1 hf1;obtain⟨p,ep⟩:∃ p,p=W.heap.size:=⟨_,rfl⟩
 rw[←ep] at hg1 ⊢;have hP1:WrL (· = p) w1.heap p 0 []:=Rx hg1 rfl;have hpl:=(Sb.1 hg1).1;refine Gz 16 ?_;refine Oy (β:=Nat×By×(Nat→Prop)) (fun⟨i,last,A⟩=>[(4,pT p),(5,.string (bs last)),(8,.slice lo L.length lc),(9,iV L.length),(10,iV i)]) (fun⟨i,last,A⟩ w=>i≤L.length∧cF [] (L.take i)∧last=(if i=0 then [] else (L.getD (i-1) Ck).1)∧WrL A w.heap p 0 (bK (L.take i))∧(∀ k,A k→p≤k∧k<w.heap.size)∧aA nob W w) (fun⟨i,last,A⟩=>L.length-i) ⟨0,[],(· = p)⟩ ⟨rfl,rfl,rfl,rfl,rfl,trivial⟩ ⟨Sf _,trivial,rfl,hP1,fun k hk=>by have h:k=p:=hk;omega,hf1⟩ ?_;rintro⟨i,last,A⟩ w2 ⟨hi,hch,hla,hP2,hA,hF2⟩;refine fK 2 ?_ ?_<;>intro h11
 ·have hil:i<L.length:=by omega
  obtain⟨x,hx⟩:∃ x,L[i]?=some x:=⟨_,R7 hil⟩
  have hxm:=hsm x (Sd hx);have hv2:=hv.RY hF2;have hchl:=tM hch;have htl:(L.take i).length=i:=by rw[Sh];omega
  have hnext:cF [] L→iD x (if i=0 then [] else (L.getD (i-1) Ck).1):=fun h=>xA h hx;have hz2:=hF2.size;refine Gz 10 ?_;refine cL (OA CW rfl rfl hv2.non (by omega)) ?_;refine cL (OG (cs:=tO x) Cu rfl (fun j v hj=>hv2.rowZ i rfl hx j v hj)) ?_;refine Ov E2 rfl ?_;intro w3 hg3 hs3 hf3;obtain⟨q,eq⟩:∃ q,q=w2.heap.size:=⟨_,rfl⟩
  rw[←eq] at hg3 ⊢;refine sA rfl Cu (by exact G5 _) hg3 ?_;intro w4 hg4 hs4 hf4;have hF24:aA nob w2 w4:=hf3.tw hf4;have hF4:=hF2.trans hF24;have hz24:=hF24.size;refine Gz 1 ?_;refine aW [(4,_),(5,_),(7,_),(8,_),(9,_),(10,_),(11,_)] ?_;refine Gz 4 ?_;refine cL (OG (cs:=tO x) Cu rfl (bO hg4 0 rfl)) ?_;refine cA 1 LV (G8 x last w4 hxm) ?_;rintro _ w5 ⟨rfl,hf5⟩;have hg5:=hf5.obj hg4 id;have hF5:=hF4.trans hf5;have hF25:=hF24.trans hf5;have hz5:=hf5.size;by_cases h16:iD x last
  ·rw[R8 h16];have hfit:=nD h16;refine cL (OL rfl) ?_;refine Gz 9 ?_;refine Ot Dw rfl (E3 A p (bK (L.take i)) x.1 w5 hfit.1 (hP2.RY hF25) (by omega)) rfl ?_;rintro _ w6 ⟨hP6,hQ6⟩;have hA6:∀ k,Nx A w5 w6 k→p≤k∧k<w6.heap.size∧k≠q:=fun k hk=>hk.elim (fun h=>by have:=hA k h;have:=hQ6.size;omega) (fun h=>by omega);generalize Nx A w5 w6=A6 at hP6 hA6;have hg6:=hQ6.obj hg5 (fun h=>by have:=(hA _ h).2;omega);have hF6:aA nob W w6:=hF5.RV hQ6 (fun k hk=>.inr (by have:=(hA k hk).1;omega));refine Gz 6 ?_;refine Ot tH rfl (qV A6 p (bK (L.take i)++(Ss x.1.length::x.1)) x.2.1 1 w6 (Oh hfit) hP6 (by simp only[R6,Sq];have:=hfit.1;omega)) rfl ?_;rintro _ w7 ⟨hP7,hQ7⟩;have hA7:∀ k,Nx A6 w6 w7 k→p≤k∧k<w7.heap.size∧k≠q:=fun k hk=>hk.elim (fun h=>by have:=hA6 k h;have:=hQ7.size;omega) (fun h=>by have:=hQ6.size;omega);generalize Nx A6 w6 w7=A7 at hP7 hA7;have hg7:=hQ7.obj hg6 (fun h=>(hA6 _ h).2.2 rfl);have hF7:aA nob W w7:=hF6.RV hQ7 (fun k hk=>.inr (by have:=(hA6 k hk).1;omega));refine Gz 6 ?_;refine Ot tH rfl (qV A7 p (bK (L.take i)++(Ss x.1.length::x.1)++le x.2.1 1) x.2.2 4 w7 (Og hfit) hP7 (by simp only[R6,Sq,bE];have:=hfit.1;omega)) rfl ?_;rintro _ w8 ⟨hP8,hQ8⟩;have hA8:∀ k,Nx A7 w7 w8 k→p≤k∧k<w8.heap.size:=fun k hk=>hk.elim (fun h=>by have:=hA7 k h;have:=hQ8.size;omega) (fun h=>by have:=hQ7.size;have:=hQ6.size;omega);have hg8:=hQ8.obj hg7 (fun h=>(hA7 _ h).2.2 rfl);have hF8:aA nob W w8:=hF7.RV hQ8 (fun k hk=>.inr (by have:=(hA7 k hk).1;omega));refine Gz 13 ?_;refine aG ⟨i+1,x.1,Nx A7 w7 w8⟩ ⟨by omega,?_,?_,?_,hA8,hF8⟩ (by show L.length-(i+1)<L.length-i;omega)
   · rw[rQ hx,qA]
     refine⟨hch,?_⟩;rw[hla] at h16;by_cases hi0:i=0
     ·rw[R4 hi0] at h16;rw[R4 (by rw[hi0];rfl)];exact h16
     ·rw[R3 hi0] at h16;rw[R3 (fun e=>by rw[e] at htl;simp at htl;omega),BX (by omega) (by omega)];exact h16
   ·rw[R3 (by omega),Sj,show i+1-1=i by omega,hx];rfl
   · rw[rQ hx,Cj]
     have e:bK (L.take i)++kI x=bK (L.take i)++(Ss x.1.length::x.1)++le x.2.1 1++le x.2.2 4:=by unfold kI;simp only[SI]
     rw[e];exact hP8
  rw[R5 h16];have hno:¬ cF [] L:=fun h=>h16 (by rw[hla];exact hnext h);refine cL (OL rfl) ?_;refine Gz 17 ?_;have e:lH L=([],1):=R3 hno;rw[e];exact⟨_,rfl,none,0,rfl,Rr,Rp,hF5⟩
 have hie:i=L.length:=by omega
 subst hie;rw[S1] at hP2 hch;refine Gz 11 ?_;refine Ot yQ rfl (eF A p 0 (bK L) w2 hP2 (by have:=tM hch;omega)) rfl ?_;rintro _ w3 ⟨o3,c3,rfl,ho3,hfr3,hf3⟩;have ho3:Own b8 5 w3.heap o3 c3 (bK L):=ho3;refine cA 1 AS (mH A p 0 (bK L) w3 (hP2.RY hf3)) ?_;rintro _ wq ⟨rfl,hwq⟩;subst wq;refine Gz 3 ?_;refine aW [(2,_),(3,_),(4,_),(5,_),(8,_),(9,_),(10,_),(11,_)] ?_;refine Gz 3 ?_;have e:lH L=(bK L,0):=R4 hch;rw[e];exact⟨_,rfl,o3,c3,rfl,ho3,hfr3.mono hF2.size,hF2.trans hf3⟩
section
open Go Go.RowKit Go.Maps
section
variable {qs:List (NdH×Nd)}{ids:List Int}{files:List Ino}
theorem GI{s:BSt}{X:List Xa}(h:bdR s)(hb:bdB (bQ s X).2):bdR (bQ s X).2:=by
 revert hb
 unfold bQ
 split
 ·exact fun _=>h
 · split
   ·exact fun _=>h
   · intro hb
     refine⟨h.1,fun y hy=>?_⟩;rcases SO.1 hy with hy|hy
     ·exact h.2 y hy
     · rw[SE] at hy
       subst hy;have h3:=hb.2.2.1;simp only[R6] at h3;have:=BJ (T:=s.fur) (o:=s.fur.length) (by omega);exact⟨TY _,by show ((bI s.fur s.fur.length:Nat):Int)≤_;omega⟩
theorem nT{k:Int}{i:Ino}{s:BSt}(h:bdR s)(hb:bdB (dT qs ids k i s)):bdR (dT qs ids k i s):=by
 have h2:=GI h ((rF (qs:=qs) (ids:=ids) k i s).bd hb);refine⟨fun z hz=>?_,h2.2⟩;have hz:z∈(bQ s (ndB qs k).xs).2.refs.set (ndB qs k).ino.toNat _:=hz;rcases List.mem_or_eq_of_mem_set hz with hz|hz
 ·exact h2.1 z hz
 · have h3:=((rF (qs:=qs) (ids:=ids) k i s).bd hb).1
   have:=BJ (T:=(bQ s (ndB qs k).xs).2.ino) (o:=(bQ s (ndB qs k).xs).2.ino.length) (by omega);omega
theorem CG{wr:Int→BSt→BSt}(hw:∀ k s,bdR s→bdB (wr k s)→bdR (wr k s))(hl:∀ k s,leB s (wr k s)):∀ (ys:List Int) (s:BSt),bdR s→bdB (wrK wr qs ys s).1→bdR (wrK wr qs ys s).1
|[],s,h,_=>h
|j::r,s,h,hb=>CG hw hl r (wr j s) (hw j s h ((xH hl r (wr j s)).bd hb)) hb
theorem CJ:∀ (n:Nat) (k:Int) (s:BSt),bdR s→bdB (wrB qs ids files n k s)→bdR (wrB qs ids files n k s)
|0,k,s,h,_=>h
|n+1,k,s,h,hb=>by
   revert hb
   unfold wrB
   split
   ·exact fun _=>h
   · split
     ·exact fun hb=>nT h hb
     · split
       ·exact fun hb=>nT h hb
       · split
         · intro hb
           have h1:=(jC _ _ _).bd hb;have h2:=CG (CJ n) (xI n) _ s h ((BU _ _).bd h1);exact nT (show bdR { (wrK (wrB qs ids files n) qs (aZ qs (ndB qs k).names qs.length) s).1 with lst:=_ } from h2) hb
         ·exact fun hb=>nT h hb
theorem JT(G:GdB qs files){n:Nat}{k:Int}{s:BSt}(h:okS qs s)(hb:bdB (wrB qs ids files n k s)):okS qs (wrB qs ids files n k s):=⟨by rw[(xI n k s).r];exact h.r,CJ n k s h.b hb,E5 G n k s h.h⟩
structure GdP (qs:List (NdH×Nd))(ids:List Int)(files:List Ino):Prop where
 B:GdB qs files
 xs:∀ q∈qs,eC q.2.xs
 tg:∀ q∈qs,q.2.kind≠3→q.2.tgt=[]
 kd:∀ q∈qs,q.2.kind=1∨q.2.kind=2∨q.2.kind=3
 fo:∀ q∈qs,q.2.kind=2→(files.getD q.2.ino.toNat bW).1 0=2
 fz:∀ q∈qs,q.2.kind≠2→(files.getD q.2.ino.toNat bW).1 0≠2
 ft:∀ f∈files,f.2=[]
 ir:ids.Pairwise (· < ·)
 io:∀ q∈qs,q.2.ud∈ids∧q.2.gd∈ids
 il:ids.length≤1099511627776
theorem GdP.ft0(G:GdP qs ids files)(m:Nat):(files.getD m bW).2=[]:=by
 rw[Sj];cases h:files[m]? with
|none=>rfl
|some f=>exact G.ft f (Sd h)
theorem GU(k:Int)(f:Ino)(t:By)(s:BSt)(h:f.2=t):dT qs ids k ((fl0 f).1,t) s=dT qs ids k f s:=by subst h;rfl
end
theorem uT.put{m:List (I6×Value)}{refs:List Int}(h:uT m refs)(x:I6){v:Nat}(hx:1≤x.1)(hl:x.1.toNat<refs.length):uT (bV m x (iV (v:Int))) (refs.set x.1.toNat ((v:Int)+1)):=by
 intro a ha;rw[gM];by_cases e:a=x
 · subst e
   rw[R4 rfl,Sj,SQ hl];show _=if 0<(v:Int)+1 then _ else _
   rw[R4 (by omega)];show _=some (Value.int .i64 ((v:Int)+1-1));rw[show (v:Int)+1-1=v by omega]
 · have hne:¬ a.1.toNat=x.1.toNat:=fun h=>e (Subtype.ext (by omega))
   rw[R3 e,h a ha];have e2:(refs.set x.1.toNat ((v:Int)+1)).getD a.1.toNat 0=refs.getD a.1.toNat 0:=by
    rw[Sj,S9 (fun h=>hne h.symm)];rfl
   rw[e2]
theorem AV{l:List Int}{m:Nat}{v:Int}(h:m<l.length)(h0:0<l.getD m 0)(hv:0<v):((l.set m v).filter (fun r=>decide (0<r))).length=(l.filter (fun r=>decide (0<r))).length:=by
 have e:l=l.take m++l.getD m 0::l.drop (m+1):=by
  rw[show l.getD m 0=l[m] by simp[Sj,h],←Tn h,SG]
 have e2:l.set m v=l.take m++v::l.drop (m+1):=List.set_eq_take_append_cons_drop .. |>.trans (by rw[R4 h]);rw[e2]
 conv=>rhs;rw[e]
 rw[Tf,Tf,TG (by simpa using hv),TG (by simpa using h0)];simp
theorem vF{α:Type}[DecidableEq α]{a:α}{v v0:Value}:∀ {l:List (α×Value)},bL l a=some v0→(bV l a v).length=l.length
|[],h=>by cases h
|p::r,h=>by
   unfold bL at h;unfold bV;by_cases e:p.1=a
   ·rw[R4 e];rfl
   · rw[R3 e] at h ⊢
     rw[Sq,Sq,vF h]
theorem uT.len{m:List (I6×Value)}{refs:List Int}(h:uT m refs)(hn:m.length=(refs.filter (fun r=>decide (0<r))).length)(x:I6){v:Int}(u:Value)(hx:1≤x.1)(hl:x.1.toNat<refs.length)(hv:0<v):(bV m x u).length=((refs.set x.1.toNat v).filter (fun r=>decide (0<r))).length:=by
 have hg:=h x hx;by_cases h0:0<refs.getD x.1.toNat 0
 · rw[R4 h0] at hg
   rw[vF hg,hn,AV hl h0 hv]
 · rw[R3 h0] at hg
   rw[fA _ hg,R6,hn,tK hl (by omega) hv];rfl
theorem mpQ:pH Tryz.prog 58 3 3 (iV 0):=⟨by kernel_rfl,by kernel_rfl⟩
theorem mpF:pH Tryz.prog 59 3 88 (yJ bW):=⟨by kernel_rfl,by kernel_rfl⟩
def PwS(a:PiA)(g tp:Nat)(qs:List (NdH×Nd))(ids:List Int)(files:List Ino)(n:Nat):Prop:=∀ (ow:Nat→Nat) (s:BSt) (k:Int) (W:World),PiX 0 a ow W.heap g tp qs ids files s→(∀ k,W.heap.size≤k→ow k=0)→(0≤k∧k<qs.length)→17≤(ndB qs k).names.length+n→okS qs s→bdB (wrB qs ids files n k s) →
 CA 23 [pT g,iV k] W fun v w'=>v=iV ((wrB qs ids files n k s).refs.getD (ndB qs k).ino.toNat 0-1)∧iN a ow W g tp qs ids files (wrB qs ids files n k s) w'
theorem FP(a:PiA)(g tp:Nat)(qs:List (NdH×Nd))(ids:List Int)(files:List Ino)(G:GdP qs ids files)(n:Nat)(ih:PwS a g tp qs ids files n)(ow:Nat→Nat)(s:BSt)(q:NdH×Nd)(W:World)(hM:PiX 0 a ow W.heap g tp qs ids files s)(hn:∀ k,W.heap.size≤k→ow k=0)(hqv:NdV (fun k=>ow k=4) W.heap q)(hdp:16≤q.2.names.length+n)(hok:okS qs s)
 (K:BSt×List Ent)(hK:wrK (wrB qs ids files n) qs (aZ qs q.2.names qs.length) s=K)(hbd:bdB { K.1 with lst:=K.1.lst++(lH K.2).1 }) :
 CA 70 [pT g,.agg (aH q).toArray] W fun v w'=>v=.tuple [iV (bI K.1.lst K.1.lst.length:Nat),iV (lH K.2).1.length].toArray∧okS qs K.1∧iN a ow W g tp qs ids files { K.1 with lst:=K.1.lst++(lH K.2).1 } w':=by
 obtain⟨hvn,hvd,hvx⟩:=id hqv;have hqn:q.1.names.n=q.2.names.length:=hvn.1;have hn1024:=G.B.n;have hgl:=(Sb.1 hM.1.1).1;have hbK:=(BU _ _).bd hbd;refine cS 62 [(0,_),(1,_)] Tryz.func70 ?_;refine Gz 2 ?_;refine OR rfl rfl ?_;intro w1 hg1 hs1 hf1;have hg1:w1.heap[W.heap.size]?=some (.cells (aH q).toArray 37 (0,0)):=hg1;obtain⟨b,eb⟩:∃ b,b=W.heap.size:=⟨_,rfl⟩
 rw[←eb] at hg1 ⊢;have hM1:=hM.RY hf1;have hbl:ow b=0:=hn b (by omega);have hg2:=hM1.1.1;refine Gz 11 ?_;refine OI 9 (fun H=>H[g]?=some (.cells (piC a qs.length ids.length).toArray 62 (0,0))∧H[b]?=some (.cells (aH q).toArray 37 (0,0))) [6] [0,1,2,3,4,5,8,6,7] aM (by kernel_rfl) (⟨hg2,hg1⟩) ?_;refine Gz 5 ?_;refine xC rfl (Ox (u:=.slice q.1.names.a q.2.names.length q.1.names.c) (OB lK rfl (fun H hH=>aD hH.2 rfl)) (by rw[←hqn];rfl)) ?_;refine Gz 1 ?_;refine OE rfl rfl (Ot Mb rfl (IM a.lo a.lc qs q.1.names.a q.1.names.c q.2.names (w1.drewN 1) (show bD _ w1.heap a.lo a.lc qs from hM1.2.1.1) ((hvn.2.1.RY hf1).RY (Rl 1)) (by omega)) rfl ?_);rintro _ w5 ⟨ko,kc,ys,rfl,hoy,hfy,hky,hf5⟩;have hf5:=hf5.RW;refine OK (by exact⟨hf5.obj hg2 id,hf5.obj hg1 id⟩) ?_;have hfy:Fr w1.heap.size ko:=hfy;have hky:=G.B.k _ _ hky;rw[←hky] at hK;have hysl:ys.length≤qs.length:=by rw[hky];exact Dj _
 have hyv:=hoy.vw;have hy63:=hyv.RX;have hz5:=hf5.size;have hz1:=hf1.size;have hb5:=hf5.obj hg1 id;have hF5:=hf1.trans hf5;have hM5:=hM1.RY hf5;have hlk5:=hoy.lt;have hq5:=hqv.RY hF5;have hb5l:=(Sb.1 hb5).1;refine Gz 4 ?_;refine Oy (β:=(Nat×BSt)×((Nat→Nat)×(Option Addr×(Nat×List Ent)))) (fun⟨⟨j,s9⟩,⟨ow9,⟨lo9,⟨lc9,L9⟩⟩⟩⟩=>[(0,pT g),(3,pT b),(6,.slice lo9 L9.length lc9),(18,.slice ko ys.length kc),(19,iV ys.length),(20,iV j)]) (fun⟨⟨j,s9⟩,⟨ow9,⟨lo9,⟨lc9,L9⟩⟩⟩⟩ w=>j≤ys.length∧L9.length=j∧K=((wrK (wrB qs ids files n) qs (ys.drop j) s9).1,L9++(wrK (wrB qs ids files n) qs (ys.drop j) s9).2)∧PiX 0 a ow9 w.heap g tp qs ids files s9∧okS qs s9∧(∀ k,k<w5.heap.size→ow9 k=ow k)∧(∀ k,w.heap.size≤k→ow9 k=0)∧cH 3 tO 157 w.heap lo9 lc9 L9∧(∀ k,blk lo9 k→w5.heap.size≤k∧ow9 k=0)∧(∀ x∈L9,x.1.length≤255)∧aA (Lb ow) w5 w) (fun⟨⟨j,s9⟩,⟨ow9,⟨lo9,⟨lc9,L9⟩⟩⟩⟩=>ys.length-j) ⟨⟨0,s⟩,⟨ow,⟨none,⟨0,[]⟩⟩⟩⟩ ⟨rfl,rfl,rfl,rfl,rfl,rfl,trivial⟩ ⟨Sf _,rfl,hK.symm,hM5,hok,fun _ _=>rfl,fun k hk=>hn k (by omega),Rv,(fun k ⟨a,ha,e⟩=>by cases ha),(by simp),Rk _ _⟩ ?_;rintro⟨⟨j,s9⟩,⟨ow9,⟨lo9,⟨lc9,L9⟩⟩⟩⟩ w9 ⟨hj,hLj,hwk,hM9,hok9,hl9,hn9,ho9,hb9l,hL9,hF9⟩;refine fK 2 ?_ ?_<;>intro h21
 ·have hjl:j<ys.length:=by omega
  obtain⟨z,hz⟩:∃ z,ys[j]?=some z:=⟨_,R7 hjl⟩
  have hzd:ys.getD j 0=z:=by rw[Sj,hz];rfl
  have hzm:=Sd hz;rw[hky] at hzm;obtain⟨i,rfl,hil,hkq⟩:=eJ.1 hzm;obtain⟨r,hr⟩:∃ r,qs[i]?=some r:=⟨_,R7 hil⟩
  rw[oR hr] at hkq;obtain⟨hrne,hrdl⟩:=kX.1 hkq;have hrl:r.2.names.length=q.2.names.length+1:=by have h0:=Sk.2 hrne;rw[←hrdl,TN];omega
  have hnr:=eH hr;obtain⟨⟨hr1,hr2⟩,hrnl,hrnc,hrtl,hrxl⟩:=G.B.q r (Sd hr);obtain⟨mr,hmr⟩:=Tq (show 0≤r.2.ino by omega);have hdr:ys.drop j=(i:Int)::ys.drop (j+1):=by obtain⟨h,e⟩:=R9.1 hz;rw[←e];exact Tn h
  rw[hdr] at hwk;have hb9:bdB (wrB qs ids files n (i:Int) s9):=(xH (qs:=qs) (xI n) (ys.drop (j+1)) _).bd (by have h:=hbK;rw[hwk] at h;exact h);have hvy9:=hyv.RZ hF9 (fun a ha h=>by have h1:=hfy a ha;have h2:=hlk5 a ha;have h:(ow a.block≠0∧ow a.block≠4):=h;exact h.1 (hn _ (by omega)));have hN9:=hM9.2.1.1;refine Gz 10 ?_;refine cL (Ou bP rfl rfl hvy9.non (by omega)) ?_;refine cL (Ow aL rfl (hvy9.gz 0 j rfl hjl)) ?_;rw[hzd];refine Gz 2 ?_;refine aW [(0,_),(3,_),(6,_),(8,_),(18,_),(19,_),(20,_),(21,_)] ?_;refine Gz 6 ?_;refine cL (Ow vH rfl (aD hM9.1.1 rfl)) ?_;refine Gz 1 ?_;refine cL (OA gL rfl rfl hN9.1.non (by omega)) ?_;refine cL (OG (cs:=aH r) aX rfl (fun a v hv=>hN9.1.rowZ i rfl hr a v hv)) ?_;refine Ov fS rfl ?_;intro w11 hg11 hs11 hf11;obtain⟨d,ed⟩:∃ d,d=w9.heap.size:=⟨_,rfl⟩
  rw[←ed] at hg11 ⊢;refine OD (vs:=aH r) aX rfl rfl (aB r).2 hg11 rfl ?_;intro w12 hd12 hs12 hf12;have hf912:aA nob w9 w12:=hf11.tw hf12;have hM12:=hM9.RY hf912;obtain⟨hrn,_⟩:=hM12.2.1.1.2 r (Sd hr);have hrnn:r.1.names.n=r.2.names.length:=hrn.1;have hb12:=(hF9.trans hf912.any).obj hb5 (fun h=>h.1 hbl);have hz12:=hf912.size;have hz9:=hF9.size;have hn12:∀ k,w12.heap.size≤k→ow9 k=0:=fun k hk=>hn9 k (by omega);have hdl:=hn9 d (by omega);have hl9lt:=ho9.lt;refine Gz 2 ?_;refine OI 17 (fun H=>H[d]?=some (.cells (aH r).toArray 37 (0,0))∧H[b]?=some (.cells (aH q).toArray 37 (0,0))∧Vw iK H r.1.names.a r.1.names.c r.2.names) [12,14,15] [0,1,2,3,4,5,6,7,8,9,10,11,12,13,14,15,16] aM (by kernel_rfl) (⟨hd12,hb12,hrn.2.1⟩) ?_;refine Gz 2 ?_;refine xC rfl (Ox (u:=.slice r.1.names.a r.2.names.length r.1.names.c) (OB lK rfl (fun H hH=>aD hH.1 rfl)) (by rw[←hrnn];rfl)) ?_;refine Gz 1 ?_;refine xC rfl (Ox (u:=.slice q.1.names.a q.2.names.length q.1.names.c) (OB lK rfl (fun H hH=>aD hH.2.1 rfl)) (by rw[←hqn];rfl)) ?_;refine Gz 1 ?_;refine xC rfl (Ou lU rfl rfl hrn.2.1.non (by omega)) ?_;refine xC rfl (OB lV rfl (fun H hH=>hH.2.2.gz [] q.2.names.length rfl (by omega))) ?_;refine Gz 4 ?_;refine OE rfl rfl (Ot Ly rfl (ih ow9 s9 (i:Int) (w12.drewN 1) hM12 hn12 ⟨by omega,by omega⟩ (by rw[hnr,hrl];omega) hok9 hb9) rfl ?_);rintro _ w13 ⟨rfl,ow13,hM13,hl13,hn13,hf13⟩;have hf13:aA (Lb ow9) w12 w13:=hf13.RW;have hl13:∀ k,k<w12.heap.size→ow13 k=ow9 k:=hl13;have hr13:=hrn.2.1.RZ hf13 (fun x hx h=>by have h1:=hrn.2.2 hrne _ ⟨x,hx,rfl⟩;have h:(ow9 x.block≠0∧ow9 x.block≠4):=h;exact h.2 h1);have hd13:=hf13.obj hd12 (fun h=>h.1 hdl);have hb13:=hf13.obj hb12 (fun h=>h.1 (by rw[hl9 b (by omega)];exact hbl));rw[hnr,hmr,SX];refine OK (by exact⟨hd13,hb13,hr13⟩) ?_;obtain⟨s10,es10⟩:∃ t,t=wrB qs ids files n (i:Int) s9:=⟨_,rfl⟩
  obtain⟨e,ee⟩:∃ e:Ent,e=(bC r.2.names,r.2.kind,s10.refs.getD mr 0-1):=⟨_,rfl⟩
  have hok10:okS qs s10:=by rw[es10];exact JT G.B hok9 hb9
  have hwk2:K=((wrK (wrB qs ids files n) qs (ys.drop (j+1)) s10).1,(L9++[e])++(wrK (wrB qs ids files n) qs (ys.drop (j+1)) s10).2):=by
   rw[hwk];show ((wrK (wrB qs ids files n) qs (ys.drop (j+1)) (wrB qs ids files n (i:Int) s9)).1,L9++((bC (ndB qs i).names,(ndB qs i).kind,(wrB qs ids files n (i:Int) s9).refs.getD (ndB qs i).ino.toNat 0-1)::(wrK (wrB qs ids files n) qs (ys.drop (j+1)) (wrB qs ids files n (i:Int) s9)).2))=_;rw[hnr,hmr,SX,←es10,←ee,SI];rfl
  rw[←es10] at hM13 ⊢;have hz13:=hf13.size;have ho13:=(ho9.RY hf912).RZ hf13 (fun x hx h=>h.1 (hb9l _ ⟨x,hx,rfl⟩).2);have hln:r.2.names.getD q.2.names.length []=bC r.2.names:=by unfold bC;rw[hrl];rfl
  rw[hln];refine xC rfl (bU (tO (bC r.2.names,r.2.kind,s10.refs.getD mr 0-1)) J4 E2) ?_;rw[←ee];refine OE rfl rfl (Pa CW (cs:=(tO e).toArray) E2 rfl rfl rfl (by kernel_rfl) rfl ?_);intro w14 hg14 hs14 hf14;have ho14:=fG (e:=157) (xs:=[e]) hO (by simpa using hg14) (by show 1≤maxLen;decide);refine OK (by exact⟨hf14.obj hd13 id,hf14.obj hb13 id,hr13.RY hf14⟩) ?_;refine OE rfl rfl (Pn hO rfl CW rfl rfl (ho13.RY hf14) (ho14.vw hO) (by simp only[Sw];omega) (by simp only[Sw];unfold maxLen;omega) rfl ?_);intro lo15 lc15 w15 ho15 hf15 hr15 hn15;have hz14:=hf14.size;have hz15:=hf15.size;have hn9l:∀ k,blk lo9 k→ow13 k=0∧k<w9.heap.size:=fun k hk=>by
   have hk2:k<w9.heap.size:=by obtain⟨x,hx,hxe⟩:=hk;have:=hl9lt x hx;omega
   exact⟨by rw[hl13 k (by omega)];exact(hb9l k hk).2,hk2⟩
  refine OK (by exact⟨hf15.obj (hf14.obj hd13 id) (fun h=>by have:=(hn9l d h).2;omega),hf15.obj (hf14.obj hb13 id) (fun h=>by have:=(hb9l b h).1;omega),(hr13.RY hf14).RZ hf15 (fun x hx h=>by have h1:=hrn.2.2 hrne _ ⟨x,hx,rfl⟩;have h1:ow9 x.block=4:=h1;have:=(hb9l _ h).2;omega)⟩) ?_;have hM15:=(hM13.RY hf14).step hf15 0 (by decide) (fun k hk=>.inr (hn9l k hk).1) (fun _ _=>rfl);have hF15:aA (Lb ow) w5 w15:=((jM hl9 (hF9.trans hf912.any) hf13).trans hf14.any).RV hf15 (fun k h=>.inr (hb9l k h).1);have hb15:∀ k,blk lo15 k→w5.heap.size≤k∧ow13 k=0:=fun k hk=>by
   obtain⟨x,hx,hxe⟩:=hk;rcases hr15 x hx with h|h
   ·exact⟨(hb9l k ⟨x,h,hxe⟩).1,(hn9l k ⟨x,h,hxe⟩).1⟩
   ·exact⟨by omega,hn13 k (by omega)⟩
  refine Gz 8 ?_;exact aG ⟨⟨j+1,s10⟩,⟨ow13,⟨lo15,⟨lc15,L9++[e]⟩⟩⟩⟩ ⟨by omega,by rw[R6,hLj];rfl,hwk2,hM15,hok10,fun k hk=>by rw[hl13 k (by omega)];exact hl9 k hk,fun k hk=>hn13 k (by omega),ho15,hb15,fun x hx=>by
   rcases SO.1 hx with hx|hx
   ·exact hL9 x hx
   ·rw[SE] at hx;subst hx;rw[ee];exact AF hrnc,hF15⟩ (by show ys.length-(j+1)<ys.length-j;omega)
 have hje:ys.drop j=[]:=List.drop_of_length_le (by omega);rw[hje] at hwk;have hwk:K=(s9,L9):=by rw[hwk];show (s9,L9++[])=(s9,L9);rw[TA]
 subst hwk;have hL9n:L9.length≤1024:=by omega
 refine Gz 12 ?_;refine Ot Ma rfl (G7 lo9 lc9 L9 w9 (ho9.vw hO) (fun x hx=>SM (hL9 x hx) (by decide)) (by omega)) rfl ?_;rintro _ w10 ⟨o10,c10,rfl,ho10,hfr10,hf10⟩;have hz10:=hf10.size;have hz9:=hF9.size;have hM10:=hM9.RY hf10;refine Gz 6 ?_;refine aW [(0,_),(3,_),(6,_),(10,_),(18,_),(19,_),(20,_),(21,_)] ?_;refine Gz 7 ?_;refine cL (Ow rY rfl (by rw[xE];exact aD (i:=1) hM10.1.1 rfl)) ?_;refine Gz 1 ?_;refine Ot IY rfl (D7 o10 c10 (lH L9).1 w10 hM10 (fun k hk=>hn9 k (by omega)) ho10.vw (by have h:=hbd.2.1;simp only[R6] at h;omega)) rfl ?_;rintro _ w11 ⟨rfl,hP11⟩;refine Gz 8 ?_;refine⟨_,rfl,rfl,hok9,?_⟩;refine iN.trans (W:=W) (s1:=s9) (ow1:=ow9) (w1:=w10) (fun k hk=>hl9 k (by omega)) ((hF5.any.trans hF9).trans hf10.any) hP11
theorem BM(a:PiA)(g tp:Nat)(qs:List (NdH×Nd))(ids:List Int)(files:List Ino)(G:GdP qs ids files)(n:Nat)(ih:PwS a g tp qs ids files n):PwS a g tp qs ids files (n+1):=by
 intro ow s k W hM hn hk hdp hok hbd;obtain⟨kn,rfl⟩:=Tq hk.1;have hkl:kn<qs.length:=by omega
 obtain⟨q,hq⟩:∃ q,qs[kn]?=some q:=⟨_,R7 hkl⟩
 have hqm:=Sd hq;have hnd:=eH hq;obtain⟨⟨hi1,hi2⟩,hnl,hnc,htl,hxl⟩:=G.B.q q hqm;obtain⟨m,hm⟩:=Tq (show 0≤q.2.ino by omega);have hwr:=E6 (ids:=ids) (files:=files) n s hq hm;obtain⟨⟨hg,hg6⟩,⟨⟨nd1,ndq⟩,nd2⟩,_,_,_,_,_,⟨r5,r1⟩,⟨f7,f1⟩,_⟩:=id hM;obtain⟨mr,hmr,hRM,hmrl⟩:=r1 (by decide);obtain⟨mf,hmf,hFM⟩:=f1 (by decide);have hn1024:=G.B.n;have hlr:=hok.r;have hqv:=ndq q hqm;have hib : -9223372036854775808≤q.2.ino∧q.2.ino≤9223372036854775807:=by omega
 have hrv:=hRM ⟨q.2.ino,hib⟩ hi1;have hfv:=hFM ⟨q.2.ino,hib⟩ hi1;have htn:q.2.ino.toNat=m:=by omega
 rw[show (⟨q.2.ino,hib⟩:I6).1.toNat=m from htn] at hrv hfv;obtain⟨R0,hR0⟩:∃ R0:Ino,R0=if (files.getD m bW).1 0=2 then fl0 (files.getD m bW) else bW:=⟨_,rfl⟩
 have hfe:(bL mf ⟨q.2.ino,hib⟩).getD (yJ bW)=yJ R0:=by rw[hfv,hR0];split<;>rfl
 have hR02:R0.2=[]:=by rw[hR0];split;exact G.ft0 m;rfl
 have hfz:=fun h=>G.fz q hqm h;have hfo:=fun h=>G.fo q hqm h;rw[htn] at hfz hfo
 have hi8:q.2.kind≠1→wrB qs ids files (n+1) (kn:Int) s=if 0<s.refs.getD m 0 then s else dT qs ids kn (R0.1,q.2.tgt) s:=fun h=>by
  rw[hwr]
  split
  ·rfl
  · rcases G.kd q hqm with h1|h1|h1
    ·exact absurd h1 h
    · rw[R4 h1,hR0,R4 (hfo h1)]
      exact(GU _ _ _ _ (by rw[G.ft0 m,G.tg q hqm (by omega)])).symm
    ·rw[R3 (by omega),R4 h1,hR0,R3 (hfz (by omega))];rfl
 refine cS 114 [(0,_),(1,_)] Tryz.func23 ?_;refine Gz 12 ?_;refine cL (OA gL rfl rfl nd1.non (by omega)) ?_;refine cL (OG (cs:=aH q) aX rfl (fun j v hj=>nd1.rowZ kn rfl hq j v hj)) ?_;refine Ov fS rfl ?_;intro w1 hg1 hs1 hf1;obtain⟨b,eb⟩:∃ b,b=W.heap.size:=⟨_,rfl⟩
 rw[←eb] at hg1 ⊢;refine OD (vs:=aH q) aX rfl rfl (aB q).2 hg1 rfl ?_;intro w2 hb2 hs2 hf2;have hF2:aA nob W w2:=hf1.tw hf2;have hs1b:w1.heap.size=W.heap.size+1:=hs1;have hs2b:w2.heap.size=w1.heap.size:=hs2;have hg2:=hF2.obj hg id;have hmf2:=hmf.RZ hF2 id;refine Gz 4 ?_;refine OI 12 (fun H=>H[g]?=some (.cells (piC a qs.length ids.length).toArray 62 (0,0))∧H[b]?=some (.cells (aH q).toArray 37 (0,0))∧cC enI H a.r mr) [] [0,1,2,3,4,5,6,7,8,9,10,11] aM (by kernel_rfl) (⟨hg2,hb2,hmr.RZ hF2 id⟩) ?_;refine Gz 6 ?_;refine xC rfl (O6 mpQ qH (a:=⟨q.2.ino,hib⟩) rfl rfl (fun H hH=>hH.2.2)) ?_;refine Gz 9 ?_;refine OZ (OP (Oz rfl)) rfl (fun h29=>?_) (fun h29=>?_)
 ·have h29:=of_decide_eq_true h29;have hpos:0<s.refs.getD m 0:=Se fun hc=>by rw[hrv,R3 hc] at h29;cases h29
  have hgv:(bL mr ⟨q.2.ino,hib⟩).getD (iV 0)=iV (s.refs.getD m 0-1):=by rw[hrv,R4 hpos];rfl
  rw[hgv];rw[R4 hpos] at hwr;refine Gz 12 ?_;exact⟨_,rfl,by rw[hwr,hnd,htn],by rw[hwr];exact⟨ow,hM.RY (hF2.draws 1),fun _ _=>rfl,fun k hk=>hn k (by have hk:w2.heap.size≤k:=hk;omega),(hF2.draws 1).any⟩⟩
 have hpos:¬ 0<s.refs.getD m 0:=fun hc=>h29 (R8 (by rw[hrv,R4 hc];rfl));rw[R3 hpos] at hwr;refine Gz 6 ?_;refine OI 8 (fun H=>H[g]?=some (.cells (piC a qs.length ids.length).toArray 62 (0,0))∧H[b]?=some (.cells (aH q).toArray 37 (0,0))∧cC enI H a.f mf) [7,8] [0,1,2,3,4,5,6,7,8] aM (by kernel_rfl) (⟨hg2,hb2,hmf2⟩) ?_;refine Gz 6 ?_;refine xC rfl (Ox (u:=yJ R0) (Pu mpF qH (a:=⟨q.2.ino,hib⟩) rfl rfl (fun H hH=>hH.2.2)) hfe) ?_;refine OE rfl rfl (Ov EZ rfl ?_);intro w3 hg3 hs3 hf3;have hf3:=hf3.RW.RW;obtain⟨c,ec⟩:∃ c,c=w2.heap.size:=⟨_,rfl⟩
 rw[show ((w2.drewN 1).drewN 1).heap.size=c from ec.symm] at hg3 ⊢;refine OK (by exact⟨hf3.obj hg2 id,hf3.obj hb2 id,hmf2.RZ hf3 id⟩) ?_;refine OE rfl rfl (OD (vs:=Et R0) qB rfl rfl (tC _ _) hg3 rfl ?_);intro w4 hc4 hs4 hf4;refine O8 rfl ?_;have hf4:aA (· = c) w3 w4:=hf4;have hf24:aA nob w2 w4:=hf3.tw hf4;have hF4:=hF2.trans hf24;have hs3b:w3.heap.size=w2.heap.size+1:=hs3;have hs4b:w4.heap.size=w3.heap.size:=hs4;have hb4:=hf24.obj hb2 id;have hM4:=hM.RY hF4;have hg4:=hF4.obj hg id;have hbl:ow b=0:=hn b (by omega);have hcl:ow c=0:=hn c (by omega);have hn4:∀ k,w4.heap.size≤k→ow k=0:=fun k hk=>hn k (by omega);have hbc:b≠c:=by omega
 have hc4:w4.heap[c]?=some (.cells (bG R0.1 []).toArray 88 (0,0)):=by rw[←hR02];exact hc4
 refine Gz 2 ?_;refine O1 (β:=(BSt×Ino)×(Nat→Nat)) (fun⟨⟨s8,i8⟩,ow8⟩=>[(0,pT g),(1,iV (kn:Int)),(5,pT b),(8,pT c)]) (fun⟨⟨s8,i8⟩,ow8⟩ w=>PiX 0 a ow8 w.heap g tp qs ids files s8∧w.heap[b]?=some (.cells (aH q).toArray 37 (0,0))∧w.heap[c]?=some (.cells (bG i8.1 []).toArray 88 (0,0))∧wrB qs ids files (n+1) (kn:Int) s=dT qs ids kn i8 s8∧i8.2=q.2.tgt∧okS qs s8∧s8.refs.getD m 0=s8.refs.getD m 0∧(∀ k,k<w4.heap.size→ow8 k=ow k)∧(∀ k,w.heap.size≤k→ow8 k=0)∧aA (fun k=>Lb ow k∨k=c) w4 w) ?_ ?_
 ·refine fK 4 ?_ ?_<;>intro h40
  ·obtain⟨K,hK⟩:∃ K,wrK (wrB qs ids files n) qs (aZ qs q.2.names qs.length) s=K:=⟨_,rfl⟩
   rw[R3 (by omega),R3 (by omega),R4 h40,hK] at hwr;have hbK:bdB { K.1 with lst:=K.1.lst++(lH K.2).1 }:=(jC (qs:=qs) (ids:=ids) _ _ _).bd (show bdB _ from hwr ▸ hbd);rw[hR0,R3 (hfz (by omega))] at hc4;refine Gz 5 ?_;refine cL (OG (cs:=aH q) aX rfl (bO hb4 0 rfl)) ?_;refine Ot NU rfl (FP a g tp qs ids files G n ih ow s q w4 hM4 hn4 (hqv.RY hF4) (by rw[hnd] at hdp;omega) hok K hK hbK) rfl ?_;rintro _ w5 ⟨rfl,hokK,ow5,hM5,hl5,hn5,hf5⟩;have hz5:=hf5.size;have hb5:=hf5.obj hb4 (fun h=>h.1 hbl);have hc5:=hf5.obj hc4 (fun h=>h.1 hcl);have hc5l:ow5 c=0:=by rw[hl5 c (by omega)];exact hcl
   refine Gz 4 ?_;refine OF aL rfl rfl rfl hc5 rfl ?_;intro w6 hc6 hs6 hf6;have hb6:=hf6.obj hb5 hbc;have hM6:=hM5.step hf6 0 (by decide) (fun k hk=>.inr (by have h:k=c:=hk;rw[h];exact hc5l)) (fun _ _=>rfl);have hs6b:w6.heap.size=w5.heap.size:=hs6;refine Gz 1 ?_;refine OF aL rfl rfl rfl hc6 rfl ?_;intro w7 hc7 hs7 hf7;have hb7:=hf7.obj hb6 hbc;have hM7:=hM6.step hf7 0 (by decide) (fun k hk=>.inr (by have h:k=c:=hk;rw[h];exact hc5l)) (fun _ _=>rfl);have hs7b:w7.heap.size=w6.heap.size:=hs7;refine Gz 1 ?_;refine aC ⟨⟨{ K.1 with lst:=K.1.lst++(lH K.2).1 },EG K.1 (lH K.2).1⟩,ow5⟩ ⟨hM7,hb7,hc7,hwr,(G.tg q hqm (by omega)).symm,⟨hokK.r,hokK.b,hokK.h⟩,rfl,fun k hk=>hl5 k hk,fun k hk=>hn5 k (by omega),?_⟩;exact(hf5.mono (fun k h=>.inl h)).trans ((hf6.mono (fun k h=>.inr h)).trans (hf7.mono (fun k h=>.inr h)))
  have h8:=hi8 h40;rw[R3 hpos] at h8;refine Gz 4 ?_;exact aC ⟨⟨s,(R0.1,q.2.tgt)⟩,ow⟩ ⟨hM4,hb4,hc4,h8,rfl,hok,rfl,fun _ _=>rfl,hn4,Rk _ _⟩
 rintro⟨⟨s8,i8⟩,ow8⟩ w8 ⟨hM8,hb8,hc8,hw8,ht8,hok8,_,hl8,hn8,hF8⟩;refine Gz 1 ?_;refine OI 20 (fun H=>H[b]?=some (.cells (aH q).toArray 37 (0,0))∧H[g]?=some (.cells (piC a qs.length ids.length).toArray 62 (0,0))) [12,14,16,18,20] [0,1,2,3,4,5,6,7,8,9,10,11,13,12,14,15,16,17,18,19,20] aM (by kernel_rfl) (⟨hb8,hM8.1.1⟩) ?_;refine Gz 1 ?_;have hz8:=hF8.size;have hcs:c<w4.heap.size:=by omega
 have hbs:b<w4.heap.size:=by omega
 have hc8l:ow8 c=0:=by rw[hl8 c hcs];exact hcl
 have hb8l:ow8 b=0:=by rw[hl8 b hbs];exact hbl
 have kc:∀ {w w2:World},PiX 0 a ow8 w.heap g tp qs ids files s8→aA (· = c) w w2→PiX 0 a ow8 w2.heap g tp qs ids files s8:=fun hM hf=>hM.step hf 0 (by decide) (fun k hk=>.inr (by have h:k=c:=hk;rw[h];exact hc8l)) (fun _ _=>rfl);obtain⟨R,hR⟩:∃ R,R=bQ s8 q.2.xs:=⟨_,rfl⟩
 have hfix:dT qs ids (kn:Int) i8 s8 = { R.2 with ino:=R.2.ino++(mX (inB qs ids kn i8 R.1).1 (inB qs ids kn i8 R.1).2).1,refs:=R.2.refs.set m ((bI R.2.ino R.2.ino.length:Nat)+1),many:=R.2.many+1 }:=by unfold dT;rw[hnd,←hR,hm,SX]
 have hbF:bdB R.2:=by have h:=(rF (qs:=qs) (ids:=ids) kn i8 s8).bd (by rw[←hw8];exact hbd);rw[hnd,←hR] at h;exact h
 have hbT:R.2.ino.length+(mX (inB qs ids kn i8 R.1).1 (inB qs ids kn i8 R.1).2).1.length≤137438953472:=by have h:=hbd.1;rw[hw8,hfix] at h;simp only[R6] at h;exact h
 refine Gz 3 ?_;refine xC rfl (OB aL rfl (fun H hH=>aD (i:=3) hH.1 rfl)) ?_;refine Gz 8 ?_;refine OE rfl rfl (Ot NT rfl (Gi a.lo a.lc qs kn (w8.drewN 1) (show bD _ w8.heap a.lo a.lc qs from hM8.2.1.1)) rfl ?_);rintro _ w9 ⟨rfl,hf9⟩;have hf9:=hf9.RW;refine OK (by exact⟨hf9.obj hb8 id,hf9.obj hM8.1.1 id⟩) ?_;have hz9:=hf9.size;have hc9:=hf9.obj hc8 id;have hb9:=hf9.obj hb8 id;have hg9:=hf9.obj hM8.1.1 id;have hgc:g≠c:=fun e=>by have h:=hM8.1.2;rw[e,hc8l] at h;cases h
 have hM9:=hM8.RY hf9;refine OE rfl rfl (OF aL rfl rfl rfl hc9 rfl ?_);intro w10 hc10 hs10 hf10;have hb10:=hf10.obj hb9 hbc;have hg10:=hf10.obj hg9 hgc;refine OK (by exact⟨hb10,hg10⟩) ?_;have hs10b:w10.heap.size=w9.heap.size:=hs10;refine Gz 1 ?_;refine OE rfl rfl (OF aL rfl rfl rfl hc10 rfl ?_);intro w11 hc11 hs11 hf11;have hb11:=hf11.obj hb10 hbc;have hg11:=hf11.obj hg10 hgc;refine OK (by exact⟨hb11,hg11⟩) ?_;have hs11b:w11.heap.size=w10.heap.size:=hs11;refine Gz 1 ?_;refine OE rfl rfl (OF lV rfl rfl rfl hc11 rfl ?_);intro w12 hc12 hs12 hf12;have hb12:=hf12.obj hb11 hbc;have hg12:=hf12.obj hg11 hgc;refine OK (by exact⟨hb12,hg12⟩) ?_;have hs12b:w12.heap.size=w11.heap.size:=hs12;refine Gz 1 ?_;refine OE rfl rfl (OF aL rfl rfl rfl hc12 rfl ?_);intro w13 hc13 hs13 hf13;refine O8 rfl ?_;have hs13b:w13.heap.size=w12.heap.size:=hs13;have hM13:=kc (kc (kc (kc hM9 hf10) hf11) hf12) hf13;have hb13:=hf13.obj (hf12.obj (hf11.obj (hf10.obj hb9 hbc) hbc) hbc) hbc;refine Gz 3 ?_;refine OI 13 (fun H=>H[g]?=some (.cells (piC a qs.length ids.length).toArray 62 (0,0))∧H[b]?=some (.cells (aH q).toArray 37 (0,0))) [7,12] [0,1,2,3,4,5,6,7,8,9,10,11,12] aM (by kernel_rfl) (⟨hM13.1.1,hb13⟩) ?_;refine Gz 6 ?_;refine xC rfl (OB aL rfl (fun H hH=>aD (i:=4) hH.2 rfl)) ?_;refine OE rfl rfl (Ot Ln rfl (Hy a.io a.ic ids q.2.ud (w13.drewN 1) (show Vw i64 w13.heap a.io a.ic ids from hM13.2.2.1.1) G.ir (G.io q hqm).1 G.il) rfl ?_);rintro _ w14 ⟨rfl,hw⟩;subst hw;refine OK (by exact⟨hM13.1.1,hb13⟩) ?_;refine Gz 4 ?_;refine OE rfl rfl (OF aL rfl rfl rfl hc13 rfl ?_);intro w15 hc15 hs15 hf15;have hf15:=hf15.RW;have hb15:=hf15.obj hb13 hbc;refine OK (by exact⟨hf15.obj hM13.1.1 hgc,hb15⟩) ?_;have hM15:=kc hM13 hf15;have hs15b:w15.heap.size=w13.heap.size:=hs15;refine Gz 3 ?_;refine OI 13 (fun H=>H[g]?=some (.cells (piC a qs.length ids.length).toArray 62 (0,0))∧H[b]?=some (.cells (aH q).toArray 37 (0,0))) [7,12] [0,1,2,3,4,5,6,7,8,9,10,11,12] aM (by kernel_rfl) (⟨hM15.1.1,hb15⟩) ?_;refine Gz 6 ?_;refine xC rfl (OB aL rfl (fun H hH=>aD (i:=5) hH.2 rfl)) ?_;refine OE rfl rfl (Ot Ln rfl (Hy a.io a.ic ids q.2.gd (w15.drewN 1) (show Vw i64 w15.heap a.io a.ic ids from hM15.2.2.1.1) G.ir (G.io q hqm).2 G.il) rfl ?_);rintro _ w16 ⟨rfl,hw⟩;subst hw;refine OK (by exact⟨hM15.1.1,hb15⟩) ?_;refine Gz 4 ?_;refine OE rfl rfl (OF aL rfl rfl rfl hc15 rfl ?_);intro w17 hc17 hs17 hf17;have hf17:=hf17.RW;have hb17:=hf17.obj hb15 hbc;refine OK (by exact⟨hf17.obj hM15.1.1 hgc,hb17⟩) ?_;have hM17:=kc hM15 hf17;have hs17b:w17.heap.size=w15.heap.size:=hs17;have hn17:∀ k,w17.heap.size≤k→ow8 k=0:=fun k hk=>hn8 k (by omega);refine Gz 5 ?_;refine cL (OG (cs:=aH q) aX rfl (bO hb17 0 rfl)) ?_;refine Ot NS rfl (FU a ow8 g tp qs ids files s8 q w17 hM17 hn17 (hM17.2.1.1.2 q hqm) (G.xs q hqm) (by have h:=(yN s8 q.2.xs).f;rw[←hR] at h;have:=hbF.2.2.1;omega) hok8.b.2) rfl ?_;rw[←hR];rintro _ w18 ⟨rfl,ow18,hM18,hl18,hn18,hf18⟩;have hz18:=hf18.size;have hb18:=hf18.obj hb17 (fun h=>h.1 hb8l);have hc18:=hf18.obj hc17 (fun h=>h.1 hc8l);have hc18l:ow18 c=0:=by rw[hl18 c (by omega)];exact hc8l
 have hb18l:ow18 b=0:=by rw[hl18 b (by omega)];exact hb8l
 refine Gz 1 ?_;refine OF aL rfl rfl rfl hc18 rfl ?_;intro w19 hc19 hs19 hf19;have hs19b:w19.heap.size=w18.heap.size:=hs19;have hb19:=hf19.obj hb18 hbc;have hM19:=hM18.step hf19 0 (by decide) (fun k hk=>.inr (by have h:k=c:=hk;rw[h];exact hc18l)) (fun _ _=>rfl);have hcF:w19.heap[c]?=some (.cells (bG (inB qs ids kn i8 R.1).1 (inB qs ids kn i8 R.1).2).toArray 88 (0,0)):=by unfold inB;rw[hnd,ht8];exact hc19
 refine Gz 4 ?_;refine cL (OG (cs:=bG (inB qs ids kn i8 R.1).1 (inB qs ids kn i8 R.1).2) qB rfl (bO hcF 0 rfl)) ?_;refine Ot NR rfl (J2 (inB qs ids kn i8 R.1).1 (inB qs ids kn i8 R.1).2 w19 (by show i8.2.length≤maxLen;rw[ht8];unfold maxLen;omega)) rfl ?_;rintro _ w20 ⟨o20,c20,rfl,ho20,hfr20,hf20⟩;have hz20:=hf20.size;have hb20:=hf20.obj hb19 id;have hM20:=hM19.RY hf20;refine Gz 13 ?_;refine cL (Ow rY rfl (by rw[xE];exact aD (i:=0) hM20.1.1 rfl)) ?_;refine Gz 1 ?_;refine Ot IY rfl (D8 o20 c20 (mX (inB qs ids kn i8 R.1).1 (inB qs ids kn i8 R.1).2).1 w20 hM20 (fun k hk=>hn18 k (by omega)) ho20.vw (by omega)) rfl ?_;rintro _ w21 ⟨rfl,ow21,hM21,hl21,hn21,hf21⟩;have hz21:=hf21.size;have hb21:=hf21.obj hb20 (fun h=>h.1 hb18l);obtain⟨s21,es21⟩:∃ t:BSt,t = { R.2 with ino:=R.2.ino++(mX (inB qs ids kn i8 R.1).1 (inB qs ids kn i8 R.1).2).1 }:=⟨_,rfl⟩
 have zr:s21.refs=R.2.refs:=by rw[es21]
 have zm:s21.many=R.2.many:=by rw[es21]
 rw[←es21] at hM21;obtain⟨⟨hg21,_⟩,_,_,_,_,_,_,⟨r521,r121⟩,_⟩:=id hM21;obtain⟨mr21,hmr21,hRM21,hmrl21⟩:=r121 (by decide);refine Gz 4 ?_;refine OI 7 (fun H=>H[g]?=some (.cells (piC a qs.length ids.length).toArray 62 (0,0))∧H[b]?=some (.cells (aH q).toArray 37 (0,0))) [7] [0,1,2,3,4,5,6,7] aM (by kernel_rfl) (⟨hg21,hb21⟩) ?_;refine Gz 7 ?_;refine OE rfl rfl (OS mpQ qH (a:=(⟨q.2.ino,hib⟩:I6)) rfl rfl rfl hmr21 ?_);intro w22 hm22 hs22 hf22;refine O8 rfl ?_;have hf22:aA (· = a.r) w21 w22:=hf22.RW;refine Gz 10 ?_;have hRl:R.2.refs.length=qs.length+1:=by rw[hR,(yN s8 q.2.xs).r];exact hok8.r
 rw[hw8,hfix];refine⟨_,rfl,?_,?_⟩
 · rw[hnd,htn]
   show _=Value.int .i64 ((R.2.refs.set m (((bI R.2.ino R.2.ino.length:Nat):Int)+1)).getD m 0-1);rw[Sj,SQ (by omega)];show _=Value.int .i64 (((bI R.2.ino R.2.ino.length:Nat):Int)+1-1);rw[show ((bI R.2.ino R.2.ino.length:Nat):Int)+1-1=(bI R.2.ino R.2.ino.length:Nat) by omega]
 · have hst:=hM21.step hf22 5 (by decide) (fun k hk=>.inl (by have h:k=a.r:=hk;rw[h];exact r521)) (fun _ _=>rfl)
   obtain⟨c0,c1,c2,c3,c4,c5,c6,⟨c7,_⟩,c8,c9⟩:=hst;subst es21;have h1l:R.2.refs.length=qs.length+1:=hRl;have hp1:=hRM21.put ⟨q.2.ino,hib⟩ (v:=bI R.2.ino R.2.ino.length) hi1 (by show q.2.ino.toNat<R.2.refs.length;omega);have hp2:=uT.len hRM21 hmrl21 ⟨q.2.ino,hib⟩ (v:=((bI R.2.ino R.2.ino.length:Nat):Int)+1) (iV ((bI R.2.ino R.2.ino.length:Nat):Int)) hi1 (by show q.2.ino.toNat<R.2.refs.length;omega) (by omega);rw[show (⟨q.2.ino,hib⟩:I6).1.toNat=m from htn] at hp1 hp2;have hz22:=hf22.size;have A8:aA (Lb ow) W w8:=(hF4.any (S:=Lb ow)).RV hF8 (fun k h=>h.elim .inl (fun h=>.inr (by omega)));have A13:aA (Lb ow) W w13:=((((A8.trans hf9.any).tw hf10).tw hf11).tw hf12).tw hf13;have A17:aA (Lb ow) W w17:=(A13.tw hf15).tw hf17;have l8:∀ k,k<W.heap.size→ow8 k=ow k:=fun k hk=>hl8 k (by omega);have l18:∀ k,k<W.heap.size→ow18 k=ow k:=fun k hk=>by rw[hl18 k (by omega),l8 k hk]
   have l21:∀ k,k<W.heap.size→ow21 k=ow k:=fun k hk=>by rw[hl21 k (by omega),l18 k hk]
   have A19:aA (Lb ow) W w19:=(jM l8 A17 hf18).tw hf19;have A21:aA (Lb ow) W w21:=jM l18 (A19.trans hf20.any) hf21;refine⟨ow21,⟨c0,c1,c2,c3,fun _=>c4 (by decide),fun _=>c5 (by decide),fun _=>c6 (by decide),⟨c7,fun _=>⟨_,hm22,hp1,hp2⟩⟩,c8.imp id (fun h _=>h (by decide)),c9.imp id (fun h _=>h (by decide))⟩,l21,fun k hk=>hn21 k (by omega),A21.RV hf22 (fun k h=>?_)⟩;have h:k=a.r:=h;by_cases hk:k<W.heap.size
   · refine .inl ?_
     rw[h] at hk ⊢;show ow a.r≠0∧ow a.r≠4;rw[r5];decide
   ·exact .inr (by omega)
theorem vK(a:PiA)(g tp:Nat)(qs:List (NdH×Nd))(ids:List Int)(files:List Ino)(G:GdP qs ids files):∀ (n:Nat),PwS a g tp qs ids files n
|0=>fun ow s k W hM hn hk hdp hok hbd=>by
   exfalso;obtain⟨kn,rfl⟩:=Tq hk.1;obtain⟨q,hq⟩:∃ q,qs[kn]?=some q:=⟨_,R7 (by omega)⟩
   have h:=(G.B.q q (Sd hq)).2.1;rw[eH hq] at hdp;omega
|n+1=>BM a g tp qs ids files G n (vK a g tp qs ids files G n)
end
section
open Go Go.RowKit Go.Maps
theorem vR{α:Type}[DecidableEq α]:∀ (l m:List α),l.Nodup→(∀ x∈l,x∈m)→l.length≤m.length
|[],_,_,_=>Sf _
|x::r,m,hn,h=>by
   have hx:=h x (by simp);have h1:=List.nodup_cons.1 hn;have h2:=vR r (m.erase x) h1.2 (fun y hy=>(List.mem_erase_of_ne (fun e=>h1.1 (by rw[←e];exact hy))).2 (h y (by simp[hy])));rw[List.length_erase_of_mem hx] at h2;have:=List.length_pos_of_mem hx;rw[Sq];omega
theorem nO{qs:List (NdH×Nd)}{ids:List Int}(h:pJ qs ids):ids.length≤2*qs.length:=by
 have:=vR ids (gU qs) (h.1.imp (fun h=>by omega)) (fun x hx=>(h.2 x).1 hx);rw[sL] at this;exact this
theorem C4{ids:List Int}{z:Int}(h:z∈ids):0≤sI ids z∧sI ids z<ids.length∧ids.getD (sI ids z).toNat 0=z:=by
 unfold sI;cases hf:ids.findIdx? (fun x=>decide (x=z)) with
|none=>
   rw[List.findIdx?_eq_none_iff] at hf;have:=hf z h;simp at this
|some i=>
   rw[Ti] at hf;obtain⟨hi,h1,_⟩:=hf;have h1:ids[i]=z:=by simpa using h1
   refine⟨TY _,by show (i:Int)<_;omega,?_⟩;show ids.getD ((i:Int)).toNat 0=z;rw[SX,Sj,R7 hi];exact h1
theorem qT{qs:List (NdH×Nd)}{q:NdH×Nd}(h:q∈qs):q.2.ud∈gU qs∧q.2.gd∈gU qs:=by
 obtain⟨i,hi⟩:=Sr h;have hl:=(R9.1 hi).1;have hz:=sL qs;have g:∀ j,j<2*qs.length→(gU qs).getD j 0∈gU qs:=fun j hj=>by
  rw[Sj,R7 (by omega)];exact Tv _
 obtain⟨k0,k1⟩:=C8 qs i q hi;refine⟨?_,?_⟩
 · have:=g (2*i) (by omega)
   rw[k0] at this;exact this
 · have:=g (2*i+1) (by omega)
   rw[k1] at this;exact this
theorem Jh{qs:List (NdH×Nd)}{q:NdH×Nd}(h:q∈qs):1≤iM qs q.2.ino:=by
 unfold iM;have:0<qs.countP (fun p=>decide (p.2.ino=q.2.ino)):=List.countP_pos_iff.2 ⟨q,h,by simp⟩;omega
section
variable {qs:List (NdH×Nd)}{ids:List Int}{fs:FSt}(G:GdT qs)(I:pJ qs ids)(F:FI (nds qs) (qs.length+1) fs)
include G
theorem GdT.one{k:Nat}{q:NdH×Nd}(hq:qs[k]?=some q)(hk:q.2.kind=1):iM qs q.2.ino=1:=by
 have hl:=(R9.1 hq).1;have hz:∀ L:List (NdH×Nd),(∀ p∈L,p.2.ino≠q.2.ino)→L.countP (fun p=>decide (p.2.ino=q.2.ino))=0:=fun L h=>List.countP_eq_zero.2 (fun p hp=>by simpa using h p hp);have e:qs=qs.take k++q::qs.drop (k+1):=by rw[←(R9.1 hq).2,List.getElem_cons_drop,SG]
 unfold iM;have h1:(qs.take k).countP (fun p=>decide (p.2.ino=q.2.ino))=0:=hz _ (fun p hp he=>by
  obtain⟨j,hj⟩:=Sr hp;rw[SZ] at hj
  split at hj
  · rename_i hlt
    exact(G.lnk k j q p (by omega) hq hj he.symm).1 hk
  ·cases hj)
 have h2:(qs.drop (k+1)).countP (fun p=>decide (p.2.ino=q.2.ino))=0:=hz _ (fun p hp he=>by
  obtain⟨j,hj⟩:=Sr hp;rw[TX] at hj;exact(G.lnk k (k+1+j) q p (by omega) hq hj he.symm).1 hk)
 have h3:qs.countP (fun p=>decide (p.2.ino=q.2.ino))=(qs.take k).countP (fun p=>decide (p.2.ino=q.2.ino))+(1+(qs.drop (k+1)).countP (fun p=>decide (p.2.ino=q.2.ino))):=by
  conv=>lhs;rw[e]
  rw[List.countP_append,List.countP_cons_of_pos (by simp)];omega
 rw[h3,h1,h2];rfl
theorem GdT.same{q x:NdH×Nd}(hq:q∈qs)(hx:x∈qs)(e:x.2.ino=q.2.ino):Alk x.2 q.2:=by
 obtain⟨i,hi⟩:=Sr hx;obtain⟨j,hj⟩:=Sr hq;by_cases h:i=j
 ·subst h;rw[hi] at hj;cases hj;exact RC _
 ·exact(G.lnk i j x q h hi hj e).2
include F in
theorem I4 {q:NdH×Nd} (hq:q∈qs) (hk:q.2.kind=2):FOk fs.ds.B fs.tails q.2.data (fs.files.getD q.2.ino.toNat bW):=by
 have hi:=G.ino q hq;have hl:=F.l;obtain⟨f,hf⟩:∃ f,fs.files[q.2.ino.toNat]?=some f:=⟨_,R7 (by omega)⟩
 have hd:fs.files.getD q.2.ino.toNat bW=f:=by rw[Sj,hf];rfl
 have ha:=F.a q.2 (SN.2 ⟨q,hq,rfl⟩) hk;rw[hd] at ha ⊢;rcases F.f _ f hf with e|⟨x,hx,h1,h2,h3⟩
 ·rw[e] at ha;exact absurd (show (0:Int)=2 from ha) (by decide)
 · obtain⟨p,hp,rfl⟩:=SN.1 hx
   have:=G.ino p hp;have e:=G.same hq hp (by omega);rw[←e.2.2.2.2.1];exact h3
omit G in
theorem Jv {B:By} {L:List By} {d:By} {f:Ino} (h:FOk B L d f) (hL:zB L):∃ st fr off:Nat,f=(fun j=>[2,0,0,0,0,0,(st:Int),(d.length:Int),(fr:Int),(off:Int)].getD j 0,[])∧st≤64+B.length∧fr≤L.length∧(0<fr↔0<d.length%128)∧off<128∧(0<fr∨off=0)∧Cx B d st∧TlS L (bH d) fr off:=by
 obtain⟨st,fr,off,h1,h2,h3⟩:=h;have ht:(bH d).length=d.length%128:=by unfold bH;rw[Sm];omega
 have hs:st≤64+B.length:=by
  rcases h2 with⟨_,e⟩|⟨_,pre,rest,e1,e2⟩
  ·omega
  ·rw[e1,e2,R6];omega
 refine⟨st,fr,off,h1,hs,?_⟩;have h3':=h3;rcases h3 with⟨e1,e2,e3⟩|⟨e0,n,a,z,e1,e2,e3,e4⟩
 · rw[e1] at ht
   have ht:0=d.length%128:=ht;exact⟨by omega,by omega,by omega,.inr e3,h2,h3'⟩
 · have hb:=hL (L.getD n []) (by rw[Sj,R7 e1];exact Tv _)
   rw[e4,R6,R6] at hb;exact⟨by omega,by omega,by omega,.inl (by omega),h2,h3'⟩
include I F in
theorem yE {k:Nat} {q:NdH×Nd} (hq:qs[k]?=some q) {i:Ino} {xr:Int} (hx:0≤xr∧xr≤4294967295)
 (h2:q.2.kind=2→i=fs.files.getD q.2.ino.toNat bW) (h3:q.2.kind=3→i=(zF,q.2.tgt)) (h1:q.2.kind=1→∃ a n:Nat,i=(fun j=>if j=6 then (a:Int) else if j=7 then (n:Int) else 0,[])∧a≤4294967295∧n≤1048576) :
 iW (inB qs ids k i xr).1 (inB qs ids k i xr).2:=by
 have hm:=Sd hq;have hkl:=(R9.1 hq).1;obtain⟨⟨k1,k3⟩,_,m1,m2,m3,m4,m5,m6,_⟩:=G.may q hm;have hn:=G.n;have hil:=nO I;obtain⟨o1,o2⟩:=qT hm;obtain⟨u1,u2,_⟩:=C4 ((I.2 _).2 o1);obtain⟨g1,g2,_⟩:=C4 ((I.2 _).2 o2);have hl:uO qs (k:Int)=iM qs q.2.ino:=qX ⟨by omega,by omega⟩ (by rw[SX];exact hq);have hc:=Hi qs q.2.ino;have hc1:=Jh hm;have hnd:=eH hq;have f0:(inB qs ids k i xr).1 0=q.2.kind:=by unfold inB;rw[hnd];rfl
 have f1:(inB qs ids k i xr).1 1=q.2.md:=by unfold inB;rw[hnd];rfl
 have f2:(inB qs ids k i xr).1 2=sI ids q.2.ud:=by unfold inB;rw[hnd];rfl
 have f3:(inB qs ids k i xr).1 3=sI ids q.2.gd:=by unfold inB;rw[hnd];rfl
 have f4:(inB qs ids k i xr).1 4=iM qs q.2.ino:=by rw[←hl];rfl
 have f5:(inB qs ids k i xr).1 5=xr:=rfl;have f6:(inB qs ids k i xr).1 6=i.1 6:=rfl;have f7:(inB qs ids k i xr).1 7=i.1 7:=rfl;have f8:(inB qs ids k i xr).1 8=i.1 8:=rfl;have f9:(inB qs ids k i xr).1 9=i.1 9:=rfl;have ft:(inB qs ids k i xr).2=i.2:=rfl;unfold iW iL;rw[f0,f1,f2,f3,f4,f5,f6,f7,f8,f9,ft];by_cases c2:q.2.kind=2
 · have hf:=I4 G F hm c2
   rw[←h2 c2] at hf;obtain⟨st,fr,off,rfl,a1,a2,a3,a4,a5,_,_⟩:=Jv hf F.t;have hB:=F.b;have hT:=F.tn;rw[SC] at hB hT;refine⟨⟨by omega,by omega,by omega,by omega,by omega,by omega,by omega,by omega,by omega,by omega,.inl ⟨c2,?_⟩⟩,fun h=>by omega⟩;show 0≤((q.2.data.length:Nat):Int)∧((q.2.data.length:Nat):Int)≤4096∧0≤((fr:Nat):Int)∧((fr:Nat):Int)≤1024∧(0<((fr:Nat):Int)↔0<((q.2.data.length:Nat):Int)%128)∧0≤((st:Nat):Int)∧((st:Nat):Int)≤4294967295∧0≤((off:Nat):Int)∧((off:Nat):Int)<128∧(0<((fr:Nat):Int)∨((off:Nat):Int)=0)∧([]:By).length=0;refine⟨by omega,by omega,by omega,by omega,by omega,by omega,by omega,by omega,by omega,by omega,rfl⟩
 · by_cases c3:q.2.kind=3
   · unfold okT at m6
     rw[R4 c3] at m6;have hp:=Sk.2 m6.1;rw[h3 c3];refine⟨⟨by omega,by omega,by omega,by omega,by omega,by omega,by omega,by omega,by omega,by omega,.inr (.inr ⟨c3,by show 1≤q.2.tgt.length;omega,m6.2.1,rfl,rfl,rfl,rfl⟩)⟩,fun _=>m6.2.2⟩
   · have c1:q.2.kind=1:=by omega
     obtain⟨a,n,rfl,ha,hn2⟩:=h1 c1;have h11:=G.one hq c1;refine⟨⟨by omega,by omega,by omega,by omega,by omega,by omega,by omega,by omega,by omega,by omega,.inr (.inl ⟨c1,?_⟩)⟩,fun h=>by omega⟩;show 0≤((a:Nat):Int)∧((a:Nat):Int)≤4294967295∧0≤((n:Nat):Int)∧((n:Nat):Int)≤1048576∧iM qs q.2.ino=1∧(0:Int)=0∧(0:Int)=0∧([]:By).length=0;exact⟨by omega,by omega,by omega,by omega,h11,rfl,rfl,rfl⟩
end
theorem jV.many41{qs:List (NdH×Nd)}{ids:List Int}{files:List Ino}{s:BSt}(h:jV qs ids files s)(hn:qs.length≤40):s.many≤41:=by
 have h1:=T8 (fun r:Int=>decide (0<r)) s.refs;rw[h.many];unfold qE;rw[h.rl] at h1;omega
theorem jV.ref_le{qs:List (NdH×Nd)}{ids:List Int}{files:List Ino}{s:BSt}(h:jV qs ids files s)(hn:qs.length≤40){m:Nat}(hm:0<s.refs.getD m 0):s.refs.getD m 0-1≤4294967295:=by
 obtain⟨_,_,_,_,o,_,_,e,_,ha,_⟩:=h.std m hm;have h1:=ha.le;have h2:=h.bi;have h3:=h.many41 hn;have h4:=oV s.ino (o/128);rw[e];unfold bI;omega
section
variable {qs:List (NdH×Nd)}{ids:List Int}{files:List Ino}(G:GdT qs)
include G
theorem wR{s:BSt}(h:jV qs ids files s){S:List By}:∀ (ys:List Int) (last:By),(∀ z∈ys,z∈aZ qs S qs.length)→ys.Pairwise (· < ·)→BF qs s ys→(∀ z∈ys,Su last (bC (ndB qs z).names)=true)→cF last (jU qs s ys)
|[],_,_,_,_,_=>trivial
|z::r,last,hk,hp,hs,hl=>by
   obtain⟨k,q,rfl,hq,hn⟩:=sX (hk z (by simp));have hnd:=eH hq;have hm:=Sd hq;obtain⟨⟨k1,k3⟩,_⟩:=G.may q hm;have hpos:=hs (k:Int) (by simp);have hrl:=h.ref_le G.n.2 hpos;have hp2:=Un.1 hp;refine⟨⟨?_,hl _ (by simp),?_,?_,?_,?_⟩,?_⟩
   · show cM (bC (ndB qs k).names)=0
     rw[hnd];refine G.nmv q hm _ ?_;rw[hn];simp[bC]
   ·show 1≤(ndB qs k).kind;rw[hnd];exact k1
   ·show (ndB qs k).kind≤3;rw[hnd];exact k3
   ·show 0≤s.refs.getD _ 0-1;omega
   ·show s.refs.getD _ 0-1≤4294967295;exact hrl
   · refine wR h r _ (fun z hz=>hk z (by simp[hz])) hp2.2 (fun z hz=>hs z (by simp[hz])) (fun z hz=>?_)
     obtain⟨j,p,rfl,hj,hnj⟩:=sX (hk z (by simp[hz]));have hlt:=hp2.1 _ hz;have hless:=G.lt k j q p (by omega) hq hj;rw[eH hj];show Su (bC (ndB qs k).names) _=true;rw[hnd];have hkq:iE q.2.names S:=kX.2 ⟨by rw[hn];simp,by rw[hn];simp⟩;have hkp:iE p.2.names S:=kX.2 ⟨by rw[hnj];simp,by rw[hnj];simp⟩;unfold cK at hless;have h5:=of_decide_eq_true hless;rw[IN hkq hkp] at h5;exact Jk.1 h5
theorem G1{s:BSt}{S:List By}:(bK (jU qs s (aZ qs S qs.length))).length≤10440:=by
 have key:∀ ys:List Int,(∀ z∈ys,z∈aZ qs S qs.length)→(bK (jU qs s ys)).length≤261*ys.length:=by
  intro ys
  induction ys with
 |nil=>intro _;exact Sa _
 |cons z r ih=>
    intro h;obtain⟨k,q,rfl,hq,hn⟩:=sX (h z (by simp));have h2:=ih (fun y hy=>h y (by simp[hy]));have h3:(bC (ndB qs k).names).length≤255:=by
     rw[eH hq];refine(jG (G.nmv q (Sd hq) _ ?_)).1;rw[hn];simp[bC]
    have e:bK (jU qs s ((k:Int)::r))=kI (bC (ndB qs k).names,(ndB qs k).kind,s.refs.getD (ndB qs k).ino.toNat 0-1)++bK (jU qs s r):=rfl;rw[e,R6,nW,Sq];show (bC (ndB qs k).names).length+6+_≤_;omega
 have h1:=key _ (fun z hz=>hz);have h2:=nK (ps:=qs) (s:=S) qs.length;have h3:=G.n.2;omega
end
end
section
open Go Go.RowKit Go.Maps
def BlI(s:BSt):Prop:=s.lst.length≤10440*s.many
structure GdW (qs:List (NdH×Nd))(ids:List Int)(files:List Ino)(s t:BSt)(q:Nd):Prop where
 inv:jV qs ids files t
 bl:BlI t
 ex:Ex s t
 set:0<t.refs.getD q.ino.toNat 0
 ch:∀ m,t.refs.getD m 0≠s.refs.getD m 0→∃ x∈qs,x.2.ino=(m:Int)∧∃ r,x.2.names=q.names++r
section
variable {qs:List (NdH×Nd)}{ids:List Int}{fs:FSt}(G:GdT qs)(I:pJ qs ids)(F:FI (nds qs) (qs.length+1) fs)
include G
theorem CF{wr:Int→BSt→BSt}{S:List By}(IH:∀ (k:Nat) (q:NdH×Nd) (s:BSt),qs[k]?=some q→q.2.names.length=S.length+1→jV qs ids fs.files s→BlI s→GdW qs ids fs.files s (wr k s) q.2) :
 ∀ (ys:List Int) (s:BSt),(∀ z∈ys,z∈aZ qs S qs.length)→jV qs ids fs.files s→BlI s→∃ t,wrK wr qs ys s=(t,jU qs t ys)∧jV qs ids fs.files t∧BlI t∧Ex s t∧BF qs t ys ∧
  ∀ m,t.refs.getD m 0≠s.refs.getD m 0→∃ x∈qs,x.2.ino=(m:Int)∧∃ a r,x.2.names=S++a::r
|[],s,_,h,hb=>⟨s,rfl,h,hb,.rfl,(by intro j hj;cases hj),fun m hm=>absurd rfl hm⟩
|z::r,s,hk,h,hb=>by
   obtain⟨k,q,rfl,hq,hn⟩:=sX (hk z (by simp));have g:=IH k q s hq (by rw[hn];simp) h hb;obtain⟨t,e,i1,i2,i3,i4,i5⟩:=CF IH r (wr k s) (fun y hy=>hk y (by simp[hy])) g.inv g.bl;have hnd:=eH hq;have hset:0<t.refs.getD q.2.ino.toNat 0:=by rw[i3.r _ g.set];exact g.set
   refine⟨t,?_,i1,i2,g.ex.trans i3,?_,fun m hm=>?_⟩
   · show ((wrK wr qs r (wr k s)).1,(bC (ndB qs k).names,(ndB qs k).kind,(wr k s).refs.getD (ndB qs k).ino.toNat 0-1)::(wrK wr qs r (wr k s)).2)=_
     rw[e];refine Uh rfl ?_;show _::jU qs t r=(bC (ndB qs k).names,(ndB qs k).kind,t.refs.getD (ndB qs k).ino.toNat 0-1)::jU qs t r;rw[hnd,i3.r _ g.set]
   · intro j hj
     rcases St.1 hj with rfl|hj
     ·rw[hnd];exact hset
     ·exact i4 j hj
   · by_cases hc:t.refs.getD m 0=(wr k s).refs.getD m 0
     · obtain⟨x,hx,h1,y,h2⟩:=g.ch m (by rw[←hc];exact hm)
       obtain⟨a,ha⟩:∃ a,a=bC q.2.names:=⟨_,rfl⟩
       rw[←ha] at hn;exact⟨x,hx,h1,a,y,by rw[h2,hn];simp⟩
     ·exact i5 m hc
include I F in
theorem CI:∀ (n:Nat) (k:Nat) (q:NdH×Nd) (s:BSt),qs[k]?=some q→17≤q.2.names.length+n→jV qs ids fs.files s→BlI s→GdW qs ids fs.files s (wrB qs ids fs.files n k s) q.2
|0,k,q,s,hq,hd,h,hb=>by
   have:=G.dep q (Sd hq);omega
|n+1,k,q,s,hq,hd,h,hb=>by
   have hqm:=Sd hq;have hi:=G.ino q hqm;have hn40:=G.n.2;obtain⟨m,hm⟩:=Tq (show 0≤q.2.ino by omega);have hmt:q.2.ino.toNat=m:=by omega
   have hX:=(G.may q hqm).2.2.2.2.2.2.2.2;obtain⟨k1,k3⟩:=(G.may q hqm).1;rw[E6 n s hq hm];have one:∀ (s':BSt) (i:Ino),jV qs ids fs.files s'→s'.lst.length≤10440*(s'.many+1)→s'.refs.getD m 0=0→Ex s s'→KiI qs fs.files s' q.2 i →
    (∀ xr,0≤xr→xr≤4294967295→iW (inB qs ids k i xr).1 (inB qs ids k i xr).2)→(∀ a,s'.refs.getD a 0≠s.refs.getD a 0→∃ x∈qs,x.2.ino=(a:Int)∧∃ r,x.2.names=q.2.names++r)→GdW qs ids fs.files s (dT qs ids k i s') q.2:=by
    intro s' i hI hl h0 he hk hmay hch;obtain⟨f1,f2,f3,f4,f5,f6⟩:=GT hI hq hm (by omega) h0 hX hk hmay hn40;refine⟨f1,by unfold BlI;rw[f5,f6];exact hl,he.trans f2,by rw[hmt];exact f3,fun a ha=>?_⟩;by_cases e:a=m
    ·exact⟨q,hqm,by rw[e];exact hm,[],by simp⟩
    ·rw[f4 a e] at ha;exact hch a ha
   by_cases c0:0<s.refs.getD m 0
   · rw[R4 c0]
     exact⟨h,hb,.rfl,by rw[hmt];exact c0,fun a ha=>absurd rfl ha⟩
   · rw[R3 c0]
     have h0:s.refs.getD m 0=0:=by have:=h.rn m;omega
     have hbl:s.lst.length≤10440*(s.many+1):=by have:s.lst.length≤10440*s.many:=hb;omega
     have hno:∀ a,s.refs.getD a 0≠s.refs.getD a 0→∃ x∈qs,x.2.ino=(a:Int)∧∃ r,x.2.names=q.2.names++r:=fun a ha=>absurd rfl ha;by_cases c2:q.2.kind=2
     · rw[R4 c2]
       have e:fs.files.getD m bW=fs.files.getD q.2.ino.toNat bW:=by rw[hmt]
       exact one s _ h hbl h0 .rfl ⟨fun _=>e,fun h=>by omega,fun h=>by omega⟩ (fun xr a b=>yE G I F hq ⟨a,b⟩ (fun _=>e) (fun h=>by omega) (fun h=>by omega)) hno
     · rw[R3 c2]
       by_cases c3:q.2.kind=3
       · rw[R4 c3]
         exact one s _ h hbl h0 .rfl ⟨fun h=>by omega,fun _=>rfl,fun h=>by omega⟩ (fun xr a b=>yE G I F hq ⟨a,b⟩ (fun h=>by omega) (fun _=>rfl) (fun h=>by omega)) hno
       · rw[R3 c3,R4 (by omega)]
         have c1:q.2.kind=1:=by omega
         obtain⟨t,e,i1,i2,i3,i4,i5⟩:=CF (S:=q.2.names) (ids:=ids) (fs:=fs) G (wr:=wrB qs ids fs.files n) (fun k' q' s' hq' hl h' hb'=>CI n k' q' s' hq' (by omega) h' hb') (aZ qs q.2.names qs.length) s (fun _ hz=>hz) h hb;rw[e];have hch:cF [] (jU qs t (aZ qs q.2.names qs.length)):=wR G i1 _ _ (fun _ hz=>hz) (kE _) i4 (fun z hz=>by
          obtain⟨k',q',rfl,hq',hn'⟩:=sX hz;rw[eH hq'];have hv:=(jG (G.nmv q' (Sd hq') (bC q'.2.names) (by rw[hn'];simp[bC]))).2.1;cases hc:bC q'.2.names with
         |nil=>exact absurd hc hv
         |cons a r=>rfl)
         have hp:=(Hc hch).1;have hlen:=G1 (s:=t) G (S:=q.2.names);simp only;rw[hp];simp only;obtain⟨B,hB⟩:∃ B,B=bK (jU qs t (aZ qs q.2.names qs.length)):=⟨_,rfl⟩
         rw[←hB] at hlen ⊢;have hex:Ex t { t with lst:=t.lst++B }:=⟨⟨[],by simp⟩,⟨_,rfl⟩,⟨[],by simp⟩,fun _ _=>rfl⟩
         obtain⟨u,hu⟩:∃ u,u = { t with lst:=t.lst++B }:=⟨_,rfl⟩
         rw[←hu] at hex ⊢;have u1:u.ino=t.ino:=by rw[hu]
         have u2:u.refs=t.refs:=by rw[hu]
         have u3:u.fur=t.fur:=by rw[hu]
         have u4:u.sets=t.sets:=by rw[hu]
         have u5:u.many=t.many:=by rw[hu]
         have u6:u.lst=t.lst++B:=by rw[hu]
         have hIu:jV qs ids fs.files u:=⟨fun a ha=>by rw[u2] at ha;exact(i1.std a ha).ex ha hex,by rw[u2];exact i1.rl,fun a=>by rw[u2];exact i1.rn a,fun y hy=>by rw[u4] at hy;rw[u3];exact i1.sets y hy,by rw[u5,i1.many];unfold qE;rw[u2],fun a b=>by rw[u2];exact i1.dist a b,by rw[u1,u5];exact i1.bi,by rw[u3,u5];exact i1.bf,by rw[u4,u5];exact i1.sn,fun y hy=>i1.sh y (by rw[←u4];exact hy)⟩
         have ht0:u.refs.getD m 0=0:=by
          rw[u2];apply Se;intro hne;obtain⟨x,hx,hxi,a,r,hxn⟩:=i5 m (by rw[h0];exact hne);obtain⟨j,hj⟩:=Sr hx;by_cases ej:k=j
          · subst ej;rw[hq] at hj;cases hj
            have:=congrArg SJ hxn;simp at this
          ·exact(G.lnk k j q x ej hq hj (by omega)).1 c1
         have hd1:EG t B=Je u t.lst.length (bK (jU qs u (aZ qs q.2.names qs.length))).length:=by
          have e1:jU qs u (aZ qs q.2.names qs.length)=jU qs t (aZ qs q.2.names qs.length):=yV i4 hex;rw[e1,←hB];unfold EG Je;rw[u6,dY (Sa _)]
         have hki:KiI qs fs.files u q.2 (EG t B):=⟨fun h=>by omega,fun h=>by omega,fun _=>⟨i4.ex hex,t.lst.length,hd1,by
          rw[yV i4 hex,←hB,u6];exact .new _ _⟩⟩
         have hm41:=i1.many41 hn40;have hlt:t.lst.length≤10440*t.many:=i2;refine one u _ hIu (by rw[u6,u5,R6];omega) ht0 (i3.trans hex) hki (fun xr a b=>yE G I F hq ⟨a,b⟩ (fun h=>by omega) (fun h=>by omega) (fun _=>⟨bI t.lst t.lst.length,B.length,rfl,?_,by omega⟩)) (fun a ha=>?_)
         · have:=oV t.lst (t.lst.length/128)
           unfold bI;omega
         · rw[u2] at ha
           obtain⟨x,hx,h1,b,r,h2⟩:=i5 a ha;exact⟨x,hx,h1,b::r,h2⟩
omit G in
theorem NL:jV qs ids fs.files (mK (qs.length+1))∧BlI (mK (qs.length+1)):=by
 have hz:∀ m,(mK (qs.length+1)).refs.getD m 0=0:=fun m=>by
  show (Sy (qs.length+1) (0:Int)).getD m 0=0;rw[Sj,List.getElem?_replicate]
  split<;>rfl
 refine⟨⟨fun m hm=>?_,SP,fun m=>by rw[hz];exact Uu _,(by intro y hy;cases hy),?_,fun m n hm=>?_,Sf _,Sf _,Sf _,(by intro y hy;cases hy)⟩,Sf _⟩
 ·rw[hz] at hm;exact absurd hm (by decide)
 · show 0=(List.filter _ (Sy (qs.length+1) (0:Int))).length
   rw[List.filter_replicate];simp
 ·rw[hz] at hm;exact absurd hm (by decide)
include I F in
theorem lE:∃ S,wrB qs ids fs.files 17 0 (mK (qs.length+1))=S∧jV qs ids fs.files S∧BlI S∧∀ q∈qs,0<S.refs.getD q.2.ino.toNat 0:=by
 obtain⟨r,hr,hr1,hr2⟩:=G.root;obtain⟨a,b⟩:=NL (qs:=qs) (ids:=ids) (fs:=fs);have g:=CI G I F 17 0 r (mK (qs.length+1)) hr (by omega) a b;refine⟨_,rfl,g.inv,g.bl,?_⟩;obtain⟨S,hS⟩:∃ S,S=wrB qs ids fs.files 17 (0:Nat) (mK (qs.length+1)):=⟨_,rfl⟩
 rw[←hS] at g;show ∀ q∈qs,0<(wrB qs ids fs.files 17 ((0:Nat):Int) (mK (qs.length+1))).refs.getD q.2.ino.toNat 0;rw[←hS];have key:∀ (d:Nat) (q:NdH×Nd),q∈qs→q.2.names.length=d→0<S.refs.getD q.2.ino.toNat 0:=by
  intro d
  induction d with
 |zero=>
    intro q hq hl;obtain⟨j,hj⟩:=Sr hq;have e:=G.inj hr hj (by rw[hr1,Sg.1 hl]);subst e;rw[hr] at hj;cases hj;exact g.set
 |succ d ih=>
    intro q hq hl;obtain⟨j,hj⟩:=Sr hq;have hne:q.2.names≠[]:=fun e=>by rw[e] at hl;cases hl
    obtain⟨p,hp,hpn,hpk⟩:=G.up q hq hne;have hpos:=ih p hp (by rw[hpn,TN];omega);obtain⟨k',q',i,xr,o,h1,h2,h3,h4,h5,h6,h7⟩:=g.inv.std _ hpos;obtain⟨jp,hjp⟩:=Sr hp;have hpi:=G.ino p hp;have e:k'=jp:=Se fun hne=>(G.lnk jp k' p q' (fun h=>hne h.symm) hjp h1 (by omega)).1 hpk;subst e;rw[h1] at hjp;cases hjp;have hk:=(h7.2.2 hpk).1 (j:Int) (Ko hj hne hpn.symm);rw[eH hj] at hk;exact hk
 exact fun q hq=>key _ q hq rfl
end
end
section
open Go Go.RowKit Go.Maps
theorem uX:∀ (L:List By) (t:By) (s:DS),dB (L++[t]) s=((jT 64 (dB L s).1 t).1,(dB L s).2++[((jT 64 (dB L s).1 t).2:Int)])
|[],t,s=>rfl
|x::r,t,s=>by
   show ((dB (r++[t]) (jT 64 s x).1).1,_::(dB (r++[t]) (jT 64 s x).1).2)=_;rw[uX r t];rfl
theorem Fe{L:List By}(h:zB L)(s:DS):(dB L s).1.B.length≤s.B.length+135*L.length:=by
 obtain⟨z,hz,hl⟩:=oG L s;have key:∀ M:List By,zB M→(M.map (fun t=>(cN t).1.length)).sum≤135*M.length:=by
  intro M
  induction M with
 |nil=>intro _;exact Sa _
 |cons x r ih=>
    intro hb;have h1:=ih (fun y hy=>hb y (by simp[hy]));have h2:=hb x (by simp);have h3:=fF (b:=x) h2.2;rw[SV,sum_cons,Sq];omega
 have:=key L h;rw[hz,R6];omega
theorem lR(T:By):(dnW T).length≤135*((T.length+127)/128):=oV T (nF T)
structure Oo (qs:List (NdH×Nd))(ids:List Int):Prop where
 B:(dB (aO qs).tails (aO qs).ds).1.B.length≤200000
 i:(aF qs ids).s.ino.length≤10000
 l:(aF qs ids).s.lst.length≤500000
 f:(aF qs ids).s.fur.length≤200000
 b:bdB (aF qs ids).s
 m:(aF qs ids).s.many≤41
 d:ids.length≤80
 n4:(aK (aF qs ids).pl 4).1.length≤160
 n2:(aK ids 2).1.length≤160
 o1:(eV (aF qs ids)).length≤200000
 o2:(eU (aF qs ids)).length≤400000
 o3:(fH (aF qs ids)).length≤1000000
 o4:(fY (aF qs ids)).length≤1100000
 o5:(gW (aF qs ids) ids).length≤1200000
 o6:(eQ (aF qs ids) ids).length≤1500000
theorem vL(l:List Int)(w:Nat)(hw:w24 w)(h:inW w l):(aK l w).1.length=w*l.length:=by rw[Al hw h,I9]
theorem DE{qs:List (NdH×Nd)}{ids:List Int}(G:GdT qs)(I:pJ qs ids):Oo qs ids:=by
 have F:=yS (qs:=qs) (fun q hq=>⟨G.ino q hq,(G.may q hq).2.2.2.2.2.2.1⟩);obtain⟨S,e,hI,hB,_⟩:=lE G I F;have e:(aF qs ids).s=S:=e;have hn:=G.n.2;have h41:=hI.many41 hn;have hid:=nO I;have h1:=hI.bi;have h2:S.lst.length≤10440*S.many:=hB;have h3:=hI.bf;have h4:=hI.sn;have hT:=F.tn;have hFB:=F.b;rw[SC] at hT hFB;have hb:=Fe F.t (aO qs).ds;have hpl:=jZ (aO qs).tails (aO qs).ds;have hpi:inW 4 (aF qs ids).pl:=by
  intro x hx;obtain⟨j,hj,rfl⟩:=S8 hx;have hj2:j<(aO qs).tails.length:=by have:j<(dB (aO qs).tails (aO qs).ds).2.length:=hj;omega
  obtain⟨pre,rest,a1,a2⟩:=CN (aO qs).tails (aO qs).ds j hj2;have e:(aF qs ids).pl[j]=(dB (aO qs).tails (aO qs).ds).2.getD j 0:=by
   have e2:(aF qs ids).pl=(dB (aO qs).tails (aO qs).ds).2:=rfl;rw[Sj,←e2,R7 hj];rfl
  have a3:=congrArg SJ a1;rw[R6] at a3;rw[e,a2];refine⟨by omega,?_⟩;show (64:Int)+pre.length<4294967296;omega
 have hii:inW 2 ids:=by
  intro x hx;have h:=(I.2 x).1 hx;unfold gU at h;obtain⟨q,hq,h1⟩:=Ua.1 h;obtain⟨_,_,_,m2,m3,_⟩:=G.may q hq;simp only[St,SD,or_false] at h1;refine⟨by rcases h1 with rfl|rfl<;>omega,?_⟩;show x<65536;rcases h1 with rfl|rfl<;>omega
 have hp4:(aK (aF qs ids).pl 4).1.length=4*(aF qs ids).pl.length:=vL _ 4 (.inr rfl) hpi;have hp2:(aK ids 2).1.length=2*ids.length:=vL _ 2 (.inl rfl) hii;have hpl2:(aF qs ids).pl.length=(aO qs).tails.length:=hpl;have d1:=lR (aF qs ids).s.ino;have d2:=lR (aF qs ids).s.lst;have d3:=lR (aK (aF qs ids).pl 4).1;have d4:=lR (aK ids 2).1;have d5:=lR (aF qs ids).s.fur;rw[e] at d1 d2 d5;rw[hp4] at d3;rw[hp2] at d4;have l1:(eV (aF qs ids)).length=(dB (aO qs).tails (aO qs).ds).1.B.length:=rfl;have l2:(eU (aF qs ids)).length=(eV (aF qs ids)).length+(dnW (aF qs ids).s.ino).length:=R6;have l3:(fH (aF qs ids)).length=(eU (aF qs ids)).length+(dnW (aF qs ids).s.lst).length:=R6;have l4:(fY (aF qs ids)).length=(fH (aF qs ids)).length+(dnW (aK (aF qs ids).pl 4).1).length:=R6;have l5:(gW (aF qs ids) ids).length=(fY (aF qs ids)).length+(dnW (aK ids 2).1).length:=R6;have l6:(eQ (aF qs ids) ids).length=(gW (aF qs ids) ids).length+(dnW (aF qs ids).s.fur).length:=R6;rw[e] at l2 l3 l6;refine⟨by omega,by rw[e];omega,by rw[e];omega,by rw[e];omega,by rw[e];exact⟨by omega,by omega,by omega,by omega,by omega⟩,by rw[e];omega,by omega,by omega,by omega,by omega,by omega,by omega,by omega,by omega,by omega⟩
def fs0(n:Nat):FSt:=⟨⟨[],[]⟩,[],Sy n bW⟩
theorem fi0(n:Nat):FI [] n (fs0 n):=⟨uH.zero,(by intro b hb;cases hb),Sa _,SP,Sa _,fun i f hf=>.inl (Uy (Sd hf)),(by intro x hx;cases hx)⟩
theorem GZ{V:List Nd}{n:Nat}{s:FSt}(h:FI V n s):∀ f∈s.files,f.2.length≤200:=by
 intro f hf;obtain⟨i,hi⟩:=Sr hf;rcases h.f i f hi with e|⟨x,_,_,_,st,fr,off,e,_⟩
 ·rw[e];exact Sf _
 ·rw[e];exact Sf _
theorem Ga{qs:List (NdH×Nd)}{k:Nat}{q:NdH×Nd}(h:qs[k]?=some q):nds (qs.take (k+1))=nds (qs.take k)++[q.2]:=by rw[tkL h];simp[nds]
theorem GV{qs:List (NdH×Nd)}{k:Nat}{q:NdH×Nd}(h:qs[k]?=some q)(s:FSt):(nds (qs.take (k+1))).foldl cR s=cR ((nds (qs.take k)).foldl cR s) q.2:=by rw[Ga h,Tb];rfl
theorem kH{s:FSt}{x:Nd}(h:x.kind≠2∨(s.files.getD x.ino.toNat bW).1 0=2):cR s x=s:=by unfold cR;rw[R4 h]
def BuP(W:World)(ps:List (NdH×Nd)):Value→World→Prop:=fun v w'=>
 (chk (nds ps)≠0∧v=.tuple #[sN,iV (chk (nds ps))]∧aA nob W w') ∨
 (chk (nds ps)=0∧∃ ids o c,pJ (fU ps) ids∧v=.tuple #[.slice o (uP (fU ps) ids).1.length c,iV (uP (fU ps) ids).2]∧Own b8 5 w'.heap o c (uP (fU ps) ids).1∧Fr W.heap.size o∧aA nob W w')
end
section
open Go Go.RowKit Go.Maps
theorem PiX.calm{z:Nat}{a:PiA}{ow:Nat→Nat}{H:Array Obj}{g tp:Nat}{qs:List (NdH×Nd)}{ids:List Int}{files:List Ino}{s:BSt}(h:PiX z a ow H g tp qs ids files s)(hz:z≠1∧z≠2∧z≠3∧z≠5∧z≠7∧z≠8):PiX 0 a ow H g tp qs ids files s:=by
 obtain⟨b0,b1,b2,b3,c1,c2,c3,⟨c4,c5⟩,⟨c6,c7⟩,c8,c9⟩:=h;exact⟨b0,b1,b2,b3,fun _=>c1 hz.1,fun _=>c2 hz.2.1,fun _=>c3 hz.2.2.1,⟨c4,fun _=>c5 hz.2.2.2.1⟩,⟨c6,fun _=>c7 hz.2.2.2.2.1⟩,c8,fun _=>c9 hz.2.2.2.2.2⟩
theorem fZ.mono{D D':Nat→Prop}{H:Array Obj}{p:Nat}{L:List By}(h:fZ D H p L)(hd:∀ k,D k→D' k):fZ D' H p L:=by
 obtain⟨ao,c,bo,c',h1,h2,h3,h4,h5,h6,h7,h8,h9⟩:=h;exact⟨ao,c,bo,c',h1,h2,h3,h4,h5,h6,hd _ h7,fun k hk=>hd k (h8 k hk),fun k hk=>hd k (h9 k hk)⟩
theorem H7{D:Nat→Prop}{H:Array Obj}{hs:List Hd}{L:List By}(h:cG D H hs L):cG (fun k=>D k∧k<H.size) H hs L:=
 ⟨h.1,fun i x y hx hy=>by
  obtain⟨a,b,c⟩:=h.2 i x y hx hy;exact⟨a,b,fun hne k hk=>⟨c hne k hk,by obtain⟨z,hz,e⟩:=hk;have:=b.lt hne z hz;omega⟩⟩⟩
theorem Cz.put{m:List (I6×Value)}{files:List Ino}(h:Cz m files)(x:I6){f:Ino}(hx:1≤x.1)(hl:x.1.toNat<files.length)(hf:f.1 0=2):Cz (bV m x (yJ (fl0 f))) (files.set x.1.toNat f):=by
 intro a ha;rw[gM];by_cases e:a=x
 · subst e
   rw[R4 rfl,Sj,SQ hl];show _=if f.1 0=2 then _ else _
   rw[R4 hf];rfl
 · have hne:¬ a.1.toNat=x.1.toNat:=fun h=>e (Subtype.ext (by omega))
   rw[R3 e,h a ha];have e2:(files.set x.1.toNat f).getD a.1.toNat bW=files.getD a.1.toNat bW:=by
    rw[Sj,S9 (fun h=>hne h.symm)];rfl
   rw[e2]
theorem AT:∀ {L:List By},zB L→L.length≤1048576→L.flatten.length≤1099511627776:=by
 have key:∀ L:List By,zB L→L.flatten.length≤128*L.length:=by
  intro L
  induction L with
 |nil=>intro _;exact Sa _
 |cons x r ih=>
    intro h;have h1:=ih (fun y hy=>h y (by simp[hy]));have h2:=(h x (by simp)).2;rw[List.flatten_cons,R6,Sq];omega
 intro L h hn;have:=key L h;omega
noncomputable def yI (W w':World) (z:Nat) (o:Option Addr) (ow:Nat→Nat):Nat→Nat:=fun k=>open Classical in if k<W.heap.size then ow k else if k<w'.heap.size∧¬ blk o k then z else 0
theorem AG{W w':World}{z:Nat}{o:Option Addr}{ow:Nat→Nat}{k:Nat}(h:k<W.heap.size):yI W w' z o ow k=ow k:=R4 h
theorem Gm{W w':World}{z:Nat}{o:Option Addr}{ow:Nat→Nat}(hs:W.heap.size≤w'.heap.size){k:Nat}(h:w'.heap.size≤k):yI W w' z o ow k=0:=by unfold yI;rw[R3 (by omega),R3 (fun h2=>by have:=h2.1;omega)]
theorem Di{W w':World}{z:Nat}{o:Option Addr}{ow:Nat→Nat}(hn:∀ k,W.heap.size≤k→ow k=0){k:Nat}(h:ow k≠0):yI W w' z o ow k=ow k:=AG (Se fun hc=>h (hn k (by omega)))
theorem Gn{W w':World}{z:Nat}{o:Option Addr}{ow:Nat→Nat}(hf:Fr W.heap.size o){k:Nat}(h:blk o k):yI W w' z o ow k=0:=by
 obtain⟨x,hx,rfl⟩:=id h;have:=hf x hx;unfold yI;rw[R3 (by omega),R3 (fun h2=>h2.2 h)]
theorem IL{W w':World}{z:Nat}{o:Option Addr}{ow:Nat→Nat}(hn:∀ k,W.heap.size≤k→ow k=0)(hz:z≠0){k:Nat}(h:Nx (fun k=>ow k=z) W w' k∧¬ blk o k):yI W w' z o ow k=z:=by
 obtain⟨h,hb⟩:=h;rcases h with h|⟨h1,h2⟩
 ·rw[Di hn (by omega)];exact h
 ·unfold yI;rw[R3 (by omega),R4 ⟨h2,hb⟩]
theorem BP(a:PiA)(ow:Nat→Nat)(g tp:Nat)(qs:List (NdH×Nd))(ids:List Int)(S0:BSt)(dg:Nat)(G:GdT qs)(W:World)(hM:PiX 0 a ow W.heap g tp qs ids (Sy (qs.length+1) bW) S0)(hn:∀ k,W.heap.size≤k→ow k=0)(hD:DwO (fun k=>ow k=9) W.heap dg tp 64 ⟨[],[]⟩) :
 CA 22 [pT g,pT dg] W fun v w'=>∃ o c ow',v=.slice o (dB (aO qs).tails (aO qs).ds).2.length c∧Own i64 3 w'.heap o c (dB (aO qs).tails (aO qs).ds).2∧(∀ k,blk o k→W.heap.size≤k∧ow' k=0)∧PiX 0 a ow' w'.heap g tp qs ids (aO qs).files S0∧DwO (fun k=>ow' k=9) w'.heap dg tp 64 (dB (aO qs).tails (aO qs).ds).1 ∧
  FI (nds qs) (qs.length+1) (aO qs)∧(∀ k,k<W.heap.size→ow' k=ow k)∧(∀ k,w'.heap.size≤k→ow' k=0)∧aA (Lb ow) W w':=by
 have hq40:=G.n.2;have htn:∀ {ow9:Nat→Nat} {H:Array Obj} {files:List Ino} {c:Nat},PiX 0 a ow9 H g tp qs ids files S0→c≠4→¬ ow9 tp=c:=fun h hc e=>by have h4:=h.2.2.2.1.2;rw[h4] at e;exact hc e.symm
 refine cS 86 [(0,_),(1,_)] Tryz.func22 ?_;refine cA 7 NZ (Kh W) ?_;rintro _ w1 ⟨rfl,hP1,hf1,hs1⟩;obtain⟨pg,epg⟩:∃ p,p=W.heap.size:=⟨_,rfl⟩
 rw[←epg] at hP1 ⊢;obtain⟨ow1,eo1⟩:∃ o,o=mD W w1 10 ow:=⟨_,rfl⟩
 have o1n:∀ k,ow k≠0→ow1 k=ow k:=fun k hk=>by rw[eo1];exact fE 10 hn hk
 have o1o:∀ k,k<W.heap.size→ow1 k=ow k:=fun k hk=>by rw[eo1];exact gZ 10 ow hk
 have o1z:∀ k,w1.heap.size≤k→ow1 k=0:=fun k hk=>by rw[eo1];exact iY 10 ow hf1.size hk
 have hM1:PiX 0 a ow1 w1.heap g tp qs ids (Sy (qs.length+1) bW) S0:=hM.step hf1 0 (by decide) (fun k h=>h.elim) o1n;have hD1:DwO (fun k=>ow1 k=9) w1.heap dg tp 64 ⟨[],[]⟩:=(hD.RY hf1).mono (fun k hk=>by have hk:ow k=9:=hk;rw[o1n k (by omega)];exact hk) (htn hM1 (by decide));have hP1:fZ (fun k=>ow1 k=10) w1.heap pg []:=hP1.mono (fun k hk=>by have hk:k=pg:=hk;rw[eo1];exact kW 10 hn (by decide) (.inr ⟨by omega,by omega⟩));refine Gz 9 ?_;refine cL (Ow vH rfl (aD hM1.1.1 rfl)) ?_;refine Gz 5 ?_;refine Oy (β:=Nat×(FSt×(Nat→Nat))) (fun⟨k,⟨s,ow9⟩⟩=>[(0,pT g),(1,pT dg),(5,pT pg),(20,.slice a.lo qs.length a.lc),(21,iV qs.length),(22,iV k)]) (fun⟨k,⟨s,ow9⟩⟩ w=>k≤qs.length∧s=(nds (qs.take k)).foldl cR (fs0 (qs.length+1))∧FI (nds (qs.take k)) (qs.length+1) s∧PiX 0 a ow9 w.heap g tp qs ids s.files S0∧DwO (fun k=>ow9 k=9) w.heap dg tp 64 s.ds∧fZ (fun k=>ow9 k=10) w.heap pg s.tails∧(∀ k,k<W.heap.size→ow9 k=ow k)∧(∀ k,w.heap.size≤k→ow9 k=0)∧aA (Lb ow) W w) (fun⟨k,⟨s,ow9⟩⟩=>qs.length-k) ⟨0,⟨fs0 (qs.length+1),ow1⟩⟩ ⟨rfl,rfl,rfl,rfl,rfl,rfl,trivial⟩ ⟨Sf _,rfl,fi0 _,hM1,hD1,hP1,o1o,o1z,hf1.any⟩ ?_;rintro⟨k,⟨s,ow9⟩⟩ w9 ⟨hk,hs,hFI,hM,hD9,hP9,hl9,hn9,hF9⟩;refine fK 2 ?_ ?_<;>intro h23
 ·have hkl:k<qs.length:=by omega
  obtain⟨q,hq⟩:∃ q,qs[k]?=some q:=⟨_,R7 hkl⟩
  have hqm:=Sd hq;have hqi:=G.ino q hqm;obtain⟨m,hm⟩:=Tq (show 0≤q.2.ino by omega);have htm:q.2.ino.toNat=m:=by omega
  have hib : -9223372036854775808≤q.2.ino∧q.2.ino≤9223372036854775807:=by omega
  have hml:m<s.files.length:=by rw[hFI.l];omega
  have hdat:q.2.data.length≤4096:=(G.may q hqm).2.2.2.2.2.2.1;have hnd:=hM.2.1.1;obtain⟨⟨hg9,hg96⟩,_,_,_,_,_,_,_,⟨f97,f91⟩,_⟩:=id hM;obtain⟨mf,hmf,hFM⟩:=f91 (by decide);have hfv:=hFM ⟨q.2.ino,hib⟩ hqi.1;rw[show (⟨q.2.ino,hib⟩:I6).1.toNat=m from htm] at hfv;obtain⟨R0,hR0⟩:∃ R0:Ino,R0=if (s.files.getD m bW).1 0=2 then fl0 (s.files.getD m bW) else bW:=⟨_,rfl⟩
  have hfe:(bL mf ⟨q.2.ino,hib⟩).getD (yJ bW)=yJ R0:=by rw[hfv,hR0];split<;>rfl
  have hfs:decide ((bL mf ⟨q.2.ino,hib⟩).isSome=true)=decide ((s.files.getD m bW).1 0=2):=by
   rw[hfv];by_cases h:(s.files.getD m bW).1 0=2
   ·rw[R4 h,R8 h];rfl
   ·rw[R3 h,R5 h];rfl
  have hs2:=GV hq (fs0 (qs.length+1));rw[←hs] at hs2;have hFI2:=AX hFI (x:=q.2) ⟨by omega,by omega⟩ hdat;rw[←Ga hq] at hFI2;refine Gz 6 ?_;refine O1 (β:=FSt×(Nat→Nat)) (fun⟨s,ow9⟩=>[(0,pT g),(1,pT dg),(5,pT pg),(20,.slice a.lo qs.length a.lc),(21,iV qs.length),(22,iV k)]) (fun⟨s,ow9⟩ w=>s=(nds (qs.take (k+1))).foldl cR (fs0 (qs.length+1))∧FI (nds (qs.take (k+1))) (qs.length+1) s∧PiX 0 a ow9 w.heap g tp qs ids s.files S0∧DwO (fun k=>ow9 k=9) w.heap dg tp 64 s.ds∧fZ (fun k=>ow9 k=10) w.heap pg s.tails∧(∀ k,k<W.heap.size→ow9 k=ow k)∧(∀ k,w.heap.size≤k→ow9 k=0)∧aA (Lb ow) W w) ?_ ?_
  ·refine Gz 3 ?_;refine cL (OA gL rfl rfl hnd.1.non (by omega)) ?_;refine cL (OG (cs:=aH q) aX rfl (fun j v hj=>hnd.1.rowZ k rfl hq j v hj)) ?_;refine Ov fS rfl ?_;intro w10 hg10 hs10 hf10;obtain⟨d,ed⟩:∃ d,d=w9.heap.size:=⟨_,rfl⟩
   rw[←ed] at hg10 ⊢;refine OD (vs:=aH q) aX rfl rfl (aB q).2 hg10 rfl ?_;intro w11 hd11 hs11 hf11;have hs10b:w10.heap.size=w9.heap.size+1:=hs10;have hs11b:w11.heap.size=w10.heap.size:=hs11;have hf911:aA nob w9 w11:=hf10.tw hf11;have hg11:=hf911.obj hg9 id;have hmf11:=hmf.RZ hf911 id;refine Gz 1 ?_;refine aW [(0,_),(1,_),(5,_),(7,_),(20,_),(21,_),(22,_),(23,_)] ?_;refine Gz 3 ?_;refine OI 13 (fun H=>H[g]?=some (.cells (piC a qs.length ids.length).toArray 62 (0,0))∧H[d]?=some (.cells (aH q).toArray 37 (0,0))∧cC enI H a.f mf) [10,11] [0,1,2,3,4,5,6,7,8,9,10,11,12] aM (by kernel_rfl) (⟨hg11,hd11,hmf11⟩) ?_;refine Gz 6 ?_;refine xC rfl (Ox (u:=.tuple [yJ R0,.bool (decide ((s.files.getD m bW).1 0=2))].toArray) (O6 mpF qH (a:=⟨q.2.ino,hib⟩) rfl rfl (fun H hH=>hH.2.2)) (by rw[hfe,hfs])) ?_;refine Gz 3 ?_;refine OE rfl rfl (Ov EZ rfl ?_);intro w12 hg12 hs12 hf12;have hf12:=hf12.RW;refine OK (by exact⟨hf12.obj hg11 id,hf12.obj hd11 id,hmf11.RZ hf12 id⟩) ?_;refine OE rfl rfl (OD (vs:=Et R0) qB rfl rfl (tC _ _) hg12 rfl ?_);intro w13 hc13 hs13 hf13;have hs12b:w12.heap.size=w11.heap.size+1:=hs12;have hs13b:w13.heap.size=w12.heap.size:=hs13;have hf1113:aA nob w11 w13:=hf12.tw hf13;refine OK (by exact⟨hf1113.obj hg11 id,hf1113.obj hd11 id,hmf11.RZ hf1113 id⟩) ?_;have hf913:=hf911.trans hf1113;have hd13:=hf1113.obj hd11 id;have hn13:∀ k,w13.heap.size≤k→ow9 k=0:=fun k hk=>hn9 k (by omega);refine Gz 5 ?_;refine OZ (OP (Oz rfl)) rfl (fun h36=>?_) (fun h36=>?_)
   ·have h36:=of_decide_eq_true h36;have hsk:cR s q.2=s:=kH (.inr (by rw[htm];exact h36));rw[hsk] at hs2 hFI2;refine Gz 11 ?_;exact aC ⟨s,ow9⟩ ⟨hs2.symm,hFI2,hM.RY hf913,hD9.RY hf913,hP9.RZ hf913 (fun _ _=>id),hl9,hn13,hF9.trans hf913.any⟩
   have h36:¬ (s.files.getD m bW).1 0=2:=fun h=>h36 (R8 h);refine fW 3 ?_ ?_<;>intro h40
   ·have hsk:cR s q.2=s:=kH (.inl h40);rw[hsk] at hs2 hFI2;refine Gz 7 ?_;exact aC ⟨s,ow9⟩ ⟨hs2.symm,hFI2,hM.RY hf913,hD9.RY hf913,hP9.RZ hf913 (fun _ _=>id),hl9,hn13,hF9.trans hf913.any⟩
   have hk2:q.2.kind=2:=S5.1 h40;have hnf:¬ (q.2.kind≠2∨(s.files.getD q.2.ino.toNat bW).1 0=2):=by rw[htm];rintro(h|h);exact h hk2;exact h36 h
   obtain⟨R1,hR1⟩:∃ R,R=dA 64 s.ds q.2.data:=⟨_,rfl⟩
   obtain⟨R2,hR2⟩:∃ R,R=eW s.tails (bH q.2.data):=⟨_,rfl⟩
   obtain⟨fN,hfN⟩:∃ f:Ino,f=(fun j=>[2,0,0,0,0,0,(R1.2:Int),q.2.data.length,(R2.2.1:Int),(R2.2.2:Int)].getD j 0,[]):=⟨_,rfl⟩
   have hsn:cR s q.2=⟨R1.1,R2.1,s.files.set m fN⟩:=by unfold cR;rw[R3 hnf,←hR1,←hR2,hfN,htm]
   rw[hsn] at hs2 hFI2;have hdv:=(hnd.2 q hqm).2.1;have hdn:q.1.data.n=q.2.data.length:=hdv.1;refine Gz 9 ?_;refine cL (Ox (u:=.slice q.1.data.a q.2.data.length q.1.data.c) (Ow aT rfl (aD hd13 rfl)) (by rw[←hdn];rfl)) ?_;refine Gz 1 ?_;refine cL (bU (bG (fun j=>if j=7 then (q.2.data.length:Int) else 0) []) Lf EZ) ?_;refine Ov EZ rfl ?_;intro w14 hg14 hs14 hf14;obtain⟨e,ee⟩:∃ d,d=w13.heap.size:=⟨_,rfl⟩
   rw[←ee] at hg14 ⊢;refine sA rfl qB (tC _ _) hg14 ?_;intro w15 he15 hs15 hf15;have hs14b:w14.heap.size=w13.heap.size+1:=hs14;have hs15b:w15.heap.size=w14.heap.size:=hs15;have hf915:aA nob w9 w15:=(hf913.trans hf14).tw hf15;have hf1315:aA nob w13 w15:=hf14.tw hf15;have hd15:=hf1315.obj hd13 id;have hM15:=hM.RY hf915;have hD15:=hD9.RY hf915;have hP15:=hP9.RZ hf915 (fun _ _=>id);have hn15:∀ k,w15.heap.size≤k→ow9 k=0:=fun k hk=>hn9 k (by omega);have hel:ow9 e=0:=hn9 e (by omega);have hdl:ow9 d=0:=hn9 d (by omega);refine Gz 6 ?_;refine cL (Ox (u:=.slice q.1.data.a q.2.data.length q.1.data.c) (Ow aT rfl (aD hd15 rfl)) (by rw[←hdn];rfl)) ?_;refine Ot NY rfl (Hf (fun k=>ow9 k=9) dg tp 64 s.ds q.1.data.a q.1.data.c q.2.data w15 hD15 (hdv.2.1.RY hf915) (by decide) (by have:=hFI.b;rw[SC,Sh] at this;omega) (by omega)) rfl ?_;rw[←hR1];rintro _ w16 ⟨o16,c16,rfl,ho16,hfr16,hD16,hf16⟩;have hz16:=hf16.size;obtain⟨ow16,eo16⟩:∃ o,o=yI w15 w16 9 o16 ow9:=⟨_,rfl⟩
   have o16n:∀ k,ow9 k≠0→ow16 k=ow9 k:=fun k hk=>by rw[eo16];exact Di hn15 hk
   have o16o:∀ k,k<w15.heap.size→ow16 k=ow9 k:=fun k hk=>by rw[eo16];exact AG hk
   have o16z:∀ k,w16.heap.size≤k→ow16 k=0:=fun k hk=>by rw[eo16];exact Gm hz16 hk
   have o16b:∀ k,blk o16 k→ow16 k=0:=fun k hk=>by rw[eo16];exact Gn hfr16 hk
   have hM16:PiX 0 a ow16 w16.heap g tp qs ids s.files S0:=(hM15.step hf16 9 (by decide) (fun k hk=>.inl hk) o16n).calm (by decide);have hD16:DwO (fun k=>ow16 k=9) w16.heap dg tp 64 R1.1:=hD16.mono (fun k hk=>by rw[eo16];exact IL hn15 (by decide) hk) (htn hM16 (by decide));have hP16:fZ (fun k=>ow16 k=10) w16.heap pg s.tails:=(hP15.RZ hf16 (fun k hk h=>by have hk:ow9 k=10:=hk;have h:ow9 k=9:=h;omega)).mono (fun k hk=>by have hk:ow9 k=10:=hk;rw[o16n k (by omega)];exact hk);have he16:=hf16.obj he15 (fun h=>by have h:ow9 e=9:=h;omega);have hd16:=hf16.obj hd15 (fun h=>by have h:ow9 d=9:=h;omega);have hel16:ow16 e=0:=by rw[o16o e (by omega)];exact hel
   have hF16:aA (Lb ow) W w16:=jM hl9 (hF9.trans hf915.any) (hf16.mono (fun k h=>by have h:ow9 k=9:=h;unfold Lb;omega));refine Gz 11 ?_;refine OF aL rfl rfl rfl he16 rfl ?_;intro w17 he17 hs17 hf17;have hs17b:w17.heap.size=w16.heap.size:=hs17;have ke:∀ k,k=e→ow16 k=0:=fun k h=>by rw[h];exact hel16
   have hM17:=hM16.step hf17 0 (by decide) (fun k hk=>.inr (ke k hk)) (fun _ _=>rfl);have hD17:=hD16.RZ hf17 (fun k hk h=>by have:=ke k h;omega) (fun h=>by have:=ke tp h;rw[hM16.2.2.2.1.2] at this;omega);have hP17:=hP16.RZ hf17 (fun k hk h=>by have:=ke k h;have hk:ow16 k=10:=hk;omega);have hd17:=hf17.obj hd16 (show ¬ d=e by omega);have hfr16l:=ho16.lt;have ho17:=ho16.RZ hf17 (fun x hx h=>by have h:x.block=e:=h;have:=hfr16 x hx;omega);have hF17:=hF16.RV hf17 (fun k h=>.inr (by have h:k=e:=h;have:=hF9.size;omega));refine Gz 6 ?_;refine Ot NX rfl (KT (fun k=>ow16 k=10) pg s.tails o16 c16 (bH q.2.data) w17 hP17 (fun k hk=>Se fun hc=>by have:=o16z k (by omega);have hk:ow16 k=10:=hk;omega) ho17.vw (fun _ x hx h=>by have h:ow16 x.block=10:=h;rw[o16b _ ⟨x,hx,rfl⟩] at h;omega) (AT hFI.t (by have:=hFI.tn;rw[SC,Sh] at this;omega)) (by have:=hFI.tn;rw[SC,Sh] at this;omega)) rfl ?_;rw[←Jt,←hR2];rintro _ w18 ⟨rfl,D18,hP18,hD18a,hD18b,hf18⟩;have hz18:=hf18.size;have hn17:∀ k,w17.heap.size≤k→ow16 k=0:=fun k hk=>o16z k (by omega);obtain⟨ow18,eo18⟩:∃ o,o=mD w17 w18 10 ow16:=⟨_,rfl⟩
   have o18n:∀ k,ow16 k≠0→ow18 k=ow16 k:=fun k hk=>by rw[eo18];exact fE 10 hn17 hk
   have o18o:∀ k,k<w17.heap.size→ow18 k=ow16 k:=fun k hk=>by rw[eo18];exact gZ 10 ow16 hk
   have o18z:∀ k,w18.heap.size≤k→ow18 k=0:=fun k hk=>by rw[eo18];exact iY 10 ow16 hz18 hk
   have hM18:PiX 0 a ow18 w18.heap g tp qs ids s.files S0:=(hM17.step hf18 10 (by decide) (fun k hk=>.inl hk) o18n).calm (by decide);have hD18:DwO (fun k=>ow18 k=9) w18.heap dg tp 64 R1.1:=(hD17.RZ hf18 (fun k hk h=>by have hk:ow16 k=9:=hk;have h:ow16 k=10:=h;omega) (htn hM17 (by decide))).mono (fun k hk=>by have hk:ow16 k=9:=hk;rw[o18n k (by omega)];exact hk) (htn hM18 (by decide));have hP18:fZ (fun k=>ow18 k=10) w18.heap pg R2.1:=hP18.mono (fun k hk=>by rw[eo18];exact kW 10 hn17 (by decide) ((hD18a k hk).imp id (fun h=>⟨h,hD18b k hk⟩)));have he18:=hf18.obj he17 (fun h=>by have h:ow16 e=10:=h;omega);have hd18:=hf18.obj hd17 (fun h=>by have h:ow16 d=10:=h;rw[o16o d (by omega)] at h;omega);have hel18:ow18 e=0:=by rw[o18o e (by omega)];exact hel16
   have l16:∀ k,k<W.heap.size→ow16 k=ow k:=fun k hk=>by rw[o16o k (by have:=hF9.size;omega)];exact hl9 k hk
   have l18:∀ k,k<W.heap.size→ow18 k=ow k:=fun k hk=>by rw[o18o k (by have:=hF9.size;omega)];exact l16 k hk
   have hF18:aA (Lb ow) W w18:=jM l16 hF17 (hf18.mono (fun k h=>by have h:ow16 k=10:=h;unfold Lb;omega));have ke18:∀ k,k=e→ow18 k=0:=fun k h=>by rw[h];exact hel18
   refine Gz 4 ?_;refine OF aL rfl rfl rfl he18 rfl ?_;intro w19 he19 hs19 hf19;have hs19b:w19.heap.size=w18.heap.size:=hs19;refine Gz 1 ?_;refine OF aL rfl rfl rfl he19 rfl ?_;intro w20 he20 hs20 hf20;have hs20b:w20.heap.size=w19.heap.size:=hs20;have hf1820:aA (· = e) w18 w20:=hf19.trans hf20;have hM20:=hM18.step hf1820 0 (by decide) (fun k hk=>.inr (ke18 k hk)) (fun _ _=>rfl);have hD20:=hD18.RZ hf1820 (fun k hk h=>by have:=ke18 k h;omega) (fun h=>by have:=ke18 tp h;rw[hM18.2.2.2.1.2] at this;omega);have hP20:=hP18.RZ hf1820 (fun k hk h=>by have:=ke18 k h;have hk:ow18 k=10:=hk;omega);have hd20:=hf1820.obj hd18 (show ¬ d=e by omega);have hF20:=hF18.RV hf1820 (fun k h=>.inr (by have h:k=e:=h;have:=hF9.size;omega));have he20:w20.heap[e]?=some (.cells (Et (fl0 fN)).toArray 88 (0,0)):=by rw[hfN];exact he20
   obtain⟨⟨hg20,_⟩,_,_,_,_,_,_,_,⟨f207,f201⟩,_⟩:=id hM20;obtain⟨mf20,hmf20,hFM20⟩:=f201 (by decide);refine Gz 2 ?_;refine OI 7 (fun H=>H[g]?=some (.cells (piC a qs.length ids.length).toArray 62 (0,0))∧H[d]?=some (.cells (aH q).toArray 37 (0,0))∧H[e]?=some (.cells (Et (fl0 fN)).toArray 88 (0,0))) [7] [0,1,2,3,4,5,6,7] aM (by kernel_rfl) (⟨hg20,hd20,he20⟩) ?_;refine Gz 6 ?_;refine xC rfl (P2 (cs:=Et (fl0 fN)) qB rfl (fun H hH=>bO hH.2.2 0 rfl)) ?_;refine OE rfl rfl (OS mpF qH (a:=(⟨q.2.ino,hib⟩:I6)) rfl rfl rfl hmf20 ?_);intro w21 hm21 hs21 hf21;refine O8 rfl ?_;have hf21:aA (· = a.f) w20 w21:=hf21.RW;have hz21:=hf21.size;have hfp:=hFM20.put ⟨q.2.ino,hib⟩ (f:=fN) (by show (1:Int)≤q.2.ino;omega) (by show q.2.ino.toNat<s.files.length;omega) (by rw[hfN];rfl);rw[show (⟨q.2.ino,hib⟩:I6).1.toNat=m from htm] at hfp;have kf:∀ k,k=a.f→ow18 k=7:=fun k h=>by rw[h];exact f207
   obtain⟨b0,b1,b2,b3,c1,c2,c3,⟨c4,c5⟩,⟨c6,_⟩,c8,c9⟩:=hM20.step hf21 7 (by decide) (fun k hk=>.inl (kf k hk)) (fun _ _=>rfl);have hM21:PiX 0 a ow18 w21.heap g tp qs ids (s.files.set m fN) S0:=⟨b0,b1,b2,b3,fun _=>c1 (by decide),fun _=>c2 (by decide),fun _=>c3 (by decide),⟨c4,fun _=>c5 (by decide)⟩,⟨c6,fun _=>⟨_,hm21,hfp⟩⟩,c8,fun _=>c9 (by decide)⟩
   have hD21:=hD20.RZ hf21 (fun k hk h=>by have:=kf k h;omega) (fun h=>by have:=kf tp h;rw[hM20.2.2.2.1.2] at this;omega);have hP21:=hP20.RZ hf21 (fun k hk h=>by have:=kf k h;have hk:ow18 k=10:=hk;omega);have hF21:aA (Lb ow) W w21:=jM l18 hF20 (hf21.mono (fun k h=>by have:=kf k h;unfold Lb;omega));refine Gz 2 ?_;exact aC ⟨⟨R1.1,R2.1,s.files.set m fN⟩,ow18⟩ ⟨hs2.symm,hFI2,hM21,hD21,hP21,l18,fun k hk=>o18z k (by omega),hF21⟩
  rintro⟨s,ow9⟩ w9 ⟨hs,hFI,hM,hD9,hP9,hl9,hn9,hF9⟩;refine Gz 4 ?_;exact aG ⟨k+1,⟨s,ow9⟩⟩ ⟨by omega,hs,hFI,hM,hD9,hP9,hl9,hn9,hF9⟩ (by show qs.length-(k+1)<qs.length-k;omega)
 have hke:k=qs.length:=by omega
 subst hke;rw[S1] at hs hFI;have hs:s=aO qs:=hs;subst hs;refine Gz 18 ?_;refine Ot NW rfl (ES (fun k=>ow9 k=10) pg (aO qs).tails w9 hP9 (AT hFI.t (by have:=hFI.tn;rw[SC] at this;omega)) (by have:=hFI.tn;rw[SC] at this;omega)) rfl ?_;rintro _ w20 ⟨go,gc,gs,rfl,hgo,hrw,hgfr,hf20⟩;have hz20:=hf20.size;have hrw:=H7 hrw;obtain⟨L,hL⟩:∃ L,L=(aO qs).tails:=⟨_,rfl⟩
 rw[←hL] at hrw;have hgl:=hrw.1;have hLn:L.length≤40:=by have:=hFI.tn;rw[SC] at this;rw[hL];omega
 have hLb:zB L:=by rw[hL];exact hFI.t
 have hdB:(aO qs).ds.B.length≤172800:=by have:=hFI.b;rw[SC] at this;omega
 have hg63:=hgo.vw.RX;have hgol:=hgo.lt;refine Gz 3 ?_;refine aW [(0,_),(1,_),(5,_),(13,_),(20,_),(21,_),(22,_),(23,_),(72,_),(73,_),(74,_)] ?_;refine Gz 2 ?_;refine Oy (β:=(Nat×(DS×List Int))×((Nat→Nat)×(Option Addr×Nat))) (fun⟨⟨j,⟨d9,pl9⟩⟩,⟨ow11,⟨po,pc⟩⟩⟩=>[(1,pT dg),(13,.slice po pl9.length pc),(72,.slice go gs.length gc),(73,iV gs.length),(74,iV j)]) (fun⟨⟨j,⟨d9,pl9⟩⟩,⟨ow11,⟨po,pc⟩⟩⟩ w=>j≤L.length∧dB (L.take j) (aO qs).ds=(d9,pl9)∧PiX 0 a ow11 w.heap g tp qs ids (aO qs).files S0∧DwO (fun k=>ow11 k=9) w.heap dg tp 64 d9∧(∀ k,k<W.heap.size→ow11 k=ow k)∧(∀ k,w.heap.size≤k→ow11 k=0)∧Own i64 3 w.heap po pc pl9∧(∀ k,blk po k→W.heap.size≤k∧ow11 k=0)∧(∀ k,blk po k→¬ (w9.heap.size≤k∧k<w20.heap.size))∧Own hd 25 w.heap go gc gs∧cG (fun k=>w9.heap.size≤k∧k<w20.heap.size) w.heap gs L∧(∀ k,w9.heap.size≤k→k<w20.heap.size→ow11 k=0)∧w20.heap.size≤w.heap.size∧aA (Lb ow) W w) (fun⟨⟨j,⟨d9,pl9⟩⟩,⟨ow11,⟨po,pc⟩⟩⟩=>L.length-j) ⟨⟨0,⟨(aO qs).ds,[]⟩⟩,⟨ow9,⟨none,0⟩⟩⟩ ⟨rfl,rfl,rfl,rfl,rfl,trivial⟩ ⟨Sf _,rfl,hM.RY hf20,hD9.RY hf20,hl9,fun k hk=>hn9 k (by omega),Rr,(fun k ⟨x,hx,e⟩=>by cases hx),(fun k ⟨x,hx,e⟩=>by cases hx),hgo,hrw,fun k h _=>hn9 k h,Sa _,hF9.trans hf20.any⟩ ?_;rintro⟨⟨j,⟨d9,pl9⟩⟩,⟨ow11,⟨po,pc⟩⟩⟩ w11 ⟨hj,htl,hM11,hD11,hl11,hn11,hpo,hpd,hpx,hgo9,hrw9,hz11,hzz,hF11⟩;refine fK 2 ?_ ?_<;>intro h75
 ·have hjl:j<L.length:=by omega
  have hjg:j<gs.length:=by omega
  obtain⟨t,ht⟩:∃ t,L[j]?=some t:=⟨_,R7 hjl⟩
  obtain⟨x,hx⟩:∃ x,gs[j]?=some x:=⟨_,R7 hjg⟩
  obtain⟨hxn,hxv,_⟩:=hrw9.2 j x t hx ht;have htb:=hLb t (Sd ht);have htk:L.take (j+1)=L.take j++[t]:=tkL ht;have hsn:=uX (L.take j) t (aO qs).ds;rw[←htk,htl] at hsn;have hdb9:d9.B.length≤200000:=by have h:=Fe (L:=L.take j) (fun b hb=>hLb b (List.mem_of_mem_take hb)) (aO qs).ds;rw[htl,Sh] at h;have h:d9.B.length≤_:=h;omega
  have hplj:pl9.length=j:=by have h:=jZ (L.take j) (aO qs).ds;rw[htl,Sh] at h;have h:pl9.length=_:=h;omega
  refine Gz 10 ?_;refine cL (Ou rV rfl rfl hgo9.vw.non (by omega)) ?_;refine cL (Ox (u:=.slice x.a t.length x.c) (Ow aT rfl (hgo9.vw.get j x hx)) (by rw[←hxn];rfl)) ?_;refine Gz 2 ?_;refine aW [(1,_),(13,_),(15,_),(72,_),(73,_),(74,_),(75,_)] ?_;refine Gz 5 ?_;refine Ot NV rfl (Cn (fun k=>ow11 k=9) dg tp 64 d9 x.a x.c t w11 hD11 hxv (by decide) (by omega) htb.2) rfl ?_;obtain⟨R,hR⟩:∃ R,R=jT 64 d9 t:=⟨_,rfl⟩
  rw[←hR] at hsn ⊢;rintro _ w12 ⟨rfl,hD12,hf12⟩;have hz12:=hf12.size;obtain⟨ow12,eo12⟩:∃ o,o=mD w11 w12 9 ow11:=⟨_,rfl⟩
  have o12n:∀ k,ow11 k≠0→ow12 k=ow11 k:=fun k hk=>by rw[eo12];exact fE 9 hn11 hk
  have o12o:∀ k,k<w11.heap.size→ow12 k=ow11 k:=fun k hk=>by rw[eo12];exact gZ 9 ow11 hk
  have o12z:∀ k,w12.heap.size≤k→ow12 k=0:=fun k hk=>by rw[eo12];exact iY 9 ow11 hz12 hk
  have hM12:PiX 0 a ow12 w12.heap g tp qs ids (aO qs).files S0:=(hM11.step hf12 9 (by decide) (fun k hk=>.inl hk) o12n).calm (by decide);have hD12:DwO (fun k=>ow12 k=9) w12.heap dg tp 64 R.1:=hD12.mono (fun k hk=>by rw[eo12];exact kW 9 hn11 (by decide) hk) (htn hM12 (by decide));have k12:∀ k,ow11 k=0→¬ (fun k=>ow11 k=9) k:=fun k h h2=>by have h2:ow11 k=9:=h2;omega
  have hpo12:=hpo.RZ hf12 (fun y hy=>k12 _ (hpd _ ⟨y,hy,rfl⟩).2);have hgo12:=hgo9.RZ hf12 (fun y hy=>k12 _ (hz11 _ (hgfr y hy) (hgol y hy)));have hrw12:=hrw9.RZ hf12 (fun k hk=>k12 k (hz11 k hk.1 hk.2));have hpol:=hpo.lt;refine Pd (enc:=i64) (u:=(R.2:Int)) bP rfl rfl rfl ?_;intro w13 ho13 hs13 hf13;refine OJ GA bP rfl rfl (hpo12.RY hf13) ho13.vw (by simp only[Sw];omega) (by simp only[Sw];unfold maxLen;omega) rfl ?_;intro po14 pc14 w14 ho14 hf14 hr14 hn14;have hz13:=hf13.size;have hz14:=hf14.size;have kp:∀ k,blk po k→ow12 k=0∧k<w11.heap.size∧W.heap.size≤k∧¬ (w9.heap.size≤k∧k<w20.heap.size):=fun k ⟨y,hy,e⟩=>by
   have h1:=hpol y hy;have h2:=hpd k ⟨y,hy,e⟩;have h3:=hpx k ⟨y,hy,e⟩;exact⟨by rw[o12o k (by omega)];exact h2.2,by omega,h2.1,h3⟩
  have hM14:=(hM12.RY hf13).step hf14 0 (by decide) (fun k hk=>.inr (kp k hk).1) (fun _ _=>rfl);have hD14:=(hD12.RY hf13).RZ hf14 (fun k hk h=>by have:=(kp k h).1;omega) (fun h=>by have:=(kp tp h).1;rw[hM12.2.2.2.1.2] at this;omega);have hgo14:=(hgo12.RY hf13).RZ hf14 (fun y hy h=>(kp _ h).2.2.2 ⟨hgfr y hy,hgol y hy⟩);have hrw14:=(hrw12.RZ hf13 (fun _ _=>id)).RZ hf14 (fun k hk h=>(kp k h).2.2.2 hk);have l12:∀ k,k<W.heap.size→ow12 k=ow k:=fun k hk=>by rw[o12o k (by have:=hF11.size;omega)];exact hl11 k hk
  have hF14:aA (Lb ow) W w14:=((jM hl11 hF11 (hf12.mono (fun k h=>by have h:ow11 k=9:=h;unfold Lb;omega))).trans hf13.any).RV hf14 (fun k h=>.inr (kp k h).2.2.1);have hF11z:=hF11.size;have hpd14:∀ k,blk po14 k→(W.heap.size≤k∧ow12 k=0)∧¬ (w9.heap.size≤k∧k<w20.heap.size):=fun k ⟨y,hy,e⟩=>by
   rcases hr14 y hy with h|h
   ·have:=kp k ⟨y,h,e⟩;exact⟨⟨this.2.2.1,this.1⟩,this.2.2.2⟩
   ·exact⟨⟨by omega,o12z k (by omega)⟩,by omega⟩
  refine Gz 8 ?_;exact aG ⟨⟨j+1,⟨R.1,pl9++[(R.2:Int)]⟩⟩,⟨ow12,⟨po14,pc14⟩⟩⟩ ⟨by omega,hsn,hM14,hD14,l12,fun k hk=>o12z k (by omega),ho14,fun k hk=>(hpd14 k hk).1,fun k hk=>(hpd14 k hk).2,hgo14,hrw14,fun k h1 h2=>by rw[o12o k (by omega)];exact hz11 k h1 h2,by omega,hF14⟩ (by show L.length-(j+1)<L.length-j;omega)
 have hje:j=L.length:=by omega
 subst hje;rw[S1,hL] at htl;refine Gz 14 ?_;refine aW [(1,_),(4,_),(13,_),(72,_),(73,_),(74,_),(75,_)] ?_;refine Gz 3 ?_;subst epg;refine⟨_,rfl,po,pc,ow11,?_,?_,hpd,hM11,?_,hFI,hl11,hn11,hF11⟩
 ·rw[htl]
 ·rw[htl];exact hpo
 ·rw[htl];exact hD11
end
section
open Go Go.RowKit Go.Maps
structure ImB (qs:List (NdH×Nd))(ids:List Int) where
 G:GdT qs
 I:pJ qs ids
 sz:64+((eQ (aF qs ids) ids).length:Int)≤1048576
section
variable {qs:List (NdH×Nd)}{ids:List Int}(M:ImB qs ids)
def stB(qs:List (NdH×Nd))(ids:List Int):BSt:=(aF qs ids).s
def plB(qs:List (NdH×Nd))(ids:List Int):List Int:=(aF qs ids).pl
def imB(qs:List (NdH×Nd))(ids:List Int):By:=suB (dN qs ids (aF qs ids))++eQ (aF qs ids) ids
include M
theorem ImB.fi:FI (nds qs) (qs.length+1) (aO qs):=yS (fun q hq=>⟨M.G.ino q hq,(M.G.may q hq).2.2.2.2.2.2.1⟩)
theorem ImB.st:jV qs ids (aO qs).files (stB qs ids)∧(∀ q∈qs,0<(stB qs ids).refs.getD q.2.ino.toNat 0):=by
 obtain⟨S,e,h1,_,h2⟩:=lE M.G M.I M.fi;have e2:stB qs ids=S:=e;rw[e2];exact⟨h1,h2⟩
theorem ImB.pln:(plB qs ids).length=(aO qs).tails.length∧(plB qs ids).length≤40:=by
 have h:=jZ (aO qs).tails (aO qs).ds;have h2:=M.fi.tn;have h3:=M.G.n.2;rw[SC] at h2;have e:(plB qs ids).length=(aO qs).tails.length:=h;exact⟨e,by omega⟩
theorem ImB.ids0:1≤ids.length∧ids.length≤80:=by
 obtain⟨r,hr,_⟩:=M.G.root;have h:=(M.I.2 _).2 (qT (Sd hr)).1;have h2:=List.length_pos_of_mem h;have h3:=nO M.I;have h4:=M.G.n.2;omega
theorem ImB.many:1≤(stB qs ids).many∧(stB qs ids).many≤41:=by
 obtain⟨h,h2⟩:=M.st;refine⟨?_,h.many41 M.G.n.2⟩;obtain⟨r,hr,_⟩:=M.G.root;have h3:=h2 r (Sd hr);have h4:=M.G.ino r (Sd hr);rw[h.many];have hm:(stB qs ids).refs.getD r.2.ino.toNat 0∈qE (stB qs ids):=by
  unfold qE;rw[List.mem_filter];have hl:r.2.ino.toNat<(stB qs ids).refs.length:=by rw[h.rl];omega
  exact⟨by rw[Sj,R7 hl];exact Tv _,by simpa using h3⟩
 exact List.length_pos_of_mem hm
theorem ImB.may:jK (dN qs ids (aF qs ids)):=by
 obtain⟨a1,a2⟩:=M.many;obtain⟨b1,b2⟩:=M.ids0;obtain⟨c1,c2⟩:=M.pln;obtain⟨h,h2⟩:=M.st;obtain⟨r,hr,_⟩:=M.G.root;have h3:=h2 r (Sd hr);have h4:=h.ref_le M.G.n.2 h3;have hs:=M.sz;have nd:=eH hr;have l2:(eU (aF qs ids)).length=(eV (aF qs ids)).length+(dnW (aF qs ids).s.ino).length:=R6;have l3:(fH (aF qs ids)).length=(eU (aF qs ids)).length+(dnW (aF qs ids).s.lst).length:=R6;have l4:(fY (aF qs ids)).length=(fH (aF qs ids)).length+(dnW (aK (aF qs ids).pl 4).1).length:=R6;have l5:(gW (aF qs ids) ids).length=(fY (aF qs ids)).length+(dnW (aK ids 2).1).length:=R6;have l6:(eQ (aF qs ids) ids).length=(gW (aF qs ids) ids).length+(dnW (aF qs ids).s.fur).length:=R6;refine⟨⟨?_,?_,?_,?_,?_,?_,?_⟩,?_,?_,?_,?_,?_,?_,?_,?_⟩
 ·show (64:Int)≤64+((eV (aF qs ids)).length:Int);omega
 ·show 64+((eV (aF qs ids)).length:Int)≤64+((eU (aF qs ids)).length:Int);omega
 ·show 64+((eU (aF qs ids)).length:Int)≤64+((fH (aF qs ids)).length:Int);omega
 ·show 64+((fH (aF qs ids)).length:Int)≤64+((fY (aF qs ids)).length:Int);omega
 ·show 64+((fY (aF qs ids)).length:Int)≤64+((gW (aF qs ids) ids).length:Int);omega
 ·show 64+((gW (aF qs ids) ids).length:Int)≤64+((eQ (aF qs ids) ids).length:Int);omega
 ·exact hs
 ·show 1≤((stB qs ids).many:Int);omega
 ·show ((stB qs ids).many:Int)≤1024;omega
 ·show 1≤(ids.length:Int);omega
 ·show (ids.length:Int)≤2048;omega
 ·show 0≤((plB qs ids).length:Int);omega
 ·show ((plB qs ids).length:Int)≤1024;omega
 · show 0≤(stB qs ids).refs.getD (ndB qs ((0:Nat):Int)).ino.toNat 0-1
   rw[nd];omega
 · show (stB qs ids).refs.getD (ndB qs ((0:Nat):Int)).ino.toNat 0-1≤4294967295
   rw[nd];exact h4
theorem ImB.img:uP qs ids=(imB qs ids,0):=by
 unfold uP;rw[R3 (by have:=M.sz;omega)];have:(gR (dN qs ids (aF qs ids))).1=suB (dN qs ids (aF qs ids)):=by unfold gR;rw[R4 M.may]
 rw[this];rfl
theorem ImB.sup:dE (imB qs ids)=(dN qs ids (aF qs ids),0):=by
 refine zR M.may (fun o ho=>?_) _ rfl;show Sj [_,_,_,_,_,_,_,_,_,_] o (0:Int)=0;rw[Sj,SY (by simp only[Sq,SL];omega)];rfl
end
end
section
open Go Go.RowKit Go.Maps
theorem jA(qs:List (NdH×Nd))(i:Nat):(qs.getD i (yC,nd0)).2=(nds qs).getD i nd0:=by
 unfold nds;rw[Sj,Sj,SU];cases qs[i]?<;>rfl
section
variable {qs rs:List (NdH×Nd)}(h:nds qs=nds rs)
include h
theorem nH:qs.length=rs.length:=by have:=congrArg SJ h;simpa[nds] using this
theorem qW:ndB qs=ndB rs:=by
 funext k;unfold ndB;rw[jA,jA,h]
theorem Ip:nmG qs=nmG rs:=by
 funext k;unfold nmG;rw[jA,jA,h]
theorem Gr:aZ qs=aZ rs:=by
 funext s n
 induction n with
|zero=>rfl
|succ n ih=>rw[aZ,aZ,ih,Ip h]
theorem Hj:iM qs=iM rs:=by
 funext z;have e:∀ l:List (NdH×Nd),iM l z=(((nds l).countP (fun n=>decide (n.ino=z)):Nat):Int):=fun l=>by
  unfold iM nds;rw[List.countP_map];rfl
 rw[e,e,h]
theorem Gg:uO qs=uO rs:=by
 funext i;unfold uO;rw[jA,jA,h,nH h,Hj h]
theorem GS(ids:List Int):dT qs ids=dT rs ids:=by
 funext k i s;unfold dT inB;rw[qW h,Gg h]
theorem HJ(wr:Int→BSt→BSt):wrK wr qs=wrK wr rs:=by
 funext l
 induction l with
|nil=>rfl
|cons j r ih=>
   funext s;rw[wrK,wrK,ih,qW h]
theorem HK(ids:List Int)(files:List Ino):wrB qs ids files=wrB rs ids files:=by
 funext n
 induction n with
|zero=>rfl
|succ n ih=>
   funext k s;rw[wrB,wrB,ih,qW h,GS h,HJ h,Gr h,nH h]
theorem GW:aO qs=aO rs:=by unfold aO;rw[h,nH h]
theorem Bp(ids:List Int):aF qs ids=aF rs ids:=by
 unfold aF;rw[GW h,HK h,nH h]
theorem nN(ids:List Int):uP qs ids=uP rs ids:=by
 have e:dN qs ids (aF qs ids)=dN rs ids (aF rs ids):=by
  funext j;unfold dN;rw[Bp h,qW h]
 unfold uP;rw[e,Bp h]
end
end
section
open Go Go.RowKit Go.Maps Go.Sort
section
variable {P:Program}{N:Nt}{Q:Exit→Act→World→Prop}{l:SF}{w:World}{ops:Array Oper}{rest:List Oper}{ty:TypeId}{pos:String}{aft:Array Edge}{x:Operand}{v:Value}{d:Nat}
theorem Qs{T:TypeId}(hx:evL l x=some v)(hd:Nat.blt d N.n=true)
 (h:∀ w',w'=w.alloc (.cells v.cells T)→Sl P N ops Q rest ((d,pT w.heap.size)::l) w') :
 Sl P N ops Q (⟨some d,.box T x,ty,pos,aft,none⟩::rest) l w:=by
 refine OY (w':=w.alloc (.cells v.cells T)) (fun a ha=>?_) hd (h _ rfl);simp[execOp,ha.ev hx,Instr.box,newVar,newRow]
end
theorem EP(p q:NdH×Nd)(W:World){D:Nat→Prop}(hp:NmV D W.heap p.1.names p.2.names)(hq:NmV D W.heap q.1.names q.2.names) :
 CA 58 [.agg (aH p).toArray,.agg (aH q).toArray] W fun v w'=>v=iV (bT p.2.names q.2.names)∧∃ o1 o2,w'=(W.alloc o1).alloc o2:=by
 refine cS 10 [(0,_),(1,_)] Tryz.func58 ?_;refine Gz 2 ?_;refine Qs rfl rfl ?_;intro w1 hw1;have hg1:w1.heap[W.heap.size]?=some (.cells (aH p).toArray 37 (0,0)):=by rw[hw1];exact heap_alloc_new W _
 have hf1:aA nob W w1:=by rw[hw1];exact aA.alloc _ _ _
 obtain⟨g,hg⟩:∃ g,g=W.heap.size:=⟨_,rfl⟩
 rw[←hg] at hg1 ⊢;refine Qs rfl rfl ?_;intro w2 hw2;have hg2:w2.heap[w1.heap.size]?=some (.cells (aH q).toArray 37 (0,0)):=by rw[hw2];exact heap_alloc_new w1 _
 have hf2:aA nob w1 w2:=by rw[hw2];exact aA.alloc _ _ _
 obtain⟨r,hr⟩:∃ r,r=w1.heap.size:=⟨_,rfl⟩
 rw[←hr] at hg2 ⊢;have hgp:=hf2.obj hg1 id;have hp2:=hp.RZ (hf1.trans hf2) (fun _ _=>id);have hq2:=hq.RZ (hf1.trans hf2) (fun _ _=>id);refine Gz 9 ?_;refine Ot Lq rfl ((by show Calls _ _ [Value.slice p.1.names.a p.1.names.n p.1.names.c,Value.slice q.1.names.a q.1.names.n q.1.names.c].toArray _ _;rw[hp2.1,hq2.1];exact tU _ _ _ _ p.2.names q.2.names w2 hp2.2.1 hq2.2.1)) rfl ?_;rintro _ w3 ⟨rfl,hw3⟩;subst w3;refine Gz 5 ?_;exact⟨_,rfl,rfl,_,_,by rw[hw2,hw1]⟩
theorem rU{α:Type}[Inhabited α](enc:α→List Value)(K:Nat)(W:World)(b m:Nat)(dk:Array α)(os:Array Obj):aA (· = b) W (sortWorldK enc K W b 0 m dk os):=by
 unfold sortWorldK putRowK putRow mapBlock grow Go.Sort.ahead;refine⟨rfl,rfl,rfl,by simp,fun k hk hne=>?_⟩;show (W.heap.modify b _++os)[k]?=_;rw[Array.getElem?_append_left (by simpa using hk),TM,R3 (fun e=>hne e.symm)]
theorem wN{α:Type}[Inhabited α]{enc:α→List Value}{K:Nat}(hk:∀ x,(enc x).length=K)(hK:0<K)(d:Array α)(t:Nat)(ht:t<d.size*K):(flatK enc K d)[t]?=(d.toList.flatMap enc)[t]?:=by
 have h1:t/K<d.size:=(Nat.div_lt_iff_lt_mul hK).2 ht;have h2:t%K<K:=Nat.mod_lt _ hK;have e1:d.toList[t/K]?=some d[t/K]!:=by rw[Array.getElem?_toList,getElem!_pos d _ h1];exact Tz h1
 have e2:(enc d[t/K]!)[t%K]?=some (enc d[t/K]!)[t%K]!:=by
  have:t%K<(enc d[t/K]!).length:=by rw[hk];exact h2
  rw[R7 this];exact congrArg some (getElem!_pos (enc d[t/K]!) (t%K) this).symm
 have e3:=mG hk d.toList (t/K) _ e1 (t%K) _ e2;rw[Nat.div_add_mod'] at e3;rw[e3];have:t<(flatK enc K d).size:=by rw[size_flatK];exact ht
 rw[Tz this,←getElem!_pos (flatK enc K d) t this,get_flatK enc K d t ht]
theorem Ec{α:Type}[Inhabited α]{enc:α→List Value}{K:Nat}(hk:∀ x,(enc x).length=K)(hK:0<K){W:World}{b:Nat}{cur:Array Value}{T:TypeId}{d:Array α}(hg:W.heap[b]?=some (.cells cur T (0,0)))(hc:cur.toList.take (d.size*K)=d.toList.flatMap enc):HoldsK enc K W b 0 d:=by
 intro j hj;rw[size_flatK] at hj;have h1:=wN hk hK d j hj;rw[←hc,SZ,R4 hj,Array.getElem?_toList] at h1;have h2:j<(flatK enc K d).size:=by rw[size_flatK];exact hj
 have h3:(flatK enc K d)[j]?=some (flatK enc K d)[j]!:=by rw[getElem!_pos _ j h2];exact Tz h2
 refine⟨?_,?_⟩
 · show World.cell? W ⟨b,0+j,none⟩=some (flatK enc K d)[j]!
   rw[Nat.zero_add,←h3,h1];simp[World.cell?,hg]
 ·simp[World.frozen?,hg]
theorem Ev{α:Type}[Inhabited α]{enc:α→List Value}{K:Nat}(hk:∀ x,(enc x).length=K)(hK:0<K){W:World}{b cap m:Nat}{cur:Array Value}{T:TypeId}{d:Array α}{os:Array Obj}(hg:W.heap[b]?=some (.cells cur T (0,0)))(hl:d.size≤cap)(hm:cap≤maxLen)(hs:cur.size=cap*K) :
 ∃ cur':Array Value,(sortWorldK enc K W b 0 m d os).heap[b]?=some (.cells cur' T (0,0))∧cur'.size=cap*K∧cur'.toList.take (d.size*K)=d.toList.flatMap enc:=by
 have hb:=(Sb.1 hg).1;refine⟨putCells id 0 (flatK enc K d) cur,?_,by simp[putCells,hs],?_⟩
 · unfold sortWorldK putRowK putRow mapBlock grow Go.Sort.ahead
   show (W.heap.modify b _++os)[b]?=_;rw[Array.getElem?_append_left (by simpa using hb),TM,R4 rfl,hg];rfl
 · apply Tj
   intro t;have hle:d.size*K≤cap*K:=Nat.mul_le_mul_right K hl;by_cases ht:t<d.size*K
   · rw[SZ,R4 ht,Array.getElem?_toList,←wN hk hK d t ht]
     have h2:t<(flatK enc K d).size:=by rw[size_flatK];exact ht
     unfold putCells;rw[Array.getElem?_mapIdx,Tz (show t<cur.size by omega),Option.map_some,R4 ⟨Sf _,by omega⟩];rw[Tz h2,←getElem!_pos (flatK enc K d) t h2];rfl
   ·rw[SZ,R3 ht,SY (by rw[bJ hk,Array.length_toList];omega)]
end
section
open Go Go.Proofs Go.Shelf
def RS:Go.Shelf.Ren:=⟨fun|6=>57|15=>113|14=>112|28=>162|29=>163|20=>154|21=>155|22=>156|23=>157|24=>158|25=>159|26=>160|27=>161|46=>197|47=>198|48=>199|49=>200|50=>201|57=>221|n=>n,fun|22=>22|24=>37|25=>116|3=>3|39=>97|0=>0|53=>39|55=>227|4=>4|46=>220|45=>219|50=>118|5=>5|9=>9|66=>252|70=>72|76=>273|77=>91|n=>n,fun|n=>n⟩
theorem RT:Go.Proofs.SlLaysF0.n6 Tryz.prog RS where
 mixed:=by kernel_rfl
 f6 := ⟨ "slices.SortFunc[[]lamella/api.Node,lamella/api.Node]", by decide, Tryz.func57.trans (congrArg some (by kernel_rfl))⟩
 f14 := ⟨ "slices.pdqsortCmpFunc[lamella/api.Node]", by decide, Tryz.func112.trans (congrArg some (by kernel_rfl))⟩
 f15:=Tryz.func113.trans (congrArg some (by kernel_rfl))
 f20 := ⟨ "slices.insertionSortCmpFunc[lamella/api.Node]", by decide, Tryz.func154.trans (congrArg some (by kernel_rfl))⟩
 f21 := ⟨ "slices.heapSortCmpFunc[lamella/api.Node]", by decide, Tryz.func155.trans (congrArg some (by kernel_rfl))⟩
 f22 := ⟨ "slices.breakPatternsCmpFunc[lamella/api.Node]", by decide, Tryz.func156.trans (congrArg some (by kernel_rfl))⟩
 f23 := ⟨ "slices.choosePivotCmpFunc[lamella/api.Node]", by decide, Tryz.func157.trans (congrArg some (by kernel_rfl))⟩
 f24 := ⟨ "slices.reverseRangeCmpFunc[lamella/api.Node]", by decide, Tryz.func158.trans (congrArg some (by kernel_rfl))⟩
 f25 := ⟨ "slices.partialInsertionSortCmpFunc[lamella/api.Node]", by decide, Tryz.func159.trans (congrArg some (by kernel_rfl))⟩
 f26 := ⟨ "slices.partitionEqualCmpFunc[lamella/api.Node]", by decide, Tryz.func160.trans (congrArg some (by kernel_rfl))⟩
 f27 := ⟨ "slices.partitionCmpFunc[lamella/api.Node]", by decide, Tryz.func161.trans (congrArg some (by kernel_rfl))⟩
 f28:=Tryz.func162.trans (congrArg some (by kernel_rfl))
 f29:=Tryz.func163.trans (congrArg some (by kernel_rfl))
 f46 := ⟨ "slices.siftDownCmpFunc[lamella/api.Node]", by decide, Tryz.func197.trans (congrArg some (by kernel_rfl))⟩
 f47:=Tryz.func198.trans (congrArg some (by kernel_rfl))
 f48:=Tryz.func199.trans (congrArg some (by kernel_rfl))
 f49 := ⟨ "slices.medianAdjacentCmpFunc[lamella/api.Node]", by decide, Tryz.func200.trans (congrArg some (by kernel_rfl))⟩
 f50 := ⟨ "slices.medianCmpFunc[lamella/api.Node]", by decide, Tryz.func201.trans (congrArg some (by kernel_rfl))⟩
 f57 := ⟨ "slices.order2CmpFunc[lamella/api.Node]", by decide, Tryz.func221.trans (congrArg some (by kernel_rfl))⟩
 t0:=Tryz.underlying0
 a0:=Tryz.isAgg0
 z0:=Tryz.sizeOf0
 v0:=Tryz.zeroValue0
 t3:=Tryz.underlying3
 a3:=Tryz.isAgg3
 z3:=Tryz.sizeOf3
 v3:=Tryz.zeroValue3
 t4:=Tryz.underlying4
 a4:=Tryz.isAgg4
 z4:=Tryz.sizeOf4
 v4:=Tryz.zeroValue4
 t5:=Tryz.underlying5
 a5:=Tryz.isAgg5
 z5:=Tryz.sizeOf5
 v5:=Tryz.zeroValue5
 t9:=Tryz.underlying9
 a9:=Tryz.isAgg9
 z9:=Tryz.sizeOf9
 v9:=Tryz.zeroValue9
 t22:=Tryz.underlying22
 a22:=Tryz.isAgg22
 z22:=Tryz.sizeOf22
 v22:=Tryz.zeroValue22
 t25:=Tryz.underlying116
 a25:=Tryz.isAgg116
 z25:=Tryz.sizeOf116
 v25:=Tryz.zeroValue116
 t39:=Tryz.underlying97
 a39:=Tryz.isAgg97
 z39:=Tryz.sizeOf97
 v39:=Tryz.zeroValue97
 t45:=Tryz.underlying219
 a45:=Tryz.isAgg219
 z45:=Tryz.sizeOf219
 v45:=Tryz.zeroValue219
 t46:=Tryz.underlying220
 a46:=Tryz.isAgg220
 z46:=Tryz.sizeOf220
 v46:=Tryz.zeroValue220
 t50:=Tryz.underlying118
 a50:=Tryz.isAgg118
 z50:=Tryz.sizeOf118
 v50:=Tryz.zeroValue118
 t53:=Tryz.underlying39
 a53:=Tryz.isAgg39
 z53:=Tryz.sizeOf39
 v53:=Tryz.zeroValue39
 t55:=Tryz.underlying227
 a55:=Tryz.isAgg227
 z55:=Tryz.sizeOf227
 v55:=Tryz.zeroValue227
 t66:=Tryz.underlying252
 a66:=Tryz.isAgg252
 z66:=Tryz.sizeOf252
 v66:=Tryz.zeroValue252
 t70:=Tryz.underlying72
 a70:=Tryz.isAgg72
 z70:=Tryz.sizeOf72
 v70:=Tryz.zeroValue72
 t76:=Tryz.underlying273
 a76:=Tryz.isAgg273
 z76:=Tryz.sizeOf273
 v76:=Tryz.zeroValue273
 t77:=Tryz.underlying91
 a77:=Tryz.isAgg91
 z77:=Tryz.sizeOf91
 v77:=Tryz.zeroValue91
end
end Go.Proofs.YthmmmagklhiiiaaGreatDoor
