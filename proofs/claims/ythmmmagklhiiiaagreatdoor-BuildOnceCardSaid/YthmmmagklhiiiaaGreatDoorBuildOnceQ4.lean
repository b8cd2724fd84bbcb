/- lamella: what the law needs. No condition beyond the bounds that each states. -/
import Derived.Laws.CopyRow
import Derived.Test.YthmmmagklhiiiaaGreatDoorBuildOnceQ3
namespace Go.Proofs.YthmmmagklhiiiaaGreatDoor
open Go Go.RowKit
set_option linter.unusedVariables false
set_option linter.unusedSectionVars false
set_option maxHeartbeats 64000000
open List renaming length_append → R6, getElem?_eq_getElem → R7, getElem?_eq_some_iff → R9, mem_of_getElem? → Sd, length_take → Sh, getD → Sj, length_drop → Sm, take_of_length_le → So, length_cons → Sq, getElem?_of_mem → Sr, mem_cons → St, replicate → Sy, length_map → SC, not_mem_nil → SD, mem_singleton → SE, append_assoc → SI, length → SJ, length_nil → SL, mem_map → SN, length_replicate → SP, getElem?_set_self → SQ, getElem?_map → SU, map_cons → SV, getElem?_eq_none → SY, nil_append → S2, length_set → S7, getElem?_set_ne → S9, map_nil → TC, set_set → Ug, getElem?_replicate → UD
open _root_.Nat renaming le_refl → Sa, zero_le → Sf, min_eq_left → Td, lt_of_lt_of_le → Te
open _root_.Array renaming getElem?_eq_some_iff → Sb, length_toList → Ts
open Classical renaming byContradiction → Se, not_not → S5
open _root_.Option renaming map_eq_some_iff → Sn
open _root_.Int renaming le_refl → Uu
section
open Go Go.RowKit Go.Maps Go.Sort
def NmB(W:World)(b:Nat)(p:NdH×Nd):Prop:=NmV (fun k=>k≠b∧k<W.heap.size) W.heap p.1.names p.2.names
abbrev NmS(W:World)(b:Nat):={ p:NdH×Nd // NmB W b p }
instance (W:World)(b:Nat):Inhabited (NmS W b):=⟨⟨(yC,nd0),⟨rfl,Rq 0 (Sf _),fun h=>absurd rfl h⟩⟩⟩
def Cl{W:World}{b:Nat}(x:NmS W b):List Value:=aH x.1
def cfS{W:World}{b:Nat}(x y:NmS W b):Int:=bT x.1.2.names y.1.2.names
theorem Nw{W:World}{b:Nat}:SWO (Go.Proofs.ltOf (cfS (W:=W) (b:=b))) where
 irrefl x:=oS _
 trans x y z h1 h2:=pU (a:=x.1.2.names) (b:=y.1.2.names) (c:=z.1.2.names) h1 h2
 ntrans x y z h1 h2:=AD (a:=x.1.2.names) (b:=y.1.2.names) (c:=z.1.2.names) h1 h2
theorem H3(b cap:Nat)(xs:List (NdH×Nd))(W:World)(ho:cH 10 aH 37 W.heap (some ⟨b,0,none⟩) cap xs)(hn:∀ p∈xs,NmB W b p)(hl:xs.length≤1024) :
 CA 57 [.slice (some ⟨b,0,none⟩) xs.length cap,.func (.func 58) #[] #[]] W fun v w'=>v=.tuple #[]∧∃ ys:List (NdH×Nd),cH 10 aH 37 w'.heap (some ⟨b,0,none⟩) cap ys∧ys.Perm xs∧ys.Pairwise Ee∧aA (· = b) W w':=by
 rcases ho with⟨h,_⟩|⟨g,cur,hg0,hg,g1,g2,g3,g4⟩
 ·cases h
 · cases hg0
   obtain⟨d,hd⟩:∃ d:Array (NmS W b),d=(xs.attach.map fun x=>(⟨x.1,hn x.1 x.2⟩:NmS W b)).toArray:=⟨_,rfl⟩
   have hdl:d.toList.map (·.1)=xs:=by rw[hd];simp only[List.map_map];exact List.attach_map_subtype_val xs
   have hds:d.size=xs.length:=by rw[←hdl];simp
   have hfl:∀ e:Array (NmS W b),e.toList.flatMap Cl=(e.toList.map (·.1)).flatMap aH:=fun e=>by rw[List.flatMap_map];rfl
   have hH:HoldsK Cl 10 W b 0 d:=Ec (enc:=Cl) (K:=10) (fun _=>rfl) (by decide) hg (by rw[hds,hfl,hdl];exact g4);have hcmp:CmpLays Tryz.prog 58 #[] Cl 10 cfS b 0 d.size W:=fun m os dk _ x y=>by
    have hf:=rU Cl 10 W b m dk os;refine(EP x.1 y.1 _ (x.2.RZ hf (fun k hk e=>hk.1 e)) (y.2.RZ hf (fun k hk e=>hk.1 e))).mono ?_;rintro e w' ⟨v,rfl,rfl,o1,o2,rfl⟩;exact⟨rfl,0,#[o1]++#[o2],by rw[alloc_eq_grow,alloc_eq_grow,grow_grow];rfl⟩
   have h:=AnyQ.slices_SortFunc RT 10 Tryz.isAgg37 Tryz.sizeOf37 Cl (fun _=>rfl) (fun x v hv=>(aB x.1).2 v hv) cfS Nw 58 #[] b 0 cap d W (enters_of Tryz.func58 (by kernel_rfl) rfl) hcmp hH (Sb.1 hg).1 (by omega);rw[hds] at h;refine Calls.mono h ?_;rintro e w' ⟨rfl,d',n,os,⟨p1,_,p3⟩,hs,rfl⟩;have q1:d'.size=xs.length:=by rw[p1,hds]
   obtain⟨cur',c1,c2,c3⟩:=Ev (enc:=Cl) (K:=10) (m:=n) (d:=d') (os:=os) (fun _=>rfl) (by decide) hg (by rw[q1];exact g1) g2 g3;refine⟨_,rfl,rfl,d'.toList.map (·.1),.inr ⟨b,cur',rfl,c1,by rw[SC,Ts,q1];exact g1,g2,c2,?_⟩,?_,?_,rU _ _ _ _ _ _ _⟩
   ·rw[SC,Ts,c3,hfl]
   · rw[←hdl]
     refine List.Perm.map _ ?_;have e1:d'.extract 0 xs.length=d':=by rw[←q1];exact Array.extract_size
     have e2:d.extract 0 xs.length=d:=by rw[←hds];exact Array.extract_size
     rw[e1,e2] at p3;exact p3
   · rw[List.pairwise_iff_getElem]
     intro i j hi hj hij;rw[SC,Ts] at hi hj;have h1:=hs i j (Sf _) hij (by omega);rw[getElem!_pos d' i hi,getElem!_pos d' j hj] at h1;simp only[List.getElem_map,Array.getElem_toList];exact h1
end
section
open Go Go.RowKit Go.Maps
theorem Kl:pH Tryz.prog 58 3 3 (iV 0):=⟨by kernel_rfl,by kernel_rfl⟩
def lJ(Z zs:List Int)(m:List (I6×Value)):Prop:=(∀ z:I6,bL m z=if z.1∈zs then some (iV (iT Z z.1)) else none)∧m.length=(bR zs).length
section
variable {Z zs:List Int}{m:List (I6×Value)}
theorem RU:lJ Z [] []:=⟨fun z=>by simp[bL],rfl⟩
theorem lJ.z(h:lJ Z zs m)(z:I6):(bL m z).getD (iV 0)=iV (if z.1∈zs then iT Z z.1 else 0):=by
 rw[h.1 z];split<;>rfl
theorem lJ.is(h:lJ Z zs m)(z:I6):decide ((bL m z).isSome=true)=decide (z.1∈zs):=by
 apply decide_eq_decide.2;rw[h.1 z];split<;>simp_all
theorem lJ.old(h:lJ Z zs m){z:Int}(hz:z∈zs):lJ Z (zs++[z]) m:=⟨fun y=>by
 rw[h.1 y];have:(y.1∈zs)↔y.1∈zs++[z]:=by
  rw[List.mem_append,SE];exact⟨.inl,fun e=>e.elim id (fun e=>e ▸ hz)⟩
 by_cases hy:y.1∈zs
 ·rw[R4 hy,R4 (this.1 hy)]
 ·rw[R3 hy,R3 (fun e=>hy (this.2 e))],by rw[h.2,mT hz]⟩
theorem lJ.new(h:lJ Z zs m)(z:I6)(hz:z.1∉zs):lJ Z (zs++[z.1]) (bV m z (iV (iT Z z.1))):=by
 have hn:bL m z=none:=by rw[h.1 z,R3 hz]
 refine⟨fun y=>?_,by rw[fA _ hn,R6,h.2,mU hz];rfl⟩;rw[gM];by_cases e:y=z
 ·subst e;rw[R4 rfl,R4 (by simp)]
 · have e2:¬ y.1=z.1:=fun h=>e (Subtype.ext h)
   rw[R3 e,h.1 y];by_cases hy:y.1∈zs
   ·rw[R4 hy,R4 (by simp[hy])]
   ·rw[R3 hy,R3 (by simp[hy,e2])]
end
theorem FW{α:Type}{K:Nat}{enc:α→List Value}{T:TypeId}{H:Array Obj}{ao:Option Addr}{cap:Nat}{xs:List α}(h:cH K enc T H ao cap xs)(hne:xs≠[]):∃ b,ao=some ⟨b,0,none⟩:=by
 rcases h with⟨_,_,h⟩|⟨g,_,h,_⟩
 ·exact absurd h hne
 ·exact⟨g,h⟩
theorem NmV.real{D:Nat→Prop}{H:Array Obj}{h:Hd}{l:List By}(v:NmV D H h l):NmV (fun k=>k<H.size) H h l:=⟨v.1,v.2.1,fun hne k ⟨a,ha,e⟩=>by have:=v.2.1.lt hne a ha;show k<H.size;omega⟩
def zK(b g i:Nat)(Z:List Int)(ys zs:List (NdH×Nd))(w:World):Prop:=zs.length=ys.length∧(∀ j:Nat,i≤j→zs[j]?=ys[j]?)∧∀ (j:Nat) (q p:NdH×Nd),j<i→zs[j]?=some q→ys[j]?=some p→q.2=(dO Z p).2∧NdV (fun k=>k≠b∧k≠g∧k<w.heap.size) w.heap q
theorem zK.RY{b g i:Nat}{Z:List Int}{ys zs:List (NdH×Nd)}{w w':World}(h:zK b g i Z ys zs w)(f:aA (fun k=>k=b∨k=g) w w'):zK b g i Z ys zs w':=
 ⟨h.1,h.2.1,fun j q p hj hq hp=>⟨(h.2.2 j q p hj hq hp).1,((h.2.2 j q p hj hq hp).2.RZ f (fun k hk e=>e.elim hk.1 hk.2.1)).mono (fun k hk=>⟨hk.1,hk.2.1,Te hk.2.2 f.size⟩)⟩⟩
theorem zK.put{b g i:Nat}{Z:List Int}{ys zs:List (NdH×Nd)}{w:World}{p q:NdH×Nd}(h:zK b g i Z ys zs w)(hp:ys[i]?=some p)(hq:q.2=(dO Z p).2)(hv:NdV (fun k=>k≠b∧k≠g∧k<w.heap.size) w.heap q):zK b g (i+1) Z ys (zs.set i q) w:=by
 have hil:=(R9.1 hp).1;refine⟨by rw[S7];exact h.1,fun j hj=>by rw[S9 (by omega)];exact h.2.1 j (by omega),fun j r s hj hr hs=>?_⟩;by_cases e:j=i
 · subst e
   rw[SQ (by rw[h.1];exact hil)] at hr;cases hr;rw[hp] at hs;cases hs;exact⟨hq,hv⟩
 · rw[S9 (fun h=>e h.symm)] at hr
   exact h.2.2 j r s (by omega) hr hs
theorem zK.eq{b g:Nat}{ys zs:List (NdH×Nd)}{w:World}(h:zK b g ys.length (aQ ys) ys zs w):nds zs=nds (Eg ys):=by
 apply List.ext_getElem?;intro j;by_cases hj:j<ys.length
 · have h1:=R7 hj
   have h2:zs[j]?=some (zs[j]'(by rw[h.1];exact hj)):=R7 _;have h3:=(h.2.2 j _ _ hj h2 h1).1;rw[dI h2,h3];simp[nds,Eg,h1]
 ·rw[SY (by rw[SC,h.1];omega),SY (by rw[SC,Eg,SC];omega)]
theorem DC{ps:List (NdH×Nd)}(h:chk (nds ps)=0):∀ p∈ps,dR p.2:=by
 intro p hp;have h0:=nY h;rw[aI,h0] at h;rw[R3 (show ¬ ((0:Int)≠0) from fun h=>h rfl)] at h;by_cases hm:∃ n∈nds ps,¬ dR n
 ·rw[R4 hm] at h;cases h
 ·exact Se fun hn=>hm ⟨p.2,SN.2 ⟨p,hp,rfl⟩,hn⟩
theorem De{n:Nd}(h:dR n){k:Nat}{y:Xa}(hy:n.xs[k]?=some y):y.2.length≤200:=by
 have hk:=(R9.1 hy).1;have h1:=(h.2.2.2.2.2.2.2.2.1 k hk).2.2.2;have e:n.xs.getD k x0=y:=by simp[Sj,hy]
 rwa[e] at h1
variable {D:Nat→Prop}
def XrJ(s k:Nat)(xx:List (By×Hd))(X:List Xa)(us:List (By×Hd))(w:World):Prop:=us.length=xx.length∧(∀ j:Nat,k≤j→us[j]?=xx[j]?)∧∀ (j:Nat) (u:By×Hd) (x:Xa),j<k→us[j]?=some u→X[j]?=some x→u.1=x.1∧ByV (fun q=>s≤q∧q<w.heap.size) w.heap u.2 x.2
theorem Hq(lo:Option Addr)(lc:Nat)(ps:List (NdH×Nd))(W:World)(hv:bD D W.heap lo lc ps)(hsm:∀ p∈ps,smN p.2)(hok:∀ p∈ps,okN p.2) :
 CA 18 [.slice lo ps.length lc] W fun v w'=>∃ (o:Option Addr) (c:Nat) (qs:List (NdH×Nd)),v=.tuple [.slice o qs.length c,iV (chk (nds ps))].toArray∧(chk (nds ps)≠0→qs=[])∧(chk (nds ps)=0→nds qs=nds (fU ps))∧bD (fun _=>True) w'.heap o c qs∧Fr W.heap.size o∧aA nob W w':=by
 have hll:(nds ps).length=ps.length:=by simp
 refine cS 102 [(0,_)] Tryz.func18 ?_;refine cA 10 N4 (Hm lo lc ps W hv hsm hok) ?_;rintro _ w2 ⟨rfl,hf2⟩;refine fK 6 ?_ ?_<;>intro h16
 ·refine Gz 13 ?_;exact⟨_,rfl,none,0,[],rfl,fun _=>rfl,fun h=>absurd h h16,⟨⟨Sf _,Sf _,fun h=>absurd rfl h,fun i x hx=>by simp at hx⟩,by simp⟩,Rp,hf2⟩
 have hz:chk (nds ps)=0:=S5.1 h16;have hlen:=DD hz;have ht:=wZ hz;have hne:ps≠[]:=fun e=>by subst e;exact absurd hz (by decide +kernel)
 have hmay:∀ p∈ps,dR p.2:=DC hz;have hnm16:∀ p∈ps,p.2.names.length≤16:=fun p hp=>(gY (sH (nY hz))).2.1 p.2 (SN.2 ⟨p,hp,rfl⟩);refine Gz 8 ?_;refine Ot N3 rfl (EM lo lc ps w2 (hv.RY hf2).1 (by omega)) rfl ?_;rintro _ w3 ⟨o,c3,rfl,ho3,hfo,hf3⟩;obtain⟨b,rfl⟩:=FW ho3 hne;have hF3:=hf2.trans hf3;have hbW:W.heap.size≤b:=by have:=hfo _ rfl;have:=hf2.size;exact Nat.le_trans hf2.size (hfo _ rfl)
 refine Gz 6 ?_;refine Ot N2 rfl (H3 b c3 ps w3 ho3 (fun p hp=>(((hv.2 p hp).1.real).RZ hF3 (fun _ _=>id)).mono (fun k hk=>⟨fun e=>by omega,Te hk hF3.size⟩)) (by omega)) rfl ?_;rintro _ w4 ⟨rfl,ys,ho4,hpe,hor,hf4⟩;have hF4:aA nob W w4:=hF3.RV hf4 (fun k e=>.inr (by have e:k=b:=e;omega));have hys:=Fs ht hpe hor;have hyl:=hpe.length_eq;obtain⟨Z,hZ⟩:∃ Z,Z=aQ ys:=⟨_,rfl⟩
 have hym:∀ p∈ys,p∈ps:=fun p hp=>hpe.mem_iff.1 hp;have hb4:b<w4.heap.size:=ho4.lt _ rfl;refine Gz 4 ?_;refine O2 (enc:=enI) rfl ?_;intro w41 hm41 hs41 hf41;obtain⟨g,hg⟩:∃ g,g=w4.heap.size:=⟨_,rfl⟩
 rw[←hg] at hm41 ⊢;have hF41:=hF4.trans hf41;have hbg:b<g:=by omega
 have hgW:W.heap.size≤g:=by have:=hF4.size;omega
 refine Gz 12 ?_;refine Oy (β:=Nat×List (NdH×Nd)×List (I6×Value)) (fun⟨i,zs,m⟩=>[(5,.slice (some ⟨b,0,none⟩) ps.length c3),(6,.map (some g)),(24,iV ps.length),(25,iV i)]) (fun⟨i,zs,m⟩ w=>i≤ps.length∧cH 10 aH 37 w.heap (some ⟨b,0,none⟩) c3 zs∧zK b g i Z ys zs w∧cC enI w.heap g m∧lJ Z (aQ (ys.take i)) m∧aA nob W w) (fun⟨i,zs,m⟩=>ps.length-i) ⟨0,ys,[]⟩ ⟨rfl,rfl,rfl,rfl,trivial⟩ ⟨Sf _,ho4.RY hf41,⟨rfl,fun _ _=>rfl,fun j _ _ hj=>by omega⟩,hm41,RU,hF41⟩ ?_;rintro⟨i,zs,m⟩ w5 ⟨hi,ho5,hC,hm5,hMI,hF5⟩;refine fK 2 ?_ ?_<;>intro h26
 ·have hil:i<ps.length:=by omega
  obtain⟨p,hp⟩:∃ p,ys[i]?=some p:=⟨_,R7 (by omega)⟩
  have hpm:=hym p (Sd hp);have hzi:zs[i]?=some p:=by rw[hC.2.1 i (Sa _)];exact hp
  have hv5:=ho5.vw aB;have hzb:=hok p hpm p.2.ino (by simp);have hsl:=CX (aQ (ys.take i));have hil2:(aQ (ys.take i)).length=i:=by simp[aQ];omega
  have hml:=hMI.2;have hzl:=hC.1;have hizs:i<zs.length:=by omega
  have hpv:=hv.2 p hpm;have hpmay:=hmay p hpm;refine Gz 13 ?_;refine aW [(5,_),(6,_),(7,_),(24,_),(25,_),(26,_)] ?_;refine Gz 5 ?_;refine cL (OA gL rfl rfl (fun _=>by simp) (by omega)) ?_;refine Gz 9 ?_;refine cL (Ow aL rfl (hv5.rowZ i rfl hzi 1 _ rfl)) ?_;refine cL (Ox (u:=.tuple [iV (if p.2.ino∈aQ (ys.take i) then iT Z p.2.ino else 0),.bool (decide (p.2.ino∈aQ (ys.take i)))].toArray) (O6 Kl qH (a:=(⟨p.2.ino,hzb⟩:I6)) rfl rfl (fun _ e=>by rw[e];exact hm5)) (by rw[hMI.z,hMI.is])) ?_;refine Gz 3 ?_;by_cases h39:p.2.ino∈aQ (ys.take i)
  ·rw[R8 h39];rw[R4 h39];refine Gz 4 ?_;refine O1 (β:=List (I6×Value)) (fun m2=>[(5,.slice (some ⟨b,0,none⟩) ps.length c3),(6,.map (some g)),(8,.pointer (some (adr (some ⟨b,0,none⟩) (i*10)))),(9,iV (iT Z p.2.ino)),(24,iV ps.length),(25,iV i)]) (fun m2 w=>cC enI w.heap g m2∧lJ Z (aQ (ys.take (i+1))) m2∧cH 10 aH 37 w.heap (some ⟨b,0,none⟩) c3 zs∧aA (fun k=>k=b∨k=g) w5 w) ?_ ?_
   ·refine Gz 3 ?_;refine cL (OL rfl) ?_;refine Gz 4 ?_
    first
    |exact aC m ⟨hm5,by rw[nL hp];exact hMI.old h39,ho5,Rk _ _⟩
    |exact O4 _ ⟨rfl,rfl,rfl,congrArg (fun z:Int=>some (Value.int .i64 z)) hnew,rfl,rfl,trivial⟩ ⟨hm6,by rw[nL hp];exact hMI.new (⟨p.2.ino,hzb⟩:I6) h39,ho5.RZ hf6 (fun a ha e=>by cases ha;have e:b=g:=e;omega),hf6.mono (fun k e=>.inr e)⟩
   rintro m2 w6 ⟨hm6,hMI2,ho6,hH6⟩;refine Gz 6 ?_;refine O3 aB (i:=i) (j:=1) (x':=dO Z p) hzi (by decide) rfl aL rfl rfl rfl rfl ho6 ?_;intro w7 ho7 hs7 hf7;have hH7:aA (fun k=>k=b∨k=g) w5 w7:=hH6.step hf7 (fun k ⟨a,ha,e⟩=>.inl (.inl (by cases ha;exact e.symm)));have hzi7:(zs.set i (dO Z p))[i]?=some (dO Z p):=SQ (by omega);have hm7:=hm6.RZ hf7 (fun⟨a,ha,e⟩=>by cases ha;have e:b=g:=e;omega);refine Gz 3 ?_;obtain⟨hxn0,xx,hxv,hxl,hxd,hxx⟩:=hpv.2.2;have hxn:p.1.xs.n=xx.length:=by rw[hxn0,hxl]
   have hx8:p.2.xs.length≤8:=hpmay.2.2.2.2.2.2.2.2.2;have hG7:aA nob W w7:=hF5.RV hH7 (fun k e=>.inr (by rcases e with e|e<;>omega));refine Pi 20 [6,11,16] (fun H=>VwM 10 aH H (some ⟨b,0,none⟩) c3 (zs.set i (dO Z p))) [7,12,17,20,23,26] [0,1,2,3,4,5,6,8,9,10,11,13,14,15,16] (.alt 7 [] (.alt 12 [] (.alt 17 [18,19] (.alt 20 [21,22] (.alt 23 [24,25] (.alt 26 [] .fin .stop) .stop) .stop) .stop) .stop) .stop) aM (by kernel_rfl) ((ho7.vw aB)) ?_;have hH0:aA (fun k=>k=b∨k=g) w5 (w7.drewN 1):=hH7.draws 1;have hG0:aA nob W (w7.drewN 1):=hG7.draws 1;have ho0:cH 10 aH 37 (w7.drewN 1).heap (some ⟨b,0,none⟩) c3 (zs.set i (dO Z p)):=ho7;have hm0:cC enI (w7.drewN 1).heap g m2:=hm7;generalize w7.drewN 1=v0 at hH0 hG0 ho0 hm0 ⊢;refine Sz.calm rfl rfl (Oz rfl) rfl ?_;refine Sz.calm rfl rfl (Oz rfl) rfl ?_;refine Sz.calm rfl rfl (Oz rfl) rfl ?_;refine Sz.calm rfl rfl (Oz rfl) rfl ?_;refine Sz.calm rfl rfl (OM rfl) rfl ?_;refine Sz.calm rfl rfl (OO rD.h rfl) rfl ?_;refine Sz.calm rfl rfl (OB lK rfl (fun H (hH:VwM 10 aH H (some ⟨b,0,none⟩) c3 (zs.set i (dO Z p)))=>hH.rowZ i rfl hzi7 0 _ rfl)) rfl ?_;refine Sz.calm rfl rfl (Oz rfl) rfl ?_;refine Sz.calm rfl rfl (OM rfl) rfl ?_;refine Sz.calm rfl rfl (OO rB.h rfl) rfl ?_;refine Sz.calm rfl rfl (OB aT rfl (fun H (hH:VwM 10 aH H (some ⟨b,0,none⟩) c3 (zs.set i (dO Z p)))=>hH.rowZ i rfl hzi7 6 _ rfl)) rfl ?_;refine Sz.calm rfl rfl (Oz rfl) rfl ?_;refine Sz.calm rfl rfl (OM rfl) rfl ?_;refine Sz.calm rfl rfl (OO lA.h rfl) rfl ?_;refine Sz.calm rfl rfl (OB gO rfl (fun H (hH:VwM 10 aH H (some ⟨b,0,none⟩) c3 (zs.set i (dO Z p)))=>hH.rowZ i rfl hzi7 8 _ rfl)) rfl ?_;refine Sz.alt ?_ ?_
   ·refine RH rfl rfl (Ot Lp rfl ((by show Calls _ _ [Value.slice p.1.names.a p.1.names.n p.1.names.c].toArray _ _;rw[hpv.1.1];exact wX _ _ p.2.names v0 (hpv.RY hG0).1.2.1 (by have:=hnm16 p hpm;omega))) rfl ?_);rintro _ v1 ⟨on,cn,rfl,hon1,hfn,hf1⟩;have hH1:aA (fun k=>k=b∨k=g) w5 v1:=hH0.step hf1 (fun _ h=>h.elim);have hG1:=hG0.trans hf1;have ho1:=ho0.RY hf1;have hm1:=hm0.RZ hf1 id;refine Sz.on (by exact(ho1.vw aB)) ?_;refine Sz.alt ?_ ?_
    ·refine RH rfl rfl (Ot Ca rfl ((by show Calls _ _ [Value.slice p.1.data.a p.1.data.n p.1.data.c].toArray _ _;rw[hpv.2.1.1];exact lD _ _ p.2.data v1 (hpv.RY hG1).2.1.2.1 (by have:=hpmay.2.2.2.2.2.2.1;omega))) rfl ?_);rintro _ v2 ⟨od,cd,rfl,hod2,hfd,hf2b⟩;have hH2:aA (fun k=>k=b∨k=g) w5 v2:=hH1.step hf2b (fun _ h=>h.elim);have hG2:=hG1.trans hf2b;have ho2:=ho1.RY hf2b;have hm2b:=hm1.RZ hf2b id;have hon2:=hon1.RY hf2b;refine Sz.on (by exact(ho2.vw aB)) ?_;refine Sz.alt ?_ ?_
     ·refine RH rfl rfl (Ot Lo rfl ((by show Calls _ _ [Value.slice p.1.xs.a p.1.xs.n p.1.xs.c].toArray _ _;rw[hxn];exact wW _ _ xx v2 (hxv.keep' hG2 (fun _ _ _=>id)) (by omega))) rfl ?_);rintro _ v3 ⟨ox,cx,rfl,hox3,hfx,hf3b⟩;have hH3:aA (fun k=>k=b∨k=g) w5 v3:=hH2.step hf3b (fun _ h=>h.elim);have hG3:=hG2.trans hf3b;have ho3b:=ho2.RY hf3b;have hm3b:=hm2b.RZ hf3b id;have hon3:=hon2.RY hf3b;have hod3:=hod2.RY hf3b;have hfx5:∀ a,ox=some a→w5.heap.size≤a.block:=fun a ha=>by have h1:v2.heap.size≤a.block:=hfx a ha;have:=hH2.size;omega
      have hnx:∀ a c:Addr,on=some a→ox=some c→c.block=a.block→False:=fun a c ha hc e=>by have h1:v2.heap.size≤c.block:=hfx c hc;have h2:=hon2.lt a ha;omega
      have hdx:∀ a c:Addr,od=some a→ox=some c→c.block=a.block→False:=fun a c ha hc e=>by have h1:v2.heap.size≤c.block:=hfx c hc;have h2:=hod2.lt a ha;omega
      have hb0:b<v0.heap.size:=ho0.lt _ rfl;have hg0:g<v0.heap.size:=hm0.obj;have hfn:∀ a,on=some a→b<a.block∧g<a.block:=fun a ha=>by have:=hfn a ha;omega
      have hfd:∀ a,od=some a→b<a.block∧g<a.block:=fun a ha=>by have:=hfd a ha;have:=hf1.size;omega
      have hfx:∀ a,ox=some a→b<a.block∧g<a.block:=fun a ha=>by have:=hfx a ha;have:=hf1.size;have:=hf2b.size;omega
      refine Sz.on (by exact(ho3b.vw aB)) ?_;refine Sz.calm rfl rfl (OM rfl) rfl ?_;refine Sz.calm rfl rfl (OO rD.h rfl) rfl ?_;refine Sz.alt ?_ ?_
      ·refine RH rfl rfl (O3 aB (i:=i) (j:=0) (x':=((⟨⟨on,p.2.names.length,cn⟩,p.1.data,p.1.xs⟩:NdH),(dO Z p).2)) hzi7 (by decide) rfl lK rfl rfl rfl rfl ho3b ?_);intro v4 ho4v hs4v hf4v;rw[Ug] at ho4v;have hz4:=SQ (a:=(((⟨⟨on,p.2.names.length,cn⟩,p.1.data,p.1.xs⟩:NdH),(dO Z p).2):NdH×Nd)) hizs;have hH4:aA (fun k=>k=b∨k=g) w5 v4:=hH3.step hf4v (fun k ⟨a,ha,e⟩=>.inl (.inl (by cases ha;exact e.symm)));have hm4v:=hm3b.RZ hf4v (fun⟨a,ha,e⟩=>by cases ha;have e:b=g:=e;omega);have hon4:=hon3.RZ hf4v (fun a ha ⟨c,hc,e⟩=>by cases hc;have e:b=a.block:=e;have:=hfn a ha;omega);have hod4:=hod3.RZ hf4v (fun a ha ⟨c,hc,e⟩=>by cases hc;have e:b=a.block:=e;have:=hfd a ha;omega);have hox4:=hox3.RZ hf4v (fun a ha ⟨c,hc,e⟩=>by cases hc;have e:b=a.block:=e;have:=hfx a ha;omega);refine Sz.off rfl ?_;refine Sz.calm rfl rfl (OM rfl) rfl ?_;refine Sz.calm rfl rfl (OO rB.h rfl) rfl ?_;refine Sz.alt ?_ ?_
       ·refine RH rfl rfl (O3 aB (i:=i) (j:=6) (x':=((⟨⟨on,p.2.names.length,cn⟩,⟨od,p.2.data.length,cd⟩,p.1.xs⟩:NdH),(dO Z p).2)) hz4 (by decide) rfl aT rfl rfl rfl rfl ho4v ?_);intro v5 ho5v hs5v hf5v;rw[Ug] at ho5v;have hz5:=SQ (a:=(((⟨⟨on,p.2.names.length,cn⟩,⟨od,p.2.data.length,cd⟩,p.1.xs⟩:NdH),(dO Z p).2):NdH×Nd)) hizs;have hH5:aA (fun k=>k=b∨k=g) w5 v5:=hH4.step hf5v (fun k ⟨a,ha,e⟩=>.inl (.inl (by cases ha;exact e.symm)));have hm5v:=hm4v.RZ hf5v (fun⟨a,ha,e⟩=>by cases ha;have e:b=g:=e;omega);have hon5:=hon4.RZ hf5v (fun a ha ⟨c,hc,e⟩=>by cases hc;have e:b=a.block:=e;have:=hfn a ha;omega);have hod5:=hod4.RZ hf5v (fun a ha ⟨c,hc,e⟩=>by cases hc;have e:b=a.block:=e;have:=hfd a ha;omega);have hox5:=hox4.RZ hf5v (fun a ha ⟨c,hc,e⟩=>by cases hc;have e:b=a.block:=e;have:=hfx a ha;omega);refine Sz.off rfl ?_;refine Sz.calm rfl rfl (OM rfl) rfl ?_;refine Sz.calm rfl rfl (OO lA.h rfl) rfl ?_;refine Sz.alt ?_ ?_
        ·refine RH rfl rfl (O3 aB (i:=i) (j:=8) (x':=((⟨⟨on,p.2.names.length,cn⟩,⟨od,p.2.data.length,cd⟩,⟨ox,xx.length,cx⟩⟩:NdH),(dO Z p).2)) hz5 (by decide) rfl gO rfl rfl rfl rfl ho5v ?_);intro v6 ho6v hs6v hf6v;rw[Ug] at ho6v;have hH6v:aA (fun k=>k=b∨k=g) w5 v6:=hH5.step hf6v (fun k ⟨a,ha,e⟩=>.inl (.inl (by cases ha;exact e.symm)));have hm6v:=hm5v.RZ hf6v (fun⟨a,ha,e⟩=>by cases ha;have e:b=g:=e;omega);have hon6:=hon5.RZ hf6v (fun a ha ⟨c,hc,e⟩=>by cases hc;have e:b=a.block:=e;have:=hfn a ha;omega);have hod6:=hod5.RZ hf6v (fun a ha ⟨c,hc,e⟩=>by cases hc;have e:b=a.block:=e;have:=hfd a ha;omega);have hox6:=hox5.RZ hf6v (fun a ha ⟨c,hc,e⟩=>by cases hc;have e:b=a.block:=e;have:=hfx a ha;omega);obtain⟨pz,hpz⟩:∃ pz:NdH×Nd,pz=((⟨⟨on,p.2.names.length,cn⟩,⟨od,p.2.data.length,cd⟩,⟨ox,xx.length,cx⟩⟩:NdH),(dO Z p).2):=⟨_,rfl⟩
         rw[←hpz] at ho6v;have hzi6:(zs.set i pz)[i]?=some pz:=SQ (by omega);have hG6:aA nob W v6:=hF5.RV hH6v (fun k e=>.inr (by rcases e with e|e<;>omega));refine Sz.off rfl ?_;refine RI ?_;refine Gz 6 ?_;refine cL (Ox (u:=.slice ox xx.length cx) (Ow gO rfl ((ho6v.vw aB).rowZ i rfl hzi6 8 _ rfl)) (by rw[hpz];rfl)) ?_;refine Gz 5 ?_;have hb6:b<v6.heap.size:=ho6v.lt _ rfl;have hg6:g<v6.heap.size:=hm6v.obj;refine Oy (β:=Nat×List (By×Hd)) (fun⟨k,us⟩=>[(5,.slice (some ⟨b,0,none⟩) ps.length c3),(6,.map (some g)),(8,.pointer (some (adr (some ⟨b,0,none⟩) (i*10)))),(24,iV ps.length),(25,iV i),(82,.slice ox xx.length cx),(83,iV xx.length),(84,iV k)]) (fun⟨k,us⟩ w=>k≤xx.length∧cH 2 eP 123 w.heap ox cx us∧XrJ v6.heap.size k xx p.2.xs us w∧aA (blk ox) v6 w) (fun⟨k,us⟩=>xx.length-k) ⟨0,xx⟩ ⟨rfl,rfl,rfl,rfl,rfl,rfl,rfl,rfl,trivial⟩ ⟨Sf _,hox6,⟨rfl,fun _ _=>rfl,fun j _ _ hj=>by omega⟩,Rk _ _⟩ ?_;rintro⟨k,us⟩ w8 ⟨hk,hou,hXI,hI8⟩;refine fK 2 ?_ ?_<;>intro h85
         ·have hkx:k<xx.length:=by omega
          obtain⟨x,hx⟩:∃ x,xx[k]?=some x:=⟨_,R7 hkx⟩
          obtain⟨y,hy⟩:∃ y,p.2.xs[k]?=some y:=⟨_,R7 (by omega)⟩
          have hux:us[k]?=some x:=by rw[hXI.2.1 k (Sa _)];exact hx
          have hvu:=hou.vw bM;have hul:=hXI.1;have hxy:=hxx k x y hx hy;have hyl4:y.2.length≤200:=De hpmay hy;refine Gz 11 ?_;refine cL (OA oJ rfl rfl (by rw[←hul];exact hvu.non) (by omega)) ?_;refine cL (OG (cs:=eP x) dM rfl (fun j v hj=>hvu.rowZ k rfl hux j v hj)) ?_;refine Ov rL rfl ?_;intro w9 hg9 hs9 hf9;obtain⟨qx,hqx⟩:∃ qx,qx=w8.heap.size:=⟨_,rfl⟩
          rw[←hqx] at hg9 ⊢;refine Gz 1 ?_;refine OD (vs:=eP x) dM rfl rfl (bM x).2 hg9 rfl ?_;intro wA hgA hsA hfA;have hf8A:aA nob w8 wA:=hf9.RV hfA (fun k e=>.inr (by have e:k=qx:=e;omega));have hI_A:aA (blk ox) v6 wA:=hI8.step hf8A (fun _ h=>h.elim);have hoz8:=ho6v.RZ hI8 (fun a ha ⟨c,hc,e⟩=>by cases ha;have:=hfx c hc;have e:c.block=b:=e;omega);have hozA:=hoz8.RY hf8A;have houA:=hou.RY hf8A;have hqv:v6.heap.size≤qx:=by rw[hqx];exact hI8.size
          refine Gz 1 ?_;refine aW [(5,_),(6,_),(8,_),(11,_),(12,_),(24,_),(25,_),(82,_),(83,_),(84,_),(85,_)] ?_;refine Gz 1 ?_;refine Pi 10 [3,6] (fun H=>VwM 10 aH H (some ⟨b,0,none⟩) c3 (zs.set i pz)∧H[qx]?=some (.cells (eP x).toArray 123 (0,0))) [7,10] [0,1,2,3,4,5,6] (.alt 7 [8,9] (.alt 10 [] .fin .stop) .stop) aM (by kernel_rfl) (⟨hozA.vw aB,hgA⟩) ?_;refine Sz.calm rfl rfl (Oz rfl) rfl ?_;refine Sz.calm rfl rfl (OM rfl) rfl ?_;refine Sz.calm rfl rfl (OO lA.h rfl) rfl ?_;refine Sz.calm rfl rfl (Ox (u:=.slice ox xx.length cx) (OB gO rfl (fun H (hH:VwM 10 aH H (some ⟨b,0,none⟩) c3 (zs.set i pz)∧H[qx]?=some (.cells (eP x).toArray 123 (0,0)))=>hH.1.rowZ i rfl hzi6 8 _ rfl)) (by rw[hpz];rfl)) rfl ?_;refine Sz.calm rfl rfl (Oz rfl) rfl ?_;refine Sz.calm rfl rfl (OO nQ.h rfl) rfl ?_;refine Sz.calm rfl rfl (Ox (u:=.slice x.2.a y.2.length x.2.c) (OB aT rfl (fun H (hH:VwM 10 aH H (some ⟨b,0,none⟩) c3 (zs.set i pz)∧H[qx]?=some (.cells (eP x).toArray 123 (0,0)))=>aD hH.2 rfl)) (by rw[←hxy.2.1];rfl)) rfl ?_;refine Sz.alt ?_ ?_
          ·refine RH rfl rfl (Ot Ca rfl (lD _ _ y.2 _ ((hxy.2.RZ (hG6.RV hI_A (fun k ⟨a,ha,e⟩=>.inr (by have:=hfx a ha;omega))) (fun _ _=>id)).2.1) (by omega)) rfl ?_);rintro _ wB ⟨oB,cB,rfl,hoB,hfB,hfBf⟩;have hfBf:aA nob wA wB:=hfBf.RW;have hozB:=hozA.RY hfBf;have houB:=houA.RY hfBf;refine Sz.on (by exact⟨hozB.vw aB,hfBf.obj hgA id⟩) ?_;refine Sz.calm rfl rfl (OA oJ rfl rfl (by rw[←hul];exact hvu.non) (by omega)) rfl ?_;refine Sz.calm rfl rfl (OO nQ.h rfl) rfl ?_;refine Sz.alt ?_ ?_
           ·refine RH rfl rfl (O3 bM (i:=k) (j:=1) (x':=(x.1,(⟨oB,y.2.length,cB⟩:Hd))) hux (by decide) rfl aT rfl rfl rfl rfl houB ?_);intro wC houC hsC hfC;have hI_C:aA (blk ox) v6 wC:=(hI_A.step hfBf (fun _ h=>h.elim)).trans hfC;have hoBC:=hoB.RZ hfC (fun a ha ⟨c,hc,e⟩=>by have h1:=hfB a ha;have h2:=hou.lt c hc;have h3:=hf8A.size;have e:c.block=a.block:=e;have h1:wA.heap.size≤a.block:=h1;omega);refine Sz.off rfl ?_;refine RI ?_;refine Gz 6 ?_;refine aG ⟨k+1,us.set k (x.1,(⟨oB,y.2.length,cB⟩:Hd))⟩ ⟨by omega,houC,⟨by rw[S7];exact hul,fun j hj=>by rw[S9 (by omega)];exact hXI.2.1 j (by omega),fun j u z hj hu hz=>?_⟩,hI_C⟩ (by show xx.length-(k+1)<xx.length-k;omega);by_cases e:j=k
            · subst e
              rw[SQ (by omega)] at hu;cases hu;rw[hy] at hz;cases hz;exact⟨hxy.1,rfl,hoBC.vw,fun _ q ⟨a,ha,e⟩=>⟨by have h1:wA.heap.size≤a.block:=hfB a ha;have:=hI_A.size;omega,by have:=hoBC.lt a ha;omega⟩⟩
            · rw[S9 (fun h=>e h.symm)] at hu
              obtain⟨h1,h2⟩:=hXI.2.2 j u z (by omega) hu hz;have hfAC:aA (blk ox) w8 wC:=((hf8A.mono (fun _ h=>h.elim)).trans (hfBf.mono (fun _ h=>h.elim))).trans hfC;exact⟨h1,(h2.RZ hfAC (fun q hq ⟨a,ha,e⟩=>by have:=hox6.lt a ha;have:=hq.1;omega)).mono (fun q hq=>⟨hq.1,Te hq.2 hfAC.size⟩)⟩
           exact Sz.stop
          exact Sz.stop
         have hke:k=xx.length:=by omega
         subst hke;refine Gz 14 ?_;have hH8:aA (fun k=>k=b∨k=g) w5 w8:=hH6v.step hI8 (fun k ⟨a,ha,e⟩=>.inr (by have:=hfx5 a ha;omega));have hI8s:=hI8.size;have hfoot:=hI8;have hon8:=hon6.RZ hI8 (fun a ha ⟨c,hc,e⟩=>hnx a c ha hc e);have hod8:=hod6.RZ hI8 (fun a ha ⟨c,hc,e⟩=>hdx a c ha hc e);have hoz8:=ho6v.RZ hI8 (fun a ha ⟨c,hc,e⟩=>by cases ha;have:=hfx c hc;have e:c.block=b:=e;omega);have hm8:=hm6v.RZ hI8 (fun⟨a,ha,e⟩=>by have:=hfx a ha;omega);have hpzv:NdV (fun k=>k≠b∧k≠g∧k<w8.heap.size) w8.heap pz:=by
          rw[hpz];refine⟨⟨rfl,hon8.vw,fun _ k ⟨a,ha,e⟩=>?_⟩,⟨rfl,hod8.vw,fun _ k ⟨a,ha,e⟩=>?_⟩,⟨hxl,us,hou.vw bM,hXI.1.trans hxl,fun _ k ⟨a,ha,e⟩=>?_,fun j u x hu hx=>?_⟩⟩
          ·have h1:=hfn a ha;have h2:=hon8.lt a ha;exact⟨by omega,by omega,by omega⟩
          ·have h1:=hfd a ha;have h2:=hod8.lt a ha;exact⟨by omega,by omega,by omega⟩
          ·have h1:=hfx a ha;have h2:=hou.lt a ha;exact⟨by omega,by omega,by omega⟩
          · obtain⟨h1,h2⟩:=hXI.2.2 j u x (by have:=(R9.1 hu).1;have:=hXI.1;omega) hu hx
            exact⟨h1,h2.mono (fun k hk=>⟨by have:=hk.1;omega,by have:=hk.1;omega,hk.2⟩)⟩
         exact aG ⟨i+1,zs.set i pz,m2⟩ ⟨by omega,hoz8,(hC.RY hH8).put hp (by rw[hpz]) hpzv,hm8,hMI2,hF5.RV hH8 (fun k e=>.inr (by rcases e with e|e<;>omega))⟩ (by show ps.length-(i+1)<ps.length-i;omega)
        exact Sz.stop
       exact Sz.stop
      exact Sz.stop
     exact Sz.stop
    exact Sz.stop
   exact Sz.stop
  rw[R5 h39];rw[R3 h39];have hnew:((m.length:Nat):Int)+1=iT Z p.2.ino:=by rw[hml,hZ,mE hp,As h39]
  refine Gz 4 ?_;refine O1 (β:=List (I6×Value)) (fun m2=>[(5,.slice (some ⟨b,0,none⟩) ps.length c3),(6,.map (some g)),(8,.pointer (some (adr (some ⟨b,0,none⟩) (i*10)))),(9,iV (iT Z p.2.ino)),(24,iV ps.length),(25,iV i)]) (fun m2 w=>cC enI w.heap g m2∧lJ Z (aQ (ys.take (i+1))) m2∧cH 10 aH 37 w.heap (some ⟨b,0,none⟩) c3 zs∧aA (fun k=>k=b∨k=g) w5 w) ?_ ?_
  ·refine Gz 3 ?_;refine cL (OL rfl) ?_;refine Gz 6 ?_;refine cL (PO Kl rfl (fun _ e=>by rw[e];exact hm5)) ?_;refine Gz 9 ?_;refine cL (Ow aL rfl (hv5.rowZ i rfl hzi 1 _ rfl)) ?_;refine Gz 1 ?_;refine OS Kl qH (a:=(⟨p.2.ino,hzb⟩:I6)) rfl rfl rfl hm5 ?_;intro w6 hm6 hs6 hf6;rw[hnew] at hm6;refine Gz 1 ?_
   first
   |exact aC m ⟨hm5,by rw[nL hp];exact hMI.old h39,ho5,Rk _ _⟩
   |exact O4 _ ⟨rfl,rfl,rfl,congrArg (fun z:Int=>some (Value.int .i64 z)) hnew,rfl,rfl,trivial⟩ ⟨hm6,by rw[nL hp];exact hMI.new (⟨p.2.ino,hzb⟩:I6) h39,ho5.RZ hf6 (fun a ha e=>by cases ha;have e:b=g:=e;omega),hf6.mono (fun k e=>.inr e)⟩
  rintro m2 w6 ⟨hm6,hMI2,ho6,hH6⟩;refine Gz 6 ?_;refine O3 aB (i:=i) (j:=1) (x':=dO Z p) hzi (by decide) rfl aL rfl rfl rfl rfl ho6 ?_;intro w7 ho7 hs7 hf7;have hH7:aA (fun k=>k=b∨k=g) w5 w7:=hH6.step hf7 (fun k ⟨a,ha,e⟩=>.inl (.inl (by cases ha;exact e.symm)));have hzi7:(zs.set i (dO Z p))[i]?=some (dO Z p):=SQ (by omega);have hm7:=hm6.RZ hf7 (fun⟨a,ha,e⟩=>by cases ha;have e:b=g:=e;omega);refine Gz 3 ?_;obtain⟨hxn0,xx,hxv,hxl,hxd,hxx⟩:=hpv.2.2;have hxn:p.1.xs.n=xx.length:=by rw[hxn0,hxl]
  have hx8:p.2.xs.length≤8:=hpmay.2.2.2.2.2.2.2.2.2;have hG7:aA nob W w7:=hF5.RV hH7 (fun k e=>.inr (by rcases e with e|e<;>omega));refine Pi 20 [6,11,16] (fun H=>VwM 10 aH H (some ⟨b,0,none⟩) c3 (zs.set i (dO Z p))) [7,12,17,20,23,26] [0,1,2,3,4,5,6,8,9,10,11,13,14,15,16] (.alt 7 [] (.alt 12 [] (.alt 17 [18,19] (.alt 20 [21,22] (.alt 23 [24,25] (.alt 26 [] .fin .stop) .stop) .stop) .stop) .stop) .stop) aM (by kernel_rfl) ((ho7.vw aB)) ?_;have hH0:aA (fun k=>k=b∨k=g) w5 (w7.drewN 1):=hH7.draws 1;have hG0:aA nob W (w7.drewN 1):=hG7.draws 1;have ho0:cH 10 aH 37 (w7.drewN 1).heap (some ⟨b,0,none⟩) c3 (zs.set i (dO Z p)):=ho7;have hm0:cC enI (w7.drewN 1).heap g m2:=hm7;generalize w7.drewN 1=v0 at hH0 hG0 ho0 hm0 ⊢;refine Sz.calm rfl rfl (Oz rfl) rfl ?_;refine Sz.calm rfl rfl (Oz rfl) rfl ?_;refine Sz.calm rfl rfl (Oz rfl) rfl ?_;refine Sz.calm rfl rfl (Oz rfl) rfl ?_;refine Sz.calm rfl rfl (OM rfl) rfl ?_;refine Sz.calm rfl rfl (OO rD.h rfl) rfl ?_;refine Sz.calm rfl rfl (OB lK rfl (fun H (hH:VwM 10 aH H (some ⟨b,0,none⟩) c3 (zs.set i (dO Z p)))=>hH.rowZ i rfl hzi7 0 _ rfl)) rfl ?_;refine Sz.calm rfl rfl (Oz rfl) rfl ?_;refine Sz.calm rfl rfl (OM rfl) rfl ?_;refine Sz.calm rfl rfl (OO rB.h rfl) rfl ?_;refine Sz.calm rfl rfl (OB aT rfl (fun H (hH:VwM 10 aH H (some ⟨b,0,none⟩) c3 (zs.set i (dO Z p)))=>hH.rowZ i rfl hzi7 6 _ rfl)) rfl ?_;refine Sz.calm rfl rfl (Oz rfl) rfl ?_;refine Sz.calm rfl rfl (OM rfl) rfl ?_;refine Sz.calm rfl rfl (OO lA.h rfl) rfl ?_;refine Sz.calm rfl rfl (OB gO rfl (fun H (hH:VwM 10 aH H (some ⟨b,0,none⟩) c3 (zs.set i (dO Z p)))=>hH.rowZ i rfl hzi7 8 _ rfl)) rfl ?_;refine Sz.alt ?_ ?_
  ·refine RH rfl rfl (Ot Lp rfl ((by show Calls _ _ [Value.slice p.1.names.a p.1.names.n p.1.names.c].toArray _ _;rw[hpv.1.1];exact wX _ _ p.2.names v0 (hpv.RY hG0).1.2.1 (by have:=hnm16 p hpm;omega))) rfl ?_);rintro _ v1 ⟨on,cn,rfl,hon1,hfn,hf1⟩;have hH1:aA (fun k=>k=b∨k=g) w5 v1:=hH0.step hf1 (fun _ h=>h.elim);have hG1:=hG0.trans hf1;have ho1:=ho0.RY hf1;have hm1:=hm0.RZ hf1 id;refine Sz.on (by exact(ho1.vw aB)) ?_;refine Sz.alt ?_ ?_
   ·refine RH rfl rfl (Ot Ca rfl ((by show Calls _ _ [Value.slice p.1.data.a p.1.data.n p.1.data.c].toArray _ _;rw[hpv.2.1.1];exact lD _ _ p.2.data v1 (hpv.RY hG1).2.1.2.1 (by have:=hpmay.2.2.2.2.2.2.1;omega))) rfl ?_);rintro _ v2 ⟨od,cd,rfl,hod2,hfd,hf2b⟩;have hH2:aA (fun k=>k=b∨k=g) w5 v2:=hH1.step hf2b (fun _ h=>h.elim);have hG2:=hG1.trans hf2b;have ho2:=ho1.RY hf2b;have hm2b:=hm1.RZ hf2b id;have hon2:=hon1.RY hf2b;refine Sz.on (by exact(ho2.vw aB)) ?_;refine Sz.alt ?_ ?_
    ·refine RH rfl rfl (Ot Lo rfl ((by show Calls _ _ [Value.slice p.1.xs.a p.1.xs.n p.1.xs.c].toArray _ _;rw[hxn];exact wW _ _ xx v2 (hxv.keep' hG2 (fun _ _ _=>id)) (by omega))) rfl ?_);rintro _ v3 ⟨ox,cx,rfl,hox3,hfx,hf3b⟩;have hH3:aA (fun k=>k=b∨k=g) w5 v3:=hH2.step hf3b (fun _ h=>h.elim);have hG3:=hG2.trans hf3b;have ho3b:=ho2.RY hf3b;have hm3b:=hm2b.RZ hf3b id;have hon3:=hon2.RY hf3b;have hod3:=hod2.RY hf3b;have hfx5:∀ a,ox=some a→w5.heap.size≤a.block:=fun a ha=>by have h1:v2.heap.size≤a.block:=hfx a ha;have:=hH2.size;omega
     have hnx:∀ a c:Addr,on=some a→ox=some c→c.block=a.block→False:=fun a c ha hc e=>by have h1:v2.heap.size≤c.block:=hfx c hc;have h2:=hon2.lt a ha;omega
     have hdx:∀ a c:Addr,od=some a→ox=some c→c.block=a.block→False:=fun a c ha hc e=>by have h1:v2.heap.size≤c.block:=hfx c hc;have h2:=hod2.lt a ha;omega
     have hb0:b<v0.heap.size:=ho0.lt _ rfl;have hg0:g<v0.heap.size:=hm0.obj;have hfn:∀ a,on=some a→b<a.block∧g<a.block:=fun a ha=>by have:=hfn a ha;omega
     have hfd:∀ a,od=some a→b<a.block∧g<a.block:=fun a ha=>by have:=hfd a ha;have:=hf1.size;omega
     have hfx:∀ a,ox=some a→b<a.block∧g<a.block:=fun a ha=>by have:=hfx a ha;have:=hf1.size;have:=hf2b.size;omega
     refine Sz.on (by exact(ho3b.vw aB)) ?_;refine Sz.calm rfl rfl (OM rfl) rfl ?_;refine Sz.calm rfl rfl (OO rD.h rfl) rfl ?_;refine Sz.alt ?_ ?_
     ·refine RH rfl rfl (O3 aB (i:=i) (j:=0) (x':=((⟨⟨on,p.2.names.length,cn⟩,p.1.data,p.1.xs⟩:NdH),(dO Z p).2)) hzi7 (by decide) rfl lK rfl rfl rfl rfl ho3b ?_);intro v4 ho4v hs4v hf4v;rw[Ug] at ho4v;have hz4:=SQ (a:=(((⟨⟨on,p.2.names.length,cn⟩,p.1.data,p.1.xs⟩:NdH),(dO Z p).2):NdH×Nd)) hizs;have hH4:aA (fun k=>k=b∨k=g) w5 v4:=hH3.step hf4v (fun k ⟨a,ha,e⟩=>.inl (.inl (by cases ha;exact e.symm)));have hm4v:=hm3b.RZ hf4v (fun⟨a,ha,e⟩=>by cases ha;have e:b=g:=e;omega);have hon4:=hon3.RZ hf4v (fun a ha ⟨c,hc,e⟩=>by cases hc;have e:b=a.block:=e;have:=hfn a ha;omega);have hod4:=hod3.RZ hf4v (fun a ha ⟨c,hc,e⟩=>by cases hc;have e:b=a.block:=e;have:=hfd a ha;omega);have hox4:=hox3.RZ hf4v (fun a ha ⟨c,hc,e⟩=>by cases hc;have e:b=a.block:=e;have:=hfx a ha;omega);refine Sz.off rfl ?_;refine Sz.calm rfl rfl (OM rfl) rfl ?_;refine Sz.calm rfl rfl (OO rB.h rfl) rfl ?_;refine Sz.alt ?_ ?_
      ·refine RH rfl rfl (O3 aB (i:=i) (j:=6) (x':=((⟨⟨on,p.2.names.length,cn⟩,⟨od,p.2.data.length,cd⟩,p.1.xs⟩:NdH),(dO Z p).2)) hz4 (by decide) rfl aT rfl rfl rfl rfl ho4v ?_);intro v5 ho5v hs5v hf5v;rw[Ug] at ho5v;have hz5:=SQ (a:=(((⟨⟨on,p.2.names.length,cn⟩,⟨od,p.2.data.length,cd⟩,p.1.xs⟩:NdH),(dO Z p).2):NdH×Nd)) hizs;have hH5:aA (fun k=>k=b∨k=g) w5 v5:=hH4.step hf5v (fun k ⟨a,ha,e⟩=>.inl (.inl (by cases ha;exact e.symm)));have hm5v:=hm4v.RZ hf5v (fun⟨a,ha,e⟩=>by cases ha;have e:b=g:=e;omega);have hon5:=hon4.RZ hf5v (fun a ha ⟨c,hc,e⟩=>by cases hc;have e:b=a.block:=e;have:=hfn a ha;omega);have hod5:=hod4.RZ hf5v (fun a ha ⟨c,hc,e⟩=>by cases hc;have e:b=a.block:=e;have:=hfd a ha;omega);have hox5:=hox4.RZ hf5v (fun a ha ⟨c,hc,e⟩=>by cases hc;have e:b=a.block:=e;have:=hfx a ha;omega);refine Sz.off rfl ?_;refine Sz.calm rfl rfl (OM rfl) rfl ?_;refine Sz.calm rfl rfl (OO lA.h rfl) rfl ?_;refine Sz.alt ?_ ?_
       ·refine RH rfl rfl (O3 aB (i:=i) (j:=8) (x':=((⟨⟨on,p.2.names.length,cn⟩,⟨od,p.2.data.length,cd⟩,⟨ox,xx.length,cx⟩⟩:NdH),(dO Z p).2)) hz5 (by decide) rfl gO rfl rfl rfl rfl ho5v ?_);intro v6 ho6v hs6v hf6v;rw[Ug] at ho6v;have hH6v:aA (fun k=>k=b∨k=g) w5 v6:=hH5.step hf6v (fun k ⟨a,ha,e⟩=>.inl (.inl (by cases ha;exact e.symm)));have hm6v:=hm5v.RZ hf6v (fun⟨a,ha,e⟩=>by cases ha;have e:b=g:=e;omega);have hon6:=hon5.RZ hf6v (fun a ha ⟨c,hc,e⟩=>by cases hc;have e:b=a.block:=e;have:=hfn a ha;omega);have hod6:=hod5.RZ hf6v (fun a ha ⟨c,hc,e⟩=>by cases hc;have e:b=a.block:=e;have:=hfd a ha;omega);have hox6:=hox5.RZ hf6v (fun a ha ⟨c,hc,e⟩=>by cases hc;have e:b=a.block:=e;have:=hfx a ha;omega);obtain⟨pz,hpz⟩:∃ pz:NdH×Nd,pz=((⟨⟨on,p.2.names.length,cn⟩,⟨od,p.2.data.length,cd⟩,⟨ox,xx.length,cx⟩⟩:NdH),(dO Z p).2):=⟨_,rfl⟩
        rw[←hpz] at ho6v;have hzi6:(zs.set i pz)[i]?=some pz:=SQ (by omega);have hG6:aA nob W v6:=hF5.RV hH6v (fun k e=>.inr (by rcases e with e|e<;>omega));refine Sz.off rfl ?_;refine RI ?_;refine Gz 6 ?_;refine cL (Ox (u:=.slice ox xx.length cx) (Ow gO rfl ((ho6v.vw aB).rowZ i rfl hzi6 8 _ rfl)) (by rw[hpz];rfl)) ?_;refine Gz 5 ?_;have hb6:b<v6.heap.size:=ho6v.lt _ rfl;have hg6:g<v6.heap.size:=hm6v.obj;refine Oy (β:=Nat×List (By×Hd)) (fun⟨k,us⟩=>[(5,.slice (some ⟨b,0,none⟩) ps.length c3),(6,.map (some g)),(8,.pointer (some (adr (some ⟨b,0,none⟩) (i*10)))),(24,iV ps.length),(25,iV i),(82,.slice ox xx.length cx),(83,iV xx.length),(84,iV k)]) (fun⟨k,us⟩ w=>k≤xx.length∧cH 2 eP 123 w.heap ox cx us∧XrJ v6.heap.size k xx p.2.xs us w∧aA (blk ox) v6 w) (fun⟨k,us⟩=>xx.length-k) ⟨0,xx⟩ ⟨rfl,rfl,rfl,rfl,rfl,rfl,rfl,rfl,trivial⟩ ⟨Sf _,hox6,⟨rfl,fun _ _=>rfl,fun j _ _ hj=>by omega⟩,Rk _ _⟩ ?_;rintro⟨k,us⟩ w8 ⟨hk,hou,hXI,hI8⟩;refine fK 2 ?_ ?_<;>intro h85
        ·have hkx:k<xx.length:=by omega
         obtain⟨x,hx⟩:∃ x,xx[k]?=some x:=⟨_,R7 hkx⟩
         obtain⟨y,hy⟩:∃ y,p.2.xs[k]?=some y:=⟨_,R7 (by omega)⟩
         have hux:us[k]?=some x:=by rw[hXI.2.1 k (Sa _)];exact hx
         have hvu:=hou.vw bM;have hul:=hXI.1;have hxy:=hxx k x y hx hy;have hyl4:y.2.length≤200:=De hpmay hy;refine Gz 11 ?_;refine cL (OA oJ rfl rfl (by rw[←hul];exact hvu.non) (by omega)) ?_;refine cL (OG (cs:=eP x) dM rfl (fun j v hj=>hvu.rowZ k rfl hux j v hj)) ?_;refine Ov rL rfl ?_;intro w9 hg9 hs9 hf9;obtain⟨qx,hqx⟩:∃ qx,qx=w8.heap.size:=⟨_,rfl⟩
         rw[←hqx] at hg9 ⊢;refine Gz 1 ?_;refine OD (vs:=eP x) dM rfl rfl (bM x).2 hg9 rfl ?_;intro wA hgA hsA hfA;have hf8A:aA nob w8 wA:=hf9.RV hfA (fun k e=>.inr (by have e:k=qx:=e;omega));have hI_A:aA (blk ox) v6 wA:=hI8.step hf8A (fun _ h=>h.elim);have hoz8:=ho6v.RZ hI8 (fun a ha ⟨c,hc,e⟩=>by cases ha;have:=hfx c hc;have e:c.block=b:=e;omega);have hozA:=hoz8.RY hf8A;have houA:=hou.RY hf8A;have hqv:v6.heap.size≤qx:=by rw[hqx];exact hI8.size
         refine Gz 1 ?_;refine aW [(5,_),(6,_),(8,_),(11,_),(12,_),(24,_),(25,_),(82,_),(83,_),(84,_),(85,_)] ?_;refine Gz 1 ?_;refine Pi 10 [3,6] (fun H=>VwM 10 aH H (some ⟨b,0,none⟩) c3 (zs.set i pz)∧H[qx]?=some (.cells (eP x).toArray 123 (0,0))) [7,10] [0,1,2,3,4,5,6] (.alt 7 [8,9] (.alt 10 [] .fin .stop) .stop) aM (by kernel_rfl) (⟨hozA.vw aB,hgA⟩) ?_;refine Sz.calm rfl rfl (Oz rfl) rfl ?_;refine Sz.calm rfl rfl (OM rfl) rfl ?_;refine Sz.calm rfl rfl (OO lA.h rfl) rfl ?_;refine Sz.calm rfl rfl (Ox (u:=.slice ox xx.length cx) (OB gO rfl (fun H (hH:VwM 10 aH H (some ⟨b,0,none⟩) c3 (zs.set i pz)∧H[qx]?=some (.cells (eP x).toArray 123 (0,0)))=>hH.1.rowZ i rfl hzi6 8 _ rfl)) (by rw[hpz];rfl)) rfl ?_;refine Sz.calm rfl rfl (Oz rfl) rfl ?_;refine Sz.calm rfl rfl (OO nQ.h rfl) rfl ?_;refine Sz.calm rfl rfl (Ox (u:=.slice x.2.a y.2.length x.2.c) (OB aT rfl (fun H (hH:VwM 10 aH H (some ⟨b,0,none⟩) c3 (zs.set i pz)∧H[qx]?=some (.cells (eP x).toArray 123 (0,0)))=>aD hH.2 rfl)) (by rw[←hxy.2.1];rfl)) rfl ?_;refine Sz.alt ?_ ?_
         ·refine RH rfl rfl (Ot Ca rfl (lD _ _ y.2 _ ((hxy.2.RZ (hG6.RV hI_A (fun k ⟨a,ha,e⟩=>.inr (by have:=hfx a ha;omega))) (fun _ _=>id)).2.1) (by omega)) rfl ?_);rintro _ wB ⟨oB,cB,rfl,hoB,hfB,hfBf⟩;have hfBf:aA nob wA wB:=hfBf.RW;have hozB:=hozA.RY hfBf;have houB:=houA.RY hfBf;refine Sz.on (by exact⟨hozB.vw aB,hfBf.obj hgA id⟩) ?_;refine Sz.calm rfl rfl (OA oJ rfl rfl (by rw[←hul];exact hvu.non) (by omega)) rfl ?_;refine Sz.calm rfl rfl (OO nQ.h rfl) rfl ?_;refine Sz.alt ?_ ?_
          ·refine RH rfl rfl (O3 bM (i:=k) (j:=1) (x':=(x.1,(⟨oB,y.2.length,cB⟩:Hd))) hux (by decide) rfl aT rfl rfl rfl rfl houB ?_);intro wC houC hsC hfC;have hI_C:aA (blk ox) v6 wC:=(hI_A.step hfBf (fun _ h=>h.elim)).trans hfC;have hoBC:=hoB.RZ hfC (fun a ha ⟨c,hc,e⟩=>by have h1:=hfB a ha;have h2:=hou.lt c hc;have h3:=hf8A.size;have e:c.block=a.block:=e;have h1:wA.heap.size≤a.block:=h1;omega);refine Sz.off rfl ?_;refine RI ?_;refine Gz 6 ?_;refine aG ⟨k+1,us.set k (x.1,(⟨oB,y.2.length,cB⟩:Hd))⟩ ⟨by omega,houC,⟨by rw[S7];exact hul,fun j hj=>by rw[S9 (by omega)];exact hXI.2.1 j (by omega),fun j u z hj hu hz=>?_⟩,hI_C⟩ (by show xx.length-(k+1)<xx.length-k;omega);by_cases e:j=k
           · subst e
             rw[SQ (by omega)] at hu;cases hu;rw[hy] at hz;cases hz;exact⟨hxy.1,rfl,hoBC.vw,fun _ q ⟨a,ha,e⟩=>⟨by have h1:wA.heap.size≤a.block:=hfB a ha;have:=hI_A.size;omega,by have:=hoBC.lt a ha;omega⟩⟩
           · rw[S9 (fun h=>e h.symm)] at hu
             obtain⟨h1,h2⟩:=hXI.2.2 j u z (by omega) hu hz;have hfAC:aA (blk ox) w8 wC:=((hf8A.mono (fun _ h=>h.elim)).trans (hfBf.mono (fun _ h=>h.elim))).trans hfC;exact⟨h1,(h2.RZ hfAC (fun q hq ⟨a,ha,e⟩=>by have:=hox6.lt a ha;have:=hq.1;omega)).mono (fun q hq=>⟨hq.1,Te hq.2 hfAC.size⟩)⟩
          exact Sz.stop
         exact Sz.stop
        have hke:k=xx.length:=by omega
        subst hke;refine Gz 14 ?_;have hH8:aA (fun k=>k=b∨k=g) w5 w8:=hH6v.step hI8 (fun k ⟨a,ha,e⟩=>.inr (by have:=hfx5 a ha;omega));have hI8s:=hI8.size;have hfoot:=hI8;have hon8:=hon6.RZ hI8 (fun a ha ⟨c,hc,e⟩=>hnx a c ha hc e);have hod8:=hod6.RZ hI8 (fun a ha ⟨c,hc,e⟩=>hdx a c ha hc e);have hoz8:=ho6v.RZ hI8 (fun a ha ⟨c,hc,e⟩=>by cases ha;have:=hfx c hc;have e:c.block=b:=e;omega);have hm8:=hm6v.RZ hI8 (fun⟨a,ha,e⟩=>by have:=hfx a ha;omega);have hpzv:NdV (fun k=>k≠b∧k≠g∧k<w8.heap.size) w8.heap pz:=by
         rw[hpz];refine⟨⟨rfl,hon8.vw,fun _ k ⟨a,ha,e⟩=>?_⟩,⟨rfl,hod8.vw,fun _ k ⟨a,ha,e⟩=>?_⟩,⟨hxl,us,hou.vw bM,hXI.1.trans hxl,fun _ k ⟨a,ha,e⟩=>?_,fun j u x hu hx=>?_⟩⟩
         ·have h1:=hfn a ha;have h2:=hon8.lt a ha;exact⟨by omega,by omega,by omega⟩
         ·have h1:=hfd a ha;have h2:=hod8.lt a ha;exact⟨by omega,by omega,by omega⟩
         ·have h1:=hfx a ha;have h2:=hou.lt a ha;exact⟨by omega,by omega,by omega⟩
         · obtain⟨h1,h2⟩:=hXI.2.2 j u x (by have:=(R9.1 hu).1;have:=hXI.1;omega) hu hx
           exact⟨h1,h2.mono (fun k hk=>⟨by have:=hk.1;omega,by have:=hk.1;omega,hk.2⟩)⟩
        exact aG ⟨i+1,zs.set i pz,m2⟩ ⟨by omega,hoz8,(hC.RY hH8).put hp (by rw[hpz]) hpzv,hm8,hMI2,hF5.RV hH8 (fun k e=>.inr (by rcases e with e|e<;>omega))⟩ (by show ps.length-(i+1)<ps.length-i;omega)
       exact Sz.stop
      exact Sz.stop
     exact Sz.stop
    exact Sz.stop
   exact Sz.stop
  exact Sz.stop
 have hie:i=ps.length:=by omega
 subst hie;refine Gz 15 ?_;refine aW [(2,_),(3,_),(5,_),(6,_),(24,_),(25,_),(26,_)] ?_;refine Gz 3 ?_;have hle:zs.length=ps.length:=by rw[hC.1,hyl]
 refine⟨_,rfl,some ⟨b,0,none⟩,c3,zs,by rw[hle,hz],fun h=>absurd hz h,fun _=>?_,⟨ho5.vw aB,fun q hq=>?_⟩,fun a ha=>by cases ha;exact hbW,hF5⟩
 ·rw[←hyl,hZ] at hC;rw[hC.eq,hys];rfl
 · obtain⟨j,hj⟩:=Sr hq
   have hjl:=(R9.1 hj).1;exact(hC.2.2 j q _ (by omega) hj (R7 (by omega))).2.mono (fun _ _=>trivial)
end
section
variable {P:Program}{N:Nt}{ops:Array Oper}{Q:Exit→Act→World→Prop}{rest:List Oper}{l:SF}{w:World}{d:Nat}{ty:TypeId}{pos:String}{aft:Array Edge}{x y:Operand}{t:TypeId}
theorem QR{α:Type}{enc:α→Value}(henc:∀ x,(enc x).oneCell'=true){e:TypeId}{bytes g:Nat}(ht:aN P t e 1 bytes){b:Addr}{cap bcap:Nat}{xs ys:List α}
 (hx:evL l x=some (.slice (some ⟨g,0,none⟩) xs.length cap))(hy:evL l y=some (.slice (some b) ys.length bcap))(ho:Own enc e w.heap (some ⟨g,0,none⟩) cap xs)(hv:Vw enc w.heap (some b) bcap ys)(hl:ys.length≤xs.length)(hd:Nat.blt d N.n=true)
 (h:∀ w',Own enc e w'.heap (some ⟨g,0,none⟩) cap (ys++xs.drop ys.length)→w'.heap.size=w.heap.size→aA (· = g) w w'→Sl P N ops Q rest ((d,iV (ys.length:Nat))::l) w') :
 Sl P N ops Q (⟨some d,.call ⟨.builtin .copy,#[x,y],#[t,t]⟩,ty,pos,aft,none⟩::rest) l w:=by
 obtain⟨i,z,hi,h1,hz,h2,h3⟩:=ht.parts;rcases ho with⟨h,_⟩|⟨g',cur,he,hg,g1,g2,g3,g4⟩
 ·cases h
 cases he;have hnews:∀ j v,(ys.map enc)[j]?=some v→w.cell? (b.add j)=some v:=by
  intro j v hv2;rw[SU] at hv2;obtain⟨u,hu,rfl⟩:=Sn.1 hv2;exact hv.get j u hu
 have hr:=run_copy_row (P:=P) w t t ty e g 0 xs.length cap b ys.length bcap cur e (ys.map enc) ht.und (by rw[hi];simp[h2]) hg (by rw[SC];exact(Td hl).symm) hnews (by rw[SC];omega)
  (fun v hv2=>by obtain⟨u,_,rfl⟩:=SN.1 hv2;exact henc u)
 refine OY (w':=_) (v:=iV (ys.length:Nat)) (fun a ha=>?_) hd (h (w.setRow g (cur.toList.take 0++ys.map enc++cur.toList.drop (0+(ys.map enc).length)).toArray) ?_ ?_ ?_)
 ·simp[execOp,ha.ev hx,ha.ev hy,resolve,invoke,builtin,hr,goInt]
 · refine .inr ⟨g,_,rfl,setRow_heap w g cur _ e _ hg,?_,g2,?_,?_⟩
   ·rw[R6,Sm];omega
   ·simp only[List.size_toArray,R6,Sh,Sm,SC,Ts];omega
   · have e1:(ys++xs.drop ys.length).length=xs.length:=by rw[R6,Sm];omega
     rw[e1,List.map_append,List.map_drop,←g4];simp only[List.take_zero,S2,SC,Nat.zero_add];rw[List.take_append,SC,So (by rw[SC];exact hl),List.drop_take]
 ·simp[World.setRow]
 ·exact⟨rfl,rfl,rfl,by simp[World.setRow],fun k hk hn=>setRow_other w g k _ (fun e=>hn e)⟩
end
section
open Go Go.RowKit Go.Maps
theorem ByV.lts{D:Nat→Prop}{H:Array Obj}{h:Hd}{l:By}(v:ByV D H h l):ByV (fun k=>k<H.size) H h l:=⟨v.1,v.2.1,fun hne k ⟨a,ha,e⟩=>by have:=v.2.1.lt hne a ha;show k<H.size;omega⟩
theorem XsV.lts{D:Nat→Prop}{H:Array Obj}{h:Hd}{X:List Xa}(v:XsV D H h X):XsV (fun k=>k<H.size) H h X:=by
 obtain⟨h1,ys,h2,h3,h4,h5⟩:=v;exact⟨h1,ys,h2,h3,fun hne k ⟨a,ha,e⟩=>by have:=h2.lt hne (fun x e=>by cases e) a ha;show k<H.size;omega,fun i x y hx hy=>⟨(h5 i x y hx hy).1,(h5 i x y hx hy).2.lts⟩⟩
theorem bD.lts{D:Nat→Prop}{H:Array Obj}{ao:Option Addr}{c:Nat}{ps:List (NdH×Nd)}(v:bD D H ao c ps):bD (fun k=>k<H.size) H ao c ps:=⟨v.1,fun p hp=>⟨(v.2 p hp).1.real,(v.2 p hp).2.1.lts,(v.2 p hp).2.2.lts⟩⟩
theorem iU{qs rs:List (NdH×Nd)}(h:nds qs=nds rs){i:Nat}{q:NdH×Nd}(hq:qs[i]?=some q):∃ r,rs[i]?=some r∧r.2=q.2:=by
 have h1:=dI hq;rw[h] at h1;unfold nds at h1;rw[SU] at h1;obtain⟨r,hr,e⟩:=Sn.1 h1;exact⟨r,hr,e⟩
theorem gH{qs rs:List (NdH×Nd)}(h:nds qs=nds rs){q:NdH×Nd}(hq:q∈qs):∃ r∈rs,r.2=q.2:=by
 obtain⟨i,hi⟩:=Sr hq;obtain⟨r,hr,e⟩:=iU h hi;exact⟨r,Sd hr,e⟩
theorem GdT.nds{rs qs:List (NdH×Nd)}(G:GdT rs)(h:nds qs=nds rs):GdT qs:=by
 have hl:=nH h;refine⟨by rw[hl];exact G.n,fun q hq=>?_,fun q hq=>?_,fun q hq=>?_,fun q hq=>?_,fun i j p q hij hp hq=>?_,fun i j p q hij hp hq e=>?_,?_,fun q hq hne=>?_⟩
 · obtain⟨r,hr,e⟩:=gH h hq
   rw[←e,hl];exact G.ino r hr
 · obtain⟨r,hr,e⟩:=gH h hq
   rw[←e];exact G.may r hr
 · obtain⟨r,hr,e⟩:=gH h hq
   rw[←e];exact G.nmv r hr
 · obtain⟨r,hr,e⟩:=gH h hq
   rw[←e];exact G.dep r hr
 · obtain⟨r,hr,e⟩:=iU h hp
   obtain⟨t,ht,e2⟩:=iU h hq;rw[←e,←e2];exact G.lt i j r t hij hr ht
 · obtain⟨r,hr,e1⟩:=iU h hp
   obtain⟨t,ht,e2⟩:=iU h hq;rw[←e1,←e2] at e ⊢;exact G.lnk i j r t hij hr ht e
 · obtain⟨q,hq,h1,h2⟩:=G.root
   obtain⟨r,hr,e⟩:=iU h.symm hq;exact⟨r,hr,by rw[e];exact h1,by rw[e];exact h2⟩
 · obtain⟨r,hr,e⟩:=gH h hq
   rw[←e] at hne;obtain⟨p,hp,h1,h2⟩:=G.up r hr hne;obtain⟨t,ht,e2⟩:=gH h.symm hp;exact⟨t,ht,by rw[e2,h1,e],by rw[e2];exact h2⟩
theorem C7(ps:List (NdH×Nd)):gU ps=(nds ps).flatMap (fun n=>[n.ud,n.gd]):=by simp[gU,nds,List.flatMap_map]
theorem pJ.nds{qs rs:List (NdH×Nd)}{ids:List Int}(h:pJ qs ids)(e:nds qs=nds rs):pJ rs ids:=⟨h.1,fun z=>by rw[h.2 z,C7,C7,e]⟩
theorem GdT.okN{qs:List (NdH×Nd)}(G:GdT qs):∀ q∈qs,okN q.2:=by
 intro q hq z hz;obtain⟨⟨k1,k2⟩,_,⟨m1,m2⟩,⟨u1,u2⟩,⟨g1,g2⟩,_⟩:=G.may q hq;have:=G.ino q hq;have hn:=G.n.2;simp only[St,SD,or_false] at hz;rcases hz with rfl|rfl|rfl|rfl|rfl<;>omega
theorem Kz{qs:List (NdH×Nd)}{ids:List Int}(G:GdT qs)(I:pJ qs ids)(F:FI (nds qs) (qs.length+1) (aO qs)):GdP qs ids (aO qs).files where
 B:=G.gdB F.l (GZ F)
 xs:=fun q hq=>(G.may q hq).2.2.2.2.2.2.2.2
 tg:=fun q hq hk=>by
  have h:=(G.may q hq).2.2.2.2.2.2.2.1;unfold okT at h;rw[R3 hk] at h;exact h
 kd:=fun q hq=>by have:=(G.may q hq).1;omega
 fo:=fun q hq hk=>F.a q.2 (SN.2 ⟨q,hq,rfl⟩) hk
 fz:=fun q hq hk h=>by
  by_cases hl:q.2.ino.toNat<(aO qs).files.length
  · have he:=R7 hl
    have hd:(aO qs).files.getD q.2.ino.toNat bW=(aO qs).files[q.2.ino.toNat]:=by rw[Sj,he];rfl
    rcases F.f _ _ he with e|⟨x,hx,hx2,hxi,_⟩
    ·rw[hd,e] at h;cases h
    · obtain⟨y,hy,rfl⟩:=SN.1 hx
      have h1:=G.ino q hq;have h2:=G.ino y hy;exact hk (by rw[←(G.same hq hy (by omega)).1];exact hx2)
  ·rw[Sj,SY (by omega)] at h;cases h
 ft:=fun f hf=>by
  obtain⟨i,hi⟩:=Sr hf;rcases F.f i f hi with e|⟨x,_,_,_,st,fr,off,e,_⟩
  ·rw[e];rfl
  ·rw[e]
 ir:=I.1
 io:=fun q hq=>⟨(I.2 _).2 (qT hq).1,(I.2 _).2 (qT hq).2⟩
 il:=by have:=nO I;have:=G.n.2;omega
theorem Dc(tp:Nat)(lo:Option Addr)(lc:Nat)(l:List Int)(wide:Int)(W:World)(ht:TbV W.heap tp)(hv:Vw i64 W.heap lo lc l)(hl:l.length≤1000)(hb:(aK l wide).1.length≤100000) :
 Calls Tryz.prog 24 (([.slice lo l.length lc,iV wide]:List Value)++([pT tp]:List Value)).toArray W (Ret (kM W (dnW (aK l wide).1))):=by
 simp only[List.cons_append,S2];have htl:=(Sb.1 ht).1;refine cS 21 [(0,_),(1,_),(2,_)] Tryz.func24 ?_;refine cA 7 IZ (nC tp W ht) ?_;rintro _ w1 ⟨rfl,hM1,hf1⟩;have hz1:=hf1.size;refine Gz 7 ?_;refine Ot Oa rfl (BO lo lc l wide w1 (hv.RY hf1) (by omega)) rfl ?_;rintro _ w2 ⟨o2,c2,rfl,ho2,hfr2,hf2⟩;have hM2:=hM1.RZ hf2 (fun _ _=>id) id;have hz2:=hf2.size;refine Gz 11 ?_;refine Ot IY rfl (nG (fun k=>W.heap.size≤k∧k<w1.heap.size) W.heap.size tp [] o2 c2 (aK l wide).1 w2 hM2 ho2.vw (by rw[SL];omega)) rfl ?_;rintro _ w3 ⟨rfl,hM3,hf3⟩;rw[S2] at hM3;have hz3:=hf3.size;refine Gz 5 ?_;refine Ot IX rfl (kS (Nx (fun k=>W.heap.size≤k∧k<w1.heap.size) w2 w3) W.heap.size tp (aK l wide).1 w3 hM3 (by omega)) rfl ?_;rintro _ w4 ⟨o4,c4,rfl,ho4,hfr4,hf4⟩;refine Gz 5 ?_;have hF3:aA nob W w3:=(hf1.trans hf2).RV hf3 (fun k h=>.inr h.1);exact⟨_,rfl,o4,c4,rfl,ho4,hfr4.mono (by omega),hF3.trans hf4⟩
def owB(B1 B2 B3 B4 B5 B6:Nat):Nat→Nat:=fun k=>if k<B1 then 4 else if k<B2 then 1 else if k<B3 then 2 else if k<B4 then 3 else if k<B5 then 4 else if k=B5 then 5 else if k=B5+1 then 7 else if k=B5+2 then 8 else if k=B5+3 then 6 else if k<B6 then 9 else 0
section
variable {B1 B2 B3 B4 B5 B6:Nat}(h:B1≤B2∧B2≤B3∧B3≤B4∧B4≤B5∧B5+4≤B6){k:Nat}
theorem NG(hk:k<B1):owB B1 B2 B3 B4 B5 B6 k=4:=R4 hk
theorem NJ(hk:B1≤k∧k<B2):owB B1 B2 B3 B4 B5 B6 k=1:=by unfold owB;rw[R3 (by omega),R4 (by omega)]
include h
theorem NI(hk:B2≤k∧k<B3):owB B1 B2 B3 B4 B5 B6 k=2:=by unfold owB;rw[R3 (by omega),R3 (by omega),R4 (by omega)]
theorem NH(hk:B3≤k∧k<B4):owB B1 B2 B3 B4 B5 B6 k=3:=by unfold owB;rw[R3 (by omega),R3 (by omega),R3 (by omega),R4 (by omega)]
theorem Li(hk:B4≤k∧k<B5):owB B1 B2 B3 B4 B5 B6 k=4:=by unfold owB;rw[R3 (by omega),R3 (by omega),R3 (by omega),R3 (by omega),R4 (by omega)]
theorem NF:owB B1 B2 B3 B4 B5 B6 B5=5:=by unfold owB;rw[R3 (by omega),R3 (by omega),R3 (by omega),R3 (by omega),R3 (by omega),R4 rfl]
theorem ND:owB B1 B2 B3 B4 B5 B6 (B5+1)=7:=by unfold owB;rw[R3 (by omega),R3 (by omega),R3 (by omega),R3 (by omega),R3 (by omega),R3 (by omega),R4 rfl]
theorem NC:owB B1 B2 B3 B4 B5 B6 (B5+2)=8:=by unfold owB;rw[R3 (by omega),R3 (by omega),R3 (by omega),R3 (by omega),R3 (by omega),R3 (by omega),R3 (by omega),R4 rfl]
theorem NE:owB B1 B2 B3 B4 B5 B6 (B5+3)=6:=by unfold owB;rw[R3 (by omega),R3 (by omega),R3 (by omega),R3 (by omega),R3 (by omega),R3 (by omega),R3 (by omega),R3 (by omega),R4 rfl]
theorem NB(hk:B5+4≤k∧k<B6):owB B1 B2 B3 B4 B5 B6 k=9:=by unfold owB;rw[R3 (by omega),R3 (by omega),R3 (by omega),R3 (by omega),R3 (by omega),R3 (by omega),R3 (by omega),R3 (by omega),R3 (by omega),R4 (by omega)]
theorem NK(hk:B6≤k):owB B1 B2 B3 B4 B5 B6 k=0:=by unfold owB;rw[R3 (by omega),R3 (by omega),R3 (by omega),R3 (by omega),R3 (by omega),R3 (by omega),R3 (by omega),R3 (by omega),R3 (by omega),R3 (by omega)]
end
theorem PiX.relab{a:PiA}{ow ow':Nat→Nat}{H:Array Obj}{g tp:Nat}{qs:List (NdH×Nd)}{ids:List Int}{files:List Ino}{s:BSt}(h:PiX 0 a ow H g tp qs ids files s)(kz:∀ c,c≠0→c≤8→∀ k,ow k=c→ow' k=c):PiX 0 a ow' H g tp qs ids files s:=by
 obtain⟨⟨b1,b2⟩,⟨⟨n0,n1⟩,n2⟩,⟨i1,i2⟩,⟨t1,t2⟩,w1,w2,w3,⟨r1,r2⟩,⟨f1,f2⟩,z1,z2⟩:=h;have k4:=kz 4 (by decide) (by decide);have tn:∀ c,c≠4→¬ ow' tp=c:=fun c hc=>by rw[k4 tp t2];exact fun h=>hc h.symm
 exact⟨⟨b1,kz 6 (by decide) (by decide) g b2⟩,⟨⟨n0,fun p hp=>(n1 p hp).mono k4⟩,fun hne k hk=>k4 k (n2 hne k hk)⟩,⟨i1,fun hne k hk=>k4 k (i2 hne k hk)⟩,⟨t1,k4 tp t2⟩,
  fun hc=>(w1 hc).mono (kz 1 (by decide) (by decide)) (tn 1 (by decide)),fun hc=>(w2 hc).mono (kz 2 (by decide) (by decide)) (tn 2 (by decide)),fun hc=>(w3 hc).mono (kz 3 (by decide) (by decide)) (tn 3 (by decide)),
  ⟨kz 5 (by decide) (by decide) _ r1,r2⟩,⟨kz 7 (by decide) (by decide) _ f1,f2⟩,kz 8 (by decide) (by decide) _ z1,z2⟩
theorem uT.zero(n:Nat):uT [] (Sy n 0):=fun a _=>by
 have e:(Sy n (0:Int)).getD a.1.toNat 0=0:=by rw[Sj,UD];split<;>rfl
 rw[e];rfl
theorem Cz.zero(n:Nat):Cz [] (Sy n bW):=fun a _=>by
 have e:(Sy n bW).getD a.1.toNat bW=bW:=by rw[Sj,UD];split<;>rfl
 rw[e];rfl
theorem Cw.zero:Cw [] []:=fun X _ _=>rfl
theorem DZ(n:Nat):(qE (mK n)).length=0:=by
 unfold qE mK;rw[List.filter_replicate];rfl
def oB:List Nat:=[2,3,4,5,6,0]
def ffB(F:Nat→Int)(Ps:List By):Nat→(Nat→Int)
|0=>F
|i+1=>upd (ffB F Ps i) (oB.getD i 0) (64+((Ps.take (i+1)).flatten.length:Nat))
theorem JB{i:Nat}(h:i<6):oB.getD i 0<10:=by
 match i,h with
|0,_|1,_|2,_|3,_|4,_|5,_=>decide
theorem I0{Ps:List By}{i:Nat}{x:By}(h:Ps[i]?=some x):(Ps.take (i+1)).flatten=(Ps.take i).flatten++x:=by rw[tkL h];simp
def cX(A:uI)(ids:List Int):List By:=[A.d.B,dnW A.s.ino,dnW A.s.lst,dnW (aK A.pl 4).1,dnW (aK ids 2).1,dnW A.s.fur]
theorem lX(A:uI)(ids:List Int):(cX A ids).flatten=eQ A ids:=by
 unfold cX eQ gW fY fH eU eV;simp only[List.flatten_cons,List.flatten_nil,List.append_nil,SI]
theorem I5(A:uI)(qs:List (NdH×Nd))(ids:List Int)(F:Nat→Int)(hF:F=fun j=>[0,(A.s.many:Int),0,0,0,0,0,(ids.length:Int),(A.pl.length:Int),A.s.refs.getD (ndB qs 0).ino.toNat 0-1].getD j 0):cE (ffB F (cX A ids) 6)=cE (dN qs ids A):=by
 have e1:((cX A ids).take 1).flatten=eV A:=by simp[cX,eV]
 have e2:((cX A ids).take 2).flatten=eU A:=by simp[cX,eV,eU]
 have e3:((cX A ids).take 3).flatten=fH A:=by simp[cX,eV,eU,fH]
 have e4:((cX A ids).take 4).flatten=fY A:=by simp[cX,eV,eU,fH,fY]
 have e5:((cX A ids).take 5).flatten=gW A ids:=by simp[cX,eV,eU,fH,fY,gW]
 have e6:((cX A ids).take 6).flatten=eQ A ids:=by rw[←lX];rfl
 have e:ffB F (cX A ids) 6=upd (upd (upd (upd (upd (upd F 2 (64+((eV A).length:Nat))) 3 (64+((eU A).length:Nat))) 4 (64+((fH A).length:Nat))) 5 (64+((fY A).length:Nat))) 6 (64+((gW A ids).length:Nat))) 0 (64+((eQ A ids).length:Nat)):=by
  rw[←e1,←e2,←e3,←e4,←e5,←e6];rfl
 rw[e,hF];rfl
end
section
open Go Go.RowKit Go.Maps
theorem oQ(lo0:Option Addr)(lc0:Nat)(ps:List (NdH×Nd))(W:World)(hv:bD (fun k=>k<W.heap.size) W.heap lo0 lc0 ps)(hsm:∀ p∈ps,smN p.2)(hok:∀ p∈ps,okN p.2)(hl:ps.length≤40) :
 CA 10 [.slice lo0 ps.length lc0] W (BuP W ps):=by
 refine cS 127 [(0,_)] Tryz.func10 ?_;refine cA 9 Oe (Hq lo0 lc0 ps W hv hsm hok) ?_;rintro _ w1 ⟨lo,lc,qs,rfl,_,hq1,hvq,hfrq,hf1⟩;refine fK 11 ?_ ?_<;>intro h23
 ·refine Gz 13 ?_;exact⟨_,rfl,.inl ⟨h23,rfl,hf1⟩⟩
 have hz:chk (nds ps)=0:=S5.1 h23;have hqs:=hq1 hz;have G:=(yM hz hl).nds hqs;have hq40:=G.n.2;have hq0:=G.n.1;have hvq:=hvq.lts;refine cA 7 KH (pC w1) ?_;rintro _ w2 ⟨rfl,hf2⟩;refine Ov E0 rfl ?_;intro w3 hg3 hs3 hf3;refine OD (vs:=tab) pE rfl rfl qN hg3 (by rw[mP,SP]) ?_;intro w4 hg4 hs4 hf4;obtain⟨tp,hp⟩:∃ p,p=w2.heap.size:=⟨_,rfl⟩
 have hF4:aA nob w1 w4:=(hf2.trans hf3).RV hf4 (fun k hk=>.inr (by have h:k=w2.heap.size:=hk;have:=hf2.size;omega));rw[←hp] at hg4 ⊢;have ht4:TbV w4.heap tp:=hg4;have htl:=(Sb.1 hg4).1;have hz4:=hF4.size;have hvq4:=hvq.RY hF4;refine cA 4 IZ (nC tp w4 ht4) ?_;rintro _ w5 ⟨rfl,hW1,hf5⟩;have ht5:=hf5.obj ht4 id;have hz5:=hf5.size;refine cA 0 IZ (nC tp w5 ht5) ?_;rintro _ w6 ⟨rfl,hW2,hf6⟩;have ht6:=hf6.obj ht5 id;have hz6:=hf6.size;refine cA 0 IZ (nC tp w6 ht6) ?_;rintro _ w7 ⟨rfl,hW3,hf7⟩;have ht7:=hf7.obj ht6 id;have hz7:=hf7.size;have hf47:=(hf5.trans hf6).trans hf7;have hvq7:=hvq4.RY hf47;refine cL (Pq (cs:=#[pT w4.heap.size,pT w5.heap.size,pT w6.heap.size]) Lh Ns rfl (by kernel_rfl)) ?_;refine Gz 2 ?_;refine Ot Od rfl (Kt lo lc qs w7 hvq7.1 G.okN (by omega)) rfl ?_;rintro _ w8 ⟨io,ic,ids,rfl,hI8,hfI,hIds,hf8⟩;have hz8:=hf8.size;have hIl:=hI8.lt;have hid80:=nO hIds;refine O2 (enc:=enI) rfl ?_;intro w9 hm9 hs9 hf9;refine O2 (enc:=enI) rfl ?_;intro w10 hm10 hs10 hf10;refine O2 (enc:=enS) rfl ?_;intro w11 hm11 hs11 hf11;refine cL (bU (piC ⟨lo,lc,io,ic,w4.heap.size,w5.heap.size,w6.heap.size,w8.heap.size,w9.heap.size,w10.heap.size⟩ qs.length ids.length) Lg Nr) ?_;refine OR rfl rfl ?_;intro w12 hg12 hs12 hf12;obtain⟨a,ea⟩:∃ a:PiA,a=⟨lo,lc,io,ic,w4.heap.size,w5.heap.size,w6.heap.size,w8.heap.size,w9.heap.size,w10.heap.size⟩:=⟨_,rfl⟩
 have hg12:w12.heap[w11.heap.size]?=some (.cells (piC a qs.length ids.length).toArray 62 (0,0)):=by rw[ea];exact hg12
 obtain⟨g,eg⟩:∃ g,g=w11.heap.size:=⟨_,rfl⟩
 rw[←eg] at hg12 ⊢;have hf812:=((hf9.trans hf10).trans hf11).trans hf12;have hf712:=hf8.trans hf812;have ht12:=hf712.obj ht7 id;refine cA 5 Oc (Ha tp 64 w12 ht12) ?_;rintro _ w13 ⟨rfl,hD13,hf13⟩;have hz13:=hf13.size;obtain⟨ow,how⟩:∃ o,o=owB w4.heap.size w5.heap.size w6.heap.size w7.heap.size w8.heap.size w13.heap.size:=⟨_,rfl⟩
 have hB:w4.heap.size≤w5.heap.size∧w5.heap.size≤w6.heap.size∧w6.heap.size≤w7.heap.size∧w7.heap.size≤w8.heap.size∧w8.heap.size+4≤w13.heap.size:=by omega
 have hf713:=hf712.trans hf13;have hf813:=hf812.trans hf13;have o4:∀ k,k<w4.heap.size→ow k=4:=fun k hk=>by rw[how];exact NG hk
 have otp:=o4 tp htl;have hn13:∀ k,w13.heap.size≤k→ow k=0:=fun k hk=>by rw[how];exact NK hB hk
 have ntp:∀ c,c≠4→¬ ow tp=c:=fun c hc h=>hc (by rw[←h,otp]);have hM13:PiX 0 a ow w13.heap g tp qs ids (Sy (qs.length+1) bW) (mK (qs.length+1)):=by
  rw[ea] at hg12 ⊢;refine⟨⟨hf13.obj hg12 id,by rw[eg,show w11.heap.size=w8.heap.size+3 by omega,how];exact NE hB⟩,⟨⟨(hvq7.1.keep' hf713 (fun _ _ _=>id)),fun p hp=>((hvq7.2 p hp).RY hf713).mono (fun k hk=>o4 k (by omega))⟩,fun hne k ⟨x,hx,e⟩=>o4 k (by have:=hvq.1.lt hne (fun x e=>by cases e) x hx;omega)⟩,⟨(hI8.RY hf813).vw,fun _ k ⟨x,hx,e⟩=>by have h1:=hfI x hx;have h2:=hIl x hx;rw[how];exact Li hB ⟨by omega,by omega⟩⟩,⟨hf13.obj ht12 id,otp⟩,fun _=>?_,fun _=>?_,fun _=>?_,⟨by rw[how];exact NF hB,fun _=>⟨[],(((hm9.RZ hf10 id).RZ hf11 id).RZ hf12 id).RZ hf13 id,uT.zero _,(DZ _).symm⟩⟩,⟨by show ow w9.heap.size=7;rw[show w9.heap.size=w8.heap.size+1 by omega,how];exact ND hB,fun _=>⟨[],((hm10.RZ hf11 id).RZ hf12 id).RZ hf13 id,Cz.zero _⟩⟩,by show ow w10.heap.size=8;rw[show w10.heap.size=w8.heap.size+2 by omega,how];exact NC hB,fun _=>⟨[],(hm11.RZ hf12 id).RZ hf13 id,Cw.zero⟩⟩
  ·exact(((hW1.RZ hf6 (fun _ _=>id) id).RZ hf7 (fun _ _=>id) id).RZ hf713 (fun _ _=>id) id).mono (fun k hk=>by rw[how];exact NJ hk) (ntp 1 (by decide))
  ·exact((hW2.RZ hf7 (fun _ _=>id) id).RZ hf713 (fun _ _=>id) id).mono (fun k hk=>by rw[how];exact NI hB hk) (ntp 2 (by decide))
  ·exact(hW3.RZ hf713 (fun _ _=>id) id).mono (fun k hk=>by rw[how];exact NH hB hk) (ntp 3 (by decide))
 obtain⟨dg,edg⟩:∃ d,d=w12.heap.size+1:=⟨_,rfl⟩
 rw[←edg] at hD13 ⊢;have hD13:DwO (fun k=>ow k=9) w13.heap dg tp 64 ⟨[],[]⟩:=hD13.mono (fun k hk=>by rw[how];exact NB hB ⟨by omega,hk.2⟩) (ntp 9 (by decide));refine cA 7 Ob (BP a ow g tp qs ids (mK (qs.length+1)) dg G w13 hM13 hn13 hD13) ?_;rintro _ w14 ⟨po,pc,ow14,rfl,hpo,hpd,hM14,hD14,hFI,hl14,hn14,hf14⟩;obtain⟨S,eS,hInv,_,hpos⟩:=lE G hIds hFI;have hAll:=DE G hIds;have hGP:=Kz G hIds hFI;have hz14:=hf14.size;obtain⟨pl,epl⟩:∃ l,l=(dB (aO qs).tails (aO qs).ds).2:=⟨_,rfl⟩
 obtain⟨ds,eds⟩:∃ d,d=(dB (aO qs).tails (aO qs).ds).1:=⟨_,rfl⟩
 rw[←epl] at hpo ⊢;rw[←eds] at hD14;have hpll:pl.length≤40:=by have h1:=jZ (aO qs).tails (aO qs).ds;have h2:=hFI.tn;rw[SC] at h2;rw[epl];omega
 have hdsl:ds.B.length≤200000:=by rw[eds];exact hAll.B
 have eAll:aF qs ids=⟨ds,pl,S⟩:=by unfold aF;rw[←eds,←epl,eS]
 obtain⟨q0,hq00,hq0n,hq0k⟩:=G.root;have hnd0:=eH hq00;obtain⟨ow15,eo15⟩:∃ o:Nat→Nat,o=fun k=>if ow14 k≤8 then ow14 k else 0:=⟨_,rfl⟩
 have o15e:∀ k,ow15 k=if ow14 k≤8 then ow14 k else 0:=fun k=>by rw[eo15]
 have o15a:∀ k,ow14 k≤8→ow15 k=ow14 k:=fun k h=>by rw[o15e,R4 h]
 have o15b:∀ k,8<ow14 k→ow15 k=0:=fun k h=>by rw[o15e,R3 (by omega)]
 have hM15:=hM14.relab (ow':=ow15) (fun c _ hc k hk=>by rw[o15a k (by omega)];exact hk);have hn15:∀ k,w14.heap.size≤k→ow15 k=0:=fun k hk=>by have:=hn14 k hk;rw[o15a k (by omega)];exact this
 have hokS:okS qs (mK (qs.length+1)):=⟨SP,⟨fun z hz=>by have hz:=List.eq_of_mem_replicate hz;omega,fun y hy=>by cases hy⟩,fun y hy=>by cases hy⟩
 have hbd:bdB (wrB qs ids (aO qs).files 17 0 (mK (qs.length+1))):=hAll.b;refine Gz 6 ?_;refine Ot Ly rfl (vK a g tp qs ids (aO qs).files hGP 17 ow15 (mK (qs.length+1)) 0 w14 hM15 hn15 ⟨by omega,by omega⟩ (by omega) hokS hbd) rfl ?_;rw[eS];rintro _ w15 ⟨rfl,ow16,hM16,hl16,hn16,hf15⟩;have hz15:=hf15.size;have nLb:∀ k,ow14 k=0∨ow14 k=9∨ow14 k=4→¬ Lb ow15 k:=fun k h h2=>by
  rcases h with h|h|h
  ·exact h2.1 (by rw[o15a k (by omega)];exact h)
  ·exact h2.1 (o15b k (by omega))
  ·exact h2.2 (by rw[o15a k (by omega)];exact h)
 have hD15:=hD14.RZ hf15 (fun k hk=>nLb k (.inr (.inl hk))) (nLb tp (.inr (.inr hM14.2.2.2.1.2)));have hpo15:=hpo.RZ hf15 (fun x hx=>nLb _ (.inl (hpd _ ⟨x,hx,rfl⟩).2));have hpol:=hpo.lt;obtain⟨⟨hg15,hg6⟩,_,⟨i15,_⟩,⟨ht15,ht154⟩,cw1,cw2,cw3,⟨_,c5⟩,_⟩:=id hM16;obtain⟨mr,hmr,_,hmrl⟩:=c5 (by decide);have hmany:mr.length=S.many:=by rw[hmrl,hInv.many]
 have hW15:aA (fun k=>w1.heap.size≤k) w1 w15:=by
  have f0:aA nob w1 w13:=(hF4.trans hf47).trans hf713;refine(f0.any.RV hf14 (fun k h=>?_)).RV hf15 (fun k h=>?_)
  · by_cases hk:k<w4.heap.size
    ·exact absurd (o4 k hk) h.2
    ·exact .inr (by omega)
  · by_cases hk:k<w4.heap.size
    ·exact absurd (by rw[o15a k (by rw[hl14 k (by omega),o4 k hk];decide),hl14 k (by omega)];exact o4 k hk) h.2
    ·exact .inr (by omega)
 have hg15l:=(Sb.1 hg15).1;refine Gz 5 ?_;refine cL (Po (vs:=[pT tp]) rfl) ?_;refine Gz 4 ?_;refine OI 15 (fun H=>H[g]?=some (.cells (piC a qs.length ids.length).toArray 62 (0,0))∧cC enI H a.r mr) [14,15] [0,1,2,3,4,5,6,7,8,9,10,11,12,13,14,15] aM (by kernel_rfl) (⟨hg15,hmr⟩) ?_;refine Gz 4 ?_;refine xC rfl (Ox (u:=iV (S.many:Nat)) (PO mpQ rfl (fun H hH=>hH.2)) (by rw[hmany])) ?_;refine Gz 8 ?_;refine xC rfl (bU (cE (fun j=>[0,(S.many:Int),0,0,0,0,0,(ids.length:Int),(pl.length:Int),S.refs.getD (ndB qs 0).ino.toNat 0-1].getD j 0)) pS mM) ?_;obtain⟨F0,hF0⟩:∃ F:Nat→Int,F=fun j=>[0,(S.many:Int),0,0,0,0,0,(ids.length:Int),(pl.length:Int),S.refs.getD (ndB qs 0).ino.toNat 0-1].getD j 0:=⟨_,rfl⟩
 rw[←hF0];refine OE rfl rfl (Ov mM rfl ?_);intro w16 hg16 hs16 hf16;have hf16:aA nob w15 w16:=hf16.RW;refine OK (by exact⟨hf16.obj hg15 id,hmr.RZ hf16 id⟩) ?_;obtain⟨gS,egS⟩:∃ x,x=w15.heap.size:=⟨_,rfl⟩
 rw[show (w15.drewN 1).heap.size=gS from egS.symm] at hg16 ⊢;refine OE rfl rfl (OD (vs:=cE F0) cU rfl rfl (by exact cQ _) hg16 rfl ?_);intro w17 hS17 hs17 hf17;refine O8 rfl ?_;have hf17:aA (· = gS) w16 w17:=hf17;have hs16b:w16.heap.size=w15.heap.size+1:=hs16;have hs17b:w17.heap.size=w16.heap.size:=hs17;have hf1517:aA nob w15 w17:=hf16.tw hf17;refine Gz 4 ?_;refine Qp b8 (0:UInt8) aP z5 rfl rfl rfl (by decide) (by decide) (by decide) (by decide) rfl ?_;intro w18 ho18 hs18 hf18;have ho18:Own b8 5 w18.heap (some ⟨w17.heap.size,0,none⟩) 64 (Sy 64 0):=ho18;have hs18b:w18.heap.size=w17.heap.size+1:=hs18;have hf1518:=hf1517.trans hf18;have hg18:=hf1518.obj hg15 id;have hS18:=hf18.obj hS17 id;have n4:=hAll.n4;have n2:=hAll.n2;have li:=hAll.i;have ll:=hAll.l;have lf:=hAll.f;have o6:=hAll.o6;rw[eAll] at n4 li ll lf o6
 replace n4:(aK pl 4).1.length≤160:=n4
 replace li:S.ino.length≤10000:=li
 replace ll:S.lst.length≤500000:=ll
 replace lf:S.fur.length≤200000:=lf
 refine Gz 4 ?_;refine OI 31 (fun H=>H[g]?=some (.cells (piC a qs.length ids.length).toArray 62 (0,0))) [1,7,13,16,22,28,29] [0,2,3,4,5,6,8,9,10,11,12,14,15,17,18,19,20,21,23,24,25,26,27,1,7,13,16,22,28,29,30] aM (by kernel_rfl) (hg18) ?_;refine Gz 5 ?_;refine xC rfl (OB rY rfl (fun H hH=>by rw[xE];exact aD (i:=0) hH rfl)) ?_;refine Gz 4 ?_;refine xC rfl (OB rY rfl (fun H hH=>by rw[xE];exact aD (i:=1) hH rfl)) ?_;refine Gz 11 ?_;refine xC rfl (OB rY rfl (fun H hH=>by rw[xE];exact aD (i:=2) hH rfl)) ?_;refine OE rfl rfl (Ot N9 rfl (He (fun k=>ow14 k=9) dg tp 64 ds (w18.drewN 1) (hD15.RY (hf1518.draws 1)) (by omega)) rfl ?_);rintro _ w19 ⟨o1,c1,rfl,ho1,hfr1,hf19⟩;have hf19:aA nob w18 w19:=hf19.RW;have hfr1:Fr w18.heap.size o1:=hfr1;have hf1519:=hf1518.trans hf19;have hz19:=hf19.size;refine OK (by exact hf1519.obj hg15 id) ?_;refine OE rfl rfl (Ot IX rfl (kS (fun k=>ow16 k=1) a.g1 tp S.ino w19 ((cw1 (by decide)).RZ hf1519 (fun _ _=>id) id) (by omega)) rfl ?_);rintro _ w20 ⟨o2,c2,rfl,ho2,hfr2,hf20⟩;have hf1520:=hf1519.trans hf20;have hz20:=hf20.size;refine OK (by exact hf1520.obj hg15 id) ?_;refine OE rfl rfl (Ot IX rfl (kS (fun k=>ow16 k=2) a.g2 tp S.lst w20 ((cw2 (by decide)).RZ hf1520 (fun _ _=>id) id) (by omega)) rfl ?_);rintro _ w21 ⟨o3,c3,rfl,ho3,hfr3,hf21⟩;have hf1521:=hf1520.trans hf21;have hz21:=hf21.size;refine OK (by exact hf1521.obj hg15 id) ?_;refine OE rfl rfl (O9 Lw rfl rfl (Dc tp po pc pl 4 w21 (hf1521.obj ht15 id) (hpo15.RY hf1521).vw (by omega) (by omega)) rfl ?_);intro v22 w22 hr22;obtain⟨o4,c4,rfl,ho4,hfr4,hf22⟩:=hr22;have hf1522:=hf1521.trans hf22;have hz22:=hf22.size;refine OK (by exact hf1522.obj hg15 id) ?_;refine OE rfl rfl (O9 Lw rfl rfl (Dc tp a.io a.ic ids 2 w22 (hf1522.obj ht15 id) (i15.RY hf1522) (by omega) (by omega)) rfl ?_);intro v23 w23 hr23;obtain⟨o5,c5,rfl,ho5,hfr5,hf23⟩:=hr23;have hf1523:=hf1522.trans hf23;have hz23:=hf23.size;refine OK (by exact hf1523.obj hg15 id) ?_;refine OE rfl rfl (Ot IX rfl (kS (fun k=>ow16 k=3) a.g3 tp S.fur w23 ((cw3 (by decide)).RZ hf1523 (fun _ _=>id) id) (by omega)) rfl ?_);rintro _ w24 ⟨o6b,c6,rfl,ho6,hfr6,hf24⟩;have hf1524:=hf1523.trans hf24;have hz24:=hf24.size;refine OK (by exact hf1524.obj hg15 id) ?_;refine OE rfl rfl (Pa rV (cs:=([(⟨o1,ds.B.length,c1⟩:Hd),⟨o2,(dnW S.ino).length,c2⟩,⟨o3,(dnW S.lst).length,c3⟩,⟨o4,(dnW (aK pl 4).1).length,c4⟩,⟨o5,(dnW (aK ids 2).1).length,c5⟩,⟨o6b,(dnW S.fur).length,c6⟩].map hd).toArray) KY rfl rfl rfl (by kernel_rfl) rfl ?_);intro w25 hg25 hs25 hf25;have hf1525:=hf1524.trans hf25;have hs25b:w25.heap.size=w24.heap.size+1:=hs25;refine OK (by exact hf1525.obj hg15 id) ?_;obtain⟨hs,ehs⟩:∃ l:List Hd,l=[⟨o1,ds.B.length,c1⟩,⟨o2,(dnW S.ino).length,c2⟩,⟨o3,(dnW S.lst).length,c3⟩,⟨o4,(dnW (aK pl 4).1).length,c4⟩,⟨o5,(dnW (aK ids 2).1).length,c5⟩,⟨o6b,(dnW S.fur).length,c6⟩]:=⟨_,rfl⟩
 have hhs6:hs.length=6:=by rw[ehs];rfl
 have hp25:Own hd 25 w25.heap (some ⟨w24.heap.size,0,none⟩) 6 hs:=by rw[ehs];exact iH hg25 (show 6≤maxLen by decide)
 have hPl:(cX ⟨ds,pl,S⟩ ids).length=6:=rfl;have hrw25:cG (fun k=>w18.heap.size≤k∧k<w25.heap.size) w25.heap hs (cX ⟨ds,pl,S⟩ ids):=by
  have k:∀ {o:Option Addr} {c:Nat} {x:By} {u v:World},Own b8 5 v.heap o c x→aA nob v w25→Fr u.heap.size o→w18.heap.size≤u.heap.size→Vw b8 w25.heap o c x∧(x≠[]→∀ k,blk o k→w18.heap.size≤k∧k<w25.heap.size):=fun h f hfr hu=>⟨(h.RY f).vw,fun _ k ⟨y,hy,e⟩=>by have:=hfr y hy;have:=h.lt y hy;have:=f.size;omega⟩
  have k6:=k ho6 hf25 hfr6 (by omega);have k5:=k ho5 (hf24.trans hf25) hfr5 (by omega);have k4:=k ho4 ((hf23.trans hf24).trans hf25) hfr4 (by omega);have k3:=k ho3 (((hf22.trans hf23).trans hf24).trans hf25) hfr3 (by omega);have k2:=k ho2 ((((hf21.trans hf22).trans hf23).trans hf24).trans hf25) hfr2 (by omega);have k1:=k ho1 (((((hf20.trans hf21).trans hf22).trans hf23).trans hf24).trans hf25) hfr1 (by omega);rw[ehs];exact((((((Rw (H:=w25.heap)).snoc (x:=⟨o1,ds.B.length,c1⟩) rfl k1.1 k1.2).snoc (x:=⟨o2,(dnW S.ino).length,c2⟩) rfl k2.1 k2.2).snoc (x:=⟨o3,(dnW S.lst).length,c3⟩) rfl k3.1 k3.2).snoc (x:=⟨o4,(dnW (aK pl 4).1).length,c4⟩) rfl k4.1 k4.2).snoc (x:=⟨o5,(dnW (aK ids 2).1).length,c5⟩) rfl k5.1 k5.2).snoc (x:=⟨o6b,(dnW S.fur).length,c6⟩) rfl k6.1 k6.2
 have hS25:w25.heap[gS]?=some (.cells (cE F0).toArray 44 (0,0)):=(((((((hf19.trans hf20).trans hf21).trans hf22).trans hf23).trans hf24).trans hf25)).obj hS18 id;refine Gz 12 ?_;refine Pa xO (cs:=(oB.map (ptO gS)).toArray) JR rfl rfl rfl (by kernel_rfl) rfl ?_;intro w26 hg26 hs26 hf26;have hs26b:w26.heap.size=w25.heap.size+1:=hs26;have hq26:Own (ptO gS) 72 w26.heap (some ⟨w25.heap.size,0,none⟩) 6 oB:=iH (xs:=oB) hg26 (by decide);have hf1826:=((((((hf19.trans hf20).trans hf21).trans hf22).trans hf23).trans hf24).trans hf25).trans hf26;have hN15:aA nob W w15:=hf1.RV hW15 (fun k h=>.inr (by have:=hf1.size;omega));have hN26:aA nob W w26:=(hN15.trans hf1518).trans hf1826;obtain⟨Ps,ePs⟩:∃ P,P=cX ⟨ds,pl,S⟩ ids:=⟨_,rfl⟩
 rw[←ePs] at hrw25 hPl;have hPf:Ps.flatten.length≤1500000:=by rw[ePs,lX];exact o6
 have hzW:=hN15.size;refine Gz 5 ?_;refine Oy (β:=Nat×(Option Addr×Nat)) (fun⟨i,⟨oo,oc⟩⟩=>[(5,pT tp),(11,pT gS),(12,.slice oo (Sy 64 (0:UInt8)++(Ps.take i).flatten).length oc),(13,.slice (some ⟨w24.heap.size,0,none⟩) 6 6),(96,.slice (some ⟨w25.heap.size,0,none⟩) 6 6),(97,iV 6),(98,iV i)]) (fun⟨i,⟨oo,oc⟩⟩ w=>i≤6∧Own b8 5 w.heap oo oc (Sy 64 (0:UInt8)++(Ps.take i).flatten)∧(∀ k,blk oo k→k=w17.heap.size∨w26.heap.size≤k)∧w.heap[gS]?=some (.cells (cE (ffB F0 Ps i)).toArray 44 (0,0))∧Own hd 25 w.heap (some ⟨w24.heap.size,0,none⟩) 6 hs∧Own (ptO gS) 72 w.heap (some ⟨w25.heap.size,0,none⟩) 6 oB∧cG (fun k=>w18.heap.size≤k∧k<w25.heap.size) w.heap hs Ps∧TbV w.heap tp∧w26.heap.size≤w.heap.size∧aA nob W w) (fun⟨i,⟨oo,oc⟩⟩=>6-i) ⟨0,⟨some ⟨w17.heap.size,0,none⟩,64⟩⟩ ⟨rfl,rfl,rfl,rfl,rfl,rfl,rfl,trivial⟩ ⟨by decide,by rw[show Sy 64 (0:UInt8)++(Ps.take 0).flatten=Sy 64 0 by simp];exact ho18.RY hf1826,fun k ⟨z,hz,e⟩=>by cases hz;exact .inl e.symm,hf26.obj hS25 id,hp25.RY hf26,hq26,hrw25.RZ hf26 (fun _ _=>id),(hf1518.trans hf1826).obj ht15 id,Sa _,hN26⟩ ?_;rintro⟨i,⟨oo,oc⟩⟩ w27 ⟨hi,hoo,hob,hS,hp,hq,hrw,ht27,hz27,hN⟩;refine fK 2 ?_ ?_<;>intro h99
 ·have hi6:i<6:=by omega
  obtain⟨x,hx⟩:∃ x,Ps[i]?=some x:=⟨_,R7 (by omega)⟩
  obtain⟨y,hy⟩:∃ y,hs[i]?=some y:=⟨_,R7 (by omega)⟩
  obtain⟨hyn,hyv,_⟩:=hrw.2 i y x hy hx;have hft:=I0 hx;have hfl:=jS Ps (i+1);have hfl2:(Ps.take i).flatten.length+x.length≤1500000:=by have h:=congrArg SJ hft;rw[R6] at h;omega
  refine Gz 11 ?_;refine cL (Ou xO rfl rfl hq.vw.non (by have e:oB.length=6:=rfl;omega)) ?_;refine cL (Ow vG rfl (hq.vw.gz 0 i rfl (by show i<6;exact hi6))) ?_;refine Gz 3 ?_;refine aW [(5,_),(11,_),(12,_),(13,_),(14,_),(15,_),(96,_),(97,_),(98,_),(99,_)] ?_;refine Gz 6 ?_;refine cL (Ou rV rfl rfl (fun _=>by simp) (by omega)) ?_;refine cL (Ox (u:=.slice y.a x.length y.c) (Ow aT rfl (hp.vw.get i y hy)) (by rw[←hyn];rfl)) ?_;refine OJ cP aP rfl rfl hoo hyv (by simp only[R6,SP];omega) (by simp only[R6,SP];unfold maxLen;omega) rfl ?_;intro o28 c28 w28 ho28 hf28 hr28 hn28;have eL:Sy 64 (0:UInt8)++(Ps.take i).flatten++x=Sy 64 0++(Ps.take (i+1)).flatten:=by rw[hft,SI]
  rw[eL] at ho28 ⊢;have hz28:=hf28.size;have kd:∀ k,k<w26.heap.size→k≠w17.heap.size→¬ blk oo k:=fun k h1 h2 h3=>by rcases hob k h3 with h|h;exact h2 h;omega
  have hS28:=hf28.obj hS (kd gS (by omega) (by omega));have hp28:=hp.RZ hf28 (fun z hz=>by cases hz;exact kd w24.heap.size (by omega) (by omega));have hq28:=hq.RZ hf28 (fun z hz=>by cases hz;exact kd w25.heap.size (by omega) (by omega));have hrw28:=hrw.RZ hf28 (fun k hk=>kd k (by omega) (by omega));have hN28:aA nob W w28:=hN.RV hf28 (fun k h=>.inr (by rcases hob k h with h|h;omega;have:=hN26.size;omega));have hob28:∀ k,blk o28 k→k=w17.heap.size∨w26.heap.size≤k:=fun k ⟨z,hz,e⟩=>by
   rcases hr28 z hz with h|h
   ·exact hob k ⟨z,h,e⟩
   ·exact .inr (by omega)
  refine Gz 6 ?_;refine cL (Ox (u:=iV (64+((Ps.take (i+1)).flatten.length:Nat))) (Qe aP rfl) (by rw[R6,SP];rfl)) ?_;refine Gz 1 ?_;refine OF aL rfl rfl rfl hS28 (by have:=JB hi6;rw[Nat.blt_eq];exact this) ?_;intro w29 hS29 hs29 hf29;have hS29:w29.heap[gS]?=some (.cells (cE (ffB F0 Ps (i+1))).toArray 44 (0,0)):=by rw[show ffB F0 Ps (i+1)=upd (ffB F0 Ps i) (oB.getD i 0) (64+((Ps.take (i+1)).flatten.length:Nat)) from rfl,←zV _ (JB hi6)];exact hS29
  have hf29:aA (· = gS) w28 w29:=hf29;have hs29b:w29.heap.size=w28.heap.size:=hs29;refine Gz 7 ?_;exact aG ⟨i+1,⟨o28,c28⟩⟩ ⟨by omega,ho28.RZ hf29 (fun z hz h=>by have h:z.block=gS:=h;rcases hob28 _ ⟨z,hz,h⟩ with h2|h2<;>omega),hob28,hS29,hp28.RZ hf29 (fun z hz h=>by cases hz;have h:w24.heap.size=gS:=h;omega),hq28.RZ hf29 (fun z hz h=>by cases hz;have h:w25.heap.size=gS:=h;omega),hrw28.RZ hf29 (fun k hk h=>by have h:k=gS:=h;omega),hf29.obj (hf28.obj ht27 (kd tp (by omega) (by omega))) (show ¬ tp=gS by omega),by omega,hN28.tw hf29⟩ (by show 6-(i+1)<6-i;omega)
 have hi6:i=6:=by omega
 subst hi6;refine Gz 13 ?_;have hfin:Ps.flatten=eQ (aF qs ids) ids:=by rw[ePs,lX,eAll]
 have htk6:Ps.take 6=Ps:=So (by omega);have eT:(Ps.take 6).flatten=eQ (aF qs ids) ids:=by rw[htk6,hfin]
 have hff:cE (ffB F0 Ps 6)=cE (dN qs ids (aF qs ids)):=by rw[ePs,eAll];exact I5 _ qs ids F0 hF0
 rw[hff] at hS;refine cL (Ox (u:=iV (64+((eQ (aF qs ids) ids).length:Int))) (Ow aL rfl (aD (i:=0) hS rfl)) rfl) ?_;refine fK 0 ?_ ?_<;>intro h116
 ·have hib:uP qs ids=([],3):=by unfold uP;rw[R4 h116]
  refine Gz 1 ?_;refine aW [(5,_),(11,_),(12,_),(13,_),(96,_),(97,_),(98,_),(99,_),(116,_)] ?_;refine Gz 11 ?_;refine⟨_,rfl,.inr ⟨hz,ids,none,0,hIds.nds hqs,?_,?_,Rp,hN⟩⟩
  ·rw[←nN hqs ids,hib];rfl
  ·rw[←nN hqs ids,hib];exact Rr
 have M:ImB qs ids:=⟨G,hIds,by omega⟩
 refine Gz 1 ?_;refine aW [(5,_),(11,_),(12,_),(13,_),(96,_),(97,_),(98,_),(99,_),(116,_)] ?_;refine Gz 6 ?_;refine cL (OG (cs:=cE (dN qs ids (aF qs ids))) cU rfl (bO hS 0 rfl)) ?_;refine cA 0 N8 (Fi tp (dN qs ids (aF qs ids)) w27 ht27) ?_;rintro _ w31 ⟨o31,c31,rfl,ho31,hfr31,hf31⟩;have ep:gR (dN qs ids (aF qs ids))=(suB (dN qs ids (aF qs ids)),0):=R4 M.may;rw[ep] at ho31 ⊢;have hsl:=kP (dN qs ids (aF qs ids));obtain⟨b31,rfl⟩:∃ b,o31=some b:=by
  cases o31 with
 |none=>exact absurd rfl (ho31.vw.non (by rw[show ((suB (dN qs ids (aF qs ids)),(0:Int)):By×Int).1=suB (dN qs ids (aF qs ids)) from rfl,hsl];decide))
 |some b=>exact⟨b,rfl⟩
 have hoo31:=hoo.RY hf31;obtain⟨bb,rfl⟩:∃ b,oo=some (⟨b,0,none⟩:Addr):=by
  rcases hoo31 with⟨_,_,h⟩|⟨x,_,h,_⟩
  · have h:=congrArg SJ h
    rw[R6,SP,SL] at h;omega
  ·exact⟨x,h⟩
 refine Gz 11 ?_;refine QR cP aP (b:=b31) (ys:=suB (dN qs ids (aF qs ids))) rfl rfl hoo31 ho31.vw (by rw[hsl,R6,SP];omega) rfl ?_;intro w32 ho32 hs32 hf32;refine Gz 12 ?_;have hbW:W.heap.size≤bb:=by rcases hob bb ⟨_,rfl,rfl⟩ with h|h<;>omega
 have efin:suB (dN qs ids (aF qs ids))++(Sy 64 (0:UInt8)++(Ps.take 6).flatten).drop (suB (dN qs ids (aF qs ids))).length=imB qs ids:=by rw[hsl,eT,List.drop_left' SP];rfl
 have elen:(Sy 64 (0:UInt8)++(Ps.take 6).flatten).length=(imB qs ids).length:=by unfold imB;rw[eT,R6,R6,SP,hsl]
 refine⟨_,rfl,.inr ⟨hz,ids,some ⟨bb,0,none⟩,oc,hIds.nds hqs,?_,?_,fun z hz=>by cases hz;exact hbW,(hN.trans hf31).tw hf32⟩⟩
 · rw[←nN hqs ids,M.img]
   show _=Value.tuple #[.slice _ (imB qs ids).length oc,iV 0];rw[←elen]
 · rw[←nN hqs ids,M.img]
   show Own b8 5 w32.heap (some ⟨bb,0,none⟩) oc (imB qs ids);rw[←efin];exact ho32
end
section
open Go Go.RowKit Go.Maps
variable {D:Nat→Prop}
theorem oI{qs:List (NdH×Nd)}{ids:List Int}(G:GdT qs)(I:pJ qs ids)(h1:qs.length≤3):64+((eQ (aF qs ids) ids).length:Int)≤1048576:=by
 have F:=yS (qs:=qs) (fun q hq=>⟨G.ino q hq,(G.may q hq).2.2.2.2.2.2.1⟩);obtain⟨S,e,hI,hB,_⟩:=lE G I F;have e:(aF qs ids).s=S:=e;have hA:=DE G I;have hm:S.many≤4:=by
  have h1:=List.length_filter_le (fun r:Int=>decide (0<r)) S.refs;rw[hI.many];unfold qE;rw[hI.rl] at h1;omega
 have h2:=hI.bi;have h3:S.lst.length≤10440*S.many:=hB;have h4:=hI.bf;have hT:=F.tn;have hFB:=F.b;rw[SC] at hT hFB;have hb:=Fe F.t (aO qs).ds;have n4:=hA.n4;have n2:=hA.n2;have d1:=lR (aF qs ids).s.ino;have d2:=lR (aF qs ids).s.lst;have d3:=lR (aK (aF qs ids).pl 4).1;have d4:=lR (aK ids 2).1;have d5:=lR (aF qs ids).s.fur;rw[e] at d1 d2 d5;have l1:(eV (aF qs ids)).length=(dB (aO qs).tails (aO qs).ds).1.B.length:=rfl;have l2:(eU (aF qs ids)).length=(eV (aF qs ids)).length+(dnW (aF qs ids).s.ino).length:=R6;have l3:(fH (aF qs ids)).length=(eU (aF qs ids)).length+(dnW (aF qs ids).s.lst).length:=R6;have l4:(fY (aF qs ids)).length=(fH (aF qs ids)).length+(dnW (aK (aF qs ids).pl 4).1).length:=R6;have l5:(gW (aF qs ids) ids).length=(fY (aF qs ids)).length+(dnW (aK ids 2).1).length:=R6;have l6:(eQ (aF qs ids) ids).length=(gW (aF qs ids) ids).length+(dnW (aF qs ids).s.fur).length:=R6;rw[e] at l2 l3 l6;omega
theorem qS{D:Nat→Prop}(H:Array Obj):NdV D H aE:=
 ⟨⟨rfl,Rq 0 (Sf _),fun h=>absurd rfl h⟩,⟨rfl,Rq 0 (Sf _),fun h=>absurd rfl h⟩,⟨rfl,[],⟨Sf _,Sf _,fun h=>absurd rfl h,fun i x hx=>by simp at hx⟩,rfl,fun h=>absurd rfl h,fun i x y hx=>by simp at hx⟩⟩
theorem sQ{qs:List (NdH×Nd)}{ids:List Int}(M:ImB qs ids)(hall:∀ m:Nat,1≤m→m≤qs.length→∃ q∈qs,q.2.ino.toNat=m):(aF qs ids).s.many=qs.length:=by
 obtain⟨h,h2⟩:=M.st;show (stB qs ids).many=qs.length;rw[h.many];unfold qE;have hl:=h.rl;have h0:¬ 0<(stB qs ids).refs.getD 0 0:=fun hc=>by
  obtain⟨k,q,i,xr,o,hq,hi,_⟩:=h.std 0 hc;have:=M.G.ino q (Sd hq);omega
 have hp:∀ m:Nat,1≤m→m≤qs.length→0<(stB qs ids).refs.getD m 0:=fun m h1 hm=>by
  obtain⟨q,hq,e⟩:=hall m h1 hm;rw[←e];exact h2 q hq
 generalize (stB qs ids).refs=L at hl h0 hp ⊢
 match L,hl with
|x::r,hl=>
   rw[List.filter_cons_of_neg (by simpa using h0),List.filter_eq_self.2 (fun z hz=>?_)]
   ·rw[Sq] at hl;omega
   · obtain⟨i,hi⟩:=Sr hz
     have hil:=(R9.1 hi).1;rw[Sq] at hl;have h:=hp (i+1) (by omega) (by omega);rw[Sj,List.getElem?_cons_succ,hi] at h;simpa using h
theorem AW:∀ (L:List Nd) (s:FSt),(∀ x∈L,x.kind≠2)→L.foldl cR s=s
|[],_,_=>rfl
|x::r,s,h=>by
   rw[List.foldl_cons,kH (.inl (h x (by simp)))];exact AW r s (fun y hy=>h y (by simp[hy]))
theorem Gy{l:List Int}(hp:l.Pairwise (· < ·))(h:∀ z∈l,z=0):l.length≤1:=by
 match l,hp,h with
|[],_,_=>exact Sf _
|[_],_,_=>exact Sa _
|a::b::_,hp,h=>
   have h1:=h a (by simp);have h2:=h b (by simp);have h3:=(List.pairwise_cons.1 hp).1 b (by simp);omega
theorem EQ:fU [aE]=[aE]:=by
 unfold fU;rw[show eZ [aE]=[aE] from List.mergeSort_singleton _];rfl
theorem FD{ids:List Int}(M:ImB [aE] ids):(dN [aE] ids (aF [aE] ids)) 1=1∧(dN [aE] ids (aF [aE] ids)) 7=1∧(dN [aE] ids (aF [aE] ids)) 8=0∧(dN [aE] ids (aF [aE] ids)) 2=64:=by
 have ef:aO [aE]=⟨⟨[],[]⟩,[],Sy 2 bW⟩:=AW [aE.2] _ (fun x hx=>by rw[SE] at hx;subst hx;decide);have e1:=sQ M (fun m h1 hm=>⟨aE,by simp,by have:m≤1:=hm;show (1:Int).toNat=m;omega⟩);have e2:ids.length=1:=by
  have h1:=M.ids0.1;have h2:=Gy M.I.1 (fun z hz=>by have h:=(M.I.2 z).1 hz;simpa[gU,aE,nd0] using h);omega
 refine⟨?_,?_,?_,?_⟩
 · show ((aF [aE] ids).s.many:Int)=1
   rw[e1];rfl
 · show (ids.length:Int)=1
   rw[e2];rfl
 · show (((dB (aO [aE]).tails (aO [aE]).ds).2.length:Nat):Int)=0
   rw[ef];rfl
 · show 64+(((dB (aO [aE]).tails (aO [aE]).ds).1.B.length:Nat):Int)=64
   rw[ef];rfl
theorem ER(W:World):Calls Tryz.prog 8 #[] W (Ret fun v w'=>v=.bool true∧aA nob W w'):=by
 refine cS 44 [] Tryz.func8 ?_;refine Gz 7 ?_;refine cL (bU (aH aE) C5 fS) ?_;refine Pa gL (cs:=(aH aE).toArray) fS rfl rfl rfl (by kernel_rfl) rfl ?_;intro w2 hg2 hs2 hf2;have ho2:cH 10 aH 37 w2.heap (some ⟨W.heap.size,0,none⟩) 1 [aE]:=fG (xs:=[aE]) aB (by simpa using hg2) (by show 1≤maxLen;decide);refine Ot KI rfl (oQ (some ⟨W.heap.size,0,none⟩) 1 [aE] w2 ⟨ho2.vw aB,by simp only[SE];rintro p rfl;exact qS _⟩ (by simp only[SE];rintro p rfl;exact xQ) (by simp only[SE];rintro p rfl;exact xR) (by decide)) rfl ?_;rintro _ w3 hB;obtain⟨hz,ids,o3,c3,hIds,rfl,ho3,hfr3,hf3⟩:=hB.resolve_left (fun h=>h.1 tX);have hG:=yM tX (by decide);rw[EQ] at hG hIds ho3 ⊢;have M:ImB [aE] ids:=⟨hG,hIds,oI hG hIds (by decide)⟩
 rw[M.img] at ho3 ⊢;obtain⟨s1,s2,s3,s4⟩:=FD M;have himl:(imB [aE] ids).length≤1048576:=by unfold imB;rw[R6,kP];have:=M.sz;omega
 obtain⟨F,hF⟩:∃ F,F=dN [aE] ids (aF [aE] ids):=⟨_,rfl⟩
 have hsp:=M.sup;rw[←hF] at hsp s1 s2 s3 s4;refine cA 9 KH (pC w3) ?_;rintro _ w4 ⟨rfl,hf4⟩;refine Ov E0 rfl ?_;intro w5 hg5 hs5 hf5;refine OD (vs:=tab) pE rfl rfl qN hg5 (by rw[mP,SP]) ?_;intro w6 hg6 hs6 hf6;obtain⟨tp,hp⟩:∃ p,p=w4.heap.size:=⟨_,rfl⟩
 have hF6:aA nob w3 w6:=(hf4.trans hf5).RV hf6 (fun k hk=>.inr (by have h:k=w4.heap.size:=hk;have:=hf4.size;omega));rw[←hp] at hg6 ⊢;have ht6:TbV w6.heap tp:=hg6;refine Gz 5 ?_;refine Ot KG rfl (oH tp o3 c3 (imB [aE] ids) w6 ht6 (ho3.RY hF6).vw (by omega)) rfl ?_;rw[hsp];rintro _ w7 ⟨rfl,hf7⟩;refine Gz 3 ?_;refine Ov mM rfl ?_;intro w8 hg8 hs8 hf8;obtain⟨b,eb⟩:∃ b,b=w7.heap.size:=⟨_,rfl⟩
 rw[←eb] at hg8 ⊢;refine sA rfl cU (by exact cQ _) hg8 ?_;intro w9 hg9 hs9 hf9;have hF9:aA nob w7 w9:=hf8.tw hf9;refine Gz 6 ?_;refine cL (O5 (OX rfl rfl) rfl) ?_;refine Gz 2 ?_;refine cW (O5 (OX rfl rfl) rfl) ?_;refine Gz 3 ?_;refine cW (Ow aL rfl (aD (i:=1) hg9 rfl)) ?_;refine cW (O5 (OX rfl rfl) s1) ?_;refine Gz 3 ?_;refine cW (Ow aL rfl (aD (i:=7) hg9 rfl)) ?_;refine cW (O5 (OX rfl rfl) s2) ?_;refine Gz 3 ?_;refine cW (Ow aL rfl (aD (i:=8) hg9 rfl)) ?_;refine cW (O5 (OX rfl rfl) s3) ?_;refine Gz 3 ?_;refine cW (Ow aL rfl (aD (i:=2) hg9 rfl)) ?_;refine cW (O5 (OX rfl rfl) s4) ?_;refine Gz 6 ?_;exact⟨_,rfl,rfl,(((hf2.trans hf3).trans hF6).trans hf7).trans hF9⟩
end
section
open Go Go.RowKit Go.Maps
def aJ(x:UInt8)(i:Int)(b:By):Nd:={ nd0 with names:=[[x]],ino:=i,kind:=2,data:=b }
def Cg(g:Nat)(a:Option Addr)(n c:Nat):NdH:=⟨⟨some ⟨g,0,none⟩,1,1⟩,⟨a,n,c⟩,hd0⟩
section
variable {b:List UInt8}(hb:b.length≤1500)
theorem yR(x:UInt8)(i:Int)(hb:b.length≤1500):dR (aJ x i b):=by
 refine⟨⟨by show (1:Int)≤2;decide,by show (2:Int)≤3;decide⟩,rfl,⟨Uu 0,by show (0:Int)≤511;decide⟩,⟨Uu 0,by show (0:Int)≤65535;decide⟩,⟨Uu 0,by show (0:Int)≤65535;decide⟩,.inl rfl,by show b.length≤4096;omega,?_,?_⟩
 · unfold okT
   rw[R3 (show ¬ (aJ x i b).kind=3 by show ¬ (2:Int)=3;decide)];rfl
 ·exact⟨fun i hi=>absurd hi (Nat.not_lt_zero i),Sf _⟩
theorem Ah:dR aE.2:=DC tX aE (by simp)
theorem FX(h1:NdH)(hb:b.length≤1500):qI (nds [aE,(h1,aJ 97 2 b)]):=by
 have hm:=yR 97 2 hb;refine⟨by show 2≤1024;decide,?_,?_,?_,⟨aE.2,by simp[nds],rfl,rfl⟩,?_,?_,?_⟩
 · intro n hn s hs
   simp only[nds,SV,TC,St,SD,or_false] at hn;rcases hn with rfl|rfl
   ·cases hs
   · have hs:s∈[[(97:UInt8)]]:=hs
     rw[SE] at hs;subst hs;decide
 · intro n hn
   simp only[nds,SV,TC,St,SD,or_false] at hn;rcases hn with rfl|rfl
   ·exact Sf _
   ·show 1≤16;decide
 ·simp[nds,aE,aJ,nd0]
 · intro n hn hne
   simp only[nds,SV,TC,St,SD,or_false] at hn;rcases hn with rfl|rfl
   ·exact absurd rfl hne
   ·exact⟨aE.2,by simp[nds],rfl,rfl⟩
 · intro n hn
   simp only[nds,SV,TC,St,SD,or_false] at hn;rcases hn with rfl|rfl
   ·exact Ah
   ·exact hm
 ·simp[nds,fM,aE,aJ,nd0]
theorem E9(h1 h2:NdH)(hb:b.length≤1500):qI (nds [aE,(h1,aJ 97 2 b),(h2,aJ 98 3 b)]):=by
 have hm:=yR 97 2 hb;have hm2:=yR 98 3 hb;refine⟨by show 3≤1024;decide,?_,?_,?_,⟨aE.2,by simp[nds],rfl,rfl⟩,?_,?_,?_⟩
 · intro n hn s hs
   simp only[nds,SV,TC,St,SD,or_false] at hn;rcases hn with rfl|rfl|rfl
   ·cases hs
   · have hs:s∈[[(97:UInt8)]]:=hs
     rw[SE] at hs;subst hs;decide
   · have hs:s∈[[(98:UInt8)]]:=hs
     rw[SE] at hs;subst hs;decide
 · intro n hn
   simp only[nds,SV,TC,St,SD,or_false] at hn;rcases hn with rfl|rfl|rfl
   ·exact Sf _
   ·show 1≤16;decide
   ·show 1≤16;decide
 ·simp[nds,aE,aJ,nd0]
 · intro n hn hne
   simp only[nds,SV,TC,St,SD,or_false] at hn;rcases hn with rfl|rfl|rfl
   ·exact absurd rfl hne
   ·exact⟨aE.2,by simp[nds],rfl,rfl⟩
   ·exact⟨aE.2,by simp[nds],rfl,rfl⟩
 · intro n hn
   simp only[nds,SV,TC,St,SD,or_false] at hn;rcases hn with rfl|rfl|rfl
   ·exact Ah
   ·exact hm
   ·exact hm2
 ·simp[nds,fM,aE,aJ,nd0]
theorem In(h1:NdH):fU [aE,(h1,aJ 97 2 b)]=[aE,(h1,aJ 97 2 b)]:=by
 unfold fU;rw[show eZ [aE,(h1,aJ 97 2 b)]=[aE,(h1,aJ 97 2 b)] from List.mergeSort_of_pairwise (by simp[aE,aJ,nd0,cK,bT])];rfl
theorem HR(h1 h2:NdH):fU [aE,(h1,aJ 97 2 b),(h2,aJ 98 3 b)]=[aE,(h1,aJ 97 2 b),(h2,aJ 98 3 b)]:=by
 unfold fU;rw[show eZ [aE,(h1,aJ 97 2 b),(h2,aJ 98 3 b)]=[aE,(h1,aJ 97 2 b),(h2,aJ 98 3 b)] from List.mergeSort_of_pairwise (by simp[aE,aJ,nd0,cK,bT];decide)];rfl
theorem Cv(b:By):(dA 64 (dA 64 ⟨[],[]⟩ b).1 b).1=(dA 64 ⟨[],[]⟩ b).1:=by
 unfold dA
 split
 ·rfl
 · have h:=EU 64 ⟨[],[]⟩ (bY b)
   generalize uS 64 ⟨[],[]⟩ (bY b)=R at h ⊢;unfold uS;rw[h]
theorem Im(h1:NdH)(ht:bH b=[]):(aO [aE,(h1,aJ 97 2 b)]).ds=(dA 64 ⟨[],[]⟩ b).1∧(aO [aE,(h1,aJ 97 2 b)]).tails=[]:=by
 have e:aO [aE,(h1,aJ 97 2 b)]=cR (cR (fs0 3) aE.2) (aJ 97 2 b):=rfl;rw[e,kH (s:=fs0 3) (x:=aE.2) (.inl (by decide))];unfold cR;rw[R3 (by rintro(h|h);exact h rfl;exact absurd (show (0:Int)=2 from h) (by decide))];exact⟨rfl,by show (eW [] (bH b)).1=[];rw[ht];rfl⟩
theorem HQ(h1 h2:NdH)(ht:bH b=[]):(aO [aE,(h1,aJ 97 2 b),(h2,aJ 98 3 b)]).ds=(dA 64 ⟨[],[]⟩ b).1∧(aO [aE,(h1,aJ 97 2 b),(h2,aJ 98 3 b)]).tails=[]:=by
 have e:aO [aE,(h1,aJ 97 2 b),(h2,aJ 98 3 b)]=cR (cR (cR (fs0 4) aE.2) (aJ 97 2 b)) (aJ 98 3 b):=rfl;rw[e,kH (s:=fs0 4) (x:=aE.2) (.inl (by decide))];have e1:cR (fs0 4) (aJ 97 2 b)=⟨(dA 64 ⟨[],[]⟩ b).1,(eW [] (bH b)).1,(fs0 4).files.set 2 (fun j=>[2,0,0,0,0,0,((dA 64 ⟨[],[]⟩ b).2:Int),b.length,((eW [] (bH b)).2.1:Int),((eW [] (bH b)).2.2:Int)].getD j 0,[])⟩:=by
  unfold cR;rw[R3 (by rintro(h|h);exact h rfl;exact absurd (show (0:Int)=2 from h) (by decide))];rfl
 rw[e1,ht];unfold cR;rw[R3 (by rintro(h|h);exact h rfl;exact absurd (show (0:Int)=2 from h) (by decide))];exact⟨Cv b,by show (eW [] (bH b)).1=[];rw[ht];rfl⟩
end
theorem Bx{b:By}(h:b.length%128=0):bH b=[]:=by
 unfold bH;exact List.drop_eq_nil_of_le (by omega)
theorem Il{b:By}{h1:NdH}{ids:List Int}(M:ImB [aE,(h1,aJ 97 2 b)] ids)(ht:bH b=[]):(dN [aE,(h1,aJ 97 2 b)] ids (aF [aE,(h1,aJ 97 2 b)] ids)) 1=2∧(dN [aE,(h1,aJ 97 2 b)] ids (aF [aE,(h1,aJ 97 2 b)] ids)) 2=64+((dA 64 ⟨[],[]⟩ b).1.B.length:Int):=by
 have e1:=sQ M (fun m k1 hm=>by
  have hm:m≤2:=hm;rcases(show m=1∨m=2 by omega) with rfl|rfl
  ·exact⟨aE,by simp,rfl⟩
  ·exact⟨_,by simp;exact .inr rfl,rfl⟩)
 obtain⟨f1,f2⟩:=Im (b:=b) h1 ht;refine⟨?_,?_⟩
 · show ((aF _ ids).s.many:Int)=2
   rw[e1];rfl
 · show 64+(((dB (aO _).tails (aO _).ds).1.B.length:Nat):Int)=_
   rw[f1,f2];rfl
theorem HP{b:By}{h1 h2:NdH}{ids:List Int}(M:ImB [aE,(h1,aJ 97 2 b),(h2,aJ 98 3 b)] ids)(ht:bH b=[]):(dN [aE,(h1,aJ 97 2 b),(h2,aJ 98 3 b)] ids (aF [aE,(h1,aJ 97 2 b),(h2,aJ 98 3 b)] ids)) 1=3∧(dN [aE,(h1,aJ 97 2 b),(h2,aJ 98 3 b)] ids (aF [aE,(h1,aJ 97 2 b),(h2,aJ 98 3 b)] ids)) 2=64+((dA 64 ⟨[],[]⟩ b).1.B.length:Int):=by
 have e1:=sQ M (fun m k1 hm=>by
  have hm:m≤3:=hm;rcases(show m=1∨m=2∨m=3 by omega) with rfl|rfl|rfl
  ·exact⟨aE,by simp,rfl⟩
  ·exact⟨(h1,aJ 97 2 b),by simp,rfl⟩
  ·exact⟨(h2,aJ 98 3 b),by simp,rfl⟩)
 obtain⟨f1,f2⟩:=HQ (b:=b) h1 h2 ht;refine⟨?_,?_⟩
 · show ((aF _ ids).s.many:Int)=3
   rw[e1];rfl
 · show 64+(((dB (aO _).tails (aO _).ds).1.B.length:Nat):Int)=_
   rw[f1,f2];rfl
theorem JN{H:Array Obj}{g:Nat}{a:Option Addr}{c:Nat}{x:UInt8}{i:Int}{b:By}(h1:Vw iK H (some ⟨g,0,none⟩) 1 [[x]])(h2:Vw b8 H a c b):NdV (fun _=>True) H (Cg g a b.length c,aJ x i b):=
 ⟨⟨rfl,h1,fun _ _ _=>trivial⟩,⟨rfl,h2,fun _ _ _=>trivial⟩,(qS (D:=fun _=>True) H).2.2⟩
theorem Ce{x:UInt8}{i:Int}{b:By}:smN (aJ x i b):=⟨Sf _,by simp[aJ];decide,by simp[aJ,nd0]⟩
theorem Cf{x:UInt8}{i:Int}{b:By}(h:0≤i∧i≤3):okN (aJ x i b):=by
 simp[okN,aJ,nd0];omega
theorem zA(a0:Option Addr)(cap0:Nat)(x0:By)(W:World)(hv0:Vw b8 W.heap a0 cap0 x0) :
 CA 5 [.slice a0 x0.length cap0] W fun v w'=>v=.bool true∧aA nob W w':=by
 have hle:=hv0.le;have h63:=hv0.RX;have hmax:=hv0.max;refine cS 95 [(0,_)] Tryz.func5 ?_;refine cA 7 fn8 (ER W) ?_;rintro _ w1 ⟨rfl,hf1⟩;refine Gz 3 ?_;refine O1 (β:=Unit) (fun _u=>[(0,.slice a0 (x0.take 1500).length cap0),(3,.bool true)]) (fun _u w=>w=w1) ?_ ?_
 ·refine fK 4 ?_ ?_<;>intro h19
  ·refine Gz 5 ?_;refine cL (Ox (u:=.slice a0 (x0.take 1500).length cap0) (OV aP rfl rfl (by omega)) (by rw[bN,Sh,Td (by omega)];rfl)) ?_;refine Gz 2 ?_;exact aC () rfl
  refine Gz 4 ?_;exact O4 () ⟨(by rw[So (by omega)];rfl),rfl,trivial⟩ rfl
 rintro _ wq hwq;obtain rfl:w1=wq:=hwq.symm;obtain⟨x1,hx1⟩:∃ x,x=x0.take 1500:=⟨_,rfl⟩
 rw[←hx1];obtain⟨b,hb⟩:∃ b,b=x1.take (x1.length/128*128):=⟨_,rfl⟩
 have hx15:x1.length≤1500∧x1.length≤x0.length:=by rw[hx1,Sh];omega
 have hbl:b.length=x1.length/128*128:=by rw[hb,Sh];omega
 have hb15:b.length≤1500:=by omega
 have hbt:bH b=[]:=Bx (by omega);have hvb:Vw b8 w1.heap a0 cap0 b:=by rw[hb,hx1];exact((hv0.RY hf1).take _).take _
 refine Gz 5 ?_;refine cL (Ox (u:=iV ((x1.length/128:Nat):Int)) (PX rfl rfl (by omega) (by decide)) (by congr 1)) ?_;refine cL (Ox (u:=iV ((x1.length/128*128:Nat):Int)) (Pc rfl rfl (by omega)) (by congr 1)) ?_;refine cL (Ox (u:=.slice a0 b.length cap0) (OV aP rfl rfl (by omega)) (by rw[bN,hbl];rfl)) ?_;refine Gz 5 ?_;refine cL (bU (aH aE) C5 fS) ?_;refine Ov fS rfl ?_;intro w2 hg2 hs2 hf2;obtain⟨p0,e0⟩:∃ p,p=w1.heap.size:=⟨_,rfl⟩
 rw[←e0] at hg2 ⊢;refine OD (vs:=aH aE) aX rfl rfl (aB aE).2 hg2 rfl ?_;intro w3 hr3 hs3 hf3;have hF3:aA nob w1 w3:=hf2.tw hf3;have hz3:=hF3.size;refine Gz 4 ?_;refine Pd (enc:=iK) (u:=([97]:By)) lU rfl rfl rfl ?_;intro w4 hA4 hs4 hf4;obtain⟨g1,eg1⟩:∃ g,g=w3.heap.size:=⟨_,rfl⟩
 rw[←eg1] at hA4 ⊢;refine Gz 1 ?_;refine cL (bU (aH (Cg g1 a0 b.length cap0,aJ 97 2 b)) C5 fS) ?_;refine Ov fS rfl ?_;intro w5 hg5 hs5 hf5;obtain⟨p1,e1⟩:∃ p,p=w4.heap.size:=⟨_,rfl⟩
 rw[←e1] at hg5 ⊢;refine OD (vs:=aH (Cg g1 a0 b.length cap0,aJ 97 2 b)) aX rfl rfl (aB _).2 hg5 rfl ?_;intro w6 ha6 hs6 hf6;have hF46:aA nob w4 w6:=hf5.tw hf6;have hF36:=hf4.trans hF46;have hr6:=hF36.obj hr3 id;have hA6:=hA4.RY hF46;have hz6:=hF36.size;refine Gz 4 ?_;refine Pd (enc:=iK) (u:=([98]:By)) lU rfl rfl rfl ?_;intro w7 hB7 hs7 hf7;obtain⟨g2,eg2⟩:∃ g,g=w6.heap.size:=⟨_,rfl⟩
 rw[←eg2] at hB7 ⊢;refine Gz 1 ?_;refine cL (bU (aH (Cg g2 a0 b.length cap0,aJ 98 3 b)) C5 fS) ?_;refine Ov fS rfl ?_;intro w8 hg8 hs8 hf8;obtain⟨p2,e2⟩:∃ p,p=w7.heap.size:=⟨_,rfl⟩
 rw[←e2] at hg8 ⊢;refine OD (vs:=aH (Cg g2 a0 b.length cap0,aJ 98 3 b)) aX rfl rfl (aB _).2 hg8 rfl ?_;intro w9 hb9 hs9 hf9;have hF79:aA nob w7 w9:=hf8.tw hf9;have hF69:=hf7.trans hF79;have hF19:=(hF3.trans hF36).trans hF69;have n1:=JN (x:=97) (i:=2) (hA6.RY hF69).vw (hvb.RY hF19);have n2:=JN (x:=98) (i:=3) (hB7.RY hF79).vw (hvb.RY hF19);have hr9:=hF69.obj hr6 id;have ha9:=hF69.obj ha6 id;obtain⟨h1,eh1⟩:∃ h,h=Cg g1 a0 b.length cap0:=⟨_,rfl⟩
 obtain⟨h2,eh2⟩:∃ h,h=Cg g2 a0 b.length cap0:=⟨_,rfl⟩
 rw[←eh1] at n1 ha9;rw[←eh2] at n2 hb9;have z1:chk (nds [aE,(h1,aJ 97 2 b)])=0:=(tY _).2 (FX h1 hb15);have z2:chk (nds [aE,(h1,aJ 97 2 b),(h2,aJ 98 3 b)])=0:=(tY _).2 (E9 h1 h2 hb15);refine Gz 4 ?_;refine cL (OG (cs:=aH aE) aX rfl (bO hr9 0 rfl)) ?_;refine cL (OG (cs:=aH (h1,aJ 97 2 b)) aX rfl (bO ha9 0 rfl)) ?_;refine Pa gL (cs:=(aH aE++aH (h1,aJ 97 2 b)).toArray) fS rfl rfl rfl (by kernel_rfl) rfl ?_;intro wA hgA hsA hfA;have hoA:cH 10 aH 37 wA.heap (some ⟨w9.heap.size,0,none⟩) 2 [aE,(h1,aJ 97 2 b)]:=fG (xs:=[aE,(h1,aJ 97 2 b)]) aB (by simpa using hgA) (by show 2≤maxLen;decide);refine Ot KI rfl (oQ (some ⟨w9.heap.size,0,none⟩) 2 [aE,(h1,aJ 97 2 b)] wA (bD.lts (D:=fun _=>True) ⟨hoA.vw aB,by simp only[St,SD,or_false];rintro p (rfl|rfl);exact qS _;exact n1.RY hfA⟩) (by simp only[St,SD,or_false];rintro p (rfl|rfl);exact xQ;exact Ce) (by simp only[St,SD,or_false];rintro p (rfl|rfl);exact xR;exact Cf (by decide)) (by show 2≤40;decide)) rfl ?_;rintro _ wB hB;obtain⟨hz,ids,oB,cB,hIds,rfl,hoB,hfrB,hfB⟩:=hB.resolve_left (fun h=>h.1 z1);have hG:=yM z1 (by show 2≤40;decide);rw[In] at hG hIds hoB ⊢;have M:ImB [aE,(h1,aJ 97 2 b)] ids:=⟨hG,hIds,oI hG hIds (by show 2≤3;decide)⟩
 rw[M.img] at hoB ⊢;obtain⟨s1,s2⟩:=Il M hbt;have himl:(imB [aE,(h1,aJ 97 2 b)] ids).length≤1048576:=by unfold imB;rw[R6,kP];have:=M.sz;omega
 have hF9B:=hfA.trans hfB;have hsp:=M.sup;obtain⟨F,hF⟩:∃ F,F=dN [aE,(h1,aJ 97 2 b)] ids (aF [aE,(h1,aJ 97 2 b)] ids):=⟨_,rfl⟩
 rw[←hF] at hsp s1 s2;obtain⟨I,hI⟩:∃ I,I=imB [aE,(h1,aJ 97 2 b)] ids:=⟨_,rfl⟩
 rw[←hI] at hsp hoB himl ⊢;refine Gz 9 ?_;refine cL (OG (cs:=aH aE) aX rfl (bO (hF9B.obj hr9 id) 0 rfl)) ?_;refine cL (OG (cs:=aH (h1,aJ 97 2 b)) aX rfl (bO (hF9B.obj ha9 id) 0 rfl)) ?_;refine cL (OG (cs:=aH (h2,aJ 98 3 b)) aX rfl (bO (hF9B.obj hb9 id) 0 rfl)) ?_;refine Pa gL (cs:=(aH aE++aH (h1,aJ 97 2 b)++aH (h2,aJ 98 3 b)).toArray) fS rfl rfl rfl (by kernel_rfl) rfl ?_;intro wC hgC hsC hfC;have hoC:cH 10 aH 37 wC.heap (some ⟨wB.heap.size,0,none⟩) 3 [aE,(h1,aJ 97 2 b),(h2,aJ 98 3 b)]:=fG (xs:=[aE,(h1,aJ 97 2 b),(h2,aJ 98 3 b)]) aB (by simpa using hgC) (by show 3≤maxLen;decide);have hF9C:=hF9B.trans hfC;refine Ot KI rfl (oQ (some ⟨wB.heap.size,0,none⟩) 3 [aE,(h1,aJ 97 2 b),(h2,aJ 98 3 b)] wC (bD.lts (D:=fun _=>True) ⟨hoC.vw aB,by simp only[St,SD,or_false];rintro p (rfl|rfl|rfl);exact qS _;exact n1.RY hF9C;exact n2.RY hF9C⟩) (by simp only[St,SD,or_false];rintro p (rfl|rfl|rfl);exact xQ;exact Ce;exact Ce) (by simp only[St,SD,or_false];rintro p (rfl|rfl|rfl);exact xR;exact Cf (by decide);exact Cf (by decide)) (by show 3≤40;decide)) rfl ?_;rintro _ wD hD;obtain⟨hy,jds,oD,cD,hJds,rfl,hoD,hfrD,hfD⟩:=hD.resolve_left (fun h=>h.1 z2);have hG2:=yM z2 (by show 3≤40;decide);rw[HR] at hG2 hJds hoD ⊢;have M2:ImB [aE,(h1,aJ 97 2 b),(h2,aJ 98 3 b)] jds:=⟨hG2,hJds,oI hG2 hJds (by show 3≤3;decide)⟩
 rw[M2.img] at hoD ⊢;obtain⟨t1,t2⟩:=HP M2 hbt;have himk:(imB [aE,(h1,aJ 97 2 b),(h2,aJ 98 3 b)] jds).length≤1048576:=by unfold imB;rw[R6,kP];have:=M2.sz;omega
 have htp:=M2.sup;obtain⟨K,hK⟩:∃ K,K=dN [aE,(h1,aJ 97 2 b),(h2,aJ 98 3 b)] jds (aF [aE,(h1,aJ 97 2 b),(h2,aJ 98 3 b)] jds):=⟨_,rfl⟩
 rw[←hK] at htp t1 t2;obtain⟨J,hJ⟩:∃ J,J=imB [aE,(h1,aJ 97 2 b),(h2,aJ 98 3 b)] jds:=⟨_,rfl⟩
 rw[←hJ] at htp hoD himk ⊢;have hoB2:=(hoB.RY hfC).RY hfD;refine cA 9 KH (pC wD) ?_;rintro _ wE ⟨rfl,hfE⟩;refine Ov E0 rfl ?_;intro wF hgF hsF hfF;refine OD (vs:=tab) pE rfl rfl qN hgF (by rw[mP,SP]) ?_;intro wG hgG hsG hfG;obtain⟨tp,hp⟩:∃ p,p=wE.heap.size:=⟨_,rfl⟩
 have hFG:aA nob wD wG:=(hfE.trans hfF).RV hfG (fun k hk=>.inr (by have h:k=wE.heap.size:=hk;have:=hfE.size;omega));rw[←hp] at hgG ⊢;have htG:TbV wG.heap tp:=hgG;refine Gz 5 ?_;refine Ot KG rfl (oH tp oB cB I wG htG (hoB2.RY hFG).vw (by omega)) rfl ?_;rw[hsp];rintro _ wH ⟨rfl,hfH⟩;refine Gz 3 ?_;refine Ov mM rfl ?_;intro wI hgI hsI hfI;obtain⟨u1,eu1⟩:∃ b,b=wH.heap.size:=⟨_,rfl⟩
 rw[←eu1] at hgI ⊢;refine sA rfl cU (by exact cQ _) hgI ?_;intro wJ hgJ hsJ hfJ;have hFJ:aA nob wH wJ:=hfI.tw hfJ;have hFGJ:=hfH.trans hFJ;refine Gz 6 ?_;refine Ot KG rfl (oH tp oD cD J wJ (hFGJ.obj htG id) ((hoD.RY hFG).RY hFGJ).vw (by omega)) rfl ?_;rw[htp];rintro _ wK ⟨rfl,hfK⟩;refine Gz 3 ?_;refine Ov mM rfl ?_;intro wL hgL hsL hfL;obtain⟨u2,eu2⟩:∃ b,b=wK.heap.size:=⟨_,rfl⟩
 rw[←eu2] at hgL ⊢;refine sA rfl cU (by exact cQ _) hgL ?_;intro wM hgM hsM hfM;have hFM:aA nob wK wM:=hfL.tw hfM;have hgJM:=(hfK.trans hFM).obj hgJ id;refine Gz 8 ?_;refine cW (O5 (OX rfl rfl) rfl) ?_;refine Gz 3 ?_;refine cW (O5 (OX rfl rfl) rfl) ?_;refine Gz 3 ?_;refine cW (O5 (OX rfl rfl) rfl) ?_;refine Gz 3 ?_;refine cW (O5 (OX rfl rfl) rfl) ?_;refine Gz 3 ?_;refine cW (Ow aL rfl (aD (i:=2) hgJM rfl)) ?_;refine Gz 1 ?_;refine cW (Ow aL rfl (aD (i:=2) hgM rfl)) ?_;refine cW (O5 (OX rfl rfl) (s2.trans t2.symm)) ?_;refine Gz 3 ?_;refine cW (Ow aL rfl (aD (i:=1) hgJM rfl)) ?_;refine cW (O5 (OX rfl rfl) s1) ?_;refine Gz 3 ?_;refine cW (Ow aL rfl (aD (i:=1) hgM rfl)) ?_;refine cW (O5 (OX rfl rfl) t1) ?_;refine Gz 6 ?_;exact⟨_,rfl,rfl,(((((((hf1.trans hF19).trans hF9C).trans hfD).trans hFG).trans hFGJ).trans hfK).trans hFM)⟩
end
end Go.Proofs.YthmmmagklhiiiaaGreatDoor
