/- lamella: what the law needs. No condition beyond the bounds that each states. -/
import Derived.Test.YthmmmagklhiiiaaGreatDoorBuildOneQ4
namespace Go.Proofs.YthmmmagklhiiiaaGreatDoor
open Go Go.RowKit
set_option linter.unusedVariables false
set_option linter.unusedSectionVars false
set_option maxHeartbeats 64000000
open List renaming length_append → Ww, mem_of_getElem? → Wz, length_take → WB, length_singleton → WF, take_of_length_le → WJ, length_map → WK, mem_map → WS, length_cons → WT, mem_singleton → WY, mem_of_mem_take → XF
open _root_.Nat renaming le_refl → WC, zero_le → WG
open Classical renaming not_not → W3
section
open Go Go.RowKit Go.Maps
def Nf(n:Nd):Nd:={ n with names:=n.names.take 18,data:=n.data.take 1500,xs:=n.xs.take 10 }
def bV(p:NdH×Nd):NdH×Nd:=(⟨gI p.1.names 18,gI p.1.data 1500,gI p.1.xs 10⟩,Nf p.2)
def kH(ps:List (NdH×Nd)):List (NdH×Nd):=(ps.take 40).map bV
variable {D:Nat→Prop}
theorem NdV.mfew{H:Array Obj}{p:NdH×Nd}(v:NdV D H p):NdV D H (bV p):=⟨v.1.cut 18,v.2.1.cut 1500,v.2.2.cut 10⟩
theorem smN.mfew{n:Nd}(h:smN n):smN (Nf n):=⟨h.1,fun s hs=>h.2.1 s (XF hs),fun x hx=>h.2.2 x (XF hx)⟩
theorem CU(ps:List (NdH×Nd)):(kH ps).length≤40:=by unfold kH;rw[WK,WB];omega
theorem mO{ps:List (NdH×Nd)}{i:Nat}{p:NdH×Nd}(hp:ps[i]?=some p):(ps.take (i+1)).map bV=(ps.take i).map bV++[bV p]:=by rw[tkL hp];simp
theorem FV(lo:Option Addr)(lc:Nat)(ps:List (NdH×Nd))(W:World)(hv:aQ D W.heap lo lc ps) :
 CA 9 [.slice lo ps.length lc] W fun v w'=>∃ o c,v=.slice o (kH ps).length c∧bP 10 aF 37 w'.heap o c (kH ps)∧Fr W.heap.size o∧aA nob W w'∧aQ D w'.heap o c (kH ps):=by
 have h63:=hv.1.Wq;refine cS 50 [(0,_)] Tryz.func9 ?_;refine Gz 7 ?_;refine TG aB aS rfl ?_;intro w1 ho1 hs1 hf1;refine Gz 10 ?_;refine SO (β:=Nat×Option Addr×Nat) (fun⟨i,o,c⟩=>[(0,.slice lo ps.length lc),(3,.slice o ((ps.take i).map bV).length c),(4,iV i)]) (fun⟨i,o,c⟩ w=>i≤ps.length∧i≤40∧bP 10 aF 37 w.heap o c ((ps.take i).map bV)∧Fr W.heap.size o∧aA nob W w) (fun⟨i,o,c⟩=>ps.length-i) ⟨0,some ⟨W.heap.size,0,none⟩,0⟩ ⟨rfl,rfl,rfl,trivial⟩ ⟨WG _,WG _,ho1,fun a ha=>by cases ha;exact WC _,hf1⟩ ?_;rintro⟨i,o,c⟩ w2 ⟨hi,hi60,ho2,hfo,hF2⟩;refine fK 6 ?_ ?_<;>intro h10
 ·refine fW 2 ?_ ?_<;>intro h13
  ·have hil:i<ps.length:=by omega
   obtain⟨p,hp⟩:∃ p,ps[i]?=some p:=⟨_,List.getElem?_eq_getElem hil⟩
   have hpm:=Wz hp;have hv2:=hv.Wr hF2;refine Gz 2 ?_;refine aW [(0,_),(3,_),(4,_),(14,_)] ?_;refine Gz 10 ?_;refine cL (SL aS rfl rfl hv2.1.non (by omega)) ?_;refine cL (SX (cs:=aF p) bB rfl (fun j v hj=>hv2.1.rowZ i rfl hp j v hj)) ?_;refine SP fF rfl ?_;intro w3 hg3 hs3 hf3;obtain⟨q,hq⟩:∃ q,q=w2.heap.size:=⟨_,rfl⟩
   rw[←hq] at hg3 ⊢;have hqW:W.heap.size≤q:=by rw[hq];exact hF2.size
   refine SY (vs:=aF p) bB rfl rfl (aB p).2 hg3 rfl ?_;intro w4 hg4 hs4 hf4;have hf24:aA nob w2 w4:=hf3.Wo hf4 (fun k e=>.inr (by have e:k=q:=e;omega));have hF4:aA nob W w4:=hF2.trans hf24;have hn4:=(hv.Wr hF4).2 p hpm;have ho4:=ho2.Wr hf24;have hoq:∀ a,o=some a→¬ a.block=q:=fun a ha=>by have:=ho2.lt a ha;omega
   refine fK 8 ?_ ?_<;>intro h24
   ·refine Gz 6 ?_;refine cL (SN (u:=hd ⟨p.1.names.a,18,p.1.names.c⟩) (S8 jK rfl rfl (by have:=hn4.1.2.1.le;have:=hn4.1.1;omega)) (by rw[bD];rfl)) ?_;refine Gz 1 ?_;refine SV eW rfl rfl rfl hg4 rfl ?_;intro w5 hg5 hs5 hf5;have hgA:w5.heap[q]?=some (.cells (aF ((⟨gI p.1.names 18,p.1.data,p.1.xs⟩:NdH),p.2)).toArray 37 (0,0)):=by rw[dN (by omega)];exact hg5
    have hF5:aA nob W w5:=hF4.Wo hf5 (fun k e=>.inr (by have e:k=q:=e;omega));have ho5:=ho4.Ws hf5 hoq;refine Gz 6 ?_;have hn5:=(hv.Wr hF5).2 p hpm;refine cL (SN (u:=hd p.1.data) (SM aX rfl (aD hgA rfl)) rfl) ?_;refine fK 1 ?_ ?_<;>intro h32
    ·refine Gz 5 ?_;refine cL (SN (u:=hd p.1.data) (SM aX rfl (aD hgA rfl)) rfl) ?_;refine cL (SN (u:=hd ⟨p.1.data.a,1500,p.1.data.c⟩) (S8 aT rfl rfl (by have:=hn5.2.1.2.1.le;have:=hn5.2.1.1;omega)) (by rw[bD];rfl)) ?_;refine Gz 1 ?_;refine SV aX rfl rfl rfl hgA rfl ?_;intro w6 hg6 hs6 hf6;have hgB:w6.heap[q]?=some (.cells (aF ((⟨gI p.1.names 18,gI p.1.data 1500,p.1.xs⟩:NdH),p.2)).toArray 37 (0,0)):=by rw[dN (n:=1500) (by omega)];exact hg6
     have hF6:aA nob W w6:=hF5.Wo hf6 (fun k e=>.inr (by have e:k=q:=e;omega));have ho6:=ho5.Ws hf6 hoq;refine Gz 6 ?_;have hn6:=(hv.Wr hF6).2 p hpm;refine cL (SN (u:=hd p.1.xs) (SM cF rfl (aD hgB rfl)) rfl) ?_;refine fK 1 ?_ ?_<;>intro h40
     ·refine Gz 5 ?_;refine cL (SN (u:=hd p.1.xs) (SM cF rfl (aD hgB rfl)) rfl) ?_;refine cL (SN (u:=hd ⟨p.1.xs.a,10,p.1.xs.c⟩) (S8 iY rfl rfl (by obtain⟨k1,ys,k2,k3,_⟩:=hn6.2.2;have:=k2.le;omega)) (by rw[bD];rfl)) ?_;refine Gz 1 ?_;refine SV cF rfl rfl rfl hgB rfl ?_;intro w7 hg7 hs7 hf7;have hgC:w7.heap[q]?=some (.cells (aF (bV p)).toArray 37 (0,0)):=by unfold bV;rw[dN (n:=10) (by omega)];exact hg7
      have hF7:aA nob W w7:=hF6.Wo hf7 (fun k e=>.inr (by have e:k=q:=e;omega));have ho7:=ho6.Ws hf7 hoq;refine Gz 4 ?_;refine cL (SX (cs:=aF (bV p)) bB rfl (bJ hgC 0 rfl)) ?_;obtain⟨y,hy⟩:∃ y,y=bV p:=⟨_,rfl⟩
      rw[←hy];refine Tc aS (cs:=(aF y).toArray) fF rfl rfl rfl (by kernel_rfl) rfl ?_;intro w8 hg8 hs8 hf8;have ho8:bP 10 aF 37 w8.heap (some ⟨w7.heap.size,0,none⟩) 1 [y]:=bX (xs:=[y]) aB (by simpa using hg8) (by show 1≤maxLen;decide);refine S2 aB rfl aS rfl rfl (ho7.Wr hf8) (ho8.vw aB) (by simp only[WF,WK,WB];omega) (by simp only[WF,WK,WB];unfold maxLen;omega) rfl ?_;intro o9 c9 w9 ho9 hf9 hr9 hn9;rw[hy,←mO hp] at ho9 ⊢;have hF9:aA nob W w9:=(hF7.trans hf8).Wo hf9 hfo.step;have hfo9:Fr W.heap.size o9:=cP hfo hr9 (by have:=hF7.size;have:=hf8.size;omega);refine Gz 9 ?_;exact aG ⟨i+1,o9,c9⟩ ⟨by omega,by omega,ho9,hfo9,hF9⟩ (by show ps.length-(i+1)<ps.length-i;omega)
     have hgC:w6.heap[q]?=some (.cells (aF (bV p)).toArray 37 (0,0)):=by unfold bV;rw[fE (n:=10) (by omega)];exact hgB
     have hF7:=hF6;have ho7:=ho6
     rename World=>w7
     refine Gz 7 ?_;refine cL (SX (cs:=aF (bV p)) bB rfl (bJ hgC 0 rfl)) ?_;obtain⟨y,hy⟩:∃ y,y=bV p:=⟨_,rfl⟩
     rw[←hy];refine Tc aS (cs:=(aF y).toArray) fF rfl rfl rfl (by kernel_rfl) rfl ?_;intro w8 hg8 hs8 hf8;have ho8:bP 10 aF 37 w8.heap (some ⟨w7.heap.size,0,none⟩) 1 [y]:=bX (xs:=[y]) aB (by simpa using hg8) (by show 1≤maxLen;decide);refine S2 aB rfl aS rfl rfl (ho7.Wr hf8) (ho8.vw aB) (by simp only[WF,WK,WB];omega) (by simp only[WF,WK,WB];unfold maxLen;omega) rfl ?_;intro o9 c9 w9 ho9 hf9 hr9 hn9;rw[hy,←mO hp] at ho9 ⊢;have hF9:aA nob W w9:=(hF7.trans hf8).Wo hf9 hfo.step;have hfo9:Fr W.heap.size o9:=cP hfo hr9 (by have:=hF7.size;have:=hf8.size;omega);refine Gz 9 ?_;exact aG ⟨i+1,o9,c9⟩ ⟨by omega,by omega,ho9,hfo9,hF9⟩ (by show ps.length-(i+1)<ps.length-i;omega)
    have hgB:w5.heap[q]?=some (.cells (aF ((⟨gI p.1.names 18,gI p.1.data 1500,p.1.xs⟩:NdH),p.2)).toArray 37 (0,0)):=by rw[fE (n:=1500) (by omega)];exact hgA
    have hF6:=hF5;have ho6:=ho5
    rename World=>w6
    refine Gz 9 ?_;have hn6:=(hv.Wr hF6).2 p hpm;refine cL (SN (u:=hd p.1.xs) (SM cF rfl (aD hgB rfl)) rfl) ?_;refine fK 1 ?_ ?_<;>intro h40
    ·refine Gz 5 ?_;refine cL (SN (u:=hd p.1.xs) (SM cF rfl (aD hgB rfl)) rfl) ?_;refine cL (SN (u:=hd ⟨p.1.xs.a,10,p.1.xs.c⟩) (S8 iY rfl rfl (by obtain⟨k1,ys,k2,k3,_⟩:=hn6.2.2;have:=k2.le;omega)) (by rw[bD];rfl)) ?_;refine Gz 1 ?_;refine SV cF rfl rfl rfl hgB rfl ?_;intro w7 hg7 hs7 hf7;have hgC:w7.heap[q]?=some (.cells (aF (bV p)).toArray 37 (0,0)):=by unfold bV;rw[dN (n:=10) (by omega)];exact hg7
     have hF7:aA nob W w7:=hF6.Wo hf7 (fun k e=>.inr (by have e:k=q:=e;omega));have ho7:=ho6.Ws hf7 hoq;refine Gz 4 ?_;refine cL (SX (cs:=aF (bV p)) bB rfl (bJ hgC 0 rfl)) ?_;obtain⟨y,hy⟩:∃ y,y=bV p:=⟨_,rfl⟩
     rw[←hy];refine Tc aS (cs:=(aF y).toArray) fF rfl rfl rfl (by kernel_rfl) rfl ?_;intro w8 hg8 hs8 hf8;have ho8:bP 10 aF 37 w8.heap (some ⟨w7.heap.size,0,none⟩) 1 [y]:=bX (xs:=[y]) aB (by simpa using hg8) (by show 1≤maxLen;decide);refine S2 aB rfl aS rfl rfl (ho7.Wr hf8) (ho8.vw aB) (by simp only[WF,WK,WB];omega) (by simp only[WF,WK,WB];unfold maxLen;omega) rfl ?_;intro o9 c9 w9 ho9 hf9 hr9 hn9;rw[hy,←mO hp] at ho9 ⊢;have hF9:aA nob W w9:=(hF7.trans hf8).Wo hf9 hfo.step;have hfo9:Fr W.heap.size o9:=cP hfo hr9 (by have:=hF7.size;have:=hf8.size;omega);refine Gz 9 ?_;exact aG ⟨i+1,o9,c9⟩ ⟨by omega,by omega,ho9,hfo9,hF9⟩ (by show ps.length-(i+1)<ps.length-i;omega)
    have hgC:w6.heap[q]?=some (.cells (aF (bV p)).toArray 37 (0,0)):=by unfold bV;rw[fE (n:=10) (by omega)];exact hgB
    have hF7:=hF6;have ho7:=ho6
    rename World=>w7
    refine Gz 7 ?_;refine cL (SX (cs:=aF (bV p)) bB rfl (bJ hgC 0 rfl)) ?_;obtain⟨y,hy⟩:∃ y,y=bV p:=⟨_,rfl⟩
    rw[←hy];refine Tc aS (cs:=(aF y).toArray) fF rfl rfl rfl (by kernel_rfl) rfl ?_;intro w8 hg8 hs8 hf8;have ho8:bP 10 aF 37 w8.heap (some ⟨w7.heap.size,0,none⟩) 1 [y]:=bX (xs:=[y]) aB (by simpa using hg8) (by show 1≤maxLen;decide);refine S2 aB rfl aS rfl rfl (ho7.Wr hf8) (ho8.vw aB) (by simp only[WF,WK,WB];omega) (by simp only[WF,WK,WB];unfold maxLen;omega) rfl ?_;intro o9 c9 w9 ho9 hf9 hr9 hn9;rw[hy,←mO hp] at ho9 ⊢;have hF9:aA nob W w9:=(hF7.trans hf8).Wo hf9 hfo.step;have hfo9:Fr W.heap.size o9:=cP hfo hr9 (by have:=hF7.size;have:=hf8.size;omega);refine Gz 9 ?_;exact aG ⟨i+1,o9,c9⟩ ⟨by omega,by omega,ho9,hfo9,hF9⟩ (by show ps.length-(i+1)<ps.length-i;omega)
   have hgA:w4.heap[q]?=some (.cells (aF ((⟨gI p.1.names 18,p.1.data,p.1.xs⟩:NdH),p.2)).toArray 37 (0,0)):=by rw[fE (by omega)];exact hg4
   have hF5:=hF4;have ho5:=ho4
   rename World=>w5
   refine Gz 9 ?_;have hn5:=(hv.Wr hF5).2 p hpm;refine cL (SN (u:=hd p.1.data) (SM aX rfl (aD hgA rfl)) rfl) ?_;refine fK 1 ?_ ?_<;>intro h32
   ·refine Gz 5 ?_;refine cL (SN (u:=hd p.1.data) (SM aX rfl (aD hgA rfl)) rfl) ?_;refine cL (SN (u:=hd ⟨p.1.data.a,1500,p.1.data.c⟩) (S8 aT rfl rfl (by have:=hn5.2.1.2.1.le;have:=hn5.2.1.1;omega)) (by rw[bD];rfl)) ?_;refine Gz 1 ?_;refine SV aX rfl rfl rfl hgA rfl ?_;intro w6 hg6 hs6 hf6;have hgB:w6.heap[q]?=some (.cells (aF ((⟨gI p.1.names 18,gI p.1.data 1500,p.1.xs⟩:NdH),p.2)).toArray 37 (0,0)):=by rw[dN (n:=1500) (by omega)];exact hg6
    have hF6:aA nob W w6:=hF5.Wo hf6 (fun k e=>.inr (by have e:k=q:=e;omega));have ho6:=ho5.Ws hf6 hoq;refine Gz 6 ?_;have hn6:=(hv.Wr hF6).2 p hpm;refine cL (SN (u:=hd p.1.xs) (SM cF rfl (aD hgB rfl)) rfl) ?_;refine fK 1 ?_ ?_<;>intro h40
    ·refine Gz 5 ?_;refine cL (SN (u:=hd p.1.xs) (SM cF rfl (aD hgB rfl)) rfl) ?_;refine cL (SN (u:=hd ⟨p.1.xs.a,10,p.1.xs.c⟩) (S8 iY rfl rfl (by obtain⟨k1,ys,k2,k3,_⟩:=hn6.2.2;have:=k2.le;omega)) (by rw[bD];rfl)) ?_;refine Gz 1 ?_;refine SV cF rfl rfl rfl hgB rfl ?_;intro w7 hg7 hs7 hf7;have hgC:w7.heap[q]?=some (.cells (aF (bV p)).toArray 37 (0,0)):=by unfold bV;rw[dN (n:=10) (by omega)];exact hg7
     have hF7:aA nob W w7:=hF6.Wo hf7 (fun k e=>.inr (by have e:k=q:=e;omega));have ho7:=ho6.Ws hf7 hoq;refine Gz 4 ?_;refine cL (SX (cs:=aF (bV p)) bB rfl (bJ hgC 0 rfl)) ?_;obtain⟨y,hy⟩:∃ y,y=bV p:=⟨_,rfl⟩
     rw[←hy];refine Tc aS (cs:=(aF y).toArray) fF rfl rfl rfl (by kernel_rfl) rfl ?_;intro w8 hg8 hs8 hf8;have ho8:bP 10 aF 37 w8.heap (some ⟨w7.heap.size,0,none⟩) 1 [y]:=bX (xs:=[y]) aB (by simpa using hg8) (by show 1≤maxLen;decide);refine S2 aB rfl aS rfl rfl (ho7.Wr hf8) (ho8.vw aB) (by simp only[WF,WK,WB];omega) (by simp only[WF,WK,WB];unfold maxLen;omega) rfl ?_;intro o9 c9 w9 ho9 hf9 hr9 hn9;rw[hy,←mO hp] at ho9 ⊢;have hF9:aA nob W w9:=(hF7.trans hf8).Wo hf9 hfo.step;have hfo9:Fr W.heap.size o9:=cP hfo hr9 (by have:=hF7.size;have:=hf8.size;omega);refine Gz 9 ?_;exact aG ⟨i+1,o9,c9⟩ ⟨by omega,by omega,ho9,hfo9,hF9⟩ (by show ps.length-(i+1)<ps.length-i;omega)
    have hgC:w6.heap[q]?=some (.cells (aF (bV p)).toArray 37 (0,0)):=by unfold bV;rw[fE (n:=10) (by omega)];exact hgB
    have hF7:=hF6;have ho7:=ho6
    rename World=>w7
    refine Gz 7 ?_;refine cL (SX (cs:=aF (bV p)) bB rfl (bJ hgC 0 rfl)) ?_;obtain⟨y,hy⟩:∃ y,y=bV p:=⟨_,rfl⟩
    rw[←hy];refine Tc aS (cs:=(aF y).toArray) fF rfl rfl rfl (by kernel_rfl) rfl ?_;intro w8 hg8 hs8 hf8;have ho8:bP 10 aF 37 w8.heap (some ⟨w7.heap.size,0,none⟩) 1 [y]:=bX (xs:=[y]) aB (by simpa using hg8) (by show 1≤maxLen;decide);refine S2 aB rfl aS rfl rfl (ho7.Wr hf8) (ho8.vw aB) (by simp only[WF,WK,WB];omega) (by simp only[WF,WK,WB];unfold maxLen;omega) rfl ?_;intro o9 c9 w9 ho9 hf9 hr9 hn9;rw[hy,←mO hp] at ho9 ⊢;have hF9:aA nob W w9:=(hF7.trans hf8).Wo hf9 hfo.step;have hfo9:Fr W.heap.size o9:=cP hfo hr9 (by have:=hF7.size;have:=hf8.size;omega);refine Gz 9 ?_;exact aG ⟨i+1,o9,c9⟩ ⟨by omega,by omega,ho9,hfo9,hF9⟩ (by show ps.length-(i+1)<ps.length-i;omega)
   have hgB:w5.heap[q]?=some (.cells (aF ((⟨gI p.1.names 18,gI p.1.data 1500,p.1.xs⟩:NdH),p.2)).toArray 37 (0,0)):=by rw[fE (n:=1500) (by omega)];exact hgA
   have hF6:=hF5;have ho6:=ho5
   rename World=>w6
   refine Gz 9 ?_;have hn6:=(hv.Wr hF6).2 p hpm;refine cL (SN (u:=hd p.1.xs) (SM cF rfl (aD hgB rfl)) rfl) ?_;refine fK 1 ?_ ?_<;>intro h40
   ·refine Gz 5 ?_;refine cL (SN (u:=hd p.1.xs) (SM cF rfl (aD hgB rfl)) rfl) ?_;refine cL (SN (u:=hd ⟨p.1.xs.a,10,p.1.xs.c⟩) (S8 iY rfl rfl (by obtain⟨k1,ys,k2,k3,_⟩:=hn6.2.2;have:=k2.le;omega)) (by rw[bD];rfl)) ?_;refine Gz 1 ?_;refine SV cF rfl rfl rfl hgB rfl ?_;intro w7 hg7 hs7 hf7;have hgC:w7.heap[q]?=some (.cells (aF (bV p)).toArray 37 (0,0)):=by unfold bV;rw[dN (n:=10) (by omega)];exact hg7
    have hF7:aA nob W w7:=hF6.Wo hf7 (fun k e=>.inr (by have e:k=q:=e;omega));have ho7:=ho6.Ws hf7 hoq;refine Gz 4 ?_;refine cL (SX (cs:=aF (bV p)) bB rfl (bJ hgC 0 rfl)) ?_;obtain⟨y,hy⟩:∃ y,y=bV p:=⟨_,rfl⟩
    rw[←hy];refine Tc aS (cs:=(aF y).toArray) fF rfl rfl rfl (by kernel_rfl) rfl ?_;intro w8 hg8 hs8 hf8;have ho8:bP 10 aF 37 w8.heap (some ⟨w7.heap.size,0,none⟩) 1 [y]:=bX (xs:=[y]) aB (by simpa using hg8) (by show 1≤maxLen;decide);refine S2 aB rfl aS rfl rfl (ho7.Wr hf8) (ho8.vw aB) (by simp only[WF,WK,WB];omega) (by simp only[WF,WK,WB];unfold maxLen;omega) rfl ?_;intro o9 c9 w9 ho9 hf9 hr9 hn9;rw[hy,←mO hp] at ho9 ⊢;have hF9:aA nob W w9:=(hF7.trans hf8).Wo hf9 hfo.step;have hfo9:Fr W.heap.size o9:=cP hfo hr9 (by have:=hF7.size;have:=hf8.size;omega);refine Gz 9 ?_;exact aG ⟨i+1,o9,c9⟩ ⟨by omega,by omega,ho9,hfo9,hF9⟩ (by show ps.length-(i+1)<ps.length-i;omega)
   have hgC:w6.heap[q]?=some (.cells (aF (bV p)).toArray 37 (0,0)):=by unfold bV;rw[fE (n:=10) (by omega)];exact hgB
   have hF7:=hF6;have ho7:=ho6
   rename World=>w7
   refine Gz 7 ?_;refine cL (SX (cs:=aF (bV p)) bB rfl (bJ hgC 0 rfl)) ?_;obtain⟨y,hy⟩:∃ y,y=bV p:=⟨_,rfl⟩
   rw[←hy];refine Tc aS (cs:=(aF y).toArray) fF rfl rfl rfl (by kernel_rfl) rfl ?_;intro w8 hg8 hs8 hf8;have ho8:bP 10 aF 37 w8.heap (some ⟨w7.heap.size,0,none⟩) 1 [y]:=bX (xs:=[y]) aB (by simpa using hg8) (by show 1≤maxLen;decide);refine S2 aB rfl aS rfl rfl (ho7.Wr hf8) (ho8.vw aB) (by simp only[WF,WK,WB];omega) (by simp only[WF,WK,WB];unfold maxLen;omega) rfl ?_;intro o9 c9 w9 ho9 hf9 hr9 hn9;rw[hy,←mO hp] at ho9 ⊢;have hF9:aA nob W w9:=(hF7.trans hf8).Wo hf9 hfo.step;have hfo9:Fr W.heap.size o9:=cP hfo hr9 (by have:=hF7.size;have:=hf8.size;omega);refine Gz 9 ?_;exact aG ⟨i+1,o9,c9⟩ ⟨by omega,by omega,ho9,hfo9,hF9⟩ (by show ps.length-(i+1)<ps.length-i;omega)
  refine Gz 2 ?_;refine aW [(0,_),(3,_),(4,_),(14,_)] ?_;refine Gz 15 ?_;have e:ps.take i=ps.take 40:=by
   by_cases k:i=40
   ·rw[k]
   ·rw[WJ (by omega),WJ (by omega)]
  rw[e] at ho2 ⊢;refine⟨_,rfl,o,c,rfl,ho2,hfo,hF2,ho2.vw aB,fun p hp=>?_⟩;obtain⟨r,hr,rfl⟩:=WS.1 hp;exact((hv.Wr hF2).2 r (XF hr)).mfew
 refine Gz 5 ?_;refine aW [(0,_),(3,_),(4,_),(14,_)] ?_;refine Gz 15 ?_;have e:ps.take i=ps.take 40:=by
  by_cases k:i=40
  ·rw[k]
  ·rw[WJ (by omega),WJ (by omega)]
 rw[e] at ho2 ⊢;refine⟨_,rfl,o,c,rfl,ho2,hfo,hF2,ho2.vw aB,fun p hp=>?_⟩;obtain⟨r,hr,rfl⟩:=WS.1 hp;exact((hv.Wr hF2).2 r (XF hr)).mfew
theorem GH{qs:List (NdH×Nd)}{ids:List Int}(G:GdT qs)(I:mA qs ids)(h1:qs.length≤3):64+((dE (aE qs ids) ids).length:Int)≤1048576:=by
 have F:=Bx (qs:=qs) (fun q hq=>⟨G.ino q hq,(G.may q hq).2.2.2.2.2.2.1⟩);obtain⟨S,e,hI,hB,_⟩:=nW G I F;have e:(aE qs ids).s=S:=e;have hA:=Gw G I;have hm:S.many≤4:=by
  have h1:=List.length_filter_le (fun r:Int=>decide (0<r)) S.refs;rw[hI.many];unfold lW;rw[hI.rl] at h1;omega
 have h2:=hI.bi;have h3:S.lst.length≤10440*S.many:=hB;have h4:=hI.bf;have hT:=F.tn;have hFB:=F.b;rw[WK] at hT hFB;have hb:=Ii F.t (aV qs).ds;have n4:=hA.n4;have n2:=hA.n2;have d1:=oJ (aE qs ids).s.ino;have d2:=oJ (aE qs ids).s.lst;have d3:=oJ (aJ (aE qs ids).pl 4).1;have d4:=oJ (aJ ids 2).1;have d5:=oJ (aE qs ids).s.fur;rw[e] at d1 d2 d5;have l1:(fO (aE qs ids)).length=(dD (aV qs).tails (aV qs).ds).1.B.length:=rfl;have l2:(eC (aE qs ids)).length=(fO (aE qs ids)).length+(dnW (aE qs ids).s.ino).length:=Ww;have l3:(eB (aE qs ids)).length=(eC (aE qs ids)).length+(dnW (aE qs ids).s.lst).length:=Ww;have l4:(eA (aE qs ids)).length=(eB (aE qs ids)).length+(dnW (aJ (aE qs ids).pl 4).1).length:=Ww;have l5:(dZ (aE qs ids) ids).length=(eA (aE qs ids)).length+(dnW (aJ ids 2).1).length:=Ww;have l6:(dE (aE qs ids) ids).length=(dZ (aE qs ids) ids).length+(dnW (aE qs ids).s.fur).length:=Ww;rw[e] at l2 l3 l6;omega
theorem LC{D:Nat→Prop}(H:Array Obj):NdV D H bS:=
 ⟨⟨rfl,VQ 0 (WG _),fun h=>absurd rfl h⟩,⟨rfl,VQ 0 (WG _),fun h=>absurd rfl h⟩,⟨rfl,[],⟨WG _,WG _,fun h=>absurd rfl h,fun i x hx=>by simp at hx⟩,rfl,fun h=>absurd rfl h,fun i x y hx=>by simp at hx⟩⟩
theorem Jp{qs:List (NdH×Nd)}{ids:List Int}(M:ImB qs ids)(hall:∀ m:Nat,1≤m→m≤qs.length→∃ q∈qs,q.2.ino.toNat=m):(aE qs ids).s.many=qs.length:=by
 obtain⟨h,h2⟩:=M.st;show (stB qs ids).many=qs.length;rw[h.many];unfold lW;have hl:=h.rl;have h0:¬ 0<(stB qs ids).refs.getD 0 0:=fun hc=>by
  obtain⟨k,q,i,xr,o,hq,hi,_⟩:=h.std 0 hc;have:=M.G.ino q (Wz hq);omega
 have hp:∀ m:Nat,1≤m→m≤qs.length→0<(stB qs ids).refs.getD m 0:=fun m h1 hm=>by
  obtain⟨q,hq,e⟩:=hall m h1 hm;rw[←e];exact h2 q hq
 generalize (stB qs ids).refs=L at hl h0 hp ⊢
 match L,hl with
|x::r,hl=>
   rw[List.filter_cons_of_neg (by simpa using h0),List.filter_eq_self.2 (fun z hz=>?_)]
   ·rw[WT] at hl;omega
   · obtain⟨i,hi⟩:=List.getElem?_of_mem hz
     have hil:=(List.getElem?_eq_some_iff.1 hi).1;rw[WT] at hl;have h:=hp (i+1) (by omega) (by omega);rw[List.getD,List.getElem?_cons_succ,hi] at h;simpa using h
theorem Dg:∀ (L:List Nd) (s:FSt),(∀ x∈L,x.kind≠2)→L.foldl iI s=s
|[],_,_=>rfl
|x::r,s,h=>by
   rw[List.foldl_cons,xJ (.inl (h x (by simp)))];exact Dg r s (fun y hy=>h y (by simp[hy]))
theorem JL{l:List Int}(hp:l.Pairwise (· < ·))(h:∀ z∈l,z=0):l.length≤1:=by
 match l,hp,h with
|[],_,_=>exact WG _
|[_],_,_=>exact WC _
|a::b::_,hp,h=>
   have h1:=h a (by simp);have h2:=h b (by simp);have h3:=(List.pairwise_cons.1 hp).1 b (by simp);omega
theorem HP:aP [bS]=[bS]:=by
 unfold aP;rw[show eV [bS]=[bS] from List.mergeSort_singleton _];rfl
theorem II{ids:List Int}(M:ImB [bS] ids):(aR [bS] ids (aE [bS] ids)) 1=1∧(aR [bS] ids (aE [bS] ids)) 7=1∧(aR [bS] ids (aE [bS] ids)) 8=0∧(aR [bS] ids (aE [bS] ids)) 2=64:=by
 have ef:aV [bS]=⟨⟨[],[]⟩,[],List.replicate 2 cO⟩:=Dg [bS.2] _ (fun x hx=>by rw[WY] at hx;subst hx;decide);have e1:=Jp M (fun m h1 hm=>⟨bS,by simp,by have:m≤1:=hm;show (1:Int).toNat=m;omega⟩);have e2:ids.length=1:=by
  have h1:=M.ids0.1;have h2:=JL M.I.1 (fun z hz=>by have h:=(M.I.2 z).1 hz;simpa[gY,bS,nd0] using h);omega
 refine⟨?_,?_,?_,?_⟩
 · show ((aE [bS] ids).s.many:Int)=1
   rw[e1];rfl
 · show (ids.length:Int)=1
   rw[e2];rfl
 · show (((dD (aV [bS]).tails (aV [bS]).ds).2.length:Nat):Int)=0
   rw[ef];rfl
 · show 64+(((dD (aV [bS]).tails (aV [bS]).ds).1.B.length:Nat):Int)=64
   rw[ef];rfl
theorem HQ(W:World):Calls Tryz.prog 8 #[] W (Ret fun v w'=>v=.bool true∧aA nob W w'):=by
 refine cS 44 [] Tryz.func8 ?_;refine Gz 7 ?_;refine cL (bU (aF bS) Pe fF) ?_;refine Tc aS (cs:=(aF bS).toArray) fF rfl rfl rfl (by kernel_rfl) rfl ?_;intro w2 hg2 hs2 hf2;have ho2:bP 10 aF 37 w2.heap (some ⟨W.heap.size,0,none⟩) 1 [bS]:=bX (xs:=[bS]) aB (by simpa using hg2) (by show 1≤maxLen;decide);refine SJ OC rfl (rU (some ⟨W.heap.size,0,none⟩) 1 [bS] w2 ⟨ho2.vw aB,by simp only[WY];rintro p rfl;exact LC _⟩ (by simp only[WY];rintro p rfl;exact LA) (by simp only[WY];rintro p rfl;exact LB) (by decide)) rfl ?_;rintro _ w3 hB;obtain⟨hz,ids,o3,c3,hIds,rfl,ho3,hfr3,hf3⟩:=hB.resolve_left (fun h=>h.1 DB);have hG:=ED DB (by decide);rw[HP] at hG hIds ho3 ⊢;have M:ImB [bS] ids:=⟨hG,hIds,GH hG hIds (by decide)⟩
 rw[M.img] at ho3 ⊢;obtain⟨s1,s2,s3,s4⟩:=II M;have himl:(imB [bS] ids).length≤1048576:=by unfold imB;rw[Ww,nC];have:=M.sz;omega
 obtain⟨F,hF⟩:∃ F,F=aR [bS] ids (aE [bS] ids):=⟨_,rfl⟩
 have hsp:=M.sup;rw[←hF] at hsp s1 s2 s3 s4;refine cA 9 Qb (AB w3) ?_;rintro _ w4 ⟨rfl,hf4⟩;refine SP K9 rfl ?_;intro w5 hg5 hs5 hf5;refine SY (vs:=tab) yK rfl rfl AT hg5 (by rw[uD,List.length_replicate]) ?_;intro w6 hg6 hs6 hf6;obtain⟨tp,hp⟩:∃ p,p=w4.heap.size:=⟨_,rfl⟩
 have hF6:aA nob w3 w6:=(hf4.trans hf5).Wo hf6 (fun k hk=>.inr (by have h:k=w4.heap.size:=hk;have:=hf4.size;omega));rw[←hp] at hg6 ⊢;have ht6:TbV w6.heap tp:=hg6;refine Gz 5 ?_;refine SJ Ss rfl (GF tp o3 c3 (imB [bS] ids) w6 ht6 (ho3.Wr hF6).vw (by omega)) rfl ?_;rw[hsp];rintro _ w7 ⟨rfl,hf7⟩;refine Gz 3 ?_;refine SP tQ rfl ?_;intro w8 hg8 hs8 hf8;obtain⟨b,eb⟩:∃ b,b=w7.heap.size:=⟨_,rfl⟩
 rw[←eb] at hg8 ⊢;refine sA rfl eF (by exact eU _) hg8 ?_;intro w9 hg9 hs9 hf9;have hF9:aA nob w7 w9:=hf8.tw hf9;refine Gz 6 ?_;refine cL (TD (Ty rfl rfl) rfl) ?_;refine Gz 2 ?_;refine cW (TD (Ty rfl rfl) rfl) ?_;refine Gz 3 ?_;refine cW (SM aN rfl (aD (i:=1) hg9 rfl)) ?_;refine cW (TD (Ty rfl rfl) s1) ?_;refine Gz 3 ?_;refine cW (SM aN rfl (aD (i:=7) hg9 rfl)) ?_;refine cW (TD (Ty rfl rfl) s2) ?_;refine Gz 3 ?_;refine cW (SM aN rfl (aD (i:=8) hg9 rfl)) ?_;refine cW (TD (Ty rfl rfl) s3) ?_;refine Gz 3 ?_;refine cW (SM aN rfl (aD (i:=2) hg9 rfl)) ?_;refine cW (TD (Ty rfl rfl) s4) ?_;refine Gz 6 ?_;exact⟨_,rfl,rfl,(((hf2.trans hf3).trans hF6).trans hf7).trans hF9⟩
end
section
open Go Go.RowKit Go.Maps
def QU(ps:List (NdH×Nd))(r:By×Int):Prop:=(chk (nds ps)≠0∧r=([],chk (nds ps)))∨(chk (nds ps)=0∧∃ ids,mA (aP ps) ids∧r=qL (aP ps) ids)
theorem BuP.res{W w':World}{ps:List (NdH×Nd)}{v:Value}(h:BuP W ps v w'):∃ (r:By×Int) (o:Option Addr) (c:Nat),v=.tuple #[.slice o r.1.length c,iV r.2]∧QU ps r∧Own b8 5 w'.heap o c r.1∧Fr W.heap.size o∧aA nob W w':=by
 rcases h with⟨h1,rfl,h2⟩|⟨h1,ids,o,c,h2,rfl,h3,h4,h5⟩
 ·exact⟨([],chk (nds ps)),none,0,rfl,.inl ⟨h1,rfl⟩,VR,VP,h2⟩
 ·exact⟨_,o,c,rfl,.inr ⟨h1,ids,h2,rfl⟩,h3,h4,h5⟩
theorem aQ.old{W w:World}{o:Option Addr}{c:Nat}{ps:List (NdH×Nd)}(h:aQ (fun k=>k<W.heap.size) w.heap o c ps)(hs:W.heap.size≤w.heap.size):aQ (fun k=>k<w.heap.size) w.heap o c ps:=⟨h.1,fun p hp=>(h.2 p hp).mono (fun k hk=>Nat.lt_of_lt_of_le hk hs)⟩
theorem FN{ps:List (NdH×Nd)}(h:∀ p∈ps,okN p.2∧smN p.2):∀ p∈kH ps,okN p.2:=by
 intro p hp;obtain⟨q,hq,rfl⟩:=WS.1 hp;exact(h q (XF hq)).1
theorem uH{ps:List (NdH×Nd)}(h:∀ p∈ps,okN p.2∧smN p.2):∀ p∈kH ps,smN p.2:=by
 intro p hp;obtain⟨q,hq,rfl⟩:=WS.1 hp;exact(h q (XF hq)).2.mfew
end
section
open Go Go.RowKit Go.Maps
theorem Cs{ps:List (NdH×Nd)}{r:By×Int}(hl:ps.length≤40)(h:QU ps r)(h0:r.2=0):∃ (ids:List Int) (M:ImB (aP ps) ids),chk (nds ps)=0∧r=(imB (aP ps) ids,0):=by
 rcases h with⟨h1,rfl⟩|⟨h1,ids,hi,rfl⟩
 ·exact absurd h0 h1
 · have hs:¬ 1048576<64+((dE (aE (aP ps) ids) ids).length:Int):=fun hc=>by
    unfold qL at h0;rw[Wu hc] at h0;exact absurd h0 (by decide)
   have M:ImB (aP ps) ids:=⟨ED h1 hl,hi,by omega⟩
   exact⟨ids,M,h1,M.img⟩
theorem DE(a0:Option Addr)(cap0:Nat)(x0:List (NdH×Nd))(a1:Option Addr)(cap1:Nat)(x1:List (NdH×Nd))(W:World)(hv0:aQ (fun k=>k<W.heap.size) W.heap a0 cap0 x0)(hw0:∀ p∈x0,okN p.2∧smN p.2)(hv1:aQ (fun k=>k<W.heap.size) W.heap a1 cap1 x1)(hw1:∀ p∈x1,okN p.2∧smN p.2) :
 CA 6 [.slice a0 x0.length cap0,.slice a1 x1.length cap1] W fun v w'=>v=.bool true∧aA nob W w':=by
 have hfl:=CU x0;have hfl1:=CU x1;refine cS 60 [(0,_),(1,_)] Tryz.func6 ?_;refine cA 7 fn8 (HQ W) ?_;rintro _ w1 ⟨rfl,hf1⟩;refine cA 6 fn9 (FV a0 cap0 x0 w1 (hv0.Wr hf1)) ?_;rintro _ w2 ⟨o,c,rfl,_,_,hf2,hvf⟩;have hz1:=hf1.size;have hz2:=hf2.size;refine cA 6 fn9 (FV a1 cap1 x1 w2 ((hv1.Wr hf1).Wr hf2)) ?_;rintro _ w3 ⟨o3,c3,rfl,_,_,hf3,hvg⟩;have hz3:=hf3.size;have hvf3:=hvf.Wr hf3;refine Gz 6 ?_;refine SJ OC rfl (rU o c (kH x0) w3 (hvf3.old (by omega)) (uH hw0) (FN hw0) hfl) rfl ?_;rintro _ w4 hA;obtain⟨r,oa,ca,rfl,hra,hoa,hfra,hf4⟩:=hA.res;have hz4:=hf4.size;refine Gz 10 ?_;refine SJ OC rfl (rU o3 c3 (kH x1) w4 ((hvg.Wr hf4).old (by omega)) (uH hw1) (FN hw1) hfl1) rfl ?_;rintro _ w5 hB;obtain⟨s,ob,cb,rfl,hrb,hob,hfrb,hf5⟩:=hB.res;have hz5:=hf5.size;have hF5:=(((hf1.trans hf2).trans hf3).trans hf4).trans hf5;refine fK 11 ?_ ?_<;>intro h31
 ·refine Gz 16 ?_
  first
  |exact⟨_,rfl,rfl,hF8⟩
  |exact⟨_,rfl,rfl,hF5⟩
 have e1:r.2=0:=W3.1 h31;refine fW 2 ?_ ?_<;>intro h34
 ·refine Gz 13 ?_
  first
  |exact⟨_,rfl,rfl,hF8⟩
  |exact⟨_,rfl,rfl,hF5⟩
 have e2:s.2=0:=W3.1 h34;obtain⟨ids,M,hz,er⟩:=Cs hfl hra e1;obtain⟨jds,M2,hy,es⟩:=Cs hfl1 hrb e2;refine cA 9 P3 (zW o c (kH x0) w5 ((hvf3.Wr hf4).Wr hf5) (uH hw0)) ?_;rintro _ w6 ⟨op,cp,p,rfl,hp,hvp,hf6⟩;rw[Wu hz] at hp;refine cA 10 P3 (zW o3 c3 (kH x1) w6 (((hvg.Wr hf4).Wr hf5).Wr hf6) (uH hw1)) ?_;rintro _ w7 ⟨oq,cq,q,rfl,hq,hvq,hf7⟩;rw[Wu hy] at hq;refine cA 11 St (GM op oq cp cq p q w7 (hvp.Wr hf7) hvq) ?_;rintro _ w8 ⟨hs2,⟨b2,rfl⟩,hf8⟩;have hs3:b2=true↔nds (aP (kH x0))=nds (aP (kH x1)):=by rw[←hp,←hq,←hs2];exact⟨fun h=>by rw[h],fun h=>by cases h;rfl⟩
 have hF8:=((hF5.trans hf6).trans hf7).trans hf8;refine Gz 8 ?_;refine cW (Tt aT ty5 ty9 rfl (((((hoa.Wr hf5).Wr hf6).Wr hf7).Wr hf8).vw)) ?_;refine Gz 1 ?_;refine cW (Tt aT ty5 ty9 rfl ((((hob.Wr hf6).Wr hf7).Wr hf8).vw)) ?_;refine Ta rfl rfl (S6 (Tz rfl rfl)) rfl (fun h56=>?_) (fun h56=>?_)
 ·have h56:=of_decide_eq_true h56;have hb:b2=true:=hs3.2 (Mk M M2 ((xZ _).1 hz) ((xZ _).1 hy) (by rw[er,es] at h56;exact h56));subst hb;refine Gz 1 ?_;refine cW (TD (Tw ty4 rfl rfl) rfl) ?_;refine Gz 6 ?_
  first
  |exact⟨_,rfl,rfl,hF8⟩
  |exact⟨_,rfl,rfl,hF5⟩
 have hb:b2=false:=by
  cases b2
  ·rfl
  ·exact absurd (WA (by have h:=JJ (hs3.1 rfl) M.I M2.I;rw[M.img,M2.img] at h;rw[er,es];exact congrArg Prod.fst h)) h56
 subst hb;refine Gz 1 ?_;refine cW (TD (Tw ty4 rfl rfl) rfl) ?_;refine Gz 6 ?_
 first
 |exact⟨_,rfl,rfl,hF8⟩
 |exact⟨_,rfl,rfl,hF5⟩
variable {D:Nat→Prop}
end
end Go.Proofs.YthmmmagklhiiiaaGreatDoor
