/- lamella: what the law needs. No condition beyond the bounds that each states. -/
import Derived.Laws.StructEq
import Derived.Maps.RangeRun
import Derived.Lib.SliceRun
import Derived.Test.YthdecfkdgdagcaaGreatMountSpoiltQ2
namespace Go.Proofs.YthdecfkdgdagcaaGreat
open Go Go.RowKit
set_option linter.unusedVariables false
set_option linter.unusedSectionVars false
set_option maxHeartbeats 64000000
open List (all_eq_true append_assoc append_inj cons_append drop_drop drop_left' flatMap_cons foldl_append foldl_cons length_append length_cons length_drop length_map length_nil length_set length_singleton length_take mem_append mem_cons mem_map mem_of_getElem? mem_range mem_singleton nil_append pairwise_append pairwise_cons pairwise_iff_getElem take_append_drop take_drop take_left' take_length take_of_length_le take_succ_eq_append_getElem take_take)
open Classical (byContradiction not_not)
section
theorem Tk(a:Addr)(i j:Nat):(a.add i).add j=a.add (i+j):=Addr.add_add a i j
theorem Kq{α:Type}{a b:List α}(hl:a.length=b.length){k:Nat}(hk:a.length≤k)(d:α)(h:∀ i,i<k→i<a.length→a.getD i d=b.getD i d):a=b:=by
 apply List.ext_getElem hl;intro i h1 h2;have:=h i (by omega) h1;simpa[List.getD,h1,h2] using this
theorem CF(ao bo:Option Addr)(ac bc:Nat)(a b:List By)(W:World)(ha:Vw lJ W.heap ao ac a)(hb:Vw lJ W.heap bo bc b) :
 CA 45 [.slice ao a.length ac,.slice bo b.length bc] W fun v w'=>v=.bool (decide (a=b))∧aA nob W w':=by
 have h63:=ha.WQ;refine cS 26 [(0,_),(1,_)] Tryz.func45 ?_;refine fK 12 ?_ ?_<;>intro h10
 ·refine Gz 11 ?_;exact⟨_,rfl,by rw[decide_eq_false (fun e=>by subst e;exact h10 rfl)],Wt _ _⟩
 refine Gz 12 ?_;refine TA (β:=Nat) (fun k=>[(0,.slice ao a.length ac),(1,.slice bo b.length bc),(5,iV k)]) (fun k w=>k≤a.length∧(∀ i,i<k→i<a.length→a.getD i []=b.getD i [])∧aA nob W w) (fun k=>a.length-k) 0 ⟨rfl,rfl,rfl,trivial⟩ ⟨Nat.zero_le _,fun i hi=>by omega,Wt _ _⟩ ?_;rintro k w2 ⟨hk,hsm,hF2⟩;refine fK 6 ?_ ?_<;>intro h14
 ·have hka:k<a.length:=by omega
  have hkb:k<b.length:=by omega
  have ha2:=ha.WR hF2;have hb2:=hb.WR hF2;refine Gz 8 ?_;refine TN 9 [0,1,2,3,4,5,6,7,8] aL (by kernel_rfl) ?_;refine Gz 2 ?_;refine xC rfl (Tt jO rfl rfl ha2.non (by omega)) ?_;refine xC rfl (Tu gU rfl (ha2.get k (a.getD k []) (by simp[List.getD,hka]))) ?_;refine Gz 2 ?_;refine xC rfl (Tt jO rfl rfl hb2.non (by omega)) ?_;refine xC rfl (Tu gU rfl (hb2.get k (b.getD k []) (by simp[List.getD,hkb]))) ?_;refine xK 0 ?_ ?_<;>intro h25
  ·refine Gz 15 ?_;exact⟨_,rfl,by rw[decide_eq_false (fun e=>h25 (by rw[e]))],hF2.draws 1⟩
  refine Gz 11 ?_;refine aG (k+1) ⟨by omega,fun i hi hia=>?_,hF2.draws 1⟩ (by show a.length-(k+1)<a.length-k;omega);by_cases hik:i=k
  ·subst hik;exact not_not.1 h25
  ·exact hsm i (by omega) hia
 refine Gz 15 ?_;exact⟨_,rfl,by rw[decide_eq_true (Kq (by omega) (k:=k) (by omega) [] hsm)],hF2⟩
def iI(ps:List (NdH×Nd))(s:List By):Int:=match ps.findIdx? (fun p=>decide (p.2.names=s)) with|some i=>i|none=>-1
theorem If{ps:List (NdH×Nd)}{s:List By}{i:Nat}{p:NdH×Nd}(hp:ps[i]?=some p)(h1:p.2.names=s)(h2:∀ j q,j<i→ps[j]?=some q→q.2.names≠s):iI ps s=i:=by
 have hi:=(List.getElem?_eq_some_iff.1 hp).1;have:ps.findIdx? (fun p=>decide (p.2.names=s))=some i:=by
  rw[List.findIdx?_eq_some_iff_getElem];refine⟨hi,by rw[(List.getElem?_eq_some_iff.1 hp).2];exact decide_eq_true h1,fun j hj=>?_⟩;have:=h2 j _ hj (List.getElem?_eq_getElem (by omega));simpa using this
 unfold iI;rw[this]
theorem xX{ps:List (NdH×Nd)}{s:List By}(h:∀ p∈ps,p.2.names≠s):iI ps s = -1:=by
 have:ps.findIdx? (fun p=>decide (p.2.names=s))=none:=by
  rw[List.findIdx?_eq_none_iff];intro p hp;exact decide_eq_false (h p hp)
 unfold iI;rw[this]
theorem iU(ps:List (NdH×Nd))(s:List By):(iI ps s = -1∧∀ p∈ps,p.2.names≠s)∨∃ (i:Nat) (p:NdH×Nd),iI ps s=i∧ps[i]?=some p∧p.2.names=s∧∀ j q,j<i→ps[j]?=some q→q.2.names≠s:=by
 by_cases h:∃ p∈ps,p.2.names=s
 · right
   obtain⟨i,hi⟩:∃ i,ps.findIdx? (fun p=>decide (p.2.names=s))=some i:=by
    cases hf:ps.findIdx? (fun p=>decide (p.2.names=s)) with
   |some i=>exact⟨i,rfl⟩
   |none=>
      rw[List.findIdx?_eq_none_iff] at hf;obtain⟨p,hp,e⟩:=h;have:=hf p hp;simp[e] at this
   obtain⟨h1,h2,h3⟩:=List.findIdx?_eq_some_iff_getElem.1 hi;refine⟨i,ps[i],by unfold iI;rw[hi],List.getElem?_eq_getElem h1,by simpa using h2,fun j q hj hq=>?_⟩;have:=h3 j hj;rw[(List.getElem?_eq_some_iff.1 hq).2] at this;simpa using this
 · left
   have h':∀ p∈ps,p.2.names≠s:=fun p hp e=>h ⟨p,hp,e⟩;exact⟨xX h',h'⟩
variable {D:Nat→Prop}
theorem CJ(lo:Option Addr)(lc:Nat)(ps:List (NdH×Nd))(so:Option Addr)(sc:Nat)(s:List By)(W:World)(hv:cD D W.heap lo lc ps)(hs:Vw lJ W.heap so sc s) :
 CA 124 [.slice lo ps.length lc,.slice so s.length sc] W fun v w'=>v=iV (iI ps s)∧aA nob W w':=by
 have h63:=hv.1.WQ;refine cS 22 [(0,_),(1,_)] Tryz.func124 ?_;refine Gz 12 ?_;refine TA (β:=Nat) (fun k=>[(0,.slice lo ps.length lc),(1,.slice so s.length sc),(5,iV k)]) (fun k w=>k≤ps.length∧(∀ j q,j<k→ps[j]?=some q→q.2.names≠s)∧aA nob W w) (fun k=>ps.length-k) 0 ⟨rfl,rfl,rfl,trivial⟩ ⟨Nat.zero_le _,fun i q hi=>by omega,Wt _ _⟩ ?_;rintro k w2 ⟨hk,hno,hF2⟩;refine fK 6 ?_ ?_<;>intro h10
 ·obtain⟨p,hp⟩:∃ p,ps[k]?=some p:=⟨_,List.getElem?_eq_getElem (by omega)⟩
  have hv2:=hv.WR hF2;have hn2:=(hv2.2 p (mem_of_getElem? hp)).1;obtain⟨p1,p2⟩:=p;refine Gz 11 ?_;refine cL (Tv bH rfl rfl hv2.1.non (by omega)) ?_;refine Gz 1 ?_;refine cL (Tu kI rfl (hv2.1.rowZ k rfl hp 0 _ rfl)) ?_;refine Gz 1 ?_;refine Ts PR rfl ((by show Calls _ _ [Value.slice p1.names.a p1.names.n p1.names.c,_].toArray _ _;rw[hn2.1];exact CF p1.names.a so p1.names.c sc p2.names s w2 hn2.2.1 (hs.WR hF2))) rfl ?_;rintro _ w3 ⟨rfl,hf3⟩;by_cases h19:p2.names=s
  ·rw[decide_eq_true h19];refine Gz 22 ?_;exact⟨_,rfl,by rw[If hp h19 hno],hF2.trans hf3⟩
  rw[decide_eq_false h19];refine Gz 17 ?_;refine aG (k+1) ⟨by omega,fun j q hj hq=>?_,hF2.trans hf3⟩ (by show ps.length-(k+1)<ps.length-k;omega);by_cases hjk:j=k
  ·subst hjk;rw[hp] at hq;cases hq;exact h19
  ·exact hno j q (by omega) hq
 have hke:k=ps.length:=by omega
 subst hke;refine Gz 15 ?_;refine⟨_,rfl,?_,hF2⟩;rw[xX (fun q hq=>by obtain⟨j,hj⟩:=List.getElem?_of_mem hq;exact hno j q (List.getElem?_eq_some_iff.1 hj).1 hj)]
def lO(ps:List (NdH×Nd))(s:List By):Prop:=0≤iI ps s∧(ps.getD (iI ps s).toNat (Bx,nd0)).2.kind=1
instance (ps:List (NdH×Nd))(s:List By):Decidable (lO ps s):=by unfold lO;exact inferInstance
theorem qJ(ps:List (NdH×Nd))(s:List By):lO ps s↔∃ (i:Nat) (p:NdH×Nd),iI ps s=i∧ps[i]?=some p∧p.2.kind=1:=by
 rcases iU ps s with⟨h1,h2⟩|⟨i,p,h1,h2,h3,h4⟩
 · constructor
   ·intro h;have:=h.1;omega
   ·rintro⟨i,p,e,_⟩;omega
 · have e:ps.getD (iI ps s).toNat (Bx,nd0)=p:=by rw[h1,List.getD,Int.toNat_natCast,h2];rfl
   constructor
   ·intro h;exact⟨i,p,h1,h2,by rw[←e];exact h.2⟩
   · rintro⟨j,q,e1,hq,hk⟩
     have:j=i:=by omega
     subst this;rw[h2] at hq;cases hq;exact⟨by omega,by rw[e];exact hk⟩
theorem Ah(lo:Option Addr)(lc:Nat)(ps:List (NdH×Nd))(so:Option Addr)(sc:Nat)(s:List By)(W:World)(hv:cD D W.heap lo lc ps)(hs:Vw lJ W.heap so sc s) :
 CA 87 [.slice lo ps.length lc,.slice so s.length sc] W fun v w'=>v=.bool (decide (lO ps s))∧aA nob W w':=by
 have hsp:=iU ps s;obtain⟨F,hF⟩:∃ F,F=iI ps s:=⟨_,rfl⟩
 refine cS 19 [(0,_),(1,_)] Tryz.func87 ?_;refine cA 9 N8 (CJ lo lc ps so sc s W hv hs) ?_;rintro _ w2 ⟨rfl,hf2⟩;rw[←hF] at hsp ⊢;refine fK 6 ?_ ?_<;>intro h10
 ·obtain⟨i,p,h1,hp,h3,h4⟩:∃ (i:Nat) (p:NdH×Nd),F=i∧ps[i]?=some p∧p.2.names=s∧∀ j q,j<i→ps[j]?=some q→q.2.names≠s:=hsp.resolve_left (fun h=>by have:=h.1;omega);have hil:=(List.getElem?_eq_some_iff.1 hp).1;refine Gz 3 ?_;refine cW (Tv bH rfl rfl hv.1.non (by omega)) ?_;refine Gz 1 ?_;refine cW (Tu aI rfl ((hv.1.WR hf2).rowZ i h1 hp 2 _ rfl)) ?_;refine fW 0 ?_ ?_<;>intro h17
  ·have hyes:lO ps s:=(qJ ps s).2 ⟨i,p,by rw[←hF];exact h1,hp,h17⟩;refine Gz 6 ?_;exact⟨_,rfl,by rw[decide_eq_true hyes],hf2⟩
  have hno:¬ lO ps s:=fun h=>by
   obtain⟨j,q,e,hq,hk⟩:=(qJ ps s).1 h;rw[←hF,h1] at e;have e:i=j:=by omega
   subst e;rw[hp] at hq;cases hq;exact h17 hk
  refine Gz 6 ?_;exact⟨_,rfl,by rw[decide_eq_false hno],hf2⟩
 have hno:¬ lO ps s:=fun h=>by have:=h.1;rw[←hF] at this;omega
 refine Gz 13 ?_;exact⟨_,rfl,by rw[decide_eq_false hno],hf2⟩
end
section
def nmd(l:List Nd):Int:=if jA (gP l)≠0 then jA (gP l) else if ∃ n∈l,16<n.names.length then 9 else if dM l then 6 else 0
def plc(l:List Nd):Int:=if 1024<l.length then 3 else if nmd l≠0 then nmd l else if ¬ gL l [] then 4 else if ∃ n∈l,n.names≠[]∧¬ gL l n.names.dropLast then 5 else 0
theorem jX(l:List Nd):chk l=if plc l≠0 then plc l else if ∃ n∈l,¬ pM n then 7 else if l.Pairwise oI then 0 else 8:=by
 unfold chk plc nmd;by_cases h1:1024<l.length
 ·simp[h1]
 · by_cases h2:jA (gP l)=0
   · by_cases h3:∃ n∈l,16<n.names.length
     ·simp[h1,h2,h3]
     · by_cases h4:dM l
       ·simp[h1,h2,h3,h4]
       · by_cases h5:gL l []
         · by_cases h6:∃ n∈l,n.names≠[]∧¬ gL l n.names.dropLast
           ·simp[h1,h2,h3,h4,h5,h6]
           ·simp only[h1,h2,h3,h4,h5,h6,if_false,ne_eq,not_true_eq_false]
         ·simp[h1,h2,h3,h4,h5]
   ·simp[h1,h2]
abbrev nds(ps:List (NdH×Nd)):List Nd:=ps.map (·.2)
theorem iA{ps:List (NdH×Nd)}{i:Nat}{p:NdH×Nd}(h:ps[i]?=some p):(nds ps)[i]?=some p.2:=by simp[nds,h]
theorem jZ(ps:List (NdH×Nd)):dM (nds ps)↔∃ (i j:Nat) (p q:NdH×Nd),i<j∧ps[i]?=some p∧ps[j]?=some q∧p.2.names=q.2.names:=by
 unfold dM;rw[pairwise_iff_getElem];constructor
 · intro h
   simp only[Classical.not_forall] at h;obtain⟨i,j,h1,h2,h3,h4⟩:=h;rw[length_map] at h1 h2;exact⟨i,j,ps[i],ps[j],h3,List.getElem?_eq_getElem h1,List.getElem?_eq_getElem h2,by simpa using h4⟩
 · rintro⟨i,j,p,q,h1,h2,h3,h4⟩ h
   have e2:=(List.getElem?_eq_some_iff.1 h2)
   have e3:=(List.getElem?_eq_some_iff.1 h3)
   refine h i j (by simpa using e2.1) (by simpa using e3.1) h1 ?_;simp only[List.getElem_map,e2.2,e3.2];exact h4
theorem Ng{ps:List (NdH×Nd)}{i:Nat}{p:NdH×Nd}(h:ps[i]?=some p):0≤iI ps p.2.names∧iI ps p.2.names≤i:=by
 rcases iU ps p.2.names with⟨h1,h2⟩|⟨j,q,h1,h2,h3,h4⟩
 ·exact absurd rfl (h2 p (mem_of_getElem? h))
 · refine⟨by omega,?_⟩
   by_cases hj:j≤i
   ·omega
   ·exact absurd rfl (h4 i p (by omega) h)
theorem IT{ps:List (NdH×Nd)}{i:Nat}{p:NdH×Nd}(h:ps[i]?=some p)(hf:iI ps p.2.names<i):dM (nds ps):=by
 rcases iU ps p.2.names with⟨h1,h2⟩|⟨j,q,h1,h2,h3,h4⟩
 ·exact absurd rfl (h2 p (mem_of_getElem? h))
 ·exact(jZ ps).2 ⟨j,i,q,p,by omega,h2,h,h3⟩
theorem G2{ps:List (NdH×Nd)}(h:∀ (i:Nat) (p:NdH×Nd),ps[i]?=some p→¬ iI ps p.2.names<i):¬ dM (nds ps):=by
 intro ht;obtain⟨i,j,p,q,h1,h2,h3,h4⟩:=(jZ ps).1 ht;have:=(Ng h2).2;have g:=h j q h3;rw[←h4] at g;omega
theorem sH{ps:List (NdH×Nd)}(ht:¬ dM (nds ps))(s:List By):lO ps s↔gL (nds ps) s:=by
 rw[qJ];constructor
 · rintro⟨i,p,h1,h2,h3⟩
   refine⟨p.2,mem_of_getElem? (iA h2),?_,h3⟩;rcases iU ps s with⟨g1,_⟩|⟨j,q,g1,g2,g3,_⟩
   ·omega
   · have:j=i:=by omega
     subst this;rw[h2] at g2;cases g2;exact g3
 · rintro⟨n,hn,h1,h2⟩
   obtain⟨i,hi⟩:=List.getElem?_of_mem hn;obtain⟨p,hp,rfl⟩:∃ p,ps[i]?=some p∧p.2=n:=by
    simp only[nds,List.getElem?_map,Option.map_eq_some_iff] at hi;exact hi
   rcases iU ps s with⟨g1,g2⟩|⟨j,q,g1,g2,g3,g4⟩
   ·exact absurd h1 (g2 p (mem_of_getElem? hp))
   · have:j=i:=by
      apply byContradiction;intro hne;rcases Nat.lt_or_gt_of_ne hne with hlt|hgt
      ·exact ht ((jZ ps).2 ⟨j,i,q,p,hlt,g2,hp,g3.trans h1.symm⟩)
      ·exact g4 i p hgt hp h1
     subst this;rw[hp] at g2;cases g2;exact⟨j,p,g1,hp,h2⟩
theorem tkN{ps:List (NdH×Nd)}{i:Nat}{p:NdH×Nd}(h:ps[i]?=some p):(nds ps).take (i+1)=(nds ps).take i++[p.2]:=tkL (iA h)
theorem LH{ps:List (NdH×Nd)}{i:Nat}{p:NdH×Nd}{R:Nd→Prop}(hp:ps[i]?=some p)(h:∀ n∈(nds ps).take i,R n)(hn:R p.2):∀ n∈(nds ps).take (i+1),R n:=by
 intro n hm;rw[tkN hp,mem_append,mem_singleton] at hm;rcases hm with hm|rfl
 ·exact h n hm
 ·exact hn
variable {D:Nat→Prop}
theorem Hk(lo:Option Addr)(lc:Nat)(ps:List (NdH×Nd))(W:World)(hv:cD D W.heap lo lc ps)(hsm:∀ p∈ps,smN p.2) :
 CA 86 [.slice lo ps.length lc] W fun v w'=>v=iV (nmd (nds ps))∧aA nob W w':=by
 have h63:=hv.1.WQ;refine cS 64 [(0,_)] Tryz.func86 ?_;refine Gz 12 ?_;refine TA (β:=Nat) (fun i=>[(0,.slice lo ps.length lc),(3,iV i)]) (fun i w=>i≤ps.length∧(∀ s∈gP ((nds ps).take i),dV s=0)∧aA nob W w) (fun i=>ps.length-i) 0 ⟨rfl,rfl,trivial⟩ ⟨Nat.zero_le _,by simp[gP],Wt _ _⟩ ?_;rintro i w2 ⟨hi,hok,hF2⟩;refine fK 6 ?_ ?_<;>intro h11
 ·have hil:i<ps.length:=by omega
  obtain⟨p,hp⟩:∃ p,ps[i]?=some p:=⟨_,List.getElem?_eq_getElem hil⟩
  have hpm:=mem_of_getElem? hp;refine Gz 13 ?_;refine TA (β:=Nat) (fun k=>[(0,.slice lo ps.length lc),(3,iV i),(4,iV k)]) (fun k w=>k≤p.2.names.length∧(∀ s∈p.2.names.take k,dV s=0)∧aA nob W w) (fun k=>p.2.names.length-k) 0 ⟨rfl,rfl,rfl,trivial⟩ ⟨Nat.zero_le _,by simp,hF2⟩ ?_;rintro k w3 ⟨hk,hok2,hF3⟩;refine Gz 6 ?_;have hv3:=hv.WR hF3;have hn3:=(hv3.2 p hpm).1;refine cL (Tv bH rfl rfl hv3.1.non (by omega)) ?_;refine Gz 1 ?_;refine cL (Tu kI rfl (hv3.1.rowZ i rfl hp 0 _ rfl)) ?_;refine Gz 1 ?_;rw[hn3.1];refine fK 0 ?_ ?_<;>intro h21
  ·have hkl:k<p.2.names.length:=by omega
   have hl63:=hn3.2.1.WQ;obtain⟨s,hs⟩:∃ s,p.2.names[k]?=some s:=⟨_,List.getElem?_eq_getElem hkl⟩
   refine Gz 11 ?_;refine cL (Tv bH rfl rfl hv3.1.non (by omega)) ?_;refine Gz 1 ?_;refine cL (Tu kI rfl (hv3.1.rowZ i rfl hp 0 _ rfl)) ?_;refine Gz 1 ?_;refine cL (Tt jO rfl rfl (by rw[hn3.1];exact hn3.2.1.non) (by have:=hn3.1;omega)) ?_;refine cL (Tu gU rfl (hn3.2.1.get k s hs)) ?_;refine cA 0 Oa (Ac s w3 ((hsm p hpm).2.1 s (mem_of_getElem? hs))) ?_;rintro _ w4 ⟨rfl,rfl⟩;refine fK 6 ?_ ?_<;>intro h34
   ·refine Gz 20 ?_;have e:=J9 (iA hp) hs hok hok2 h34;refine⟨_,rfl,?_,hF3⟩;unfold nmd;rw[e,if_pos h34]
   refine Gz 11 ?_;refine aG (k+1) ⟨by omega,fun t ht=>?_,hF3⟩ (by show p.2.names.length-(k+1)<p.2.names.length-k;omega);rw[tkL hs,mem_append,mem_singleton] at ht;rcases ht with ht|rfl
   ·exact hok2 t ht
   ·exact not_not.1 h34
  have hke:k=p.2.names.length:=by omega
  subst hke;rw[take_length] at hok2;refine Gz 14 ?_;refine aG (i+1) ⟨by omega,fun s hs=>?_,hF3⟩ (by show ps.length-(i+1)<ps.length-i;omega);rw[tkN hp,Fv,mem_append] at hs;exact hs.elim (hok s) (hok2 s)
 have hie:i=ps.length:=by omega
 subst hie;rw[take_of_length_le (by simp)] at hok;refine Gz 15 ?_;have hz:jA (gP (nds ps))=0:=wU hok;refine TA (β:=Nat) (fun j=>[(0,.slice lo ps.length lc),(6,iV j)]) (fun j w=>j≤ps.length∧(∀ n∈(nds ps).take j,¬ 16<n.names.length)∧aA nob W w) (fun j=>ps.length-j) 0 ⟨rfl,rfl,trivial⟩ ⟨Nat.zero_le _,by simp,hF2⟩ ?_;rintro j w3 ⟨hj,hdp,hF3⟩;refine fK 6 ?_ ?_<;>intro h39
 ·have hjl:j<ps.length:=by omega
  obtain⟨p,hp⟩:∃ p,ps[j]?=some p:=⟨_,List.getElem?_eq_getElem hjl⟩
  have hpm:=mem_of_getElem? hp;have hv3:=hv.WR hF3;have hn3:=(hv3.2 p hpm).1;refine Gz 11 ?_;refine cL (Tv bH rfl rfl hv3.1.non (by omega)) ?_;refine Gz 1 ?_;refine cL (Tu kI rfl (hv3.1.rowZ j rfl hp 0 _ rfl)) ?_;refine Gz 1 ?_;rw[hn3.1];refine fK 0 ?_ ?_<;>intro h48
  ·refine Gz 15 ?_;refine⟨_,rfl,?_,hF3⟩;unfold nmd;rw[if_neg (fun h=>h hz),if_pos ⟨p.2,mem_of_getElem? (iA hp),by omega⟩]
  refine Gz 11 ?_;refine aG (j+1) ⟨by omega,fun n hn=>?_,hF3⟩ (by show ps.length-(j+1)<ps.length-j;omega);rw[tkN hp,mem_append,mem_singleton] at hn;rcases hn with hn|rfl
  ·exact hdp n hn
  ·omega
 have hje:j=ps.length:=by omega
 subst hje;rw[take_of_length_le (by simp)] at hdp;refine Gz 15 ?_;have hd:¬ ∃ n∈nds ps,16<n.names.length:=fun⟨n,hn,h⟩=>hdp n hn h;refine TA (β:=Nat) (fun j=>[(0,.slice lo ps.length lc),(7,iV j)]) (fun j w=>j≤ps.length∧(∀ (i:Nat) (p:NdH×Nd),i<j→ps[i]?=some p→¬ iI ps p.2.names<i)∧aA nob W w) (fun j=>ps.length-j) 0 ⟨rfl,rfl,trivial⟩ ⟨Nat.zero_le _,fun i p hi=>by omega,hF3⟩ ?_;rintro j w3 ⟨hj,hno,hF3⟩;refine fK 6 ?_ ?_<;>intro h52
 ·have hjl:j<ps.length:=by omega
  obtain⟨p,hp⟩:∃ p,ps[j]?=some p:=⟨_,List.getElem?_eq_getElem hjl⟩
  have hpm:=mem_of_getElem? hp;have hv3:=hv.WR hF3;have hn3:=(hv3.2 p hpm).1;refine Gz 12 ?_;refine cL (Tv bH rfl rfl hv3.1.non (by omega)) ?_;refine Gz 1 ?_;refine cL (Tu kI rfl (hv3.1.rowZ j rfl hp 0 _ rfl)) ?_;refine Ts N8 rfl ((by show Calls _ _ [_,Value.slice p.1.names.a p.1.names.n p.1.names.c].toArray _ _;rw[hn3.1];exact CJ lo lc ps p.1.names.a p.1.names.c p.2.names w3 hv3 hn3.2.1)) rfl ?_;rintro _ w4 ⟨rfl,hf4⟩;refine fK 1 ?_ ?_<;>intro h63
  ·refine Gz 15 ?_;refine⟨_,rfl,?_,hF3.trans hf4⟩;unfold nmd;rw[if_neg (fun h=>h hz),if_neg hd,if_pos (IT hp h63)]
  refine Gz 11 ?_;refine aG (j+1) ⟨by omega,fun i q hi hq=>?_,hF3.trans hf4⟩ (by show ps.length-(j+1)<ps.length-j;omega);by_cases e:i=j
  ·subst e;rw[hp] at hq;cases hq;exact h63
  ·exact hno i q (by omega) hq
 have hje:j=ps.length:=by omega
 subst hje;refine Gz 15 ?_;refine⟨_,rfl,?_,hF3⟩;unfold nmd;rw[if_neg (fun h=>h hz),if_neg hd,if_neg (G2 fun i p h=>hno i p (List.getElem?_eq_some_iff.1 h).1 h)]
theorem wT{l:List Nd}(h:nmd l=0):(∀ s∈gP l,dV s=0)∧(∀ n∈l,n.names.length≤16)∧¬ dM l:=by
 unfold nmd at h;by_cases h1:jA (gP l)=0
 · rw[if_neg (fun g=>g h1)] at h
   by_cases h2:∃ n∈l,16<n.names.length
   ·rw[if_pos h2] at h;simp at h
   · rw[if_neg h2] at h
     by_cases h3:dM l
     ·rw[if_pos h3] at h;simp at h
     ·exact⟨C9 h1,fun n hn=>by have:¬ 16<n.names.length:=fun g=>h2 ⟨n,hn,g⟩;omega,h3⟩
 ·rw[if_pos h1] at h;exact absurd h h1
theorem drop_take{α:Type}(l:List α):l.dropLast=l.take (l.length-1):=by rw[List.dropLast_eq_take]
theorem EA(lo:Option Addr)(lc:Nat)(ps:List (NdH×Nd))(W:World)(hv:cD D W.heap lo lc ps)(hsm:∀ p∈ps,smN p.2) :
 CA 48 [.slice lo ps.length lc] W fun v w'=>v=iV (plc (nds ps))∧aA nob W w':=by
 have h63:=hv.1.WQ;have hll:(nds ps).length=ps.length:=by simp
 refine cS 43 [(0,_)] Tryz.func48 ?_;refine fK 10 ?_ ?_<;>intro h9
 ·refine Gz 11 ?_;refine⟨_,rfl,?_,Wt _ _⟩;unfold plc;rw[if_pos (by omega)]
 refine cA 8 SB (Hk lo lc ps W hv hsm) ?_;rintro _ w2 ⟨rfl,hf2⟩;refine fK 7 ?_ ?_<;>intro h13
 ·refine Gz 12 ?_;refine⟨_,rfl,?_,hf2⟩;unfold plc;rw[if_neg (by omega),if_pos h13]
 have hz:nmd (nds ps)=0:=not_not.1 h13;have hz3:=wT hz;refine Gz 8 ?_;refine Ts PL rfl (Ah lo lc ps none 0 [] w2 (hv.WR hf2) (Wz 0 (Nat.zero_le _))) rfl ?_;rintro _ w3 ⟨rfl,hf3⟩;by_cases h16:lO ps []
 ·rw[decide_eq_true h16];refine Gz 7 ?_;refine cL (T0 rfl) ?_;refine Gz 12 ?_;refine TA (β:=Nat) (fun i=>[(0,.slice lo ps.length lc),(5,iV i)]) (fun i w=>i≤ps.length∧(∀ n∈(nds ps).take i,¬ (n.names≠[]∧¬ gL (nds ps) n.names.dropLast))∧aA nob W w) (fun i=>ps.length-i) 0 ⟨rfl,rfl,trivial⟩ ⟨Nat.zero_le _,by simp,hf2.trans hf3⟩ ?_;rintro i w4 ⟨hi,hok,hF4⟩;refine fK 6 ?_ ?_<;>intro h22
  ·have hil:i<ps.length:=by omega
   obtain⟨p,hp⟩:∃ p,ps[i]?=some p:=⟨_,List.getElem?_eq_getElem hil⟩
   have hpm:=mem_of_getElem? hp;have hv4:=hv.WR hF4;have hn4:=(hv4.2 p hpm).1;have hl63:=hn4.2.1.WQ;refine Gz 11 ?_;refine cL (Tv bH rfl rfl hv4.1.non (by omega)) ?_;refine Gz 1 ?_;refine cL (Tu kI rfl (hv4.1.rowZ i rfl hp 0 _ rfl)) ?_;refine Gz 7 ?_;rw[hn4.1];refine fK 0 ?_ ?_<;>intro h32
   ·refine Gz 5 ?_;rw[hn4.1];refine Gz 1 ?_;refine cW (Tw (u:=.slice p.1.names.a p.2.names.dropLast.length p.1.names.c) (TP jO rfl rfl (by have:=hn4.2.1.le;omega)) (by rw[aU,List.length_dropLast];congr 1;omega)) ?_;refine TJ rfl rfl PL rfl (Ah lo lc ps p.1.names.a p.1.names.c p.2.names.dropLast w4 hv4 (by rw[drop_take];exact hn4.2.1.take _)) rfl ?_;rintro _ w5 ⟨rfl,hf5⟩;by_cases h40:lO ps p.2.names.dropLast
    ·rw[decide_eq_true h40];refine cW (T0 rfl) ?_;refine Gz 12 ?_;exact aG (i+1) ⟨by omega,LH hp hok (fun⟨_,h⟩=>h ((sH hz3.2.2 _).1 h40)),hF4.trans hf5⟩ (by show ps.length-(i+1)<ps.length-i;omega)
    rw[decide_eq_false h40];refine cW (T0 rfl) ?_;refine Gz 16 ?_;refine⟨_,rfl,?_,hF4.trans hf5⟩;unfold plc;rw[if_neg (by omega),if_neg (fun h=>h hz),if_neg (fun h=>h ((sH hz3.2.2 _).1 h16)),if_pos ⟨p.2,mem_of_getElem? (iA hp),fun e=>by rw[e] at h32;simp at h32,fun h=>h40 ((sH hz3.2.2 _).2 h)⟩]
   refine Gz 21 ?_;exact aG (i+1) ⟨by omega,LH hp hok (fun⟨h,_⟩=>h (List.length_eq_zero_iff.1 (by omega))),hF4⟩ (by show ps.length-(i+1)<ps.length-i;omega)
  have hie:i=ps.length:=by omega
  subst hie;rw[take_of_length_le (by simp)] at hok;refine Gz 15 ?_;refine⟨_,rfl,?_,hF4⟩;unfold plc;rw[if_neg (by omega),if_neg (fun h=>h hz),if_neg (fun h=>h ((sH hz3.2.2 _).1 h16)),if_neg (fun⟨n,hn,h⟩=>hok n hn h)]
 rw[decide_eq_false h16];refine Gz 7 ?_;refine cL (T0 rfl) ?_;refine Gz 11 ?_;refine⟨_,rfl,?_,hf2.trans hf3⟩;unfold plc;rw[if_neg (by omega),if_neg (fun h=>h hz),if_pos (fun h=>h16 ((sH hz3.2.2 _).2 h))]
end
section
def L3 (P:Program) (t e:TypeId):Bool:=match P.underlying t with
 | some (.struct fs)=>(match fs.toList with
   | [f0, f1, f2] => decide (f0.type = e ∧ f0.offset = 0 ∧ f0.name ≠ "_") && decide (f1.type = e ∧ f1.offset = 1 ∧ f1.name ≠ "_") && decide (f2.type = e ∧ f2.offset = 2 ∧ f2.name ≠ "_")
   | _=>false)
 | _=>false
theorem Mb{P:Program}{t e:TypeId}(h:L3 P t e=true)(he:P.underlying e=some (.int .i64))(hs:P.stoodInHeld t=false)(w:World)(a b c a' b' c':Int) :
 (Op.equalIn 10000 t (.agg [iV a,iV b,iV c].toArray) (.agg [iV a',iV b',iV c'].toArray)).run P w=.ok (decide (a=a'∧b=b'∧c=c')) w:=by
 unfold L3 at h
 split at h
 · rename_i fs hu
   split at h
   · rename_i f0 f1 f2 hl
     simp only[Bool.and_eq_true,decide_eq_true_eq] at h;obtain⟨⟨⟨t0,o0,n0⟩,⟨t1,o1,n1⟩⟩,⟨t2,o2,n2⟩⟩:=h;have hf:P.fieldsOf t=fs:=by unfold Program.fieldsOf;rw[hu]
     rw[run_equalIn_struct w 9999 t _ _ (by rw[hf];exact hu) hs,hf,hl];have hp:∀ (cs:Array Value) (o:Nat) (v:Value),cs[o]?=some v→(part e cs o).run P w=.ok v w:=fun cs o v hv=>by
      simp[part,isAgg,run_underlying he,hv]
     have hq:∀ (x y:Int),(Op.equalIn 9999 e (iV x) (iV y)).run P w=.ok (x == y) w:=fun x y=>run_equalIn_int w 9998 e .i64 .i64 x y he;simp only[Op.eqFields,n0,n1,n2,ne_eq,not_false_eq_true,if_true,t0,o0,t1,o1,t2,o2,Sem.run_bind];rw[hp _ 0 (iV a) rfl,Result.andThen_ok,hp _ 0 (iV a') rfl,Result.andThen_ok,hq,Result.andThen_ok];by_cases h1:a=a'
     · subst h1
       simp only[beq_self_eq_true,Bool.not_true,Bool.false_eq_true,if_false,Sem.run_bind,true_and];rw[hp _ 1 (iV b) rfl,Result.andThen_ok,hp _ 1 (iV b') rfl,Result.andThen_ok,hq,Result.andThen_ok];by_cases h2:b=b'
       · subst h2
         simp only[beq_self_eq_true,Bool.not_true,Bool.false_eq_true,if_false,Sem.run_bind,true_and];rw[hp _ 2 (iV c) rfl,Result.andThen_ok,hp _ 2 (iV c') rfl,Result.andThen_ok,hq,Result.andThen_ok];by_cases h3:c=c'
         ·subst h3;simp
         ·simp[h3]
       ·simp[h2]
     ·simp[h1]
   ·cases h
 ·cases h
section
variable {P:Program}{N:Nt}{l:SF}{ty t':TypeId}{pos:String}{aft:Array Edge}{dd:Option Nat}{g:Option (Nat×Bool)}{CH:Array Obj→Prop}{x y:Operand}{t e:TypeId}
theorem VX(h:L3 P t e=true)(he:P.underlying e=some (.int .i64))(hs:P.stoodInHeld t=false)(hg:P.eqGuardType P.depth t=false){a b c a' b' c':Int}(hx:evL l x=some (.agg [iV a,iV b,iV c].toArray))(hy:evL l y=some (.agg [iV a',iV b',iV c'].toArray)) :
 Cm P N CH l ⟨dd,.binOp .neq t x y t',ty,pos,aft,g⟩ (.bool (decide (¬ (a=a'∧b=b'∧c=c')))):=fun k w ha _=>by
 simp only[execOp,ha.ev hx,ha.ev hy,Sem.run_bind,run_eqGuard_agg w .neq t x y _ _ hg,Result.andThen_ok,run_neq_struct,Mb h he hs];simp
end
theorem stA:L3 Tryz.prog 43 3=true:=by kernel_rfl
theorem St:Tryz.prog.underlying 3=some (.int .i64):=by kernel_rfl
theorem Su:Tryz.prog.stoodInHeld 43=false:=by kernel_rfl
theorem Sv:Tryz.prog.eqGuardType Tryz.prog.depth 43=false:=by kernel_rfl
theorem cC{H:Array Obj}{q:Nat}{cs ds:List Value}{T:TypeId}{fr:Nat×Nat}(h:H[q]?=some (.cells cs.toArray T fr))(o:Nat)(hd:(cs.drop o).take ds.length=ds):∀ (j:Nat) (v:Value),ds[j]?=some v→bE H (((⟨q,0,none⟩:Addr).add o).add j)=some v:=by
 intro j v hj;rw[Tk];refine aE h ?_;rw[←hd,List.getElem?_take] at hj
 split at hj
 ·rw[List.getElem?_drop] at hj;exact hj
 ·cases hj
def Ni(n:Nd):List Value:=[iV n.md,iV n.ud,iV n.gd]
variable {D:Nat→Prop}
theorem Mh(p:NdH×Nd)(W:World)(hn:NdV D W.heap p)(hsm:smN p.2) :
 CA 49 [.agg (aM p).toArray] W fun v w'=>v=.bool (decide (pM p.2))∧aA nob W w':=by
 have no:∀ w',¬ pM p.2→aA nob W w'→Ret (fun v w'=>v=.bool (decide (pM p.2))∧aA nob W w') (.returned (.bool false)) w':=fun w' h f=>⟨_,rfl,by rw[decide_eq_false h],f⟩
 have yes:∀ w',(pM p.2↔eD p.2.xs)→aA nob W w'→Ret (fun v w'=>v=.bool (decide (pM p.2))∧aA nob W w') (.returned (.bool (decide (eD p.2.xs)))) w':=fun w' h f=>⟨_,rfl,congrArg _ (decide_eq_decide.2 h.symm),f⟩
 refine cS 95 [(0,_)] Tryz.func49 ?_;refine Gz 2 ?_;refine T1 rfl rfl ?_;intro w1 hg1 hs1 hf1;obtain⟨g,hg⟩:∃ g,g=W.heap.size:=⟨_,rfl⟩
 rw[←hg] at hg1 hs1 ⊢
 replace hg1:w1.heap[g]?=some (.cells (aM p).toArray 68 (0,0)):=hg1
 refine fK 8 ?_ ?_<;>intro h7
 ·refine Gz 20 ?_;exact no _ (fun hm=>by have:=hm.1;omega) hf1
 refine fW 3 ?_ ?_<;>intro h11
 ·refine Gz 16 ?_;exact no _ (fun hm=>by have:=hm.1;omega) hf1
 refine Gz 3 ?_;refine T5 rfl rfl (TV (Tu He rfl (aE hg1 rfl))) rfl (fun h15=>?_) (fun h15=>?_)
 ·refine Gz 12 ?_;exact no _ (fun hm=>by rw[hm.2.1] at h15;cases h15) hf1
 refine Gz 9 ?_;refine cL (TI (cs:=Ni p.2) DY rfl (cC hg1 3 rfl)) ?_;refine Tz Po rfl ?_;intro w2 hg2 hs2 hf2;obtain⟨q,hq⟩:∃ q,q=w1.heap.size:=⟨_,rfl⟩
 rw[←hq] at hg2 ⊢;refine sA rfl DY (by simp[Ni,Value.oneCell']) hg2 ?_;intro w3 hg3 hs3 hf3;have hf13:aA nob w1 w3:=hf2.WO hf3 (fun k e=>.inr (by have e:k=q:=e;omega));have hg4:=hf13.obj hg1 id;have hF3:=hf1.trans hf13;have hn3:=hn.WR hF3;refine fK 7 ?_ ?_<;>intro h21
 ·refine Gz 36 ?_;exact no _ (fun hm=>by have h3:=hm.2.2.1;have h4:=hm.2.2.2.1;have h5:=hm.2.2.2.2.1;omega) hF3
 refine fW 3 ?_ ?_<;>intro h25
 ·refine Gz 32 ?_;exact no _ (fun hm=>by have h3:=hm.2.2.1;have h4:=hm.2.2.2.1;have h5:=hm.2.2.2.2.1;omega) hF3
 refine fW 4 ?_ ?_<;>intro h30
 ·refine Gz 27 ?_;exact no _ (fun hm=>by have h3:=hm.2.2.1;have h4:=hm.2.2.2.1;have h5:=hm.2.2.2.2.1;omega) hF3
 refine fW 4 ?_ ?_<;>intro h35
 ·refine Gz 22 ?_;exact no _ (fun hm=>by have h3:=hm.2.2.1;have h4:=hm.2.2.2.1;have h5:=hm.2.2.2.2.1;omega) hF3
 refine fW 4 ?_ ?_<;>intro h40
 ·refine Gz 17 ?_;exact no _ (fun hm=>by have h3:=hm.2.2.1;have h4:=hm.2.2.2.1;have h5:=hm.2.2.2.2.1;omega) hF3
 refine fW 4 ?_ ?_<;>intro h45
 ·refine Gz 12 ?_;exact no _ (fun hm=>by have h3:=hm.2.2.1;have h4:=hm.2.2.2.1;have h5:=hm.2.2.2.2.1;omega) hF3
 refine Gz 6 ?_;refine TY (β:=Unit) (fun _u=>[(1,pT g)]) (fun _u w=>(p.2.kind=2∨p.2.data=[])∧p.2.data.length≤4096∧w=w3) ?_ ?_
 ·refine fK 4 ?_ ?_<;>intro h49
  ·refine Gz 4 ?_;rw[hn3.2.1.1];refine fW 0 ?_ ?_<;>intro h54
   ·refine Gz 18 ?_;exact no _ (fun hm=>hm.2.2.2.2.2.1.elim (fun e=>h49 e) (fun e=>by have:=congrArg List.length e;have e0:([]:By).length=0:=rfl;omega)) hF3
   refine Gz 5 ?_;rw[hn3.2.1.1];refine fW 0 ?_ ?_<;>intro h60
   ·refine Gz 12 ?_;exact no _ (fun hm=>by have h3:=hm.2.2.1;have h4:=hm.2.2.2.1;have h5:=hm.2.2.2.2.1;omega) hF3
   refine Gz 5 ?_;refine aC () ⟨?_,by omega,rfl⟩;exact .inr (List.length_eq_zero_iff.1 (by omega))
  refine Gz 10 ?_;rw[hn3.2.1.1];refine fW 0 ?_ ?_<;>intro h60
  ·refine Gz 12 ?_;exact no _ (fun hm=>by have:=hm.2.2.2.2.2.2.1;omega) hF3
  refine Gz 5 ?_;refine aC () ⟨?_,by omega,rfl⟩;exact .inl (not_not.1 h49)
 rintro _ w4 ⟨k1,k1l,hw4⟩;subst w4;refine cA 4 PK (J8 p.2.tgt w3 hsm.1) ?_;rintro _ w5 ⟨rfl,hw5⟩;subst w5;by_cases h64:(0:UInt8)∈p.2.tgt
 ·rw[decide_eq_true h64];refine Gz 3 ?_;refine TY (β:=Unit) (fun _u=>[(1,pT g)]) (fun _u w=>okT p.2∧w=w3) ?_ ?_
  ·refine fK 4 ?_ ?_<;>intro h67
   ·refine fW 3 ?_ ?_<;>intro h71
    ·refine Gz 31 ?_;exact no _ (fun hm=>by have m:=hm.2.2.2.2.2.2.2.1;unfold okT at m;rw[if_neg h67] at m;exact h71 m) hF3
    refine fW 4 ?_ ?_<;>intro h76
    ·refine fW 3 ?_ ?_<;>intro h80
     ·refine Gz 22 ?_;exact no _ (fun hm=>by have h3:=hm.2.2.1;have h4:=hm.2.2.2.1;have h5:=hm.2.2.2.2.1;omega) hF3
     refine Gz 3 ?_;refine cW (TU ty9 rfl) ?_;refine fW 0 ?_ ?_<;>intro h85
     ·refine Gz 17 ?_;exact no _ (fun hm=>by have h3:=hm.2.2.1;have h4:=hm.2.2.2.1;have h5:=hm.2.2.2.2.1;omega) hF3
     refine Gz 17 ?_;exact no _ (fun hm=>by have h3:=hm.2.2.1;have h4:=hm.2.2.2.1;have h5:=hm.2.2.2.2.1;omega) hF3
    refine Gz 19 ?_;exact aC () ⟨by unfold okT;rw[if_neg h67];exact not_not.1 h71,rfl⟩
   refine fW 8 ?_ ?_<;>intro h76
   ·refine fW 3 ?_ ?_<;>intro h80
    ·refine Gz 22 ?_;exact no _ (fun hm=>by have m:=hm.2.2.2.2.2.2.2.1;unfold okT at m;rw[if_pos h76] at m;exact m.1 h80) hF3
    refine Gz 3 ?_;refine cW (TU ty9 rfl) ?_;refine fW 0 ?_ ?_<;>intro h85
    ·refine Gz 17 ?_;exact no _ (fun hm=>by have m:=hm.2.2.2.2.2.2.2.1;unfold okT at m;rw[if_pos h76] at m;have:=m.2.1;omega) hF3
    refine Gz 17 ?_;exact no _ (fun hm=>by have m:=hm.2.2.2.2.2.2.2.1;unfold okT at m;rw[if_pos h76] at m;exact m.2.2 h64) hF3
   refine Gz 19 ?_;exact absurd h76 h67
  rintro _ w5 ⟨k2,hw5⟩;subst w5;refine Gz 4 ?_;refine Ts O6 rfl ((by show Calls _ _ [Value.slice p.1.xs.a p.1.xs.n p.1.xs.c].toArray _ _;rw[hn3.2.2.1];exact wJ _ _ _ w3 (hn3.2.2.xav hsm.2.2))) rfl ?_;rintro _ w6 ⟨rfl,hf6⟩;refine Gz 5 ?_;exact yes _ ⟨fun hm=>hm.2.2.2.2.2.2.2.2,fun hx=>⟨by omega,by simpa using h15,by omega,by omega,by omega,k1,k1l,k2,hx⟩⟩ (hF3.trans hf6)
 rw[decide_eq_false h64];refine Gz 3 ?_;refine TY (β:=Unit) (fun _u=>[(1,pT g)]) (fun _u w=>okT p.2∧w=w3) ?_ ?_
 ·refine fK 4 ?_ ?_<;>intro h67
  ·refine fW 3 ?_ ?_<;>intro h71
   ·refine Gz 31 ?_;exact no _ (fun hm=>by have m:=hm.2.2.2.2.2.2.2.1;unfold okT at m;rw[if_neg h67] at m;exact h71 m) hF3
   refine fW 4 ?_ ?_<;>intro h76
   ·refine fW 3 ?_ ?_<;>intro h80
    ·refine Gz 22 ?_;exact no _ (fun hm=>by have h3:=hm.2.2.1;have h4:=hm.2.2.2.1;have h5:=hm.2.2.2.2.1;omega) hF3
    refine Gz 3 ?_;refine cW (TU ty9 rfl) ?_;refine fW 0 ?_ ?_<;>intro h85
    ·refine Gz 17 ?_;exact no _ (fun hm=>by have h3:=hm.2.2.1;have h4:=hm.2.2.2.1;have h5:=hm.2.2.2.2.1;omega) hF3
    refine Gz 10 ?_;exact absurd h76 h67
   refine Gz 19 ?_;exact aC () ⟨by unfold okT;rw[if_neg h67];exact not_not.1 h71,rfl⟩
  refine fW 8 ?_ ?_<;>intro h76
  ·refine fW 3 ?_ ?_<;>intro h80
   ·refine Gz 22 ?_;exact no _ (fun hm=>by have m:=hm.2.2.2.2.2.2.2.1;unfold okT at m;rw[if_pos h76] at m;exact m.1 h80) hF3
   refine Gz 3 ?_;refine cW (TU ty9 rfl) ?_;refine fW 0 ?_ ?_<;>intro h85
   ·refine Gz 17 ?_;exact no _ (fun hm=>by have m:=hm.2.2.2.2.2.2.2.1;unfold okT at m;rw[if_pos h76] at m;have:=m.2.1;omega) hF3
   refine Gz 10 ?_;exact aC () ⟨by unfold okT;rw[if_pos h76];exact⟨h80,by omega,h64⟩,rfl⟩
  refine Gz 19 ?_;exact absurd h76 h67
 rintro _ w5 ⟨k2,hw5⟩;subst w5;refine Gz 4 ?_;refine Ts O6 rfl ((by show Calls _ _ [Value.slice p.1.xs.a p.1.xs.n p.1.xs.c].toArray _ _;rw[hn3.2.2.1];exact wJ _ _ _ w3 (hn3.2.2.xav hsm.2.2))) rfl ?_;rintro _ w6 ⟨rfl,hf6⟩;refine Gz 5 ?_;exact yes _ ⟨fun hm=>hm.2.2.2.2.2.2.2.2,fun hx=>⟨by omega,by simpa using h15,by omega,by omega,by omega,k1,k1l,k2,hx⟩⟩ (hF3.trans hf6)
end
section
theorem Mx{α:Type}{a b:List α}{k:Nat}(hl:a.length=b.length)(hk:a.length≤k)(h:∀ j:Nat,j<k→a[j]?=b[j]?):a=b:=by
 apply List.ext_getElem?;intro j;by_cases hj:j<k
 ·exact h j hj
 ·rw[List.getElem?_eq_none (by omega),List.getElem?_eq_none (by omega)]
theorem XsV.at{D:Nat→Prop}{H:Array Obj}{h:Hd}{X:List Xa}{ys:List (By×Hd)}(hl:ys.length=X.length)(hx:∀ (i:Nat) (x:By×Hd) (y:Xa),ys[i]?=some x→X[i]?=some y→x.1=y.1∧ByV D H x.2 y.2){k:Nat}(hk:k<X.length) :
 ∃ (a:Xa) (b:Hd),X[k]?=some a∧ys[k]?=some (a.1,b)∧ByV D H b a.2:=by
 have h1:=List.getElem?_eq_getElem hk;have h2:ys[k]?=some ys[k]:=List.getElem?_eq_getElem (by omega);obtain⟨e,hb⟩:=hx k _ _ h2 h1;refine⟨X[k],(ys[k]).2,h1,?_,hb⟩;rw[h2,←e]
variable {D:Nat→Prop}
theorem HD(p q:NdH×Nd)(W:World)(hp:NdV D W.heap p)(hq:NdV D W.heap q) :
 CA 46 [.agg (aM p).toArray,.agg (aM q).toArray] W fun v w'=>v=.bool (decide (Alk p.2 q.2))∧aA nob W w':=by
 have no:∀ w',¬ Alk p.2 q.2→aA nob W w'→Ret (fun v w'=>v=.bool (decide (Alk p.2 q.2))∧aA nob W w') (.returned (.bool false)) w':=fun w' h f=>⟨_,rfl,by rw[decide_eq_false h],f⟩
 refine cS 87 [(0,_),(1,_)] Tryz.func46 ?_;refine Gz 2 ?_;refine T1 rfl rfl ?_;intro w1 hg1 hs1 hf1;obtain⟨g,hg⟩:∃ g,g=W.heap.size:=⟨_,rfl⟩
 rw[←hg] at hg1 hs1 ⊢
 replace hg1:w1.heap[g]?=some (.cells (aM p).toArray 68 (0,0)):=hg1
 refine T1 rfl rfl ?_;intro w2 hg2 hs2 hf2;obtain⟨r,hr⟩:∃ r,r=w1.heap.size:=⟨_,rfl⟩
 rw[←hr] at hg2 hs2 ⊢;have hgq:w2.heap[r]?=some (.cells (aM q).toArray 68 (0,0)):=hg2;have hgp:=hf2.obj hg1 id;have hF2:=hf1.trans hf2;have hp2:=hp.WR hF2;have hq2:=hq.WR hF2;refine Gz 7 ?_;refine cL (Tu aI rfl (by first|exact aE hgp rfl|exact aE hgq rfl)) ?_;refine Gz 1 ?_;refine cL (Tu aI rfl (by first|exact aE hgp rfl|exact aE hgq rfl)) ?_;refine fK 0 ?_ ?_<;>intro h10
 ·refine Gz 50 ?_;exact no _ (fun A=>h10 A.1) hF2
 refine Gz 2 ?_;refine cW (TI (cs:=Ni p.2) DY rfl (cC hgp 3 rfl)) ?_;refine Gz 1 ?_;refine cW (TI (cs:=Ni q.2) DY rfl (cC hgq 3 rfl)) ?_;refine T5 rfl rfl (VX stA St Su Sv (a:=p.2.md) (b:=p.2.ud) (c:=p.2.gd) (a':=q.2.md) (b':=q.2.ud) (c':=q.2.gd) rfl rfl) rfl (fun h16=>?_) (fun h16=>?_)
 ·refine Gz 44 ?_;exact no _ (fun A=>h16 A.2.1) hF2
 refine Gz 3 ?_;refine cW (Tw (u:=.slice p.1.data.a p.2.data.length p.1.data.c) (Tu aT rfl (aE hgp rfl)) (by rw[←hp2.2.1.1];rfl)) ?_;refine cW (Ui aK ty5 ty9 rfl hp2.2.1.2.1) ?_;refine Gz 1 ?_;refine cW (Tw (u:=.slice q.1.data.a q.2.data.length q.1.data.c) (Tu aT rfl (aE hgq rfl)) (by rw[←hq2.2.1.1];rfl)) ?_;refine cW (Ui aK ty5 ty9 rfl hq2.2.1.2.1) ?_;refine fW 0 ?_ ?_<;>intro h25
 ·refine Gz 35 ?_;exact no _ (fun A=>h25 A.2.2.2.2.1) hF2
 refine Gz 3 ?_;refine cW (Tu gU rfl (by first|exact aE hgp rfl|exact aE hgq rfl)) ?_;refine Gz 1 ?_;refine cW (Tu gU rfl (by first|exact aE hgp rfl|exact aE hgq rfl)) ?_;refine fW 0 ?_ ?_<;>intro h32
 ·refine Gz 28 ?_;exact no _ (fun A=>h32 A.2.2.1) hF2
 refine Gz 3 ?_;refine cW (Tu He rfl (by first|exact aE hgp rfl|exact aE hgq rfl)) ?_;refine Gz 1 ?_;refine cW (Tu He rfl (by first|exact aE hgp rfl|exact aE hgq rfl)) ?_;refine T5 rfl rfl (TV (Uv ty4 rfl rfl)) rfl (fun h39=>?_) (fun h39=>?_)
 ·refine Gz 21 ?_;exact no _ (fun A=>(bne_iff_ne.1 h39) A.2.2.2.1) hF2
 refine Gz 3 ?_;refine cW (Tu dN rfl (by first|exact aE hgp rfl|exact aE hgq rfl)) ?_;refine Gz 1 ?_;rw[hp2.2.2.1];refine Gz 1 ?_;refine cW (Tu dN rfl (by first|exact aE hgp rfl|exact aE hgq rfl)) ?_;refine Gz 1 ?_;rw[hq2.2.2.1];refine fW 0 ?_ ?_<;>intro h48
 ·refine Gz 12 ?_;exact no _ (fun A=>h48 (by rw[A.2.2.2.2.2])) hF2
 refine Gz 13 ?_;have hxe:p.2.xs.length=q.2.xs.length:=by omega
 obtain⟨hxl,ys,hyv,hyl,hyd,hyx⟩:=hp2.2.2;obtain⟨hwl,zs,hzv,hzl,hzd,hzx⟩:=hq2.2.2;have hx63:=hyv.WQ;refine TA (β:=Nat) (fun k=>[(2,pT g),(3,pT r),(5,iV k)]) (fun k w=>k≤p.2.xs.length∧(∀ j:Nat,j<k→p.2.xs[j]?=q.2.xs[j]?)∧aA nob w2 w) (fun k=>p.2.xs.length-k) 0 ⟨rfl,rfl,rfl,trivial⟩ ⟨Nat.zero_le _,fun j hj=>by omega,Wt _ _⟩ ?_;rintro k w3 ⟨hk,hsame,hF3⟩;have hgp3:=hF3.obj hgp id;have hgq3:=hF3.obj hgq id;refine Gz 5 ?_;refine cL (Tu dN rfl (by first|exact aE hgp3 rfl|exact aE hgq3 rfl)) ?_;refine Gz 1 ?_;rw[hp2.2.2.1];refine fK 0 ?_ ?_<;>intro h54
 ·have hkx:k<p.2.xs.length:=by omega
  obtain⟨a,ah,hak,hyk,hva⟩:=XsV.at (D:=D) (H:=w3.heap) (h:=p.1.xs) hyl (fun i x y h1 h2=>⟨(hyx i x y h1 h2).1,(hyx i x y h1 h2).2.WS hF3 (fun _ _=>id)⟩) hkx;obtain⟨b,bh,hbk,hzk,hvb⟩:=XsV.at (D:=D) (H:=w3.heap) (h:=q.1.xs) hzl (fun i x y h1 h2=>⟨(hzx i x y h1 h2).1,(hzx i x y h1 h2).2.WS hF3 (fun _ _=>id)⟩) (by omega:k<q.2.xs.length);have hyv3:=hyv.keep' hF3 (fun _ _ _=>id);have hzv3:=hzv.keep' hF3 (fun _ _ _=>id);refine Gz 8 ?_;refine TN 30 [0,1,2,3,4,5,6,7,8,9,10,11,12,13,14,15,16,17,18,19,20,21,22,23,24,25,26,27,28,29] aL (by kernel_rfl) ?_;refine Gz 1 ?_;refine xC rfl (Tu dN rfl (by first|exact aE hgp3 rfl|exact aE hgq3 rfl)) ?_;refine Gz 1 ?_;refine xC rfl (Tv jH rfl rfl (by rw[hp2.2.2.1,←hyl];exact hyv3.non) (by have:=hp2.2.2.1;omega)) ?_;refine Gz 1 ?_;refine xC rfl (Tu gU rfl (hyv3.rowZ k rfl hyk 0 _ rfl)) ?_;refine Gz 1 ?_;refine xC rfl (Tu dN rfl (by first|exact aE hgp3 rfl|exact aE hgq3 rfl)) ?_;refine Gz 1 ?_;refine xC rfl (Tv jH rfl rfl (by rw[hq2.2.2.1,←hzl];exact hzv3.non) (by have:=hq2.2.2.1;omega)) ?_;refine Gz 1 ?_;refine xC rfl (Tu gU rfl (hzv3.rowZ k rfl hzk 0 _ rfl)) ?_;refine xK 0 ?_ ?_<;>intro h69
  ·refine Gz 32 ?_;exact no _ (fun A=>h69 (by rw[A.2.2.2.2.2,hbk] at hak;cases hak;rfl)) ((hF2.trans hF3).draws 1)
  refine Gz 2 ?_;refine xV rfl (Tu dN rfl (by first|exact aE hgp3 rfl|exact aE hgq3 rfl)) ?_;refine Gz 1 ?_;refine xV rfl (Tv jH rfl rfl (by rw[hp2.2.2.1,←hyl];exact hyv3.non) (by have:=hp2.2.2.1;omega)) ?_;refine Gz 1 ?_;refine xV rfl (Tw (u:=.slice ah.a a.2.length ah.c) (Tu aT rfl (hyv3.rowZ k rfl hyk 1 _ rfl)) (by rw[←hva.1];rfl)) ?_;refine xV rfl (Ui aK ty5 ty9 rfl hva.2.1) ?_;refine Gz 1 ?_;refine xV rfl (Tu dN rfl (by first|exact aE hgp3 rfl|exact aE hgq3 rfl)) ?_;refine Gz 1 ?_;refine xV rfl (Tv jH rfl rfl (by rw[hq2.2.2.1,←hzl];exact hzv3.non) (by have:=hq2.2.2.1;omega)) ?_;refine Gz 1 ?_;refine xV rfl (Tw (u:=.slice bh.a b.2.length bh.c) (Tu aT rfl (hzv3.rowZ k rfl hzk 1 _ rfl)) (by rw[←hvb.1];rfl)) ?_;refine xV rfl (Ui aK ty5 ty9 rfl hvb.2.1) ?_;refine xW 0 ?_ ?_<;>intro h85
  ·refine Gz 16 ?_;exact no _ (fun A=>h85 (by rw[A.2.2.2.2.2,hbk] at hak;cases hak;rfl)) ((hF2.trans hF3).draws 1)
  refine Gz 12 ?_;refine aG (k+1) ⟨by omega,fun j hj=>?_,hF3.draws 1⟩ (by show p.2.xs.length-(k+1)<p.2.xs.length-k;omega);by_cases e:j=k
  ·subst e;rw[hak,hbk];exact congrArg _ (Prod.ext (not_not.1 h69) (not_not.1 h85))
  ·exact hsame j (by omega)
 refine Gz 15 ?_;exact⟨_,rfl,by rw[decide_eq_true (show Alk p.2 q.2 from ⟨not_not.1 h10,not_not.1 h16,not_not.1 h32,by simpa using h39,not_not.1 h25,Mx hxe (by omega) hsame⟩)],hF2.trans hF3⟩
end
section
theorem Ko{ps:List (NdH×Nd)}{i k:Nat}{p q:NdH×Nd}(h:(nds ps).Pairwise oI)(hk:k<i)(hq:ps[k]?=some q)(hp:ps[i]?=some p):oI q.2 p.2:=by
 have e1:=List.getElem?_eq_some_iff.1 (iA hq);have e2:=List.getElem?_eq_some_iff.1 (iA hp);have:=pairwise_iff_getElem.1 h k i e1.1 e2.1 hk;rw[e1.2,e2.2] at this;exact this
variable {D:Nat→Prop}
theorem tK(lo:Option Addr)(lc:Nat)(ps:List (NdH×Nd))(W:World)(hv:cD D W.heap lo lc ps)(hsm:∀ p∈ps,smN p.2) :
 CA 21 [.slice lo ps.length lc] W fun v w'=>v=iV (chk (nds ps))∧aA nob W w':=by
 have h63:=hv.1.WQ;refine cS 68 [(0,_)] Tryz.func21 ?_;refine cA 8 SZ (EA lo lc ps W hv hsm) ?_;rintro _ w2 ⟨rfl,hf2⟩;refine fK 7 ?_ ?_<;>intro h11
 ·refine Gz 12 ?_;exact⟨_,rfl,by rw[jX,if_pos h11],hf2⟩
 have hz:plc (nds ps)=0:=not_not.1 h11;refine Gz 12 ?_;refine TA (β:=Nat) (fun i=>[(0,.slice lo ps.length lc),(4,iV i)]) (fun i w=>i≤ps.length∧(∀ n∈(nds ps).take i,pM n)∧aA nob W w) (fun i=>ps.length-i) 0 ⟨rfl,rfl,trivial⟩ ⟨Nat.zero_le _,by simp,hf2⟩ ?_;rintro i w3 ⟨hi,hmy,hF3⟩;refine fK 6 ?_ ?_<;>intro h16
 ·have hil:i<ps.length:=by omega
  obtain⟨p,hp⟩:∃ p,ps[i]?=some p:=⟨_,List.getElem?_eq_getElem hil⟩
  have hpm:=mem_of_getElem? hp;have hv3:=hv.WR hF3;refine Gz 11 ?_;refine cL (Tv bH rfl rfl hv3.1.non (by omega)) ?_;refine cL (TI (cs:=aM p) eI rfl (fun j v hj=>hv3.1.rowZ i rfl hp j v hj)) ?_;refine cA 0 SY (Mh p w3 (hv3.2 p hpm) (hsm p hpm)) ?_;rintro _ w4 ⟨rfl,hf4⟩;by_cases h23:pM p.2
  ·rw[decide_eq_true h23];refine Gz 6 ?_;refine cL (T0 rfl) ?_;refine Gz 11 ?_;exact aG (i+1) ⟨by omega,LH hp hmy h23,hF3.trans hf4⟩ (by show ps.length-(i+1)<ps.length-i;omega)
  rw[decide_eq_false h23];refine Gz 6 ?_;refine cL (T0 rfl) ?_;refine Gz 15 ?_;exact⟨_,rfl,by rw[jX,if_neg (fun h=>h hz),if_pos ⟨p.2,mem_of_getElem? (iA hp),h23⟩],hF3.trans hf4⟩
 have hie:i=ps.length:=by omega
 subst hie;rw[take_of_length_le (by simp)] at hmy;have hmy2:¬ ∃ n∈nds ps,¬ pM n:=fun⟨n,hn,h⟩=>h (hmy n hn);refine Gz 15 ?_;refine TA (β:=Nat) (fun i=>[(0,.slice lo ps.length lc),(6,iV i)]) (fun i w=>i≤ps.length∧((nds ps).take i).Pairwise oI∧aA nob W w) (fun i=>ps.length-i) 0 ⟨rfl,rfl,trivial⟩ ⟨Nat.zero_le _,by simp,hF3⟩ ?_;rintro i w3 ⟨hi,hlk,hF3⟩;refine fK 6 ?_ ?_<;>intro h29
 ·have hil:i<ps.length:=by omega
  obtain⟨p,hp⟩:∃ p,ps[i]?=some p:=⟨_,List.getElem?_eq_getElem hil⟩
  have hpm:=mem_of_getElem? hp;refine Gz 13 ?_;refine TA (β:=Nat) (fun k=>[(0,.slice lo ps.length lc),(6,iV i),(7,iV k)]) (fun k w=>k≤i∧(∀ n∈(nds ps).take k,oI n p.2)∧aA nob W w) (fun k=>i-k) 0 ⟨rfl,rfl,rfl,trivial⟩ ⟨Nat.zero_le _,by simp,hF3⟩ ?_;rintro k w4 ⟨hk,hbl,hF4⟩;refine fK 5 ?_ ?_<;>intro h34
  ·have hkl:k<i:=by omega
   obtain⟨q,hq⟩:∃ q,ps[k]?=some q:=⟨_,List.getElem?_eq_getElem (by omega)⟩
   have hqm:=mem_of_getElem? hq;have hv4:=hv.WR hF4;refine Gz 8 ?_;refine TG 31 (fun H=>VwM 10 aM H lo lc ps) [27] [0,1,2,3,4,5,6,7,8,9,10,11,12,13,14,15,16,17,18,19,20,21,22,23,24,25,26,27,28,29,30] aL (by kernel_rfl) (hv4.1) ?_;refine Gz 2 ?_;refine xC rfl (Tv bH rfl rfl hv4.1.non (by omega)) ?_;refine Gz 1 ?_;refine xC rfl (TF aI rfl (fun H hH=>hH.rowZ i rfl hp 1 _ rfl)) ?_;refine Gz 2 ?_;refine xC rfl (Tv bH rfl rfl hv4.1.non (by omega)) ?_;refine Gz 1 ?_;refine xC rfl (TF aI rfl (fun H hH=>hH.rowZ k rfl hq 1 _ rfl)) ?_;refine xK 0 ?_ ?_<;>intro h47
   ·refine Gz 3 ?_;refine xV rfl (Tv bH rfl rfl hv4.1.non (by omega)) ?_;refine Gz 1 ?_;refine xV rfl (TF aI rfl (fun H hH=>hH.rowZ i rfl hp 2 _ rfl)) ?_;refine xW 0 ?_ ?_<;>intro h54
    ·refine Gz 9 ?_;refine Ty rfl rfl (Uc rfl rfl rfl rfl ?_);refine TE (by exact hv4.1) ?_;refine Gz 1 ?_;refine xV rfl (Ur rfl rfl) ?_;refine Gz 20 ?_;exact⟨_,rfl,by rw[jX,if_neg (fun h=>h hz),if_neg hmy2,if_neg (fun h=>(Ko h hkl hq hp h47).1 h54)],hF4.draws _⟩
    refine Gz 3 ?_;refine xV rfl (Tv bH rfl rfl hv4.1.non (by omega)) ?_;refine xV rfl (Uf (cs:=aM p) eI rfl (fun H hH j v hj=>hH.rowZ i rfl hp j v hj)) ?_;refine Gz 2 ?_;refine xV rfl (Tv bH rfl rfl hv4.1.non (by omega)) ?_;refine xV rfl (Uf (cs:=aM q) eI rfl (fun H hH j v hj=>hH.rowZ k rfl hq j v hj)) ?_;refine Ty rfl rfl (TJ rfl rfl S1 rfl (HD p q _ (hv4.2 p hpm) (hv4.2 q hqm)) rfl ?_);rintro _ w5 ⟨rfl,hf5⟩;have hF5:=(hF4.draws 1).trans hf5;refine TE (by exact(hv.WR hF5).1) ?_;by_cases h64:Alk p.2 q.2
    ·rw[decide_eq_true h64];refine xV rfl (T0 rfl) ?_;refine xV rfl (Uy rfl rfl) ?_;refine Gz 12 ?_;exact aG (k+1) ⟨by omega,LH (R:=fun n=>oI n p.2) hq hbl (fun _=>⟨h54,h64⟩),hF5⟩ (by show i-(k+1)<i-k;omega)
    rw[decide_eq_false h64];refine xV rfl (T0 rfl) ?_;refine xV rfl (Uy rfl rfl) ?_;refine Gz 20 ?_;exact⟨_,rfl,by rw[jX,if_neg (fun h=>h hz),if_neg hmy2,if_neg (fun h=>h64 (Ko h hkl hq hp h47).2)],hF5⟩
   refine Gz 16 ?_;refine Ty rfl rfl (Uc rfl rfl rfl rfl ?_);refine TE (by exact hv4.1) ?_;refine Gz 14 ?_;exact aG (k+1) ⟨by omega,LH (R:=fun n=>oI n p.2) hq hbl (fun e=>absurd e h47),hF4.draws _⟩ (by show i-(k+1)<i-k;omega)
  rw[show k=i by omega] at hbl;refine Gz 14 ?_;refine aG (i+1) ⟨by omega,?_,hF4⟩ (by show ps.length-(i+1)<ps.length-i;omega);rw[tkN hp];exact pairwise_append.2 ⟨hlk,by simp,fun b hb a ha=>by rw[mem_singleton] at ha;subst ha;exact hbl b hb⟩
 have hie:i=ps.length:=by omega
 subst hie;rw[take_of_length_le (by simp)] at hlk;refine Gz 15 ?_;exact⟨_,rfl,by rw[jX,if_neg (fun h=>h hz),if_neg hmy2,if_pos hlk],hF3⟩
end
section
open Go Go.RowKit Go.Maps
theorem cQ{B n:Nat}{o o':Option Addr}(h:Fr B o)(hr:∀ a,o'=some a→o=some a∨n≤a.block)(hn:B≤n):Fr B o':=fun a ha=>by
 rcases hr a ha with h1|h1
 ·exact h a h1
 ·omega
def iK(h:Hd)(n:Nat):Hd:=if n<h.n then ⟨h.a,n,h.c⟩ else h
theorem eL{h:Hd}{n:Nat}(k:n<h.n):iK h n=⟨h.a,n,h.c⟩:=if_pos k
theorem fX{h:Hd}{n:Nat}(k:¬ n<h.n):iK h n=h:=if_neg k
variable {D:Nat→Prop}
theorem Bf{α:Type}{l:List α}{n:Nat}(h:l.take n≠[]):l≠[]:=fun e=>h (by rw[e];exact List.take_nil)
theorem NmV.cut{H:Array Obj}{h:Hd}{l:List By}(v:NmV D H h l)(n:Nat):NmV D H (iK h n) (l.take n):=by
 by_cases k:n<h.n
 · rw[eL k]
   exact⟨by have:=v.1;rw[length_take];show n=_;omega,v.2.1.take n,fun hne=>v.2.2 (Bf hne)⟩
 ·rw[fX k,take_of_length_le (by have:=v.1;omega)];exact v
theorem ByV.cut{H:Array Obj}{h:Hd}{l:By}(v:ByV D H h l)(n:Nat):ByV D H (iK h n) (l.take n):=by
 by_cases k:n<h.n
 · rw[eL k]
   exact⟨by have:=v.1;rw[length_take];show n=_;omega,v.2.1.take n,fun hne=>v.2.2 (Bf hne)⟩
 ·rw[fX k,take_of_length_le (by have:=v.1;omega)];exact v
theorem XsV.cut{H:Array Obj}{h:Hd}{X:List Xa}(v:XsV D H h X)(n:Nat):XsV D H (iK h n) (X.take n):=by
 by_cases k:n<h.n
 · rw[eL k]
   obtain⟨h1,ys,h2,h3,h4,h5⟩:=v;refine⟨by rw[length_take];show n=_;omega,ys.take n,h2.take n,by simp[h3],fun hne=>h4 (Bf hne),fun i x y hx hy=>?_⟩;rw[List.getElem?_take] at hx hy;by_cases hi:i<n
   ·rw[if_pos hi] at hx hy;exact h5 i x y hx hy
   ·rw[if_neg hi] at hx;cases hx
 ·rw[fX k,take_of_length_le (by have:=v.1;omega)];exact v
def fQ:NdH×Nd:=(Bx,{ nd0 with ino:=1,kind:=1 })
theorem DL:chk (nds [fQ])=0:=by decide +kernel
theorem Mf:smN fQ.2:=⟨Nat.zero_le _,by simp[fQ,nd0],by simp[fQ,nd0]⟩
end
section
open Go Go.RowKit Go.Maps
theorem mN:∀ a:By,Op.bytesLess a a=false
|[]=>rfl
|x::a=>by
   have ih:=mN a;have h:¬ x<x:=by rw[UInt8.lt_iff_toNat_lt];omega
   simp[Op.bytesLess,h,ih]
theorem sR:∀ {a b c:By},Op.bytesLess a b=true→Op.bytesLess b c=true→Op.bytesLess a c=true
|_,[],_,h,_=>by simp[Op.bytesLess] at h
|_,_::_,[],_,h=>by simp[Op.bytesLess] at h
|[],_::_,_::_,_,_=>by simp[Op.bytesLess]
|x::a,y::b,z::c,h1,h2=>by
   simp only[Op.bytesLess,Bool.or_eq_true,decide_eq_true_eq,Bool.and_eq_true,beq_iff_eq] at h1 h2 ⊢;rcases h1 with h1|⟨rfl,h1⟩
   · rcases h2 with h2|⟨rfl,h2⟩
     ·left;rw[UInt8.lt_iff_toNat_lt] at *;omega
     ·exact .inl h1
   · rcases h2 with h2|⟨rfl,h2⟩
     ·exact .inl h2
     ·exact .inr ⟨rfl,sR h1 h2⟩
theorem LE{a b:By}(h:Op.bytesLess a b=true):Op.bytesLess b a=false:=by
 cases h2:Op.bytesLess b a with
|false=>rfl
|true=>have:=sR h h2;rw[mN] at this;cases this
theorem Ph{a b:By}(hne:a≠b)(h:Op.bytesLess a b=false):Op.bytesLess b a=true:=by
 have:=jB a b;rw[h] at this;have hb:(a == b)=false:=by simpa using hne
 rw[hb] at this
 revert this;cases Op.bytesLess b a<;>simp
def eH:List By→List By→Int
|[],[]=>0
|[],_::_=>-1
|_::_,[]=>1
|x::a,y::b=>if x=y then eH a b else if Op.bytesLess x y=true then -1 else 1
theorem pG:∀ a,eH a a=0
|[]=>rfl
|x::a=>by unfold eH;rw[if_pos rfl];exact pG a
theorem mM:∀ {a b:List By},eH a b=0→a=b
|[],[],_=>rfl
|[],_::_,h=>by simp[eH] at h
|_::_,[],h=>by simp[eH] at h
|x::a,y::b,h=>by
   unfold eH at h
   split at h
   ·rename_i e;rw[e,mM h]
   ·split at h<;>simp at h
theorem yH:∀ a b:List By,eH b a = - eH a b
|[],[]=>rfl
|[],_::_=>rfl
|_::_,[]=>rfl
|x::a,y::b=>by
   unfold eH;by_cases e:x=y
   ·rw[if_pos e,if_pos e.symm];exact yH a b
   · rw[if_neg e,if_neg (fun h=>e h.symm)]
     by_cases h:Op.bytesLess x y=true
     ·rw[if_pos h,if_neg (by rw[LE h];decide)];rfl
     ·rw[if_neg h,if_pos (Ph e (by simpa using h))]
theorem qQ:∀ {a b c:List By},eH a b<0→eH b c<0→eH a c<0
|_,_::_,[],_,h=>by simp[eH] at h
|[],_::_,_::_,_,_=>by simp[eH]
|[],[],_,h,_=>by simp[eH] at h
|_::_,[],_,h,_=>by simp[eH] at h
|x::a,y::b,z::c,h1,h2=>by
   unfold eH at h1 h2 ⊢;by_cases e1:x=y
   · subst e1
     rw[if_pos rfl] at h1;by_cases e2:x=z
     · subst e2
       rw[if_pos rfl] at h2 ⊢;exact qQ h1 h2
     ·rw[if_neg e2] at h2 ⊢;exact h2
   · rw[if_neg e1] at h1
     have l1:Op.bytesLess x y=true:=by
      by_cases h:Op.bytesLess x y=true
      ·exact h
      ·rw[if_neg h] at h1;simp at h1
     by_cases e2:y=z
     ·subst e2;rw[if_neg e1,if_pos l1];decide
     · rw[if_neg e2] at h2
       have l2:Op.bytesLess y z=true:=by
        by_cases h:Op.bytesLess y z=true
        ·exact h
        ·rw[if_neg h] at h2;simp at h2
       have l3:=sR l1 l2;rw[if_neg (fun e=>by subst e;rw[mN] at l3;cases l3),if_pos l3];decide
theorem yI:∀ (p a b:List By),eH (p++a) (p++b)=eH a b
|[],a,b=>rfl
|x::p,a,b=>by
   show (if x=x then eH (p++a) (p++b) else if Op.bytesLess x x=true then -1 else 1)=_;rw[if_pos rfl];exact yI p a b
theorem sG{α:Type}{l:List α}{k:Nat}{x:α}(h:l[k]?=some x):l.drop k=x::l.drop (k+1):=by
 rw[List.drop_eq_getElem_cons (List.getElem?_eq_some_iff.1 h).1,(List.getElem?_eq_some_iff.1 h).2]
theorem qR{a b:List By}{k:Nat}(h:a.take k=b.take k):eH a b=eH (a.drop k) (b.drop k):=by
 conv=>lhs;rw[←take_append_drop k a,←take_append_drop k b,h]
 exact yI _ _ _
theorem Nr{a b:List By}{k:Nat}{x y:By}(h:a.take k=b.take k)(hx:a[k]?=some x)(hy:b[k]?=some y)(hne:x≠y):eH a b=if Op.bytesLess x y=true then -1 else 1:=by
 rw[qR h,sG hx,sG hy];unfold eH;rw[if_neg hne]
theorem AU{a b:List By}{k:Nat}{x:By}(h:a.take k=b.take k)(hx:a[k]?=some x)(hy:b.length≤k):eH a b=1:=by
 rw[qR h,sG hx,List.drop_of_length_le hy];rfl
theorem DK{a b:List By}{k:Nat}(h:a.take k=b.take k)(hx:a.length≤k):eH a b=if a.length<b.length then -1 else 0:=by
 rw[qR h,List.drop_of_length_le hx];by_cases hl:a.length<b.length
 · rw[if_pos hl]
   have h2:(b.take k).length=a.length:=by rw[←h,length_take];omega
   cases hd:b.drop k with
  |nil=>have:=congrArg List.length hd;rw[length_take] at h2;simp at this;omega
  |cons y r=>rfl
 ·rw[if_neg hl,List.drop_of_length_le (by have:=congrArg List.length h;simp only[length_take] at this;omega)];rfl
theorem Ef{a b:List By}{k:Nat}{x:By}(h:a.take k=b.take k)(hx:a[k]?=some x)(hy:b[k]?=some x):a.take (k+1)=b.take (k+1):=by rw[tkL hx,tkL hy,h]
def Ns(x y:By):Int:=if Op.bytesLess x y=true then -1 else if x=y then 0 else 1
def bX(a b:List By):Bool:=decide (eH a b<0)
theorem Jy(ao bo:Option Addr)(ac bc:Nat)(a b:List By)(W:World)(ha:Vw lJ W.heap ao ac a)(hb:Vw lJ W.heap bo bc b) :
 CA 47 [.slice ao a.length ac,.slice bo b.length bc] W fun v w'=>v=.bool (bX a b)∧aA nob W w':=by
 have h63:=ha.WQ;refine cS 41 [(0,_),(1,_)] Tryz.func47 ?_;refine Gz 12 ?_;refine TA (β:=Nat) (fun k=>[(0,.slice ao a.length ac),(1,.slice bo b.length bc),(5,iV k)]) (fun k w=>k≤a.length∧k≤b.length∧a.take k=b.take k∧aA nob W w) (fun k=>a.length-k) 0 ⟨rfl,rfl,rfl,trivial⟩ ⟨Nat.zero_le _,Nat.zero_le _,by simp,Wt _ _⟩ ?_;rintro k w2 ⟨hk,hkb,hsm,hF2⟩;refine fK 6 ?_ ?_<;>intro h9
 ·refine fW 4 ?_ ?_<;>intro h14
  ·have hka:k<a.length:=by omega
   have hkb:k<b.length:=by omega
   have ha2:=ha.WR hF2;have hb2:=hb.WR hF2;obtain⟨x,hx⟩:∃ x,a[k]?=some x:=⟨_,List.getElem?_eq_getElem hka⟩
   obtain⟨y,hy⟩:∃ y,b[k]?=some y:=⟨_,List.getElem?_eq_getElem hkb⟩
   refine Gz 9 ?_;refine TN 9 [0,1,2,3,4,5,6,7,8] aL (by kernel_rfl) ?_;refine Gz 2 ?_;refine xC rfl (Tt jO rfl rfl ha2.non (by omega)) ?_;refine xC rfl (Tu gU rfl (ha2.get k x hx)) ?_;refine Gz 2 ?_;refine xC rfl (Tt jO rfl rfl hb2.non (by omega)) ?_;refine xC rfl (Tu gU rfl (hb2.get k y hy)) ?_;refine xK 0 ?_ ?_<;>intro h26
   ·refine Gz 4 ?_;refine TN 10 [0,1,2,3,4,5,6,7,8,9] aL (by kernel_rfl) ?_;refine Gz 2 ?_;refine xC rfl (Tt jO rfl rfl ha2.non (by omega)) ?_;refine xC rfl (Tu gU rfl (ha2.get k x hx)) ?_;refine Gz 2 ?_;refine xC rfl (Tt jO rfl rfl hb2.non (by omega)) ?_;refine xC rfl (Tu gU rfl (hb2.get k y hy)) ?_;refine xC rfl (VQ (a:=x) (b:=y) rfl rfl) ?_;refine Gz 10 ?_;refine⟨_,rfl,?_,(hF2.draws 1).draws 1⟩;unfold bX;rw[Nr hsm hx hy h26];cases hl:Op.bytesLess x y<;>simp
   refine Gz 11 ?_;exact aG (k+1) ⟨by omega,by omega,Ef hsm hx (by rw[not_not.1 h26];exact hy),hF2.draws 1⟩ (by show a.length-(k+1)<a.length-k;omega)
  refine Gz 15 ?_;refine cL (Ut rfl rfl) ?_;refine Gz 5 ?_;refine⟨_,rfl,?_,hF2⟩;unfold bX;by_cases hka:a.length≤k
  · rw[DK hsm hka];by_cases hl:a.length<b.length
    ·rw[if_pos hl];simp;omega
    ·rw[if_neg hl];simp;omega
  · obtain⟨x,hx⟩:∃ x,a[k]?=some x:=⟨_,List.getElem?_eq_getElem (by omega)⟩
    rw[AU hsm hx (by omega)];simp;omega
 refine Gz 20 ?_;refine cL (Ut rfl rfl) ?_;refine Gz 5 ?_;refine⟨_,rfl,?_,hF2⟩;unfold bX;by_cases hka:a.length≤k
 · rw[DK hsm hka];by_cases hl:a.length<b.length
   ·rw[if_pos hl];simp;omega
   ·rw[if_neg hl];simp;omega
 · obtain⟨x,hx⟩:∃ x,a[k]?=some x:=⟨_,List.getElem?_eq_getElem (by omega)⟩
   rw[AU hsm hx (by omega)];simp;omega
end
inductive OT where
|fin:OT
|stop:OT
|alt (i:Nat) (pre:List Nat) (t u:OT):OT
def OT.heads:OT→List Nat
|.alt i _ _ u=>i::u.heads
|_=>[]
def OT.dep:OT→Nat
|.alt _ pre t u=>Nat.max (pre.length+t.dep+1) u.dep
|_=>0
section
variable {P:Program}{ops:Array Oper}{CH:Array Obj→Prop}{N:Nt}{effs:List Nat}{K0:Act→World→Prop}{Q:Exit→Act→World→Prop}{l:SF}{w:World}
def Sy(P:Program)(N:Nt)(ops:Array Oper)(CH:Array Obj→Prop)(effs:List Nat)(K0:Act→World→Prop):List Nat→SF→World→Prop
|[],l,w=>∀ a,cK N l a→K0 a w
|i::r,l,w=>∃ o,ops[i]?=some o ∧
   (bif effs.contains i then Sl P N ops (lQ fun a w=>∃ l',cK N l' a∧CH w.heap∧Sy P N ops CH effs K0 r l' w) [o] l w
    else ∃ v,(∀ a,cK N l a→YC P ops CH o v a)∧∃ l',(∀ a,cK N l a→cK N l' (a.put o.dst v))∧Sy P N ops CH effs K0 r l' w)
def KT(P:Program)(N:Nt)(ops:Array Oper)(CH:Array Obj→Prop)(effs:List Nat)(K0:Act→World→Prop):OT→Act→World→Prop
|.fin,a,w=>K0 a w
|.stop,_,_=>True
|.alt i pre t u,a,w=>(∃ l',cK N l' a∧Sy P N ops CH effs (KT P N ops CH effs K0 t) (i::pre) l' w)∧KT P N ops CH effs K0 u a w
def Bs(ops:Array Oper)(effs:List Nat):List Nat→Array Bool→Option (Array Bool)
|[],L=>some L
|k::r,L=>bif (!effs.contains k) && (Region.ready .any ops L).contains k && Region.free .any ops L k && Nat.blt k ops.size then Bs ops effs r (L.setIfInBounds k true) else none
def okO(ops:Array Oper)(effs:List Nat):Bool→OT→Array Bool→Bool
|_,.fin,L=>(Region.ready .any ops L).isEmpty
|top,.stop,_=>!top
|top,.alt i pre t u,L=>(!top || (Region.ready .any ops L).all (i::u.heads).contains) && effs.contains i && (Region.ready .any ops L).contains i && Nat.blt i ops.size &&
   (match Bs ops effs pre (L.setIfInBounds i true) with|some L'=>okO ops effs true t L'|none=>false) && okO ops effs false u L
theorem Tj(ops:Array Oper):rZ ops ops.size=true:=by simp[rZ]
theorem Br(hsel:Region.noSelect ops=true){K:Act→World→Prop}{L':Array Bool}{m:Nat}
 (hK:∀ (f:Nat) (a:Act) (w:World),m≤f→HeadInv .any ops ops.size L'→CH w.heap→K a w→bZ P .any ops ops.size CH K0 f L' a w) :
 ∀ (pre:List Nat) (f:Nat) (L:Array Bool) (l:SF) (a:Act) (w:World),pre.length+m≤f→Bs ops effs pre L=some L'→cK N l a→HeadInv .any ops ops.size L→CH w.heap→Sy P N ops CH effs K pre l w→bZ P .any ops ops.size CH K0 f L a w
|[],f,L,l,a,w,hf,hp,ha,inv,hc,h=>by
   simp only[Bs,Option.some.injEq] at hp;subst hp;exact hK f a w (by simpa using hf) inv hc (h a ha)
|k::r,0,L,l,a,w,hf,hp,ha,inv,hc,h=>by simp at hf
|k::r,f+1,L,l,a,w,hf,hp,ha,inv,hc,h=>by
   obtain⟨o,ho,h⟩:=h;cases hb:((!effs.contains k) && (Region.ready .any ops L).contains k && Region.free .any ops L k && Nat.blt k ops.size) with
  |false=>simp only[Bs,hb,cond_false] at hp;cases hp
  |true=>
     simp only[Bs,hb,cond_true] at hp;simp only[Bool.and_eq_true,Bool.not_eq_true'] at hb;obtain⟨⟨⟨he,m1⟩,m2⟩,m3⟩:=hb;rw[he] at h;simp only[cond_false] at h;obtain⟨v,hy,l',hl',hs⟩:=h;have hin:k<ops.size:=by simpa[Nat.blt_eq] using m3
     have hir:k∈Region.ready .any ops L:=by simpa using m1
     exact mR ho (Region.noSelect_spec hsel) (Tj ops) hin f L a w inv hc (Region.free_spec ho m2) hir (hy a ha) (Br hsel hK r f _ l' _ w (by simp at hf;omega) hp (hl' a ha) (inv.set hir hin) hc hs)
theorem LW{i:Nat}{pre:List Nat}{K:Act→World→Prop}{f:Nat}{L:Array Bool}{a:Act}(he:effs.contains i=true)(ha:cK N l a)
 (key:∀ l' a' w',cK N l' a'→CH w'.heap→Sy P N ops CH effs K pre l' w'→bZ P .any ops ops.size CH K0 f (L.setIfInBounds i true) a' w')
 (h:Sy P N ops CH effs K (i::pre) l w):wpOp P ops (lQ K0) i (bZ P .any ops ops.size CH K0 f (L.setIfInBounds i true)) a w:=by
 obtain⟨o,ho,h⟩:=h;rw[he] at h;simp only[cond_true] at h;have h1:=h a ha;unfold wpList at h1;unfold wpOp;simp only[ho];have key2:∀ a' w',wpList P ops (lQ fun a w=>∃ l',cK N l' a∧CH w.heap∧Sy P N ops CH effs K pre l' w) [] a' w'→bZ P .any ops ops.size CH K0 f (L.setIfInBounds i true) a' w':=by
  intro a' w' h2;obtain⟨l',h3,h4,h5⟩:=h2;exact key l' a' w' h3 h4 h5
 split
 · rename_i hw
   rw[if_pos hw] at h1;rcases h1 with h1|⟨_,_,_,h1⟩
   ·exact .inl (WB key2 h1)
   ·exact h1.elim
 · rename_i hw
   rw[if_neg hw] at h1;exact key2 _ _ h1
theorem qB(hsel:Region.noSelect ops=true):∀ (t:OT) (top:Bool) (f:Nat) (L:Array Bool) (a:Act) (w:World),t.dep≤f→okO ops effs top t L=true→HeadInv .any ops ops.size L→CH w.heap→KT P N ops CH effs K0 t a w →
 (top=true→bZ P .any ops ops.size CH K0 f L a w)∧∀ k∈t.heads,∃ f',f=f'+1∧wpOp P ops (lQ K0) k (bZ P .any ops ops.size CH K0 f' (L.setIfInBounds k true)) a w
|.fin,top,f,L,a,w,hf,hm,inv,hc,h=>by
   have hr:Region.ready .any ops L=[]:=by simpa[okO] using hm
   refine⟨fun _=>?_,fun k hk=>by cases hk⟩;cases f with
  |zero=>exact⟨fun _=>hc,hr,h⟩
  |succ f=>exact⟨fun _=>hc,fun _=>h,by rw[hr];simp⟩
|.stop,top,f,L,a,w,hf,hm,inv,hc,h=>by
   refine⟨fun e=>by subst e;simp[okO] at hm,fun k hk=>by cases hk⟩
|.alt i pre t u,top,f,L,a,w,hf,hm,inv,hc,h=>by
   simp only[okO,Bool.and_eq_true] at hm;obtain⟨⟨⟨⟨⟨m1,m2⟩,m3⟩,m4⟩,m5⟩,m6⟩:=hm;have hf1:pre.length+t.dep+1≤f:=Nat.le_trans (Nat.le_max_left _ _) hf;have hf2:u.dep≤f:=Nat.le_trans (Nat.le_max_right _ _) hf;obtain⟨f',rfl⟩:∃ f',f=f'+1:=⟨f-1,by omega⟩
   obtain⟨⟨l',ha,h1⟩,h2⟩:=h;have hi:i<ops.size:=by simpa[Nat.blt_eq] using m4
   have hr:i∈Region.ready .any ops L:=by simpa using m3
   have hu:=qB hsel u false (f'+1) L a w hf2 m6 inv hc h2
   have hhead:∀ k∈i::u.heads,∃ f'',f'+1=f''+1∧wpOp P ops (lQ K0) k (bZ P .any ops ops.size CH K0 f'' (L.setIfInBounds k true)) a w:=by
    intro k hk;rcases mem_cons.1 hk with rfl|hk
    · refine⟨f',rfl,LW m2 ha (fun l2 a2 w2 hl2 hc2 hs2=>?_) h1⟩
      cases hp:Bs ops effs pre (L.setIfInBounds k true) with
     |none=>rw[hp] at m5;cases m5
     |some L'=>
        rw[hp] at m5;exact Br hsel (m:=t.dep) (fun f3 a3 w3 hf3 inv3 hc3 hk3=>(qB hsel t true f3 L' a3 w3 hf3 m5 inv3 hc3 hk3).1 rfl) pre f' _ l2 a2 w2 (by omega) hp hl2 (inv.set hr hi) hc2 hs2
    ·exact hu.2 k hk
   refine⟨fun e=>?_,hhead⟩;subst e;refine⟨fun _=>hc,fun h0=>(by rw[h0] at hr;cases hr),fun k hk=>?_⟩;simp only[Bool.not_true,Bool.false_or,all_eq_true] at m1;obtain⟨f'',e1,hw⟩:=hhead k (by simpa using m1 k hk);obtain rfl:f'=f'':=by omega
   exact hw
theorem U2{id:Nat}{lops:List Oper}(CH:Array Obj→Prop)(effs pre:List Nat)(t:OT)(hm:P.follows .mixedOrders=true)(hs:(Region.noSelect lops.toArray &&
 (match Bs lops.toArray effs pre (Array.replicate lops.length false) with|some L'=>okO lops.toArray effs true t L'|none=>false) && Nat.ble (pre.length+t.dep) lops.length)=true)(hc:CH w.heap)
 (h:Sy P N lops.toArray CH effs (KT P N lops.toArray CH effs (fun a w=>Q .normal a w) t) pre l (w.drewN 1)):Sc P N (.region id lops.toArray true) Q l w:=fun a ha=>by
 simp only[Bool.and_eq_true] at hs;obtain⟨⟨hs,hok⟩,hlen⟩:=hs
 have h1:bZ P .any lops.toArray lops.toArray.size CH (fun a w=>Q .normal a w) lops.length (Array.replicate lops.length false) a (w.drewN 1):=by
  cases hp:Bs lops.toArray effs pre (Array.replicate lops.length false) with
 |none=>rw[hp] at hok;cases hok
 |some L'=>
    rw[hp] at hok;exact Br hs (m:=t.dep) (fun f3 a3 w3 hf3 inv3 hc3 hk3=>(qB hs t true f3 L' a3 w3 hf3 hok inv3 hc3 hk3).1 rfl) pre lops.length _ l a _ (by simpa[Nat.ble_eq] using hlen) hp ha
     (by have:=rX (ops:=lops.toArray) (n:=lops.toArray.size);simpa using this) hc h
 have h2:=wp_region_any (P:=P) (id:=id) (ops:=lops.toArray) (Q:=lQ fun a w=>Q .normal a w) (a:=a) (w:=w) hm (by
  have:=h1.any;simpa[World.drewN] using this)
 refine wp_mono h2 ?_;intro e a' w' hq;cases e<;>first|exact hq|exact hq.elim
variable {r:List Nat}{i:Nat}{op:Op}{ty:TypeId}{pos:String}{aft:Array Edge}{d:Nat}{v:Value}{t u:OT}
theorem TC(hi:ops[i]?=some ⟨some d,op,ty,pos,aft,none⟩)(he:effs.contains i=false)(hv:Cm P N CH l ⟨some d,op,ty,pos,aft,none⟩ v)(hd:Nat.blt d N.n=true)
 (h:Sy P N ops CH effs K0 r ((d,v)::l) w):Sy P N ops CH effs K0 (i::r) l w:=
 ⟨_,hi,by rw[he];exact⟨v,fun a ha=>.inl ⟨by simp[Region.wanted],fun w hw=>hv a w ha hw⟩,_,fun a ha=>ha.put hd v,h⟩⟩
def KY(P:Program)(N:Nt)(ops:Array Oper)(CH:Array Obj→Prop)(effs:List Nat)(K0:Act→World→Prop)(r:List Nat):Exit→Act→World→Prop:=lQ fun a w=>∃ l',cK N l' a∧CH w.heap∧Sy P N ops CH effs K0 r l' w
theorem TL{o:Oper}(hi:ops[i]?=some o)(he:effs.contains i=true)(h:Sl P N ops (KY P N ops CH effs K0 r) [o] l w):Sy P N ops CH effs K0 (i::r) l w:=
 ⟨_,hi,by rw[he];exact h⟩
theorem TQ(hc:CH w.heap)(h:Sy P N ops CH effs K0 r l w):Sl P N ops (KY P N ops CH effs K0 r) [] l w:=fun _ ha=>⟨l,ha,hc,h⟩
theorem Up(h:At N .normal Q l w):Sy P N ops CH effs (KT P N ops CH effs (fun a w=>Q .normal a w) .fin) [] l w:=fun a ha=>h a ha
theorem TM{pre:List Nat}(h1:Sy P N ops CH effs (KT P N ops CH effs K0 t) (i::pre) l w)(h2:Sy P N ops CH effs (KT P N ops CH effs K0 u) [] l w):Sy P N ops CH effs (KT P N ops CH effs K0 (.alt i pre t u)) [] l w:=fun a ha=>⟨⟨l,ha,h1⟩,h2 a ha⟩
theorem TK:Sy P N ops CH effs (KT P N ops CH effs K0 .stop) [] l w:=fun _ _=>trivial
end
section
open Go Go.RowKit Go.Maps
variable {D D':Nat→Prop}
theorem AC(a:List By):bX a a=false:=by unfold bX;rw[pG];rfl
theorem mC{a b:List By}:bX a b=false↔a=b∨bX b a=true:=by
 unfold bX;rw[yH a b];constructor
 · intro h
   by_cases e:eH a b=0
   ·exact .inl (mM e)
   ·right;simp at h ⊢;omega
 · rintro(rfl|h)
   ·rw[pG];rfl
   ·simp at h ⊢;omega
theorem nA{a b:List By}(h:bX a b=true):bX b a=false:=mC.2 (.inr h)
theorem Df{a b c:List By}(h1:bX a b=true)(h2:bX b c=true):bX a c=true:=by
 unfold bX at *;simp at *;exact qQ h1 h2
theorem Dg{a b c:List By}(h1:bX a b=false)(h2:bX b c=false):bX a c=false:=by
 rcases mC.1 h1 with rfl|h1
 ·exact h2
 · rcases mC.1 h2 with rfl|h2
   ·exact nA h1
   ·exact nA (Df h2 h1)
def Bv(p q:NdH×Nd):Prop:=bX q.2.names p.2.names=false
theorem BG{ys:List (NdH×Nd)}{k:Nat}{p:NdH×Nd}(h:ys.Pairwise Bv)(hk:k≤ys.length)(h1:∀ j q,k≤j→ys[j]?=some q→bX p.2.names q.2.names=true)(h2:∀ q,0<k→ys[k-1]?=some q→bX p.2.names q.2.names=false) :
 (ys.take k++p::ys.drop k).Pairwise Bv:=by
 have hall:=take_append_drop k ys;rw[←hall] at h;obtain⟨a1,a2,a3⟩:=pairwise_append.1 h;refine pairwise_append.2 ⟨a1,pairwise_cons.2 ⟨fun q hq=>?_,a2⟩,fun a ha b hb=>?_⟩
 · obtain⟨j,hj⟩:=List.getElem?_of_mem hq
   rw[List.getElem?_drop] at hj;exact nA (h1 _ q (by omega) hj)
 · rcases mem_cons.1 hb with rfl|hb
   · have hk0:0<k:=by
      rcases Nat.eq_zero_or_pos k with h|h
      ·subst h;simp at ha
      ·exact h
     have hy:ys[k-1]?=some (ys[k-1]'(by omega)):=List.getElem?_eq_getElem (by omega);have hb2:=h2 _ hk0 hy;obtain⟨j,hj⟩:=List.getElem?_of_mem ha;rw[List.getElem?_take] at hj
     split at hj
     · rename_i hjk
       by_cases e:j=k-1
       ·subst e;rw[hy] at hj;cases hj;exact hb2
       · have hpw:=pairwise_iff_getElem.1 (hall ▸ h) j (k-1) (by omega) (by omega) (by omega)
         rw[(List.getElem?_eq_some_iff.1 hj).2] at hpw;exact Dg hb2 hpw
     ·cases hj
   ·exact a3 a ha b hb
theorem rS{α:Type}{ys zs:List α}{k:Nat}{p:α}(h:ys.Perm zs):(ys.take k++p::ys.drop k).Perm (zs++[p]):=by
 refine List.perm_middle.trans ?_;rw[take_append_drop];exact(List.Perm.cons p h).trans (List.perm_append_comm (l₁:=[p]) (l₂:=zs))
def jN(ps:List (NdH×Nd)):List (NdH×Nd):=ps.mergeSort (fun p q=>!bX q.2.names p.2.names)
theorem nS(ps:List (NdH×Nd)):(jN ps).Perm ps:=List.mergeSort_perm _ _
theorem FX(ps:List (NdH×Nd)):(jN ps).Pairwise Bv:=by
 have h:=List.pairwise_mergeSort (le:=fun p q:NdH×Nd=>!bX q.2.names p.2.names) (fun a b c h1 h2=>by
  simp only[Bool.not_eq_true'] at *;exact Dg h2 h1) (fun a b=>by
  simp only[Bool.or_eq_true,Bool.not_eq_true'];cases h:bX b.2.names a.2.names with
 |false=>exact .inl rfl
 |true=>exact .inr (nA h)) ps
 exact h.imp (fun h=>by simpa[Bv] using h)
theorem HT{ps:List (NdH×Nd)}(ht:¬ dM (nds ps)){p q:NdH×Nd}(hp:p∈ps)(hq:q∈ps)(e:p.2.names=q.2.names):p=q:=by
 obtain⟨i,hi⟩:=List.getElem?_of_mem hp;obtain⟨j,hj⟩:=List.getElem?_of_mem hq;rcases Nat.lt_trichotomy i j with h|h|h
 ·exact absurd ((jZ ps).2 ⟨i,j,p,q,h,hi,hj,e⟩) ht
 ·subst h;rw[hi] at hj;exact Option.some.inj hj
 ·exact absurd ((jZ ps).2 ⟨j,i,q,p,h,hj,hi,e.symm⟩) ht
theorem Jc{ps qs:List (NdH×Nd)}(ht:¬ dM (nds ps))(hp:qs.Perm ps)(hs:qs.Pairwise Bv):qs=jN ps:=
 List.Perm.eq_of_pairwise (le:=Bv) (fun a b ha hb h1 h2=>by
  have ha':=hp.mem_iff.1 ha;have hb':=(nS ps).mem_iff.1 hb;refine HT ht ha' hb' ?_;rcases mC.1 h2 with e|h2
  ·exact e
  ·unfold Bv at h1;rw[h1] at h2;cases h2) hs (FX ps) (hp.trans (nS ps).symm)
end
section
open Go Go.RowKit Go.Maps
variable {D D':Nat→Prop}
theorem VwM.dropK{α:Type}{k:Nat}{enc:α→List Value}{H:Array Obj}{ao:Option Addr}{cap:Nat}{xs:List α}(v:VwM k enc H ao cap xs){l:Nat}(hl:l≤xs.length):VwM k enc H (aP ao cap l k) (cap-l) (xs.drop l):=by
 have h:=v.cut (l:=l) (h:=xs.length) (m:=cap) hl (Nat.le_refl _) v.le (Nat.le_refl _);rwa[take_of_length_le (by rw[length_drop];exact Nat.le_refl _)] at h
theorem Ey(lo:Option Addr)(lc:Nat)(ps:List (NdH×Nd))(W:World)(hv:cD D W.heap lo lc ps)(h1000:ps.length≤1024) :
 CA 20 [.slice lo ps.length lc] W fun v w'=>∃ o c ys,v=.slice o (List.length (α:=NdH×Nd) ys) c∧bF 10 aM 68 w'.heap o c ys∧Fr W.heap.size o∧ys.Perm ps∧ys.Pairwise Bv∧aA nob W w':=by
 refine cS 53 [(0,_)] Tryz.func20 ?_;refine Gz 7 ?_;refine Uk aB bH rfl ?_;intro w1 ho1 hs1 hf1;refine Gz 10 ?_;refine TA (β:=Nat×Option Addr×Nat×List (NdH×Nd)) (fun⟨i,o,c,ys⟩=>[(0,.slice lo ps.length lc),(3,.slice o ys.length c),(4,iV i)]) (fun⟨i,o,c,ys⟩ w=>i≤ps.length∧bF 10 aM 68 w.heap o c ys∧Fr W.heap.size o∧ys.Perm (ps.take i)∧ys.Pairwise Bv∧aA nob W w) (fun⟨i,o,c,ys⟩=>ps.length-i) ⟨0,some ⟨W.heap.size,0,none⟩,0,[]⟩ ⟨rfl,rfl,rfl,trivial⟩ ⟨Nat.zero_le _,ho1,fun a ha=>by cases ha;exact Nat.le_refl _,by simp,by simp,hf1⟩ ?_;rintro⟨i,o,c,ys⟩ w2 ⟨hi,ho2,hfo,hpe,hor,hF2⟩;refine fK 6 ?_ ?_<;>intro h11
 ·have hil:i<ps.length:=by omega
  obtain⟨p,hp⟩:∃ p,ps[i]?=some p:=⟨_,List.getElem?_eq_getElem hil⟩
  have hpm:=mem_of_getElem? hp;have hv2:=hv.WR hF2;have hyl:ys.length=i:=by rw[hpe.length_eq,length_take];omega
  have hym:∀ q∈ys,q∈ps:=fun q hq=>List.mem_of_mem_take (hpe.mem_iff.1 hq);have hvy2:=ho2.vw aB;refine Gz 1 ?_;refine aW [(0,_),(3,_),(4,_),(11,_)] ?_;refine Gz 13 ?_;refine TY (β:=Nat) (fun k=>[(0,.slice lo ps.length lc),(3,.slice o ys.length c),(4,iV i),(5,iV k)]) (fun k w=>k≤ys.length∧(∀ (j:Nat) (q:NdH×Nd),k≤j→ys[j]?=some q→bX p.2.names q.2.names=true)∧(∀ q:NdH×Nd,0<k→ys[k-1]?=some q→bX p.2.names q.2.names=false)∧aA nob w2 w) ?_ ?_
  ·refine Gz 1 ?_;refine TA (β:=Nat) (fun k=>[(0,.slice lo ps.length lc),(3,.slice o ys.length c),(4,iV i),(5,iV k)]) (fun k w=>k≤ys.length∧(∀ (j:Nat) (q:NdH×Nd),k≤j→ys[j]?=some q→bX p.2.names q.2.names=true)∧aA nob w2 w) (fun k=>k) ys.length ⟨rfl,rfl,rfl,rfl,trivial⟩ ⟨Nat.le_refl _,fun j q hj hq=>by have:=(List.getElem?_eq_some_iff.1 hq).1;omega,Wt _ _⟩ ?_;rintro k w3 ⟨hkl,hbe,hF3⟩;refine Gz 2 ?_;have hv3:=hv2.WR hF3;have hvy3:=hvy2.keep' hF3 (fun _ _ _=>id);refine TG 16 (fun H=>VwM 10 aM H lo lc ps∧VwM 10 aM H o c ys) [14] [0,1,2,3,4,5,6,7,8,9,10,11,12,13,14,15] aL (by kernel_rfl) (⟨hv3.1,hvy3⟩) ?_;refine xK 1 ?_ ?_<;>intro h17
   ·obtain⟨q,hq⟩:∃ q,ys[k-1]?=some q:=⟨_,List.getElem?_eq_getElem (by omega)⟩
    have hqm:=hym q (mem_of_getElem? hq);refine Gz 3 ?_;refine xV rfl (Tv bH rfl rfl hv3.1.non (by omega)) ?_;refine Gz 1 ?_;refine xV rfl (TF kI rfl (fun H hH=>hH.1.rowZ i rfl hp 0 _ rfl)) ?_;refine Gz 3 ?_;refine xV rfl (Tv bH rfl rfl hvy3.non (by omega)) ?_;refine Gz 1 ?_;refine xV rfl (TF kI rfl (fun H hH=>hH.2.rowZ (k-1) (by omega) hq 0 _ rfl)) ?_;have hpn:=(hv3.2 p hpm).1;have hqn:=(hv3.2 q hqm).1;refine Ty rfl rfl (TJ rfl rfl S0 rfl ((by show Calls _ _ [Value.slice p.1.names.a p.1.names.n p.1.names.c,Value.slice q.1.names.a q.1.names.n q.1.names.c].toArray _ _;rw[hpn.1,hqn.1];exact Jy _ _ _ _ p.2.names q.2.names _ hpn.2.1 hqn.2.1)) rfl ?_);rintro _ w4 ⟨rfl,hf4⟩;rw[show bX p.2.names q.2.names=decide (bX p.2.names q.2.names=true) by simp];have hF4:aA nob w2 w4:=(hF3.draws 1).trans hf4;refine TE (by exact⟨hv2.1.keep' hF4 (fun _ _ _=>id),hvy2.keep' hF4 (fun _ _ _=>id)⟩) ?_;by_cases h30:bX p.2.names q.2.names=true
    ·rw[decide_eq_true h30];refine Gz 13 ?_;refine TO (k-1) ⟨rfl,rfl,rfl,congrArg (fun z:Int=>some (Value.int .i64 z)) (by omega),trivial⟩ ⟨by omega,fun j r hj hr=>?_,hF4⟩ (by show k-1<k;omega);by_cases e:j=k-1
     ·subst e;rw[hq] at hr;cases hr;exact h30
     ·exact hbe j r (by omega) hr
    rw[decide_eq_false h30];have hstop:∀ q:NdH×Nd,0<k→ys[k-1]?=some q→bX p.2.names q.2.names=false:=fun q2 _ h2=>by rw[hq] at h2;cases h2;simpa using h30
    refine Gz 8 ?_;exact aC k ⟨hkl,hbe,hstop,hF4⟩
   have hstop:∀ q:NdH×Nd,0<k→ys[k-1]?=some q→bX p.2.names q.2.names=false:=fun q h=>by omega
   refine Gz 12 ?_;refine Ty rfl rfl (Uc rfl rfl rfl rfl ?_);refine TE (by exact⟨hv3.1,hvy3⟩) ?_;refine Gz 8 ?_;exact aC k ⟨hkl,hbe,hstop,hF3.draws 1⟩
  rintro k w4 ⟨hkl,hbe,hstop,hF4⟩;refine Gz 2 ?_;refine Uk aB bH rfl ?_;intro w5 ho5 hs5 hf5;have hoy5:=(ho2.WR hF4).WR hf5;have hvy5:=hoy5.vw aB;obtain⟨g5,hg5⟩:∃ g5,g5=w4.heap.size:=⟨_,rfl⟩
  rw[←hg5] at ho5 ⊢;have hy5:∀ a,o=some a→a.block<g5:=fun a ha=>by rw[hg5];exact(ho2.WR hF4).lt a ha
  have hle:=hvy5.le;refine Gz 2 ?_;refine cL (Tw (u:=.slice (aP o c k 10) (ys.drop k).length (c-k)) (T4 bH rfl rfl (by omega)) (by rw[length_drop];rfl)) ?_;refine TH aB rfl bH rfl rfl ho5 (hvy5.dropK hkl) (by simp only[length_nil,length_drop];omega) (by simp only[length_nil,length_drop];unfold maxLen;omega) rfl ?_;intro o6 c6 w6 ho6 hf6 hr6 hn6;rw[nil_append] at ho6 ⊢;have hF6:aA nob w2 w6:=(hF4.trans hf5).WO hf6 (fun j ⟨a,ha,e⟩=>.inr (by cases ha;have e:g5=j:=e;have:=hF4.size;omega));have hoy6:=hoy5.WS hf6 (fun a ha ⟨b,hb,e⟩=>by cases hb;have e:g5=a.block:=e;have:=hy5 a ha;omega);refine Gz 3 ?_;refine U2 (fun H=>VwM 10 aM H lo lc ps) [0,4,9,10,12] [1,2,3,5,6,7,8,11] (.alt 0 [] (.alt 4 [] (.alt 9 [] (.alt 10 [] (.alt 12 [13] .fin .stop) .stop) .stop) (.alt 9 [] (.alt 4 [] (.alt 10 [] (.alt 12 [13] .fin .stop) .stop) .stop) .stop)) (.alt 9 [] (.alt 0 [] (.alt 4 [] (.alt 10 [] (.alt 12 [13] .fin .stop) .stop) .stop) .stop) .stop)) aL (by kernel_rfl) (hv2.1.keep' hF6 (fun _ _ _=>id)) ?_;have hG0:aA nob w2 (w6.drewN 1):=hF6.draws 1;have hoy0:bF 10 aM 68 (w6.drewN 1).heap o c ys:=hoy6;have hor0:bF 10 aM 68 (w6.drewN 1).heap o6 c6 (ys.drop k):=ho6;generalize w6.drewN 1=v0 at hG0 hoy0 hor0 ⊢;refine TC rfl rfl (TR rfl) rfl ?_;refine TC rfl rfl (TR rfl) rfl ?_;refine TC rfl rfl (Tw (u:=.slice o (ys.take k).length c) (TP bH rfl rfl (by omega)) (by rw[aU,length_take,Nat.min_eq_left (by omega)];rfl)) rfl ?_;refine TC rfl rfl (TR rfl) rfl ?_;refine TC rfl rfl (TR rfl) rfl ?_;refine TC rfl rfl (Tv bH rfl rfl hv2.1.non (by omega)) rfl ?_;refine TC rfl rfl (Uf (cs:=aM p) eI rfl (fun H hH j v hj=>hH.rowZ i rfl hp j v hj)) rfl ?_;refine TC rfl rfl (TR rfl) rfl ?_;refine TM ?_ ?_
  ·refine TL rfl rfl (Uk aB bH rfl ?_);intro v1 hoa1 hsa hfa;have hG1:=hG0.trans hfa;have hoy1:=hoy0.WR hfa;have hor1:=hor0.WR hfa;obtain⟨ga,hga⟩:∃ ga,ga=v0.heap.size:=⟨_,rfl⟩
   rw[←hga] at hoa1 ⊢;have hgs1:ga<v1.heap.size:=hoa1.lt _ rfl;have hgr:∀ a,o6=some a→a.block<ga:=fun a ha=>by rw[hga];exact hor0.lt a ha
   have hgW:w2.heap.size≤ga:=by rw[hga];exact hG0.size
   refine TQ (by exact hv2.1.keep' hG1 (fun _ _ _=>id)) ?_;refine TM ?_ ?_
   ·refine TL rfl rfl (TH aB rfl bH rfl rfl hoa1 ((hoy1.vw aB).take k) (by simp only[length_nil,length_take];omega) (by simp only[length_nil,length_take];unfold maxLen;omega) rfl ?_);intro o43 c43 v2 ho43_2 hf43 hr43 hn43;rw[nil_append] at ho43_2 ⊢;have hG2:aA nob w2 v2:=hG1.WO hf43 (fun j ⟨a,ha,e⟩=>.inr (by cases ha;have e:ga=j:=e;omega));have hor2:=hor1.WS hf43 (fun a ha ⟨b,hb,e⟩=>by cases hb;have e:ga=a.block:=e;have:=hgr a ha;omega);have hgs2:ga<v2.heap.size:=Nat.lt_of_lt_of_le hgs1 hf43.size;have hfr43:Fr ga o43:=cQ (o:=some ⟨ga,0,none⟩) (fun a ha=>by cases ha;exact Nat.le_refl _) hr43 (by omega);refine TQ (by exact hv2.1.keep' hG2 (fun _ _ _=>id)) ?_;refine TM ?_ ?_
    ·refine TL rfl rfl (TS bH (cs:=(aM p).toArray) kT rfl rfl rfl (by kernel_rfl) rfl ?_);intro v3 hgl hsl hfl;have hob3:bF 10 aM 68 v3.heap (some ⟨v2.heap.size,0,none⟩) 1 [p]:=bL (xs:=[p]) aB (by simpa using hgl) (by show 1≤maxLen;decide);obtain⟨gb,hgbe⟩:∃ gb,gb=v2.heap.size:=⟨_,rfl⟩
     rw[←hgbe] at hob3 ⊢;have hG3:=hG2.trans hfl;have hor3:=hor2.WR hfl;have hgs3:ga<v3.heap.size:=Nat.lt_of_lt_of_le hgs2 hfl.size;have ho43_3:=ho43_2.WR hfl;refine TQ (by exact hv2.1.keep' hG3 (fun _ _ _=>id)) ?_;refine TM ?_ ?_
     ·refine TL rfl rfl (TH aB rfl bH rfl rfl ho43_3 (hob3.vw aB) (by simp only[length_singleton,length_take];omega) (by simp only[length_singleton,length_take];unfold maxLen;omega) rfl ?_);intro o49 c49 v4 ho49 hf49 hr49 hn49;have hG4:aA nob w2 v4:=hG3.WO hf49 (fun j ⟨a,ha,e⟩=>.inr (by have:=hfr43 a ha;omega));have hor4:=hor3.WS hf49 (fun a ha ⟨b,hb,e⟩=>by have:=hfr43 b hb;have:=hgr a ha;omega);have hgs4:ga<v4.heap.size:=Nat.lt_of_lt_of_le hgs3 hf49.size;have hfr49:Fr ga o49:=cQ hfr43 hr49 (by omega);refine TQ (by exact hv2.1.keep' hG4 (fun _ _ _=>id)) ?_;refine TM ?_ ?_
      ·refine TL rfl rfl (TH aB rfl bH rfl rfl ho49 (hor4.vw aB) (by simp only[length_append,length_singleton,length_take,length_drop];omega) (by simp only[length_append,length_singleton,length_take,length_drop];unfold maxLen;omega) rfl ?_);intro o51 c51 v5 ho51 hf51 hr51 hn51;rw[append_assoc] at ho51 ⊢;have hG5:aA nob w2 v5:=hG4.WO hf51 (fun j ⟨a,ha,e⟩=>.inr (by have:=hfr49 a ha;omega));have hfr51:Fr ga o51:=cQ hfr49 hr51 (by omega);refine TQ (by exact hv2.1.keep' hG5 (fun _ _ _=>id)) ?_;refine TC rfl rfl (TW rfl) rfl ?_;refine Up ?_;refine Gz 7 ?_;exact aG ⟨i+1,o51,c51,ys.take k++p::ys.drop k⟩ ⟨by omega,ho51,fun a ha=>by have:=hfr51 a ha;have:=hF2.size;omega,by rw[tkL hp];exact rS hpe,BG hor hkl hbe hstop,hF2.trans hG5⟩ (by show ps.length-(i+1)<ps.length-i;omega)
      exact TK
     exact TK
    exact TK
   refine TM ?_ ?_
   ·refine TL rfl rfl (TS bH (cs:=(aM p).toArray) kT rfl rfl rfl (by kernel_rfl) rfl ?_);intro v2 hgl hsl hfl;have hob2:bF 10 aM 68 v2.heap (some ⟨v1.heap.size,0,none⟩) 1 [p]:=bL (xs:=[p]) aB (by simpa using hgl) (by show 1≤maxLen;decide);obtain⟨gb,hgbe⟩:∃ gb,gb=v1.heap.size:=⟨_,rfl⟩
    rw[←hgbe] at hob2 ⊢;have hG2:=hG1.trans hfl;have hoy2:=hoy1.WR hfl;have hor2:=hor1.WR hfl;have hgs2:ga<v2.heap.size:=Nat.lt_of_lt_of_le hgs1 hfl.size;have hoa2:=hoa1.WR hfl;refine TQ (by exact hv2.1.keep' hG2 (fun _ _ _=>id)) ?_;refine TM ?_ ?_
    ·refine TL rfl rfl (TH aB rfl bH rfl rfl hoa2 ((hoy2.vw aB).take k) (by simp only[length_nil,length_take];omega) (by simp only[length_nil,length_take];unfold maxLen;omega) rfl ?_);intro o43 c43 v3 ho43_3 hf43 hr43 hn43;rw[nil_append] at ho43_3 ⊢;have hG3:aA nob w2 v3:=hG2.WO hf43 (fun j ⟨a,ha,e⟩=>.inr (by cases ha;have e:ga=j:=e;omega));have hor3:=hor2.WS hf43 (fun a ha ⟨b,hb,e⟩=>by cases hb;have e:ga=a.block:=e;have:=hgr a ha;omega);have hgs3:ga<v3.heap.size:=Nat.lt_of_lt_of_le hgs2 hf43.size;have hfr43:Fr ga o43:=cQ (o:=some ⟨ga,0,none⟩) (fun a ha=>by cases ha;exact Nat.le_refl _) hr43 (by omega);have hob3:=hob2.WS hf43 (fun a ha ⟨b,hb,e⟩=>by cases hb;cases ha;have e:ga=gb:=e;omega);refine TQ (by exact hv2.1.keep' hG3 (fun _ _ _=>id)) ?_;refine TM ?_ ?_
     ·refine TL rfl rfl (TH aB rfl bH rfl rfl ho43_3 (hob3.vw aB) (by simp only[length_singleton,length_take];omega) (by simp only[length_singleton,length_take];unfold maxLen;omega) rfl ?_);intro o49 c49 v4 ho49 hf49 hr49 hn49;have hG4:aA nob w2 v4:=hG3.WO hf49 (fun j ⟨a,ha,e⟩=>.inr (by have:=hfr43 a ha;omega));have hor4:=hor3.WS hf49 (fun a ha ⟨b,hb,e⟩=>by have:=hfr43 b hb;have:=hgr a ha;omega);have hgs4:ga<v4.heap.size:=Nat.lt_of_lt_of_le hgs3 hf49.size;have hfr49:Fr ga o49:=cQ hfr43 hr49 (by omega);refine TQ (by exact hv2.1.keep' hG4 (fun _ _ _=>id)) ?_;refine TM ?_ ?_
      ·refine TL rfl rfl (TH aB rfl bH rfl rfl ho49 (hor4.vw aB) (by simp only[length_append,length_singleton,length_take,length_drop];omega) (by simp only[length_append,length_singleton,length_take,length_drop];unfold maxLen;omega) rfl ?_);intro o51 c51 v5 ho51 hf51 hr51 hn51;rw[append_assoc] at ho51 ⊢;have hG5:aA nob w2 v5:=hG4.WO hf51 (fun j ⟨a,ha,e⟩=>.inr (by have:=hfr49 a ha;omega));have hfr51:Fr ga o51:=cQ hfr49 hr51 (by omega);refine TQ (by exact hv2.1.keep' hG5 (fun _ _ _=>id)) ?_;refine TC rfl rfl (TW rfl) rfl ?_;refine Up ?_;refine Gz 7 ?_;exact aG ⟨i+1,o51,c51,ys.take k++p::ys.drop k⟩ ⟨by omega,ho51,fun a ha=>by have:=hfr51 a ha;have:=hF2.size;omega,by rw[tkL hp];exact rS hpe,BG hor hkl hbe hstop,hF2.trans hG5⟩ (by show ps.length-(i+1)<ps.length-i;omega)
      exact TK
     exact TK
    exact TK
   exact TK
  refine TM ?_ ?_
  ·refine TL rfl rfl (TS bH (cs:=(aM p).toArray) kT rfl rfl rfl (by kernel_rfl) rfl ?_);intro v1 hgl hsl hfl;have hob1:bF 10 aM 68 v1.heap (some ⟨v0.heap.size,0,none⟩) 1 [p]:=bL (xs:=[p]) aB (by simpa using hgl) (by show 1≤maxLen;decide);obtain⟨gb,hgbe⟩:∃ gb,gb=v0.heap.size:=⟨_,rfl⟩
   rw[←hgbe] at hob1 ⊢;have hG1:=hG0.trans hfl;have hoy1:=hoy0.WR hfl;have hor1:=hor0.WR hfl;refine TQ (by exact hv2.1.keep' hG1 (fun _ _ _=>id)) ?_;refine TM ?_ ?_
   ·refine TL rfl rfl (Uk aB bH rfl ?_);intro v2 hoa2 hsa hfa;have hG2:=hG1.trans hfa;have hoy2:=hoy1.WR hfa;have hor2:=hor1.WR hfa;obtain⟨ga,hga⟩:∃ ga,ga=v1.heap.size:=⟨_,rfl⟩
    rw[←hga] at hoa2 ⊢;have hgs2:ga<v2.heap.size:=hoa2.lt _ rfl;have hgr:∀ a,o6=some a→a.block<ga:=fun a ha=>by rw[hga];exact hor1.lt a ha
    have hgW:w2.heap.size≤ga:=by rw[hga];exact hG1.size
    have hob2:=hob1.WR hfa;refine TQ (by exact hv2.1.keep' hG2 (fun _ _ _=>id)) ?_;refine TM ?_ ?_
    ·refine TL rfl rfl (TH aB rfl bH rfl rfl hoa2 ((hoy2.vw aB).take k) (by simp only[length_nil,length_take];omega) (by simp only[length_nil,length_take];unfold maxLen;omega) rfl ?_);intro o43 c43 v3 ho43_3 hf43 hr43 hn43;rw[nil_append] at ho43_3 ⊢;have hG3:aA nob w2 v3:=hG2.WO hf43 (fun j ⟨a,ha,e⟩=>.inr (by cases ha;have e:ga=j:=e;omega));have hor3:=hor2.WS hf43 (fun a ha ⟨b,hb,e⟩=>by cases hb;have e:ga=a.block:=e;have:=hgr a ha;omega);have hgs3:ga<v3.heap.size:=Nat.lt_of_lt_of_le hgs2 hf43.size;have hfr43:Fr ga o43:=cQ (o:=some ⟨ga,0,none⟩) (fun a ha=>by cases ha;exact Nat.le_refl _) hr43 (by omega);have hob3:=hob2.WS hf43 (fun a ha ⟨b,hb,e⟩=>by cases hb;cases ha;have e:ga=gb:=e;omega);refine TQ (by exact hv2.1.keep' hG3 (fun _ _ _=>id)) ?_;refine TM ?_ ?_
     ·refine TL rfl rfl (TH aB rfl bH rfl rfl ho43_3 (hob3.vw aB) (by simp only[length_singleton,length_take];omega) (by simp only[length_singleton,length_take];unfold maxLen;omega) rfl ?_);intro o49 c49 v4 ho49 hf49 hr49 hn49;have hG4:aA nob w2 v4:=hG3.WO hf49 (fun j ⟨a,ha,e⟩=>.inr (by have:=hfr43 a ha;omega));have hor4:=hor3.WS hf49 (fun a ha ⟨b,hb,e⟩=>by have:=hfr43 b hb;have:=hgr a ha;omega);have hgs4:ga<v4.heap.size:=Nat.lt_of_lt_of_le hgs3 hf49.size;have hfr49:Fr ga o49:=cQ hfr43 hr49 (by omega);refine TQ (by exact hv2.1.keep' hG4 (fun _ _ _=>id)) ?_;refine TM ?_ ?_
      ·refine TL rfl rfl (TH aB rfl bH rfl rfl ho49 (hor4.vw aB) (by simp only[length_append,length_singleton,length_take,length_drop];omega) (by simp only[length_append,length_singleton,length_take,length_drop];unfold maxLen;omega) rfl ?_);intro o51 c51 v5 ho51 hf51 hr51 hn51;rw[append_assoc] at ho51 ⊢;have hG5:aA nob w2 v5:=hG4.WO hf51 (fun j ⟨a,ha,e⟩=>.inr (by have:=hfr49 a ha;omega));have hfr51:Fr ga o51:=cQ hfr49 hr51 (by omega);refine TQ (by exact hv2.1.keep' hG5 (fun _ _ _=>id)) ?_;refine TC rfl rfl (TW rfl) rfl ?_;refine Up ?_;refine Gz 7 ?_;exact aG ⟨i+1,o51,c51,ys.take k++p::ys.drop k⟩ ⟨by omega,ho51,fun a ha=>by have:=hfr51 a ha;have:=hF2.size;omega,by rw[tkL hp];exact rS hpe,BG hor hkl hbe hstop,hF2.trans hG5⟩ (by show ps.length-(i+1)<ps.length-i;omega)
      exact TK
     exact TK
    exact TK
   exact TK
  exact TK
 have hie:i=ps.length:=by omega
 subst hie;rw[take_length] at hpe;refine Gz 1 ?_;refine aW [(0,_),(3,_),(4,_),(11,_)] ?_;refine Gz 15 ?_;exact⟨_,rfl,o,c,ys,rfl,ho2,hfo,hpe,hor,hF2⟩
end
section
open Go Go.RowKit Go.Maps
def qT(s:List Int)(z:Int):List Int:=if z∈s then s else s++[z]
def cG(zs:List Int):List Int:=zs.foldl qT []
def oF(zs:List Int)(z:Int):Int:=((cG zs).idxOf z:Nat)+1
theorem LI{s:List Int}{z x:Int}:x∈qT s z↔x∈s∨x=z:=by
 unfold qT
 split
 ·rename_i h;exact⟨.inl,fun g=>g.elim id (fun e=>e ▸ h)⟩
 ·simp
theorem Dy:∀ (zs s:List Int) (x:Int),x∈zs.foldl qT s↔x∈s∨x∈zs
|[],s,x=>by simp
|z::zs,s,x=>by
   rw[foldl_cons,Dy zs,LI,mem_cons];exact or_assoc
theorem kH{zs:List Int}{x:Int}:x∈cG zs↔x∈zs:=by unfold cG;rw[Dy];simp
theorem Dz:∀ (zs s:List Int),∃ r,zs.foldl qT s=s++r
|[],s=>⟨[],by simp⟩
|z::zs,s=>by
   obtain⟨r,h⟩:=Dz zs (qT s z);rw[foldl_cons,h];unfold qT
   split
   ·exact⟨r,rfl⟩
   ·exact⟨z::r,by simp⟩
theorem Cw(a b:List Int):∃ r,cG (a++b)=cG a++r:=by
 unfold cG;rw[foldl_append];exact Dz _ _
theorem tC(a:List Int)(z:Int):cG (a++[z])=qT (cG a) z:=by unfold cG;rw[foldl_append];rfl
theorem C3{a b:List Int}{z:Int}(h:z∉a):oF (a++z::b) z=((cG a).length:Nat)+1:=by
 obtain⟨r,hr⟩:=Cw (a++[z]) b;have e:a++z::b=(a++[z])++b:=by simp
 have hs:z∉cG a:=fun g=>h (kH.1 g);unfold oF;rw[e,hr,tC];unfold qT;rw[if_neg hs,append_assoc,List.idxOf_append,if_neg hs];show ((List.idxOf z (z::r)+(cG a).length:Nat):Int)+1=_;rw[List.idxOf_cons_self,Nat.zero_add]
theorem rE{a:List Int}{z:Int}(h:z∉a):(cG (a++[z])).length=(cG a).length+1:=by
 rw[tC];unfold qT;rw[if_neg (fun g=>h (kH.1 g))];simp
theorem rD{a:List Int}{z:Int}(h:z∈a):(cG (a++[z])).length=(cG a).length:=by
 rw[tC];unfold qT;rw[if_pos (kH.2 h)]
theorem NC(s:List Int)(z:Int):(qT s z).length≤s.length+1:=by unfold qT;split<;>simp
theorem FZ(zs:List Int):(cG zs).length≤zs.length:=by
 have:∀ (zs s:List Int),(zs.foldl qT s).length≤s.length+zs.length:=fun zs=>by
  induction zs with
 |nil=>intro s;simp
 |cons z zs ih=>intro s;rw[foldl_cons,length_cons];have:=ih (qT s z);have:=NC s z;omega
 have:=this zs [];simpa[cG] using this
def bD(ps:List (NdH×Nd)):List Int:=ps.map (·.2.ino)
def nX(zs:List Int)(p:NdH×Nd):NdH×Nd:=(p.1,{ p.2 with ino:=oF zs p.2.ino })
def C5(ps:List (NdH×Nd)):List (NdH×Nd):=ps.map (nX (bD ps))
theorem qK{ps:List (NdH×Nd)}{i:Nat}{p:NdH×Nd}(hp:ps[i]?=some p):bD ps=bD (ps.take i)++p.2.ino::bD (ps.drop (i+1)):=by
 conv=>lhs;rw[←take_append_drop i ps,sG hp]
 simp[bD]
theorem rV{ps:List (NdH×Nd)}{i:Nat}{p:NdH×Nd}(hp:ps[i]?=some p):bD (ps.take (i+1))=bD (ps.take i)++[p.2.ino]:=by rw[tkL hp];simp[bD]
theorem Pw{zs:List Int}{ps:List (NdH×Nd)}{i:Nat}{p:NdH×Nd}(hp:ps[i]?=some p):(ps.take (i+1)).map (nX zs)=(ps.take i).map (nX zs)++[nX zs p]:=by rw[tkL hp];simp
theorem C2(zs:List Int)(z:Int):1≤oF zs z:=by unfold oF;omega
variable {D:Nat→Prop}
theorem Js(lo:Option Addr)(lc:Nat)(ps:List (NdH×Nd))(W:World)(hv:VwM 10 aM W.heap lo lc ps)(h1000:ps.length≤1024) :
 CA 19 [.slice lo ps.length lc] W fun v w'=>∃ o c,v=.slice o (C5 ps).length c∧bF 10 aM 68 w'.heap o c (C5 ps)∧Fr W.heap.size o∧aA nob W w':=by
 obtain⟨Z,hZ⟩:∃ Z,Z=bD ps:=⟨_,rfl⟩
 refine cS 54 [(0,_)] Tryz.func19 ?_;refine Gz 7 ?_;refine Uk aB bH rfl ?_;intro w1 ho1 hs1 hf1;refine Gz 15 ?_;refine TA (β:=Nat×Option Addr×Nat) (fun⟨i,o,c⟩=>[(0,.slice lo ps.length lc),(3,.slice o ((ps.take i).map (nX Z)).length c),(4,iV (((cG (bD (ps.take i))).length:Nat)+1)),(5,iV i)]) (fun⟨i,o,c⟩ w=>i≤ps.length∧bF 10 aM 68 w.heap o c ((ps.take i).map (nX Z))∧Fr W.heap.size o∧aA nob W w) (fun⟨i,o,c⟩=>ps.length-i) ⟨0,some ⟨W.heap.size,0,none⟩,0⟩ ⟨rfl,rfl,rfl,rfl,trivial⟩ ⟨Nat.zero_le _,ho1,fun a ha=>by cases ha;exact Nat.le_refl _,hf1⟩ ?_;rintro⟨i,o,c⟩ w2 ⟨hi,ho2,hfo,hF2⟩;refine fK 6 ?_ ?_<;>intro h12
 ·have hil:i<ps.length:=by omega
  obtain⟨p,hp⟩:∃ p,ps[i]?=some p:=⟨_,List.getElem?_eq_getElem hil⟩
  have hv2:=hv.keep' hF2 (fun _ _ _=>id);have hsl:=FZ (bD (ps.take i));have hil2:(bD (ps.take i)).length=i:=by simp[bD];omega
  refine Gz 1 ?_;refine aW [(0,_),(3,_),(4,_),(5,_),(12,_)] ?_;refine Gz 10 ?_;refine cL (Tv bH rfl rfl hv2.non (by omega)) ?_;refine cL (TI (cs:=aM p) eI rfl (fun j v hj=>hv2.rowZ i rfl hp j v hj)) ?_;refine Tz kT rfl ?_;intro w3 hg3 hs3 hf3;obtain⟨q,hq⟩:∃ q,q=w2.heap.size:=⟨_,rfl⟩
  rw[←hq] at hg3 ⊢;refine TX (vs:=aM p) eI rfl rfl (aB p).2 hg3 rfl ?_;intro w4 hg4 hs4 hf4;have hf24:aA nob w2 w4:=hf3.WO hf4 (fun k e=>.inr (by have e:k=q:=e;omega));refine Gz 5 ?_;refine Tx aI rfl rfl rfl hg4 rfl ?_;intro w5 hg5 hs5 hf5;have hf25:aA nob w2 w5:=hf24.WO hf5 (fun k e=>.inr (by have e:k=q:=e;omega));refine Gz 9 ?_;refine TA (β:=Nat×Int) (fun⟨k,z⟩=>[(0,.slice lo ps.length lc),(3,.slice o ((ps.take i).map (nX Z)).length c),(4,iV (((cG (bD (ps.take i))).length:Nat)+1)),(5,iV i),(6,pT q),(7,iV k)]) (fun⟨k,z⟩ w=>k≤i∧w.heap[q]?=some (.cells (aM (p.1,{ p.2 with ino:=z })).toArray 68 (0,0))∧((p.2.ino∉bD (ps.take k)→z=0)∧(p.2.ino∈bD (ps.take k)→z=oF Z p.2.ino))∧aA nob w2 w) (fun⟨k,z⟩=>i-k) ⟨0,0⟩ ⟨rfl,rfl,rfl,rfl,rfl,rfl,trivial⟩ ⟨Nat.zero_le _,hg5,⟨fun _=>rfl,fun h=>by simp[bD] at h⟩,hf25⟩ ?_;rintro⟨k,z⟩ w6 ⟨hk,hg6,hzc,hF6⟩;refine fK 5 ?_ ?_<;>intro h22
  ·have hki:k<i:=by omega
   obtain⟨r,hr⟩:∃ r,ps[k]?=some r:=⟨_,List.getElem?_eq_getElem (by omega)⟩
   have hv6:=hv2.keep' hF6 (fun _ _ _=>id);have ho6:=ho2.WR hF6;refine Gz 1 ?_;refine aW [(0,_),(3,_),(4,_),(5,_),(6,_),(7,_),(22,_)] ?_;refine Gz 7 ?_;refine TN 11 [0,1,2,3,4,5,6,7,8,9,10] aL (by kernel_rfl) ?_;refine Gz 2 ?_;refine xC rfl (Tv bH rfl rfl hv6.non (by omega)) ?_;refine Gz 1 ?_;refine xC rfl (Tu aI rfl (hv6.rowZ k rfl hr 1 _ rfl)) ?_;refine Gz 2 ?_;refine xC rfl (Tv bH rfl rfl hv6.non (by omega)) ?_;refine Gz 1 ?_;refine xC rfl (Tu aI rfl (hv6.rowZ i rfl hp 1 _ rfl)) ?_;refine xK 0 ?_ ?_<;>intro h35
   ·refine Gz 6 ?_;have hvo:=ho6.vw aB;have hrk:((ps.take i).map (nX Z))[k]?=some (nX Z r):=by rw[List.getElem?_map,List.getElem?_take,if_pos hki,hr];rfl
    refine cL (Tv bH rfl rfl hvo.non (by rw[length_map,length_take];omega)) ?_;refine Gz 1 ?_;refine cL (Tu aI rfl (hvo.rowZ k rfl hrk 1 _ rfl)) ?_;refine Gz 1 ?_;refine Tx aI rfl rfl rfl hg6 rfl ?_;intro w7 hg7 hs7 hf7;have hF7:aA nob w2 w7:=(hF6.draws 1).WO hf7 (fun k e=>.inr (by have e:k=q:=e;omega));refine Gz 8 ?_;refine aG ⟨k+1,oF Z r.2.ino⟩ ⟨by omega,hg7,?_,hF7⟩ (by show i-(k+1)<i-k;omega);rw[h35];exact⟨fun h=>absurd (by rw[rV hr,mem_append];exact .inr (by rw[h35];exact mem_singleton.2 rfl)) h,fun _=>rfl⟩
   refine Gz 11 ?_;refine aG ⟨k+1,z⟩ ⟨by omega,hg6,?_,hF6.draws 1⟩ (by show i-(k+1)<i-k;omega);rw[rV hr,mem_append,mem_singleton];exact⟨fun h=>hzc.1 (fun g=>h (.inl g)),fun h=>h.elim hzc.2 (fun e=>absurd e.symm h35)⟩
  have hke:k=i:=by omega
  subst hke;refine Gz 1 ?_;refine aW [(0,_),(3,_),(4,_),(5,_),(6,_),(7,_),(22,_)] ?_;refine Gz 7 ?_;refine TY (β:=Unit) (fun _u=>[(0,.slice lo ps.length lc),(3,.slice o ((ps.take k).map (nX Z)).length c),(4,iV (((cG (bD (ps.take (k+1)))).length:Nat)+1)),(5,iV k),(6,pT q)]) (fun _u w=>w.heap[q]?=some (.cells (aM (nX Z p)).toArray 68 (0,0))∧aA nob w2 w) ?_ ?_
  ·refine Gz 3 ?_;refine cL (Tw (u:=iV z) (Tu aI rfl (aE hg6 rfl)) rfl) ?_;refine fK 0 ?_ ?_<;>intro h44
   ·have hn:p.2.ino∉bD (ps.take k):=fun h=>by have:=hzc.2 h;have:=C2 Z p.2.ino;omega
    have hzz:oF Z p.2.ino=((cG (bD (ps.take k))).length:Nat)+1:=by rw[hZ,qK hp];exact C3 hn
    refine Gz 7 ?_;refine Tx aI rfl rfl rfl hg6 rfl ?_;intro w8 hg8 hs8 hf8;have hgR:w8.heap[q]?=some (.cells (aM (nX Z p)).toArray 68 (0,0)):=by unfold nX;rw[hzz];exact hg8
    have hF8:aA nob w2 w8:=hF6.WO hf8 (fun k e=>.inr (by have e:k=q:=e;omega));refine Gz 7 ?_;exact T8 () ⟨rfl,rfl,congrArg (fun z:Int=>some (Value.int .i64 z)) (by rw[rV hp,rE hn];omega),rfl,rfl,trivial⟩ ⟨hgR,hF8⟩
   have hin:p.2.ino∈bD (ps.take k):=by
    apply byContradiction;intro hn;exact h44 (hzc.1 hn)
   have hzz:z=oF Z p.2.ino:=hzc.2 hin;refine Gz 4 ?_;exact T8 () ⟨rfl,rfl,congrArg (fun z:Int=>some (Value.int .i64 z)) (by rw[rV hp,rD hin]),rfl,rfl,trivial⟩ ⟨by unfold nX;rw[←hzz];exact hg6,hF6⟩
  rintro _ w8 ⟨hgR,hF8⟩;refine Gz 2 ?_;refine cL (TI (cs:=aM (nX Z p)) eI rfl (cC hgR 0 rfl)) ?_;obtain⟨y,hy⟩:∃ y,y=nX Z p:=⟨_,rfl⟩
  rw[←hy];refine TS bH (cs:=(aM y).toArray) kT rfl rfl rfl (by kernel_rfl) rfl ?_;intro w9 hg9 hs9 hf9;have ho9:bF 10 aM 68 w9.heap (some ⟨w8.heap.size,0,none⟩) 1 [y]:=bL (xs:=[y]) aB (by simpa using hg9) (by show 1≤maxLen;decide);refine TH aB rfl bH rfl rfl ((ho2.WR hF8).WR hf9) (ho9.vw aB) (by simp only[length_singleton,length_map,length_take];omega) (by simp only[length_singleton,length_map,length_take];unfold maxLen;omega) rfl ?_;intro o9 c9 w10 hoA hfA hrA hnA;rw[hy,←Pw hp] at hoA ⊢;have hFA:aA nob W w10:=(hF2.trans (hF8.trans hf9)).WO hfA hfo.step;have hfo9:Fr W.heap.size o9:=cQ hfo hrA (by have:=hF2.size;have:=hF8.size;have:=hf9.size;omega);refine Gz 9 ?_;exact aG ⟨k+1,o9,c9⟩ ⟨by omega,hoA,hfo9,hFA⟩ (by show ps.length-(k+1)<ps.length-k;omega)
 have hie:i=ps.length:=by omega
 subst hie;rw[take_length] at ho2;refine Gz 1 ?_;refine aW [(0,_),(3,_),(4,_),(5,_),(12,_)] ?_;refine Gz 15 ?_;refine⟨_,rfl,o,c,?_,?_,hfo,hF2⟩
 ·rw[take_length,hZ];rfl
 ·unfold C5;rw[←hZ];exact ho2
theorem PH{H:Array Obj}{ps:List (NdH×Nd)}(h:∀ p∈ps,NdV D H p):∀ p∈C5 ps,NdV D H p:=by
 intro p hp;obtain⟨q,hq,rfl⟩:=mem_map.1 hp;exact h q hq
def gD(ps:List (NdH×Nd)):List (NdH×Nd):=C5 (jN ps)
theorem GR{l:List Nd}(h:chk l=0):l.length≤1024:=by
 unfold chk at h;by_cases h1:1024<l.length
 ·rw[if_pos h1] at h;cases h
 ·omega
theorem DM{l:List Nd}(h:chk l=0):plc l=0:=by
 rw[jX] at h;by_cases h1:plc l=0
 ·exact h1
 ·rw[if_pos h1] at h;exact absurd h h1
theorem CX{l:List Nd}(h:plc l=0):nmd l=0:=by
 unfold plc at h;by_cases h0:1024<l.length
 ·rw[if_pos h0] at h;cases h
 · rw[if_neg h0] at h
   by_cases h1:nmd l=0
   ·exact h1
   ·rw[if_pos h1] at h;exact absurd h h1
theorem AX{l:List Nd}(h:chk l=0):¬ dM l:=(wT (CX (DM h))).2.2
theorem HC(lo:Option Addr)(lc:Nat)(ps:List (NdH×Nd))(W:World)(hv:cD D W.heap lo lc ps)(hsm:∀ p∈ps,smN p.2) :
 CA 17 [.slice lo ps.length lc] W fun v w'=>∃ (o:Option Addr) (c:Nat) (qs:List (NdH×Nd)),v=.tuple [.slice o qs.length c,iV (chk (nds ps))].toArray∧qs=(if chk (nds ps)=0 then gD ps else [])∧cD D w'.heap o c qs∧aA nob W w':=by
 have hll:(nds ps).length=ps.length:=by simp
 refine cS 13 [(0,_)] Tryz.func17 ?_;refine cA 9 O8 (tK lo lc ps W hv hsm) ?_;rintro _ w2 ⟨rfl,hf2⟩;refine fK 7 ?_ ?_<;>intro h8
 ·refine Gz 13 ?_;refine⟨_,rfl,none,0,[],rfl,(if_neg h8).symm,⟨⟨Nat.zero_le _,Nat.zero_le _,fun h=>absurd rfl h,fun i x hx=>by simp at hx⟩,by simp⟩,hf2⟩
 have hz:chk (nds ps)=0:=not_not.1 h8;have hlen:=GR hz;have ht:=AX hz;refine Gz 8 ?_;refine Ts Td rfl (Ey lo lc ps w2 (hv.WR hf2) (by omega)) rfl ?_;rintro _ w3 ⟨o3,c3,ys,rfl,ho3,hfo3,hpe,hor,hf3⟩;have hys:=Jc ht hpe hor;have hyl:=hpe.length_eq;have hvy:=ho3.vw aB;refine Ts Te rfl (Js o3 c3 ys w3 hvy (by omega)) rfl ?_;rintro _ w4 ⟨o4,c4,rfl,ho4,hfo4,hf4⟩;refine Gz 6 ?_;have hF:aA nob W w4:=(hf2.trans hf3).trans hf4;refine⟨_,rfl,o4,c4,C5 ys,by rw[hz],by rw[if_pos hz,hys];rfl,⟨ho4.vw aB,PH fun p hp=>(hv.WR hF).2 p (hpe.mem_iff.1 hp)⟩,hF⟩
end
section
open Go Go.RowKit Go.Maps
theorem uK{α:Type}{K j:Nat}{enc:α→List Value}(hk:∀ x,(enc x).length=K)(hj:j<K){v:Value}{x':α}:∀ (xs:List α) (i:Nat) (y:α),xs[i]?=some y→enc x'=(enc y).set j v→(xs.set i x').flatMap enc=(xs.flatMap enc).set (i*K+j) v
|[],i,y,h,_=>by simp at h
|z::r,0,y,h,he=>by
   simp at h;subst h;rw[List.set_cons_zero,flatMap_cons,flatMap_cons,he,List.set_append,if_pos (by rw[hk];omega),Nat.zero_mul,Nat.zero_add]
|z::r,i+1,y,h,he=>by
   have ih:=uK hk hj r i y (by simpa using h) he;have e1:(i+1)*K+j=K+(i*K+j):=by rw[Nat.add_mul];omega
   rw[List.set_cons_succ,flatMap_cons,flatMap_cons,ih,List.set_append,if_neg (by rw[hk];omega),hk,e1,Nat.add_sub_cancel_left]
section
variable {P:Program}{N:Nt}{Q:Exit→Act→World→Prop}{l:SF}{w:World}{ops:Array Oper}{rest:List Oper}{ty:TypeId}{pos:String}{aft:Array Edge}{x y:Operand}{t:TypeId}{v:Value}
theorem VF{α:Type}{K:Nat}{enc:α→List Value}(henc:iF K enc){T:TypeId}{ao:Option Addr}{cap:Nat}{xs:List α}{i j:Nat}{x' x0:α}{ad:Addr}(hi:xs[i]?=some x0)(hj:j<K)(he:enc x'=(enc x0).set j v)
 (ht:fP P t=true)(hx:evL l x=some (.pointer (some ad)))(had:ad=(adr ao (i*K)).add j)(hy:evL l y=some v)(h1:v.oneCell'=true)(ho:bF K enc T w.heap ao cap xs)
 (h:∀ w',bF K enc T w'.heap ao cap (xs.set i x')→w'.heap.size=w.heap.size→aA (blk ao) w w'→Sl P N ops Q rest l w') :
 Sl P N ops Q (⟨none,.store t x y,ty,pos,aft,none⟩::rest) l w:=by
 have hil:=(List.getElem?_eq_some_iff.1 hi).1;rcases ho with⟨rfl,rfl,rfl⟩|⟨g,cur,rfl,hg,g1,g2,g3,g4⟩
 ·simp at hil
 · have hK:xs.length*K≤cap*K:=Nat.mul_le_mul_right K g1
   have hiK:(i+1)*K≤xs.length*K:=Nat.mul_le_mul_right K (by omega);have hlt:i*K+j<cur.toList.length:=by rw[Array.length_toList,g3];rw[Nat.add_mul,Nat.one_mul] at hiK;omega
   have hadr:ad=⟨g,i*K+j,none⟩:=by
    rw[had];show ((⟨g,0,none⟩:Addr).add (i*K)).add j=_;rw[Addr.add_add,Addr.add_lit,Nat.zero_add]
   subst hadr;refine Tx (cur:=cur.toList) ht hx hy h1 (by simpa using hg) (by simpa[Nat.blt_eq] using hlt) (fun w' q1 q2 q3=>h w' ?_ q2 ?_)
   · refine .inr ⟨g,_,rfl,q1,by simpa using g1,g2,by simpa using g3,?_⟩
     rw[length_set,uK (fun x=>(henc x).1) hj xs i x0 hi he,←g4];simp only[List.take_set]
   ·exact q3.mono (fun k e=>⟨⟨g,0,none⟩,rfl,e.symm⟩)
end
theorem KQ(n:Nat):Fr n (some ⟨n,0,none⟩):=fun a ha=>by cases ha;exact Nat.le_refl _
theorem Iq(ao:Option Addr)(c:Nat)(L:List (By×Hd))(W:World)(hv:VwM 2 sC W.heap ao c L)(hl:L.length≤10000) :
 CA 83 [.slice ao L.length c] W fun v w'=>∃ o c',v=.slice o L.length c'∧bF 2 sC 183 w'.heap o c' L∧Fr W.heap.size o∧aA nob W w':=by
 refine cS 8 [(0,_)] Tryz.func83 ?_;refine Gz 9 ?_;refine TZ (TV (Uh jH rfl rfl)) rfl (fun h4=>?_) (fun h4=>?_)
 ·refine Gz 11 ?_;obtain rfl:L=[]:=by
   apply byContradiction;intro hne;have h0:ao=none:=by simpa using h4
   exact hv.non (by have:=List.length_pos_iff.2 hne;omega) h0
  exact⟨_,rfl,none,0,rfl,.inl ⟨rfl,rfl,rfl⟩,Wy,Wt _ _⟩
 refine Gz 7 ?_;refine Uk dK jH rfl ?_;intro w1 ho1 hs1 hf1;refine Gz 1 ?_;refine TH dK rfl jH rfl rfl ho1 (hv.keep' hf1 (fun _ _ _=>id)) (by simp only[length_nil];omega) (by simp only[length_nil];unfold maxLen;omega) rfl ?_;intro o2 c2 w2 ho2 hf2 hr2 hn2;rw[nil_append] at ho2 ⊢;refine Gz 5 ?_;exact⟨_,rfl,o2,c2,rfl,ho2,cQ (KQ _) hr2 hf1.size,hf1.WO hf2 (KQ _).step⟩
end
theorem oJ(x:Int):(i64 x).oneCell'=true:=rfl
section
variable {K:Int→List (List UInt8)}
def ltS(K:Int→List By)(x y:Int):Prop:=eH (K x) (K y)<0∨(eH (K x) (K y)=0∧x<y)
theorem tP{x y z:Int}(h1:ltS K x y)(h2:ltS K y z):ltS K x z:=by
 rcases h1 with h1|⟨h1,g1⟩
 · rcases h2 with h2|⟨h2,g2⟩
   ·exact .inl (qQ h1 h2)
   ·rw[mM h2] at h1;exact .inl h1
 · rcases h2 with h2|⟨h2,g2⟩
   ·rw[←mM h1] at h2;exact .inl h2
   ·exact .inr ⟨by rw[mM h1,h2],by omega⟩
theorem OR{x y:Int}(hxy:x<y)(h:¬ eH (K y) (K x)<0):ltS K x y:=by
 have:=yH (K y) (K x);by_cases e:eH (K x) (K y)=0
 ·exact .inr ⟨e,hxy⟩
 ·exact .inl (by omega)
end
def Srt(K:Int→List By)(xs:List Int)(a b:Nat):Prop:=∀ i j:Nat,a≤i→i<j→j<b→ltS K (xs.getD i 0) (xs.getD j 0)
theorem O0{xs:List Int}{k:Nat}(h:k<xs.length):xs.getD k 0∈xs:=by
 have:xs.getD k 0=xs[k]:=by simp[List.getD,h]
 rw[this];exact List.getElem_mem h
section
open Go Go.RowKit Go.Maps
variable {D:Nat→Prop}
def jI(ps:List (NdH×Nd))(z:Int):Int:=(ps.countP (fun p=>decide (p.2.ino=z)):Nat)
theorem Pd{ps:List (NdH×Nd)}{i:Nat}{p:NdH×Nd}(hp:ps[i]?=some p)(z:Int):jI (ps.take (i+1)) z=jI (ps.take i) z+if p.2.ino=z then 1 else 0:=by
 unfold jI;rw[tkL hp,List.countP_append,List.countP_singleton];by_cases h:p.2.ino=z
 ·simp[h]
 ·simp[h]
theorem Lq(ps:List (NdH×Nd))(z:Int):0≤jI ps z∧jI ps z≤ps.length:=by
 unfold jI;have:=List.countP_le_length (p:=fun p:NdH×Nd=>decide (p.2.ino=z)) (l:=ps);omega
def wZ(ps:List (NdH×Nd))(i:Int):Int:=if 0≤i∧i<ps.length then jI ps (ps.getD i.toNat (Bx,nd0)).2.ino else 0
theorem Ge{ps:List (NdH×Nd)}{i:Int}{q:NdH×Nd}(h:0≤i∧i<ps.length)(hq:ps[i.toNat]?=some q):wZ ps i=jI ps q.2.ino:=by
 unfold wZ;rw[if_pos h,List.getD,hq];rfl
theorem wY{ps:List (NdH×Nd)}{i:Int}(h:¬ (0≤i∧i<ps.length)):wZ ps i=0:=by unfold wZ;rw[if_neg h]
theorem Ho(lo:Option Addr)(lc:Nat)(ps:List (NdH×Nd))(i:Int)(W:World)(hv:cD D W.heap lo lc ps) :
 CA 58 [.slice lo ps.length lc,iV i] W fun v w'=>v=iV (wZ ps i)∧aA nob W w':=by
 have h63:=hv.1.WQ;obtain⟨Z,hZ⟩:∃ Z,Z=(ps.getD i.toNat (Bx,nd0)).2.ino:=⟨_,rfl⟩
 refine cS 37 [(0,_),(1,_)] Tryz.func58 ?_;refine Gz 17 ?_;refine TA (β:=Nat) (fun k=>[(0,.slice lo ps.length lc),(1,iV i),(5,iV (jI (ps.take k) Z)),(6,iV k)]) (fun k w=>k≤ps.length∧(0<k→0≤i∧i<ps.length)∧aA nob W w) (fun k=>ps.length-k) 0 ⟨rfl,rfl,rfl,rfl,trivial⟩ ⟨Nat.zero_le _,fun h=>by omega,Wt _ _⟩ ?_;rintro k w2 ⟨hk,hki,hF2⟩;refine fK 6 ?_ ?_<;>intro h10
 ·refine fW 2 ?_ ?_<;>intro h13
  ·refine fW 5 ?_ ?_<;>intro h19
   ·have hin:0≤i∧i<ps.length:=by omega
    obtain⟨q,hq⟩:∃ q,ps[i.toNat]?=some q:=⟨_,List.getElem?_eq_getElem (by omega)⟩
    have hqZ:q.2.ino=Z:=by rw[hZ,List.getD,hq];rfl
    have hkl:k<ps.length:=by omega
    obtain⟨p,hp⟩:∃ p,ps[k]?=some p:=⟨_,List.getElem?_eq_getElem hkl⟩
    have hv2:=hv.WR hF2;have hct:=Pd hp Z;have hcl:=Lq (ps.take k) Z;have hctl:(ps.take k).length≤k:=by rw[length_take];omega
    refine Gz 6 ?_;refine TY (β:=Unit) (fun _u=>[(0,.slice lo ps.length lc),(1,iV i),(5,iV (jI (ps.take (k+1)) Z)),(6,iV k)]) (fun _u w=>aA nob W w) ?_ ?_
    ·refine Gz 2 ?_;refine TN 11 [0,1,2,3,4,5,6,7,8,9,10] aL (by kernel_rfl) ?_;refine Gz 2 ?_;refine xC rfl (Tv bH rfl rfl hv2.1.non (by omega)) ?_;refine Gz 1 ?_;refine xC rfl (Tu aI rfl (hv2.1.rowZ k rfl hp 1 _ rfl)) ?_;refine Gz 2 ?_;refine xC rfl (Tv bH rfl rfl hv2.1.non (by omega)) ?_;refine Gz 1 ?_;refine xC rfl (Tu aI rfl (hv2.1.rowZ i.toNat (by omega) hq 1 _ rfl)) ?_;refine xK 0 ?_ ?_<;>intro h33
     ·refine Gz 9 ?_;exact T8 () ⟨rfl,rfl,congrArg (fun z:Int=>some (Value.int .i64 z)) (by rw[hct,if_pos (by rw[←hqZ];exact h33)]),rfl,trivial⟩ (hF2.draws 1)
     refine Gz 5 ?_;exact T8 () ⟨rfl,rfl,congrArg (fun z:Int=>some (Value.int .i64 z)) (by rw[hct,if_neg (by rw[←hqZ];exact h33),Int.add_zero]),rfl,trivial⟩ (hF2.draws 1)
    rintro _ w5 hF5;refine Gz 5 ?_;exact aG (k+1) ⟨by omega,fun _=>hin,hF5⟩ (by show ps.length-(k+1)<ps.length-k;omega)
   refine Gz 17 ?_;refine⟨_,rfl,congrArg _ ?_,hF2⟩;by_cases hin:0≤i∧i<ps.length
   · have hke:k=ps.length:=by omega
     subst hke;unfold wZ;rw[if_pos hin,take_length,hZ]
   · have hk0:k=0:=by
      rcases Nat.eq_zero_or_pos k with h|h
      ·exact h
      ·exact absurd (hki h) hin
     subst hk0;rw[wY hin];rfl
  refine Gz 23 ?_;refine⟨_,rfl,congrArg _ ?_,hF2⟩;by_cases hin:0≤i∧i<ps.length
  · have hke:k=ps.length:=by omega
    subst hke;unfold wZ;rw[if_pos hin,take_length,hZ]
  · have hk0:k=0:=by
     rcases Nat.eq_zero_or_pos k with h|h
     ·exact h
     ·exact absurd (hki h) hin
    subst hk0;rw[wY hin];rfl
 refine Gz 26 ?_;refine⟨_,rfl,congrArg _ ?_,hF2⟩;by_cases hin:0≤i∧i<ps.length
 · have hke:k=ps.length:=by omega
   subst hke;unfold wZ;rw[if_pos hin,take_length,hZ]
 · have hk0:k=0:=by
    rcases Nat.eq_zero_or_pos k with h|h
    ·exact h
    ·exact absurd (hki h) hin
   subst hk0;rw[wY hin];rfl
end
section
open Go Go.RowKit Go.Maps
def nmG(ps:List (NdH×Nd))(k:Nat):List By:=(ps.getD k (Bx,nd0)).2.names
theorem qE{ps:List (NdH×Nd)}{k:Nat}{p:NdH×Nd}(h:ps[k]?=some p):nmG ps k=p.2.names:=by unfold nmG;rw[List.getD,h];rfl
def kV(l s:List By):Prop:=l.length=s.length+1∧l.take s.length=s
instance (l s:List By):Decidable (kV l s):=by unfold kV;exact inferInstance
def bN(ps:List (NdH×Nd))(s:List By):Nat→List Int
|0=>[]
|i+1=>if kV (nmG ps i) s then bN ps s i++[(i:Int)] else bN ps s i
section
variable {ps:List (NdH×Nd)}{s:List (List UInt8)}
theorem rQ{i:Nat}(h:kV (nmG ps i) s):bN ps s (i+1)=bN ps s i++[(i:Int)]:=by rw[bN,if_pos h]
theorem rR{i:Nat}(h:¬ kV (nmG ps i) s):bN ps s (i+1)=bN ps s i:=by rw[bN,if_neg h]
theorem eX{z:Int}:∀ {i:Nat},z∈bN ps s i↔∃ k:Nat,z=k∧k<i∧kV (nmG ps k) s
|0=>⟨fun h=>(by simp[bN] at h),fun⟨k,_,h,_⟩=>(by omega)⟩
|i+1=>by
   by_cases h:kV (nmG ps i) s
   · rw[rQ h,mem_append,mem_singleton,eX (i:=i)]
     constructor
     · rintro(⟨k,h1,h2,h3⟩|h1)
       ·exact⟨k,h1,by omega,h3⟩
       ·exact⟨i,h1,by omega,h⟩
     · rintro⟨k,h1,h2,h3⟩
       by_cases e:k=i
       ·exact .inr (by rw[h1,e])
       ·exact .inl ⟨k,h1,by omega,h3⟩
   · rw[rR h,eX (i:=i)]
     constructor
     ·rintro⟨k,h1,h2,h3⟩;exact⟨k,h1,by omega,h3⟩
     · rintro⟨k,h1,h2,h3⟩
       by_cases e:k=i
       ·exact absurd (e ▸ h3) h
       ·exact⟨k,h1,by omega,h3⟩
theorem mH:∀ i:Nat,(bN ps s i).Pairwise (· < ·)
|0=>List.Pairwise.nil
|i+1=>by
   by_cases h:kV (nmG ps i) s
   · rw[rQ h,pairwise_append]
     refine⟨mH i,by simp,fun a ha b hb=>?_⟩;obtain⟨k,e,hk,_⟩:=eX.1 ha;rw[mem_singleton] at hb;subst hb;omega
   ·rw[rR h];exact mH i
theorem xI:∀ i:Nat,(bN ps s i).length≤i
|0=>Nat.le_refl _
|i+1=>by
   have:=xI i;by_cases h:kV (nmG ps i) s
   ·rw[rQ h,length_append,length_singleton];omega
   ·rw[rR h];omega
end
theorem Gx{xs:List Int}{k:Nat}(h:k<xs.length):xs.getD k 0=xs[k]:=by simp[List.getD,h]
section
variable {K:Int→List (List UInt8)}
theorem Jd{xs:List Int}(h:Srt K xs 0 xs.length):xs.Pairwise (ltS K):=pairwise_iff_getElem.2 fun i j hi hj hij=>by
 have:=h i j (Nat.zero_le _) hij hj;rwa[Gx hi,Gx hj] at this
theorem MO{x:Int}(h:ltS K x x):False:=by
 rcases h with h|⟨_,h⟩
 ·rw[pG] at h;omega
 ·omega
theorem MP{x y:Int}(h:ltS K x y)(g:ltS K y x):False:=MO (tP h g)
theorem F6:∀ {xs ys:List Int},xs.Perm ys→xs.Pairwise (ltS K)→ys.Pairwise (ltS K)→xs=ys
|[],ys,hp,_,_=>by rw[List.nil_perm] at hp;exact hp.symm
|x::xs,[],hp,_,_=>by have:=hp.length_eq;simp at this
|x::xs,y::ys,hp,hx,hy=>by
   have h1:=pairwise_cons.1 hx;have h2:=pairwise_cons.1 hy;have e:x=y:=by
    apply byContradiction;intro hne;have hxm:x∈ys:=by
     have:=hp.mem_iff.1 (show x∈x::xs by simp);rcases mem_cons.1 this with e|h
     ·exact absurd e hne
     ·exact h
    have hym:y∈xs:=by
     have:=hp.mem_iff.2 (show y∈y::ys by simp);rcases mem_cons.1 this with e|h
     ·exact absurd e.symm hne
     ·exact h
    exact MP (h1.1 y hym) (h2.1 x hxm)
   subst e;rw[F6 (List.Perm.cons_inv hp) h1.2 h2.2]
theorem Kt{xs ys:List Int}(hp:xs.Perm ys)(hx:Srt K xs 0 xs.length)(hy:Srt K ys 0 ys.length):xs=ys:=F6 hp (Jd hx) (Jd hy)
end
theorem zK{a b:Nat}(ha:a≤9223372036854775807)(hb:b≤9223372036854775807):((a:Int)=IntKind.i64.wrap ((b:Int)+1))↔a=b+1:=by
 by_cases h:b=9223372036854775807
 · subst h
   have e:IntKind.i64.wrap (((9223372036854775807:Nat):Int)+1) = -9223372036854775808:=by unfold IntKind.wrap;simp[IntKind.bits,IntKind.signed]
   rw[e];omega
 ·rw[bG (by omega)];omega
def A7(ps:List (NdH×Nd))(s:List By)(ys:List Int):Prop:=ys.Perm (bN ps s ps.length)∧Srt (fun z=>nmG ps z.toNat) ys 0 ys.length
theorem A7.uniq{ps:List (NdH×Nd)}{s:List By}{xs ys:List Int}(h:A7 ps s xs)(g:A7 ps s ys):xs=ys:=Kt (h.1.trans g.1.symm) h.2 g.2
def aQ(l:List By):By:=l.getD (l.length-1) []
theorem BE{a b s:List By}(ha:kV a s)(hb:kV b s):eH a b=Ns (aQ a) (aQ b):=by
 have e:∀ {l:List By},kV l s→l=s++[aQ l]:=fun {l} h=>by
  have h1:l[s.length]?=some (aQ l):=by
   unfold aQ;rw[h.1,List.getD,Nat.add_sub_cancel,List.getElem?_eq_getElem (by have:=h.1;omega)];rfl
  have h2:=tkL h1;rw[h.2,take_of_length_le (by have:=h.1;omega)] at h2;exact h2
 conv=>lhs;rw[e ha,e hb]
 rw[yI];show (if aQ a=aQ b then eH [] [] else if Op.bytesLess (aQ a) (aQ b)=true then -1 else 1)=_;unfold Ns;by_cases h1:Op.bytesLess (aQ a) (aQ b)=true
 ·rw[if_pos h1,if_neg (fun h=>by rw[h,mN] at h1;cases h1),if_pos h1]
 · rw[if_neg h1]
   by_cases h2:aQ a=aQ b
   ·rw[if_pos h2,if_pos h2,if_neg h1];rfl
   ·rw[if_neg h2,if_neg h2,if_neg h1]
theorem BS{a b:By}:Ns a b<0↔Op.bytesLess a b=true:=by
 unfold Ns;by_cases h1:Op.bytesLess a b=true
 ·rw[if_pos h1];simp[h1]
 · rw[if_neg h1]
   by_cases h2:a=b
   ·rw[if_pos h2];simp[h1]
   ·rw[if_neg h2];simp[h1]
variable {D:Nat→Prop}
theorem Gk(o:Option Addr)(c:Nat)(a:List By)(W:World)(ha:Vw lJ W.heap o c a)(hne:a≠[]) :
 CA 103 [.slice o a.length c] W fun v w'=>v=.string (bs (aQ a))∧aA nob W w':=by
 have h63:=ha.WQ;have h0:0<a.length:=by rcases a with _|⟨x,r⟩;exact absurd rfl hne;simp
 refine cS 9 [(0,_)] Tryz.func103 ?_;refine Gz 11 ?_;refine cL (Tt jO rfl rfl ha.non (by omega)) ?_;refine cL (Tw (u:=.string (bs (aQ a))) (Tu gU rfl (ha.gz [] (a.length-1) (by omega) (by omega))) rfl) ?_;refine Gz 5 ?_;exact⟨_,rfl,rfl,Wt _ _⟩
end
section
open Go Go.RowKit Go.Maps
def stl(ys:List Int)(i:Int)(k:Nat):List Int:=ys.take k++(if k=ys.length then i else ys.getD k 0)::ys.drop k
section
variable {ys:List Int}{i:Int}{k:Nat}
theorem iW(hk:k≤ys.length):(stl ys i k).length=ys.length+1:=by unfold stl;simp;omega
theorem L2:stl ys i ys.length=ys++[i]:=by unfold stl;rw[if_pos rfl];simp
theorem FW{j:Nat}(hk:k≤ys.length)(hj:j<k):(stl ys i k).getD j 0=ys.getD j 0:=by
 unfold stl;rw[List.getD,List.getD,List.getElem?_append_left (by rw[length_take];omega),List.getElem?_take,if_pos hj];rfl
theorem El(hk:k≤ys.length){u:Int}:(stl ys i k).set k u=ys.take k++u::ys.drop k:=by
 unfold stl;rw[List.set_append_right _ _ (by rw[length_take];omega)];rw[length_take,show k-min k ys.length=0 by omega];rfl
theorem Jb(hk:k≤ys.length)(h0:0<k):(stl ys i k).set k (ys.getD (k-1) 0)=stl ys i (k-1):=by
 rw[El hk];have h1:ys[k-1]?=some (ys.getD (k-1) 0):=by rw[List.getD,List.getElem?_eq_getElem (by omega)];rfl
 have h2:=tkL h1;have h3:=sG h1;rw[show k-1+1=k by omega] at h2 h3;unfold stl;rw[if_neg (by omega),h2,h3];simp
end
def KF(ps:List (NdH×Nd))(z:Int):List By:=nmG ps z.toNat
theorem vF{ps:List (NdH×Nd)}{s:List By}{ys:List Int}{i k:Nat}(hp:ys.Perm (bN ps s i))(hs:ys.Pairwise (ltS (KF ps)))(hk:k≤ys.length)(hi:kV (nmG ps i) s)
 (h1:∀ j,k≤j→j<ys.length→Op.bytesLess (aQ (nmG ps i)) (aQ (nmG ps (ys.getD j 0).toNat))=true)(h2:0<k→¬ Op.bytesLess (aQ (nmG ps i)) (aQ (nmG ps (ys.getD (k-1) 0).toNat))=true) :
 (ys.take k++(i:Int)::ys.drop k).Perm (bN ps s (i+1))∧(ys.take k++(i:Int)::ys.drop k).Pairwise (ltS (KF ps)):=by
 have hm:∀ {j:Nat} {x:Int},ys[j]?=some x→0≤x∧x<i∧kV (nmG ps x.toNat) s:=fun hx=>by
  obtain⟨q,e,hq,hk⟩:=eX.1 (hp.mem_iff.1 (mem_of_getElem? hx));subst e;exact⟨by omega,by omega,hk⟩
 have hg:∀ {j:Nat} {x:Int},ys[j]?=some x→ys.getD j 0=x:=fun hx=>by rw[List.getD,hx];rfl
 have hB:∀ (j:Nat) (x:Int),k≤j→ys[j]?=some x→ltS (KF ps) i x:=fun j x hj hx=>by
  have h:=h1 j hj (List.getElem?_eq_some_iff.1 hx).1;rw[hg hx] at h;exact .inl (by show eH (nmG ps ((i:Int).toNat)) (nmG ps x.toNat)<0;rw[Int.toNat_natCast,BE hi (hm hx).2.2];exact BS.2 h)
 have hA:∀ (j:Nat) (x:Int),j<k→ys[j]?=some x→ltS (KF ps) x i:=fun j x hj hx=>by
  obtain⟨y,hy⟩:∃ y,ys[k-1]?=some y:=⟨_,List.getElem?_eq_getElem (by omega)⟩
  have h:=h2 (by omega);rw[hg hy] at h;have hl:ltS (KF ps) y i:=OR (hm hy).2.1 (by show ¬ eH (nmG ps ((i:Int).toNat)) (nmG ps y.toNat)<0;rw[Int.toNat_natCast,BE hi (hm hy).2.2];exact fun g=>h (BS.1 g));by_cases e:j=k-1
  ·subst e;rw[hx] at hy;cases hy;exact hl
  · have e1:=List.getElem?_eq_some_iff.1 hx
    have e2:=List.getElem?_eq_some_iff.1 hy;have:=pairwise_iff_getElem.1 hs j (k-1) e1.1 e2.1 (by omega);rw[e1.2,e2.2] at this;exact tP this hl
 constructor
 ·rw[rQ hi];exact rS hp
 · rw[pairwise_append,pairwise_cons]
   have hd:∀ x∈ys.drop k,∃ j,k≤j∧ys[j]?=some x:=fun x hx=>by
    obtain⟨j,hj⟩:=List.getElem?_of_mem hx;rw[List.getElem?_drop] at hj;exact⟨k+j,by omega,hj⟩
   have ht:∀ x∈ys.take k,∃ j,j<k∧ys[j]?=some x:=fun x hx=>by
    obtain⟨j,hj⟩:=List.getElem?_of_mem hx;rw[List.getElem?_take] at hj
    split at hj
    ·exact⟨j,by assumption,hj⟩
    ·cases hj
   refine⟨hs.sublist (List.take_sublist _ _),⟨fun x hx=>?_,hs.sublist (List.drop_sublist _ _)⟩,fun x hx y hy=>?_⟩
   ·obtain⟨j,hj,e⟩:=hd x hx;exact hB j x hj e
   · obtain⟨j,hj,e⟩:=ht x hx
     rcases mem_cons.1 hy with rfl|hy
     ·exact hA j x hj e
     · obtain⟨j2,hj2,e'⟩:=hd y hy
       exact tP (hA j x hj e) (hB j2 y hj2 e')
theorem JQ{K:Int→List By}{xs:List Int}(h:xs.Pairwise (ltS K)):Srt K xs 0 xs.length:=fun i j _ hij hj=>by
 rw[Gx (by omega),Gx hj];exact pairwise_iff_getElem.1 h i j (by omega) hj hij
variable {D:Nat→Prop}
theorem Jz(lo:Option Addr)(lc:Nat)(ps:List (NdH×Nd))(so:Option Addr)(sc:Nat)(s:List By)(W:World)(hv:cD D W.heap lo lc ps)(hs:Vw lJ W.heap so sc s)(hn:ps.length≤100000) :
 CA 55 [.slice lo ps.length lc,.slice so s.length sc] W fun v w'=>∃ o c ys,v=.slice o (List.length (α:=Int) ys) c∧Own i64 3 w'.heap o c ys∧Fr W.heap.size o∧A7 ps s ys∧aA nob W w':=by
 have hs63:s.length≤9223372036854775807:=by have:=hs.WQ;omega
 refine cS 74 [(0,_),(1,_)] Tryz.func55 ?_;refine Gz 7 ?_;refine T2 i64 bP rfl ?_;intro w1 ho1 hs1 hf1;refine Gz 10 ?_;refine TA (β:=Nat×Option Addr×Nat×List Int) (fun⟨i,o,c,ys⟩=>[(0,.slice lo ps.length lc),(1,.slice so s.length sc),(5,.slice o ys.length c),(6,iV i)]) (fun⟨i,o,c,ys⟩ w=>i≤ps.length∧Own i64 3 w.heap o c ys∧Fr W.heap.size o∧ys.Perm (bN ps s i)∧ys.Pairwise (ltS (KF ps))∧aA nob W w) (fun⟨i,o,c,ys⟩=>ps.length-i) ⟨0,some ⟨W.heap.size,0,none⟩,0,[]⟩ ⟨rfl,rfl,rfl,rfl,trivial⟩ ⟨Nat.zero_le _,ho1,fun a ha=>by cases ha;exact Nat.le_refl _,List.Perm.refl _,List.Pairwise.nil,hf1⟩ ?_;rintro⟨i,o,c,ys⟩ w2 ⟨hi,ho2,hfo,hyp,hyw,hF2⟩;refine fK 6 ?_ ?_<;>intro h13
 ·have hil:i<ps.length:=by omega
  obtain⟨p,hp⟩:∃ p,ps[i]?=some p:=⟨_,List.getElem?_eq_getElem hil⟩
  have hv2:=hv.WR hF2;have hs2:=hs.WR hF2;have hll:=xI (ps:=ps) (s:=s) i;have hyl:=hyp.length_eq;have hnm:=qE hp;have hn2:=(hv2.2 p (mem_of_getElem? hp)).1;have hpl:p.2.names.length≤9223372036854775807:=by have:=hn2.2.1.WQ;omega
  refine Gz 11 ?_;refine cL (Tv bH rfl rfl hv2.1.non (by omega)) ?_;refine Gz 1 ?_;refine cL (Tw (u:=.slice p.1.names.a p.2.names.length p.1.names.c) (Tu kI rfl (hv2.1.rowZ i rfl hp 0 _ rfl)) (by rw[←hn2.1];rfl)) ?_;refine Gz 10 ?_;refine cL (Vv rfl rfl) ?_;refine fK 0 ?_ ?_<;>intro h26
  ·have hkd:¬ kV (nmG ps i) s:=by rw[hnm];exact fun h=>h26 ((zK hpl hs63).2 h.1)
   refine Gz 21 ?_;exact aG ⟨i+1,o,c,ys⟩ ⟨by omega,ho2,hfo,by rw[rR hkd];exact hyp,hyw,hF2⟩ (by show ps.length-(i+1)<ps.length-i;omega)
  have hpe:p.2.names.length=s.length+1:=(zK hpl hs63).1 (Decidable.not_not.1 h26);refine Gz 4 ?_;refine cW (Tw (u:=.slice p.1.names.a (p.2.names.take s.length).length p.1.names.c) (TP jO rfl rfl (by have:=hn2.2.1.le;omega)) (by rw[aU,length_take];congr 1;omega)) ?_;refine Gz 1 ?_;refine TJ rfl rfl PR rfl (CF p.1.names.a so p.1.names.c sc (p.2.names.take s.length) s w2 (hn2.2.1.take _) hs2) rfl ?_;rintro _ w3 ⟨rfl,hf3⟩;by_cases h33:p.2.names.take s.length=s
  ·rw[decide_eq_true h33];have hkd:kV (nmG ps i) s:=by rw[hnm];exact⟨hpe,h33⟩
   refine cW (T0 rfl) ?_;refine Gz 17 ?_;refine T3 (enc:=i64) (u:=(i:Int)) bP (oJ _) rfl rfl ?_;intro w4 ho4 hs4 hf4;refine TB oJ bP rfl rfl ((ho2.WR hf3).WR hf4) ho4.vw (by simp only[length_singleton];omega) (by simp only[length_singleton];unfold maxLen;omega) rfl ?_;intro o7 c7 w7 ho7 hf7 hr7 hn7;have hF7:aA nob W w7:=(hF2.trans (hf3.trans hf4)).WO hf7 hfo.step;have hfo7:Fr W.heap.size o7:=cQ hfo hr7 (by have:=hF2.size;have:=hf3.size;have:=hf4.size;omega);refine Gz 5 ?_;refine TA (β:=Nat) (fun k=>[(0,.slice lo ps.length lc),(1,.slice so s.length sc),(5,.slice o7 (ys++[(i:Int)]).length c7),(6,iV i),(7,.slice p.1.names.a p.2.names.length p.1.names.c),(8,iV k)]) (fun k w=>k≤ys.length∧Own i64 3 w.heap o7 c7 (stl ys i k)∧(∀ j,k≤j→j<ys.length→Op.bytesLess (aQ (nmG ps i)) (aQ (nmG ps (ys.getD j 0).toNat))=true)∧aA nob W w) (fun k=>k) ys.length ⟨rfl,rfl,rfl,rfl,rfl,rfl,trivial⟩ ⟨Nat.le_refl _,by rw[L2];exact ho7,fun j h1 h2=>by omega,hF7⟩ ?_;rintro k w8 ⟨hk,ho8,hj8,hF8⟩;refine fK 4 ?_ ?_<;>intro h43
   ·have hk0:0<k:=by omega
    obtain⟨z,hz⟩:∃ z,z=ys.getD (k-1) 0:=⟨_,rfl⟩
    have hzm:z∈ys:=by rw[hz];exact O0 (by omega)
    obtain⟨zk,hze,hzi,hzq⟩:=eX.1 (hyp.mem_iff.1 hzm);have hzl:0≤z∧z<ps.length:=by omega
    obtain⟨q,hq⟩:∃ q,ps[z.toNat]?=some q:=⟨_,List.getElem?_eq_getElem (by omega)⟩
    have hv8:=hv.WR hF8;have hnq:=(hv8.2 q (mem_of_getElem? hq)).1;have hnp:=(hv8.2 p (mem_of_getElem? hp)).1;have hqk:kV q.2.names s:=by rw[hze,Int.toNat_natCast] at hq;rw[qE hq] at hzq;exact hzq
    have hqe:q.2.names≠[]:=fun e=>by have:=hqk.1;rw[e] at this;simp at this
    have hpe2:p.2.names≠[]:=fun e=>by rw[e] at hpe;simp at hpe
    refine Gz 5 ?_;refine cW (Tt bP rfl rfl (fun _=>ho8.vw.non (by rw[iW hk];omega)) (by simp only[length_append,length_singleton];omega)) ?_;refine cW (Tw (u:=iV z) (Tu aI rfl (ho8.vw.gz 0 (k-1) (by omega) (by rw[iW hk];omega))) (by rw[FW hk (by omega),←hz];rfl)) ?_;refine cW (Tv bH rfl rfl hv8.1.non (by omega)) ?_;refine Gz 1 ?_;refine cW (Tw (u:=.slice q.1.names.a q.2.names.length q.1.names.c) (Tu kI rfl (hv8.1.rowZ z.toNat (by omega) hq 0 _ rfl)) (by rw[←hnq.1];rfl)) ?_;refine TJ rfl rfl Ob rfl (Gk q.1.names.a q.1.names.c q.2.names w8 hnq.2.1 hqe) rfl ?_;rintro _ w9 ⟨rfl,hf9⟩;refine Gz 1 ?_;refine TJ rfl rfl Ob rfl (Gk p.1.names.a p.1.names.c p.2.names w9 (hnp.2.1.WR hf9) hpe2) rfl ?_;rintro _ wA ⟨rfl,hfA⟩;have hFA:=hF8.trans (hf9.trans hfA);have hoA:=(ho8.WR hf9).WR hfA;refine T5 rfl rfl (TV (Vf rfl rfl)) rfl (fun h57=>?_) (fun h57=>?_)
    ·rw[jB] at h57
     replace h57:Op.bytesLess (aQ (nmG ps i)) (aQ (nmG ps z.toNat))=true:=by rw[hnm,qE hq];simpa using h57
     refine Gz 14 ?_;refine cL (Tt bP rfl rfl (fun _=>hoA.vw.non (by rw[iW hk];omega)) (by simp only[length_append,length_singleton];omega)) ?_;refine cL (Tw (u:=iV z) (Tu aI rfl (hoA.vw.gz 0 (k-1) (by omega) (by rw[iW hk];omega))) (by rw[FW hk (by omega),←hz];rfl)) ?_;refine cL (Tt bP rfl rfl (fun _=>hoA.vw.non (by rw[iW hk];omega)) (by simp only[length_append,length_singleton];omega)) ?_;refine T7 oJ aI (z:=(k:Int)) (u:=z) rfl rfl hoA (by rw[iW hk];omega) ?_;intro wB hoB hsB hfB;rw[Int.toNat_natCast,hz,Jb hk hk0] at hoB;refine Gz 8 ?_;have hj9:∀ j,k-1≤j→j<ys.length→Op.bytesLess (aQ (nmG ps i)) (aQ (nmG ps (ys.getD j 0).toNat))=true:=fun j h1 h2=>by
      by_cases e:j=k-1
      ·rw[e,←hz];exact h57
      ·exact hj8 j (by omega) h2
     exact TO (k-1) ⟨rfl,rfl,rfl,rfl,rfl,congrArg (fun z:Int=>some (Value.int .i64 z)) (by omega),trivial⟩ ⟨by omega,hoB,hj9,hFA.WO hfB hfo7.step⟩ (by show k-1<k;omega)
    rw[jB] at h57
    replace h57:¬ Op.bytesLess (aQ (nmG ps i)) (aQ (nmG ps z.toNat))=true:=by rw[hnm,qE hq];simpa using h57
    have hoX:=hoA;have hFX:=hFA;have hend:0<k→¬ Op.bytesLess (aQ (nmG ps i)) (aQ (nmG ps (ys.getD (k-1) 0).toNat))=true:=fun _=>by rw[←hz];exact h57
    refine Gz 13 ?_;refine cL (Tt bP rfl rfl (fun _=>hoX.vw.non (by rw[iW hk];omega)) (by simp only[length_append,length_singleton];omega)) ?_;refine T7 oJ aI (z:=(k:Int)) (u:=(i:Int)) rfl rfl hoX (by rw[iW hk];omega) ?_;intro wC hoC hsC hfC;rw[Int.toNat_natCast,El hk] at hoC;refine Gz 8 ?_;exact TO ⟨i+1,o7,c7,ys.take k++(i:Int)::ys.drop k⟩ ⟨rfl,rfl,congrArg (fun n=>some (Value.slice o7 n c7)) (by simp;omega),rfl,trivial⟩ ⟨by omega,hoC,hfo7,(vF hyp hyw hk hkd hj8 hend).1,(vF hyp hyw hk hkd hj8 hend).2,hFX.WO hfC hfo7.step⟩ (by show ps.length-(i+1)<ps.length-i;omega)
   have hoX:=ho8;have hFX:=hF8;have hend:0<k→¬ Op.bytesLess (aQ (nmG ps i)) (aQ (nmG ps (ys.getD (k-1) 0).toNat))=true:=fun h=>by omega
   refine Gz 27 ?_;refine cL (Tt bP rfl rfl (fun _=>hoX.vw.non (by rw[iW hk];omega)) (by simp only[length_append,length_singleton];omega)) ?_;refine T7 oJ aI (z:=(k:Int)) (u:=(i:Int)) rfl rfl hoX (by rw[iW hk];omega) ?_;intro wC hoC hsC hfC;rw[Int.toNat_natCast,El hk] at hoC;refine Gz 8 ?_;exact TO ⟨i+1,o7,c7,ys.take k++(i:Int)::ys.drop k⟩ ⟨rfl,rfl,congrArg (fun n=>some (Value.slice o7 n c7)) (by simp;omega),rfl,trivial⟩ ⟨by omega,hoC,hfo7,(vF hyp hyw hk hkd hj8 hend).1,(vF hyp hyw hk hkd hj8 hend).2,hFX.WO hfC hfo7.step⟩ (by show ps.length-(i+1)<ps.length-i;omega)
  rw[decide_eq_false h33];have hkd:¬ kV (nmG ps i) s:=by rw[hnm];exact fun h=>h33 h.2
  refine cW (T0 rfl) ?_;refine Gz 13 ?_;exact aG ⟨i+1,o,c,ys⟩ ⟨by omega,ho2.WR hf3,hfo,by rw[rR hkd];exact hyp,hyw,hF2.trans hf3⟩ (by show ps.length-(i+1)<ps.length-i;omega)
 have hie:i=ps.length:=by omega
 subst hie;refine Gz 16 ?_;exact⟨_,rfl,o,c,ys,rfl,ho2,hfo,⟨hyp,JQ hyw⟩,hF2⟩
end
section
open Go Go.RowKit Go.Maps
def pL(ps:List (NdH×Nd)):List Int:=ps.flatMap fun p=>[p.2.ud,p.2.gd]
def zJ(ps:List (NdH×Nd))(L:List Int):Prop:=L.Pairwise (· < ·)∧∀ z,z∈L↔z∈pL ps
end
section
open Go Go.RowKit Go.Maps
theorem kR(x:Int):(i64 x).oneCell'=true:=rfl
theorem Mi(ao:Option Addr)(c:Nat)(L:List Int)(z:Int)(W:World)(hv:Vw i64 W.heap ao c L) :
 CA 52 [.slice ao L.length c,iV z] W fun v w'=>v=.bool (decide (z∈L))∧w'=W:=by
 have hl:=hv.WQ;refine cS 18 [(0,_),(1,_)] Tryz.func52 ?_;refine Gz 12 ?_;refine TA (β:=Nat) (fun i=>[(0,.slice ao L.length c),(1,iV z),(5,iV i)]) (fun i w=>i≤L.length∧(∀ j,j<i→L.getD j 0≠z)∧w=W) (fun i=>L.length-i) 0 ⟨rfl,rfl,rfl,trivial⟩ ⟨Nat.zero_le _,by intro j hj;omega,rfl⟩ ?_;rintro i w2 ⟨hi,hz,hw2⟩;subst hw2;refine fK 6 ?_ ?_<;>intro h9
 ·refine Gz 11 ?_;refine cL (Tt bP rfl rfl hv.non (by omega)) ?_;refine cL (Tu aI rfl (hv.gz 0 i rfl (by omega))) ?_;refine fK 1 ?_ ?_<;>intro h17
  ·have hin:z∈L:=by have h17:L.getD i 0=z:=h17;rw[←h17,List.getD,List.getElem?_eq_getElem (by omega)];exact List.getElem_mem _
   refine Gz 15 ?_;exact⟨_,rfl,congrArg Value.bool (decide_eq_true hin).symm,rfl⟩
  have h17:¬ L.getD i 0=z:=h17;refine Gz 11 ?_;refine aG (i+1) ⟨by omega,?_,rfl⟩ (by show L.length-(i+1)<L.length-i;omega);intro j hj;by_cases hji:j=i
  ·rw[hji];exact h17
  ·exact hz j (by omega)
 refine Gz 15 ?_;have hno:z∉L:=by
  intro h;obtain⟨j,hj,e⟩:=List.getElem_of_mem h;exact hz j (by omega) (by rw[List.getD,List.getElem?_eq_getElem hj];exact e)
 exact⟨_,rfl,congrArg Value.bool (decide_eq_false hno).symm,rfl⟩
def iC(out:List Int)(v:Int)(k:Nat):List Int:=out.take k++v::out.drop k
theorem AE{out:List Int}{v:Int}{k:Nat}(h:k≤out.length):(iC out v k).length=out.length+1:=by unfold iC;simp;omega
theorem H6(out:List Int)(v:Int):iC out v out.length=out++[v]:=by unfold iC;simp
theorem rU{out:List Int}{v:Int}{k i:Nat}(h:i<k)(hk:k≤out.length):(iC out v k).getD i 0=out.getD i 0:=by
 unfold iC;simp only[List.getD];rw[List.getElem?_append_left (by rw[length_take];omega),List.getElem?_take,if_pos h]
theorem EW{out:List Int}{v:Int}{j:Nat}(h:j<out.length):((iC out v (j+1)).set (j+1) (out.getD j 0)).set j v=iC out v j:=by
 have e1:out.take (j+1)=out.take j++[out.getD j 0]:=by rw[take_succ_eq_append_getElem h,List.getD,List.getElem?_eq_getElem h];rfl
 have e2:out.drop j=out.getD j 0::out.drop (j+1):=by rw[List.drop_eq_getElem_cons h,List.getD,List.getElem?_eq_getElem h];rfl
 have l1:(out.take j).length=j:=by rw[length_take];omega
 unfold iC;rw[e1,e2,append_assoc,List.set_append_right _ _ (by omega),l1,show j+1-j=1 by omega];rw[List.set_append_right _ _ (by omega),l1,Nat.sub_self];rfl
theorem AD{out:List Int}{v:Int}{k:Nat}{z:Int}:z∈iC out v k↔z=v∨z∈out:=by
 unfold iC;rw[mem_append,mem_cons];constructor
 · rintro(h|rfl|h)
   ·exact .inr (List.mem_of_mem_take h)
   ·exact .inl rfl
   ·exact .inr (List.mem_of_mem_drop h)
 · rintro(rfl|h)
   ·exact .inr (.inl rfl)
   · rw[←take_append_drop k out] at h
     rcases mem_append.1 h with h|h
     ·exact .inl h
     ·exact .inr (.inr h)
theorem rT{out:List Int}{v:Int}{k:Nat}(hs:out.Pairwise (· < ·))(hk:k≤out.length)(h1:∀ z∈out.drop k,v<z)(h2:0<k→out.getD (k-1) 0<v):(iC out v k).Pairwise (· < ·):=by
 have hlow:∀ z∈out.take k,z<v:=by
  intro z hz;obtain⟨i,hi,rfl⟩:=List.getElem_of_mem hz;rw[length_take] at hi;have h3:=h2 (by omega);rw[List.getElem_take];by_cases e:i=k-1
  ·subst e;rw[List.getD,List.getElem?_eq_getElem (by omega)] at h3;exact h3
  · have h4:=pairwise_iff_getElem.1 hs i (k-1) (by omega) (by omega) (by omega)
    rw[List.getD,List.getElem?_eq_getElem (by omega)] at h3;have h3:out[k-1]<v:=h3;omega
 unfold iC;refine pairwise_append.2 ⟨hs.sublist (List.take_sublist _ _),pairwise_cons.2 ⟨h1,hs.sublist (List.drop_sublist _ _)⟩,?_⟩;intro a ha b hb;have:=hlow a ha;rcases mem_cons.1 hb with rfl|hb
 ·exact this
 ·have:=h1 b hb;omega
theorem Bu:∀ (ps:List (NdH×Nd)) (k:Nat) (p:NdH×Nd),ps[k]?=some p→(pL ps).getD (2*k) 0=p.2.ud∧(pL ps).getD (2*k+1) 0=p.2.gd
|[],k,p,h=>by simp at h
|q::r,0,p,h=>by simp at h;subst h;exact⟨rfl,rfl⟩
|q::r,k+1,p,h=>Bu r k p (by simpa using h)
theorem rO:∀ (ps:List (NdH×Nd)),(pL ps).length=2*ps.length
|[]=>rfl
|q::r=>by have:=rO r;show (q.2.ud::q.2.gd::pL r).length=2*(r.length+1);simp only[length_cons];omega
theorem Oe(a:Addr)(i j:Nat):(a.add i).add j=a.add (i+j):=Addr.add_add a i j
theorem rH(lo:Option Addr)(lc:Nat)(ps:List (NdH×Nd))(W:World)(hv:VwM 10 aM W.heap lo lc ps)(hl:ps.length≤1000) :
 CA 23 [.slice lo ps.length lc] W fun v w'=>∃ o c L,v=.slice o (List.length (α:=Int) L) c∧Own i64 3 w'.heap o c L∧Fr W.heap.size o∧zJ ps L∧aA nob W w':=by
 have hzl:=rO ps;refine cS 71 [(0,_)] Tryz.func23 ?_;refine Gz 7 ?_;refine T2 i64 bP rfl ?_;intro w1 ho1 hs1 hf1;refine Gz 10 ?_;refine TA (β:=Nat×List Int×(Option Addr×Nat)) (fun⟨i,out,⟨oo,oc⟩⟩=>[(0,.slice lo ps.length lc),(3,.slice oo out.length oc),(4,iV i)]) (fun⟨i,out,⟨oo,oc⟩⟩ w=>i≤2*ps.length∧Own i64 3 w.heap oo oc out∧out.Pairwise (· < ·)∧(∀ z,z∈out↔z∈(pL ps).take i)∧out.length≤i∧Fr W.heap.size oo∧aA nob W w) (fun⟨i,out,⟨oo,oc⟩⟩=>2*ps.length-i) ⟨0,[],⟨some ⟨W.heap.size,0,none⟩,0⟩⟩ ⟨rfl,rfl,rfl,trivial⟩ ⟨Nat.zero_le _,ho1,List.Pairwise.nil,by simp,Nat.le_refl _,(fun a ha=>by cases ha;exact Nat.le_refl _),hf1⟩ ?_;rintro⟨i,out,⟨oo,oc⟩⟩ w2 ⟨hi,hoo,hso,hmem,hol,hfro,hF2⟩;refine Gz 6 ?_;refine cL (Ue rfl rfl (by omega)) ?_;refine fK 0 ?_ ?_<;>intro h13
 ·obtain⟨p,hp⟩:∃ p,ps[i/2]?=some p:=⟨_,List.getElem?_eq_getElem (by omega)⟩
  obtain⟨k1,k2⟩:=Bu ps _ p hp;obtain⟨v,hvv⟩:∃ v,v=(pL ps).getD i 0:=⟨_,rfl⟩
  have hv2:=hv.WS hF2 (fun _ _=>id);have htk:(pL ps).take (i+1)=(pL ps).take i++[v]:=by rw[take_succ_eq_append_getElem (by omega),hvv,List.getD,List.getElem?_eq_getElem (by omega)];rfl
  refine Gz 1 ?_;refine aW [(0,_),(3,_),(4,_),(13,_)] ?_;refine Gz 10 ?_;refine cL (Tw (u:=iV ((i/2:Nat):Int)) (Uz rfl rfl (by omega) (by decide)) (by congr 1)) ?_;refine cL (Tv bH rfl rfl hv2.non (by omega)) ?_;refine Gz 2 ?_;refine cL (Tu aI rfl (by rw[Oe];exact hv2.rowZ (i/2) rfl hp 4 _ rfl)) ?_;refine Gz 3 ?_;refine TY (β:=Unit) (fun _u=>[(0,.slice lo ps.length lc),(3,.slice oo out.length oc),(4,iV i),(5,iV v)]) (fun _u w=>w=w2) ?_ ?_
  ·refine Gz 3 ?_;refine cL (Ul rfl rfl (by omega) (by decide)) ?_;refine fK 0 ?_ ?_<;>intro h25
   ·have hve:v=p.2.gd:=by rw[hvv,←k2];congr 1;omega
    refine Gz 6 ?_;refine cL (Tw (u:=iV ((i/2:Nat):Int)) (Uz rfl rfl (by omega) (by decide)) (by congr 1)) ?_;refine cL (Tv bH rfl rfl hv2.non (by omega)) ?_;refine Gz 2 ?_;refine cL (Tu aI rfl (by rw[Oe];exact hv2.rowZ (i/2) rfl hp 5 _ rfl)) ?_;refine Gz 2 ?_;exact T8 () ⟨rfl,rfl,rfl,(by rw[hve];rfl),trivial⟩ rfl
   have hve:v=p.2.ud:=by rw[hvv,←k1];congr 1;omega
   refine Gz 4 ?_;exact T8 () ⟨rfl,rfl,rfl,(by rw[hve];rfl),trivial⟩ rfl
  rintro _ wq hwq;obtain rfl:w2=wq:=hwq.symm;refine cA 4 SX (Mi oo oc out v w2 hoo.vw) ?_;rintro _ wq ⟨rfl,hwq⟩;subst wq;by_cases h35:v∈out
  ·rw[decide_eq_true h35];refine Gz 19 ?_;refine aG ⟨i+1,out,⟨oo,oc⟩⟩ ⟨by omega,hoo,hso,fun z=>?_,by omega,hfro,hF2⟩ (by show 2*ps.length-(i+1)<2*ps.length-i;omega);rw[htk,mem_append,←hmem z,mem_singleton];exact⟨.inl,fun h=>h.elim id (fun e=>by rw[e];exact h35)⟩
  rw[decide_eq_false h35];refine Gz 16 ?_;refine T3 (enc:=i64) (u:=v) bP (kR _) rfl rfl ?_;intro w3 ho3 hs3 hf3;refine TB kR bP rfl rfl (hoo.WR hf3) ho3.vw (by simp only[length_singleton];omega) (by simp only[length_singleton];unfold maxLen;omega) rfl ?_;intro o4 c4 w4 ho4 hf4 hr4 hn4;have hfr4:Fr W.heap.size o4:=bK hfro hr4 (by have:=hF2.size;omega);have hF4:aA nob W w4:=(hF2.trans hf3).WO hf4 (fun k ⟨a,ha,e⟩=>.inr (by have:=hfro a ha;omega));rw[←H6] at ho4 ⊢;have hil:=AE (out:=out) (v:=v) (Nat.le_refl _);refine Gz 12 ?_;refine TA (β:=Nat) (fun k=>[(0,.slice lo ps.length lc),(3,.slice o4 (out.length+1) c4),(4,iV i),(5,iV v),(7,iV k)]) (fun k w=>k≤out.length∧Own i64 3 w.heap o4 c4 (iC out v k)∧(∀ z∈out.drop k,v<z)∧aA nob W w) (fun k=>k) out.length ⟨rfl,(by rw[hil];rfl),rfl,rfl,(congrArg (fun z:Int=>some (Value.int .i64 z)) (show (((iC out v out.length).length:Nat):Int)-1=(out.length:Nat) by omega)),trivial⟩ ⟨Nat.le_refl _,ho4,by simp,hF4⟩ ?_;rintro k w5 ⟨hk,ho5,hgtd,hF5⟩;have hil5:=AE (out:=out) (v:=v) hk;refine fK 4 ?_ ?_<;>intro h45
  ·have hk0:0<k:=by omega
   refine Gz 4 ?_;refine cW (Tt bP rfl rfl (fun _=>ho5.vw.non (by rw[hil5];omega)) (by omega)) ?_;refine cW (Tw (u:=iV (out.getD (k-1) 0)) (Tu aI rfl (ho5.vw.gz 0 (k-1) (by omega) (by rw[hil5];omega))) (by rw[rU (by omega) hk];rfl)) ?_;refine fW 1 ?_ ?_<;>intro h53
   ·have hgt:v<out.getD (k-1) 0:=h53;refine Gz 15 ?_;refine cL (Tt bP rfl rfl (fun _=>ho5.vw.non (by rw[hil5];omega)) (by omega)) ?_;refine cL (Tw (u:=iV (out.getD (k-1) 0)) (Tu aI rfl (ho5.vw.gz 0 (k-1) (by omega) (by rw[hil5];omega))) (by rw[rU (by omega) hk];rfl)) ?_;refine cL (Tt bP rfl rfl (fun _=>ho5.vw.non (by rw[hil5];omega)) (by omega)) ?_;refine T7 kR aI (z:=(k:Int)) (u:=out.getD (k-1) 0) rfl rfl ho5 (by rw[hil5];omega) ?_;intro w6 ho6 hs6 hf6;rw[Int.toNat_natCast] at ho6;refine Gz 7 ?_;refine cL (Tt bP rfl rfl (fun _=>ho5.vw.non (by rw[hil5];omega)) (by omega)) ?_;refine T7 kR aI (z:=((k-1:Nat):Int)) (u:=v) (by show evL _ _=_;rw[show (((k-1:Nat):Int))=(k:Int)-1 by omega];rfl) rfl ho6 (by rw[length_set,hil5];omega) ?_;intro w7 ho7 hs7 hf7;rw[Int.toNat_natCast] at ho7;obtain⟨j,hj⟩:∃ j,k=j+1:=⟨k-1,by omega⟩
    subst hj;rw[Nat.add_sub_cancel,EW (by omega)] at ho7;refine Gz 8 ?_;refine TO j ⟨rfl,rfl,rfl,rfl,congrArg (fun z:Int=>some (Value.int .i64 z)) (show ((j+1:Nat):Int)-1=(j:Nat) by omega),trivial⟩ ⟨by omega,ho7,fun z hz=>?_,(hF5.WO hf6 (fun k ⟨a,ha,e⟩=>.inr (by have:=hfr4 a ha;omega))).WO hf7 (fun k ⟨a,ha,e⟩=>.inr (by have:=hfr4 a ha;omega))⟩ (by show j<j+1;omega);rw[List.drop_eq_getElem_cons (by omega)] at hz;rcases mem_cons.1 hz with rfl|hz
    ·rw[Nat.add_sub_cancel,List.getD,List.getElem?_eq_getElem (by omega)] at hgt;exact hgt
    ·exact hgtd z hz
   refine Gz 15 ?_;have hne:∀ z∈out,z≠v:=fun z hz e=>h35 (e ▸ hz);have hsn:(iC out v k).Pairwise (· < ·):=rT hso hk hgtd (fun h0=>by
    have hm:out.getD (k-1) 0∈out:=by rw[List.getD,List.getElem?_eq_getElem (by omega)];exact List.getElem_mem _
    have:=hne _ hm;omega)
   refine TO ⟨i+1,iC out v k,⟨o4,c4⟩⟩ ⟨rfl,(by rw[hil5];rfl),rfl,trivial⟩ ⟨by omega,ho5,hsn,fun z=>?_,by rw[hil5];omega,hfr4,hF5⟩ (by show 2*ps.length-(i+1)<2*ps.length-i;omega);rw[htk,mem_append,←hmem z,mem_singleton,AD];exact Or.comm
  have hk0:k=0:=by omega
  refine Gz 23 ?_;have hsn:(iC out v k).Pairwise (· < ·):=rT hso hk hgtd (fun h0=>by
   exact absurd hk0 (by omega))
  refine TO ⟨i+1,iC out v k,⟨o4,c4⟩⟩ ⟨rfl,(by rw[hil5];rfl),rfl,trivial⟩ ⟨by omega,ho5,hsn,fun z=>?_,by rw[hil5];omega,hfr4,hF5⟩ (by show 2*ps.length-(i+1)<2*ps.length-i;omega);rw[htk,mem_append,←hmem z,mem_singleton,AD];exact Or.comm
 have hie:i=2*ps.length:=by omega
 subst hie;rw[take_of_length_le (by omega)] at hmem;refine Gz 1 ?_;refine aW [(0,_),(3,_),(4,_),(13,_)] ?_;refine Gz 15 ?_;exact⟨_,rfl,oo,oc,out,rfl,hoo,hfro,⟨hso,hmem⟩,hF2⟩
end
def dB(F:Nat→Int):List Value:=[iV (F 0),iV (F 1),iV (F 2),iV (F 3),iV (F 4),iV (F 5),iV (F 6),iV (F 7),iV (F 8),iV (F 9)]
theorem fO(F:Nat→Int):∀ v∈dB F,v.oneCell'=true:=by
 intro v hv;simp only[dB,mem_cons,List.not_mem_nil,or_false] at hv;rcases hv with rfl|rfl|rfl|rfl|rfl|rfl|rfl|rfl|rfl|rfl<;>rfl
def cO(F:Nat→Int):List Int:=[64,F 2,F 3,F 4,F 5,F 6,F 0,1048576]
def zY(F:Nat→Int):Prop:=64≤F 2∧F 2≤F 3∧F 3≤F 4∧F 4≤F 5∧F 5≤F 6∧F 6≤F 0∧F 0≤1048576
def fG(F:Nat→Int):Prop:=zY F∧1≤F 1∧F 1≤1024∧1≤F 7∧F 7≤2048∧0≤F 8∧F 8≤1024∧0≤F 9∧F 9≤4294967295
instance (F:Nat→Int):Decidable (fG F):=by unfold fG zY;infer_instance
theorem qZ{F:Nat→Int}:zY F↔∀ i,i+1<8→(cO F).getD i 0≤(cO F).getD (i+1) 0:=by
 constructor
 · rintro⟨a,b,c,d,e,f,g⟩ i hi
   match i,hi with
  |0,_=>exact a
  |1,_=>exact b
  |2,_=>exact c
  |3,_=>exact d
  |4,_=>exact e
  |5,_=>exact f
  |6,_=>exact g
 · intro h
   exact⟨h 0 (by decide),h 1 (by decide),h 2 (by decide),h 3 (by decide),h 4 (by decide),h 5 (by decide),h 6 (by decide)⟩
theorem Ez(F:Nat→Int)(W:World) :
 CA 108 [.agg (dB F).toArray] W fun v w'=>∃ o,v=.slice o (cO F).length 8∧Own i64 3 w'.heap o 8 (cO F)∧Fr W.heap.size o∧aA nob W w':=by
 refine cS 16 [(0,_)] Tryz.func108 ?_;refine Gz 2 ?_;refine T1 rfl rfl ?_;intro w1 hg1 hs1 hf1;have hg1:w1.heap[W.heap.size]?=some (.cells (dB F).toArray 93 (0,0)):=hg1;refine Gz 17 ?_;refine TS bP (cs:=((cO F).map i64).toArray) zc3 rfl rfl rfl (by kernel_rfl) rfl ?_;intro w2 hg2 hs2 hf2;refine Gz 5 ?_;exact⟨_,rfl,some ⟨w1.heap.size,0,none⟩,rfl,lD (xs:=cO F) hg2 (by show 8≤maxLen;decide),fun a ha=>by cases ha;exact hf1.size,hf1.trans hf2⟩
theorem Jt(F:Nat→Int)(W:World) :
 CA 63 [.agg (dB F).toArray] W fun v w'=>v=.bool (decide (fG F))∧aA nob W w':=by
 have hl8:(cO F).length=8:=rfl;refine cS 61 [(0,_)] Tryz.func63 ?_;refine Gz 2 ?_;refine T1 rfl rfl ?_;intro w1 hg1 hs1 hf1;have hg1:w1.heap[W.heap.size]?=some (.cells (dB F).toArray 93 (0,0)):=hg1;obtain⟨g,eg⟩:∃ g,g=W.heap.size:=⟨_,rfl⟩
 rw[←eg] at hg1 ⊢;refine Gz 5 ?_;refine cL (TI (cs:=dB F) dS rfl (cC hg1 0 rfl)) ?_;refine cA 0 Qy (Ez F w1) ?_;rintro _ w2 ⟨o,rfl,ho,hfo,hf2⟩;have hv:=ho.vw;have hF2:=hf1.trans hf2;refine Gz 10 ?_;refine TA (β:=Nat) (fun i=>[(1,pT g),(3,.slice o (cO F).length 8),(4,iV i)]) (fun i w=>1≤i∧i≤8∧(∀ j,1≤j→j<i→(cO F).getD (j-1) 0≤(cO F).getD j 0)∧aA nob w2 w) (fun i=>8-i) 1 ⟨rfl,rfl,rfl,trivial⟩ ⟨Nat.le_refl _,by decide,fun j h1 h2=>by omega,Wt _ _⟩ ?_;rintro i w3 ⟨hi1,hi8,hsm,hF3⟩;refine fK 6 ?_ ?_<;>intro h10
 ·have hil:i<8:=by omega
  refine Gz 8 ?_;refine TN 10 [0,1,2,3,4,5,6,7,8,9] aL (by kernel_rfl) ?_;refine Gz 2 ?_;refine xC rfl (Tt bP rfl rfl (hv.WR hF3).non (by omega)) ?_;refine xC rfl (Tw (u:=iV ((cO F).getD i 0)) (Tu aI rfl ((hv.WR hF3).gz 0 i rfl (by omega))) rfl) ?_;refine Gz 2 ?_;refine xC rfl (Tw (u:=iV ((i-1:Nat):Int)) (UY rfl rfl (by omega)) (by congr 1;omega)) ?_;refine xC rfl (Tt bP rfl rfl (hv.WR hF3).non (by omega)) ?_;refine xC rfl (Tw (u:=iV ((cO F).getD (i-1) 0)) (Tu aI rfl ((hv.WR hF3).gz 0 (i-1) rfl (by omega))) rfl) ?_;refine xK 0 ?_ ?_<;>intro h22
  ·refine Gz 15 ?_;exact⟨_,rfl,by rw[decide_eq_false (fun h=>by have:=qZ.1 h.1 (i-1) (by omega);rw[Nat.sub_add_cancel hi1] at this;omega)],hF2.trans (hF3.draws 1)⟩
  refine Gz 11 ?_;refine aG (i+1) ⟨by omega,by omega,fun j h1 h2=>?_,hF3.draws 1⟩ (by show 8-(i+1)<8-i;omega);by_cases e:j=i
  ·subst e;omega
  ·exact hsm j h1 (by omega)
 have hso:zY F:=qZ.2 (fun j hj=>hsm (j+1) (by omega) (by omega));have hgF:=(hf2.trans hF3).obj hg1 id;refine fK 12 ?_ ?_<;>intro h25
 ·refine fW 3 ?_ ?_<;>intro h29
  ·refine fW 4 ?_ ?_<;>intro h34
   ·refine fW 4 ?_ ?_<;>intro h39
    ·refine fW 4 ?_ ?_<;>intro h44
     ·refine fW 4 ?_ ?_<;>intro h49
      ·refine fW 4 ?_ ?_<;>intro h54
       ·refine fW 4 ?_ ?_<;>intro h59
        ·refine Gz 6 ?_;exact⟨_,rfl,by rw[decide_eq_true ⟨hso,by omega,by omega,by omega,by omega,by omega,by omega,by omega,by omega⟩],hF2.trans hF3⟩
        refine Gz 6 ?_;exact⟨_,rfl,by rw[decide_eq_false (fun h=>by unfold fG at h;omega)],hF2.trans hF3⟩
       refine Gz 11 ?_;exact⟨_,rfl,by rw[decide_eq_false (fun h=>by unfold fG at h;omega)],hF2.trans hF3⟩
      refine Gz 16 ?_;exact⟨_,rfl,by rw[decide_eq_false (fun h=>by unfold fG at h;omega)],hF2.trans hF3⟩
     refine Gz 21 ?_;exact⟨_,rfl,by rw[decide_eq_false (fun h=>by unfold fG at h;omega)],hF2.trans hF3⟩
    refine Gz 26 ?_;exact⟨_,rfl,by rw[decide_eq_false (fun h=>by unfold fG at h;omega)],hF2.trans hF3⟩
   refine Gz 31 ?_;exact⟨_,rfl,by rw[decide_eq_false (fun h=>by unfold fG at h;omega)],hF2.trans hF3⟩
  refine Gz 36 ?_;exact⟨_,rfl,by rw[decide_eq_false (fun h=>by unfold fG at h;omega)],hF2.trans hF3⟩
 refine Gz 40 ?_;exact⟨_,rfl,by rw[decide_eq_false (fun h=>by unfold fG at h;omega)],hF2.trans hF3⟩
def suL:List Fd:=[⟨0,0,4,0⟩,⟨0,2,4,0⟩,⟨0,3,4,0⟩,⟨0,4,4,0⟩,⟨0,5,4,0⟩,⟨0,6,4,0⟩,⟨0,9,4,0⟩,⟨0,1,2,0⟩,⟨0,7,2,0⟩,⟨0,8,2,0⟩]
def suM:By:=[76,77,76,65]
def zF:Nat→Int:=fun _=>0
def suQ(ys:By):Rd×(Nat→Int):=suL.foldl gF ((0,ys),zF)
def suH(F:Nat→Int):By:=suM++dT F suL
def suB(F:Nat→Int):By:=suH F++(le (dW (suH F):Nat) 4++List.replicate 22 0)
def mW(F:Nat→Int):By×Int:=if fG F then (suB F,0) else ([],1)
def suF(im:By):Nat→Int:=(suQ ((im.take 64).drop 4)).2
def iL(im:By):Prop:=64≤im.length∧fG (suF im)∧im.take 64=suB (suF im)∧suF im 0=im.length
instance (im:By):Decidable (iL im):=by unfold iL;infer_instance
def aH(im:By):(Nat→Int)×Int:=if iL im then (suF im,0) else (zF,2)
theorem Pu:∀ x∈suL,1≤x.b∧x.b≤4:=by decide
theorem Om:(suL.map (·.o)).Nodup:=by decide
theorem LY:Ej suL=34:=rfl
theorem Bi(F:Nat→Int):(suH F).length=38:=by unfold suH;rw[length_append,mJ];rfl
theorem kZ(F:Nat→Int):(suB F).length=64:=by unfold suB;rw[length_append,length_append,Bi,aR,List.length_replicate]
theorem FV{ys:By}(h:34≤ys.length):(suQ ys).1.1=0∧ys=dT (suQ ys).2 suL++(suQ ys).1.2∧(suQ ys).1.2=ys.drop 34:=by
 obtain⟨_,_,i3,i4⟩:=GD suL ((0,ys),zF) Pu Om;have h0:(suQ ys).1.1=0:=byContradiction fun hc=>by
  have:=i4 rfl hc;rw[LY] at this;have:ys.length<34:=this;omega
 have h3:ys=dT (suQ ys).2 suL++(suQ ys).1.2:=i3 h0;refine⟨h0,h3,?_⟩;have hl:(dT (suQ ys).2 suL).length=34:=by rw[mJ];rfl
 have:=congrArg (List.drop 34) h3;rw[drop_left' hl] at this;exact this.symm
theorem Co{im:By}(h:64≤im.length):im.take 64=suB (suF im) ↔
 im.take 4=suM∧dW (im.take 38)=bT ((im.drop 38).take 4)∧(im.take 64).drop 42=List.replicate 22 0:=by
 have hl:((im.take 64).drop 4).length=60:=by rw[length_drop,length_take];omega
 obtain⟨h0,h1,h2⟩:=FV (ys:=(im.take 64).drop 4) (by omega);have e38:im.take 38=im.take 4++dT (suF im) suL:=by
  have h3:=congrArg (List.take 34) h1;have hle:(dT (suQ ((im.take 64).drop 4)).2 suL).length=34:=by rw[mJ];rfl
  rw[take_left' hle] at h3;show _=_++dT (suQ ((im.take 64).drop 4)).2 suL;rw[←h3,take_drop,take_take];have:=take_append_drop 4 (im.take 38);rw[take_take] at this;exact this.symm
 have eall:im.take 64=(im.take 4++dT (suF im) suL)++(im.take 64).drop 38:=by
  rw[←e38];have:=take_append_drop 38 (im.take 64);rw[take_take] at this;exact this.symm
 have e42:(im.take 64).drop 38=(im.drop 38).take 4++(im.take 64).drop 42:=by
  have h3:=take_append_drop 4 ((im.take 64).drop 38);rw[drop_drop,take_drop,take_take] at h3;rw[take_drop];exact h3.symm
 have hr4:((im.drop 38).take 4).length=4:=by rw[length_take,length_drop];omega
 constructor
 · intro he
   unfold suB suH at he;rw[eall] at he;have hi1:=append_inj he (by rw[length_append,length_append,length_take];show min 4 _+_=4+_;omega);have hi2:=append_inj hi1.1 (by rw[length_take];show min 4 _=4;omega);rw[e42] at hi1;have hi3:=append_inj hi1.2 (by rw[hr4,aR]);refine⟨hi2.1,?_,hi3.2⟩;rw[e38,hi2.1,hi3.1];have:=oX 4 (dW (suH (suF im)):Nat) (Int.natCast_nonneg _) (by have:=qW (suH (suF im));show ((dW _:Nat):Int)<256 ^ 4;omega);show dW (suH (suF im))=_;show dW (suH (suF im))=bT (le (dW (suH (suF im)):Nat) 4);omega
 · rintro⟨a,b,c⟩
   unfold suB;rw[eall,e42,c];have e5:im.take 4++dT (suF im) suL=suH (suF im):=by rw[a];rfl
   rw[e5];congr 2;have h5:dW (suH (suF im))=bT ((im.drop 38).take 4):=by rw[←e5,←e38];exact b
   rw[h5];have:=BC ((im.drop 38).take 4);rw[hr4] at this;exact this.symm
theorem DX{b:By}{n:Nat}(hl:b.length=n):b=List.replicate n 0↔∀ c∈b,c=0:=by
 rw[List.eq_replicate_iff];exact⟨fun h=>h.2,fun h=>⟨hl,h⟩⟩
abbrev Ent:=By×Int×Int
def BQ:Ent:=([],0,0)
def fV(x:Ent):List Value:=[.string (bs x.1),iV x.2.1,iV x.2.2]
theorem cH:iF 3 fV:=fun x=>⟨rfl,by simp[fV,Value.oneCell']⟩
def iS(x:Ent)(last:By):Prop:=dV x.1=0∧Op.bytesLess last x.1=true∧1≤x.2.1∧x.2.1≤3∧0≤x.2.2∧x.2.2≤4294967295
instance (x:Ent)(last:By):Decidable (iS x last):=by unfold iS;infer_instance
def lP(x:Ent):By:=(UInt8.ofNat x.1.length::x.1)++(le x.2.1 1++le x.2.2 4)
def bA(L:List Ent):By:=L.flatMap lP
def lL(s:Rd):Ent:=(gTx s,gV 1 (fI s),gV 4 (gS 1 (fI s)))
def lK(s:Rd):Rd:=gS 4 (gS 1 (fI s))
def aO:By→List Ent→Prop
|_,[]=>True
|last,x::r=>iS x last∧aO x.1 r
def mD(l:List Ent):By:=(l.getLast?.getD BQ).1
def dtP:Nat→By→By→Option (List Ent)
|0,_,_=>none
|n+1,last,ys=>if ys=[] then some [] else if (lK (0,ys)).1=0∧iS (lL (0,ys)) last then (dtP n (lL (0,ys)).1 (lK (0,ys)).2).map (lL (0,ys) :: ·) else none
def nO(b:By):List Ent×Int:=match dtP (b.length+1) [] b with
|some L=>(L,0)
|none=>([],2)
def Ie(x:Ent):Prop:=x.1.length≤255∧0≤x.2.1∧x.2.1<256∧0≤x.2.2∧x.2.2≤4294967295
theorem kQ{x:Ent}{last:By}(h:iS x last):Ie x:=⟨(kX h.1).1,by have:=h.2.2.1;omega,by have:=h.2.2.2.1;omega,h.2.2.2.2.1,h.2.2.2.2.2⟩
theorem O2{t rest:By}(h:t.length≤255):gTx (0,(UInt8.ofNat t.length::t)++rest)=t∧fI (0,(UInt8.ofNat t.length::t)++rest)=(0,rest):=by
 have e0:cX 0 1=0:=by decide
 have l1:(0:Int)<((UInt8.ofNat t.length::t)++rest).length:=by simp only[length_append,length_cons];omega
 have e1:cU 0 ((UInt8.ofNat t.length::t)++rest) 1=0:=by rw[dG (by decide) (by omega)]
 obtain⟨c1,c2⟩:=cM e1;have eE:tE 0 ((UInt8.ofNat t.length::t)++rest)=0:=by unfold tE;rw[e0,e1]
 have eR:tR 0 ((UInt8.ofNat t.length::t)++rest)=t++rest:=by unfold tR;rw[e0,c2];rfl
 have eN:tN 0 ((UInt8.ofNat t.length::t)++rest)=(t.length:Int):=by
  unfold tN;rw[e0,c1];show ((UInt8.ofNat t.length).toNat+256*0:Nat)=(t.length:Int)
  rw[UInt8.toNat_ofNat'];omega
 have e2:cU 0 (t++rest) (t.length:Int)=0:=by rw[dG (by omega) (by rw[length_append];omega)]
 obtain⟨c3,c4⟩:=cM e2;unfold gTx fI;show eG (tE 0 _) (tR 0 _) (tN 0 _)=t∧(cU (tE 0 _) (tR 0 _) (tN 0 _),oQ (tE 0 _) (tR 0 _) (tN 0 _))=(0,rest)
 rw[eE,eR,eN,c3,e2,c4];exact⟨take_left' rfl,by rw[Int.toNat_natCast,drop_left' rfl]⟩
theorem KK{s:Rd}(h:s.1≠0):(fI s).1≠0:=by
 unfold fI;have h1:tE s.1 s.2≠0:=GA (n:=1) h;show cU _ _ _≠0;rw[pE h1];exact h1
theorem GB{s:Rd}(h:(fI s).1=0):s.1=0∧s.2=(UInt8.ofNat (gTx s).length::gTx s)++(fI s).2∧(gTx s).length≤255:=by
 have h0:s.1=0:=byContradiction fun hc=>KK hc h;obtain⟨E,ys⟩:=s;obtain rfl:E=0:=h0;have e0:cX 0 1=0:=by decide
 have hz:tE 0 ys=0:=byContradiction fun hc=>by
  have:(fI (0,ys)).1=cU (tE 0 ys) (tR 0 ys) (tN 0 ys):=rfl;rw[this,pE hc] at h;exact hc h
 have hz1:cU 0 ys 1=0:=by unfold tE at hz;rw[e0] at hz;exact hz
 obtain⟨_,_,hl⟩:=mL hz1;obtain⟨c1,c2⟩:=cM hz1;obtain⟨d,t,rfl⟩:∃ d t,ys=d::t:=by cases ys with|nil=>(simp at hl)|cons d t=>exact⟨d,t,rfl⟩
 have etR:tR 0 (d::t)=t:=by unfold tR;rw[e0,c2];rfl
 have etN:tN 0 (d::t)=(d.toNat:Int):=by unfold tN;rw[e0,c1];show ((d.toNat+256*0:Nat):Int)=_;omega
 have h2:cU 0 t (d.toNat:Int)=0:=by
  have:(fI (0,d::t)).1=cU (tE 0 (d::t)) (tR 0 (d::t)) (tN 0 (d::t)):=rfl;rw[this,hz,etR,etN] at h;exact h
 obtain⟨_,_,hl2⟩:=mL h2;obtain⟨c3,c4⟩:=cM h2;have eT:gTx (0,d::t)=t.take d.toNat:=by unfold gTx;rw[hz,etR,etN,c3];rfl
 have eS:fI (0,d::t)=(0,t.drop d.toNat):=by unfold fI;rw[hz,etR,etN,h2,c4];rfl
 have hd:=UInt8.toNat_lt d;have hlen:(t.take d.toNat).length=d.toNat:=by rw[length_take];omega
 refine⟨rfl,?_,by rw[eT,hlen];omega⟩;rw[eT,eS,hlen];show d::t=(UInt8.ofNat d.toNat::t.take d.toNat)++t.drop d.toNat;rw[UInt8.ofNat_toNat,cons_append,take_append_drop]
theorem O1{n:Nat}{x:Int}(h1:1≤n)(h4:n≤4)(h0:0≤x)(hx:x<256 ^ n)(rest:By):gV n (0,le x n++rest)=x∧gS n (0,le x n++rest)=(0,rest):=by
 have hl:(le x n).length=n:=aR _ _;obtain⟨a,b⟩:=oK (n:=(n:Int)) (s:=(0,le x n++rest)) (by omega) (by omega) rfl (by show (n:Int)≤(le x n++rest).length;rw[length_append,hl];omega);rw[a,b];show ((bT ((le x n++rest).take (n:Int).toNat):Nat):Int)=x∧(0,(le x n++rest).drop (n:Int).toNat)=(0,rest)
 rw[show ((n:Int).toNat)=n by omega,take_left' hl,drop_left' hl];exact⟨oX n x h0 hx,rfl⟩
theorem N1{n:Nat}{s:Rd}(h1:1≤n)(h4:n≤4)(h:(gS n s).1=0):s.1=0∧s.2=le (gV n s) n++(gS n s).2:=by
 have h0:s.1=0:=byContradiction fun hc=>GA hc h;have hl:(n:Int)≤s.2.length:=byContradiction fun hc=>Gy (by omega) (by omega) h0 (by omega) h;obtain⟨a,b⟩:=oK (n:=(n:Int)) (s:=s) (by omega) (by omega) h0 hl;rw[a,b];refine⟨h0,?_⟩;show s.2=le ((bT (s.2.take (n:Int).toNat):Nat):Int) n++s.2.drop (n:Int).toNat;rw[show ((n:Int).toNat)=n by omega,Gj (by omega),take_append_drop]
theorem EJ{x:Ent}(h:Ie x)(rest:By):lL (0,lP x++rest)=x∧lK (0,lP x++rest)=(0,rest):=by
 obtain⟨h1,h2,h3,h4,h5⟩:=h;obtain⟨a,b⟩:=O2 (t:=x.1) (rest:=le x.2.1 1++(le x.2.2 4++rest)) h1;obtain⟨c,d⟩:=O1 (n:=1) (x:=x.2.1) (by decide) (by decide) h2 (by show x.2.1<256;exact h3) (le x.2.2 4++rest);obtain⟨e,f⟩:=O1 (n:=4) (x:=x.2.2) (by decide) (by decide) h4 (by show x.2.2<256 ^ 4;omega) rest;have he:lP x++rest=(UInt8.ofNat x.1.length::x.1)++(le x.2.1 1++(le x.2.2 4++rest)):=by unfold lP;simp only[append_assoc]
 rw[he];unfold lL lK;rw[a,b];have d':gS 1 (0,le x.2.1 1++(le x.2.2 4++rest))=(0,le x.2.2 4++rest):=d;have c':gV 1 (0,le x.2.1 1++(le x.2.2 4++rest))=x.2.1:=c;rw[c',d'];have e':gV 4 (0,le x.2.2 4++rest)=x.2.2:=e;have f':gS 4 (0,le x.2.2 4++rest)=(0,rest):=f;rw[e',f'];exact⟨rfl,rfl⟩
theorem Bo{s:Rd}(h:(lK s).1=0):s.1=0∧s.2=lP (lL s)++(lK s).2∧(lL s).1.length≤255:=by
 obtain⟨a1,a2⟩:=N1 (n:=4) (by decide) (by decide) h;obtain⟨b1,b2⟩:=N1 (n:=1) (by decide) (by decide) a1;obtain⟨c1,c2,c3⟩:=GB b1;refine⟨c1,?_,c3⟩;unfold lP;rw[c2];show _=((UInt8.ofNat (gTx s).length::gTx s)++(le (gV 1 (fI s)) 1++le (gV 4 (gS 1 (fI s))) 4))++(gS 4 (gS 1 (fI s))).2;rw[append_assoc,append_assoc];congr 1;have b2':(fI s).2=le (gV 1 (fI s)) 1++(gS 1 (fI s)).2:=b2;have a2':(gS 1 (fI s)).2=le (gV 4 (gS 1 (fI s))) 4++(gS 4 (gS 1 (fI s))).2:=a2;rw[←a2',←b2']
theorem oP(x:Ent):(lP x).length=x.1.length+6:=by unfold lP;simp[aR]
theorem CR{ys:By}(h:(lK (0,ys)).1=0):(lK (0,ys)).2.length+6≤ys.length:=by
 have h2:=(Bo h).2.1;have:=congrArg List.length h2;rw[length_append,oP] at this;have e:((0,ys):Rd).2=ys:=rfl;rw[e] at this;omega
theorem vK:∀ (n:Nat) (last ys:By) (L:List Ent),ys.length<n→(dtP n last ys=some L↔aO last L∧ys=bA L)
|0,_,_,_,h=>by omega
|n+1,last,ys,L,h=>by
   unfold dtP;by_cases h0:ys=[]
   · rw[if_pos h0]
     subst h0;constructor
     ·intro h;cases h;exact⟨trivial,rfl⟩
     · rintro⟨h1,h2⟩
       cases L with
      |nil=>rfl
      |cons x r=>have:=congrArg List.length h2;simp[bA,oP] at this;omega
   · rw[if_neg h0]
     by_cases hg:(lK (0,ys)).1=0∧iS (lL (0,ys)) last
     · rw[if_pos hg]
       obtain⟨hg1,hg2⟩:=hg;have hc:=(Bo hg1).2.1;have e:((0,ys):Rd).2=ys:=rfl;rw[e] at hc;have hl:=CR hg1;have ih:=fun L=>vK n (lL (0,ys)).1 (lK (0,ys)).2 L (by omega);constructor
       · intro h
         obtain⟨R,hR,rfl⟩:=Option.map_eq_some_iff.1 h;obtain⟨i1,i2⟩:=(ih R).1 hR;refine⟨⟨hg2,i1⟩,?_⟩;show ys=lP _++bA R;rw[←i2];exact hc
       · rintro⟨h1,h2⟩
         cases L with
        |nil=>exact absurd h2 h0
        |cons x r=>
           obtain⟨a,b⟩:=EJ (kQ h1.1) (bA r);have h2':ys=lP x++bA r:=h2;rw[←h2'] at a b;rw[a,b];have:=(ih r).2 (by rw[a,b];exact⟨h1.2,rfl⟩);rw[a,b] at this;rw[this];rfl
     · rw[if_neg hg]
       constructor
       ·intro h;cases h
       · rintro⟨h1,h2⟩
         cases L with
        |nil=>exact absurd h2 h0
        |cons x r=>
           obtain⟨a,b⟩:=EJ (kQ h1.1) (bA r);have h2':ys=lP x++bA r:=h2;rw[←h2'] at a b;exact absurd ⟨by rw[b],by rw[a];exact h1.1⟩ hg
theorem DD{b:By}{L:List Ent}(h1:aO [] L)(h2:b=bA L):nO b=(L,0):=by
 unfold nO;rw[(vK (b.length+1) [] b L (by omega)).2 ⟨h1,h2⟩]
theorem GO{b:By}(h:∀ L,aO [] L→b=bA L→False):nO b=([],2):=by
 unfold nO;cases hd:dtP (b.length+1) [] b with
|none=>rfl
|some L=>obtain⟨a,c⟩:=(vK (b.length+1) [] b L (by omega)).1 hd;exact(h L a c).elim
theorem yB(b:By):(∃ L,nO b=(L,0)∧aO [] L∧b=bA L)∨nO b=([],2):=by
 unfold nO;cases hd:dtP (b.length+1) [] b with
|none=>exact .inr rfl
|some L=>exact .inl ⟨L,rfl,(vK (b.length+1) [] b L (by omega)).1 hd⟩
theorem jF{x:Ent}:∀ {l:List Ent} {last:By},aO last (l++[x])↔aO last l∧iS x (if l=[] then last else mD l)
|[],last=>by simp[aO]
|y::r,last=>by
   rw[cons_append];show iS y last∧aO y.1 (r++[x])↔(iS y last∧aO y.1 r)∧_;rw[jF];have hne:¬ (y::r=[]):=by simp
   rw[if_neg hne];have e:mD (y::r)=if r=[] then y.1 else mD r:=by
    unfold mD;cases r with
   |nil=>rfl
   |cons z r=>rw[if_neg (by simp),List.getLast?_cons_cons]
   rw[e,and_assoc]
theorem xG(l:List Ent)(x:Ent):mD (l++[x])=x.1:=by unfold mD;simp
theorem qP(l:List Ent)(x:Ent):bA (l++[x])=bA l++lP x:=by unfold bA;simp
theorem DN{l:List Ent}:∀ {last:By} (k:Nat),aO last l→aO last (l.take k):=by
 induction l with
|nil=>intro last k h;simp;exact h
|cons x r ih=>
   intro last k h;cases k with
  |zero=>exact trivial
  |succ k=>exact⟨h.1,ih k h.2⟩
def DtI(b:By)(l:List Ent)(s:Rd):Prop:=∀ L,aO [] L→b=bA L→∃ R,L=l++R∧s=(0,bA R)
theorem DtI.zero(b:By):DtI b [] (0,b):=fun L _ h=>⟨L,rfl,by rw[h]⟩
theorem DtI.step{b:By}{l:List Ent}{s:Rd}(h:DtI b l s)(hne:s.2≠[]):DtI b (l++[lL s]) (lK s)∧(∀ L,aO [] L→b=bA L→(lK s).1=0∧iS (lL s) (mD l)):=by
 have key:∀ L,aO [] L→b=bA L→∃ x R,L=l++x::R∧lL s=x∧lK s=(0,bA R)∧iS x (mD l):=by
  intro L h1 h2;obtain⟨R,rfl,hs⟩:=h L h1 h2;cases R with
 |nil=>rw[hs] at hne;exact absurd rfl hne
 |cons x R=>
    have h3:aO [] (l++[x]):=by
     have:=DN (l.length+1) h1;rw[List.take_append,take_of_length_le (by omega)] at this;simpa using this
    have hm:=(jF.1 h3).2;have hm':iS x (mD l):=by
     by_cases he:l=[]
     ·rw[if_pos he] at hm;subst he;exact hm
     ·rw[if_neg he] at hm;exact hm
    obtain⟨a,c⟩:=EJ (kQ hm') (bA R);have hs':s=(0,lP x++bA R):=hs;rw[←hs'] at a c;exact⟨x,R,rfl,a,c,hm'⟩
 refine⟨fun L h1 h2=>?_,fun L h1 h2=>?_⟩
 · obtain⟨x,R,rfl,a,c,_⟩:=key L h1 h2
   exact⟨R,by rw[a];simp,c⟩
 · obtain⟨x,R,rfl,a,c,d⟩:=key L h1 h2
   rw[a,c];exact⟨rfl,d⟩
theorem yK:∀ {L:List Ent} {last:By},aO last L→∀ x∈L,Ie x
|[],_,_,x,hx=>by cases hx
|y::r,_,h,x,hx=>by
   rcases mem_cons.1 hx with rfl|hx
   ·exact kQ h.1
   ·exact yK h.2 x hx
structure Rec where
 ref:Int
 ino:(Nat→Int)×By
 list:List Ent
 xs:List Xa
def nZ:Rec:=⟨0,(zF,[]),[],[]⟩
abbrev MSt:=List (Rec×Int)×Nat
def fD(im:By)(F:Nat→Int)(n:Int):List Xa×Int:=if 0<n then iO im (F 6) (F 0) (n-1) else ([],0)
def mO(F:Nat→Int)(ids:List Int)(R:((Nat→Int)×By)×Int×Int)(kind:Int):Prop:=
 R.2.2≠0∨R.1.1 0≠kind∨(ids.length:Int)≤R.1.1 2∨(ids.length:Int)≤R.1.1 3∨F 8<R.1.1 8
instance (F:Nat→Int)(ids:List Int)(R:((Nat→Int)×By)×Int×Int)(kind:Int):Decidable (mO F ids R kind):=by unfold mO;infer_instance
def zG(im:By)(F:Nat→Int)(G:Nat→Int):Prop:=128≤G 7∧((pQ im (G 6) (G 7) (F 2)).2≠0∨G 6<64)
instance (im:By)(F:Nat→Int)(G:Nat→Int):Decidable (zG im F G):=by unfold zG;infer_instance
def qH(im:By)(F:Nat→Int)(G:Nat→Int):List Ent×Int:=if (aD im (F 3) (F 4) (G 6) (G 7)).2.2≠0 then ([],2) else nO (aD im (F 3) (F 4) (G 6) (G 7)).1
def eV(im:By)(F:Nat→Int)(ids:List Int)(ref kind:Int):Option Rec:=
 if mO F ids (bJ im (F 2) (F 3) ref) kind then none
 else if (fD im F ((bJ im (F 2) (F 3) ref).1.1 5)).2≠0 then none
 else if kind=2 then (if zG im F (bJ im (F 2) (F 3) ref).1.1 then none else some ⟨ref,(bJ im (F 2) (F 3) ref).1,[],(fD im F ((bJ im (F 2) (F 3) ref).1.1 5)).1⟩)
 else if kind=1 then (if (qH im F (bJ im (F 2) (F 3) ref).1.1).2≠0 then none else some ⟨ref,(bJ im (F 2) (F 3) ref).1,(qH im F (bJ im (F 2) (F 3) ref).1.1).1,(fD im F ((bJ im (F 2) (F 3) ref).1.1 5)).1⟩)
 else some ⟨ref,(bJ im (F 2) (F 3) ref).1,[],(fD im F ((bJ im (F 2) (F 3) ref).1.1 5)).1⟩
def fZ(l:List (Rec×Int))(ref:Int):Option Nat:=l.findIdx? (fun r=>decide (r.1.ref=ref))
def dC(l:List (Rec×Int))(i:Nat):List (Rec×Int):=l.set i ((l.getD i (nZ,0)).1,(l.getD i (nZ,0)).2+1)
def goL(f:Int→Int→MSt→Option MSt):List Ent→MSt→Option MSt
|[],s=>some s
|y::r,s=>match f y.2.2 y.2.1 s with
  |none=>none
  |some s'=>goL f r s'
def goM(im:By)(F:Nat→Int)(ids:List Int):Nat→Int→Int→MSt→Option MSt
|0,_,_,_=>none
|n+1,ref,kind,s=>
   if 1024<s.2+1 then none else
   match fZ s.1 ref with
  |some i=>if kind≠1∧(s.1.getD i (nZ,0)).1.ino.1 0=kind then some (dC s.1 i,s.2+1) else none
  |none=>match eV im F ids ref kind with
    |none=>none
    |some x=>goL (goM im F ids n) x.list (s.1++[(x,1)],s.2+1)
structure Img where
 im:By
 F:Nat→Int
 places:List Int
 ids:List Int
 recs:List (Rec×Int)
def jJ(l:List Int):Prop:=∀ i,i+1<l.length→l.getD i 0<l.getD (i+1) 0
instance (l:List Int):Decidable (jJ l):=decidable_of_iff ((List.range (l.length-1)).all (fun i=>decide (l.getD i 0<l.getD (i+1) 0))=true) (by
 rw[all_eq_true];exact⟨fun h i hi=>of_decide_eq_true (h i (by rw[mem_range];omega)),fun h i hi=>decide_eq_true (h i (by rw[mem_range] at hi;omega))⟩)
def mnt(im:By):Option Img:=
 if (aH im).2≠0 then none
 else if (tnS im ((aH im).1 4) ((aH im).1 5) ((aH im).1 8) 4).2≠0 then none
 else if (tnS im ((aH im).1 5) ((aH im).1 6) ((aH im).1 7) 2).2≠0 then none
 else if ¬ jJ (tnS im ((aH im).1 5) ((aH im).1 6) ((aH im).1 7) 2).1 then none
 else match goM im (aH im).1 (tnS im ((aH im).1 5) ((aH im).1 6) ((aH im).1 7) 2).1 17 ((aH im).1 9) 1 ([],0) with
 |none=>none
 |some s=>if (s.1.length:Int)≠(aH im).1 1∨¬ (∀ r∈s.1,r.2=r.1.ino.1 4) then none
    else some ⟨im,(aH im).1,(tnS im ((aH im).1 4) ((aH im).1 5) ((aH im).1 8) 4).1,(tnS im ((aH im).1 5) ((aH im).1 6) ((aH im).1 7) 2).1,s.1⟩
def knM(g:Img)(ref:Int):Option Rec:=(fZ g.recs ref).map fun i=>(g.recs.getD i (nZ,0)).1
def wD(x:Rec):Int:=if x.ino.1 0=1 then x.list.length else if x.ino.1 0=3 then x.ino.2.length else x.ino.1 7
def stM(g:Img)(x:Rec):List Int:=[x.ino.1 0,x.ino.1 1,g.ids.getD (x.ino.1 2).toNat 0,g.ids.getD (x.ino.1 3).toNat 0,x.ino.1 4,wD x]
def uG(g:Img)(ref:Int):List Int×Int:=match knM g ref with
|none=>([0,0,0,0,0,0],1)
|some x=>(stM g x,0)
def mB(g:Img)(ref:Int):List Ent×Int:=match knM g ref with
|none=>([],1)
|some x=>if x.ino.1 0≠1 then ([],24) else (x.list,0)
def yY(g:Img)(ref:Int):By×Int:=match knM g ref with
|none=>([],1)
|some x=>if x.ino.1 0≠3 then ([],1) else (x.ino.2,0)
def vP(g:Img)(ref:Int):List Xa×Int:=match knM g ref with
|none=>([],1)
|some x=>(x.xs,0)
def tF(g:Img)(x:Rec)(off n:Int):By×Int:=
 if (gY g.im (x.ino.1 6) (x.ino.1 7) off n).2≠0 then ([],35)
 else if ((gY g.im (x.ino.1 6) (x.ino.1 7) off n).1.length:Int)=n then ((gY g.im (x.ino.1 6) (x.ino.1 7) off n).1,0)
 else if (fA g.im g.places (x.ino.1 8) (x.ino.1 9+(if off-x.ino.1 7/128*128<0 then 0 else off-x.ino.1 7/128*128)) (n-(gY g.im (x.ino.1 6) (x.ino.1 7) off n).1.length)).2≠0 then ([],35)
 else ((gY g.im (x.ino.1 6) (x.ino.1 7) off n).1++(fA g.im g.places (x.ino.1 8) (x.ino.1 9+(if off-x.ino.1 7/128*128<0 then 0 else off-x.ino.1 7/128*128)) (n-(gY g.im (x.ino.1 6) (x.ino.1 7) off n).1.length)).1,0)
def jR(g:Img)(ref off n:Int):By×Int:=match knM g ref with
|none=>([],1)
|some x=>if x.ino.1 0=1 then ([],25) else if x.ino.1 0=3∨off<0∨n<0 then ([],1) else if x.ino.1 7≤off then ([],0)
   else tF g x off (if x.ino.1 7-off<n then x.ino.1 7-off else n)
theorem I2(F:Nat→Int){o:Nat}(h:o<10)(z:Int):(dB F).set o (iV z)=dB (upd F o z):=by
 match o,h with
|0,_|1,_|2,_|3,_|4,_|5,_|6,_|7,_|8,_|9,_=>simp[dB,upd]
def fdZ:Fd:=⟨0,0,0,0⟩
theorem I9{j:Nat}(h:j<10):(suL.getD j fdZ).o<10:=by
 match j,h with
|0,_|1,_|2,_|3,_|4,_|5,_|6,_|7,_|8,_|9,_=>decide
def suE(F:Nat→Int)(j:Nat):By:=suM++dT F (suL.take j)
theorem Ja(F:Nat→Int){j:Nat}(h:j<10):suE F (j+1)=suE F j++le (F (suL.getD j fdZ).o) (suL.getD j fdZ).b.toNat:=by
 have hl:j<suL.length:=h;unfold suE dT;rw[take_succ_eq_append_getElem hl,List.flatMap_append,append_assoc];congr 2;simp[List.getD,hl]
theorem L1(F:Nat→Int)(j:Nat):(suE F j).length≤38:=by
 unfold suE;rw[length_append,mJ];by_cases h:j<10
 · match j,h with
  |0,_|1,_|2,_|3,_|4,_|5,_|6,_|7,_|8,_|9,_=>decide
 ·rw[take_of_length_le (show suL.length≤j from by show 10≤j;omega)];decide
theorem ML{F:Nat→Int}(h:fG F){j:Nat}(hj:j<10):¬ gE (F (suL.getD j fdZ).o) (suL.getD j fdZ).b:=by
 obtain⟨⟨a1,a2,a3,a4,a5,a6,a7⟩,b1,b2,b3,b4,b5,b6,b7,b8⟩:=h;have wide:∀ z:Int,0≤z→z≤4294967295→¬ gE z 4:=fun z h0 h1=>fB (m:=4294967295) (by decide) (by decide) h0 h1 (by decide);have narrow:∀ z:Int,0≤z→z≤65535→¬ gE z 2:=fun z h0 h1=>fB (m:=65535) (by decide) (by decide) h0 h1 (by decide)
 match j,hj with
|0,_=>exact wide (F 0) (by omega) (by omega)
|1,_=>exact wide (F 2) (by omega) (by omega)
|2,_=>exact wide (F 3) (by omega) (by omega)
|3,_=>exact wide (F 4) (by omega) (by omega)
|4,_=>exact wide (F 5) (by omega) (by omega)
|5,_=>exact wide (F 6) (by omega) (by omega)
|6,_=>exact wide (F 9) (by omega) (by omega)
|7,_=>exact narrow (F 1) (by omega) (by omega)
|8,_=>exact narrow (F 7) (by omega) (by omega)
|9,_=>exact narrow (F 8) (by omega) (by omega)
theorem lW(D:Nat→Prop)(p:Nat)(xs:By)(x n:Int)(W:World)(hx:¬ gE x n)(hP:WrR D W.heap p 0 xs)(hD:∀ k,W.heap.size≤k→D k)(hb:xs.length≤1099511627776) :
 CA 61 [pT p,iV x,iV n] W fun v w'=>WrR D w'.heap p 0 (xs++le x n.toNat)∧aA D W w':=by
 refine(dA D p 0 xs x n W hP hD hb).mono ?_;rintro e w' ⟨v,rfl,h1,h2⟩;have h0:fY 0 x n=0:=Ax (by rintro(h|h);exact h rfl;exact hx h);rw[h0,kC h0] at h1;exact⟨_,rfl,h1,h2⟩
theorem lI(F:Nat→Int)(hm:fG F)(j:Nat)(hj:j<10)(D:Nat→Prop)(p:Nat)(W:World)(hP:WrR D W.heap p 0 (suE F j))(hD:∀ k,W.heap.size≤k→D k) :
 CA 61 [pT p,iV (F (suL.getD j fdZ).o),iV (suL.getD j fdZ).b] W fun v w'=>WrR D w'.heap p 0 (suE F (j+1))∧aA D W w':=by
 rw[Ja F hj];exact lW D p _ _ _ W (ML hm hj) hP hD (by have:=L1 F j;omega)
def suX(F:Nat→Int)(n:Nat):By:=suH F++(le (dW (suH F):Nat) 4++List.replicate n 0)
theorem qX(F:Nat→Int)(n:Nat):(suX F n).length=42+n:=by unfold suX;rw[length_append,length_append,Bi,aR,List.length_replicate];omega
theorem Cr(F:Nat→Int)(n:Nat):suX F (n+1)=suX F n++[0]:=by unfold suX;rw[List.replicate_succ'];simp only[append_assoc]
theorem Jp(F:Nat→Int)(W:World) :
 CA 31 [.agg (dB F).toArray] W (zH W (mW F)):=by
 refine cS 58 [(0,_)] Tryz.func31 ?_;refine Gz 2 ?_;refine T1 rfl rfl ?_;intro w1 hg1 hs1 hf1;have hg1:w1.heap[W.heap.size]?=some (.cells (dB F).toArray 93 (0,0)):=hg1;obtain⟨g,eg⟩:∃ g,g=W.heap.size:=⟨_,rfl⟩
 rw[←eg] at hg1 ⊢;refine Gz 6 ?_;refine cL (TI (cs:=dB F) dS rfl (cC hg1 0 rfl)) ?_;refine cA 0 SQ (Jt F w1) ?_;rintro _ w2 ⟨rfl,hf2⟩;have hg2:=hf2.obj hg1 id;have hW2:=hf1.trans hf2;obtain⟨p,ep⟩:∃ p,p=w2.heap.size:=⟨_,rfl⟩
 refine Gz 7 ?_;refine TZ (Uj rfl) rfl (fun h10=>?_) (fun h10=>?_)
 ·have hm:¬ fG F:=of_decide_eq_false h10;refine Gz 12 ?_;have e:mW F=([],1):=if_neg hm;rw[e];exact⟨_,rfl,none,0,rfl,WA,Wy,hW2⟩
 have hm:fG F:=byContradiction fun h=>h10 (decide_eq_false h);refine Gz 7 ?_;refine cL (TT qD kW rfl rfl) ?_;refine Tz kW rfl ?_;intro w3 hg3 hs3 hf3;rw[←ep] at hg3 ⊢;refine sA rfl qS (by simp[Value.oneCell']) hg3 ?_;intro w4 hg4 hs4 hf4;have hF4:aA nob w2 w4:=hf3.tw hf4;refine Gz 4 ?_;refine TS aK (cs:=(suM.map b8).toArray) zc5 rfl rfl rfl (by kernel_rfl) rfl ?_;intro w5 hg5 hs5 hf5;have ho5:=lD (e:=5) (enc:=b8) (xs:=suM) hg5 (by decide);refine VS aK ty5 (xs:=suM) rfl hg5 ho5.vw rfl ?_;intro w6 hv6 hs6 hf6;have hf46:aA nob w4 w6:=hf5.tw hf6;have hF6:=hF4.trans hf46;refine Ts KU rfl (lZ (fun k=>p≤k) p 0 [] _ _ suM w6 ((WI hg4 (Nat.le_refl _)).WR hf46) (fun k hk=>by have:=hF6.size;omega) hv6 (by simp) (by decide)) rfl ?_;rintro _ u0 ⟨hP0,hQ0⟩;have hP0:WrR (fun k=>p≤k) u0.heap p 0 (suE F 0):=hP0;have hF0:aA nob w2 u0:=(hF6.any.trans hQ0).fresh (fun k hk=>by omega);refine Gz 5 ?_;refine cL (Tu aI rfl (aE (hF0.obj hg2 id) rfl)) ?_;refine Ts fU rfl (lI F hm 0 (by decide) (fun k=>p≤k) p u0 hP0 (fun k hk=>by have:=hF0.size;omega)) rfl ?_;rintro _ u1 ⟨hP1,hQ1⟩;have hF1:aA nob w2 u1:=(hF0.any.trans hQ1).fresh (fun k hk=>by omega);refine Gz 5 ?_;refine cL (Tu aI rfl (aE (hF1.obj hg2 id) rfl)) ?_;refine Ts fU rfl (lI F hm 1 (by decide) (fun k=>p≤k) p u1 hP1 (fun k hk=>by have:=hF1.size;omega)) rfl ?_;rintro _ u2 ⟨hP2,hQ2⟩;have hF2:aA nob w2 u2:=(hF1.any.trans hQ2).fresh (fun k hk=>by omega);refine Gz 5 ?_;refine cL (Tu aI rfl (aE (hF2.obj hg2 id) rfl)) ?_;refine Ts fU rfl (lI F hm 2 (by decide) (fun k=>p≤k) p u2 hP2 (fun k hk=>by have:=hF2.size;omega)) rfl ?_;rintro _ u3 ⟨hP3,hQ3⟩;have hF3:aA nob w2 u3:=(hF2.any.trans hQ3).fresh (fun k hk=>by omega);refine Gz 5 ?_;refine cL (Tu aI rfl (aE (hF3.obj hg2 id) rfl)) ?_;refine Ts fU rfl (lI F hm 3 (by decide) (fun k=>p≤k) p u3 hP3 (fun k hk=>by have:=hF3.size;omega)) rfl ?_;rintro _ u4 ⟨hP4,hQ4⟩;have hF4:aA nob w2 u4:=(hF3.any.trans hQ4).fresh (fun k hk=>by omega);refine Gz 5 ?_;refine cL (Tu aI rfl (aE (hF4.obj hg2 id) rfl)) ?_;refine Ts fU rfl (lI F hm 4 (by decide) (fun k=>p≤k) p u4 hP4 (fun k hk=>by have:=hF4.size;omega)) rfl ?_;rintro _ u5 ⟨hP5,hQ5⟩;have hF5:aA nob w2 u5:=(hF4.any.trans hQ5).fresh (fun k hk=>by omega);refine Gz 5 ?_;refine cL (Tu aI rfl (aE (hF5.obj hg2 id) rfl)) ?_;refine Ts fU rfl (lI F hm 5 (by decide) (fun k=>p≤k) p u5 hP5 (fun k hk=>by have:=hF5.size;omega)) rfl ?_;rintro _ u6 ⟨hP6,hQ6⟩;have hF6:aA nob w2 u6:=(hF5.any.trans hQ6).fresh (fun k hk=>by omega);refine Gz 5 ?_;refine cL (Tu aI rfl (aE (hF6.obj hg2 id) rfl)) ?_;refine Ts fU rfl (lI F hm 6 (by decide) (fun k=>p≤k) p u6 hP6 (fun k hk=>by have:=hF6.size;omega)) rfl ?_;rintro _ u7 ⟨hP7,hQ7⟩;have hF7:aA nob w2 u7:=(hF6.any.trans hQ7).fresh (fun k hk=>by omega);refine Gz 5 ?_;refine cL (Tu aI rfl (aE (hF7.obj hg2 id) rfl)) ?_;refine Ts fU rfl (lI F hm 7 (by decide) (fun k=>p≤k) p u7 hP7 (fun k hk=>by have:=hF7.size;omega)) rfl ?_;rintro _ u8 ⟨hP8,hQ8⟩;have hF8:aA nob w2 u8:=(hF7.any.trans hQ8).fresh (fun k hk=>by omega);refine Gz 5 ?_;refine cL (Tu aI rfl (aE (hF8.obj hg2 id) rfl)) ?_;refine Ts fU rfl (lI F hm 8 (by decide) (fun k=>p≤k) p u8 hP8 (fun k hk=>by have:=hF8.size;omega)) rfl ?_;rintro _ u9 ⟨hP9,hQ9⟩;have hF9:aA nob w2 u9:=(hF8.any.trans hQ9).fresh (fun k hk=>by omega);refine Gz 5 ?_;refine cL (Tu aI rfl (aE (hF9.obj hg2 id) rfl)) ?_;refine Ts fU rfl (lI F hm 9 (by decide) (fun k=>p≤k) p u9 hP9 (fun k hk=>by have:=hF9.size;omega)) rfl ?_;rintro _ u10 ⟨hP10,hQ10⟩;have hF10:aA nob w2 u10:=(hF9.any.trans hQ10).fresh (fun k hk=>by omega);refine Gz 5 ?_;have hPP:WrR (fun k=>p≤k) u10.heap p 0 (suH F):=hP10;obtain⟨ao,c,hobj,hown,hap,hDp,hDa⟩:=hPP;refine cA 1 PP (F0 ao c (suH F) u10 hown.vw) ?_;rintro _ wq ⟨rfl,hwq⟩;subst wq;refine cL (TD (n:=((dW (suH F):Nat):Int)) MY ty3 rfl (bG (by have:=qW (suH F);omega))) ?_;refine Ts fU rfl (lW (fun k=>p≤k) p (suH F) _ 4 u10 (fB (m:=4294967295) (by decide) (by decide) (Int.natCast_nonneg _) (by have:=qW (suH F);omega) (by decide)) ⟨ao,c,hobj,hown,hap,hDp,hDa⟩ (fun k hk=>by have:=hF10.size;omega) (by rw[Bi];decide)) rfl ?_;rintro _ u11 ⟨hP11,hQ11⟩;have hF11:aA nob w2 u11:=(hF10.any.trans hQ11).fresh (fun k hk=>by omega);have hP11:WrR (fun k=>p≤k) u11.heap p 0 (suX F 0):=by rw[show suX F 0=suH F++le (dW (suH F):Nat) 4 by unfold suX;simp];exact hP11
 refine Gz 4 ?_;refine Ts BL rfl (gZ (fun k=>p≤k) p 0 (suX F 0) u11 hP11 (by rw[qX];decide)) rfl ?_;rintro _ u12 ⟨o12,c12,rfl,ho12,hfr12,hf12⟩;refine Gz 5 ?_;refine TA (β:=Nat×(Option Addr×Nat)) (fun⟨n,⟨o,c⟩⟩=>[(6,.slice o (suX F n).length c)]) (fun⟨n,⟨o,c⟩⟩ w=>n≤22∧Own b8 5 w.heap o c (suX F n)∧Fr W.heap.size o∧aA nob W w) (fun⟨n,⟨o,c⟩⟩=>22-n) ⟨0,⟨o12,c12⟩⟩ ⟨rfl,trivial⟩ ⟨Nat.zero_le _,ho12,hfr12.mono (by have:=hF11.size;have:=hW2.size;omega),(hW2.trans hF11).trans hf12⟩ ?_;rintro⟨n,⟨o,c⟩⟩ w ⟨hn22,ho,hfr,hF⟩;refine fK 5 ?_ ?_<;>intro h53
 ·have hn:n<22:=by rw[qX] at h53;omega
  refine Gz 1 ?_;refine aW [(6,_),(53,_)] ?_;refine Gz 7 ?_;refine T3 (enc:=b8) (u:=(0:UInt8)) aK (aV _) rfl rfl ?_;intro v1 ho1 hs1 hvf1;refine TB aV aK rfl rfl (ho.WR hvf1) ho1.vw (by rw[qX];simp only[length_singleton];omega) (by rw[qX];simp only[length_singleton];unfold maxLen;omega) rfl ?_;intro o2 c2 v2 ho2 hvf2 hr2 hn2;refine Gz 3 ?_;refine TO ⟨n+1,⟨o2,c2⟩⟩ ⟨?_,trivial⟩ ⟨by omega,by rw[Cr];exact ho2,bK hfr hr2 (by have:=hF.size;have:=hvf1.size;omega),(hF.trans hvf1).WO hvf2 (fun k ⟨a,ha,e⟩=>.inr (by have:=hfr a ha;omega))⟩ (by show 22-(n+1)<22-n;omega);show _=some (Value.slice o2 (suX F (n+1)).length c2);rw[Cr];rfl
 have hn:n=22:=by rw[qX] at h53;omega
 refine Gz 1 ?_;refine aW [(6,_),(53,_)] ?_;refine Gz 16 ?_;subst hn;have e:mW F=(suX F 22,0):=if_pos hm;rw[e];exact⟨_,rfl,o,c,rfl,ho,hfr,hF⟩
section
variable {P:Program}{N:Nt}{l:SF}{ty:TypeId}{pos:String}{aft:Array Edge}{CH:Array Obj→Prop}{x:Operand}{t t2 e:TypeId}{g:Option (Nat×Bool)}{dd:Option Nat}{n size bytes:Nat}
theorem VG{parts:List (Nat×Operand)}{vs:List (Nat×Value)}{zc cs:Array Value}(hu:P.underlying t=some (.array n e))(ht:aS P t2 e size bytes)(hz:(P.info? t).map (fun i=>i.zero.map (·.cells))=some (some zc))
 (hx:evPs l parts=some vs)(hf:Instr.fill (fun i=>some (i*size,size)) zc vs=some cs):Cm P N CH l ⟨dd,.build t parts.toArray,ty,pos,aft,g⟩ (.agg cs):=fun a w ha _=>by
 obtain⟨i,hi,h1⟩:=Option.map_eq_some_iff.1 hz;obtain⟨z,hz',rfl⟩:=Option.map_eq_some_iff.1 h1;have hv:=ha.evPs hx;simp only[execOp,Instr.build,Sem.run_bind,zeroValue,typeInfo,run_program,Result.andThen_ok,hi,hz',run_underlying hu,Sem.run_pure,ht.size,List.map_toArray,hv];rw[hf];simp
theorem Vp{ad:Addr}(hu:P.underlying t=some (.array n e))(ht:aS P t2 e size bytes)(hx:evL l x=some (.pointer (some ad))):Cm P N CH l ⟨dd,.slice t x none none none,ty,pos,aft,g⟩ (.slice (some ad) n n):=fun a w ha _=>by
 simp only[execOp,ha.ev hx,Instr.sliceAt,Sem.run_bind,run_underlying hu,Result.andThen_ok,Instr.sureAddr,Instr.sliceBounds,Sem.run_pure,ht.size];by_cases h:n=0
 ·simp[h]
 ·simp[h,Addr.add]
end
theorem I7(x:Int)(W:World):CA 137 [iV x] W fun v w'=>v=.bool false∧w'=W:=by
 refine cS 6 [(0,_)] Tryz.func137 ?_;refine Gz 9 ?_;refine cL (Um (Ub rfl rfl) (fun h=>h rfl)) ?_;refine Gz 5 ?_;exact⟨_,rfl,rfl,rfl⟩
theorem G9(x y:Int)(W:World):CA 117 [iV x,iV y] W fun v w'=>v=.bool (decide (x<y))∧w'=W:=by
 refine cS 17 [(0,_),(1,_)] Tryz.func117 ?_;refine cA 8 Qj (I7 x W) ?_;rintro _ w1 ⟨rfl,hw1⟩;subst w1;refine Gz 8 ?_;refine cW (Ut rfl rfl) ?_;refine Gz 6 ?_;exact⟨_,rfl,rfl,rfl⟩
def upI(l:List Int):Prop:=∀ i,i+1<l.length→l.getD i 0≤l.getD (i+1) 0
instance (l:List Int):Decidable (upI l):=decidable_of_iff ((List.range (l.length-1)).all (fun i=>decide (l.getD i 0≤l.getD (i+1) 0))=true) (by
 rw[all_eq_true];exact⟨fun h i hi=>of_decide_eq_true (h i (by rw[mem_range];omega)),fun h i hi=>decide_eq_true (h i (by rw[mem_range] at hi;omega))⟩)
theorem uF(lo:Option Addr)(lc:Nat)(l:List Int)(W:World)(hv:Vw i64 W.heap lo lc l) :
 CA 79 [.slice lo l.length lc] W fun v w'=>v=.bool (decide (upI l))∧aA nob W w':=by
 have h63:=hv.WQ;refine cS 21 [(0,_)] Tryz.func79 ?_;refine Gz 15 ?_;refine TA (β:=Int) (fun z=>[(0,.slice lo l.length lc),(3,iV z)]) (fun z w=>-1≤z∧z<l.length∧(∀ j:Nat,z≤j→j+1<l.length→l.getD j 0≤l.getD (j+1) 0)∧aA nob W w) (fun z=>z.toNat) ((l.length:Int)-1) ⟨rfl,rfl,trivial⟩ ⟨by omega,by omega,fun j h1 h2=>by omega,Wt _ _⟩ ?_;rintro z w ⟨hz1,hz2,hall,hF⟩;refine fK 4 ?_ ?_<;>intro h8
 ·refine Gz 8 ?_;refine TG 9 (fun H=>Vw i64 H lo lc l) [9] [0,1,2,3,4,5,6,7,8,9] aL (by kernel_rfl) (hv.WR hF) ?_;refine Gz 2 ?_;refine xC rfl (Tt bP rfl rfl hv.non (by omega)) ?_;refine xC rfl (TF aI rfl (fun H hH=>hH.gz 0 z.toNat (by omega) (by omega))) ?_;refine Gz 3 ?_;refine xC rfl (Tt bP rfl rfl hv.non (by omega)) ?_;refine xC rfl (TF aI rfl (fun H hH=>hH.gz 0 (z-1).toNat (by omega) (by omega))) ?_;refine Ty rfl rfl (Ts Qs rfl (G9 (l.getD z.toNat 0) (l.getD (z-1).toNat 0) _) rfl ?_);rintro _ w1 ⟨rfl,rfl⟩;refine T6 rfl ?_;by_cases h20:l.getD z.toNat 0<l.getD (z-1).toNat 0
  ·rw[decide_eq_true h20];refine Gz 15 ?_;exact⟨_,rfl,by rw[decide_eq_false (fun h=>by have:=h (z-1).toNat (by omega);rw[show (z-1).toNat+1=z.toNat by omega] at this;omega)],hF.draws 1⟩
  rw[decide_eq_false h20];refine Gz 11 ?_;refine aG (z-1) ⟨by omega,by omega,fun j h1 h2=>?_,hF.draws 1⟩ (by show (z-1).toNat<z.toNat;omega);by_cases e:(j:Int)=z-1
  · have e1:(z-1).toNat=j:=by omega
    have e2:z.toNat=j+1:=by omega
    rw[e1,e2] at h20;omega
  ·exact hall j (by omega) h2
 refine Gz 15 ?_;exact⟨_,rfl,by rw[decide_eq_true (show upI l from fun i hi=>hall i (by omega) hi)],hF⟩
section
variable {R:UInt8→Prop}[DecidablePred R]
theorem Ek(f:FuncId)(hf:fnB Tryz.prog f=true)(lo:Option Addr)(lc:Nat)(b:By)(W:World)(hv:Vw b8 W.heap lo lc b)
 (hc:∀ w c,Calls Tryz.prog f [b8 c].toArray w (Ret fun v w'=>v=.bool (decide (R c))∧w'=w)) :
 CA 114 [.slice lo b.length lc,.func (.func f) #[] #[]] W fun v w'=>∃ z:Int,v=iV z∧(0≤z↔∃ c∈b,R c)∧w'=W:=by
 have h63:=hv.WQ;refine cS 19 [(0,_),(1,_)] Tryz.func114 ?_;refine Gz 14 ?_;refine TA (β:=Nat) (fun i=>[(0,.slice lo b.length lc),(1,.func (.func f) #[] #[]),(7,iV b.length),(8,iV i)]) (fun i w=>i≤b.length∧(∀ j,j<i→¬ R (b.getD j 0))∧w=W) (fun i=>b.length-i) 0 ⟨rfl,rfl,rfl,rfl,trivial⟩ ⟨Nat.zero_le _,fun j hj=>by omega,rfl⟩ ?_;rintro i w ⟨hi,hno,hw⟩;subst w;refine fK 2 ?_ ?_<;>intro h9
 ·have hil:i<b.length:=by omega
  refine Gz 19 ?_;refine cL (Tt aK rfl rfl hv.non (by omega)) ?_;refine cL (Tu gW rfl (hv.gz 0 i rfl hil)) ?_;refine UL hf rfl rfl (hc W (b.getD i 0)) rfl ?_;rintro _ w1 ⟨rfl,hw1⟩;subst w1;by_cases h16:R (b.getD i 0)
  ·rw[decide_eq_true h16];refine Gz 16 ?_;exact⟨_,rfl,i,rfl,⟨fun _=>⟨_,(by rw[List.getD,List.getElem?_eq_getElem hil];exact List.getElem_mem hil),h16⟩,fun _=>by omega⟩,rfl⟩
  rw[decide_eq_false h16];refine Gz 10 ?_;refine aG (i+1) ⟨by omega,fun j hj=>?_,rfl⟩ (by show b.length-(i+1)<b.length-i;omega);by_cases e:j=i
  ·subst e;exact h16
  ·exact hno j (by omega)
 refine Gz 16 ?_;exact⟨_,rfl,-1,rfl,⟨fun h=>by omega,fun⟨c,hc1,hc2⟩=>by obtain⟨j,hj,rfl⟩:=List.getElem_of_mem hc1;exact absurd hc2 (by have:=hno j (by omega);rwa[List.getD,List.getElem?_eq_getElem hj] at this)⟩,rfl⟩
theorem yZ(f:FuncId)(hf:fnB Tryz.prog f=true)(lo:Option Addr)(lc:Nat)(b:By)(W:World)(hv:Vw b8 W.heap lo lc b)
 (hc:∀ w c,Calls Tryz.prog f [b8 c].toArray w (Ret fun v w'=>v=.bool (decide (R c))∧w'=w)) :
 CA 75 [.slice lo b.length lc,.func (.func f) #[] #[]] W fun v w'=>v=.bool (decide (∃ c∈b,R c))∧w'=W:=by
 refine cS 9 [(0,_),(1,_)] Tryz.func75 ?_;refine cA 9 Qu (Ek f hf lo lc b W hv hc) ?_;rintro _ w1 ⟨z,rfl,hz,hw1⟩;subst w1;refine cL (UI rfl rfl) ?_;refine Gz 5 ?_;exact⟨_,rfl,congrArg _ (decide_eq_decide.2 hz),rfl⟩
end
theorem Ei(W:World)(c:UInt8):CA 76 [b8 c] W fun v w'=>v=.bool (decide (c≠0))∧w'=W:=by
 refine cS 5 [(0,_)] Tryz.func76 ?_;refine Gz 8 ?_;refine cL (Ub rfl rfl) ?_;refine Gz 5 ?_;refine⟨_,rfl,congrArg Value.bool (decide_eq_decide.2 (not_congr ⟨fun h=>?_,fun h=>by rw[h];rfl⟩)),rfl⟩;exact UInt8.toNat_inj.1 (by show c.toNat=0;omega)
def nJ(E:Int)(ys:By):Int:=if E≠0 then 0 else ys.length
theorem sZ{D:Nat→Prop}(p:Nat)(E:Int)(ys:By)(W:World)(hP:RdL D W.heap p E ys) :
 CA 71 [pT p] W fun v w'=>v=iV (nJ E ys)∧w'=W:=by
 obtain⟨ao,c,hobj,hv,hap⟩:=hP;refine cS 14 [(0,_)] Tryz.func71 ?_;refine fK 13 ?_ ?_<;>intro h8
 ·refine Gz 11 ?_;exact⟨_,rfl,by unfold nJ;rw[if_pos h8],rfl⟩
 refine Gz 17 ?_;exact⟨_,rfl,by unfold nJ;rw[if_neg h8],rfl⟩
theorem Cq{D:Nat→Prop}(p:Nat)(E:Int)(ys:By)(W:World)(hP:RdL D W.heap p E ys) :
 CA 72 [pT p] W fun v w'=>v=iV E∧w'=W:=by
 obtain⟨ao,c,hobj,hv,hap⟩:=hP;refine cS 7 [(0,_)] Tryz.func72 ?_;refine Gz 16 ?_;exact⟨_,rfl,rfl,rfl⟩
theorem kY(x a b:Int)(W:World):CA 113 [iV x,iV a,iV b] W fun v w'=>v=.bool (decide (a≤x∧x≤b))∧w'=W:=by
 refine cS 15 [(0,_),(1,_),(2,_)] Tryz.func113 ?_;refine fK 9 ?_ ?_<;>intro h9
 ·refine fW 3 ?_ ?_<;>intro h13
  ·refine Gz 6 ?_;exact⟨_,rfl,by rw[decide_eq_true ⟨h9,h13⟩],rfl⟩
  refine Gz 6 ?_;exact⟨_,rfl,by rw[decide_eq_false (fun h:a≤x∧x≤b=>by omega)],rfl⟩
 refine Gz 10 ?_;exact⟨_,rfl,by rw[decide_eq_false (fun h:a≤x∧x≤b=>by omega)],rfl⟩
theorem LX(F:Nat→Int)(W:World):CA 112 [.agg (dB F).toArray] W fun v w'=>v=.agg ((cO F).map i64).toArray∧aA nob W w':=by
 refine cS 16 [(0,_)] Tryz.func112 ?_;refine Gz 2 ?_;refine T1 rfl rfl ?_;intro w1 hg1 hs1 hf1;have hg1:w1.heap[W.heap.size]?=some (.cells (dB F).toArray 93 (0,0)):=hg1;obtain⟨g,eg⟩:∃ g,g=W.heap.size:=⟨_,rfl⟩
 rw[←eg] at hg1 ⊢;refine Tz II rfl ?_;intro w2 hg2a hs2 hf2;have hg2:=hf2.obj hg1 id;obtain⟨r,er⟩:∃ r,r=w1.heap.size:=⟨_,rfl⟩
 rw[←er] at hg2a ⊢;refine Gz 16 ?_;refine cL (VG (n:=8) (cs:=((cO F).map i64).toArray) (by kernel_rfl) bP II rfl (by kernel_rfl)) ?_;refine sA rfl Fw (by intro v hv;obtain⟨z,_,rfl⟩:=mem_map.1 hv;rfl) hg2a ?_;intro w3 hg3 hs3 hf3;refine Gz 3 ?_;refine U1 (cs:=(cO F).map i64) rfl Fw rfl (fun j v hj=>aE hg3 hj) ?_;exact⟨_,rfl,rfl,(hf1.trans hf2).tw hf3⟩
theorem I3(F:Nat→Int)(W:World):CA 74 [.agg (dB F).toArray] W fun v w'=>v=.bool (decide (fG F))∧aA nob W w':=by
 refine cS 28 [(0,_)] Tryz.func74 ?_;refine Gz 2 ?_;refine T1 rfl rfl ?_;intro w1 hg1 hs1 hf1;have hg1:w1.heap[W.heap.size]?=some (.cells (dB F).toArray 93 (0,0)):=hg1;obtain⟨g,eg⟩:∃ g,g=W.heap.size:=⟨_,rfl⟩
 rw[←eg] at hg1 ⊢;refine Gz 5 ?_;refine cL (TI (cs:=dB F) dS rfl (cC hg1 0 rfl)) ?_;refine cA 0 Qv (LX F w1) ?_;rintro _ w2 ⟨rfl,hf2⟩;refine Tz II rfl ?_;intro w3 hg3a hs3 hf3;refine sA rfl Fw (by intro v hv;obtain⟨z,_,rfl⟩:=mem_map.1 hv;rfl) hg3a ?_;intro w3b hg3 hs3b hf3b;obtain⟨r,er⟩:∃ r,r=w2.heap.size:=⟨_,rfl⟩
 rw[←er] at hg3 hf3b ⊢;have hF3:aA nob w1 w3b:=(hf2.trans hf3).WO hf3b (fun k hk=>.inr (by have h:k=r:=hk;have:=hf2.size;omega));have hv3:Vw i64 w3b.heap (some ⟨r,0,none⟩) 8 (cO F):=⟨by show 8≤8;decide,by decide,fun _=>by simp,fun i x hx=>by
  have h1:((cO F).map i64)[i]?=some (i64 x):=by rw[List.getElem?_map,hx];rfl
  exact aE hg3 h1⟩
 refine Gz 4 ?_;refine cL (Vp (n:=8) (by kernel_rfl) bP rfl) ?_;refine cA 0 PM (uF (some ⟨r,0,none⟩) 8 (cO F) w3b hv3) ?_;rintro _ w4 ⟨rfl,hf4⟩;have hW4:=(hf1.trans hF3).trans hf4;have hg4:=(hF3.trans hf4).obj hg1 id;by_cases h7:upI (cO F)
 ·rw[decide_eq_true h7];have hso:zY F:=qZ.2 (fun i hi=>h7 i hi);refine Gz 3 ?_;refine TJ rfl rfl GI rfl (kY _ _ _ w4) rfl ?_;rintro _ w5 ⟨rfl,hw5⟩;subst w5;by_cases h11:1≤F 1∧F 1≤1024
  ·rw[decide_eq_true h11];refine Gz 4 ?_;refine TJ rfl rfl GI rfl (kY _ _ _ w4) rfl ?_;rintro _ w5 ⟨rfl,hw5⟩;subst w5;by_cases h16:1≤F 7∧F 7≤2048
   ·rw[decide_eq_true h16];refine Gz 4 ?_;refine TJ rfl rfl GI rfl (kY _ _ _ w4) rfl ?_;rintro _ w5 ⟨rfl,hw5⟩;subst w5;by_cases h21:0≤F 8∧F 8≤1024
    ·rw[decide_eq_true h21];refine Gz 4 ?_;refine TJ rfl rfl GI rfl (kY _ _ _ w4) rfl ?_;rintro _ w5 ⟨rfl,hw5⟩;subst w5;by_cases h26:0≤F 9∧F 9≤4294967295
     ·rw[decide_eq_true h26];refine Gz 6 ?_;exact⟨_,rfl,by rw[decide_eq_true ⟨hso,h11.1,h11.2,h16.1,h16.2,h21.1,h21.2,h26.1,h26.2⟩],hW4⟩
     rw[decide_eq_false h26];refine Gz 6 ?_;exact⟨_,rfl,by rw[decide_eq_false (fun h=>by first|exact hso h.1|(unfold fG at h;omega))],hW4⟩
    rw[decide_eq_false h21];refine Gz 11 ?_;exact⟨_,rfl,by rw[decide_eq_false (fun h=>by first|exact hso h.1|(unfold fG at h;omega))],hW4⟩
   rw[decide_eq_false h16];refine Gz 16 ?_;exact⟨_,rfl,by rw[decide_eq_false (fun h=>by first|exact hso h.1|(unfold fG at h;omega))],hW4⟩
  rw[decide_eq_false h11];refine Gz 21 ?_;exact⟨_,rfl,by rw[decide_eq_false (fun h=>by first|exact hso h.1|(unfold fG at h;omega))],hW4⟩
 rw[decide_eq_false h7];have hso:¬ zY F:=fun h=>h7 (fun i hi=>qZ.1 h i hi);refine Gz 25 ?_;exact⟨_,rfl,by rw[decide_eq_false (fun h=>by first|exact hso h.1|(unfold fG at h;omega))],hW4⟩
def ptO(g:Nat)(o:Nat):Value:=.pointer (some ⟨g,o,none⟩)
def oW:List Nat:=[0,2,3,4,5,6,9]
def oN:List Nat:=[1,7,8]
theorem NT{i:Nat}(h:i<7):oW.getD i 0=(suL.getD i fdZ).o∧(suL.getD i fdZ).b=4:=by
 match i,h with
|0,_|1,_|2,_|3,_|4,_|5,_|6,_=>exact⟨rfl,rfl⟩
theorem NU{i:Nat}(h:i<3):oN.getD i 0=(suL.getD (7+i) fdZ).o∧(suL.getD (7+i) fdZ).b=2:=by
 match i,h with
|0,_|1,_|2,_=>exact⟨rfl,rfl⟩
theorem G6(g:Nat)(W:World):CA 68 [pT g] W fun v w'=>∃ q,v=.slice (some ⟨q,0,none⟩) oW.length 7∧Own (ptO g) 165 w'.heap (some ⟨q,0,none⟩) 7 oW∧W.heap.size≤q∧q<w'.heap.size∧aA nob W w':=by
 refine cS 25 [(0,_)] Tryz.func68 ?_;refine Gz 6 ?_;refine TG 23 (fun _=>True) [21] [0,1,2,3,4,5,6,7,8,9,10,11,12,13,14,15,16,17,18,19,20,21,22] aL (by kernel_rfl) (trivial) ?_;refine Gz 21 ?_;refine Ty rfl rfl (TS Cs (cs:=(oW.map (ptO g)).toArray) NE rfl rfl rfl (by kernel_rfl) rfl ?_);intro w1 hg1 hs1 hf1;refine TE (by exact trivial) ?_;refine Gz 5 ?_;exact⟨_,rfl,_,rfl,lD (xs:=oW) hg1 (by decide),Nat.le_refl _,by have h:w1.heap.size=W.heap.size+1:=hs1;show W.heap.size<_;omega,hf1.WP⟩
theorem Cp(g:Nat)(W:World):CA 70 [pT g] W fun v w'=>∃ q,v=.slice (some ⟨q,0,none⟩) oN.length 3∧Own (ptO g) 165 w'.heap (some ⟨q,0,none⟩) 3 oN∧W.heap.size≤q∧q<w'.heap.size∧aA nob W w':=by
 refine cS 13 [(0,_)] Tryz.func70 ?_;refine Gz 6 ?_;refine TG 11 (fun _=>True) [9] [0,1,2,3,4,5,6,7,8,9,10] aL (by kernel_rfl) (trivial) ?_;refine Gz 9 ?_;refine Ty rfl rfl (TS Cs (cs:=(oN.map (ptO g)).toArray) NE rfl rfl rfl (by kernel_rfl) rfl ?_);intro w1 hg1 hs1 hf1;refine TE (by exact trivial) ?_;refine Gz 5 ?_;exact⟨_,rfl,_,rfl,lD (xs:=oN) hg1 (by decide),Nat.le_refl _,by have h:w1.heap.size=W.heap.size+1:=hs1;show W.heap.size<_;omega,hf1.WP⟩
def suT(q:Rd)(k:Nat):Rd×(Nat→Int):=(suL.take k).foldl gF (q,zF)
theorem qY{q:Rd}{j:Nat}(h:j<10):suT q (j+1)=(gS (suL.getD j fdZ).b (suT q j).1,upd (suT q j).2 (suL.getD j fdZ).o (gV (suL.getD j fdZ).b (suT q j).1)):=by
 have hl:j<suL.length:=h;unfold suT;rw[take_succ_eq_append_getElem hl,foldl_append];simp only[foldl_cons,List.foldl_nil,List.getD,List.getElem?_eq_getElem hl,Option.getD_some];rfl
theorem FQ{q:Rd}{j:Nat}(h:j<10):(suT q (j+1)).2 (suL.getD j fdZ).o=gV (suL.getD j fdZ).b (suT q j).1:=by
 rw[qY h];simp[upd]
theorem zX{q:Rd}{j:Nat}(h:j<10):(dB (suT q j).2).set (suL.getD j fdZ).o (iV ((suT q (j+1)).2 (suL.getD j fdZ).o))=dB (suT q (j+1)).2:=by
 rw[I2 _ (I9 h),FQ h,qY h]
theorem FT(q:Rd):∀ k,k≤10→(suT q k).1.2.length≤q.2.length:=by
 intro k
 induction k with
|zero=>intro _;exact Nat.le_refl _
|succ n ih=>intro hn;rw[qY (by omega)];exact Nat.le_trans (fC _ _ _) (ih (by omega))
theorem FU(q:Rd)(hl:q.2.length≤64)(j:Nat)(hj:j<10)(D:Nat→Prop)(p:Nat)(W:World)(hP:RdL D W.heap p (suT q j).1.1 (suT q j).1.2) :
 CA 69 [pT p,iV (suL.getD j fdZ).b] W fun v w'=>v=iV ((suT q (j+1)).2 (suL.getD j fdZ).o)∧RdL D w'.heap p (suT q (j+1)).1.1 (suT q (j+1)).1.2∧aA (· = p) W w':=by
 rw[FQ hj,qY hj];exact fR p _ _ _ W hP (by have:=FT q j (by omega);omega)
def spQ(im:By):Rd:=(cU 0 (im.take 64) 4,oQ 0 (im.take 64) 4)
def spS(im:By):Rd×(Nat→Int):=suT (spQ im) 10
def spR(s:Rd):Rd:=gS 4 s
def spL(s:Rd):Int:=nJ s.1 s.2
def spE(s:Rd):Int:=cU s.1 s.2 (spL s)
def spB(s:Rd):By:=eG s.1 s.2 (spL s)
theorem uX{im:By}(h:64≤im.length):eG 0 (im.take 64) 4=im.take 4∧(spS im).2=suF im∧spL (spS im).1=26∧gV 4 (spS im).1=(bT ((im.drop 38).take 4):Nat)∧spE (spR (spS im).1)=0∧spB (spR (spS im).1)=(im.take 64).drop 42:=by
 have hl:(im.take 64).length=64:=by rw[length_take];omega
 have e1:cU 0 (im.take 64) 4=0:=dG (by decide) (by omega);obtain⟨c1,c2⟩:=cM e1;have eq:spQ im=(0,(im.take 64).drop 4):=by unfold spQ;rw[e1,c2];rfl
 have es:spS im=suQ ((im.take 64).drop 4):=by unfold spS;rw[eq];rfl
 have hl2:((im.take 64).drop 4).length=60:=by rw[length_drop];omega
 obtain⟨h0,h1,h2⟩:=FV (ys:=(im.take 64).drop 4) (by omega);have es1:(spS im).1=(0,(im.take 64).drop 38):=by rw[es];exact Prod.ext h0 (by rw[h2,drop_drop])
 have hl3:((im.take 64).drop 38).length=26:=by rw[length_drop];omega
 have hg:=oK (n:=4) (s:=(0,(im.take 64).drop 38)) (by decide) (by decide) rfl (by show (4:Int)≤(((im.take 64).drop 38).length:Nat);omega);have e4:spR (spS im).1=(0,(im.take 64).drop 42):=by rw[es1];unfold spR;rw[hg.1,show ((4:Int).toNat)=4 from rfl];simp only[drop_drop]
 have hl4:((im.take 64).drop 42).length=22:=by rw[length_drop];omega
 have e5:spL (spR (spS im).1)=22:=by rw[e4];show nJ 0 _=22;unfold nJ;rw[if_neg (by omega),hl4];rfl
 have e6:cU 0 ((im.take 64).drop 42) 22=0:=dG (by decide) (by omega);obtain⟨c3,c4⟩:=cM e6;refine⟨by rw[c1,show ((4:Int).toNat)=4 from rfl,take_take];rfl,by rw[es];rfl,?_,?_,?_,?_⟩
 ·rw[es1];show nJ 0 _=26;unfold nJ;rw[if_neg (by omega),hl3];rfl
 · rw[es1,hg.2,show ((4:Int).toNat)=4 from rfl,take_drop,take_take,take_drop]
   simp only[show min (38+4) 64=42 by rfl,show (38+4:Nat)=42 by rfl]
 ·unfold spE;rw[e5,e4];exact e6
 · unfold spB;rw[e5,e4]
   show eG 0 ((im.take 64).drop 42) 22=_;rw[c3,take_of_length_le (by rw[hl4];decide)]
theorem Pv{im:By}(h:64≤im.length)(h1:eG 0 (im.take 64) 4=suM)(h2:((bT ((im.drop 38).take 4):Nat):Int)=(dW (im.take 38):Nat))(h3:(suF im) 0=im.length)(h4:fG (suF im))(h5:¬ ∃ c∈spB (spR (spS im).1),c≠0):iL im:=by
 obtain⟨g1,g2,g3,g4,g5,g6⟩:=uX h;rw[g6] at h5;refine⟨h,h4,(Co h).2 ⟨by rw[←g1];exact h1,by omega,(DX (by rw[length_drop,length_take];omega)).2 (fun c hc=>byContradiction fun hn=>h5 ⟨c,hc,hn⟩)⟩,h3⟩
theorem Je{im:By}(hok:iL im):eG 0 (im.take 64) 4=suM∧((bT ((im.drop 38).take 4):Nat):Int)=(dW (im.take 38):Nat)∧¬ ∃ c∈spB (spR (spS im).1),c≠0:=by
 obtain⟨h,h4,h5,h3⟩:=hok;obtain⟨g1,g2,g3,g4,g5,g6⟩:=uX h;obtain⟨a,b,c⟩:=(Co h).1 h5;refine⟨by rw[g1];exact a,by omega,?_⟩;rw[g6];rintro⟨x,hx,hn⟩;exact hn ((DX (by rw[length_drop,length_take];omega)).1 c x hx)
theorem G7(tp:Nat)(io:Option Addr)(ic:Nat)(im:By)(W:World)(ht:TbV W.heap tp)(hv:Vw b8 W.heap io ic im)(hb:im.length≤1099511627776) :
 CA 33 [pT tp,.slice io im.length ic] W fun v w'=>v=.tuple #[.agg (dB (aH im).1).toArray,iV (aH im).2]∧aA nob W w':=by
 have hle:=hv.le;obtain⟨r,er⟩:∃ r,r=W.heap.size:=⟨_,rfl⟩
 have hml:(im.take 64).length=min 64 im.length:=length_take;obtain⟨ys,hys⟩:∃ ys,ys=im.take 64:=⟨_,rfl⟩
 obtain⟨q0,hq0⟩:∃ q0,q0=spQ im:=⟨_,rfl⟩
 have hql:q0.2.length≤64:=by rw[hq0];have:(spQ im).2.length≤(im.take 64).length:=fC _ _ _;omega
 refine cS 99 [(0,_),(1,_)] Tryz.func33 ?_;refine Gz 2 ?_;refine Tz sV rfl ?_;intro w1 hg1 hs1 hf1;have hg1:w1.heap[W.heap.size]?=some (.cells (dB zF).toArray 93 (0,0)):=hg1;rw[←er] at hg1 ⊢;refine Gz 8 ?_;refine cL (Tw (u:=iV (ys.length:Nat)) (Ux rfl rfl) (by rw[hys,hml];congr 1;omega)) ?_;refine cL (Tw (u:=.slice io ys.length ic) (TP aK rfl rfl (by rw[hys,hml];omega)) (by rw[aU];rfl)) ?_;refine Ts KS rfl (oA io ic ys w1 (by rw[hys];exact(hv.take 64).WR hf1) (by rw[hys,hml];omega)) rfl ?_;rintro _ w2 ⟨p,rfl,hp,hP,hf2⟩;have hlp:=RdO.lt hP;have hz2:=hf2.size;refine Gz 5 ?_;refine Tz sV rfl ?_;intro w3 hg3 hs3 hf3;have hg3:w3.heap[w2.heap.size]?=some (.cells (dB (suT q0 0).2).toArray 93 (0,0)):=hg3;obtain⟨q,eq⟩:∃ q,q=w2.heap.size:=⟨_,rfl⟩
 rw[←eq] at hg3 ⊢;refine Gz 5 ?_;refine Ts Ff rfl (mV p 0 ys 4 w3 (hP.WR hf3) (by rw[hys,hml];omega)) rfl ?_;rintro _ w4 ⟨o4,c4,rfl,ho4,hfr4,hP4,hF4⟩;have hz4:=hF4.size;have hg4:=hF4.obj hg3 (fun h=>by have h:q=p:=h;omega);have hP4:RdL (fun k=>w1.heap.size≤k∧k<w2.heap.size) w4.heap p (suT q0 0).1.1 (suT q0 0).1.2:=by rw[hq0];rw[hys] at hP4;exact hP4
 have hJ4:aA (fun k=>w1.heap.size≤k) w1 w4:=((hf2.trans hf3).any).trans (hF4.mono (fun k h=>by have h:k=p:=h;omega));refine cL (Ui aK ty5 ty9 rfl ho4.vw) ?_;refine cA 6 SP (G6 q w4) ?_;rintro _ w5 ⟨l,rfl,ho5,hl1,hl2,hf5⟩;have hJ5:=hJ4.trans hf5.any;refine Gz 5 ?_;refine TA (β:=Nat) (fun i=>[(0,pT tp),(1,.slice io im.length ic),(4,pT r),(6,pT p),(7,pT q),(8,.string (bs (eG 0 ys 4))),(26,.slice (some ⟨l,0,none⟩) oW.length 7),(27,iV (oW.length:Nat)),(28,iV i)]) (fun i w=>i≤7∧RdL (fun k=>w1.heap.size≤k∧k<w2.heap.size) w.heap p (suT q0 i).1.1 (suT q0 i).1.2∧w.heap[q]?=some (.cells (dB (suT q0 i).2).toArray 93 (0,0))∧Own (ptO q) 165 w.heap (some ⟨l,0,none⟩) 7 oW∧aA (fun k=>w1.heap.size≤k) w1 w∧w5.heap.size≤w.heap.size) (fun i=>7-i) 0 ⟨rfl,rfl,rfl,rfl,rfl,rfl,rfl,rfl,rfl,trivial⟩ ⟨by decide,hP4.WR hf5,hf5.obj hg4 id,ho5,hJ5,Nat.le_refl _⟩ ?_;rintro i w6 ⟨hi,hP6,hg6,how,hJ6,hz56⟩;refine fK 2 ?_ ?_<;>intro h29
 ·have hi7:i<7:=by have:(i:Int)<(oW.length:Nat):=h29;have e:oW.length=7:=rfl;omega
  refine Gz 10 ?_;refine cL (Tt Cs rfl rfl how.vw.non (by have e:oW.length=7:=rfl;omega)) ?_;refine cL (Tu Er rfl (how.vw.gz 0 i rfl (by show i<7;exact hi7))) ?_;rw[(NT hi7).1];refine Gz 6 ?_;refine Ts xT rfl (by have h:=FU q0 hql i (by omega) _ p w6 hP6;rw[(NT hi7).2] at h;exact h) rfl ?_;rintro _ w7 ⟨rfl,hP7,hF7⟩;have hz7:=hF7.size;have hg7:=hF7.obj hg6 (fun h=>by have h:q=p:=h;omega);have hJ7:=hJ6.trans (hF7.mono (fun k h=>by have h:k=p:=h;show w1.heap.size≤k;omega));have how7:=how.WS hF7 (fun a ha e=>by cases ha;have e:l=p:=e;omega);refine Gz 1 ?_;refine Tx aI rfl rfl rfl hg7 (by have:=I9 (j:=i) (by omega);rw[Nat.blt_eq];exact this) ?_;intro w8 hg8 hs8 hF8;rw[zX (by omega)] at hg8;have hP8:=hP7.WS hF8 (fun k hk e=>by have e:k=q:=e;have:=hk.2;omega);have hJ8:=hJ7.trans (hF8.mono (fun k h=>by have h:k=q:=h;show w1.heap.size≤k;omega));have how8:=how7.WS hF8 (fun a ha e=>by cases ha;have e:l=q:=e;omega);refine Gz 7 ?_;exact aG (i+1) ⟨by omega,hP8,hg8,how8,hJ8,by have h:w8.heap.size=w7.heap.size:=hs8;omega⟩ (by show 7-(i+1)<7-i;omega)
 have hi7:i=7:=by have h29:¬ (i:Int)<(oW.length:Nat):=h29;have e:oW.length=7:=rfl;omega
 subst hi7;refine cA 12 SO (Cp q w6) ?_;rintro _ w9 ⟨l2,rfl,ho9,hm1,hm2,hf9⟩;have hJ9:=hJ6.trans hf9.any;refine Gz 5 ?_;refine TA (β:=Nat) (fun i=>[(0,pT tp),(1,.slice io im.length ic),(4,pT r),(6,pT p),(7,pT q),(8,.string (bs (eG 0 ys 4))),(37,.slice (some ⟨l2,0,none⟩) oN.length 3),(38,iV (oN.length:Nat)),(39,iV i)]) (fun i w=>i≤3∧RdL (fun k=>w1.heap.size≤k∧k<w2.heap.size) w.heap p (suT q0 (7+i)).1.1 (suT q0 (7+i)).1.2∧w.heap[q]?=some (.cells (dB (suT q0 (7+i)).2).toArray 93 (0,0))∧Own (ptO q) 165 w.heap (some ⟨l2,0,none⟩) 3 oN∧aA (fun k=>w1.heap.size≤k) w1 w) (fun i=>3-i) 0 ⟨rfl,rfl,rfl,rfl,rfl,rfl,rfl,rfl,rfl,trivial⟩ ⟨by decide,hP6.WR hf9,hf9.obj hg6 id,ho9,hJ9⟩ ?_;rintro i w6 ⟨hi,hP6,hg6,how,hJ6⟩;refine fK 2 ?_ ?_<;>intro h40
 ·have hi3:i<3:=by have:(i:Int)<(oN.length:Nat):=h40;have e:oN.length=3:=rfl;omega
  refine Gz 10 ?_;refine cL (Tt Cs rfl rfl how.vw.non (by have e:oN.length=3:=rfl;omega)) ?_;refine cL (Tu Er rfl (how.vw.gz 0 i rfl (by show i<3;exact hi3))) ?_;rw[(NU hi3).1];refine Gz 6 ?_;refine Ts xT rfl (by have h:=FU q0 hql (7+i) (by omega) _ p w6 hP6;rw[(NU hi3).2] at h;exact h) rfl ?_;rintro _ w7 ⟨rfl,hP7,hF7⟩;have hg7:=hF7.obj hg6 (fun h=>by have h:q=p:=h;omega);have hJ7:=hJ6.trans (hF7.mono (fun k h=>by have h:k=p:=h;show w1.heap.size≤k;omega));have how7:=how.WS hF7 (fun a ha e=>by cases ha;have e:l2=p:=e;omega);refine Gz 1 ?_;refine Tx aI rfl rfl rfl hg7 (by have:=I9 (j:=7+i) (by omega);rw[Nat.blt_eq];exact this) ?_;intro w8 hg8 hs8 hF8;rw[zX (by omega)] at hg8;have hP8:=hP7.WS hF8 (fun k hk e=>by have e:k=q:=e;have:=hk.2;omega);have hJ8:=hJ7.trans (hF8.mono (fun k h=>by have h:k=q:=h;show w1.heap.size≤k;omega));have how8:=how7.WS hF8 (fun a ha e=>by cases ha;have e:l2=q:=e;omega);refine Gz 7 ?_;exact aG (i+1) ⟨by omega,hP8,hg8,how8,hJ8⟩ (by show 3-(i+1)<3-i;omega)
 have hi3:i=3:=by have h40:¬ (i:Int)<(oN.length:Nat):=h40;have e:oN.length=3:=rfl;omega
 subst hi3;have eS:suT q0 10=spS im:=by rw[hq0];rfl
 have hP6:RdL (fun k=>w1.heap.size≤k∧k<w2.heap.size) w6.heap p (suT q0 10).1.1 (suT q0 10).1.2:=hP6;have hg6:w6.heap[q]?=some (.cells (dB (suT q0 10).2).toArray 93 (0,0)):=hg6;rw[eS] at hP6 hg6;obtain⟨s,hs⟩:∃ s,s=(spS im).1:=⟨_,rfl⟩
 rw[←hs] at hP6;have hsl:s.2.length≤64:=by rw[hs,←eS];have:=FT q0 10 (by decide);omega
 refine cA 12 O7 (sZ p s.1 s.2 w6 hP6) ?_;rintro _ wq ⟨rfl,hwq⟩;subst wq;rw[show nJ s.1 s.2=spL s from rfl];refine Gz 6 ?_;refine Ts xT rfl (fR p s.1 s.2 4 w6 hP6 (by omega)) rfl ?_;rintro _ w10 ⟨rfl,hP10,hF10⟩;have hP10:RdL (fun k=>w1.heap.size≤k∧k<w2.heap.size) w10.heap p (spR s).1 (spR s).2:=hP10;have hrl:(spR s).2.length≤s.2.length:=fC _ _ _;have hJ10:=hJ6.trans (hF10.mono (fun k h=>by have h:k=p:=h;show w1.heap.size≤k;omega));have hg10:=hF10.obj hg6 (fun h=>by have h:q=p:=h;omega);obtain⟨vn,hvn⟩:∃ vn,vn=bT (eG (cX s.1 4) s.2 4):=⟨_,rfl⟩
 have hvn4:vn<4294967296:=by have h1:=oV (eG (cX s.1 4) s.2 4);have h2:=C7 s.1 s.2 4;rw[←hvn] at h1;exact Nat.lt_of_lt_of_le h1 (by have:=Nat.pow_le_pow_right (n:=256) (by decide) h2;omega)
 rw[←hvn];refine cL (TD (n:=((vn:Nat):Int)) is3 G0 rfl (jM hvn4)) ?_;refine cA 7 O7 (sZ p (spR s).1 (spR s).2 w10 hP10) ?_;rintro _ wq ⟨rfl,hwq⟩;subst wq;rw[show nJ (spR s).1 (spR s).2=spL (spR s) from rfl];refine Ts Ff rfl (mV p (spR s).1 (spR s).2 (spL (spR s)) w10 hP10 (by omega)) rfl ?_;rintro _ w11 ⟨o11,c11,rfl,ho11,hfr11,hP11,hF11⟩;have hJ11:=hJ10.trans (hF11.mono (fun k h=>by have h:k=p:=h;show w1.heap.size≤k;omega));have hg11:=hF11.obj hg10 (fun h=>by have h:q=p:=h;omega);have hP11:RdL (fun k=>w1.heap.size≤k∧k<w2.heap.size) w11.heap p (spE (spR s)) (oQ (spR s).1 (spR s).2 (spL (spR s))):=hP11;have ho11:Own b8 5 w11.heap o11 c11 (spB (spR s)):=ho11;rw[show eG (spR s).1 (spR s).2 (spL (spR s))=spB (spR s) from rfl];have hW11:aA nob W w11:=(hf1.any.WO hJ11 (fun k h=>.inl h)).fresh (fun k h=>by omega);have hr11:=hJ11.obj hg1 (fun h=>by have h:w1.heap.size≤r:=h;omega);refine Gz 9 ?_;refine Ts Fe rfl (Cq p _ _ w11 hP11) rfl ?_;rintro _ wq ⟨rfl,hwq⟩;subst wq;refine fK 0 ?_ ?_<;>intro h61
 ·have hno:¬ iL im:=fun h=>h61 (by rw[hs];exact(uX h.1).2.2.2.2.1);refine Gz 10 ?_;refine cL (bU (dB zF) uI sV) ?_;refine sA rfl dS (by exact fO _) hr11 ?_;intro w20 hg20 hs20 hf20;have hFx:aA nob W w20:=hW11.tw hf20;refine Gz 5 ?_;refine rC hg20 dS ?_;have e:aH im=(zF,2):=if_neg hno;exact⟨_,rfl,by rw[e],hFx⟩
 refine fW 3 ?_ ?_<;>intro h65
 ·have hno:¬ iL im:=fun h=>by have:=h.1;omega
  refine Gz 6 ?_;refine cL (bU (dB zF) uI sV) ?_;refine sA rfl dS (by exact fO _) hr11 ?_;intro w20 hg20 hs20 hf20;have hFx:aA nob W w20:=hW11.tw hf20;refine Gz 5 ?_;refine rC hg20 dS ?_;have e:aH im=(zF,2):=if_neg hno;exact⟨_,rfl,by rw[e],hFx⟩
 have h64:64≤im.length:=by omega
 obtain⟨g1,g2,g3,g4,g5,g6⟩:=uX h64;rw[←hs] at g3 g4;have g4:((vn:Nat):Int)=(bT ((im.drop 38).take 4):Nat):=by rw[hvn];exact g4
 rw[g2] at hg11;rw[g3];refine Gz 9 ?_;refine TZ (UE (b:=suM) rfl rfl) rfl (fun h69=>?_) (fun h69=>?_)
 ·have hm1:eG 0 (im.take 64) 4=suM:=by rw[←hys];exact h69
  refine Gz 6 ?_;refine cW (Tw (u:=.slice io (im.take 38).length ic) (TP aK rfl rfl (by omega)) (by rw[aU,length_take,Nat.min_eq_left (by omega)];rfl)) ?_;refine TJ rfl rfl PO rfl (I4 tp io ic (im.take 38) w11 (hW11.obj ht id) ((hv.take 38).WR hW11)) rfl ?_;rintro _ wq ⟨rfl,hwq⟩;subst wq;refine fW 0 ?_ ?_<;>intro h78
  ·have hm2:((bT ((im.drop 38).take 4):Nat):Int)=(dW (im.take 38):Nat):=by rw[←g4];exact h78
   refine fW 6 ?_ ?_<;>intro h85
   ·refine Gz 2 ?_;refine cW (TI (cs:=dB (suF im)) dS rfl (cC hg11 0 rfl)) ?_;refine TJ rfl rfl SN rfl (I3 (suF im) w11) rfl ?_;rintro _ w12 ⟨rfl,hf12⟩;have hr12:=hf12.obj hr11 id;have hg12:=hf12.obj hg11 id;have hW12:=hW11.trans hf12;by_cases h89:fG (suF im)
    ·rw[decide_eq_true h89];refine Gz 8 ?_;refine cL (T0 rfl) ?_;refine Gz 2 ?_;refine TJ rfl rfl SM rfl (yZ (R:=fun c=>c≠0) 76 SL o11 c11 (spB (spR s)) w12 (ho11.WR hf12).vw Ei) rfl ?_;rintro _ wq ⟨rfl,hwq⟩;subst wq;by_cases h95:∃ c∈spB (spR s),c≠0
     ·rw[decide_eq_true h95];have hno:¬ iL im:=fun h=>(Je h).2.2 (by rw[←hs];exact h95);refine Gz 6 ?_;refine cL (bU (dB zF) uI sV) ?_;refine sA rfl dS (by exact fO _) (by first|exact hr12|exact hr11) ?_;intro w20 hg20 hs20 hf20;have hFx:aA nob W w20:=by first|exact hW12.tw hf20|exact hW11.tw hf20
      refine Gz 5 ?_;refine rC hg20 dS ?_;have e:aH im=(zF,2):=if_neg hno;exact⟨_,rfl,by rw[e],hFx⟩
     rw[decide_eq_false h95];have hyes:iL im:=Pv h64 hm1 hm2 h85 h89 (by rw[←hs];exact h95);refine Gz 8 ?_;refine cL (TI (cs:=dB (suF im)) dS rfl (cC hg12 0 rfl)) ?_;refine sA rfl dS (by exact fO _) hr12 ?_;intro w20 hg20 hs20 hf20;have hFx:aA nob W w20:=hW12.tw hf20;refine Gz 4 ?_;refine rC hg20 dS ?_;have e:aH im=(suF im,0):=if_pos hyes;exact⟨_,rfl,by rw[e],hFx⟩
    rw[decide_eq_false h89];have hno:¬ iL im:=fun h=>h89 h.2.1;refine Gz 8 ?_;refine cL (T0 rfl) ?_;refine Gz 9 ?_;refine cL (bU (dB zF) uI sV) ?_;refine sA rfl dS (by exact fO _) (by first|exact hr12|exact hr11) ?_;intro w20 hg20 hs20 hf20;have hFx:aA nob W w20:=by first|exact hW12.tw hf20|exact hW11.tw hf20
    refine Gz 5 ?_;refine rC hg20 dS ?_;have e:aH im=(zF,2):=if_neg hno;exact⟨_,rfl,by rw[e],hFx⟩
   have hno:¬ iL im:=fun h=>h85 h.2.2.2;refine Gz 12 ?_;refine cL (T0 rfl) ?_;refine Gz 9 ?_;refine cL (bU (dB zF) uI sV) ?_;refine sA rfl dS (by exact fO _) (by first|exact hr12|exact hr11) ?_;intro w20 hg20 hs20 hf20;have hFx:aA nob W w20:=by first|exact hW12.tw hf20|exact hW11.tw hf20
   refine Gz 5 ?_;refine rC hg20 dS ?_;have e:aH im=(zF,2):=if_neg hno;exact⟨_,rfl,by rw[e],hFx⟩
  have hno:¬ iL im:=fun h=>h78 (by rw[g4];exact(Je h).2.1);refine Gz 19 ?_;refine cL (T0 rfl) ?_;refine Gz 9 ?_;refine cL (bU (dB zF) uI sV) ?_;refine sA rfl dS (by exact fO _) (by first|exact hr12|exact hr11) ?_;intro w20 hg20 hs20 hf20;have hFx:aA nob W w20:=by first|exact hW12.tw hf20|exact hW11.tw hf20
  refine Gz 5 ?_;refine rC hg20 dS ?_;have e:aH im=(zF,2):=if_neg hno;exact⟨_,rfl,by rw[e],hFx⟩
 have hno:¬ iL im:=fun h=>h69 (by rw[hys];exact(Je h).1);refine Gz 28 ?_;refine cL (T0 rfl) ?_;refine Gz 9 ?_;refine cL (bU (dB zF) uI sV) ?_;refine sA rfl dS (by exact fO _) (by first|exact hr12|exact hr11) ?_;intro w20 hg20 hs20 hf20;have hFx:aA nob W w20:=by first|exact hW12.tw hf20|exact hW11.tw hf20
 refine Gz 5 ?_;refine rC hg20 dS ?_;have e:aH im=(zF,2):=if_neg hno;exact⟨_,rfl,by rw[e],hFx⟩
theorem yA(x:Ent):∀ v∈fV x,v.oneCell'=true:=(cH x).2
theorem Lk(x:Ent)(last:By)(W:World)(hx:x.1.length≤maxLen):CA 144 [.agg (fV x).toArray,.string (bs last)] W fun v w'=>v=.bool (decide (iS x last))∧aA nob W w':=by
 refine cS 35 [(0,_),(1,_)] Tryz.func144 ?_;refine Gz 2 ?_;refine T1 rfl rfl ?_;intro w1 hg1 hs1 hf1;have hg2:w1.heap[W.heap.size]?=some (.cells (fV x).toArray 39 (0,0)):=hg1;obtain⟨g,eg⟩:∃ g,g=W.heap.size:=⟨_,rfl⟩
 rw[←eg] at hg2 ⊢;refine cA 7 P4 (IP x.1 w1 hx) ?_;rintro _ w2 ⟨rfl,hf2⟩;have hg2:=hf2.obj hg2 id;have hW:=hf1.trans hf2;refine fK 0 ?_ ?_<;>intro h8
 ·have hv0:dV x.1=0:=h8;refine Gz 4 ?_;refine T5 rfl rfl (TV (Vf (a:=x.1) (b:=last) rfl rfl)) rfl (fun h13=>?_) (fun h13=>?_)
  ·have hlt:Op.bytesLess last x.1=true:=by rw[jB] at h13;simpa using h13
   refine fW 4 ?_ ?_<;>intro h18
   ·refine fW 4 ?_ ?_<;>intro h23
    ·refine fW 4 ?_ ?_<;>intro h28
     ·refine fW 4 ?_ ?_<;>intro h33
      ·refine Gz 6 ?_;exact⟨_,rfl,by rw[decide_eq_true (show iS x last from ⟨hv0,hlt,h18,h23,h28,h33⟩)],hW⟩
      refine Gz 6 ?_;exact⟨_,rfl,by rw[decide_eq_false (fun h:iS x last=>by obtain⟨m1,m2,m3,m4,m5,m6⟩:=h;first|exact h8 m1|exact hlt m2|omega)],hW⟩
     refine Gz 11 ?_;exact⟨_,rfl,by rw[decide_eq_false (fun h:iS x last=>by obtain⟨m1,m2,m3,m4,m5,m6⟩:=h;first|exact h8 m1|exact hlt m2|omega)],hW⟩
    refine Gz 16 ?_;exact⟨_,rfl,by rw[decide_eq_false (fun h:iS x last=>by obtain⟨m1,m2,m3,m4,m5,m6⟩:=h;first|exact h8 m1|exact hlt m2|omega)],hW⟩
   refine Gz 21 ?_;exact⟨_,rfl,by rw[decide_eq_false (fun h:iS x last=>by obtain⟨m1,m2,m3,m4,m5,m6⟩:=h;first|exact h8 m1|exact hlt m2|omega)],hW⟩
  have hlt:¬ Op.bytesLess last x.1=true:=by rw[jB] at h13;simpa using h13
  refine Gz 26 ?_;exact⟨_,rfl,by rw[decide_eq_false (fun h:iS x last=>by obtain⟨m1,m2,m3,m4,m5,m6⟩:=h;first|exact h8 m1|exact hlt m2|omega)],hW⟩
 refine Gz 31 ?_;exact⟨_,rfl,by rw[decide_eq_false (fun h:iS x last=>by obtain⟨m1,m2,m3,m4,m5,m6⟩:=h;first|exact h8 m1|exact hlt m2|omega)],hW⟩
theorem Km{x:Ent}{last:By}(h:iS x last):x.1.length≤255:=(kQ h).1
theorem M8(s:Rd):(gTx s).length≤255:=by
 by_cases h:(fI s).1=0
 ·exact(GB h).2.2
 · have h':cU (tE s.1 s.2) (tR s.1 s.2) (tN s.1 s.2)≠0:=h
   show (eG (tE s.1 s.2) (tR s.1 s.2) (tN s.1 s.2)).length≤255;rw[(yF h').1];exact Nat.zero_le _
def Rs(W:World)(r:List Ent×Int):Value→World→Prop:=fun v w'=>∃ o c,v=.tuple #[.slice o r.1.length c,iV r.2]∧bF 3 fV 39 w'.heap o c r.1∧Fr W.heap.size o∧aA nob W w'
theorem Im(ao:Option Addr)(ac:Nat)(b:By)(W:World)(hv:Vw b8 W.heap ao ac b)(hb:b.length≤1099511627776) :
 CA 121 [.slice ao b.length ac] W (Rs W (nO b)):=by
 refine cS 40 [(0,_)] Tryz.func121 ?_;refine Gz 9 ?_;refine Ts KS rfl (oA ao ac b W hv (by omega)) rfl ?_;rintro _ w1 ⟨p,rfl,hp,hP,hf1⟩;have hz1:=hf1.size;have hpl:=RdO.lt hP;refine Gz 15 ?_;refine TA (β:=(List Ent×By)×(Option Addr×Nat)) (fun⟨⟨l,ys⟩,⟨oo,oc⟩⟩=>[(4,pT p),(5,.slice oo l.length oc),(6,.string (bs (mD l)))]) (fun⟨⟨l,ys⟩,⟨oo,oc⟩⟩ w=>DtI b l (0,ys)∧b=bA l++ys∧aO [] l∧RdL (fun k=>W.heap.size≤k∧k<w1.heap.size) w.heap p 0 ys∧bF 3 fV 39 w.heap oo oc l∧Fr w1.heap.size oo∧l.length+ys.length≤b.length∧aA (fun k=>k=p∨w1.heap.size≤k) w1 w) (fun⟨⟨l,ys⟩,⟨oo,oc⟩⟩=>ys.length) ⟨⟨[],b⟩,⟨none,0⟩⟩ ⟨rfl,rfl,rfl,trivial⟩ ⟨DtI.zero b,rfl,trivial,hP,WE,Wy,by simp,Wt _ _⟩ ?_;rintro⟨⟨l,ys⟩,⟨oo,oc⟩⟩ w2 ⟨hI,hcb,hch,hP2,hoo,hfro,hlen,hF2⟩;refine cA 4 O7 (sZ p 0 ys w2 hP2) ?_;rintro _ wq ⟨rfl,hwq⟩;subst wq;have e0:nJ 0 ys=ys.length:=rfl;refine fK 0 ?_ ?_<;>intro h12
 ·have hne:ys≠[]:=by intro e;subst e;simp[nJ] at h12
  have hst:=hI.step hne;refine Gz 1 ?_;refine aW [(4,_),(5,_),(6,_),(12,_)] ?_;refine Gz 8 ?_;refine Ts N6 rfl (An p 0 ys w2 hP2 (by omega)) rfl ?_;rintro _ w3 ⟨rfl,hP3,hF3⟩;have hP3:RdL (fun k=>W.heap.size≤k∧k<w1.heap.size) w3.heap p (fI (0,ys)).1 (fI (0,ys)).2:=hP3;rw[show eG (tE 0 ys) (tR 0 ys) (tN 0 ys)=gTx (0,ys) from rfl];have hl3:(fI (0,ys)).2.length≤ys.length:=Nat.le_trans (fC _ _ _) (fC _ _ _);refine cL (bU (fV (gTx (0,ys),0,0)) NR D6) ?_;refine Tz D6 rfl ?_;intro w4 hg4 hs4 hf4;obtain⟨q,eq⟩:∃ q,q=w3.heap.size:=⟨_,rfl⟩
  rw[←eq] at hg4 ⊢;have hz2:=hF2.size;have hz3:=hF3.size;refine sA rfl yQ (by exact yA _) hg4 ?_;intro w5 hg5 hs5 hf5;have hf35:aA nob w3 w5:=hf4.tw hf5;refine Gz 5 ?_;refine Ts xT rfl (fR p _ _ 1 w5 (hP3.WR hf35) (by omega)) rfl ?_;rintro _ w6 ⟨rfl,hP6,hF6⟩;have hP6:RdL (fun k=>W.heap.size≤k∧k<w1.heap.size) w6.heap p (gS 1 (fI (0,ys))).1 (gS 1 (fI (0,ys))).2:=hP6;have hg6:=hF6.obj hg5 (fun h=>by have h:q=p:=h;omega);have hl6:(gS 1 (fI (0,ys))).2.length≤ys.length:=Nat.le_trans (fC _ _ _) hl3;refine Gz 1 ?_;refine Tx aI rfl rfl rfl hg6 rfl ?_;intro w7 hg7 hs7 hf7;have hg7:w7.heap[q]?=some (.cells (fV (gTx (0,ys),gV 1 (fI (0,ys)),0)).toArray 39 (0,0)):=hg7;have hP7:=hP6.WS hf7 (fun k hk e=>by have e:k=q:=e;have:=hk.2;omega);refine Gz 5 ?_;refine Ts xT rfl (fR p _ _ 4 w7 hP7 (by omega)) rfl ?_;rintro _ w8 ⟨rfl,hP8,hF8⟩;have hP8:RdL (fun k=>W.heap.size≤k∧k<w1.heap.size) w8.heap p (lK (0,ys)).1 (lK (0,ys)).2:=hP8;have hg8:=hF8.obj hg7 (fun h=>by have h:q=p:=h;omega);refine Gz 1 ?_;refine Tx aI rfl rfl rfl hg8 rfl ?_;intro w9 hg9 hs9 hf9;have hg9:w9.heap[q]?=some (.cells (fV (lL (0,ys))).toArray 39 (0,0)):=hg9;have hP9:=hP8.WS hf9 (fun k hk e=>by have e:k=q:=e;have:=hk.2;omega);have hJ9:aA (fun k=>k=p∨w1.heap.size≤k) w1 w9:=((((hF2.trans (hF3.mono (fun k h=>.inl h))).trans hf35.any).trans (hF6.mono (fun k h=>.inl h))).trans (hf7.mono (fun k h=>.inr (by have h:k=q:=h;omega)))).trans (hF8.mono (fun k h=>.inl h)) |>.trans (hf9.mono (fun k h=>.inr (by have h:k=q:=h;omega)));have hs29:aA (fun k=>k=p∨w2.heap.size≤k) w2 w9:=(((((hF3.mono (fun k h=>.inl h))).trans hf35.any).trans (hF6.mono (fun k h=>.inl h))).trans (hf7.mono (fun k h=>.inr (by have h:k=q:=h;omega)))).trans (hF8.mono (fun k h=>.inl h)) |>.trans (hf9.mono (fun k h=>.inr (by have h:k=q:=h;omega)));have hlo:=hoo.lt;have hoo9:=hoo.WS hs29 (fun a ha h=>by have h1:=hlo a ha;have h2:=hfro a ha;rcases h with h|h<;>omega);have hz9:=hs29.size;refine Gz 8 ?_;refine Ts Fe rfl (Cq p _ _ w9 hP9) rfl ?_;rintro _ wq ⟨rfl,hwq⟩;subst wq;refine fK 0 ?_ ?_<;>intro h26
  ·have hbad:nO b=([],2):=GO (fun L h1 h2=>h26 (hst.2 L h1 h2).1);refine Gz 22 ?_;rw[hbad];exact⟨_,rfl,none,0,rfl,WE,Wy,(hf1.any.WO hJ9 (fun k h=>.inl h)).fresh (fun k h=>by omega)⟩
  have e0s:(lK (0,ys)).1=0:=Decidable.not_not.1 h26;refine Gz 1 ?_;refine cW (TI (cs:=fV (lL (0,ys))) yQ rfl (cC hg9 0 rfl)) ?_;refine Gz 1 ?_;refine TJ rfl rfl Qe rfl (Lk (lL (0,ys)) (mD l) w9 (by have:=M8 (0,ys);show (gTx (0,ys)).length≤maxLen;unfold maxLen;omega)) rfl ?_;rintro _ w10 ⟨rfl,hf10⟩;by_cases h30:iS (lL (0,ys)) (mD l)
  ·rw[decide_eq_true h30];have hg10:=hf10.obj hg9 id;have hoo10:=hoo9.WR hf10;have hP10:=hP9.WR hf10;have hless:=CR e0s;have hcat:=(Bo e0s).2.1;have hz10:=hf10.size;refine cW (T0 rfl) ?_;refine Gz 6 ?_;refine TG 8 (fun H=>H[q]?=some (.cells (fV (lL (0,ys))).toArray 39 (0,0))) [2,3] [0,1,4,5,2,3,6,7] aL (by kernel_rfl) (hg10) ?_;refine Gz 1 ?_;refine xC rfl (Uf (cs:=fV (lL (0,ys))) yQ rfl (fun H hH j v hj=>aE hH hj)) ?_;refine Gz 2 ?_;refine Ty rfl rfl (TS rA (cs:=(fV (lL (0,ys))).toArray) D6 rfl rfl rfl (by kernel_rfl) rfl ?_);intro w11 hg11 hs11 hf11;have hf11:=hf11.WP;have ho11:=bL (e:=39) (xs:=[lL (0,ys)]) cH (by simpa using hg11) (by show 1≤maxLen;decide);refine TE (by exact hf11.obj hg10 id) ?_;refine Ty rfl rfl (TH cH rfl rA rfl rfl (hoo10.WR hf11) (ho11.vw cH) (by simp only[length_singleton];omega) (by simp only[length_singleton];unfold maxLen;omega) rfl ?_);intro o12 c12 w12 ho12 hf12 hr12 hn12;have hz11:=hf11.size;have hg12:=hf12.obj (hf11.obj hg10 id) (fun⟨a,ha,e⟩=>by have h1:=hlo a ha;omega);refine TE (by exact hg12) ?_;refine Gz 4 ?_;have hs912:aA (fun k=>k=p∨w1.heap.size≤k) w9 w12:=(hf10.any.trans hf11.any).trans (hf12.mono (fun k ⟨a,ha,e⟩=>.inr (by have:=hfro a ha;omega)));refine TO ⟨⟨l++[lL (0,ys)],(lK (0,ys)).2⟩,⟨o12,c12⟩⟩ ⟨rfl,rfl,?_,trivial⟩ ⟨by have h:=hst.1;rwa[show lK (0,ys)=(0,(lK (0,ys)).2) from Prod.ext e0s rfl] at h,?_,jF.2 ⟨hch,?_⟩,?_,ho12,bK hfro hr12 (by omega),?_,hJ9.trans hs912⟩ (by show (lK (0,ys)).2.length<ys.length;omega)
   ·rw[xG];rfl
   ·rw[qP,append_assoc,←hcat];exact hcb
   · by_cases he:l=[]
     ·subst he;exact h30
     ·rw[if_neg he];exact h30
   · have hP12:=(hP10.WR hf11).WS hf12 (fun k hk ⟨a,ha,e⟩=>by have:=hfro a ha;have:=hk.2;omega)
     rwa[e0s] at hP12
   ·rw[length_append,length_singleton];show l.length+1+(lK (0,ys)).2.length≤b.length;omega
  rw[decide_eq_false h30];have hbad:nO b=([],2):=GO (fun L h1 h2=>h30 (hst.2 L h1 h2).2);refine cW (T0 rfl) ?_;refine Gz 17 ?_;rw[hbad];exact⟨_,rfl,none,0,rfl,WE,Wy,((hf1.any.WO hJ9 (fun k h=>.inl h)).trans hf10.any).fresh (fun k h=>by omega)⟩
 have hye:ys=[]:=by
  rw[e0] at h12;exact List.eq_nil_of_length_eq_zero (by omega)
 refine Gz 1 ?_;refine aW [(4,_),(5,_),(6,_),(12,_)] ?_;refine Gz 16 ?_;have e:nO b=(l,0):=DD hch (by rw[hcb,hye,List.append_nil]);rw[e];exact⟨_,rfl,oo,oc,rfl,hoo,hfro.mono hz1,(hf1.any.WO hF2 (fun k h=>.inl h)).fresh (fun k h=>by omega)⟩
def chainB:By→List Ent→Bool
|_,[]=>true
|last,x::r=>decide (iS x last) && chainB x.1 r
theorem yL:∀ (L:List Ent) (last:By),chainB last L=true↔aO last L
|[],_=>by simp[chainB,aO]
|x::r,last=>by simp only[chainB,aO,Bool.and_eq_true,decide_eq_true_eq,yL r]
instance (last:By)(L:List Ent):Decidable (aO last L):=decidable_of_iff _ (yL L last)
theorem WrO.bound{cs:Int→Value→List Value}{T:TypeId}{D D':Nat→Prop}{H:Array Obj}{p:Nat}{E:Int}{xs:By}(h:WrO cs T D H p E xs)(hd:∀ k,D k→k<H.size→D' k):WrO cs T D' H p E xs:=by
 have hl:=h.lt;obtain⟨ao,c,hg,ho,h1,h2,h3⟩:=h;exact⟨ao,c,hg,ho,h1,hd _ h2 hl,fun k hk=>hd k (h3 k hk) (by obtain⟨a,ha,rfl⟩:=hk;exact ho.lt a ha)⟩
def lM(L:List Ent):By×Int:=if aO [] L then (bA L,0) else ([],1)
theorem pH:∀ {L:List Ent} {last:By} {i:Nat} {x:Ent},aO last L→L[i]?=some x→iS x (if i=0 then last else (L.getD (i-1) BQ).1)
|[],_,_,_,_,h=>by simp at h
|y::r,last,0,x,h,hx=>by simp at hx;subst hx;exact h.1
|y::r,last,i+1,x,h,hx=>by
   have:=pH (i:=i) h.2 (by simpa using hx);rw[if_neg (by omega)];by_cases hi:i=0
   ·subst hi;simpa using this
   · rw[if_neg hi] at this
     have e:(y::r).getD (i+1-1) BQ=r.getD (i-1) BQ:=by
      obtain⟨k,rfl⟩:∃ k,i=k+1:=⟨i-1,by omega⟩
      simp
     rw[e];exact this
theorem nQ{L:List Ent}{i:Nat}{x:Ent}(hx:L[i]?=some x):L.take (i+1)=L.take i++[x]:=by
 obtain⟨h,rfl⟩:=List.getElem?_eq_some_iff.1 hx;exact take_succ_eq_append_getElem h
theorem xE{L:List Ent}{i:Nat}(h0:0<i)(h:i≤L.length):mD (L.take i)=(L.getD (i-1) BQ).1:=by
 obtain⟨k,rfl⟩:∃ k,i=k+1:=⟨i-1,by omega⟩
 have hk:k<L.length:=by omega
 rw[nQ (List.getElem?_eq_getElem hk),xG];simp[List.getD,hk]
theorem xZ{L:List Ent}{last:By}(h:aO last L):(bA L).length≤261*L.length:=by
 induction L generalizing last with
|nil=>simp[bA]
|cons x r ih=>
   have h1:=ih h.2;have h2:=Km h.1;show (lP x++bA r).length≤_;rw[length_append,oP,length_cons];omega
theorem Ae(D:Nat→Prop)(p:Nat)(xs s:By)(W:World)(hs:s.length≤255)(hP:WrR D W.heap p 0 xs)(hD:∀ k,W.heap.size≤k→D k)(hb:xs.length≤549755813888) :
 CA 105 [pT p,.string (bs s)] W fun v w'=>WrR D w'.heap p 0 (xs++(UInt8.ofNat s.length::s))∧aA D W w':=by
 refine(rG D p 0 xs s W hP hD hb (by omega)).mono ?_;rintro e w' ⟨v,rfl,h1,h2⟩;have e1:lH 0 s=0:=by unfold lH;rw[if_neg (by decide),if_neg (by omega)]
 have e2:mT 0 xs s=xs++(UInt8.ofNat s.length::s):=by unfold mT;rw[if_neg (by omega)]
 rw[e1,e2] at h1;exact⟨_,rfl,h1,h2⟩
theorem Rh{x:Ent}(h:Ie x):¬ gE x.2.1 1:=fB (m:=255) (by decide) (by decide) h.2.1 (by have:=h.2.2.1;omega) (by decide)
theorem Rg{x:Ent}(h:Ie x):¬ gE x.2.2 4:=fB (m:=4294967295) (by decide) (by decide) h.2.2.2.1 h.2.2.2.2 (by decide)
theorem JJ(lo:Option Addr)(lc:Nat)(L:List Ent)(W:World)(hv:VwM 3 fV W.heap lo lc L)(hsm:∀ x∈L,x.1.length≤maxLen)(hll:L.length≤1073741824) :
 CA 56 [.slice lo L.length lc] W (zH W (lM L)):=by
 obtain⟨p,ep⟩:∃ p,p=W.heap.size:=⟨_,rfl⟩
 refine cS 67 [(0,_)] Tryz.func56 ?_;refine Gz 8 ?_;refine cL (TT qD kW rfl rfl) ?_;refine Tz kW rfl ?_;intro w1 hg1 hs1 hf1;rw[←ep] at hg1 ⊢;refine sA rfl qS (by simp[Value.oneCell']) hg1 ?_;intro w1b hg1b hs1b hf1b;have hF1:aA nob W w1b:=hf1.tw hf1b;refine Gz 9 ?_;refine TA (β:=Nat) (fun i=>[(0,.slice lo L.length lc),(4,pT p),(5,iV i)]) (fun i w=>i≤L.length∧aO [] (L.take i)∧WrR (fun k=>p≤k∧k<w.heap.size) w.heap p 0 (bA (L.take i))∧aA nob W w) (fun i=>L.length-i) 0 ⟨rfl,rfl,rfl,trivial⟩ ⟨Nat.zero_le _,trivial,WI hg1b ⟨Nat.le_refl _,(Array.getElem?_eq_some_iff.1 hg1b).1⟩,hF1⟩ ?_;rintro i w2 ⟨hi,hch,hP2,hF2⟩;refine fK 6 ?_ ?_<;>intro h11
 ·have hil:i<L.length:=by omega
  obtain⟨x,hx⟩:∃ x,L[i]?=some x:=⟨_,List.getElem?_eq_getElem hil⟩
  have hxm:=hsm x (mem_of_getElem? hx);have hv2:=hv.WR hF2;have hchl:=xZ hch;have htl:(L.take i).length=i:=by rw[length_take];omega
  have hnext:aO [] L→iS x (if i=0 then [] else (L.getD (i-1) BQ).1):=fun h=>pH h hx;refine Gz 11 ?_;refine cL (Tv rA rfl rfl hv2.non (by omega)) ?_;refine cL (TI (cs:=fV x) yQ rfl (fun j v hj=>hv2.rowZ i rfl hx j v hj)) ?_;refine Tz D6 rfl ?_;intro w3 hg3 hs3 hf3;obtain⟨q,eq⟩:∃ q,q=w2.heap.size:=⟨_,rfl⟩
  rw[←eq] at hg3 ⊢;refine sA rfl yQ (by exact yA _) hg3 ?_;intro w4 hg4 hs4 hf4;have hF24:aA nob w2 w4:=hf3.tw hf4;have hv4:=hv2.WR hF24;have hF4:=hF2.trans hF24;have hz2:=hF2.size;refine Gz 4 ?_;refine TG 39 (fun H=>H[q]?=some (.cells (fV x).toArray 39 (0,0))∧VwM 3 fV H lo lc L) [2] [0,1,2,3,4,5,6,7,8,9,10,11,12,13,14,15,16,17,18,19,20,21,22,23,24,25,26,27,28,29,30,31,32,33,34,35,36,37,38] aL (by kernel_rfl) (⟨hg4,hv4⟩) ?_;refine Gz 2 ?_;refine Ty rfl rfl (Ts Oa rfl (Ac x.1 _ hxm) rfl ?_);rintro _ wq ⟨rfl,rfl⟩;refine TE (by exact⟨hg4,hv4⟩) ?_;refine xK 0 ?_ ?_<;>intro h21
  ·refine Gz 52 ?_;have hno:¬ aO [] L:=fun h=>by
    obtain⟨m1,m2,m3,m4,m5,m6⟩:=hnext h;by_cases hi0:i=0
    ·first|exact h21 m1|omega
    · rw[if_neg hi0] at m2
      first|exact h21 m1|(rw[hyd] at m2;exact hge m2)|omega
   have e:lM L=([],1):=if_neg hno;rw[e];exact⟨_,rfl,none,0,rfl,WA,Wy,hF4.draws 1⟩
  refine xW 2 ?_ ?_<;>intro h24
  ·have hpos:0<i:=by omega
   obtain⟨y,hy⟩:∃ y,L[i-1]?=some y:=⟨_,List.getElem?_eq_getElem (by omega)⟩
   have hyd:L.getD (i-1) BQ=y:=by rw[List.getD,hy];rfl
   refine Gz 4 ?_;refine xV rfl (Tv rA rfl rfl hv4.non (by omega)) ?_;refine Gz 1 ?_;refine xV rfl (TF gU rfl (fun H hH=>hH.2.rowZ (i-1) (by omega) hy 0 _ rfl)) ?_;refine Gz 2 ?_;refine Un rfl rfl rfl rfl (TV (Vg (a:=y.1) (b:=x.1) rfl rfl)) rfl (fun h34=>?_) (fun h34=>?_)
   ·have hge:¬ Op.bytesLess y.1 x.1=true:=by simpa using h34
    refine xV rfl (Ur rfl rfl) ?_;refine Gz 38 ?_;have hno:¬ aO [] L:=fun h=>by
     obtain⟨m1,m2,m3,m4,m5,m6⟩:=hnext h;by_cases hi0:i=0
     ·first|exact h21 m1|omega
     · rw[if_neg hi0] at m2
       first|exact h21 m1|(rw[hyd] at m2;exact hge m2)|omega
    have e:lM L=([],1):=if_neg hno;rw[e];exact⟨_,rfl,none,0,rfl,WA,Wy,hF4.draws 1⟩
   have hlt:Op.bytesLess y.1 x.1=true:=by simpa using h34
   refine xV rfl (Ur rfl rfl) ?_;refine xW 4 ?_ ?_<;>intro h40
   ·refine Gz 33 ?_;have hno:¬ aO [] L:=fun h=>by
     obtain⟨m1,m2,m3,m4,m5,m6⟩:=hnext h;by_cases hi0:i=0
     ·first|exact h21 m1|omega
     · rw[if_neg hi0] at m2
       first|exact h21 m1|(rw[hyd] at m2;exact hge m2)|omega
    have e:lM L=([],1):=if_neg hno;rw[e];exact⟨_,rfl,none,0,rfl,WA,Wy,hF4.draws 1⟩
   refine xW 4 ?_ ?_<;>intro h45
   ·refine Gz 28 ?_;have hno:¬ aO [] L:=fun h=>by
     obtain⟨m1,m2,m3,m4,m5,m6⟩:=hnext h;by_cases hi0:i=0
     ·first|exact h21 m1|omega
     · rw[if_neg hi0] at m2
       first|exact h21 m1|(rw[hyd] at m2;exact hge m2)|omega
    have e:lM L=([],1):=if_neg hno;rw[e];exact⟨_,rfl,none,0,rfl,WA,Wy,hF4.draws 1⟩
   refine xW 4 ?_ ?_<;>intro h50
   ·refine Gz 23 ?_;have hno:¬ aO [] L:=fun h=>by
     obtain⟨m1,m2,m3,m4,m5,m6⟩:=hnext h;by_cases hi0:i=0
     ·first|exact h21 m1|omega
     · rw[if_neg hi0] at m2
       first|exact h21 m1|(rw[hyd] at m2;exact hge m2)|omega
    have e:lM L=([],1):=if_neg hno;rw[e];exact⟨_,rfl,none,0,rfl,WA,Wy,hF4.draws 1⟩
   refine xW 4 ?_ ?_<;>intro h55
   ·refine Gz 18 ?_;have hno:¬ aO [] L:=fun h=>by
     obtain⟨m1,m2,m3,m4,m5,m6⟩:=hnext h;by_cases hi0:i=0
     ·first|exact h21 m1|omega
     · rw[if_neg hi0] at m2
       first|exact h21 m1|(rw[hyd] at m2;exact hge m2)|omega
    have e:lM L=([],1):=if_neg hno;rw[e];exact⟨_,rfl,none,0,rfl,WA,Wy,hF4.draws 1⟩
   refine Gz 10 ?_;have hgood:iS x (if i=0 then [] else (L.getD (i-1) BQ).1):=by
    refine⟨Decidable.not_not.1 h21,?_,by omega,by omega,by omega,by omega⟩;by_cases hi0:i=0
    ·rw[if_pos hi0,xB];exact(kX (Decidable.not_not.1 h21)).2.1
    · rw[if_neg hi0]
      first|exact absurd hz hi0|(rw[hyd];exact hlt)
   have hfit:=kQ hgood;refine Ts DB rfl (Ae (fun k=>p≤k∧k≠q) p (bA (L.take i)) x.1 (w4.drewN 1) hfit.1 ((hP2.WS hF24 (fun _ _=>id)).mono (fun k hk=>⟨hk.1,by omega⟩)) (fun k hk=>⟨by have:w4.heap.size≤k:=hk;have:=hF4.size;omega,by have h1:w4.heap.size≤k:=hk;have h2:q<w4.heap.size:=(Array.getElem?_eq_some_iff.1 hg4).1;omega⟩) (by omega)) rfl ?_;rintro _ w5 ⟨hP5,hF5⟩;have hF5:=hF5.WP;have hg5:=hF5.obj hg4 (fun h=>h.2 rfl);have hz5:=hF5.size;refine Gz 6 ?_;refine Ts fU rfl (lW (fun k=>p≤k∧k≠q) p (bA (L.take i)++(UInt8.ofNat x.1.length::x.1)) x.2.1 1 w5 (Rh hfit) hP5 (fun k hk=>⟨by omega,by omega⟩) (by simp only[length_append,length_cons];have:=hfit.1;omega)) rfl ?_;rintro _ w6 ⟨hP6,hF6⟩;have hg6:=hF6.obj hg5 (fun h=>h.2 rfl);have hz6:=hF6.size;refine Gz 5 ?_;refine Ts fU rfl (lW (fun k=>p≤k∧k≠q) p (bA (L.take i)++(UInt8.ofNat x.1.length::x.1)++le x.2.1 1) x.2.2 4 w6 (Rg hfit) hP6 (fun k hk=>⟨by omega,by omega⟩) (by simp only[length_append,length_cons,aR];have:=hfit.1;omega)) rfl ?_;rintro _ w7 ⟨hP7,hF7⟩;have hF7a:aA nob W w7:=(((hF4.any.trans (hF5.mono (fun k h=>h.1))).trans (hF6.mono (fun k h=>h.1))).trans (hF7.mono (fun k h=>h.1))).fresh (fun k h=>by omega);refine Gz 8 ?_;refine aG (i+1) ⟨by omega,?_,?_,hF7a⟩ (by show L.length-(i+1)<L.length-i;omega)
   · rw[nQ hx,jF]
     refine⟨hch,?_⟩;by_cases hi0:i=0
     ·rw[if_pos hi0] at hgood;rw[if_pos (by rw[hi0];rfl)];exact hgood
     ·rw[if_neg hi0] at hgood;rw[if_neg (fun e=>by rw[e] at htl;simp at htl;omega),xE (by omega) (by omega)];exact hgood
   · rw[nQ hx,qP]
     have e:bA (L.take i)++lP x=bA (L.take i)++(UInt8.ofNat x.1.length::x.1)++le x.2.1 1++le x.2.2 4:=by unfold lP;simp only[append_assoc]
     rw[e];exact hP7.bound (fun k hk h=>⟨hk.1,h⟩)
  have hz:i=0:=by omega
  refine Gz 10 ?_;refine xV rfl (Uy rfl rfl) ?_;refine xW 4 ?_ ?_<;>intro h40
  ·refine Gz 33 ?_;have hno:¬ aO [] L:=fun h=>by
    obtain⟨m1,m2,m3,m4,m5,m6⟩:=hnext h;by_cases hi0:i=0
    ·first|exact h21 m1|omega
    · rw[if_neg hi0] at m2
      first|exact h21 m1|(rw[hyd] at m2;exact hge m2)|omega
   have e:lM L=([],1):=if_neg hno;rw[e];exact⟨_,rfl,none,0,rfl,WA,Wy,hF4.draws 1⟩
  refine xW 4 ?_ ?_<;>intro h45
  ·refine Gz 28 ?_;have hno:¬ aO [] L:=fun h=>by
    obtain⟨m1,m2,m3,m4,m5,m6⟩:=hnext h;by_cases hi0:i=0
    ·first|exact h21 m1|omega
    · rw[if_neg hi0] at m2
      first|exact h21 m1|(rw[hyd] at m2;exact hge m2)|omega
   have e:lM L=([],1):=if_neg hno;rw[e];exact⟨_,rfl,none,0,rfl,WA,Wy,hF4.draws 1⟩
  refine xW 4 ?_ ?_<;>intro h50
  ·refine Gz 23 ?_;have hno:¬ aO [] L:=fun h=>by
    obtain⟨m1,m2,m3,m4,m5,m6⟩:=hnext h;by_cases hi0:i=0
    ·first|exact h21 m1|omega
    · rw[if_neg hi0] at m2
      first|exact h21 m1|(rw[hyd] at m2;exact hge m2)|omega
   have e:lM L=([],1):=if_neg hno;rw[e];exact⟨_,rfl,none,0,rfl,WA,Wy,hF4.draws 1⟩
  refine xW 4 ?_ ?_<;>intro h55
  ·refine Gz 18 ?_;have hno:¬ aO [] L:=fun h=>by
    obtain⟨m1,m2,m3,m4,m5,m6⟩:=hnext h;by_cases hi0:i=0
    ·first|exact h21 m1|omega
    · rw[if_neg hi0] at m2
      first|exact h21 m1|(rw[hyd] at m2;exact hge m2)|omega
   have e:lM L=([],1):=if_neg hno;rw[e];exact⟨_,rfl,none,0,rfl,WA,Wy,hF4.draws 1⟩
  refine Gz 10 ?_;have hgood:iS x (if i=0 then [] else (L.getD (i-1) BQ).1):=by
   refine⟨Decidable.not_not.1 h21,?_,by omega,by omega,by omega,by omega⟩;by_cases hi0:i=0
   ·rw[if_pos hi0,xB];exact(kX (Decidable.not_not.1 h21)).2.1
   · rw[if_neg hi0]
     first|exact absurd hz hi0|(rw[hyd];exact hlt)
  have hfit:=kQ hgood;refine Ts DB rfl (Ae (fun k=>p≤k∧k≠q) p (bA (L.take i)) x.1 (w4.drewN 1) hfit.1 ((hP2.WS hF24 (fun _ _=>id)).mono (fun k hk=>⟨hk.1,by omega⟩)) (fun k hk=>⟨by have:w4.heap.size≤k:=hk;have:=hF4.size;omega,by have h1:w4.heap.size≤k:=hk;have h2:q<w4.heap.size:=(Array.getElem?_eq_some_iff.1 hg4).1;omega⟩) (by omega)) rfl ?_;rintro _ w5 ⟨hP5,hF5⟩;have hF5:=hF5.WP;have hg5:=hF5.obj hg4 (fun h=>h.2 rfl);have hz5:=hF5.size;refine Gz 6 ?_;refine Ts fU rfl (lW (fun k=>p≤k∧k≠q) p (bA (L.take i)++(UInt8.ofNat x.1.length::x.1)) x.2.1 1 w5 (Rh hfit) hP5 (fun k hk=>⟨by omega,by omega⟩) (by simp only[length_append,length_cons];have:=hfit.1;omega)) rfl ?_;rintro _ w6 ⟨hP6,hF6⟩;have hg6:=hF6.obj hg5 (fun h=>h.2 rfl);have hz6:=hF6.size;refine Gz 5 ?_;refine Ts fU rfl (lW (fun k=>p≤k∧k≠q) p (bA (L.take i)++(UInt8.ofNat x.1.length::x.1)++le x.2.1 1) x.2.2 4 w6 (Rg hfit) hP6 (fun k hk=>⟨by omega,by omega⟩) (by simp only[length_append,length_cons,aR];have:=hfit.1;omega)) rfl ?_;rintro _ w7 ⟨hP7,hF7⟩;have hF7a:aA nob W w7:=(((hF4.any.trans (hF5.mono (fun k h=>h.1))).trans (hF6.mono (fun k h=>h.1))).trans (hF7.mono (fun k h=>h.1))).fresh (fun k h=>by omega);refine Gz 8 ?_;refine aG (i+1) ⟨by omega,?_,?_,hF7a⟩ (by show L.length-(i+1)<L.length-i;omega)
  · rw[nQ hx,jF]
    refine⟨hch,?_⟩;by_cases hi0:i=0
    ·rw[if_pos hi0] at hgood;rw[if_pos (by rw[hi0];rfl)];exact hgood
    ·rw[if_neg hi0] at hgood;rw[if_neg (fun e=>by rw[e] at htl;simp at htl;omega),xE (by omega) (by omega)];exact hgood
  · rw[nQ hx,qP]
    have e:bA (L.take i)++lP x=bA (L.take i)++(UInt8.ofNat x.1.length::x.1)++le x.2.1 1++le x.2.2 4:=by unfold lP;simp only[append_assoc]
    rw[e];exact hP7.bound (fun k hk h=>⟨hk.1,h⟩)
 have hie:i=L.length:=by omega
 subst hie;rw[take_length] at hP2 hch;refine Gz 10 ?_;refine Ts BL rfl (gZ (fun k=>p≤k∧k<w2.heap.size) p 0 _ w2 hP2 (by have:=xZ hch;omega)) rfl ?_;rintro _ w3 ⟨o3,c3,rfl,ho3,hfr3,hf3⟩;refine Gz 6 ?_;have e:lM L=(bA L,0):=if_pos hch;rw[e];exact⟨_,rfl,o3,c3,rfl,ho3,hfr3.mono hF2.size,hF2.trans hf3⟩
section
open Go Go.RowKit Go.Maps
theorem Ed{ps qs:List (NdH×Nd)}(h:qs.Perm ps)(ht:¬ dM (nds ps)):¬ dM (nds qs):=by
 unfold dM at *;rw[not_not] at *;exact((h.map (·.2)).pairwise_iff (R:=fun a b:Nd=>a.names≠b.names) (fun h e=>h e.symm)).2 ht
theorem On{ps:List (NdH×Nd)}(ht:¬ dM (nds ps)){i j:Nat}{p q:NdH×Nd}(hij:i<j)(hp:(jN ps)[i]?=some p)(hq:(jN ps)[j]?=some q):bX p.2.names q.2.names=true:=by
 have e1:=List.getElem?_eq_some_iff.1 hp;have e2:=List.getElem?_eq_some_iff.1 hq;have h:=pairwise_iff_getElem.1 (FX ps) i j e1.1 e2.1 hij;rw[e1.2,e2.2] at h;rcases mC.1 h with e|h
 ·exact absurd ((jZ (jN ps)).2 ⟨i,j,p,q,hij,hp,hq,e.symm⟩) (Ed (nS ps) ht)
 ·exact h
theorem Ft{ps qs:List (NdH×Nd)}(hq:nds qs=nds (gD ps)){i:Nat}{q:NdH×Nd}(h:qs[i]?=some q):∃ p,(jN ps)[i]?=some p∧q.2=(nX (bD (jN ps)) p).2:=by
 have h1:=iA h;rw[hq] at h1;simp only[nds,gD,C5,List.getElem?_map,Option.map_eq_some_iff] at h1;obtain⟨a,⟨p,hp,e⟩,e2⟩:=h1;exact⟨p,hp,by rw[←e2,←e]⟩
theorem Nv{ps qs:List (NdH×Nd)}(hq:nds qs=nds (gD ps)):qs.length=ps.length:=by
 have:=congrArg List.length hq;have h2:=(nS ps).length_eq;simp[nds,gD,C5] at this;omega
theorem Pe{ps qs:List (NdH×Nd)}(ht:¬ dM (nds ps))(hq:nds qs=nds (gD ps)){i j:Nat}{p q:NdH×Nd}(hij:i<j)(hp:qs[i]?=some p)(h:qs[j]?=some q):bX p.2.names q.2.names=true:=by
 obtain⟨a,ha,e1⟩:=Ft hq hp;obtain⟨b,hb,e2⟩:=Ft hq h;have:=On ht hij ha hb;rw[e1,e2];exact this
theorem H5(a:List By):bX a []=false:=by cases a<;>rfl
theorem HJ{l:List Nd}(h:plc l=0):gL l []∧∀ n∈l,n.names≠[]→gL l n.names.dropLast:=by
 unfold plc at h;by_cases h0:1024<l.length
 ·rw[if_pos h0] at h;cases h
 · rw[if_neg h0] at h
   by_cases h1:nmd l=0
   · rw[if_neg (fun g=>g h1)] at h
     by_cases h2:gL l []
     · rw[if_neg (fun g=>g h2)] at h
       by_cases h3:∃ n∈l,n.names≠[]∧¬ gL l n.names.dropLast
       ·rw[if_pos h3] at h;cases h
       ·exact⟨h2,fun n hn hne=>byContradiction fun hd=>h3 ⟨n,hn,hne,hd⟩⟩
     ·rw[if_pos h2] at h;cases h
   ·rw[if_pos h1] at h;exact absurd h h1
def wF(ps:List (NdH×Nd))(i:Nat):Nat:=(cG (bD ((jN ps).take i))).length
theorem Nw{ps qs:List (NdH×Nd)}(hq:nds qs=nds (gD ps)){i:Nat}{q:NdH×Nd}(h:qs[i]?=some q):1≤q.2.ino∧q.2.ino≤(wF ps i:Int)+1∧((wF ps (i+1):Nat):Int)=if (wF ps i:Int)<q.2.ino then q.2.ino else (wF ps i:Int):=by
 obtain⟨p,hp,e⟩:=Ft hq h;have ei:q.2.ino=oF (bD (jN ps)) p.2.ino:=by rw[e];rfl
 rw[ei];refine⟨C2 _ _,?_⟩;unfold wF;rw[rV hp];by_cases hm:p.2.ino∈bD ((jN ps).take i)
 · have h1:oF (bD (jN ps)) p.2.ino≤((cG (bD ((jN ps).take i))).length:Int):=by
    obtain⟨r,hr⟩:=Cw (bD ((jN ps).take i)) (p.2.ino::bD ((jN ps).drop (i+1)));rw[qK hp];unfold oF;rw[hr,List.idxOf_append,if_pos (kH.2 hm)];have:=List.idxOf_lt_length_iff.2 (kH.2 hm);omega
   rw[rD hm];exact⟨by omega,by rw[if_neg (by omega)]⟩
 · have h1:oF (bD (jN ps)) p.2.ino=((cG (bD ((jN ps).take i))).length:Nat)+1:=by rw[qK hp,C3 hm]
   rw[rE hm,h1];exact⟨by omega,by rw[if_pos (by omega)];omega⟩
end
section
open Go Go.RowKit Go.Maps
theorem mG{l s:List By}:kV l s↔l≠[]∧l.dropLast=s:=by
 unfold kV;rw[drop_take];constructor
 · rintro⟨h1,h2⟩
   exact⟨fun e=>by rw[e] at h1;simp at h1,by rw[show l.length-1=s.length by omega];exact h2⟩
 · rintro⟨h1,h2⟩
   have h0:=List.length_pos_iff.2 h1;have h3:s.length=l.length-1:=by rw[←h2,length_take];omega
   exact⟨by omega,by rw[h3];exact h2⟩
section
variable {ps qs:List (NdH×Nd)}
theorem vC(qs:List (NdH×Nd)){i:Nat}(h:i<qs.length):∃ p,qs[i]?=some p∧nmG qs i=p.2.names:=⟨_,List.getElem?_eq_getElem h,qE (List.getElem?_eq_getElem h)⟩
end
end
def AG(b:By):Prop:=∀ i,i<b.length→b.getD i 0=0
instance (b:By):Decidable (AG b):=by unfold AG;exact inferInstance
theorem JA(o:Option Addr)(c:Nat)(b:By)(W:World)(hv:Vw b8 W.heap o c b) :
 CA 53 [.slice o b.length c] W fun v w'=>v=.bool (decide (AG b))∧w'=W:=by
 have hlen:=hv.WQ;refine cS 15 [(0,_)] Tryz.func53 ?_;refine Gz 12 ?_;refine TA (β:=Nat) (fun i=>[(0,.slice o b.length c),(3,iV i)]) (fun i w=>i≤b.length∧(∀ j,j<i→b.getD j 0=0)∧w=W) (fun i=>b.length-i) 0 ⟨rfl,rfl,trivial⟩ ⟨Nat.zero_le _,by intro j hj;omega,rfl⟩ ?_;rintro i w2 ⟨hi,hz,hw2⟩;subst hw2;refine fK 6 ?_ ?_<;>intro h7
 ·refine Gz 11 ?_;refine cL (Tt aK rfl rfl hv.non (by omega)) ?_;refine cL (Tu gW rfl (hv.gz 0 i rfl (by omega))) ?_;refine fK 0 ?_ ?_<;>intro h14
  ·have hno:¬ AG b:=fun h=>h14 (by rw[h i (by omega)];rfl);refine Gz 15 ?_;exact⟨_,rfl,congrArg Value.bool (decide_eq_false hno).symm,rfl⟩
  have h0:b.getD i 0=0:=UInt8.toNat_inj.1 (by show _=0;omega);refine Gz 11 ?_;refine aG (i+1) ⟨by omega,?_,rfl⟩ (by show b.length-(i+1)<b.length-i;omega);intro j hj;by_cases hji:j=i
  ·rw[hji];exact h0
  ·exact hz j (by omega)
 refine Gz 15 ?_;exact⟨_,rfl,congrArg Value.bool (decide_eq_true (fun j hj=>hz j (by omega))).symm,rfl⟩
def chB(b:By)(i:Nat):By:=(b.drop (i*128)).take 128
def hX(x:By):By:=if AG x then [] else x
def frB(x:By):By:=(cF (hX x)).1
def eU(b:By)(n:Nat):By:=((List.range n).map fun i=>frB (chB b i)).flatten
def cI(b:By):By:=eU b (b.length/128)
def eB(b:By):By:=b.drop (b.length/128*128)
theorem BU(b:By)(i:Nat):(chB b i).length≤128:=by unfold chB;rw[length_take];omega
theorem yM{b:By}{i:Nat}(h:i<b.length/128):(chB b i).length=128:=by unfold chB;rw[length_take,length_drop];omega
theorem KI(x:By):(hX x).length≤x.length:=by unfold hX;split<;>simp
theorem GG{x:By}(h:x.length≤128):(frB x).length≤135∧3≤(frB x).length:=by
 have h1:=KI x;have h2:=fS (b:=hX x) (by omega);unfold frB;omega
theorem kA(b:By)(n:Nat):eU b (n+1)=eU b n++frB (chB b n):=by unfold eU;rw[List.range_succ];simp
theorem lV(b:By):∀ n,(eU b n).length≤135*n∧3*n≤(eU b n).length
|0=>by simp[eU]
|n+1=>by
   have h:=lV b n;have h2:=GG (BU b n);rw[kA,length_append];omega
def iD:List (SK×Nat)→SK→Option Nat
|[],_=>none
|p::r,a=>if p.1=a then some p.2 else iD r a
theorem xU{m:List (SK×Nat)}{a b:SK}{v:Nat}:iD (m++[(a,v)]) b=match iD m b with|some k=>some k|none=>if a=b then some v else none:=by
 induction m with
|nil=>simp[iD]
|cons p r ih=>
   simp only[cons_append,iD]
   split
   ·rfl
   ·exact ih
structure DS where
 B:By
 m:List (SK×Nat)
def Iz(first:Nat)(s:DS)(r:By):DS×Nat:=match iD s.m (nL r) with
|some k=>(s,k)
|none=>(⟨s.B++r,s.m++[(nL r,first+s.B.length)]⟩,first+s.B.length)
def iG(first:Nat)(s:DS)(b:By):DS×Nat:=if cI b=[] then (s,0) else Iz first s (cI b)
theorem IA{first:Nat}{s:DS}{b:By}(h:(cI b).length=0):iG first s b=(s,0):=by unfold iG;rw[if_pos (List.length_eq_zero_iff.1 h)]
theorem DZ{first:Nat}{s:DS}{b:By}{k:Nat}(h:(cI b).length≠0)(hk:iD s.m (nL (cI b))=some k):iG first s b=(s,k):=by
 unfold iG Iz;rw[if_neg (fun e=>h (by rw[e];rfl)),hk]
theorem D2{first:Nat}{s:DS}{b:By}(h:(cI b).length≠0)(hk:iD s.m (nL (cI b))=none):iG first s b=(⟨s.B++cI b,s.m++[(nL (cI b),first+s.B.length)]⟩,first+s.B.length):=by
 unfold iG Iz;rw[if_neg (fun e=>h (by rw[e];rfl)),hk]
def nN(first:Nat)(s:DS)(b:By):DS×Nat:=(⟨s.B++(cF b).1,s.m⟩,first+s.B.length)
theorem L5{r:By}(h:r.length≤maxLen):nL r=⟨r,h⟩:=by unfold nL;rw[dif_pos h]
def Il(x:Hd×Nat):List Value:=[hd x.1,iV x.2]
theorem nB:iF 2 Il:=fun x=>⟨rfl,by simp[Il,Value.oneCell',hd]⟩
def yS(D:Nat→Prop)(H:Array Obj)(ys:List (Hd×Nat))(m:List (SK×Nat)):Prop:=
 ys.length=m.length∧∀ (i:Nat) (x:Hd×Nat) (y:SK×Nat),ys[i]?=some x→m[i]?=some y→x.2=y.2∧x.1.n=y.1.1.length∧Vw b8 H x.1.a x.1.c y.1.1∧∀ k,blk x.1.a k→D k
section
variable {D D':Nat→Prop}{H:Array Obj}{ys:List (Hd×Nat)}{m:List (SK×Nat)}
theorem yS.WS{S:Nat→Prop}{w w':World}(h:yS D w.heap ys m)(f:aA S w w')(hS:∀ k,D k→¬ S k):yS D w'.heap ys m:=
 ⟨h.1,fun i x y hx hy=>by
  obtain⟨h1,h2,h3,h4⟩:=h.2 i x y hx hy;exact⟨h1,h2,h3.WS f (fun a ha=>hS _ (h4 _ ⟨a,ha,rfl⟩)),h4⟩⟩
theorem yS.mono(h:yS D H ys m)(hd:∀ k,D k→D' k):yS D' H ys m:=
 ⟨h.1,fun i x y hx hy=>by obtain⟨h1,h2,h3,h4⟩:=h.2 i x y hx hy;exact⟨h1,h2,h3,fun k hk=>hd k (h4 k hk)⟩⟩
theorem yS.snoc(h:yS D H ys m){s:SK}{v:Nat}{z:Hd}(h1:z.n=s.1.length)(h2:Vw b8 H z.a z.c s.1)(h4:∀ k,blk z.a k→D k):yS D H (ys++[(z,v)]) (m++[(s,v)]):=by
 refine⟨by simp[h.1],fun i x y hx hy=>?_⟩;by_cases hi:i<ys.length
 · rw[List.getElem?_append_left hi] at hx
   rw[List.getElem?_append_left (by rw[←h.1];exact hi)] at hy;exact h.2 i x y hx hy
 · have hi':i=ys.length:=by
    have:=(List.getElem?_eq_some_iff.1 hx).1;simp at this;omega
   subst hi';simp at hx;rw[h.1] at hy;simp at hy;subst hx;subst hy;exact⟨rfl,h1,h2,h4⟩
end
def rdC(first:Nat)(bo:Option Addr)(bn bc:Nat)(ro:Option Addr)(rn rc:Nat):List Value:=[iV first,.slice bo bn bc,.slice ro rn rc]
def RyO(D:Nat→Prop)(H:Array Obj)(g first:Nat)(s:DS):Prop:=
 ∃ bo bc ro rc ys,H[g]?=some (.cells (rdC first bo s.B.length bc ro (List.length (α:=Hd×Nat) ys) rc).toArray 79 (0,0))∧Own b8 5 H bo bc s.B∧bF 2 Il 143 H ro rc ys ∧
  yS (fun k=>D k∧k≠g∧¬ blk bo k∧¬ blk ro k∧k<H.size) H ys s.m∧¬ blk bo g∧¬ blk ro g∧Ap bo ro∧D g∧(∀ k,blk bo k→D k)∧(∀ k,blk ro k→D k)
section
variable {D:Nat→Prop}{g first:Nat}{s:DS}
theorem RyO.lt{H:Array Obj}(h:RyO D H g first s):g<H.size:=by obtain⟨bo,bc,ro,rc,ys,hg,_⟩:=h;exact(Array.getElem?_eq_some_iff.1 hg).1
theorem RyO.keepTo{S E:Nat→Prop}{w w':World}(h:RyO D w.heap g first s)(hf:aA S w w')(hs:∀ k,k<w.heap.size→D k→¬ S k)(hE:∀ k,k<w.heap.size→D k→E k):RyO E w'.heap g first s:=by
 have hl:=h.lt;obtain⟨bo,bc,ro,rc,ys,hg,h1,h2,h3,h4,h5,h6,h7,h8,h9⟩:=h;have hb:∀ k,blk bo k→k<w.heap.size:=fun k ⟨a,ha,e⟩=>by have:=h1.lt a ha;omega
 have hr:∀ k,blk ro k→k<w.heap.size:=fun k ⟨a,ha,e⟩=>by have:=h2.lt a ha;omega
 exact⟨bo,bc,ro,rc,ys,hf.obj hg (hs g hl h7),h1.WS hf (fun a ha=>hs _ (h1.lt a ha) (h8 _ ⟨a,ha,rfl⟩)),h2.WS hf (fun a ha=>hs _ (h2.lt a ha) (h9 _ ⟨a,ha,rfl⟩)),
  (h3.WS hf (fun k hk=>hs k hk.2.2.2.2 hk.1)).mono (fun k hk=>⟨hE k hk.2.2.2.2 hk.1,hk.2.1,hk.2.2.1,hk.2.2.2.1,by have:=hk.2.2.2.2;have:=hf.size;omega⟩),h4,h5,h6,hE g hl h7,fun k hk=>hE k (hb k hk) (h8 k hk),fun k hk=>hE k (hr k hk) (h9 k hk)⟩
theorem RyO.WS{S:Nat→Prop}{w w':World}(h:RyO D w.heap g first s)(hf:aA S w w')(hs:∀ k,k<w.heap.size→D k→¬ S k):RyO D w'.heap g first s:=h.keepTo hf hs (fun _ _ h=>h)
theorem Px{W w1 w2:World}{bo bo' ro:Option Addr}{bc' rc:Nat}{ys:List (Hd×Nat)}{mq:List (SK×Nat)}{Bq:By}(hD:∀ k,W.heap.size≤k→D k)(hgl:g<W.heap.size)
 (hbl:∀ k,blk bo k→k<W.heap.size)(h2:bF 2 Il 143 W.heap ro rc ys)(h3:yS (fun k=>D k∧k≠g∧¬ blk bo k∧¬ blk ro k∧k<W.heap.size) W.heap ys mq)(h4:¬ blk bo g)(h5:¬ blk ro g)(h6:Ap bo ro)(h7:D g)(h8:∀ k,blk bo k→D k)(h9:∀ k,blk ro k→D k)
 (ho:Own b8 5 w1.heap bo' bc' Bq)(hf1:aA (blk bo) W w1)(hr:∀ a,bo'=some a→bo=some a∨W.heap.size≤a.block)
 (hg2:w2.heap[g]?=some (.cells (rdC first bo' Bq.length bc' ro ys.length rc).toArray 79 (0,0)))(hf2:aA (· = g) w1 w2) :
 RyO D w2.heap g first ⟨Bq,mq⟩∧aA D W w2:=by
 have hz:=hf1.size;have hz2:=hf2.size;have hD2:aA D W w2:=(hf1.mono h8).trans (hf2.mono (fun k h=>by have h:k=g:=h;subst h;exact h7));have hn:∀ k,k<W.heap.size→¬ blk bo k→¬ blk bo' k:=fun k hk hb ⟨a,ha,e⟩=>by
  rcases hr a ha with h|h
  ·exact hb ⟨a,h,e⟩
  ·omega
 have hrl:∀ k,blk ro k→k<W.heap.size:=fun k ⟨a,ha,e⟩=>by have:=h2.lt a ha;omega
 refine⟨⟨bo',bc',ro,rc,ys,hg2,ho.WS hf2 (fun a ha h=>hn g hgl h4 ⟨a,ha,h⟩),(h2.WS hf1 (fun a ha ⟨b,hb,h⟩=>h6 b a hb ha h)).WS hf2 (fun a ha h=>h5 ⟨a,ha,h⟩),
  ((h3.WS hf1 (fun k hk=>hk.2.2.1)).WS hf2 (fun k hk=>hk.2.1)).mono (fun k hk=>⟨hk.1,hk.2.1,hn k hk.2.2.2.2 hk.2.2.1,hk.2.2.2.1,by have:=hk.2.2.2.2;omega⟩),hn g hgl h4,h5,fun a b ha hb e=>?_,h7,fun k ⟨a,ha,hb⟩=>?_,h9⟩,hD2⟩
 ·exact hn a.block (by have:=hrl b.block ⟨b,hb,rfl⟩;omega) (fun⟨c,hc,e2⟩=>h6 c b hc hb (e2.trans e)) ⟨a,ha,rfl⟩
 · rcases hr a ha with h|h
   ·exact h8 k ⟨a,h,hb⟩
   ·exact hD k (by omega)
end
theorem EI(D:Nat→Prop)(g first:Nat)(s:DS)(bo0:Option Addr)(bc0:Nat)(b:By)(W:World)(hM:RyO D W.heap g first s)(hD:∀ k,W.heap.size≤k→D k)(hv:Vw b8 W.heap bo0 bc0 b)(hfi:first≤1000)(hb:s.B.length≤1099511627776)(hbl:b.length≤128) :
 CA 26 [pT g,.slice bo0 b.length bc0] W fun v w'=>v=iV ((nN first s b).2:Nat)∧RyO D w'.heap g first (nN first s b).1∧aA D W w':=by
 obtain⟨bo,bc,ro,rc,ys,hg,h1,h2,h3,h4,h5,h6,h7,h8,h9⟩:=hM;have hgl:=(Array.getElem?_eq_some_iff.1 hg).1;have hps:=fS hbl;refine cS 33 [(0,_),(1,_)] Tryz.func26 ?_;refine cA 8 Id (lX bo0 bc0 b W hv) ?_;rintro _ w1 ⟨o1,c1,rfl,ho1,hfr1,hf1⟩;have hg1:=hf1.obj hg id;have hz1:=hf1.size;refine Gz 8 ?_;refine TG 11 (fun H=>H[g]?=some (.cells (rdC first bo s.B.length bc ro ys.length rc).toArray 79 (0,0))) [] [0,1,2,3,4,5,6,7,8,9,10] aL (by kernel_rfl) (hg1) ?_;refine Gz 21 ?_;refine TB aV aK rfl rfl (h1.WR (hf1.draws 1)) ho1.vw (by omega) (by unfold maxLen;omega) rfl ?_;intro o2 c2 w2 ho2 hf2 hr2 hn2;have hf2:=hf2.WP;have hg2:=hf2.obj hg1 h4;refine Gz 2 ?_;refine Tx aT rfl rfl rfl hg2 rfl ?_;intro w3 hg3 hs3 hf3;obtain⟨hM3,hF3⟩:=Px (W:=w1) (mq:=s.m) (first:=first) (Bq:=s.B++(cF b).1) (cR hf1 hD) (by omega) (fun k ⟨a,ha,e⟩=>by have:=h1.lt a ha;omega) (h2.WR hf1) ((h3.WS hf1 (fun _ _=>id)).mono (fun k hk=>⟨hk.1,hk.2.1,hk.2.2.1,hk.2.2.2.1,by have:=hk.2.2.2.2;omega⟩)) h4 h5 h6 h7 h8 h9 ho2 hf2 hr2 hg3 hf3;refine Gz 10 ?_;exact⟨_,rfl,rfl,hM3,hf1.any.trans hF3⟩
theorem AL{a:SK}{v:Nat}:∀ {m:List (SK×Nat)} {j:Nat},iD (m.take j) a=none→m[j]?=some (a,v)→iD m a=some v
|[],j,_,h=>by simp at h
|p::r,0,_,h=>by
   simp at h;subst h;unfold iD;rw[if_pos rfl]
|p::r,j+1,hn,h=>by
   rw[List.take_succ_cons] at hn;unfold iD at hn ⊢
   split at hn
   ·cases hn
   ·rename_i hp;rw[if_neg hp];exact AL hn (by simpa using h)
theorem Fh{a b:SK}{v:Nat}{m:List (SK×Nat)}{j:Nat}(hn:iD (m.take j) a=none)(h:m[j]?=some (b,v))(hne:b≠a):iD (m.take (j+1)) a=none:=by
 have hj:=(List.getElem?_eq_some_iff.1 h).1;have e:m[j]=(b,v):=(List.getElem?_eq_some_iff.1 h).2;rw[take_succ_eq_append_getElem hj,e,xU,hn];exact if_neg hne
theorem JL(D:Nat→Prop)(g first:Nat)(s:DS)(bo0:Option Addr)(bc0:Nat)(b:By)(W:World)(hM:RyO D W.heap g first s)(hD:∀ k,W.heap.size≤k→D k)(hv:Vw b8 W.heap bo0 bc0 b)(hfi:first≤1000)(hb:s.B.length≤1099511627776)(hbl:b.length≤1048576)(hml:s.m.length≤1048576) :
 CA 24 [pT g,.slice bo0 b.length bc0] W fun v w'=>∃ o c,v=.tuple #[iV ((iG first s b).2:Nat),.slice o (eB b).length c]∧Own b8 5 w'.heap o c (eB b)∧Fr W.heap.size o∧RyO (fun k=>D k∧¬ blk o k) w'.heap g first (iG first s b).1∧aA D W w':=by
 have hM0:=hM;obtain⟨bo,bc,ro,rc,ys,hg,h1,h2,h3,h4,h5,h6,h7,h8,h9⟩:=hM;have hgl:=(Array.getElem?_eq_some_iff.1 hg).1;have hyl:=h3.1;have hbol:∀ k,blk bo k→k<W.heap.size:=fun k ⟨a,ha,e⟩=>by have:=h1.lt a ha;omega
 have hrol:∀ k,blk ro k→k<W.heap.size:=fun k ⟨a,ha,e⟩=>by have:=h2.lt a ha;omega
 refine cS 101 [(0,_),(1,_)] Tryz.func24 ?_;refine Gz 8 ?_;refine T2 b8 aK rfl ?_;intro w1 ho1 hs1 hf1;refine Gz 5 ?_;refine TA (β:=Nat×(Option Addr×Nat)×(Option Addr×Nat)) (fun⟨i,⟨oi,ci⟩,⟨ro2,rc2⟩⟩=>[(0,pT g),(1,.slice oi (b.drop (i*128)).length ci),(6,.slice ro2 (eU b i).length rc2)]) (fun⟨i,⟨oi,ci⟩,⟨ro2,rc2⟩⟩ w=>i≤b.length/128∧Vw b8 W.heap oi ci (b.drop (i*128))∧Own b8 5 w.heap ro2 rc2 (eU b i)∧Fr W.heap.size ro2∧aA nob W w) (fun⟨i,⟨oi,ci⟩,⟨ro2,rc2⟩⟩=>b.length/128-i) ⟨0,⟨bo0,bc0⟩,⟨some ⟨W.heap.size,0,none⟩,0⟩⟩ ⟨rfl,(by rw[Nat.zero_mul,List.drop_zero];rfl),rfl,trivial⟩ ⟨Nat.zero_le _,by rw[Nat.zero_mul,List.drop_zero];exact hv,ho1,(fun a ha=>by cases ha;exact Nat.le_refl _),hf1⟩ ?_;rintro⟨i,⟨oi,ci⟩,⟨ro2,rc2⟩⟩ w2 ⟨hi,hvi,hro,hfro,hF2⟩;have hdl:=length_drop (i:=i*128) (l:=b);have hci:=hvi.le;have hri:=lV b i;refine fK 5 ?_ ?_<;>intro h16
 ·have hcl:(chB b i).length=128:=yM (by omega);have hfl:=GG (BU b i);have hdn:(b.drop ((i+1)*128)).length=(b.drop (i*128)).length-128:=by rw[hdl,length_drop];omega
  refine Gz 9 ?_;refine cL (Tw (u:=.slice oi (chB b i).length ci) (TP aK rfl rfl (by omega)) (by rw[aU,hcl];rfl)) ?_;refine Gz 3 ?_;refine TY (β:=Option Addr×Nat) (fun⟨xo,xc⟩=>[(0,pT g),(1,.slice oi (b.drop (i*128)).length ci),(6,.slice ro2 (eU b i).length rc2),(7,.slice xo (hX (chB b i)).length xc)]) (fun⟨xo,xc⟩ w=>Vw b8 w.heap xo xc (hX (chB b i))∧w=w2) ?_ ?_
  ·refine cA 3 SW (JA oi ci (chB b i) w2 ((hvi.WR hF2).take 128)) ?_;rintro _ wq ⟨rfl,hwq⟩;subst wq;by_cases h20:AG (chB b i)
   ·rw[decide_eq_true h20];have ex:hX (chB b i)=[]:=by unfold hX;rw[if_pos h20]
    refine Gz 6 ?_;exact T8 ⟨none,0⟩ ⟨rfl,rfl,rfl,(by show some (Value.slice none 0 0)=_;rw[ex];rfl),trivial⟩ ⟨by rw[ex];exact Wz 0 (Nat.zero_le _),rfl⟩
   rw[decide_eq_false h20];have ex:hX (chB b i)=chB b i:=by unfold hX;rw[if_neg h20]
   refine Gz 4 ?_;exact T8 ⟨oi,ci⟩ ⟨rfl,rfl,rfl,(by rw[ex];rfl),trivial⟩ ⟨by rw[ex];exact(hvi.WR hF2).take 128,rfl⟩
  rintro⟨xo,xc⟩ wq ⟨hxv,hwq⟩;obtain rfl:w2=wq:=hwq.symm;refine cA 3 Id (lX xo xc (hX (chB b i)) w2 hxv) ?_;rintro _ w3 ⟨o3,c3,rfl,ho3,hfr3,hf3⟩;have ho3:Own b8 5 w3.heap o3 c3 (frB (chB b i)):=ho3;refine Gz 11 ?_;refine TB aV aK rfl rfl (hro.WR hf3) ho3.vw (by rw[show (cF (hX (chB b i))).1=frB (chB b i) from rfl];omega) (by rw[show (cF (hX (chB b i))).1=frB (chB b i) from rfl];unfold maxLen;omega) rfl ?_;intro o4 c4 w4 ho4 hf4 hr4 hn4;refine Gz 5 ?_;refine cL (Tw (u:=.slice (aP oi ci 128 1) (b.drop ((i+1)*128)).length (ci-128)) (T4 aK rfl rfl (by omega)) (by rw[hdn];rfl)) ?_;refine Gz 3 ?_;have hcd:=sJ (n:=128) hvi (by omega) (by omega);rw[show (128:Int).toNat=128 from rfl,drop_drop,show i*128+128=(i+1)*128 by omega] at hcd;refine TO ⟨i+1,⟨aP oi ci 128 1,ci-128⟩,⟨o4,c4⟩⟩ ⟨rfl,rfl,?_,trivial⟩ ⟨by omega,hcd,by rw[kA];exact ho4,bK hfro hr4 (by have:=hf3.size;have:=hF2.size;omega),(hF2.trans hf3).WO hf4 (fun k ⟨a,ha,e⟩=>.inr (by have:=hfro a ha;omega))⟩ (by show b.length/128-(i+1)<b.length/128-i;omega);rw[kA];rfl
 have hie:i=b.length/128:=by omega
 subst hie;have hro:Own b8 5 w2.heap ro2 rc2 (cI b):=hro;have hvi:Vw b8 W.heap oi ci (eB b):=hvi;have hrb:=lV b (b.length/128);have hrb:(cI b).length≤135*(b.length/128)∧3*(b.length/128)≤(cI b).length:=hrb;refine Gz 10 ?_;refine T2 b8 aK rfl ?_;intro w5 ho5 hs5 hf5;refine Gz 1 ?_;refine TB aV aK rfl rfl ho5 ((hvi.WR hF2).WR hf5) (by simp only[length_nil];omega) (by simp only[length_nil];unfold maxLen;omega) rfl ?_;intro o6 c6 w6 ho6 hf6 hr6 hn6;have ho6:Own b8 5 w6.heap o6 c6 (eB b):=ho6;have hz2:=hF2.size;have hfr5:Fr w2.heap.size (some (⟨w2.heap.size,0,none⟩:Addr)):=fun a ha=>by cases ha;exact Nat.le_refl _
 have hF26:aA nob w2 w6:=hf5.WO hf6 hfr5.step;have hF6:=hF2.trans hF26;have hfr6:Fr w2.heap.size o6:=fun a ha=>by rcases hr6 a ha with h|h;exact hfr5 a h;omega
 have hro6:=hro.WR hF26;have hg6:=hF6.obj hg id;have k16:=h1.WR hF6;have k26:=h2.WR hF6;have k36:=h3.WS hF6 (fun _ _=>id);have hz6:=hF6.size;have hz26:=hF26.size;have ho6l:=ho6.lt;have hne6:∀ k,k<w2.heap.size→¬ blk o6 k:=fun k hk ⟨a,ha,e⟩=>by have:=hfr6 a ha;omega
 have hrl2:=hro.lt;have hsame:∀ wf,aA nob W wf→RyO (fun k=>D k∧¬ blk o6 k) wf.heap g first s:=fun wf hf=>hM0.keepTo hf (fun _ _ _=>id) (fun k hk hd=>⟨hd,hne6 k (by omega)⟩)
 have hfr6W:Fr W.heap.size o6:=hfr6.mono hz2;refine fK 8 ?_ ?_<;>intro h36
 ·have e:=IA (first:=first) (s:=s) (b:=b) (by omega);refine Gz 13 ?_;rw[e];exact⟨_,rfl,o6,c6,rfl,ho6,hfr6W,hsame _ hF6,hF6.any⟩
 have hrl:(cI b).length≤maxLen:=by unfold maxLen;omega
 have hrne:(cI b).length≠0:=by omega
 have hsk:=L5 hrl;have hysv:=k26.vw nB;refine Gz 12 ?_;refine TA (β:=Nat) (fun j=>[(0,pT g),(6,.slice ro2 (cI b).length rc2),(10,.slice o6 (eB b).length c6),(11,iV j)]) (fun j w=>j≤s.m.length∧iD (s.m.take j) (nL (cI b))=none∧∃ n,w=w6.drewN n) (fun j=>s.m.length-j) 0 ⟨rfl,rfl,rfl,rfl,trivial⟩ ⟨Nat.zero_le _,rfl,0,rfl⟩ ?_;rintro j w ⟨hj,hjn,⟨n,rfl⟩⟩;refine fK 9 ?_ ?_<;>intro h44
 ·have hjm:j<s.m.length:=by omega
  obtain⟨⟨⟨xa,xn,xc⟩,xk⟩,hx⟩:∃ x,ys[j]?=some x:=⟨_,List.getElem?_eq_getElem (by omega)⟩
  obtain⟨⟨y,yk⟩,hy⟩:∃ y,s.m[j]?=some y:=⟨_,List.getElem?_eq_getElem hjm⟩
  obtain⟨e1,e2,hxv,_⟩:=k36.2 j _ _ hx hy;have e1:xk=yk:=e1;have e2:xn=y.1.length:=e2;subst e1 e2;have hxv:Vw b8 w6.heap xa xc y.1:=hxv;refine Gz 8 ?_;refine TG 12 (fun H=>H[g]?=some (.cells (rdC first bo s.B.length bc ro ys.length rc).toArray 79 (0,0))∧VwM 2 Il H ro rc ys∧Vw b8 H xa xc y.1∧Vw b8 H ro2 rc2 (cI b)) [] [0,1,2,3,4,5,6,7,8,9,10,11] aL (by kernel_rfl) (⟨hg6,hysv,hxv,hro6.vw⟩) ?_;refine Gz 5 ?_;refine xC rfl (Tv Jg rfl rfl hysv.non (by omega)) ?_;refine Gz 1 ?_;refine xC rfl (TF aT rfl (fun H hH=>hH.2.1.rowZ j rfl hx 0 _ rfl)) ?_;refine xC rfl (U8 (xs:=y.1) aK ty5 ty9 rfl (fun H hH=>hH.2.2.1)) ?_;refine Gz 1 ?_;refine xC rfl (U8 (xs:=cI b) aK ty5 ty9 rfl (fun H hH=>hH.2.2.2)) ?_;refine xK 0 ?_ ?_<;>intro h58
  ·have hyr:y=nL (cI b):=Subtype.ext (by rw[hsk];exact h58);have e:=DZ (first:=first) hrne (AL hjn (by rw[hy,hyr]));refine Gz 10 ?_;refine cL (Tv Jg rfl rfl hysv.non (by omega)) ?_;refine Gz 1 ?_;refine cL (Tu aI rfl (hysv.rowZ j rfl hx 1 _ rfl)) ?_;refine Gz 12 ?_;rw[e];exact⟨_,rfl,o6,c6,rfl,ho6,hfr6W,hsame _ ((hF6.draws n).draws 1),((hF6.draws n).draws 1).any⟩
  have hyr:y≠nL (cI b):=fun e=>h58 (by rw[e,hsk]);have hjn2:=Fh hjn hy hyr;refine Gz 11 ?_;exact aG (j+1) ⟨by omega,hjn2,n+1,by simp[World.drewN];omega⟩ (by show s.m.length-(j+1)<s.m.length-j;omega)
 have hje:j=s.m.length:=by omega
 subst hje;rw[take_length] at hjn;have e:=D2 (first:=first) hrne hjn;refine Gz 9 ?_;refine TG 11 (fun H=>H[g]?=some (.cells (rdC first bo s.B.length bc ro ys.length rc).toArray 79 (0,0))) [] [0,1,2,3,4,5,6,7,8,9,10] aL (by kernel_rfl) (hg6) ?_;refine Gz 22 ?_;refine cL (TT (cs:=#[hd ⟨ro2,(cI b).length,rc2⟩,iV ((first+s.B.length:Nat):Int)]) OF NF rfl (by kernel_rfl)) ?_;refine TS Jg (cs:=[hd ⟨ro2,(cI b).length,rc2⟩,iV ((first+s.B.length:Nat):Int)].toArray) NF rfl rfl rfl (by kernel_rfl) rfl ?_;intro w7 hg7 hs7 hf7;have hf7:=hf7.WP.WP;obtain⟨yn,hyn⟩:∃ yn:Hd×Nat,yn=(⟨ro2,(cI b).length,rc2⟩,first+s.B.length):=⟨_,rfl⟩
 have ho7:bF 2 Il 143 w7.heap (some ⟨w6.heap.size,0,none⟩) 1 [yn]:=bL (xs:=[yn]) nB (by rw[hyn];exact hg7) (by show 1≤maxLen;decide);have hz7:w7.heap.size=w6.heap.size+1:=hs7;refine TH nB rfl Jg rfl rfl (k26.WR hf7) (ho7.vw nB) (by simp only[length_singleton];omega) (by simp only[length_singleton];unfold maxLen;omega) rfl ?_;intro o8 c8 w8 ho8 hf8 hr8 hn8;have hz8:=hf8.size;have hg8:=hf8.obj (hf7.obj hg6 id) h5;have hr8w:∀ k,k<W.heap.size→¬ blk ro k→¬ blk o8 k:=fun k hk hb ⟨a,ha,e⟩=>by rcases hr8 a ha with h|h;exact hb ⟨a,h,e⟩;omega
 refine Gz 2 ?_;refine Tx NJ rfl rfl rfl hg8 rfl ?_;intro w9 hg9 hs9 hf9;have h19:=((k16.WR hf7).WS hf8 (fun a ha ⟨c,hc,e⟩=>h6 a c ha hc e.symm)).WS hf9 (fun a ha e=>h4 ⟨a,ha,e⟩);have h29:=ho8.WS hf9 (fun a ha e=>hr8w g hgl h5 ⟨a,ha,e⟩);have hro9:=((hro6.WR hf7).WS hf8 (fun a ha hb=>by have:=hrol _ hb;have:=hfro a ha;omega)).WS hf9 (fun a ha e=>by have:=hfro a ha;have e:a.block=g:=e;omega);have hblk:∀ k,blk ro2 k→(D k∧¬ blk o6 k)∧k≠g∧¬ blk bo k∧¬ blk o8 k∧k<w9.heap.size:=by
  rintro k ⟨a,ha,e⟩;have h10:=hfro a ha;have h11:=hrl2 a ha;subst e;refine⟨⟨hD _ (by omega),hne6 _ (by omega)⟩,by omega,(fun h=>?_),(fun⟨c,hc,e2⟩=>?_),by omega⟩
  ·have:=hbol _ h;omega
  · rcases hr8 c hc with h|h
    ·have:=hrol _ ⟨c,h,e2⟩;omega
    ·omega
 have h39:=(((((k36.WS hf7 (fun _ _=>id)).WS hf8 (fun k hk=>hk.2.2.2.1)).WS hf9 (fun k hk=>hk.2.1)).mono (D':=fun k=>(D k∧¬ blk o6 k)∧k≠g∧¬ blk bo k∧¬ blk o8 k∧k<w9.heap.size) (fun k hk=>⟨⟨hk.1,hne6 k (by have:=hk.2.2.2.2;omega)⟩,hk.2.1,hk.2.2.1,hr8w k hk.2.2.2.2 hk.2.2.2.1,by have:=hk.2.2.2.2;omega⟩)).snoc (s:=nL (cI b)) (v:=first+s.B.length) (z:=⟨ro2,(cI b).length,rc2⟩) (by rw[hsk]) (by rw[hsk];exact hro9.vw) hblk)
 rw[←hyn] at h39;have hF9:aA D W w9:=((hF6.any.trans hf7.any).trans (hf8.mono h9)).trans (hf9.mono (fun k e=>by have e:k=g:=e;rw[e];exact h7));have ho69:=((ho6.WR hf7).WS hf8 (fun a ha hb=>by have:=hrol _ hb;have:=hfr6W a ha;omega)).WS hf9 (fun a ha e=>by have:=hfr6W a ha;have e:a.block=g:=e;omega);refine Gz 10 ?_;refine TB aV aK rfl rfl h19 hro9.vw (by omega) (by unfold maxLen;omega) rfl ?_;intro o10 c10 w10 ho10 hf10 hr10 hn10;have hg10:=hf10.obj hg9 h4;refine Gz 2 ?_;refine Tx aT rfl rfl rfl hg10 rfl ?_;intro w11 hg11 hs11 hf11;obtain⟨hM11,hF11⟩:=Px (W:=w9) (D:=fun k=>D k∧¬ blk o6 k) (ro:=o8) (ys:=ys++[yn]) (mq:=s.m++[(nL (cI b),first+s.B.length)]) (first:=first) (Bq:=s.B++cI b) (fun k hk=>⟨hD k (by omega),(fun⟨a,ha,e⟩=>by have:=ho6l a ha;omega)⟩) (by omega) (fun k hk=>by have:=hbol k hk;omega) h29 h39 h4 (hr8w g hgl h5) (fun a c ha hc e=>by rcases hr8 c hc with h|h;exact h6 a c ha h e;have:=h1.lt a ha;omega) ⟨h7,hne6 g (by omega)⟩ (fun k hk=>⟨h8 k hk,hne6 k (by have:=hbol k hk;omega)⟩) (fun k ⟨a,ha,e⟩=>by rcases hr8 a ha with h|h;exact⟨h9 k ⟨a,h,e⟩,hne6 k (by have:=hrol k ⟨a,h,e⟩;omega)⟩;exact⟨hD k (by omega),(fun⟨c,hc,e2⟩=>by have:=ho6l c hc;omega)⟩) ho10 hf10 hr10 hg11 hf11;refine Gz 12 ?_;rw[e];exact⟨_,rfl,o6,c6,rfl,ho69.WS hF11 (fun a ha hh=>hh.2 ⟨a,ha,rfl⟩),hfr6W,hM11,hF9.trans (hF11.mono (fun k hk=>hk.1))⟩
abbrev Ino:=(Nat→Int)×By
def zA(x:Ino):List Value:=aZ x.1 x.2
theorem eY:iF 11 zA:=fun x=>⟨rfl,dQ _ _⟩
def jD:Ino:=(fun _=>0,[])
def gC(x:Ino):By:=(iQ x.1 x.2).2
theorem sE{x:Ino}(h:eO x.1 x.2):15≤(gC x).length∧(gC x).length≤214:=by
 have h1:=F4 h;have h9:=h.1;unfold aX at h9;unfold gC
 split at h1
 ·omega
 ·split at h1<;>omega
theorem H3{x:Ino}(hm:eO x.1 x.2)(rest:By):dO ((gC x++rest).take 14)=(gC x).length:=by
 have h1:=F4 hm;have h2:=sE hm;have hk:=oG hm;have a0:=JP hm;have hg:∀ j,j<14→((gC x++rest).take 14).getD j 0=(gC x).getD j 0:=fun j hj=>by
  rw[List.getD,List.getElem?_take,if_pos hj,List.getElem?_append_left (by omega),←List.getD]
 have he:gC x=(iQ x.1 x.2).2:=rfl;unfold dO;rw[hg 0 (by decide),hg 13 (by decide),he,a0]
 split at h1
 ·rw[if_pos (by omega)];omega
 · rename_i h3
   split at h1
   ·rw[if_neg (by omega),if_pos (by omega)];omega
   · have h4:x.1 0=3:=by omega
     have a3:=HF hm h4;rw[if_neg (by omega),if_neg (by omega),if_pos (by omega),a3];omega
theorem OV{T rest:By}{off:Nat}{x:Ino}(hm:eO x.1 x.2)(hd:T.drop off=gC x++rest)(hr:off+(gC x).length≤T.length) :
 bJ (frW T (nF T)) 0 (frW T (nF T)).length (aN T off:Nat)=((gFn (gC x),gT (gC x)),((aN T (off+(gC x).length):Nat):Int),0):=by
 have hl:=sE hm;have r1:=EG T [] [] (o:=off) (m:=14) (by omega);have r2:=EG T [] [] (o:=off) (m:=(gC x).length) hr;rw[vG,uV,hd] at r1 r2;rw[take_left' rfl] at r2;have e1:aD (frW T (nF T)) 0 (frW T (nF T)).length (aN T off:Nat) 14=((gC x++rest).take 14,((aN T (off+14):Nat):Int),0):=r1;have e2:aD (frW T (nF T)) 0 (frW T (nF T)).length (aN T off:Nat) (dO (aD (frW T (nF T)) 0 (frW T (nF T)).length (aN T off:Nat) 14).1)=(gC x,((aN T (off+(gC x).length):Nat):Int),0):=by
  rw[e1,H3 hm];exact r2
 have h4:=(KA (im:=frW T (nF T)) (fr:=0) (to:=(frW T (nF T)).length) (ref:=(aN T off:Nat)) (by rw[e1]) (by rw[e2]) (by rw[e2];exact(Ck hm).1))
 rw[h4,e2]
theorem H7{x:Ino}(hm:eO x.1 x.2):pU (gFn (gC x)) (gT (gC x)) x.1 x.2:=(Ck hm).2
def nM(l:List Int)(n:Int):Int:=match l.findIdx? (fun x=>decide (x=n)) with
|some i=>i
|none=>0
structure BSt where
 ino:By
 lst:By
 fur:By
 refs:List Int
 sets:List (List Xa×Int)
 many:Nat
def sQ(n:Nat):BSt:=⟨[],[],[],List.replicate n 0,[],0⟩
def cY(s:BSt)(X:List Xa):Int×BSt:=
 if X.length=0 then (0,s) else
 match s.sets.find? (fun y=>decide (y.1=X)) with
|some y=>(y.2+1,s)
|none=>((aN s.fur s.fur.length:Nat)+1,{ s with fur:=s.fur++(jK X).1,sets:=s.sets++[(X,((aN s.fur s.fur.length:Nat):Int))] })
def ndB(qs:List (NdH×Nd))(k:Int):Nd:=(qs.getD k.toNat (Bx,nd0)).2
def inB(qs:List (NdH×Nd))(ids:List Int)(k:Int)(i:Ino)(xr:Int):Ino:=
 (fun j=>[(ndB qs k).kind,(ndB qs k).md,nM ids (ndB qs k).ud,nM ids (ndB qs k).gd,wZ qs k,xr,i.1 6,i.1 7,i.1 8,i.1 9].getD j 0,i.2)
def jV(qs:List (NdH×Nd))(ids:List Int)(k:Int)(i:Ino)(s:BSt):BSt:=
 { (cY s (ndB qs k).xs).2 with
  ino:=(cY s (ndB qs k).xs).2.ino++(pK (inB qs ids k i (cY s (ndB qs k).xs).1).1 (inB qs ids k i (cY s (ndB qs k).xs).1).2).1
  refs:=(cY s (ndB qs k).xs).2.refs.set (ndB qs k).ino.toNat ((aN (cY s (ndB qs k).xs).2.ino (cY s (ndB qs k).xs).2.ino.length:Nat)+1)
  many:=(cY s (ndB qs k).xs).2.many+1 }
def wrK(wr:Int→BSt→BSt)(qs:List (NdH×Nd)):List Int→BSt→BSt×List Ent
|[],s=>(s,[])
|j::r,s=>((wrK wr qs r (wr j s)).1,(aQ (ndB qs j).names,(ndB qs j).kind,(wr j s).refs.getD (ndB qs j).ino.toNat 0-1)::(wrK wr qs r (wr j s)).2)
def In(s:BSt)(b:By):Ino:=(fun j=>if j=6 then ((aN s.lst s.lst.length:Nat):Int) else if j=7 then b.length else 0,[])
def wrB(qs:List (NdH×Nd))(ids:List Int)(files:List Ino):Nat→Int→BSt→BSt
|0,_,s=>s
|n+1,k,s=>
   if 0<s.refs.getD (ndB qs k).ino.toNat 0 then s
   else if (ndB qs k).kind=2 then jV qs ids k (files.getD (ndB qs k).ino.toNat jD) s
   else if (ndB qs k).kind=3 then jV qs ids k (zF,(ndB qs k).tgt) s
   else if (ndB qs k).kind=1 then
    jV qs ids k (In (wrK (wrB qs ids files n) qs (bN qs (ndB qs k).names qs.length) s).1 (lM (wrK (wrB qs ids files n) qs (bN qs (ndB qs k).names qs.length) s).2).1)
     { (wrK (wrB qs ids files n) qs (bN qs (ndB qs k).names qs.length) s).1 with lst:=(wrK (wrB qs ids files n) qs (bN qs (ndB qs k).names qs.length) s).1.lst++(lM (wrK (wrB qs ids files n) qs (bN qs (ndB qs k).names qs.length) s).2).1 }
   else jV qs ids k (zF,[]) s
structure FSt where
 ds:DS
 tails:List By
 files:List Ino
def gJ(s:FSt)(x:Nd):FSt:=
 if x.kind≠2∨(s.files.getD x.ino.toNat jD).1 0=2 then s
 else ⟨(iG 64 s.ds x.data).1,(dU s.tails (eB x.data)).1,s.files.set x.ino.toNat (fun j=>[2,0,0,0,0,0,((iG 64 s.ds x.data).2:Int),x.data.length,((dU s.tails (eB x.data)).2.1:Int),((dU s.tails (eB x.data)).2.2:Int)].getD j 0,[])⟩
def bM(qs:List (NdH×Nd)):FSt:=(nds qs).foldl gJ ⟨⟨[],[]⟩,[],List.replicate (qs.length+1) jD⟩
def eM:List By→DS→DS×List Int
|[],s=>(s,[])
|t::r,s=>((eM r (nN 64 s t).1).1,((nN 64 s t).2:Int)::(eM r (nN 64 s t).1).2)
def dnW(T:By):By:=frW T (nF T)
structure D5 where
 d:DS
 pl:List Int
 s:BSt
def aF(qs:List (NdH×Nd))(ids:List Int):D5:=⟨(eM (bM qs).tails (bM qs).ds).1,(eM (bM qs).tails (bM qs).ds).2,wrB qs ids (bM qs).files 17 0 (sQ (qs.length+1))⟩
def lE(a:D5):By:=a.d.B
def iH(a:D5):By:=lE a++dnW a.s.ino
def hO(a:D5):By:=iH a++dnW a.s.lst
def gH(a:D5):By:=hO a++dnW (aJ a.pl 4).1
def fT(a:D5)(ids:List Int):By:=gH a++dnW (aJ ids 2).1
def eW(a:D5)(ids:List Int):By:=fT a ids++dnW a.s.fur
def bO(qs:List (NdH×Nd))(ids:List Int)(a:D5):Nat→Int:=fun j=>[64+((eW a ids).length:Int),a.s.many,64+(lE a).length,64+(iH a).length,64+(hO a).length,64+(gH a).length,64+(fT a ids).length,ids.length,a.pl.length,a.s.refs.getD (ndB qs 0).ino.toNat 0-1].getD j 0
def rW(qs:List (NdH×Nd))(ids:List Int):By×Int:=
 if 1048576<64+((eW (aF qs ids) ids).length:Int) then ([],3)
 else ((mW (bO qs ids (aF qs ids))).1++eW (aF qs ids) ids,0)
structure yV (z:Nat)(C:Value→Value→List Value):Prop where
 g0:∀ a b,(C a b)[z]?=some a
 g1:∀ a b,(C a b)[z+1]?=some b
 s0:∀ a b v,(C a b).set z v=C v b
 s1:∀ a b v,(C a b).set (z+1) v=C a v
 l0:∀ a b,Nat.blt z (C a b).length=true
 l1:∀ a b,Nat.blt (z+1) (C a b).length=true
section
variable {C:Value→Value→List Value}{T:TypeId}
def RwI(C:Value→Value→List Value)(T:TypeId)(D:Nat→Prop)(H:Array Obj)(g:Nat)(f t:By):Prop:=
 ∃ fo fc to tc,H[g]?=some (.cells (C (.slice fo f.length fc) (.slice to t.length tc)).toArray T (0,0))∧Own b8 5 H fo fc f∧Own b8 5 H to tc t∧¬ blk fo g∧¬ blk to g∧Ap fo to∧D g∧(∀ k,blk fo k→D k)∧(∀ k,blk to k→D k)
section
variable {D:Nat→Prop}{g:Nat}{f t:List UInt8}
theorem RwI.lt{H:Array Obj}(h:RwI C T D H g f t):g<H.size:=by obtain⟨fo,fc,to,tc,hg,_⟩:=h;exact(Array.getElem?_eq_some_iff.1 hg).1
theorem RwI.shrink{S:Nat→Prop}{w w':World}(h:RwI C T D w.heap g f t)(hf:aA S w w')(hs:∀ k,D k→¬ S k):RwI C T (fun k=>D k∧(k<w.heap.size∨w'.heap.size≤k)) w'.heap g f t:=by
 have hl:=h.lt;obtain⟨fo,fc,to,tc,hg,h1,h2,h3,h4,h5,h6,h7,h8⟩:=h;exact⟨fo,fc,to,tc,hf.obj hg (hs g h6),h1.WS hf (fun a ha=>hs _ (h7 _ ⟨a,ha,rfl⟩)),h2.WS hf (fun a ha=>hs _ (h8 _ ⟨a,ha,rfl⟩)),h3,h4,h5,⟨h6,.inl hl⟩,
  fun k ⟨a,ha,hb⟩=>⟨h7 k ⟨a,ha,hb⟩,.inl (by have:=h1.lt a ha;omega)⟩,fun k ⟨a,ha,hb⟩=>⟨h8 k ⟨a,ha,hb⟩,.inl (by have:=h2.lt a ha;omega)⟩⟩
end
theorem Jk{D:Nat→Prop}{W w1 w2:World}{g:Nat}{f t t':By}{fo to to':Option Addr}{fc tc tc':Nat}(hD:∀ k,W.heap.size≤k→D k)
 (hg:W.heap[g]?=some (.cells (C (.slice fo f.length fc) (.slice to t.length tc)).toArray T (0,0)))(h1:Own b8 5 W.heap fo fc f)(h3:¬ blk fo g)(h4:¬ blk to g)(h5:Ap fo to)(h6:D g)(h7:∀ k,blk fo k→D k)(h8:∀ k,blk to k→D k)
 (ho:Own b8 5 w1.heap to' tc' t')(hf1:aA (blk to) W w1)(hr:∀ a,to'=some a→to=some a∨W.heap.size≤a.block)
 (hg2:w2.heap[g]?=some (.cells (C (.slice fo f.length fc) (.slice to' t'.length tc')).toArray T (0,0)))(hf2:aA (· = g) w1 w2) :
 RwI C T D w2.heap g f t'∧aA D W w2:=by
 have hgl:=(Array.getElem?_eq_some_iff.1 hg).1;have hD1:aA D W w1:=hf1.mono h8;have hD2:aA D W w2:=hD1.trans (hf2.mono (fun k h=>by have h:k=g:=h;subst h;exact h6));have hn:¬ blk to' g:=fun⟨a,ha,hb⟩=>by
  rcases hr a ha with h|h
  ·exact h4 ⟨a,h,hb⟩
  ·omega
 refine⟨⟨fo,fc,to',tc',hg2,(h1.WS hf1 (fun a ha ⟨b,hb,h⟩=>h5 a b ha hb h.symm)).WS hf2 (fun a ha h=>h3 ⟨a,ha,h⟩),ho.WS hf2 (fun a ha h=>hn ⟨a,ha,h⟩),h3,hn,fun a b ha hb e=>?_,h6,h7,fun k ⟨a,ha,hb⟩=>?_⟩,hD2⟩
 · rcases hr b hb with h|h
   ·exact h5 a b ha h e
   ·have:=h1.lt a ha;omega
 · rcases hr a ha with h|h
   ·exact h8 k ⟨a,h,hb⟩
   ·exact hD k (by omega)
theorem Jl{D:Nat→Prop}{W w1 w2:World}{g:Nat}{f t f':By}{fo to fo':Option Addr}{fc tc fc':Nat}(hD:∀ k,W.heap.size≤k→D k)
 (hg:W.heap[g]?=some (.cells (C (.slice fo f.length fc) (.slice to t.length tc)).toArray T (0,0)))(h2:Own b8 5 W.heap to tc t)(h3:¬ blk fo g)(h4:¬ blk to g)(h5:Ap fo to)(h6:D g)(h7:∀ k,blk fo k→D k)(h8:∀ k,blk to k→D k)
 (ho:Own b8 5 w1.heap fo' fc' f')(hf1:aA (blk fo) W w1)(hr:∀ a,fo'=some a→fo=some a∨W.heap.size≤a.block)
 (hg2:w2.heap[g]?=some (.cells (C (.slice fo' f'.length fc') (.slice to t.length tc)).toArray T (0,0)))(hf2:aA (· = g) w1 w2) :
 RwI C T D w2.heap g f' t∧aA D W w2:=by
 have hgl:=(Array.getElem?_eq_some_iff.1 hg).1;have hD1:aA D W w1:=hf1.mono h7;have hD2:aA D W w2:=hD1.trans (hf2.mono (fun k h=>by have h:k=g:=h;subst h;exact h6));have hn:¬ blk fo' g:=fun⟨a,ha,hb⟩=>by
  rcases hr a ha with h|h
  ·exact h3 ⟨a,h,hb⟩
  ·omega
 refine⟨⟨fo',fc',to,tc,hg2,ho.WS hf2 (fun a ha h=>hn ⟨a,ha,h⟩),(h2.WS hf1 (fun a ha ⟨b,hb,h⟩=>h5 b a hb ha h)).WS hf2 (fun a ha h=>h4 ⟨a,ha,h⟩),hn,h4,fun a b ha hb e=>?_,h6,fun k ⟨a,ha,hb⟩=>?_,h8⟩,hD2⟩
 · rcases hr a ha with h|h
   ·exact h5 a b h hb e
   ·have:=h2.lt b hb;omega
 · rcases hr a ha with h|h
   ·exact h7 k ⟨a,h,hb⟩
   ·exact hD k (by omega)
theorem L7{D:Nat→Prop}{W w2:World}{g:Nat}{f t:By}{fo to:Option Addr}{fc tc:Nat}
 (hg:W.heap[g]?=some (.cells (C (.slice fo f.length fc) (.slice to t.length tc)).toArray T (0,0)))(h1:Own b8 5 W.heap fo fc f)(h3:¬ blk fo g)(h6:D g)(h7:∀ k,blk fo k→D k)
 (hg2:w2.heap[g]?=some (.cells (C (.slice fo f.length fc) sN).toArray T (0,0)))(hf2:aA (· = g) W w2) :
 RwI C T D w2.heap g f []∧aA D W w2:=
 ⟨⟨fo,fc,none,0,hg2,h1.WS hf2 (fun a ha h=>h3 ⟨a,ha,h⟩),WA,h3,(fun⟨a,ha,_⟩=>by cases ha),Wx,h6,h7,(fun k ⟨a,ha,_⟩=>by cases ha)⟩,hf2.mono (fun k h=>by have h:k=g:=h;subst h;exact h6)⟩
theorem Hn{z:Nat}(hC:yV z C)(D:Nat→Prop)(g:Nat)(f t:By)(bo:Option Addr)(bc:Nat)(b:By)(W:World)(hM:RwI C T D W.heap g f t)(hD:∀ k,W.heap.size≤k→D k)(hv:Vw b8 W.heap bo bc b)(hbD:b≠[]→∀ k,blk bo k→¬ D k)(htl:t.length<128)(hb:f.length+2*(t.length+b.length)≤1099511627776) :
 CA 29 [.pointer (some ⟨g,z,none⟩),.slice bo b.length bc] W fun v w'=>v=iV (256*f.length+t.length:Nat)∧RwI C T D w'.heap g (aY f (t++b)).1 (aY f (t++b)).2∧aA D W w':=by
 have hM0:=hM;obtain⟨fo,fc,to,tc,hg,h1,h2,h3,h4,h5,h6,h7,h8⟩:=hM;have hvl:=hv.WQ;refine cS 67 [(0,_),(1,_)] Tryz.func29 ?_;refine Gz 6 ?_;refine TN 13 [0,1,2,3,4,5,6,7,8,9,10,11,12] aL (by kernel_rfl) ?_;refine Gz 3 ?_;refine xC rfl (Tu aT rfl (by first|exact bS hg (hC.g0 _ _)|exact bS hg (hC.g1 _ _))) ?_;refine Gz 1 ?_;refine xC rfl (Ue rfl rfl (by omega)) ?_;refine Gz 3 ?_;refine xC rfl (Tu aT rfl (by first|exact bS hg (hC.g0 _ _)|exact bS hg (hC.g1 _ _))) ?_;refine Gz 12 ?_;refine TA (β:=Nat×(By×By)) (fun⟨i,⟨f9,t9⟩⟩=>[(0,.pointer (some ⟨g,z,none⟩)),(1,.slice bo b.length bc),(5,iV (256*f.length+t.length:Nat)),(6,iV i)]) (fun⟨i,⟨f9,t9⟩⟩ w=>i≤b.length∧aY f (t++b.take i)=(f9,t9)∧RwI C T D w.heap g f9 t9∧aA D W w) (fun⟨i,⟨f9,t9⟩⟩=>b.length-i) ⟨0,⟨f,t⟩⟩ ⟨rfl,rfl,rfl,rfl,trivial⟩ ⟨Nat.zero_le _,by rw[List.take_zero,List.append_nil,cZ htl],hM0,(Wt _ _).draws 1⟩ ?_;rintro⟨i,⟨f9,t9⟩⟩ w3 ⟨hi,hcw,hM3,hF3⟩;obtain⟨hoA,hcap,ko,kc,kg,k1,k2,k3,k4,k5,k6,k7,k8⟩:=hM3;have hM3:RwI C T D w3.heap g f9 t9:=⟨hoA,hcap,ko,kc,kg,k1,k2,k3,k4,k5,k6,k7,k8⟩
 have hv9:Vw b8 w3.heap bo bc b:=hv.keepN hF3 (fun hne a ha h=>hbD hne _ ⟨a,ha,rfl⟩ h);refine fK 6 ?_ ?_<;>intro h24
 ·have hib:i<b.length:=by omega
  have hsn:=AQ f (t++b.take i) (b.getD i 0);rw[append_assoc,←FL hib,hcw] at hsn;have hsn:aY f (t++b.take (i+1))=if (t9++[b.getD i 0]).length=128 then (f9++(cF (t9++[b.getD i 0])).1,[]) else (f9,t9++[b.getD i 0]):=hsn
  have hln:=sK f (t++b.take i);rw[hcw,length_append,length_take] at hln;have hrl:=gM f (t++b.take i);rw[hcw] at hrl;have hln:f9.length+2*t9.length≤f.length+2*(t.length+min i b.length):=hln;have hrl:t9.length<128:=hrl;refine Gz 5 ?_;refine TY (β:=By×By) (fun⟨f8,t8⟩=>[(0,.pointer (some ⟨g,z,none⟩)),(1,.slice bo b.length bc),(5,iV (256*f.length+t.length:Nat)),(6,iV i)]) (fun⟨f8,t8⟩ w=>aY f (t++b.take (i+1))=(f8,t8)∧RwI C T D w.heap g f8 t8∧aA D W w) ?_ ?_
  ·refine Gz 2 ?_;refine TG 13 (fun H=>Vw b8 H bo bc b∧H[g]?=some (.cells (C (.slice hoA f9.length hcap) (.slice ko t9.length kc)).toArray T (0,0))) [9,10,13] [0,1,2,3,4,5,6,7,8,9,10,11,12,13] aL (by kernel_rfl) (⟨hv9,kg⟩) ?_;refine Gz 4 ?_;refine xC rfl (TF aT rfl (fun H hH=>bS hH.2 (hC.g1 _ _))) ?_;refine Gz 2 ?_;refine xC rfl (Tt aK rfl rfl hv.non (by omega)) ?_;refine xC rfl (TF gW rfl (fun H hH=>hH.1.gd 0 hib)) ?_;refine Ty rfl rfl (T3 (enc:=b8) (u:=b.getD i 0) aK (aV _) rfl rfl ?_);intro w4 ho4 hs4 hf4;have hf4:=hf4.WP;refine TE (by exact⟨(hv9).WR hf4,hf4.obj kg id⟩) ?_;refine Ty rfl rfl (TB aV aK rfl rfl (k2.WR hf4) ho4.vw (by simp only[length_singleton];omega) (by simp only[length_singleton];unfold maxLen;omega) rfl ?_);intro to5 tc5 w5 ho5 hf5 hr5 hn5;have hg5:=hf5.obj (hf4.obj kg id) k4;have hv5:Vw b8 w5.heap bo bc b:=(hv9.WR hf4).keepN hf5 (fun hne a ha h=>hbD hne _ ⟨a,ha,rfl⟩ (k8 _ h));refine TE (by exact⟨hv5,hg5⟩) ?_;refine Gz 2 ?_;refine Ty rfl rfl (Tx aT rfl rfl rfl hg5 (hC.l1 _ _) ?_);intro w6 hg6 hs6 hf6;refine T6 rfl ?_;rw[hC.s1] at hg6;obtain⟨hM6,hF6⟩:=Jk (cR hf4 (cR hF3 hD)) (hf4.obj kg id) (k1.WR hf4) k3 k4 k5 k6 k7 k8 ho5 hf5 hr5 hg6 hf6;have hF6:=hf4.any.trans hF6;obtain⟨jo,jc,lo,lc,jg,j1,j2,j3,j4,j5,j6,j7,j8⟩:=hM6;refine Gz 7 ?_;refine cL (Tu aT rfl (by first|exact bS jg (hC.g0 _ _)|exact bS jg (hC.g1 _ _))) ?_;refine fK 1 ?_ ?_<;>intro h45
   ·rw[if_pos (by omega)] at hsn;have hps:=fS (b:=t9++[b.getD i 0]) (by omega);refine Gz 8 ?_;refine cL (Tu aT rfl (by first|exact bS jg (hC.g0 _ _)|exact bS jg (hC.g1 _ _))) ?_;refine cA 0 Id (lX lo lc (t9++[b.getD i 0]) w6 j2.vw) ?_;rintro _ w7 ⟨o7,c7,rfl,ho7,hfr7,hf7⟩;have hg7:=hf7.obj jg id;refine Gz 13 ?_;refine cL (Tu aT rfl (by first|exact bS hg7 (hC.g0 _ _)|exact bS hg7 (hC.g1 _ _))) ?_;refine Gz 1 ?_;refine TB aV aK rfl rfl (j1.WR hf7) ho7.vw (by omega) (by unfold maxLen;omega) rfl ?_;intro fo8 fc8 w8 ho8 hf8 hr8 hn8;have hg8:=hf8.obj hg7 j3;refine Gz 2 ?_;refine Tx aT rfl rfl rfl hg8 (hC.l0 _ _) ?_;intro w9 hg9 hs9 hf9;rw[hC.s0] at hg9;obtain⟨hM9,hF9⟩:=Jl (cR hf7 (cR hF6 (cR hF3 hD))) hg7 (j2.WR hf7) j3 j4 j5 j6 j7 j8 ho8 hf8 hr8 hg9 hf9;obtain⟨io,ic,mo,mc,ig,i1,i2,i3,i4,i5,i6,i7,i8⟩:=hM9;refine Gz 6 ?_;refine Tx aT rfl rfl rfl ig (hC.l1 _ _) ?_;intro w10 hg10 hs10 hf10;rw[hC.s1] at hg10;obtain⟨hM10,hF10⟩:=L7 ig i1 i3 i6 i7 hg10 hf10;refine Gz 2 ?_;exact aC ⟨f9++(cF (t9++[b.getD i 0])).1,[]⟩ ⟨hsn,hM10,(((hF3.trans hF6).trans hf7.any).trans hF9).trans hF10⟩
   rw[if_neg (by omega)] at hsn;refine Gz 5 ?_;exact aC ⟨f9,t9++[b.getD i 0]⟩ ⟨hsn,⟨jo,jc,lo,lc,jg,j1,j2,j3,j4,j5,j6,j7,j8⟩,hF3.trans hF6⟩
  rintro⟨f8,t8⟩ w12 ⟨hcw12,hM12,hF12⟩;refine Gz 5 ?_;exact aG ⟨i+1,⟨f8,t8⟩⟩ ⟨by omega,hcw12,hM12,hF12⟩ (by show b.length-(i+1)<b.length-i;omega)
 have hib:i=b.length:=by omega
 subst hib;rw[take_length] at hcw;refine Gz 16 ?_;rw[hcw];exact⟨_,rfl,rfl,hM3,hF3⟩
theorem EC{z:Nat}(hC:yV z C)(D:Nat→Prop)(g:Nat)(f t:By)(W:World)(hM:RwI C T D W.heap g f t)(hb:f.length≤1099511627000)(htl:t.length<128) :
 CA 30 [.pointer (some ⟨g,z,none⟩)] W (oT W (nK f t)):=by
 obtain⟨fo,fc,to,tc,hg,h1,h2,h3,h4,h5,h6,h7,h8⟩:=hM;refine cS 30 [(0,_)] Tryz.func30 ?_;refine Gz 7 ?_;refine T2 b8 aK rfl ?_;intro w1 ho1 hs1 hf1;have hg1:=hf1.obj hg id;refine Gz 3 ?_;refine cL (Tu aT rfl (by first|exact bS hg1 (hC.g0 _ _)|exact bS hg1 (hC.g1 _ _))) ?_;refine TB aV aK rfl rfl ho1 (h1.WR hf1).vw (by simp only[length_nil];omega) (by simp only[length_nil];unfold maxLen;omega) rfl ?_;intro o2 c2 w2 ho2 hf2 hr2 hn2;rw[nil_append] at ho2 ⊢;have hF2:aA nob W w2:=hf1.WO hf2 (eP _).step;have hfr2:Fr W.heap.size o2:=bK (eP _) hr2 hf1.size;have hg2:=hF2.obj hg id;refine Gz 9 ?_;refine cL (Tu aT rfl (by first|exact bS hg2 (hC.g0 _ _)|exact bS hg2 (hC.g1 _ _))) ?_;refine fK 1 ?_ ?_<;>intro h17
 ·have e:nK f t=f++(cF t).1:=by unfold nK;rw[if_neg (by omega)]
  have hps:=fS (b:=t) (by omega);refine Gz 8 ?_;refine cL (Tu aT rfl (by first|exact bS hg2 (hC.g0 _ _)|exact bS hg2 (hC.g1 _ _))) ?_;refine cA 0 Id (lX to tc t w2 (h2.WR hF2).vw) ?_;rintro _ w3 ⟨o3,c3,rfl,ho3,hfr3,hf3⟩;refine Gz 10 ?_;refine TB aV aK rfl rfl (ho2.WR hf3) ho3.vw (by omega) (by unfold maxLen;omega) rfl ?_;intro o4 c4 w4 ho4 hf4 hr4 hn4;refine Gz 11 ?_;rw[e];exact⟨_,rfl,o4,c4,rfl,ho4,bK hfr2 hr4 (hF2.trans hf3).size,(hF2.trans hf3).WO hf4 hfr2.step⟩
 have e:nK f t=f:=by unfold nK;rw[if_pos (by omega)]
 refine Gz 13 ?_;rw[e];exact⟨_,rfl,o2,c2,rfl,ho2,hfr2,hF2⟩
theorem RwI.tight{D:Nat→Prop}{H:Array Obj}{g:Nat}{f t:By}(h:RwI C T D H g f t):RwI C T (fun k=>D k∧k<H.size) H g f t:=by
 have hl:=h.lt;obtain⟨fo,fc,to,tc,hg,h1,h2,h3,h4,h5,h6,h7,h8⟩:=h;exact⟨fo,fc,to,tc,hg,h1,h2,h3,h4,h5,⟨h6,hl⟩,fun k ⟨a,ha,hb⟩=>⟨h7 k ⟨a,ha,hb⟩,by have:=h1.lt a ha;omega⟩,fun k ⟨a,ha,hb⟩=>⟨h8 k ⟨a,ha,hb⟩,by have:=h2.lt a ha;omega⟩⟩
theorem RwI.mono{D D':Nat→Prop}{H:Array Obj}{g:Nat}{f t:By}(h:RwI C T D H g f t)(hd:∀ k,D k→D' k):RwI C T D' H g f t:=by
 obtain⟨fo,fc,to,tc,hg,h1,h2,h3,h4,h5,h6,h7,h8⟩:=h;exact⟨fo,fc,to,tc,hg,h1,h2,h3,h4,h5,hd _ h6,fun k hk=>hd _ (h7 k hk),fun k hk=>hd _ (h8 k hk)⟩
theorem RwI.nx{A:Nat→Prop}{W w':World}{g:Nat}{f t:By}(h:RwI C T (fun k=>A k∨W.heap.size≤k) w'.heap g f t):RwI C T (Nx A W w') w'.heap g f t:=
 h.tight.mono (fun k hk=>hk.1.elim .inl (fun h2=>.inr ⟨h2,hk.2⟩))
theorem qC{z:Nat}(hC:yV z C)(A:Nat→Prop)(g:Nat)(Q:By)(bo:Option Addr)(bc:Nat)(b:By)(W:World)(hM:RwI C T A W.heap g (aY [] Q).1 (aY [] Q).2)(hv:Vw b8 W.heap bo bc b)(hbA:b≠[]→∀ k,blk bo k→¬ A k)(hb:Q.length+b.length≤274877906944) :
 CA 29 [.pointer (some ⟨g,z,none⟩),.slice bo b.length bc] W fun v w'=>v=iV (aN Q Q.length:Nat)∧RwI C T (Nx A W w') w'.heap g (aY [] (Q++b)).1 (aY [] (Q++b)).2∧aA A W w':=by
 have hs:=uY Q b;have hr:=gM [] Q;refine(Hn hC (fun k=>A k∨W.heap.size≤k) g _ _ bo bc b W (hM.mono (fun k h=>.inl h)) (fun k h=>.inr h) hv (fun hne k hk h=>h.elim (hbA hne k hk) (fun h=>by obtain⟨a,ha,rfl⟩:=hk;have:=hv.lt hne a ha;omega)) hr (by omega)).mono ?_;rintro e w' ⟨v,rfl,rfl,h1,h2⟩;rw[←CK,←sL] at *;exact⟨_,rfl,rfl,h1.nx,h2.nx⟩
theorem nU{z:Nat}(hC:yV z C)(A:Nat→Prop)(g:Nat)(Q:By)(W:World)(hM:RwI C T A W.heap g (aY [] Q).1 (aY [] Q).2)(hb:Q.length≤274877906944) :
 CA 30 [.pointer (some ⟨g,z,none⟩)] W (oT W (frW Q (nF Q))):=by
 have hs:=uY Q [];have hr:=gM [] Q;have:=EC hC A g _ _ W hM (by rw[length_nil] at hs;omega) hr;rwa[AO] at this
end
section
open Go Go.RowKit Go.Maps
structure ItM {α:Type}(enc:α→Value)(H:Array Obj)(g r:Nat)(m:List (α×Value))(seen:List Nat):Prop where
 map:jG enc H g m
 it:H[r]?=some (.mapIter (some g) m.length seen.toArray m.length)
 nd:seen.Nodup
 lt:∀ j∈seen,j<m.length
theorem C8:∀ (n:Nat) (l:List Nat),l.Nodup→(∀ x∈l,x<n)→l.length≤n
|0,[],_,_=>Nat.le_refl _
|0,x::l,_,h=>absurd (h x (by simp)) (Nat.not_lt_zero _)
|n+1,l,hn,h=>by
   have h1:=C8 n (l.erase n) (hn.erase n) (fun x hx=>by
    have h2:=(List.Nodup.mem_erase_iff hn).1 hx;have:=h x h2.2;have:=h2.1;omega)
   have:=List.length_erase (a:=n) (l:=l)
   split at this
   ·omega
   ·omega
section
variable {P:Program}{N:Nt}{Q:Exit→Act→World→Prop}{l:SF}{w:World}{ops:Array Oper}{rest:List Oper}
variable {ty:TypeId}{pos:String}{aft:Array Edge}{d:Nat}{x:Operand}{t k e:TypeId}{α:Type}{enc:α→Value}{g r:Nat}{m:List (α×Value)}{seen:List Nat}
theorem ItM.WS{w w':World}(h:ItM enc w.heap g r m seen)(hg:w'.heap[g]?=w.heap[g]?)(hr:w'.heap[r]?=w.heap[r]?):ItM enc w'.heap g r m seen:=⟨⟨hg.trans h.map.1,h.map.2⟩,hr.trans h.it,h.nd,h.lt⟩
theorem VH(ht:P.underlying t=some (.map k e))(hx:evL l x=some (.map (some g)))(hm:jG enc w.heap g m)(hd:Nat.blt d N.n=true)
 (h:∀ w',ItM enc w'.heap g w.heap.size m []→w'.heap.size=w.heap.size+1→aA nob w w'→Sl P N ops Q rest ((d,pT w.heap.size)::l) w') :
 Sl P N ops Q (⟨some d,.range t x,ty,pos,aft,none⟩::rest) l w:=by
 have hf:=aA.alloc nob w (.mapIter (some g) m.length #[] m.length);refine Ua (w':=w.alloc (.mapIter (some g) m.length #[] m.length)) (fun a ha=>?_) hd (h _ ⟨hm.WS hf id,heap_alloc_new w _,List.nodup_nil,by simp⟩ (by simp) hf);simp[execOp,ha.ev hx,run_range_map w t k e g _ _ ht hm.1]
theorem tX(m:List (α×Value)):(dR enc m).map (·.born)=List.range m.length:=by
 apply List.ext_getElem?;intro i;by_cases hi:i<m.length
 ·simp[dR,hi]
 ·simp[dR,hi]
theorem GM{m:List (α×Value)}{x:MapEntry}(h:x∈dR enc m):x.born<m.length∧∃ p,m[x.born]?=some p∧x.key=enc p.1∧x.val=p.2:=by
 obtain⟨j,hj⟩:=List.getElem?_of_mem h;obtain⟨p,hp,rfl⟩:=BP hj;exact⟨(List.getElem?_eq_some_iff.1 hp).1,p,hp,rfl,rfl⟩
theorem VY(hx:evL l x=some (pT r))(hi:ItM enc w.heap g r m seen)(hd:Nat.blt d N.n=true)
 (h1:(∀ j,j<m.length→j∈seen)→Sl P N ops Q rest ((d,.tuple [Value.bool false].toArray)::l) w)
 (h2:∀ (j:Nat) (p:α×Value) (w':World),j<m.length→j∉seen→m[j]?=some p→ItM enc w'.heap g r m (seen++[j])→w'.heap.size=w.heap.size→aA (· = r) w w'→(Instr.entry (pT r)).run P w'=.ok (.tuple [enc p.1,p.2].toArray) w' →
   Sl P N ops Q rest ((d,.tuple [Value.bool true,enc p.1,p.2].toArray)::l) w') :
 Sl P N ops Q (⟨some d,.next x false,ty,pos,aft,none⟩::rest) l w:=by
 have hold:∀ x∈(dR enc m).toArray.toList,x.born<m.length:=fun x hx=>(GM (by simpa using hx)).1;rcases run_next_at (P:=P) w ty r g m.length m.length seen.toArray (dR enc m).toArray m.length hi.it hi.map.1 hold (Nat.le_refl _) with⟨h0,hrun⟩|⟨e,he,w1,hal,hrun⟩
 · refine Ua (w':=w) (fun a ha=>?_) hd (h1 fun j hj=>?_)
   ·simp only[execOp,ha.ev hx,Sem.run_bind,hrun];rfl
   · have:∃ x∈dR enc m,x.born=j:=by
      have:j∈(dR enc m).map (·.born):=by rw[tX];exact mem_range.2 hj
      obtain⟨x,hx,e⟩:=mem_map.1 this;exact⟨x,hx,e⟩
     obtain⟨x,hx,rfl⟩:=this;have:=all_seen (dR enc m).toArray seen.toArray h0 x (by simpa using hx);simpa using this
 · obtain⟨hem,hes⟩:=mem_left he
   have hem':e∈dR enc m:=by simpa using hem
   obtain⟨hb,p,hp,hk,hv⟩:=GM hem';have hns:e.born∉seen:=by simpa using hes
   have hr1:w1.heap[r]?=some (.mapIter (some g) m.length seen.toArray m.length):=by rcases hal with rfl|rfl<;>exact hi.it
   obtain⟨s1,s2,s3⟩:=uZ (o':=.mapIter (some g) m.length (seen.toArray.push e.born) m.length) hr1;have hf:aA (· = r) w (ChangeMaps.setBlock w1 r (.mapIter (some g) m.length (seen.toArray.push e.born) m.length)):=by
    rcases hal with rfl|rfl
    ·exact s3
    ·exact⟨s3.os,s3.tape,s3.output,s3.size,s3.same⟩
   have hrg:¬ g=r:=fun h=>by subst h;have:=hi.map.1;rw[hi.it] at this;cases this
   have hmp:=hi.map.WS hf hrg;have hit:ItM enc (ChangeMaps.setBlock w1 r (.mapIter (some g) m.length (seen.toArray.push e.born) m.length)).heap g r m (seen++[e.born]):=⟨hmp,by rw[s1];simp,
    List.nodup_append.2 ⟨hi.nd,by simp,by simp only[mem_singleton];rintro a ha b rfl rfl;exact hns ha⟩,fun j hj=>by
     rcases mem_append.1 hj with h|h
     ·exact hi.lt j h
     ·rw[mem_singleton] at h;subst h;exact hb⟩
   have hen:=run_entry_at (P:=P) _ r g m.length seen.toArray (dR enc m).toArray m.length e s1 hmp.1 hem (by
    have:=tX (enc:=enc) m;simp only at this ⊢;rw[this];exact List.nodup_range)
   rw[hk,hv] at hen hrun;refine Ua (w':=ChangeMaps.setBlock w1 r (.mapIter (some g) m.length (seen.toArray.push e.born) m.length)) (fun a ha=>?_) hd (h2 e.born p _ hb hns hp hit (by rcases hal with rfl|rfl<;>exact s2) hf hen);simp only[execOp,ha.ev hx,Sem.run_bind,hrun];rfl
theorem VI{dd:Option Nat}{gd:Option (Nat×Bool)}{w0:World}{v:Value}(hx:evL l x=some (pT r))(h:∀ w:World,w.heap=w0.heap→(Instr.entry (pT r)).run P w=.ok v w) :
 Cm P N (· = w0.heap) l ⟨dd,.entry x,ty,pos,aft,gd⟩ v:=fun a w ha hw=>by
 simp only[execOp,ha.ev hx,Sem.run_bind,h w hw];rfl
theorem ItM.entry{w:World}{j:Nat}{p:α×Value}(h:ItM enc w.heap g r m (seen++[j]))(hp:m[j]?=some p):∀ w2:World,w2.heap=w.heap→(Instr.entry (pT r)).run P w2=.ok (.tuple [enc p.1,p.2].toArray) w2:=fun w2 e2=>by
 have hj:(dR enc m)[j]?=some ⟨enc p.1,p.2,j⟩:=by simp[dR,List.getElem?_mapIdx,hp]
 have hi:w2.heap[r]?=some (.mapIter (some g) m.length (seen.toArray.push j) m.length):=by rw[e2,h.it];simp
 have hm:w2.heap[g]?=some (.map (dR enc m).toArray m.length):=by rw[e2];exact h.map.1
 exact run_entry_at (P:=P) w2 r g m.length seen.toArray (dR enc m).toArray m.length ⟨enc p.1,p.2,j⟩ hi hm (by simpa using mem_of_getElem? hj) (by
  have:=tX (enc:=enc) m;simp only at this ⊢;rw[this];exact List.nodup_range)
variable {k2:TypeId}{z:Value}
theorem VJ{gd:Option (Nat×Bool)}{dd:Option Nat}{CH:Array Obj→Prop}(ht:LK P t k e z)(hx:evL l x=some (.map (some g)))(hm:∀ H,CH H→jG enc H g m):Cm P N CH l ⟨dd,.call ⟨.builtin .len,#[x],#[t]⟩,ty,pos,aft,gd⟩ (iV m.length):=fun b w hb hw=>by
 obtain⟨h1,hn⟩:=hm _ hw;have hg:=MapKept.run_getObj_map (P:=P) h1;simp[execOp,hb.ev hx,resolve,invoke,builtin,Builtin.len_,run_underlying ht.und,hg,goInt,Lf]
end
end
theorem Pr:(Tryz.prog.info? 112).map (fun i=>i.zero.map (·.cells))=some (some #[iV 0,iV 0,iV 0,iV 0,iV 0,iV 0,iV 0,iV 0,iV 0,iV 0,.string ByteArray.empty,iV 0,sN,sN]):=by kernel_rfl
theorem NG:(Tryz.prog.info? 107).map (fun i=>i.zero.map (·.cells))=some (some #[.pointer none,sN,iV 0,iV 0,iV 0,iV 0,iV 0,iV 0,iV 0,iV 0,iV 0,iV 0,sN,sN,.pointer none,.pointer none,.pointer none,.map none,iV 0]):=by kernel_rfl
theorem aA.setCells(b:Nat):∀ (vs:List Value) (o:Nat) (w:World),aA (· = b) w (w.setCells b o vs)
|[],o,w=>Wt _ _
|v::vs,o,w=>by
   have h1:aA (· = b) w (w.setCell ⟨b,o,none⟩ v):=⟨rfl,rfl,rfl,by simp[World.setCell],fun k hk hn=>Below.heap_setCell _ _ _ _ hn⟩
   exact h1.trans (aA.setCells b vs (o+1) _)
section
variable {P:Program}{N:Nt}{Q:Exit→Act→World→Prop}{l:SF}{w:World}{ops:Array Oper}{rest:List Oper}
variable {ty:TypeId}{pos:String}{aft:Array Edge}{x:Operand}{t:TypeId}
theorem VK{α:Type}{enc:α→Value}{e:TypeId}{bytes:Nat}(ht:aS P t e 1 bytes){z:Value}(hz:(P.info? e).map (·.zero)=some (some z))(hzc:z.cells=#[z])(h1:z.oneCell'=true)
 {b o n c cap:Nat}{xs:List α}(hx:evL l x=some (.slice (some ⟨b,o,none⟩) n c))(ho:Own enc e w.heap (some ⟨b,0,none⟩) cap xs)(hn:0<n)(hc:o+n≤cap)
 (h:∀ w',aA (· = b) w w'→Sl P N ops Q rest l w'):Sl P N ops Q (⟨none,.call ⟨.builtin .clear,#[x],#[t]⟩,ty,pos,aft,none⟩::rest) l w:=fun a ha=>by
 obtain⟨i,zz,hi,h2,_⟩:=ht.parts;obtain⟨cur,hg⟩:∃ cur:Array Value,w.heap[b]?=some (.cells cur e (0,0))∧cur.size=cap:=by
  rcases ho with⟨h,_⟩|⟨g,cur,hh,hg,_,_,hs,_⟩
  ·cases h
  ·cases hh;exact⟨cur,hg,hs⟩
 obtain⟨hg,hcs⟩:=hg;have hv:∀ w:World,(zeroValue e).run P w=.ok z w:=fun w=>by
  obtain⟨j,hj,hj1⟩:=Option.map_eq_some_iff.1 hz;simp[zeroValue,typeInfo,hj,hj1]
 have hr:=Lib.run_clear_slice (P:=P) w t e ty z ht.und hv hzc h1 b o n c hn (fun j hj=>by simp[World.cell?,hg];omega) (fun j hj=>by simp[World.frozen?,hg]);unfold wpList;rw[if_pos (by simp[Region.wanted])];refine .inl ?_;unfold Oper.wp;have:(execOp a.eval ⟨none,.call ⟨.builtin .clear,#[x],#[t]⟩,ty,pos,aft,none⟩).run P w=.ok (.value (.tuple #[])) (w.setCells b o (List.replicate n z)):=by
  simp[execOp,ha.ev hx,resolve,invoke,builtin,hr]
 rw[this];exact h _ (aA.setCells b _ o w) _ ha
end
theorem Dn:∀ x,(i64 x).oneCell'=true:=fun _=>rfl
theorem Ir(ao:Option Addr)(c:Nat)(l:List Int)(W:World)(hv:Vw i64 W.heap ao c l)(hl:l.length≤1000000) :
 CA 81 [.slice ao l.length c] W fun v w'=>∃ o c',v=.slice o l.length c'∧Own i64 3 w'.heap o c' l∧Fr W.heap.size o∧aA nob W w':=by
 cases ao with
|none=>
   have hx:l=[]:=by
    rcases Nat.eq_zero_or_pos l.length with h|h
    ·exact List.eq_nil_of_length_eq_zero h
    ·exact absurd rfl (hv.non (by omega))
   subst hx;refine cS 8 [(0,_)] Tryz.func81 ?_;refine Gz 9 ?_;refine cL (Uh bP rfl rfl) ?_;refine Gz 11 ?_;exact⟨_,rfl,none,0,rfl,WA,Wy,Wt _ _⟩
|some a=>
   refine cS 8 [(0,_)] Tryz.func81 ?_;refine Gz 9 ?_;refine cL (Uh bP rfl rfl) ?_;refine Gz 7 ?_;refine T2 i64 bP rfl ?_;intro w1 ho1 hs1 hf1;refine Gz 1 ?_;refine TB Dn bP rfl rfl ho1 (hv.WR hf1) (by simp only[length_nil];omega) (by simp only[length_nil];unfold maxLen;omega) rfl ?_;intro o2 c2 w2 ho2 hf2 hr2 hn2;refine Gz 5 ?_;exact⟨_,rfl,o2,c2,rfl,ho2,bK (eP _) hr2 hf1.size,hf1.WO hf2 (eP _).step⟩
def apI(l:List Int):Prop:=∀ i,i+1<l.length→l.getD i 0≠l.getD (i+1) 0
theorem Fo(b cap:Nat)(l:List Int)(W:World)(hv:Own i64 3 W.heap (some ⟨b,0,none⟩) cap l)(hl:l.length≤1000000) :
 CA 80 [.slice (some ⟨b,0,none⟩) l.length cap] W fun v w'=>∃ (a:Option Addr) (n c:Nat),v=.slice a n c∧(n=l.length↔apI l)∧aA (· = b) W w':=by
 have hle:=hv.vw.le;refine cS 61 [(0,_)] Tryz.func80 ?_;refine fK 10 ?_ ?_<;>intro h8
 ·have hap:apI l:=fun i hi=>by omega
  refine Gz 12 ?_;exact⟨_,rfl,_,_,_,rfl,⟨fun _=>hap,fun _=>rfl⟩,Wt _ _⟩
 refine Gz 12 ?_;refine TA (β:=Nat) (fun k=>[(0,.slice (some ⟨b,0,none⟩) l.length cap),(3,iV k)]) (fun k w=>1≤k∧k≤l.length∧(∀ j,1≤j→j<k→l.getD (j-1) 0≠l.getD j 0)∧w.heap=W.heap∧aA nob W w) (fun k=>l.length-k) 1 ⟨rfl,rfl,trivial⟩ ⟨Nat.le_refl _,by omega,fun j h1 h2=>by omega,rfl,Wt _ _⟩ ?_;rintro k w2 ⟨hk1,hkl2,hno,hw2,hF2⟩;rw[←hw2] at hv;refine fK 6 ?_ ?_<;>intro h13
 ·have hkl:k<l.length:=by omega
  refine Gz 8 ?_;refine TN 10 [0,1,2,3,4,5,6,7,8,9] aL (by kernel_rfl) ?_;refine Gz 2 ?_;refine xC rfl (Tt bP rfl rfl (by simp) (by omega)) ?_;refine xC rfl (Tu aI rfl (hv.vw.gz 0 k rfl (by omega))) ?_;refine Gz 3 ?_;refine xC rfl (Tt bP rfl rfl (by simp) (by omega)) ?_;refine xC rfl (Tu aI rfl (hv.vw.gz 0 (k-1) (by omega) (by omega))) ?_;refine xK 0 ?_ ?_<;>intro h25
  ·have hnap:¬ apI l:=fun h=>h (k-1) (by omega) (by rw[Nat.sub_add_cancel hk1];exact h25.symm);refine Gz 7 ?_;refine cL (Tw (u:=.slice (aP (some ⟨b,0,none⟩) cap k 1) (l.length-k) (cap-k)) (T4 bP rfl rfl (by omega)) (by rw[Int.toNat_natCast])) ?_;refine Gz 10 ?_;refine TA (β:=(Nat×Nat)×List Int) (fun⟨⟨k2,q⟩,ys⟩=>[(0,.slice (some ⟨b,0,none⟩) l.length cap),(3,iV k2),(4,.slice (aP (some ⟨b,0,none⟩) cap k 1) (l.length-k) (cap-k)),(5,iV q)]) (fun⟨⟨k2,q⟩,ys⟩ w=>k≤k2∧1≤q∧k2+1≤k+q∧q≤l.length-k∧ys.length=l.length∧Own i64 3 w.heap (some ⟨b,0,none⟩) cap ys∧aA (· = b) W w) (fun⟨⟨k2,q⟩,ys⟩=>l.length-q) ⟨⟨k,1⟩,l⟩ ⟨rfl,rfl,rfl,rfl,trivial⟩ ⟨Nat.le_refl _,Nat.le_refl _,by omega,by omega,rfl,hv,hF2.any.draws 1⟩ ?_;rintro⟨⟨k2,q⟩,ys⟩ w3 ⟨hkk,hq1,hkq,hql,hyl,how,hF3⟩;refine fK 6 ?_ ?_<;>intro h32
   ·have hvc:Vw i64 w3.heap (aP (some ⟨b,0,none⟩) cap k 1) (cap-k) (ys.drop k):=by
     have:=how.vw.cut (l:=k) (h:=l.length) (m:=cap) (by omega) (by omega) (by omega) (Nat.le_refl _);rwa[take_of_length_le (by rw[length_drop];omega)] at this
    have hdl:(ys.drop k).length=l.length-k:=by rw[length_drop,hyl]
    refine Gz 8 ?_;refine TN 10 [0,1,2,3,4,5,6,7,8,9] aL (by kernel_rfl) ?_;refine Gz 2 ?_;refine xC rfl (Tt bP rfl rfl (hvc.non (by omega) |> fun h _=>h) (by omega)) ?_;refine xC rfl (Tu aI rfl (hvc.gz 0 q rfl (by omega))) ?_;refine Gz 3 ?_;refine xC rfl (Tt bP rfl rfl (hvc.non (by omega) |> fun h _=>h) (by omega)) ?_;refine xC rfl (Tu aI rfl (hvc.gz 0 (q-1) (by omega) (by omega))) ?_;refine xK 0 ?_ ?_<;>intro h44
    ·refine Gz 9 ?_;refine cL (Tt bP rfl rfl (hvc.non (by omega) |> fun h _=>h) (by omega)) ?_;refine cL (Tu aI rfl (hvc.gz 0 q rfl (by omega))) ?_;refine cL (Tt bP rfl rfl (by simp) (by omega)) ?_;refine T7 Dn aI (z:=(k2:Int)) rfl rfl how (by rw[hyl];omega) ?_;intro w4 how4 hs4 hf4;refine Gz 14 ?_;refine aG ⟨⟨k2+1,q+1⟩,ys.set (k2:Int).toNat ((ys.drop k).getD q 0)⟩ ⟨by omega,by omega,by omega,by omega,by rw[length_set];exact hyl,how4,hF3.trans (hf4.WP.mono (fun k ⟨a,ha,e⟩=>by cases ha;exact e.symm))⟩ (by show l.length-(q+1)<l.length-q;omega)
    refine Gz 11 ?_;exact aG ⟨⟨k2,q+1⟩,ys⟩ ⟨by omega,by omega,by omega,by omega,hyl,how,hF3.draws 1⟩ (by show l.length-(q+1)<l.length-q;omega)
   refine Gz 12 ?_;refine cL (Tw (u:=.slice (some ⟨b,k2,none⟩) (l.length-k2) (cap-k2)) (T4 bP rfl rfl (by omega)) (by rw[Int.toNat_natCast];unfold aP;rw[if_neg (by omega)];simp[Addr.add_lit])) ?_;refine VK bP (z:=iV 0) z3 rfl rfl rfl how (by omega) (by omega) ?_;intro w5 hf5;refine Gz 6 ?_;refine cL (Tw (u:=.slice (some ⟨b,0,none⟩) k2 cap) (TP bP rfl rfl (by omega)) (by rw[aU,Int.toNat_natCast])) ?_;refine Gz 10 ?_;exact⟨_,rfl,_,_,_,rfl,⟨fun h=>by omega,fun h=>absurd h hnap⟩,hF3.trans hf5⟩
  have hnk:l.getD (k-1) 0≠l.getD k 0:=fun h=>h25 h.symm;refine Gz 11 ?_;refine aG (k+1) ⟨by omega,by omega,fun j h1 h2=>?_,hw2,hF2.draws 1⟩ (by show l.length-(k+1)<l.length-k;omega);by_cases e:j=k
  ·subst e;exact hnk
  ·exact hno j h1 (by omega)
 have hap:apI l:=fun i hi=>hno (i+1) (by omega) (by omega);refine Gz 16 ?_;exact⟨_,rfl,_,_,_,rfl,⟨fun _=>hap,fun _=>rfl⟩,hF2.any⟩
theorem DI(W:World):CA 80 [sN] W fun v w'=>v=sN∧w'=W:=by
 refine cS 61 [(0,_)] Tryz.func80 ?_;refine Gz 10 ?_;refine cL (Ug (Ut rfl rfl) (by decide)) ?_;refine Gz 12 ?_;exact⟨_,rfl,rfl,rfl⟩
theorem DJ(o:Option Addr)(cap:Nat)(l:List Int)(W:World)(hv:Own i64 3 W.heap o cap l)(hl:l.length≤1000000) :
 CA 80 [.slice o l.length cap] W fun v w'=>∃ (a:Option Addr) (n c:Nat),v=.slice a n c∧(n=l.length↔apI l)∧aA (blk o) W w':=by
 have hv0:=hv;rcases hv0 with⟨rfl,rfl,rfl⟩|⟨g,cur,rfl,hg,_⟩
 · refine(DI W).mono ?_
   rintro e w' ⟨v,rfl,rfl,rfl⟩;exact⟨_,rfl,none,0,0,rfl,⟨fun _ i hi=>by simp at hi,fun _=>rfl⟩,Wt _ _⟩
 · refine(Fo g cap l W hv hl).mono ?_
   rintro e w' ⟨v,rfl,a,n,c,h1,h2,h3⟩;exact⟨_,rfl,a,n,c,h1,h2,h3.mono (fun k hk=>⟨_,rfl,hk.symm⟩)⟩
theorem nV(l:List Int):jJ l↔upI l∧apI l:=
 ⟨fun h=>⟨fun i hi=>by have:=h i hi;omega,fun i hi=>by have:=h i hi;omega⟩,fun⟨h1,h2⟩ i hi=>by have a:=h1 i hi;have b:=h2 i hi;omega⟩
def pnV(g:Nat):Value:=pT g
def moC(tp:Nat)(bo:Option Addr)(bl bc:Nat)(F:Nat→Int)(pv iv r1 r2 r3:Value)(gm:Nat)(nm:Int):List Value:=
 [pT tp,.slice bo bl bc,iV (F 0),iV (F 1),iV (F 2),iV (F 3),iV (F 4),iV (F 5),iV (F 6),iV (F 7),iV (F 8),iV (F 9),pv,iv,r1,r2,r3,.map (some gm),iV nm]
theorem mA(g tp:Nat)(bo:Option Addr)(bc:Nat)(im:By)(F:Nat→Int)(pv iv r1 r2 r3:Value)(gm:Nat)(nm fr to:Int)(W:World)
 (hg:W.heap[g]?=some (.cells (moC tp bo im.length bc F pv iv r1 r2 r3 gm nm).toArray 107 (0,0)))(hv:Vw b8 W.heap bo bc im)(ht:TbV W.heap tp)(hb:im.length≤1099511627776) :
 CA 35 [pT g,iV fr,iV to] W fun v w'=>∃ h,v=pT h∧W.heap.size≤h∧MrO (fun k=>W.heap.size≤k∧k<w'.heap.size) w'.heap h tp im fr to∧aA nob W w':=by
 refine cS 18 [(0,_),(1,_),(2,_)] Tryz.func35 ?_;refine Gz 6 ?_;refine TG 12 (fun H=>H[g]?=some (.cells (moC tp bo im.length bc F pv iv r1 r2 r3 gm nm).toArray 107 (0,0))) [10] [0,1,2,3,4,5,6,7,8,9,10,11] aL (by kernel_rfl) (hg) ?_;refine Gz 10 ?_;refine Ty rfl rfl (Ts SJ rfl (Kf tp bo bc im fr to (W.drewN 1) ht hv (by omega)) rfl ?_);rintro _ w1 ⟨h,rfl,hh,hM,hf1⟩;refine TE (by exact hf1.WP.obj hg id) ?_;refine Gz 5 ?_;exact⟨_,rfl,h,rfl,hh,hM.tight,hf1.WP⟩
theorem Ch{im:By}{fr to wide:Int}(hw:wide=2∨wide=4):∀ (k:Nat) (ref:Int) (os:List Int) (r:Int),kF im fr to wide k ref=some (os,r)→os.length=k∧∀ x∈os,0≤x∧x≤4294967295
|0,ref,os,r,h=>by simp[kF] at h;rw[h.1];simp
|k+1,ref,os,r,h=>by
   rw[kG] at h;by_cases he:(aD im fr to ref wide).2.2≠0
   ·rw[if_pos he] at h;cases h
   · rw[if_neg he] at h
     obtain⟨⟨l,r'⟩,hl,e⟩:=Option.map_eq_some_iff.1 h;obtain⟨h1,h2⟩:=Ch hw k _ l r' hl;cases e;have hr:=(eC (Decidable.not_not.1 he)).2.2.2.1;have hv:=oV (aD im fr to ref wide).1;have hp:256 ^ (aD im fr to ref wide).1.length≤256 ^ 4:=Nat.pow_le_pow_right (by decide) (by omega);refine⟨by simp[h1],fun x hx=>?_⟩;rcases mem_cons.1 hx with rfl|hx
     · have:(256:Nat) ^ 4=4294967296:=by decide
       omega
     ·exact h2 x hx
theorem Bc{im:By}{fr to many wide:Int}(hm:many≤1000000):(tnS im fr to many wide).1.length≤1000000∧(∀ x∈(tnS im fr to many wide).1,0≤x∧x≤4294967295)∧((tnS im fr to many wide).2=0→((tnS im fr to many wide).1.length:Int)=many):=by
 by_cases h1:many<0∨¬ (wide=2∨wide=4)
 ·rw[Be h1];simp
 · cases hms:fF im fr to with
  |false=>rw[FK h1 hms];simp
  |true=>
     cases hn:kF im fr to wide many.toNat 0 with
    |none=>rw[Cg h1 hn];simp
    |some p=>
       obtain⟨os,r⟩:=p;obtain⟨f1,f2⟩:=Ch (by omega) _ _ _ _ hn;by_cases he:(aD im fr to r 1).2.2=0
       ·rw[vV h1 hn he];simp
       ·rw[qU h1 hms hn he];exact⟨by show os.length≤1000000;omega,f2,fun _=>by show (os.length:Int)=many;omega⟩
theorem Ke(g tp:Nat)(bo:Option Addr)(bc:Nat)(im:By)(F:Nat→Int)(r1 r2 r3:Value)(gm:Nat)(nm:Int)(W:World)
 (hg:W.heap[g]?=some (.cells (moC tp bo im.length bc F sN sN r1 r2 r3 gm nm).toArray 107 (0,0)))(hv:Vw b8 W.heap bo bc im)(hbg:¬ blk bo g)(ht:TbV W.heap tp)(htg:tp≠g)(hb:im.length≤1073741824)(hF7:F 7≤2048)(hF8:F 8≤1024) :
 CA 36 [pT g] W fun v w'=>
  v=.bool (decide ((tnS im (F 4) (F 5) (F 8) 4).2=0∧(tnS im (F 5) (F 6) (F 7) 2).2=0∧jJ (tnS im (F 5) (F 6) (F 7) 2).1))∧∃ po pc io ic,
  w'.heap[g]?=some (.cells (moC tp bo im.length bc F (.slice po (tnS im (F 4) (F 5) (F 8) 4).1.length pc) (.slice io (tnS im (F 5) (F 6) (F 7) 2).1.length ic) r1 r2 r3 gm nm).toArray 107 (0,0)) ∧
  Own i64 3 w'.heap po pc (tnS im (F 4) (F 5) (F 8) 4).1∧Own i64 3 w'.heap io ic (tnS im (F 5) (F 6) (F 7) 2).1∧Fr W.heap.size po∧Fr W.heap.size io∧aA (· = g) W w':=by
 have hgl:=(Array.getElem?_eq_some_iff.1 hg).1;have hbk:∀ a,bo=some a→¬ a.block=g:=fun a ha e=>hbg ⟨a,ha,e⟩;obtain⟨P,hP⟩:∃ P,P=tnS im (F 4) (F 5) (F 8) 4:=⟨_,rfl⟩
 obtain⟨I,hI⟩:∃ I,I=tnS im (F 5) (F 6) (F 7) 2:=⟨_,rfl⟩
 have hIl:I.1.length≤1000000:=by rw[hI];exact(Bc (by omega)).1
 rw[←hP,←hI];refine cS 68 [(0,_)] Tryz.func36 ?_;refine Gz 10 ?_;refine cL (TI (cs:=dB F) dS rfl (cC hg 2 rfl)) ?_;refine Tz sV rfl ?_;intro w1 hg1 hs1 hf1;obtain⟨q,eq⟩:∃ q,q=W.heap.size:=⟨_,rfl⟩
 rw[←eq] at hg1 ⊢;refine sA rfl dS (by exact fO _) hg1 ?_;intro w2 hg2 hs2 hf2;have hF2:aA nob W w2:=hf1.tw hf2;refine Gz 9 ?_;refine TG 17 (fun H=>H[q]?=some (.cells (dB F).toArray 93 (0,0))∧True) [6,9,15] [0,1,2,3,4,5,7,8,6,9,10,11,12,13,14,15,16] aL (by kernel_rfl) (⟨hg2,trivial⟩) ?_;refine Gz 8 ?_;refine Ty rfl rfl (Ts KW rfl (mA g tp bo bc im F _ _ r1 r2 r3 gm nm (F 4) (F 5) (w2.drewN 1) (hF2.obj hg id) (hv.WR (hF2.draws 1)) (hF2.obj ht id) (by omega)) rfl ?_);rintro _ w3 ⟨h,rfl,hh,hM,hf3⟩;have hf3:=hf3.WP;have hz3:=hf3.size;refine TE (by exact⟨hf3.obj hg2 id,trivial⟩) ?_;refine Ty rfl rfl (Ts PN rfl (Cf (fun k=>w2.heap.size≤k∧k<w3.heap.size) h tp im (F 4) (F 5) (F 8) 4 w3 hM (fun k hk=>hk.2) hb (by omega)) rfl ?_);rw[←hP];rintro _ w4 ⟨po,pc,rfl,hpo,hpf,hM4,hf4⟩;have hf24:aA nob w2 w4:=(hf3.any.trans hf4).fresh (fun k hk=>hk.1);have hz4:=hf4.size;have hF4:=hF2.trans hf24;refine TE (by exact⟨hf24.obj hg2 id,trivial⟩) ?_;refine Gz 5 ?_;refine Ty rfl rfl (Tx pS rfl rfl rfl (hF4.obj hg id) rfl ?_);intro w5 hg5 hs5 hf5;have hg5:w5.heap[g]?=some (.cells (moC tp bo im.length bc F (.slice po P.1.length pc) sN r1 r2 r3 gm nm).toArray 107 (0,0)):=hg5;have hF5:aA (· = g) W w5:=hF4.any.trans hf5;refine TE (by exact⟨hf5.obj (hf24.obj hg2 id) (fun h=>by have h:q=g:=h;omega),trivial⟩) ?_;have hq5:=hf5.obj (hf24.obj hg2 id) (fun h=>by have h:q=g:=h;omega);have hpo5:=hpo.WS hf5 (fun a ha e=>by have:=hpf a ha;have e:a.block=g:=e;omega);refine Gz 4 ?_;refine TG 17 (fun H=>H[q]?=some (.cells (dB F).toArray 93 (0,0))∧True) [6,9,15] [0,1,2,3,4,5,7,8,6,9,10,11,12,13,14,15,16] aL (by kernel_rfl) (⟨hq5,trivial⟩) ?_;refine Gz 8 ?_;refine Ty rfl rfl (Ts KW rfl (mA g tp bo bc im F _ _ r1 r2 r3 gm nm (F 5) (F 6) (w5.drewN 1) hg5 (hv.WS (hF5.draws 1) hbk) (hF5.obj ht htg) (by omega)) rfl ?_);rintro _ w6 ⟨h2,rfl,hh2,hM6,hf6⟩;have hf6:=hf6.WP;have hz6:=hf6.size;refine TE (by exact⟨hf6.obj hq5 id,trivial⟩) ?_;refine Ty rfl rfl (Ts PN rfl (Cf (fun k=>w5.heap.size≤k∧k<w6.heap.size) h2 tp im (F 5) (F 6) (F 7) 2 w6 hM6 (fun k hk=>hk.2) hb (by omega)) rfl ?_);rw[←hI];rintro _ w7 ⟨io,ic,rfl,hio,hif,hM7,hf7⟩;have hf57:aA nob w5 w7:=(hf6.any.trans hf7).fresh (fun k hk=>hk.1);refine TE (by exact⟨hf57.obj hq5 id,trivial⟩) ?_;refine Gz 5 ?_;refine Ty rfl rfl (Tx pS rfl rfl rfl (hf57.obj hg5 id) rfl ?_);intro w8 hg8 hs8 hf8;have hg8:w8.heap[g]?=some (.cells (moC tp bo im.length bc F (.slice po P.1.length pc) (.slice io I.1.length ic) r1 r2 r3 gm nm).toArray 107 (0,0)):=hg8;have hF8:aA (· = g) W w8:=(hF5.trans hf57.any).trans hf8;refine TE (by exact⟨hf8.obj (hf57.obj hq5 id) (fun h=>by have h:q=g:=h;omega),trivial⟩) ?_;have hpo8:=(hpo5.WR hf57).WS hf8 (fun a ha e=>by have:=hpf a ha;have e:a.block=g:=e;omega);have hio8:=hio.WS hf8 (fun a ha e=>by have:=hif a ha;have e:a.block=g:=e;omega);have hfp:Fr q po:=hpf.mono (by omega);have hfi:Fr q io:=hif.mono (by omega);refine Gz 4 ?_;refine TG 29 (fun H=>H[g]?=some (.cells (moC tp bo im.length bc F (.slice po P.1.length pc) (.slice io I.1.length ic) r1 r2 r3 gm nm).toArray 107 (0,0))∧Vw i64 H io ic I.1) [11,18,19] [0,1,2,3,4,5,6,7,8,9,10,11,12,13,14,15,16,17,21,22,23,24,25,18,19,20,26,27,28] aL (by kernel_rfl) (⟨hg8,hio8.vw⟩) ?_;refine xK 1 ?_ ?_<;>intro h41
 ·refine xW 2 ?_ ?_<;>intro h44
  ·refine Gz 6 ?_;refine Ty rfl rfl (TJ rfl rfl PM rfl (uF io ic I.1 (w8.drewN 1) (hio8.vw.WR (Wu 1))) rfl ?_);rintro _ w9 ⟨rfl,hf9⟩;have hf9:=hf9.WP;refine TE (by exact⟨hf9.obj hg8 id,hio8.vw.WR hf9⟩) ?_;by_cases h51:upI I.1
   ·rw[decide_eq_true h51];refine Gz 11 ?_;refine Ty rfl rfl (TJ rfl rfl SH rfl (Ir io ic I.1 w9 (hio8.vw.WR hf9) hIl) rfl ?_);rintro _ w10 ⟨co,cc,rfl,hco,hcf,hf10⟩;refine TE (by exact⟨(hf9.trans hf10).obj hg8 id,hio8.vw.WR (hf9.trans hf10)⟩) ?_;refine Ty rfl rfl (TJ rfl rfl SI rfl (DJ co cc I.1 w10 hco hIl) rfl ?_);rintro _ w11 ⟨xo,xn,xc,rfl,hxn,hf11⟩;have hf911:aA nob w9 w11:=hf10.WO hf11 hcf.step;have hf811:=hf9.trans hf911;refine TE (by exact⟨hf811.obj hg8 id,hio8.vw.WR hf811⟩) ?_;refine xW 1 ?_ ?_<;>intro h66
    ·refine Gz 6 ?_;have hF11:=hF8.trans hf811.any;refine⟨_,rfl,by rw[decide_eq_true (show P.2=0∧I.2=0∧jJ I.1 from ⟨h41,h44,(nV _).2 ⟨h51,hxn.1 (by omega)⟩⟩)],po,pc,io,ic,hf811.obj hg8 id,hpo8.WR hf811,hio8.WR hf811,hfp,hfi,hF11⟩
    refine Gz 6 ?_;have hno:¬ (P.2=0∧I.2=0∧jJ I.1):=fun⟨h1,h2,h3⟩=>by
     have h4:=(nV _).1 h3
     first|exact h41 h1|exact h44 h2|exact h51 h4.1|exact h66 (by rw[hxn.2 h4.2])
    exact⟨_,rfl,congrArg Value.bool (decide_eq_false hno).symm,po,pc,io,ic,hf811.obj hg8 id,hpo8.WR hf811,hio8.WR hf811,hfp,hfi,hF8.trans hf811.any⟩
   rw[decide_eq_false h51];refine Gz 11 ?_;refine Ty rfl rfl (Uc rfl rfl rfl rfl ?_);refine TE (by exact(by first|exact⟨hf9.obj hg8 id,hio8.vw.WR hf9⟩|exact⟨hg8,hio8.vw⟩)) ?_;refine Ty rfl rfl (Uc rfl rfl rfl rfl ?_);refine TE (by exact(by first|exact⟨hf9.obj hg8 id,hio8.vw.WR hf9⟩|exact⟨hg8,hio8.vw⟩)) ?_;refine Gz 8 ?_;have hno:¬ (P.2=0∧I.2=0∧jJ I.1):=fun⟨h1,h2,h3⟩=>by
    have h4:=(nV _).1 h3
    first|exact h41 h1|exact h44 h2|exact h51 h4.1|exact h66 (by rw[hxn.2 h4.2])
   exact⟨_,rfl,congrArg Value.bool (decide_eq_false hno).symm,po,pc,io,ic,hf9.obj hg8 id,hpo8.WR hf9,hio8.WR hf9,hfp,hfi,hF8.trans hf9.any⟩
  refine Gz 6 ?_;refine Ty rfl rfl (Uc rfl rfl rfl rfl ?_);refine TE (by exact⟨hg8,hio8.vw⟩) ?_;refine Gz 11 ?_;refine Ty rfl rfl (Uc rfl rfl rfl rfl ?_);refine TE (by exact(by first|exact⟨hf9.obj hg8 id,hio8.vw.WR hf9⟩|exact⟨hg8,hio8.vw⟩)) ?_;refine Ty rfl rfl (Uc rfl rfl rfl rfl ?_);refine TE (by exact(by first|exact⟨hf9.obj hg8 id,hio8.vw.WR hf9⟩|exact⟨hg8,hio8.vw⟩)) ?_;refine Gz 8 ?_;have hno:¬ (P.2=0∧I.2=0∧jJ I.1):=fun⟨h1,h2,h3⟩=>by
   have h4:=(nV _).1 h3
   first|exact h41 h1|exact h44 h2|exact h51 h4.1|exact h66 (by rw[hxn.2 h4.2])
  exact⟨_,rfl,congrArg Value.bool (decide_eq_false hno).symm,po,pc,io,ic,hg8,hpo8,hio8,hfp,hfi,hF8.draws 1⟩
 refine Gz 9 ?_;refine Ty rfl rfl (Uc rfl rfl rfl rfl ?_);refine TE (by exact⟨hg8,hio8.vw⟩) ?_;refine Gz 11 ?_;refine Ty rfl rfl (Uc rfl rfl rfl rfl ?_);refine TE (by exact(by first|exact⟨hf9.obj hg8 id,hio8.vw.WR hf9⟩|exact⟨hg8,hio8.vw⟩)) ?_;refine Ty rfl rfl (Uc rfl rfl rfl rfl ?_);refine TE (by exact(by first|exact⟨hf9.obj hg8 id,hio8.vw.WR hf9⟩|exact⟨hg8,hio8.vw⟩)) ?_;refine Gz 8 ?_;have hno:¬ (P.2=0∧I.2=0∧jJ I.1):=fun⟨h1,h2,h3⟩=>by
  have h4:=(nV _).1 h3
  first|exact h41 h1|exact h44 h2|exact h51 h4.1|exact h66 (by rw[hxn.2 h4.2])
 exact⟨_,rfl,congrArg Value.bool (decide_eq_false hno).symm,po,pc,io,ic,hg8,hpo8,hio8,hfp,hfi,hF8.draws 1⟩
end Go.Proofs.YthdecfkdgdagcaaGreat
