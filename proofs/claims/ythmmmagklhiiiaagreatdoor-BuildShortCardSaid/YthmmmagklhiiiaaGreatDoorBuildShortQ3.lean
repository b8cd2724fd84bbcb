/- lamella: what the law needs. No condition beyond the bounds that each states. -/
import Derived.Shelf.SlIterI.Sorted
import Derived.Shelf.SortM.Plain
import Derived.Shelf.SortM.SortNone
import Derived.Test.YthmmmagklhiiiaaGreatDoorBuildShortQ2
namespace Go.Proofs.YthmmmagklhiiiaaGreatDoor
open Go Go.RowKit
set_option linter.unusedVariables false
set_option linter.unusedSectionVars false
set_option maxHeartbeats 64000000
open List renaming length_append → SR, getElem?_eq_getElem → SS, getElem?_eq_some_iff → SV, mem_of_getElem? → S1, length_take → S2, length_singleton → S5, getD → S6, length_eq_zero_iff → S7, length_pos_iff → S8, take_of_length_le → S9, length_drop → Ta, length_map → Tb, length_cons → Td, getElem?_of_mem → Te, replicate → Tf, take_succ_eq_append_getElem → Tg, mem_map → Tj, eq_nil_of_length_eq_zero → Tk, mem_cons → Tm, take_append_drop → Tn, append_assoc → To, length → Tp, length_nil → Tr, getElem?_map → Ts, mem_singleton → Tv, length_replicate → Tw, mem_append → Tx, getElem?_eq_none → Ty, getElem?_set_self → Tz, pairwise_iff_getElem → TA, take_length → TB, map_cons → TD, not_mem_nil → TE, getElem_of_mem → TG, length_set → TL, range → TM, flatMap_cons → TN, ext_getElem? → TP, mem_cons_of_mem → TS, sum_cons → TU, drop_eq_getElem_cons → TV, foldl_append → TX, foldl_cons → TY, filter_append → TZ, cons_append → T1, findIdx?_eq_some_iff_getElem → T2, map_map → T3, mem_flatMap → T9, mem_range → Ua, getElem?_set → Ub, getElem_mem → Uh, take_take → Ui, append_nil → Un, filter_cons_of_pos → Uq, getElem?_drop → Ut, cons → Ux, length_dropLast → Uz, mem_of_find?_eq_some → UC, flatMap_append → UD, eq_of_mem_replicate → UF, range_succ → UH, drop_drop → UQ, length_filter_le → UT, take_left' → UV, drop_left' → UX, append_inj → UY, take_drop → U9, pairwise_cons → Va, idxOf_lt_length_iff → Vj
open _root_.Nat renaming le_refl → SY, zero_le → S3, le_trans → Tt, mul_le_mul_right → Tu, add_mul → TK, lt_of_lt_of_le → TQ, lt_trichotomy → TW, le_add_right → T0, succ_eq_add_one → T4, one_mul → T5, min_eq_left → T6, blt_eq → T8, mul_comm → Uo, mul_assoc → UE, add_zero → UN, le_succ → UU, add_sub_cancel → U7, add_sub_cancel_left → Vm
open _root_.Array renaming getElem?_eq_some_iff → SZ
open Classical renaming byContradiction → S4, not_not → TJ
open _root_.Option renaming map_eq_some_iff → Tc
open UInt8 renaming ofNat → Th, toNat_ofNat' → TO, toNat_inj → Uv
open Go.Op renaming bytesLess → Ti
open _root_.Int renaming toNat_natCast → TF, eq_ofNat_of_zero_le → Uc, natCast_nonneg → UJ
open Prod renaming ext → U3
section
variable {K:Int→List (List UInt8)}{ys zs:List Int}{n:Nat}
def BI(bs n:Nat)(ys:List Int):Prop:=∀ q i j:Nat,i<q*bs→q*bs≤j→j<n→ys.getD i 0<ys.getD j 0
theorem Seg.bi{bs a b q:Nat}(h:Seg ys zs a b)(ha:a=q*bs)(hb:b≤a+bs)(hbn:b≤n)(g:BI bs n ys):BI bs n zs:=by
 intro p i j hi hj hjn;obtain⟨i',i1,i2⟩:∃ i',(i'=i∧¬ (a≤i∧i<b)∨(a≤i∧i<b∧a≤i'∧i'<b))∧zs.getD i 0=ys.getD i' 0:=by
  by_cases k:a≤i∧i<b
  · obtain⟨i',a1,a2,a3⟩:=h.2.2.2 i k.1 k.2
    exact⟨i',.inr ⟨k.1,k.2,a1,a2⟩,a3⟩
  ·exact⟨i,.inl ⟨rfl,k⟩,h.2.2.1 i (by omega)⟩
 obtain⟨j',j1,j2⟩:∃ j',(j'=j∧¬ (a≤j∧j<b)∨(a≤j∧j<b∧a≤j'∧j'<b))∧zs.getD j 0=ys.getD j' 0:=by
  by_cases k:a≤j∧j<b
  · obtain⟨j',a1,a2,a3⟩:=h.2.2.2 j k.1 k.2
    exact⟨j',.inr ⟨k.1,k.2,a1,a2⟩,a3⟩
  ·exact⟨j,.inl ⟨rfl,k⟩,h.2.2.1 j (by omega)⟩
 rw[i2,j2];rcases Nat.lt_or_ge q p with hpq|hpq
 · have:(q+1)*bs≤p*bs:=Tu bs hpq
   rw[TK,T5] at this;exact g p i' j' (by omega) (by omega) (by omega)
 · have:p*bs≤q*bs:=Tu bs hpq
   exact g p i' j' (by omega) (by omega) (by omega)
def BSn(K:Int→List By)(bs n:Nat)(ys:List Int):Prop:=∀ q:Nat,Srt K ys (q*bs) (min (q*bs+bs) n)
theorem Srt.sub{a b a' b':Nat}(h:Srt K ys a b)(ha:a≤a')(hb:b'≤b):Srt K ys a' b':=fun i j h1 h2 h3=>h i j (by omega) h2 (by omega)
theorem Sv{a b:Nat}(h:b≤a):Srt K ys a b:=fun i j h1 h2 h3=>by omega
end
theorem BM{K:Int→List By}{V:Int→Prop}{f:FuncId}{cs:List Value}(W0:World)(o:Option Addr)(hC:J4 W0 o f cs V K)(c n:Nat)(hn:n≤100000)(xs:List Int)(W:World)(h:StI W0 o c n xs W)(hV:∀ z∈xs,V z)(hinc:Inc xs 0 n) :
 CA 215 [.slice o n c,iV n,.func (.func f) #[] cs.toArray] W fun v w'=>v=.tuple #[]∧∃ ys,StI W0 o c n ys w'∧ys.Perm xs∧Srt K ys 0 n:=by
 refine cS 63 [(0,_),(1,_),(2,_)] Tryz.func215 ?_;refine Gz 14 ?_;refine Pb (β:=Nat×List Int) (fun⟨q,ys⟩=>[(0,.slice o n c),(1,iV n),(2,.func (.func f) #[] cs.toArray),(6,iV 20),(7,iV ((q*20:Nat):Int)),(8,iV ((q*20+20:Nat):Int))]) (fun⟨q,ys⟩ w=>q*20≤n∧StI W0 o c n ys w∧ys.Perm xs∧BI 20 n ys∧(∀ p,p<q→Srt K ys (p*20) (p*20+20))∧∀ k,q*20≤k→ys.getD k 0=xs.getD k 0) (fun⟨q,ys⟩=>n-q*20) ⟨0,xs⟩ ⟨rfl,rfl,rfl,rfl,rfl,rfl,trivial⟩ ⟨by omega,h,List.Perm.refl _,fun q i j i1 i2 i3=>hinc i j (S3 _) (by omega) i3,fun p hp=>by omega,fun _ _=>rfl⟩ ?_;rintro⟨q,ys⟩ w2 ⟨hq,hy,hyp,hyb,hys,hyk⟩;refine fK 5 ?_ ?_<;>intro h13
 ·have hb:q*20+20≤n:=by omega
  refine Gz 12 ?_;refine O6 Kc rfl (tP W0 o hC c n (q*20) (q*20+20) ys w2 hy (fun z hz=>hV z (hyp.mem_iff.1 hz)) (by omega) hb (by omega) (fun i j i1 i2 i3=>by rw[hyk i i1,hyk j (by omega)];exact hinc i j (S3 _) i2 (by omega))) rfl ?_;rintro _ w3 ⟨rfl,zs,hz,hzg,hzs⟩;refine Gz 15 ?_;refine Po ⟨q+1,zs⟩ ⟨rfl,rfl,rfl,rfl,congrArg (fun z:Int=>some (Value.int .i64 z)) (by omega),congrArg (fun z:Int=>some (Value.int .i64 z)) (by omega),trivial⟩ ⟨by omega,hz,hzg.2.1.trans hyp,hzg.bi rfl (SY _) hb hyb,fun p hp=>?_,fun k hk=>by rw[hzg.2.2.1 k (.inr (by omega))];exact hyk k (by omega)⟩ (by show n-(q+1)*20<n-q*20;omega);by_cases e:p=q
  ·subst e;exact hzs
  ·exact dH (hys p (by omega)) (fun k k1 k2=>hzg.2.2.1 k (.inl (by omega)))
 have hb:¬ q*20+20≤n:=by omega
 refine Gz 14 ?_;refine O6 Kc rfl (tP W0 o hC c n (q*20) n ys w2 hy (fun z hz=>hV z (hyp.mem_iff.1 hz)) (by omega) (SY _) (by omega) (fun i j i1 i2 i3=>by rw[hyk i i1,hyk j (by omega)];exact hinc i j (S3 _) i2 (by omega))) rfl ?_;rintro _ w3 ⟨rfl,zs,hz,hzg,hzs⟩;have hzn:BSn K 20 n zs:=fun p=>by
  rcases TW p q with hp|hp|hp
  · have:(p+1)*20≤q*20:=Tu 20 hp
    exact dH (hys p hp) (fun k k1 k2=>hzg.2.2.1 k (.inl (by omega))) |>.sub (SY _) (by omega)
  ·subst hp;exact hzs.sub (SY _) (by omega)
  ·exact Sv (by omega)
 have hzb:BI 20 n zs:=hzg.bi rfl (by omega) (SY _) hyb;have hzp:=hzg.2.1.trans hyp;refine Gz 3 ?_;refine Pb (β:=Nat×List Int) (fun⟨bs,vs⟩=>[(0,.slice o n c),(1,iV n),(2,.func (.func f) #[] cs.toArray),(6,iV bs)]) (fun⟨bs,vs⟩ w=>(20≤bs∧bs≤1000000)∧StI W0 o c n vs w∧vs.Perm xs∧BI bs n vs∧BSn K bs n vs) (fun⟨bs,vs⟩=>n-bs) ⟨20,zs⟩ ⟨rfl,rfl,rfl,rfl,trivial⟩ ⟨⟨by omega,by omega⟩,hz,hzp,hzb,hzn⟩ ?_;rintro⟨bs,vs⟩ w4 ⟨⟨hbs,hbl⟩,hv4,hvp,hvb,hvs⟩;refine fK 5 ?_ ?_<;>intro h30
 ·refine Gz 9 ?_;refine cL (PT rfl rfl (by omega)) ?_;refine Gz 6 ?_;refine Pb (β:=Nat×Nat×List Int) (fun⟨q,a,zs⟩=>[(0,.slice o n c),(1,iV n),(2,.func (.func f) #[] cs.toArray),(6,iV bs),(7,iV a),(8,iV ((a+2*bs:Nat):Int))]) (fun⟨q,a,zs⟩ w=>(a=q*(2*bs)∧a≤n)∧StI W0 o c n zs w∧zs.Perm xs∧BI (2*bs) n zs∧(∀ p,p<q→Srt K zs (p*(2*bs)) (p*(2*bs)+2*bs))∧(∀ p,a≤p*bs→Srt K zs (p*bs) (min (p*bs+bs) n))∧(∀ p i j:Nat,a≤p*bs→i<p*bs→p*bs≤j→j<n→zs.getD i 0<zs.getD j 0)) (fun⟨q,a,zs⟩=>n-a) ⟨0,0,vs⟩ ⟨rfl,rfl,rfl,rfl,rfl,(congrArg (fun z:Int=>some (Value.int .i64 z)) (by omega)),trivial⟩ ⟨⟨by omega,by omega⟩,hv4,hvp,fun p i j i1 i2 i3=>hvb (2*p) i j (by rw[Uo 2 p,UE];exact i1) (by rw[Uo 2 p,UE];exact i2) i3,fun p hp=>by omega,fun p _=>hvs p,fun p i j _ i1 i2 i3=>hvb p i j i1 i2 i3⟩ ?_;rintro⟨q,a,zs⟩ w5 ⟨⟨ha,han⟩,hz5,hz5p,hb2,hsp,hsu,hbu⟩;refine fK 5 ?_ ?_<;>intro h35
  ·have hb:a+2*bs≤n:=by omega
   refine Gz 15 ?_;have e1:2*q*bs=a:=by rw[ha,Uo 2 q,UE]
   have e2:(2*q+1)*bs=a+bs:=by rw[TK,T5,e1]
   have e3:(q+1)*(2*bs)=a+2*bs:=by rw[TK,T5,ha]
   refine O6 DI rfl ((by rw[show ((a:Int)+bs)=((a+bs:Nat):Int) by omega];exact CY W0 o hC c n (by omega) (a+2*bs-a) a (a+bs) (a+2*bs) zs w5 (SY _) hz5 (fun z hz=>hV z (hz5p.mem_iff.1 hz)) (by omega) (by omega) hb (by have h9:=hsu (2*q) (by omega);rw[e1] at h9;exact h9.sub (SY _) (by omega)) (by have h9:=hsu (2*q+1) (by omega);rw[e2] at h9;exact h9.sub (SY _) (by omega)) (fun i j i1 i2 i3 i4=>hbu (2*q+1) i j (by omega) (by omega) (by omega) (by omega)))) rfl ?_;rintro _ w6 ⟨rfl,us,hu,hug,hus⟩;refine Gz 11 ?_;refine cL (PT rfl rfl (by omega)) ?_;refine Gz 4 ?_;refine Po ⟨q+1,a+2*bs,us⟩ ⟨rfl,rfl,rfl,rfl,rfl,congrArg (fun z:Int=>some (Value.int .i64 z)) (by omega),trivial⟩ ⟨⟨e3.symm,hb⟩,hu,hug.2.1.trans hz5p,hug.bi ha (SY _) hb hb2,fun p hp=>?_,fun p hp=>dH (hsu p (by omega)) (fun k k1 k2=>hug.2.2.1 k (.inr (by omega))),fun p i j hp i1 i2 i3=>?_⟩ (by show n-(a+2*bs)<n-a;omega)
   · by_cases e:p=q
     ·subst e;rw[←ha];exact hus
     · have:=Tu (2*bs) (show p+1≤q by omega)
       rw[TK,T5] at this;exact dH (hsp p (by omega)) (fun k k1 k2=>hug.2.2.1 k (.inl (by omega)))
   · rw[hug.2.2.1 j (.inr (by omega))]
     by_cases hi:a≤i∧i<a+2*bs
     · obtain⟨i',a1,a2,a3⟩:=hug.2.2.2 i hi.1 hi.2
       rw[a3];exact hbu p i' j (by omega) (by omega) i2 i3
     ·rw[hug.2.2.1 i (by omega)];exact hbu p i j (by omega) i1 i2 i3
  have hb:¬ a+2*bs≤n:=by omega
  refine Gz 8 ?_;refine PI (β:=List Int) (fun vs=>[(0,.slice o n c),(1,iV n),(2,.func (.func f) #[] cs.toArray),(6,iV bs)]) (fun vs w=>StI W0 o c n vs w∧vs.Perm xs∧BI (2*bs) n vs∧BSn K (2*bs) n vs) ?_ ?_
  ·refine fK 12 ?_ ?_<;>intro h54
   ·refine Gz 9 ?_;have e1:2*q*bs=a:=by rw[ha,Uo 2 q,UE]
    have e2:(2*q+1)*bs=a+bs:=by rw[TK,T5,e1]
    refine O6 DI rfl ((by rw[show ((a:Int)+bs)=((a+bs:Nat):Int) by omega];exact CY W0 o hC c n (by omega) (n-a) a (a+bs) n zs w5 (SY _) hz5 (fun z hz=>hV z (hz5p.mem_iff.1 hz)) (by omega) (by omega) (SY _) (by have h9:=hsu (2*q) (by omega);rw[e1] at h9;exact h9.sub (SY _) (by omega)) (by have h9:=hsu (2*q+1) (by omega);rw[e2] at h9;exact h9.sub (SY _) (by omega)) (fun i j i1 i2 i3 i4=>hbu (2*q+1) i j (by omega) (by omega) (by omega) (by omega)))) rfl ?_;rintro _ w6 ⟨rfl,us,hu,hug,hus⟩;refine Gz 1 ?_
    first
    |exact aC us ⟨hu,hug.2.1.trans hz5p,hug.bi ha (by omega) (SY _) hb2,fun p=>by
        rcases TW p q with hp|hp|hp
        · have:=Tu (2*bs) hp
          rw[T4,TK,T5] at this;exact(dH (hsp p hp) (fun k k1 k2=>hug.2.2.1 k (.inl (by omega)))).sub (SY _) (by omega)
        ·subst hp;rw[←ha];exact hus.sub (SY _) (by omega)
        · have:=Tu (2*bs) hp
          rw[T4,TK,T5] at this;exact Sv (by omega)⟩
    |exact aC zs ⟨hz5,hz5p,hb2,fun p=>by
        rcases TW p q with hp|hp|hp
        ·exact(hsp p hp).sub (SY _) (by omega)
        · subst hp
          have e1:2*p*bs=a:=by rw[ha,Uo 2 p,UE]
          have h9:=hsu (2*p) (by omega);rw[e1] at h9;rw[←ha];exact h9.sub (SY _) (by omega)
        · have:=Tu (2*bs) hp
          rw[T4,TK,T5] at this;exact Sv (by omega)⟩
   refine Gz 4 ?_
   first
   |exact aC us ⟨hu,hug.2.1.trans hz5p,hug.bi ha (by omega) (SY _) hb2,fun p=>by
       rcases TW p q with hp|hp|hp
       · have:=Tu (2*bs) hp
         rw[T4,TK,T5] at this;exact(dH (hsp p hp) (fun k k1 k2=>hug.2.2.1 k (.inl (by omega)))).sub (SY _) (by omega)
       ·subst hp;rw[←ha];exact hus.sub (SY _) (by omega)
       · have:=Tu (2*bs) hp
         rw[T4,TK,T5] at this;exact Sv (by omega)⟩
   |exact aC zs ⟨hz5,hz5p,hb2,fun p=>by
       rcases TW p q with hp|hp|hp
       ·exact(hsp p hp).sub (SY _) (by omega)
       · subst hp
         have e1:2*p*bs=a:=by rw[ha,Uo 2 p,UE]
         have h9:=hsu (2*p) (by omega);rw[e1] at h9;rw[←ha];exact h9.sub (SY _) (by omega)
       · have:=Tu (2*bs) hp
         rw[T4,TK,T5] at this;exact Sv (by omega)⟩
  rintro vs w8 ⟨hv8,hv8p,hv8b,hv8s⟩;refine Gz 2 ?_;refine cL (PT rfl rfl (by omega)) ?_;refine Gz 3 ?_;exact Po ⟨2*bs,vs⟩ ⟨rfl,rfl,rfl,congrArg (fun z:Int=>some (Value.int .i64 z)) (by omega),trivial⟩ ⟨⟨by omega,by omega⟩,hv8,hv8p,hv8b,hv8s⟩ (by show n-2*bs<n-bs;omega)
 refine Gz 7 ?_;refine Pw rfl ?_;refine⟨_,rfl,rfl,vs,hv4,hvp,?_⟩;have h9:=hvs 0;rw[Nat.zero_mul] at h9;exact h9.sub (SY _) (by omega)
theorem uT{K:Int→List By}{V:Int→Prop}{f:FuncId}{cs:List Value}(W0:World)(o:Option Addr)(hC:J4 W0 o f cs V K)(c n:Nat)(hn:n≤100000)(xs:List Int)(W:World)(h:StI W0 o c n xs W)(hV:∀ z∈xs,V z)(hinc:Inc xs 0 n) :
 CA 170 [.slice o n c,.func (.func f) #[] cs.toArray] W fun v w'=>v=.tuple #[]∧∃ ys,StI W0 o c n ys w'∧ys.Perm xs∧Srt K ys 0 n:=by
 refine cS 9 [(0,_),(1,_)] Tryz.func170 ?_;refine cA 5 Md (BM W0 o hC c n hn xs W h hV hinc) ?_;rintro _ w1 ⟨rfl,ys,hy,hyp,hys⟩;refine Gz 1 ?_;refine Pw rfl ?_;exact⟨_,rfl,rfl,ys,hy,hyp,hys⟩
section
open Go Go.RowKit Go.Maps
theorem EW(ao bo:Option Addr)(ac bc:Nat)(a b:List By)(W:World)(ha:Vw jE W.heap ao ac a)(hb:Vw jE W.heap bo bc b) :
 CA 228 [.slice ao a.length ac,.slice bo b.length bc] W fun v w'=>v=.bool (decide (a=b))∧aA nob W w':=by
 have h63:=ha.SM;refine cS 26 [(0,_),(1,_)] Tryz.func228 ?_;refine fK 12 ?_ ?_<;>intro h10
 ·refine Gz 11 ?_;exact⟨_,rfl,by rw[SU (fun e=>by subst e;exact h10 rfl)],RY _ _⟩
 refine Gz 14 ?_;have hlen:a.length=b.length:=by omega
 refine Pb (β:=Nat) (fun k=>[(0,.slice ao a.length ac),(1,.slice bo b.length bc),(12,iV a.length),(13,iV k)]) (fun k w=>k≤a.length∧(∀ i,i<k→i<a.length→a.getD i []=b.getD i [])∧aA nob W w) (fun k=>a.length-k) 0 ⟨rfl,rfl,rfl,rfl,trivial⟩ ⟨S3 _,fun i hi=>by omega,RY _ _⟩ ?_;rintro k w2 ⟨hk,hsm,hF2⟩;refine fK 2 ?_ ?_<;>intro h14
 ·have hka:k<a.length:=by omega
  have hkb:k<b.length:=by omega
  have ha2:=ha.SN hF2;have hb2:=hb.SN hF2;refine Gz 15 ?_;refine PS 9 [0,1,2,3,4,5,6,7,8] aJ (by kernel_rfl) ?_;refine Gz 2 ?_;refine xC rfl (O5 mD rfl rfl ha2.non (by omega)) ?_;refine xC rfl (O8 kN rfl (ha2.get k (a.getD k []) (by simp[S6,hka]))) ?_;refine Gz 2 ?_;refine xC rfl (O5 mD rfl rfl hb2.non (by omega)) ?_;refine xC rfl (O8 kN rfl (hb2.get k (b.getD k []) (by simp[S6,hkb]))) ?_;refine xK 0 ?_ ?_<;>intro h24
  ·refine Gz 15 ?_;exact⟨_,rfl,by rw[SU (fun e=>h24 (by rw[e]))],hF2.draws 1⟩
  refine Gz 10 ?_;refine aG (k+1) ⟨by omega,fun i hi hia=>?_,hF2.draws 1⟩ (by show a.length-(k+1)<a.length-k;omega);by_cases hik:i=k
  ·subst hik;exact TJ.1 h24
  ·exact hsm i (by omega) hia
 refine Gz 16 ?_;exact⟨_,rfl,by rw[SX (GH (by omega) (k:=k) (by omega) [] hsm)],hF2⟩
theorem Gv(ao bo:Option Addr)(ac bc:Nat)(a b:List By)(W:World)(ha:Vw jE W.heap ao ac a)(hb:Vw jE W.heap bo bc b) :
 CA 214 [.slice ao a.length ac,.slice bo b.length bc] W fun v w'=>v=.bool (decide (a=b))∧aA nob W w':=by
 refine cS 8 [(0,_),(1,_)] Tryz.func214 ?_;refine cA 9 Ma (EW ao bo ac bc a b W ha hb) ?_;rintro _ w1 ⟨rfl,hf1⟩;refine Gz 5 ?_;exact⟨_,rfl,rfl,hf1⟩
def lE(l s:List By):Prop:=s.length<l.length∧l.take s.length=s
instance (l s:List By):Decidable (lE l s):=by unfold lE;exact inferInstance
theorem H2(ao bo:Option Addr)(ac bc:Nat)(a b:List By)(W:World)(ha:Vw jE W.heap ao ac a)(hb:Vw jE W.heap bo bc b) :
 CA 169 [.slice ao a.length ac,.slice bo b.length bc] W fun v w'=>v=.bool (decide (lE a b))∧aA nob W w':=by
 refine cS 18 [(0,_),(1,_)] Tryz.func169 ?_;refine fK 11 ?_ ?_<;>intro h9
 ·refine Gz 4 ?_;refine cW (O7 (u:=.slice ao (a.take b.length).length ac) (Pr mD rfl rfl (by have:=ha.le;omega)) (by rw[aS,S2,T6 (by omega)];rfl)) ?_;refine Gz 1 ?_;refine Pd rfl rfl Me rfl (Gv ao bo ac bc (a.take b.length) b W (ha.take _) hb) rfl ?_;rintro _ w1 ⟨rfl,hf1⟩;refine Gz 6 ?_
  first
  |exact⟨_,rfl,congrArg _ (decide_eq_decide.2 ⟨fun e=>⟨by omega,e⟩,fun e=>e.2⟩),hf1⟩
  |exact⟨_,rfl,by rw[SU (show ¬ lE a b from fun e=>by have:=e.1;omega)],RY _ _⟩
 refine Gz 13 ?_
 first
 |exact⟨_,rfl,congrArg _ (decide_eq_decide.2 ⟨fun e=>⟨by omega,e⟩,fun e=>e.2⟩),hf1⟩
 |exact⟨_,rfl,by rw[SU (show ¬ lE a b from fun e=>by have:=e.1;omega)],RY _ _⟩
variable {D:Nat→Prop}
def jA(ps:List (NdH×Nd))(z:Int):Int:=(ps.countP (fun p=>decide (p.2.ino=z)):Nat)
theorem Lq{ps:List (NdH×Nd)}{i:Nat}{p:NdH×Nd}(hp:ps[i]?=some p)(z:Int):jA (ps.take (i+1)) z=jA (ps.take i) z+if p.2.ino=z then 1 else 0:=by
 unfold jA;rw[tkL hp,List.countP_append,List.countP_singleton];by_cases h:p.2.ino=z
 ·simp[h]
 ·simp[h]
theorem HJ(ps:List (NdH×Nd))(z:Int):0≤jA ps z∧jA ps z≤ps.length:=by
 unfold jA;have:=List.countP_le_length (p:=fun p:NdH×Nd=>decide (p.2.ino=z)) (l:=ps);omega
def uY(ps:List (NdH×Nd))(i:Int):Int:=if 0≤i∧i<ps.length then jA ps (ps.getD i.toNat (uX,nd0)).2.ino else 0
theorem rJ{ps:List (NdH×Nd)}{i:Int}{q:NdH×Nd}(h:0≤i∧i<ps.length)(hq:ps[i.toNat]?=some q):uY ps i=jA ps q.2.ino:=by
 unfold uY;rw[SQ h,S6,hq];rfl
theorem tH{ps:List (NdH×Nd)}{i:Int}(h:¬ (0≤i∧i<ps.length)):uY ps i=0:=by unfold uY;rw[SP h]
theorem GI(lo:Option Addr)(lc:Nat)(ps:List (NdH×Nd))(i:Int)(W:World)(hv:aR D W.heap lo lc ps) :
 CA 71 [.slice lo ps.length lc,iV i] W fun v w'=>v=iV (uY ps i)∧aA nob W w':=by
 have h63:=hv.1.SM;refine cS 34 [(0,_),(1,_)] Tryz.func71 ?_;refine fK 9 ?_ ?_<;>intro h9
 ·refine Gz 17 ?_
  first
  |exact⟨_,rfl,by rw[tH (by omega)],RY _ _⟩
  |exact⟨_,rfl,by rw[rJ hin hq,TB],hF2⟩
 refine fW 4 ?_ ?_<;>intro h14
 ·refine Gz 12 ?_
  first
  |exact⟨_,rfl,by rw[tH (by omega)],RY _ _⟩
  |exact⟨_,rfl,by rw[rJ hin hq,TB],hF2⟩
 have hin:0≤i∧i<ps.length:=by omega
 obtain⟨q,hq⟩:∃ q,ps[i.toNat]?=some q:=⟨_,SS (by omega)⟩
 refine Gz 20 ?_;refine Pb (β:=Nat) (fun k=>[(0,.slice lo ps.length lc),(1,iV i),(5,iV (jA (ps.take k) q.2.ino)),(16,.slice lo ps.length lc),(17,iV ps.length),(18,iV k)]) (fun k w=>k≤ps.length∧aA nob W w) (fun k=>ps.length-k) 0 ⟨rfl,rfl,rfl,rfl,rfl,rfl,trivial⟩ ⟨S3 _,RY _ _⟩ ?_;rintro k w2 ⟨hk,hF2⟩;refine fK 2 ?_ ?_<;>intro h19
 ·have hkl:k<ps.length:=by omega
  obtain⟨p,hp⟩:∃ p,ps[k]?=some p:=⟨_,SS hkl⟩
  have hv2:=hv.SN hF2;have hct:=Lq hp q.2.ino;have hcl:=HJ (ps.take k) q.2.ino;have hctl:(ps.take k).length≤k:=by rw[S2];omega
  refine Gz 6 ?_;refine PI (β:=Unit) (fun _u=>[(0,.slice lo ps.length lc),(1,iV i),(5,iV (jA (ps.take (k+1)) q.2.ino)),(16,.slice lo ps.length lc),(17,iV ps.length),(18,iV k)]) (fun _u w=>aA nob W w) ?_ ?_
  ·refine Gz 3 ?_;refine cL (Pa cC rfl rfl hv2.1.non (by omega)) ?_;refine cL (Pi (cs:=aE p) aV rfl (fun j v hj=>hv2.1.rowZ k rfl hp j v hj)) ?_;refine O9 fF rfl ?_;intro w3 hg3 hs3 hf3;obtain⟨r,hr⟩:∃ r,r=w2.heap.size:=⟨_,rfl⟩
   rw[←hr] at hg3 ⊢;refine Pf (vs:=aE p) aV rfl rfl (aB p).2 hg3 rfl ?_;intro w4 hg4 hs4 hf4;have hF4:aA nob W w4:=hF2.trans (hf3.SJ hf4 (fun k e=>.inr (by have e:k=r:=e;omega)));have hv4:=hv.SN hF4;refine Gz 3 ?_;refine PS 8 [0,1,2,3,4,5,6,7] aJ (by kernel_rfl) ?_;refine Gz 1 ?_;refine xC rfl (O8 aK rfl (aD hg4 rfl)) ?_;refine Gz 2 ?_;refine xC rfl (Pa cC rfl rfl hv4.1.non (by omega)) ?_;refine Gz 1 ?_;refine xC rfl (O8 aK rfl (hv4.1.rowZ i.toNat (by omega) hq 1 _ rfl)) ?_;refine xK 0 ?_ ?_<;>intro h29
   ·refine Gz 9 ?_
    first
    |exact PJ () ⟨rfl,rfl,congrArg (fun z:Int=>some (Value.int .i64 z)) (by rw[hct,SQ h29]),rfl,rfl,rfl,trivial⟩ (hF4.draws 1)
    |exact PJ () ⟨rfl,rfl,congrArg (fun z:Int=>some (Value.int .i64 z)) (by rw[hct,SP h29,Int.add_zero]),rfl,rfl,rfl,trivial⟩ (hF4.draws 1)
   refine Gz 5 ?_
   first
   |exact PJ () ⟨rfl,rfl,congrArg (fun z:Int=>some (Value.int .i64 z)) (by rw[hct,SQ h29]),rfl,rfl,rfl,trivial⟩ (hF4.draws 1)
   |exact PJ () ⟨rfl,rfl,congrArg (fun z:Int=>some (Value.int .i64 z)) (by rw[hct,SP h29,Int.add_zero]),rfl,rfl,rfl,trivial⟩ (hF4.draws 1)
  rintro _ w5 hF5;refine Gz 4 ?_;exact aG (k+1) ⟨by omega,hF5⟩ (by show ps.length-(k+1)<ps.length-k;omega)
 have hke:k=ps.length:=by omega
 subst hke;refine Gz 17 ?_
 first
 |exact⟨_,rfl,by rw[tH (by omega)],RY _ _⟩
 |exact⟨_,rfl,by rw[rJ hin hq,TB],hF2⟩
end
section
open Go Go.RowKit Go.Maps
def nmG(ps:List (NdH×Nd))(k:Nat):List By:=(ps.getD k (uX,nd0)).2.names
theorem pG{ps:List (NdH×Nd)}{k:Nat}{p:NdH×Nd}(h:ps[k]?=some p):nmG ps k=p.2.names:=by unfold nmG;rw[S6,h];rfl
def iN(l s:List By):Prop:=l.length=s.length+1∧l.take s.length=s
instance (l s:List By):Decidable (iN l s):=by unfold iN;exact inferInstance
theorem tL{l s:List By}:iN l s↔l.length=s.length+1∧lE l s:=by
 unfold iN lE;constructor
 ·rintro⟨h1,h2⟩;exact⟨h1,by omega,h2⟩
 ·rintro⟨h1,_,h2⟩;exact⟨h1,h2⟩
def aX(ps:List (NdH×Nd))(s:List By):Nat→List Int
|0=>[]
|i+1=>if iN (nmG ps i) s then aX ps s i++[(i:Int)] else aX ps s i
section
variable {ps:List (NdH×Nd)}{s:List (List UInt8)}
theorem oA{i:Nat}(h:iN (nmG ps i) s):aX ps s (i+1)=aX ps s i++[(i:Int)]:=by rw[aX,SQ h]
theorem oC{i:Nat}(h:¬ iN (nmG ps i) s):aX ps s (i+1)=aX ps s i:=by rw[aX,SP h]
theorem eW{z:Int}:∀ {i:Nat},z∈aX ps s i↔∃ k:Nat,z=k∧k<i∧iN (nmG ps k) s
|0=>⟨fun h=>(by simp[aX] at h),fun⟨k,_,h,_⟩=>(by omega)⟩
|i+1=>by
   by_cases h:iN (nmG ps i) s
   · rw[oA h,Tx,Tv,eW (i:=i)]
     constructor
     · rintro(⟨k,h1,h2,h3⟩|h1)
       ·exact⟨k,h1,by omega,h3⟩
       ·exact⟨i,h1,by omega,h⟩
     · rintro⟨k,h1,h2,h3⟩
       by_cases e:k=i
       ·exact .inr (by rw[h1,e])
       ·exact .inl ⟨k,h1,by omega,h3⟩
   · rw[oC h,eW (i:=i)]
     constructor
     ·rintro⟨k,h1,h2,h3⟩;exact⟨k,h1,by omega,h3⟩
     · rintro⟨k,h1,h2,h3⟩
       by_cases e:k=i
       ·exact absurd (e ▸ h3) h
       ·exact⟨k,h1,by omega,h3⟩
theorem jO:∀ i:Nat,(aX ps s i).Pairwise (· < ·)
|0=>List.Pairwise.nil
|i+1=>by
   by_cases h:iN (nmG ps i) s
   · rw[oA h,List.pairwise_append]
     refine⟨jO i,by simp,fun a ha b hb=>?_⟩;obtain⟨k,e,hk,_⟩:=eW.1 ha;rw[Tv] at hb;subst hb;omega
   ·rw[oC h];exact jO i
theorem oD:∀ i:Nat,(aX ps s i).length≤i
|0=>SY _
|i+1=>by
   have:=oD i;by_cases h:iN (nmG ps i) s
   ·rw[oA h,SR,S5];omega
   ·rw[oC h];omega
end
theorem wP{xs:List Int}{k:Nat}(h:k<xs.length):xs.getD k 0=xs[k]:=by simp[S6,h]
theorem K4{xs:List Int}(h:xs.Pairwise (· < ·)):Inc xs 0 xs.length:=fun i j _ hij hj=>by
 rw[wP (by omega),wP hj];exact TA.1 h i j (by omega) hj hij
section
variable {K:Int→List (List UInt8)}
theorem FL{xs:List Int}(h:Srt K xs 0 xs.length):xs.Pairwise (ltS K):=TA.2 fun i j hi hj hij=>by
 have:=h i j (S3 _) hij hj;rwa[wP hi,wP hj] at this
theorem Ja{x:Int}(h:ltS K x x):False:=by
 rcases h with h|⟨_,h⟩
 ·rw[lY] at h;omega
 ·omega
theorem Jb{x y:Int}(h:ltS K x y)(g:ltS K y x):False:=Ja (lP h g)
theorem Df:∀ {xs ys:List Int},xs.Perm ys→xs.Pairwise (ltS K)→ys.Pairwise (ltS K)→xs=ys
|[],ys,hp,_,_=>by rw[List.nil_perm] at hp;exact hp.symm
|x::xs,[],hp,_,_=>by have:=hp.length_eq;simp at this
|x::xs,y::ys,hp,hx,hy=>by
   have h1:=Va.1 hx;have h2:=Va.1 hy;have e:x=y:=by
    apply S4;intro hne;have hxm:x∈ys:=by
     have:=hp.mem_iff.1 (show x∈x::xs by simp);rcases Tm.1 this with e|h
     ·exact absurd e hne
     ·exact h
    have hym:y∈xs:=by
     have:=hp.mem_iff.2 (show y∈y::ys by simp);rcases Tm.1 this with e|h
     ·exact absurd e.symm hne
     ·exact h
    exact Jb (h1.1 y hym) (h2.1 x hxm)
   subst e;rw[Df (List.Perm.cons_inv hp) h1.2 h2.2]
theorem GO{xs ys:List Int}(hp:xs.Perm ys)(hx:Srt K xs 0 xs.length)(hy:Srt K ys 0 ys.length):xs=ys:=Df hp (FL hx) (FL hy)
end
theorem vG{a b:Nat}(ha:a≤9223372036854775807)(hb:b≤9223372036854775807):((a:Int)=IntKind.i64.wrap ((b:Int)+1))↔a=b+1:=by
 by_cases h:b=9223372036854775807
 · subst h
   have e:IntKind.i64.wrap (((9223372036854775807:Nat):Int)+1) = -9223372036854775808:=by unfold IntKind.wrap;simp[IntKind.bits,IntKind.signed]
   rw[e];omega
 ·rw[cD (by omega)];omega
def xN(ps:List (NdH×Nd))(s:List By)(ys:List Int):Prop:=ys.Perm (aX ps s ps.length)∧Srt (fun z=>nmG ps z.toNat) ys 0 ys.length
theorem xN.uniq{ps:List (NdH×Nd)}{s:List By}{xs ys:List Int}(h:xN ps s xs)(g:xN ps s ys):xs=ys:=GO (h.1.trans g.1.symm) h.2 g.2
def aT(l:List By):By:=l.getD (l.length-1) []
theorem Jl{a b s:List By}(ha:iN a s)(hb:iN b s):bZ a b=qW (aT a) (aT b):=by
 have e:∀ {l:List By},iN l s→l=s++[aT l]:=fun {l} h=>by
  have h1:l[s.length]?=some (aT l):=by
   unfold aT;rw[h.1,S6,U7,SS (by have:=h.1;omega)];rfl
  have h2:=tkL h1;rw[h.2,S9 (by have:=h.1;omega)] at h2;exact h2
 conv=>lhs;rw[e ha,e hb]
 rw[uH];show (if aT a=aT b then bZ [] [] else if Ti (aT a) (aT b)=true then -1 else 1)=_;unfold qW;by_cases h1:Ti (aT a) (aT b)=true
 ·rw[SQ h1,SP (fun h=>by rw[h,jW] at h1;cases h1),SQ h1]
 · rw[SP h1]
   by_cases h2:aT a=aT b
   ·rw[SQ h2,SQ h2,SP h1];rfl
   ·rw[SP h2,SP h2,SP h1]
theorem JR{a b:By}:qW a b<0↔Ti a b=true:=by
 unfold qW;by_cases h1:Ti a b=true
 ·rw[SQ h1];simp[h1]
 · rw[SP h1]
   by_cases h2:a=b
   ·rw[SQ h2];simp[h1]
   ·rw[SP h2];simp[h1]
variable {D:Nat→Prop}
theorem Jn(lo:Option Addr)(lc:Nat)(ps:List (NdH×Nd))(g:Nat)(x y:Int)(W:World){T:TypeId}{fr:Nat×Nat}(hv:aR D W.heap lo lc ps)(hg:W.heap[g]?=some (.cells [Value.slice lo ps.length lc].toArray T fr))(hx:0≤x∧x<ps.length)(hy:0≤y∧y<ps.length) :
 CA 171 [iV x,iV y,pT g] W fun v w'=>v=iV (bZ (nmG ps x.toNat) (nmG ps y.toNat))∧aA nob W w':=by
 have h63:=hv.1.SM;obtain⟨p,hp⟩:∃ p,ps[x.toNat]?=some p:=⟨_,SS (by omega)⟩
 obtain⟨q,hq⟩:∃ q,ps[y.toNat]?=some q:=⟨_,SS (by omega)⟩
 rw[pG hp,pG hq];have hpn:=(hv.2 p (S1 hp)).1;have hqn:=(hv.2 q (S1 hq)).1;have hgv:VwM 10 aE W.heap lo lc ps:=hv.1;refine cS 17 [(0,_),(1,_),(2,_)] Tryz.func171 ?_;refine Gz 6 ?_;refine Pk 12 (fun H=>H[g]?=some (.cells [Value.slice lo ps.length lc].toArray T fr)∧VwM 10 aE H lo lc ps) [10] [0,1,2,3,4,5,6,7,8,9,10,11] aJ (by kernel_rfl) (⟨hg,hgv⟩) ?_;refine xC rfl (Pe vU rfl (fun H hH=>bB hH.1 rfl)) ?_;refine Gz 1 ?_;refine xC rfl (Pa cC rfl rfl hv.1.non (by omega)) ?_;refine Gz 1 ?_;refine xC rfl (Pe iR rfl (fun H hH=>hH.2.rowZ x.toNat (by omega) hp 0 _ rfl)) ?_;refine xC rfl (Pe vU rfl (fun H hH=>bB hH.1 rfl)) ?_;refine Gz 1 ?_;refine xC rfl (Pa cC rfl rfl hv.1.non (by omega)) ?_;refine Gz 1 ?_;refine xC rfl (Pe iR rfl (fun H hH=>hH.2.rowZ y.toNat (by omega) hq 0 _ rfl)) ?_;refine Ph rfl rfl (O6 L1 rfl ((by show Calls _ _ [Value.slice p.1.names.a p.1.names.n p.1.names.c,Value.slice q.1.names.a q.1.names.n q.1.names.c].toArray _ _;rw[hpn.1,hqn.1];exact uF _ _ _ _ p.2.names q.2.names _ hpn.2.1 hqn.2.1)) rfl ?_);rintro _ w3 ⟨rfl,hw3⟩;subst hw3;refine Pn (by exact⟨hg,hgv⟩) ?_;refine Gz 5 ?_;exact⟨_,rfl,rfl,(RY _ _).draws 1⟩
theorem Jk(lo:Option Addr)(lc:Nat)(ps:List (NdH×Nd))(so:Option Addr)(sc:Nat)(s:List By)(W:World)(hv:aR D W.heap lo lc ps)(hs:Vw jE W.heap so sc s)(hn:ps.length≤100000) :
 CA 120 [.slice lo ps.length lc,.slice so s.length sc] W fun v w'=>∃ o c ys,v=.slice o (Tp (α:=Int) ys) c∧Own i64 3 w'.heap o c ys∧Fr W.heap.size o∧xN ps s ys∧aA nob W w':=by
 have h63:=hv.1.SM;have hs63:s.length≤9223372036854775807:=by have:=hs.SM;omega
 refine cS 37 [(0,_),(1,_)] Tryz.func120 ?_;refine Gz 2 ?_;refine Px rfl rfl ?_;intro w1 hg1 hs1 hf1;obtain⟨g,hg⟩:∃ g,g=W.heap.size:=⟨_,rfl⟩
 rw[←hg] at hg1 hs1 ⊢
 replace hg1:w1.heap[g]?=some (.cells [Value.slice lo ps.length lc].toArray 22 (0,0)):=hg1
 refine Gz 11 ?_;refine cL (O7 (u:=.slice lo ps.length lc) (O8 vU rfl (bB hg1 rfl)) rfl) ?_;refine Gz 5 ?_;refine Pb (β:=Nat×Option Addr×Nat) (fun⟨i,o,c⟩=>[(0,.slice lo ps.length lc),(1,.slice so s.length sc),(2,pT g),(5,.slice o (aX ps s i).length c),(8,.slice lo ps.length lc),(9,iV ps.length),(10,iV i)]) (fun⟨i,o,c⟩ w=>i≤ps.length∧Own i64 3 w.heap o c (aX ps s i)∧Fr w1.heap.size o∧aA nob w1 w) (fun⟨i,o,c⟩=>ps.length-i) ⟨0,none,0⟩ ⟨rfl,rfl,rfl,rfl,rfl,rfl,rfl,trivial⟩ ⟨S3 _,R8,R6,RY _ _⟩ ?_;rintro⟨i,o,c⟩ w2 ⟨hi,ho2,hfo,hF2⟩;refine fK 2 ?_ ?_<;>intro h11
 ·have hil:i<ps.length:=by omega
  obtain⟨p,hp⟩:∃ p,ps[i]?=some p:=⟨_,SS hil⟩
  have hv2:=(hv.SN hf1).SN hF2;have hll:=oD (ps:=ps) (s:=s) i;have hnm:=pG hp;have hpl:p.2.names.length≤9223372036854775807:=by have:=((hv2.2 p (S1 hp)).1).2.1.SM;omega
  refine Gz 11 ?_;refine cL (Pa cC rfl rfl hv2.1.non (by omega)) ?_;refine cL (Pi (cs:=aE p) aV rfl (fun j v hj=>hv2.1.rowZ i rfl hp j v hj)) ?_;refine O9 fF rfl ?_;intro w3 hg3 hs3 hf3;obtain⟨r,hr⟩:∃ r,r=w2.heap.size:=⟨_,rfl⟩
  rw[←hr] at hg3 ⊢;refine Gz 1 ?_;refine Pf (vs:=aE p) aV rfl rfl (aB p).2 hg3 rfl ?_;intro w4 hg4 hs4 hf4;have hf24:aA nob w2 w4:=hf3.SJ hf4 (fun k e=>.inr (by have e:k=r:=e;omega));have hF4:aA nob w1 w4:=hF2.trans hf24;have hv4:=(hv.SN hf1).SN hF4;have hs4:=(hs.SN hf1).SN hF4;have hn4:=(hv4.2 p (S1 hp)).1;have ho4:=ho2.SN hf24;refine Gz 1 ?_;refine aW [(0,_),(1,_),(2,_),(5,_),(6,_),(7,_),(8,_),(9,_),(10,_),(11,_)] ?_;refine Gz 5 ?_;refine cL (O7 (u:=iV p.2.names.length) (Qc mD rfl) (by rw[←hn4.1])) ?_;refine Gz 2 ?_;refine cL (PP rfl rfl) ?_;refine fK 0 ?_ ?_<;>intro h21
  ·
   replace h21:=(vG hpl hs63).1 h21
   refine Gz 4 ?_;refine Pd rfl rfl Mx rfl ((by show Calls _ _ [Value.slice p.1.names.a p.1.names.n p.1.names.c,_].toArray _ _;rw[hn4.1];exact H2 p.1.names.a so p.1.names.c sc p.2.names s w4 hn4.2.1 hs4)) rfl ?_;rintro _ w5 ⟨rfl,hf5⟩;by_cases h26:lE p.2.names s
   ·rw[SX h26];have hkd:iN (nmG ps i) s:=by rw[hnm];exact tL.2 ⟨by omega,h26⟩
    refine Gz 7 ?_;refine PX (enc:=i64) (u:=(i:Int)) bR (dY _) rfl rfl ?_;intro w6 ho6 hs6 hf6;refine Pm dY bR rfl rfl ((ho4.SN hf5).SN hf6) ho6.vw (by simp only[S5];omega) (by simp only[S5];unfold maxLen;omega) rfl ?_;intro o7 c7 w7 ho7 hf7 hr7 hn7;refine Gz 8 ?_;have hF7:aA nob w1 w7:=(hF4.trans (hf5.trans hf6)).SJ hf7 hfo.step;rw[←oA hkd] at ho7 ⊢;exact aG ⟨i+1,o7,c7⟩ ⟨by omega,ho7,fL hfo hr7 (by have:=hF2.size;have:=hf24.size;have:=hf5.size;have:=hf6.size;omega),hF7⟩ (by show ps.length-(i+1)<ps.length-i;omega)
   rw[SU h26];have hkd:¬ iN (nmG ps i) s:=by rw[hnm];exact fun h=>h26 (tL.1 h).2
   refine Gz 11 ?_;have key:∀ w5:World,aA nob w4 w5→¬ iN (nmG ps i) s→(Own i64 3 w5.heap o c (aX ps s (i+1))∧Value.slice o (aX ps s i).length c=.slice o (aX ps s (i+1)).length c):=fun w5 hf hk=>by rw[oC hk];exact⟨ho4.SN hf,rfl⟩
   first
   |exact Po ⟨i+1,o,c⟩ ⟨rfl,rfl,rfl,congrArg some (key w5 hf5 hkd).2,rfl,rfl,rfl,trivial⟩ ⟨by omega,(key w5 hf5 hkd).1,hfo,hF4.trans hf5⟩ (by show ps.length-(i+1)<ps.length-i;omega)
   |exact Po ⟨i+1,o,c⟩ ⟨rfl,rfl,rfl,congrArg some (key w4 (RY _ _) (by rw[hnm];exact fun h=>h21 (by have:=h.1;omega))).2,rfl,rfl,rfl,trivial⟩ ⟨by omega,(key w4 (RY _ _) (by rw[hnm];exact fun h=>h21 (by have:=h.1;omega))).1,hfo,hF4⟩ (by show ps.length-(i+1)<ps.length-i;omega)
  replace h21:=fun h=>h21 ((vG hpl hs63).2 h)
  refine Gz 16 ?_;have key:∀ w5:World,aA nob w4 w5→¬ iN (nmG ps i) s→(Own i64 3 w5.heap o c (aX ps s (i+1))∧Value.slice o (aX ps s i).length c=.slice o (aX ps s (i+1)).length c):=fun w5 hf hk=>by rw[oC hk];exact⟨ho4.SN hf,rfl⟩
  first
  |exact Po ⟨i+1,o,c⟩ ⟨rfl,rfl,rfl,congrArg some (key w5 hf5 hkd).2,rfl,rfl,rfl,trivial⟩ ⟨by omega,(key w5 hf5 hkd).1,hfo,hF4.trans hf5⟩ (by show ps.length-(i+1)<ps.length-i;omega)
  |exact Po ⟨i+1,o,c⟩ ⟨rfl,rfl,rfl,congrArg some (key w4 (RY _ _) (by rw[hnm];exact fun h=>h21 (by have:=h.1;omega))).2,rfl,rfl,rfl,trivial⟩ ⟨by omega,(key w4 (RY _ _) (by rw[hnm];exact fun h=>h21 (by have:=h.1;omega))).1,hfo,hF4⟩ (by show ps.length-(i+1)<ps.length-i;omega)
 have hie:i=ps.length:=by omega
 subst hie;have hapw:∀ w,aA (blk o) w2 w→aA nob w1 w:=fun w hf=>hF2.SJ hf hfo.step;have hvk:∀ w,aA (blk o) w2 w→aR D w.heap lo lc ps:=fun w hf=>(hv.SN hf1).SN (hapw w hf);have hgk:∀ w,aA (blk o) w2 w→w.heap[g]?=some (.cells [Value.slice lo ps.length lc].toArray 22 (0,0)):=fun w hf=>(hapw w hf).obj hg1 id;refine Gz 12 ?_;refine cL (P4 (vs:=[pT g]) rfl) ?_;refine O6 Mw rfl (uT (V:=fun z:Int=>0≤z∧z<ps.length) (K:=fun z:Int=>nmG ps z.toNat) w2 o ⟨Mv,fun w x y hf hx hy=>Jn lo lc ps g x y w (hvk w hf) (hgk w hf) hx hy⟩ c (aX ps s ps.length).length (by have:=oD (ps:=ps) (s:=s) ps.length;omega) (aX ps s ps.length) w2 ⟨ho2,rfl,RY _ _⟩ (fun z hz=>by obtain⟨k,e,hk,_⟩:=eW.1 hz;omega) (K4 (jO _))) rfl ?_;rintro _ w8 ⟨rfl,ys,hy,hyp,hys⟩;have hF8:aA nob w1 w8:=hF2.SJ hy.2.2 hfo.step;refine Gz 1 ?_;refine aW [(0,_),(1,_),(2,_),(5,_),(8,_),(9,_),(10,_),(11,_)] ?_;refine Gz 9 ?_;exact⟨_,rfl,o,c,ys,by rw[hy.2.1],hy.1,hfo.mono (by omega),⟨hyp,by rw[hy.2.1];exact hys⟩,hf1.trans hF8⟩
end
section
open Go Go.RowKit Go.Maps
theorem KB{K:Int→List By}{xs:List Int}(h:xs.Pairwise (ltS K)):Srt K xs 0 xs.length:=fun i j _ hij hj=>by
 rw[wP (by omega),wP hj];exact TA.1 h i j (by omega) hj hij
variable {D:Nat→Prop}
end
section
open Go Go.Proofs Go.Shelf
def Sw:Go.Shelf.Ren:=⟨fun|7=>64|10=>117|n=>n,fun|23=>126|26=>3|3=>4|28=>129|0=>0|27=>128|33=>142|4=>4|n=>n,fun|n=>n⟩
theorem Sy:Go.Proofs.SlLaysZI.n7 Tryz.prog Sw where
 mixed:=by kernel_rfl
 f7 := ⟨ "maps.Keys[map[int]bool,int,bool]", by decide, Tryz.func64.trans (congrArg some (by kernel_rfl))⟩
 f10 := ⟨ "maps.Keys[map[int]bool,int,bool]$1", by decide, Tryz.func117.trans (congrArg some (by kernel_rfl))⟩
 t0:=Tryz.underlying0
 a0:=Tryz.isAgg0
 z0:=Tryz.sizeOf0
 v0:=Tryz.zeroValue0
 t4:=Tryz.underlying4
 a4:=Tryz.isAgg4
 z4:=Tryz.sizeOf4
 v4:=Tryz.zeroValue4
 t23:=Tryz.underlying126
 a23:=Tryz.isAgg126
 z23:=Tryz.sizeOf126
 v23:=Tryz.zeroValue126
 t26:=Tryz.underlying3
 a26:=Tryz.isAgg3
 z26:=Tryz.sizeOf3
 v26:=Tryz.zeroValue3
 t27:=Tryz.underlying128
 a27:=Tryz.isAgg128
 z27:=Tryz.sizeOf128
 v27:=Tryz.zeroValue128
 t28:=Tryz.underlying129
 a28:=Tryz.isAgg129
 z28:=Tryz.sizeOf129
 v28:=Tryz.zeroValue129
 t33:=Tryz.underlying142
 a33:=Tryz.isAgg142
 z33:=Tryz.sizeOf142
 v33:=Tryz.zeroValue142
def SA:Go.Shelf.Ren:=⟨fun|6=>63|8=>115|9=>116|11=>165|13=>113|12=>166|23=>162|24=>163|14=>202|15=>203|16=>204|17=>205|18=>206|19=>207|20=>122|21=>208|22=>209|25=>222|26=>198|27=>199|28=>223|29=>224|30=>173|31=>234|n=>n,fun|26=>3|28=>129|24=>31|0=>0|3=>3|37=>97|48=>39|50=>227|4=>4|40=>220|39=>219|45=>118|5=>5|9=>9|51=>252|55=>72|57=>273|58=>91|33=>142|n=>n,fun|n=>n⟩
theorem SB:Go.Proofs.SlLaysZI.n6 Tryz.prog SA where
 mixed:=by kernel_rfl
 f6 := ⟨ "slices.Sorted[int]", by decide, Tryz.func63.trans (congrArg some (by kernel_rfl))⟩
 f8 := ⟨ "slices.Collect[int]", by decide, Tryz.func115.trans (congrArg some (by kernel_rfl))⟩
 f11 := ⟨ "slices.AppendSeq[[]int,int]", by decide, Tryz.func165.trans (congrArg some (by kernel_rfl))⟩
 t0:=Tryz.underlying0
 a0:=Tryz.isAgg0
 z0:=Tryz.sizeOf0
 v0:=Tryz.zeroValue0
 t24:=Tryz.underlying31
 a24:=Tryz.isAgg31
 z24:=Tryz.sizeOf31
 v24:=Tryz.zeroValue31
 t26:=Tryz.underlying3
 a26:=Tryz.isAgg3
 z26:=Tryz.sizeOf3
 v26:=Tryz.zeroValue3
 t28:=Tryz.underlying129
 a28:=Tryz.isAgg129
 z28:=Tryz.sizeOf129
 v28:=Tryz.zeroValue129
 i26:=by kernel_rfl
def SC:Go.Shelf.Ren:=⟨fun|5=>116|8=>113|7=>166|19=>162|20=>163|10=>202|11=>203|12=>204|13=>205|14=>206|15=>207|16=>122|17=>208|18=>209|30=>222|31=>198|32=>199|33=>223|34=>224|35=>173|40=>234|n=>n,fun|23=>31|25=>3|3=>3|32=>97|22=>31|0=>0|44=>39|46=>227|4=>4|36=>220|35=>219|41=>118|5=>5|9=>9|53=>252|57=>72|63=>273|64=>91|n=>n,fun|n=>n⟩
theorem SD:Go.Proofs.SlLaysM.n5 Tryz.prog SC where
 mixed:=by kernel_rfl
 f5 := ⟨ "slices.Sort[[]int,int]", by decide, Tryz.func116.trans (congrArg some (by kernel_rfl))⟩
 f7 := ⟨ "slices.pdqsortOrdered[int]", by decide, Tryz.func166.trans (congrArg some (by kernel_rfl))⟩
 f8:=Tryz.func113.trans (congrArg some (by kernel_rfl))
 f10 := ⟨ "slices.insertionSortOrdered[int]", by decide, Tryz.func202.trans (congrArg some (by kernel_rfl))⟩
 f11 := ⟨ "slices.heapSortOrdered[int]", by decide, Tryz.func203.trans (congrArg some (by kernel_rfl))⟩
 f12 := ⟨ "slices.breakPatternsOrdered[int]", by decide, Tryz.func204.trans (congrArg some (by kernel_rfl))⟩
 f13 := ⟨ "slices.choosePivotOrdered[int]", by decide, Tryz.func205.trans (congrArg some (by kernel_rfl))⟩
 f14 := ⟨ "slices.reverseRangeOrdered[int]", by decide, Tryz.func206.trans (congrArg some (by kernel_rfl))⟩
 f15 := ⟨ "slices.partialInsertionSortOrdered[int]", by decide, Tryz.func207.trans (congrArg some (by kernel_rfl))⟩
 f16 := ⟨ "cmp.Less[int]", by decide, Tryz.func122.trans (congrArg some (by kernel_rfl))⟩
 f17 := ⟨ "slices.partitionEqualOrdered[int]", by decide, Tryz.func208.trans (congrArg some (by kernel_rfl))⟩
 f18 := ⟨ "slices.partitionOrdered[int]", by decide, Tryz.func209.trans (congrArg some (by kernel_rfl))⟩
 f19:=Tryz.func162.trans (congrArg some (by kernel_rfl))
 f20:=Tryz.func163.trans (congrArg some (by kernel_rfl))
 f30 := ⟨ "slices.siftDownOrdered[int]", by decide, Tryz.func222.trans (congrArg some (by kernel_rfl))⟩
 f31:=Tryz.func198.trans (congrArg some (by kernel_rfl))
 f32:=Tryz.func199.trans (congrArg some (by kernel_rfl))
 f33 := ⟨ "slices.medianAdjacentOrdered[int]", by decide, Tryz.func223.trans (congrArg some (by kernel_rfl))⟩
 f34 := ⟨ "slices.medianOrdered[int]", by decide, Tryz.func224.trans (congrArg some (by kernel_rfl))⟩
 f35 := ⟨ "cmp.isNaN[int]", by decide, Tryz.func173.trans (congrArg some (by kernel_rfl))⟩
 f40 := ⟨ "slices.order2Ordered[int]", by decide, Tryz.func234.trans (congrArg some (by kernel_rfl))⟩
 t0:=Tryz.underlying0
 a0:=Tryz.isAgg0
 z0:=Tryz.sizeOf0
 v0:=Tryz.zeroValue0
 t3:=Tryz.underlying3
 a3:=Tryz.isAgg3
 z3:=Tryz.sizeOf3
 v3:=Tryz.zeroValue3
 t4:=Tryz.underlying4
 a4:=Tryz.isAgg4
 z4:=Tryz.sizeOf4
 v4:=Tryz.zeroValue4
 t5:=Tryz.underlying5
 a5:=Tryz.isAgg5
 z5:=Tryz.sizeOf5
 v5:=Tryz.zeroValue5
 t9:=Tryz.underlying9
 a9:=Tryz.isAgg9
 z9:=Tryz.sizeOf9
 v9:=Tryz.zeroValue9
 t22:=Tryz.underlying31
 a22:=Tryz.isAgg31
 z22:=Tryz.sizeOf31
 v22:=Tryz.zeroValue31
 t23:=Tryz.underlying31
 a23:=Tryz.isAgg31
 z23:=Tryz.sizeOf31
 v23:=Tryz.zeroValue31
 t25:=Tryz.underlying3
 a25:=Tryz.isAgg3
 z25:=Tryz.sizeOf3
 v25:=Tryz.zeroValue3
 t32:=Tryz.underlying97
 a32:=Tryz.isAgg97
 z32:=Tryz.sizeOf97
 v32:=Tryz.zeroValue97
 t35:=Tryz.underlying219
 a35:=Tryz.isAgg219
 z35:=Tryz.sizeOf219
 v35:=Tryz.zeroValue219
 t36:=Tryz.underlying220
 a36:=Tryz.isAgg220
 z36:=Tryz.sizeOf220
 v36:=Tryz.zeroValue220
 t41:=Tryz.underlying118
 a41:=Tryz.isAgg118
 z41:=Tryz.sizeOf118
 v41:=Tryz.zeroValue118
 t44:=Tryz.underlying39
 a44:=Tryz.isAgg39
 z44:=Tryz.sizeOf39
 v44:=Tryz.zeroValue39
 t46:=Tryz.underlying227
 a46:=Tryz.isAgg227
 z46:=Tryz.sizeOf227
 v46:=Tryz.zeroValue227
 t53:=Tryz.underlying252
 a53:=Tryz.isAgg252
 z53:=Tryz.sizeOf252
 v53:=Tryz.zeroValue252
 t57:=Tryz.underlying72
 a57:=Tryz.isAgg72
 z57:=Tryz.sizeOf72
 v57:=Tryz.zeroValue72
 t63:=Tryz.underlying273
 a63:=Tryz.isAgg273
 z63:=Tryz.sizeOf273
 v63:=Tryz.zeroValue273
 t64:=Tryz.underlying91
 a64:=Tryz.isAgg91
 z64:=Tryz.sizeOf91
 v64:=Tryz.zeroValue91
end
section
open Go Go.RowKit Go.Maps Go.Sort
theorem mpB:pX Tryz.prog 126 3 4 (.bool false):=⟨by kernel_rfl,z4⟩
theorem Dy(a:I6):keyOf Tryz.prog 3 (enI a)=some (.int .i64 a.1):=by
 have h:(Lit.int .i64 a.1).wf=true:=by have:=a.2;simpa[Lit.wf,IntKind.min,IntKind.max,IntKind.signed,IntKind.bits] using this
 unfold keyOf;rw[show Tryz.prog.underlying 3=some (.int .i64) by kernel_rfl];simp[mapKey,show Tryz.prog.underlying 3=some (.int .i64) by kernel_rfl,enI,h]
theorem IT{g:Nat}{m:List (I6×Value)}{W:World}(hm:cG enI W.heap g m)(hb:∀ p∈m,p.2=.bool true)(hl:m.length≤maxLen) :
 ∃ D0:DataW Unit,W.ownsMap Tryz.prog 3 (plainElem Tryz.prog 4) g m.length D0∧Maps.size D0=m.length∧(intKeys D0).Perm (m.map (·.1.1)):=by
 have hrd:∀ x∈aZ enI m,∃ p∈m,x.key=enI p.1∧WideElems.rd (H:=Unit) Tryz.prog 3 (plainElem Tryz.prog 4) x=some (.int .i64 p.1.1,.lit (.bool true)):=fun x hx=>by
  obtain⟨p,hp,h1,h2⟩:=Bb hx;refine⟨p,hp,h1,?_⟩;unfold WideElems.rd;rw[h1,Dy,h2,hb p hp,plainElem_bool (show Tryz.prog.underlying 4=some .bool by kernel_rfl)];rfl
 have hborn:(aZ enI m).map (·.born)=TM m.length:=by
  apply TP;intro i;by_cases hi:i<m.length
  ·simp[aZ,hi]
  ·simp[aZ,hi]
 have hkey:(aZ enI m).map (·.key)=(m.map (·.1)).map enI:=by
  apply TP;intro i;by_cases hi:i<m.length
  ·simp[aZ,hi]
  ·simp[aZ,hi]
 have hrg:(aZ enI m).map (WideElems.rg (H:=Unit) Tryz.prog 3 (plainElem Tryz.prog 4))=m.map (fun p=>(Lit.int .i64 p.1.1,DataW.lit (.bool true))):=by
  apply TP;intro i;by_cases hi:i<m.length
  · have hx:(aZ enI m)[i]?=some ⟨enI m[i].1,m[i].2,i⟩:=by simp[aZ,hi]
    have:WideElems.rd (H:=Unit) Tryz.prog 3 (plainElem Tryz.prog 4) ⟨enI m[i].1,m[i].2,i⟩=some (.int .i64 m[i].1.1,.lit (.bool true)):=by
     unfold WideElems.rd;rw[Dy,hb m[i] (Uh hi),plainElem_bool (show Tryz.prog.underlying 4=some .bool by kernel_rfl)];rfl
    rw[Ts,hx,Ts,SS hi];simp[WideElems.rg,this]
  ·rw[Ty (by simp[aZ];omega),Ty (by simp;omega)]
 refine⟨.map (((aZ enI m).toArray.toList.map (WideElems.rg Tryz.prog 3 (plainElem Tryz.prog 4))).foldr DataW.insert []),⟨_,_,hm.1,⟨?_,⟨?_,?_,?_⟩,?_⟩,?_,rfl⟩,?_,?_⟩
 ·simp[aZ];exact hl
 · intro x hx
   have h1:x.born∈(aZ enI m).map (·.born):=Tj.2 ⟨x,by simpa using hx,rfl⟩;rw[hborn] at h1;exact Ua.1 h1
 · show ((aZ enI m).map (·.born)).Nodup
   rw[hborn];exact List.nodup_range
 · show ((aZ enI m).map (·.key)).Nodup
   rw[hkey];exact List.Pairwise.map _ (fun a b h e=>h (qU.inj a b e)) hm.2
 · intro x hx
   obtain⟨p,hp,_,h⟩:=hrd x (by simpa using hx);exact⟨_,h⟩
 ·simp[aZ]
 · show (((aZ enI m).map _).foldr DataW.insert []).length=_
   rw[(WideShapes.sorted_perm _).length_eq];simp[aZ]
 · show ((((aZ enI m).map _).foldr DataW.insert []).map fun p=>Go.intOf p.1).Perm _
   refine((WideShapes.sorted_perm _).map _).trans ?_;rw[hrg,T3];exact List.Perm.refl _
theorem FN(n:Nat):AnyZI.SortsIn Tryz.prog SA Fence.wide n:=
 ⟨fun blk off cap ss W hH hblk hsz=>callsIn_wide.2 (AnyM.slices_Sort_int SD blk off cap ss W hH hblk hsz),
  fun p cap W=>callsIn_wide.2 (AnyM.slices_Sort_int_none SD p cap W)⟩
theorem Jm(mb:Option Nat)(W:World):CA 64 [.map mb] W fun v w'=>v=.func (.func 117) #[] #[pT W.heap.size]∧w'=W.alloc (.cells #[.map mb] 126):=by
 have h:CallsIn Fence.wide 5 Tryz.prog 64 #[.map mb] W fun e w'=>e=.returned (.func (.func 117) #[] #[pT W.heap.size])∧w'=W.alloc (.cells #[.map mb] 126):=AnyZI.keys_in Sy Fence.wide 5 trivial rfl mb W;refine(callsIn_wide.1 h).mono ?_;rintro e w' ⟨rfl,rfl⟩;exact⟨_,rfl,rfl,rfl⟩
theorem D6(g:Nat)(m:List (I6×Value))(W:World)(hm:cG enI W.heap g m)(hb:∀ p∈m,p.2=.bool true)(hl:m.length≤100000) :
 Calls Tryz.prog 63 [.func (.func 117) #[] #[pT W.heap.size]].toArray (W.alloc (.cells #[.map (some g)] 126))
  (Ret fun v w'=>∃ o c,v=.slice o ((m.map (·.1.1)).mergeSort leI).length c∧Own i64 3 w'.heap o c ((m.map (·.1.1)).mergeSort leI)∧Fr W.heap.size o∧aA nob W w'):=by
 obtain⟨D0,hown,hsz,hpm⟩:=IT hm hb (by unfold maxLen;omega);have hbl:=hm.obj;have hseq:SeqGives Fence.wide 2 Tryz.prog 117 #[pT W.heap.size] encZ (fun ss=>ss.Perm (intKeys D0)) (Maps.size D0) (W.alloc (.cells #[.map (some g)] 126)):=
  AnyZI.keys_gives (ρ:=Sw) { Sy with } Fence.wide _ trivial rfl (by omega) W.heap.size g m.length D0 _ (by simp) (by simp) (by
   obtain⟨es,clock,hb,Ft,hs,hD⟩:=hown;exact⟨es,clock,(Below.heap_alloc _ _ g hbl).trans hb,Ft,hs,hD⟩)
 have cS:=AnyZI.sorted_in SB Fence.wide 5 trivial trivial trivial trivial rfl (by omega) (FN _) (enters_of Tryz.func116 (by kernel_rfl) rfl) 117 #[pT W.heap.size] trivial (enters_of Tryz.func117 (by kernel_rfl) rfl) _ _ (by rw[hsz];unfold maxLen;omega) (by rw[hsz];omega) _ hseq;change CallsIn _ _ Tryz.prog 63 _ _ _ at cS;refine(callsIn_wide.1 cS).mono ?_;rintro e w' ⟨v,ss,rfl,hS,⟨hlen,hrow⟩,hnil,hbw⟩;have hF:aA nob W w':=(aA.alloc nob W _).trans ⟨hbw.os,hbw.tape,hbw.output,hbw.size,fun k hk _=>hbw.block k hk⟩;have hss:ss.mergeSort (fun x y=>decide (x≤y))=(m.map (·.1.1)).mergeSort leI:=mergeSort_of_perm_i (hS.trans hpm);have hsl:ss.length=((m.map (·.1.1)).mergeSort leI).length:=by rw[←hss,List.length_mergeSort]
 rw[hss] at hrow;rcases hrow with⟨rfl,h0⟩|⟨gb,cap,cur,rfl,hbase,hgb,r1,r2,r3,r4⟩
 · have hz:(m.map (·.1.1)).mergeSort leI=[]:=Tk (by omega)
   rw[hz];exact⟨_,rfl,none,0,rfl,R8,R6,hF⟩
 · refine⟨_,rfl,some ⟨gb,0,none⟩,cap,by rw[←hsl],.inr ⟨gb,cur,rfl,hgb,by omega,r2,by omega,?_⟩,fun a ha=>?_,hF⟩
   ·rw[Nat.mul_one,hsl] at r4;exact r4
   · cases ha
     have:W.heap.size+1≤gb:=by simpa using hbase
     show W.heap.size≤gb;omega
end
section
open Go Go.RowKit Go.Maps
theorem pD{α:Type}[DecidableEq α](a:α)(v:Value):∀ l:List (α×Value),(bW l a v).map (·.1)=if a∈l.map (·.1) then l.map (·.1) else l.map (·.1)++[a]
|[]=>by simp[bW]
|p::r=>by
   unfold bW;by_cases hp:p.1=a
   ·rw[SQ hp];simp[hp]
   · rw[SP hp]
     simp only[TD,pD a v r];by_cases hm:a∈r.map (·.1)
     ·rw[SQ hm,SQ (TS _ hm)]
     ·rw[SP hm,SP (fun e=>by rcases Tm.1 e with e|e;exact hp e.symm;exact hm e)];rfl
theorem fJ{α:Type}[DecidableEq α]{a x:α}{v:Value}{l:List (α×Value)}:x∈(bW l a v).map (·.1)↔x=a∨x∈l.map (·.1):=by
 rw[pD]
 split
 · rename_i h
   exact⟨.inr,fun hx=>hx.elim (fun e=>e ▸ h) id⟩
 ·rw[Tx,Tv];exact Or.comm
theorem Ae{α:Type}[DecidableEq α]{a:α}{v:Value}{l:List (α×Value)}:(bW l a v).length≤l.length+1:=by
 have h:=congrArg Tp (pD a v l);rw[Tb] at h
 split at h<;>simp at h<;>omega
theorem pC{α:Type}[DecidableEq α]{a:α}{v:Value}:∀ {l:List (α×Value)},(∀ p∈l,p.2=v)→∀ p∈bW l a v,p.2=v
|[],_,p,hp=>by simp[bW] at hp;rw[hp]
|q::r,h,p,hp=>by
   unfold bW at hp
   split at hp
   · rcases Tm.1 hp with rfl|hp
     ·rfl
     ·exact h p (TS _ hp)
   · rcases Tm.1 hp with rfl|hp
     ·exact h _ (List.mem_cons_self ..)
     ·exact pC (fun x hx=>h x (TS _ hx)) p hp
def gN(ps:List (NdH×Nd)):List Int:=ps.flatMap fun p=>[p.2.ud,p.2.gd]
theorem Eu(ps:List (NdH×Nd))(p:NdH×Nd):gN (ps++[p])=gN ps++[p.2.ud,p.2.gd]:=by simp[gN]
def oX(ps:List (NdH×Nd))(L:List Int):Prop:=L.Pairwise (· < ·)∧∀ z,z∈L↔z∈gN ps
theorem K6{ps:List (NdH×Nd)}{m:List (I6×Value)}(hn:(m.map (·.1)).Nodup)(hm:∀ z,z∈m.map (·.1.1)↔z∈gN ps):oX ps ((m.map (·.1.1)).mergeSort leI):=by
 have tr:∀ a b c:Int,leI a b=true→leI b c=true→leI a c=true:=fun a b c h1 h2=>by simp only[leI,decide_eq_true_eq] at *;exact Int.le_trans h1 h2
 have to:∀ a b:Int,(leI a b || leI b a)=true:=fun a b=>by simp only[leI,Bool.or_eq_true,decide_eq_true_eq];exact Int.le_total a b
 have hnd:(m.map (·.1.1)).Nodup:=by
  have:m.map (·.1.1)=(m.map (·.1)).map (·.1):=by rw[T3];rfl
  rw[this];exact List.Pairwise.map _ (fun a b h e=>h (Subtype.ext e)) hn
 have hp:=List.mergeSort_perm (m.map (·.1.1)) leI;refine⟨?_,fun z=>(hp.mem_iff).trans (hm z)⟩;have h1:=List.pairwise_mergeSort tr to (m.map (·.1.1));have h2:((m.map (·.1.1)).mergeSort leI).Nodup:=hp.nodup_iff.2 hnd;exact(h1.and h2).imp (fun⟨a,b⟩=>by simp only[leI,decide_eq_true_eq] at a;omega)
theorem tkP{ps:List (NdH×Nd)}{i:Nat}{p:NdH×Nd}(h:ps[i]?=some p):ps.take (i+1)=ps.take i++[p]:=by
 have hi:=(SV.1 h).1;rw[Tg hi,(SV.1 h).2]
theorem Kv{ps:List (NdH×Nd)}{i:Nat}{p:NdH×Nd}{m:List (I6×Value)}{v:Value}(hp:ps[i]?=some p)(hmem:∀ z,z∈m.map (·.1.1)↔z∈gN (ps.take i))(hu : -9223372036854775808≤p.2.ud∧p.2.ud≤9223372036854775807)(hg : -9223372036854775808≤p.2.gd∧p.2.gd≤9223372036854775807) :
 ∀ z,z∈(bW (bW m (⟨p.2.ud,hu⟩:I6) v) (⟨p.2.gd,hg⟩:I6) v).map (·.1.1)↔z∈gN (ps.take (i+1)):=by
 have e:∀ l:List (I6×Value),∀ z,z∈l.map (·.1.1)↔∃ a∈l.map (·.1),a.1=z:=fun l z=>by simp
 intro z;rw[tkP hp,Eu,Tx,←hmem z,e,e];constructor
 · rintro⟨a,ha,rfl⟩
   rcases fJ.1 ha with rfl|ha
   ·exact .inr (by simp)
   · rcases fJ.1 ha with rfl|ha
     ·exact .inr (by simp)
     ·exact .inl ⟨a,ha,rfl⟩
 · rintro(⟨a,ha,rfl⟩|h)
   ·exact⟨a,fJ.2 (.inr (fJ.2 (.inr ha))),rfl⟩
   · simp only[Tm,TE,or_false] at h
     rcases h with rfl|rfl
     ·exact⟨⟨p.2.ud,hu⟩,fJ.2 (.inr (fJ.2 (.inl rfl))),rfl⟩
     ·exact⟨⟨p.2.gd,hg⟩,fJ.2 (.inl rfl),rfl⟩
theorem K5(lo:Option Addr)(lc:Nat)(ps:List (NdH×Nd))(W:World)(hv:VwM 10 aE W.heap lo lc ps)(hok:∀ p∈ps,okN p.2)(hl:ps.length≤1000) :
 CA 20 [.slice lo ps.length lc] W fun v w'=>∃ o c L,v=.slice o (Tp (α:=Int) L) c∧Own i64 3 w'.heap o c L∧Fr W.heap.size o∧oX ps L∧aA nob W w':=by
 refine cS 25 [(0,_)] Tryz.func20 ?_;refine Gz 7 ?_;refine PF (enc:=enI) rfl ?_;intro w1 hm1 hs1 hf1;obtain⟨g,hg⟩:∃ g,g=W.heap.size:=⟨_,rfl⟩
 rw[←hg] at hm1 ⊢;refine Gz 12 ?_;refine Pb (β:=Nat×List (I6×Value)) (fun⟨i,m⟩=>[(3,.map (some g)),(7,.slice lo ps.length lc),(8,iV ps.length),(9,iV i)]) (fun⟨i,m⟩ w=>i≤ps.length∧cG enI w.heap g m∧(∀ p∈m,p.2=.bool true)∧(∀ z,z∈m.map (·.1.1)↔z∈gN (ps.take i))∧m.length≤2*i∧aA nob W w) (fun⟨i,m⟩=>ps.length-i) ⟨0,[]⟩ ⟨rfl,rfl,rfl,rfl,trivial⟩ ⟨S3 _,hm1,by simp,by simp[gN],S3 _,hf1⟩ ?_;rintro⟨i,m⟩ w2 ⟨hi,hm2,hmv,hmem,hml,hF2⟩;refine fK 2 ?_ ?_<;>intro h10
 ·have hil:i<ps.length:=by omega
  obtain⟨p,hp⟩:∃ p,ps[i]?=some p:=⟨_,SS hil⟩
  have hpo:=hok p (S1 hp);have hu:=hpo p.2.ud (by simp);have hgd:=hpo p.2.gd (by simp);have hv2:=hv.SO hF2 (fun _ _=>id);refine Gz 6 ?_;refine PI (β:=List (I6×Value)) (fun m2=>[(3,.map (some g)),(7,.slice lo ps.length lc),(8,iV ps.length),(9,iV i)]) (fun m2 w=>cG enI w.heap g m2∧(∀ p∈m2,p.2=.bool true)∧(∀ z,z∈m2.map (·.1.1)↔z∈gN (ps.take (i+1)))∧m2.length≤2*(i+1)∧aA nob W w) ?_ ?_
  ·refine Gz 3 ?_;refine cL (Pa cC rfl rfl hv2.non (by omega)) ?_;refine cL (Pi (cs:=aE p) aV rfl (fun j v hj=>hv2.rowZ i rfl hp j v hj)) ?_;refine O9 fF rfl ?_;intro w3 hg3 hs3 hf3;obtain⟨q,hq⟩:∃ q,q=w2.heap.size:=⟨_,rfl⟩
   rw[←hq] at hg3 ⊢;have hm3:=hm2.SO hf3 id;have hgl:=hm2.obj;refine Pf (vs:=aE p) aV rfl rfl (aB p).2 hg3 rfl ?_;intro w4 hg4 hs4 hf4;have hm4:=hm3.SO hf4 (fun e=>by have e:g=q:=e;omega);have hF4:aA nob W w4:=(hF2.trans hf3).SJ hf4 (fun k e=>.inr (by have e:k=q:=e;have:=hF2.size;omega));refine Gz 1 ?_;refine aW [(3,_),(5,_),(7,_),(8,_),(9,_),(10,_)] ?_;refine Gz 1 ?_;refine Pk 10 (fun H=>H[q]?=some (.cells (aE p).toArray 37 (0,0))) [8,9] [0,1,2,3,4,5,6,7,8,9] aJ (by kernel_rfl) (hg4) ?_;refine Gz 3 ?_;refine xC rfl (Pe aK rfl (fun H hH=>show aU H ((⟨q,0,none⟩:Addr).add 4)=some (iV p.2.ud) from aD hH rfl)) ?_;refine Gz 3 ?_;refine xC rfl (Pe aK rfl (fun H hH=>show aU H ((⟨q,0,none⟩:Addr).add 5)=some (iV p.2.gd) from aD hH rfl)) ?_;refine Ph rfl rfl (Py mpB qU (a:=(⟨p.2.ud,hu⟩:I6)) rfl rfl rfl hm4 ?_);intro w5 hm5 hs5 hf5;have hf5:=hf5.SL;refine Pn (by exact hf5.obj hg4 (fun e=>by have e:q=g:=e;omega)) ?_;refine Ph rfl rfl (Py mpB qU (a:=(⟨p.2.gd,hgd⟩:I6)) rfl rfl rfl hm5 ?_);intro w6 hm6 hs6 hf6;have hF6:aA nob W w6:=(hF4.SJ hf5 (fun k e=>.inr (by have e:k=g:=e;omega))).SJ hf6 (fun k e=>.inr (by have e:k=g:=e;omega));refine Pn (by exact hf6.obj (hf5.obj hg4 (fun e=>by have e:q=g:=e;omega)) (fun e=>by have e:q=g:=e;omega)) ?_;refine Gz 2 ?_;exact aC _ ⟨hm6,pC (pC hmv),Kv hp hmem hu hgd,by have:=Ae (a:=(⟨p.2.ud,hu⟩:I6)) (v:=.bool true) (l:=m);have:=Ae (a:=(⟨p.2.gd,hgd⟩:I6)) (v:=.bool true) (l:=bW m (⟨p.2.ud,hu⟩:I6) (.bool true));omega,hF6⟩
  rintro m2 w9 ⟨hm9,hmv9,hmem9,hml9,hF9⟩;refine Gz 4 ?_;exact aG ⟨i+1,m2⟩ ⟨by omega,hm9,hmv9,hmem9,hml9,hF9⟩ (by show ps.length-(i+1)<ps.length-i;omega)
 have hie:i=ps.length:=by omega
 subst hie;rw[TB] at hmem;refine cA 12 OD (Jm (some g) w2) ?_;rintro _ w7 ⟨rfl,rfl⟩;refine O6 OE rfl (D6 g m w2 hm2 hmv (by omega)) rfl ?_;rintro _ w8 ⟨o8,c8,rfl,ho8,hfr8,hf8⟩;refine Gz 2 ?_;refine aW [(2,_),(3,_),(7,_),(8,_),(9,_),(10,_)] ?_;refine Gz 3 ?_;exact⟨_,rfl,o8,c8,_,rfl,ho8,by rw[hg];exact hfr8.mono hF2.size,K6 hm2.2 hmem,hF2.trans hf8⟩
end
section
open Go Go.RowKit Go.Maps
theorem GZ(x:Int):(i64 x).oneCell'=true:=rfl
theorem Dk:∀ (ps:List (NdH×Nd)) (k:Nat) (p:NdH×Nd),ps[k]?=some p→(gN ps).getD (2*k) 0=p.2.ud∧(gN ps).getD (2*k+1) 0=p.2.gd
|[],k,p,h=>by simp at h
|q::r,0,p,h=>by simp at h;subst h;exact⟨rfl,rfl⟩
|q::r,k+1,p,h=>Dk r k p (by simpa using h)
theorem tC:∀ (ps:List (NdH×Nd)),(gN ps).length=2*ps.length
|[]=>rfl
|q::r=>by have:=tC r;show (q.2.ud::q.2.gd::gN r).length=2*(r.length+1);simp only[Td];omega
theorem xM(a:Addr)(i j:Nat):(a.add i).add j=a.add (i+j):=Addr.add_add a i j
end
def cH(F:Nat→Int):List Value:=[iV (F 0),iV (F 1),iV (F 2),iV (F 3),iV (F 4),iV (F 5),iV (F 6),iV (F 7),iV (F 8),iV (F 9)]
theorem dG(F:Nat→Int):∀ v∈cH F,v.oneCell'=true:=by
 intro v hv;simp only[cH,Tm,TE,or_false] at hv;rcases hv with rfl|rfl|rfl|rfl|rfl|rfl|rfl|rfl|rfl|rfl<;>rfl
def gM(F:Nat→Int):List Int:=[64,F 2,F 3,F 4,F 5,F 6,F 0,1048576]
def Ad(F:Nat→Int):Prop:=64≤F 2∧F 2≤F 3∧F 3≤F 4∧F 4≤F 5∧F 5≤F 6∧F 6≤F 0∧F 0≤1048576
def kD(F:Nat→Int):Prop:=Ad F∧1≤F 1∧F 1≤1024∧1≤F 7∧F 7≤2048∧0≤F 8∧F 8≤1024∧0≤F 9∧F 9≤4294967295
instance (F:Nat→Int):Decidable (kD F):=by unfold kD Ad;infer_instance
theorem Ac{F:Nat→Int}:Ad F↔∀ i,i+1<8→(gM F).getD i 0≤(gM F).getD (i+1) 0:=by
 constructor
 · rintro⟨a,b,c,d,e,f,g⟩ i hi
   match i,hi with
  |0,_=>exact a
  |1,_=>exact b
  |2,_=>exact c
  |3,_=>exact d
  |4,_=>exact e
  |5,_=>exact f
  |6,_=>exact g
 · intro h
   exact⟨h 0 (by decide),h 1 (by decide),h 2 (by decide),h 3 (by decide),h 4 (by decide),h 5 (by decide),h 6 (by decide)⟩
def suL:List Fd:=[⟨0,0,4,0⟩,⟨0,2,4,0⟩,⟨0,3,4,0⟩,⟨0,4,4,0⟩,⟨0,5,4,0⟩,⟨0,6,4,0⟩,⟨0,9,4,0⟩,⟨0,1,2,0⟩,⟨0,7,2,0⟩,⟨0,8,2,0⟩]
def suM:By:=[76,77,76,65]
def zF:Nat→Int:=fun _=>0
def suQ(ys:By):Rd×(Nat→Int):=suL.foldl gF ((0,ys),zF)
def suH(F:Nat→Int):By:=suM++fZ F suL
def suB(F:Nat→Int):By:=suH F++(le (iL (suH F):Nat) 4++Tf 22 0)
def iB(F:Nat→Int):By×Int:=if kD F then (suB F,0) else ([],1)
def suF(im:By):Nat→Int:=(suQ ((im.take 64).drop 4)).2
def iK(im:By):Prop:=64≤im.length∧kD (suF im)∧im.take 64=suB (suF im)∧suF im 0=im.length
instance (im:By):Decidable (iK im):=by unfold iK;infer_instance
def dK(im:By):(Nat→Int)×Int:=if iK im then (suF im,0) else (zF,2)
theorem LH:∀ x∈suL,1≤x.b∧x.b≤4:=by decide
theorem Kw:(suL.map (·.o)).Nodup:=by decide
theorem Iq:BJ suL=34:=rfl
theorem rD(F:Nat→Int):(suH F).length=38:=by unfold suH;rw[SR,lD];rfl
theorem jZ(F:Nat→Int):(suB F).length=64:=by unfold suB;rw[SR,SR,rD,bG,Tw]
theorem C4{ys:By}(h:34≤ys.length):(suQ ys).1.1=0∧ys=fZ (suQ ys).2 suL++(suQ ys).1.2∧(suQ ys).1.2=ys.drop 34:=by
 obtain⟨_,_,i3,i4⟩:=DF suL ((0,ys),zF) LH Kw;have h0:(suQ ys).1.1=0:=S4 fun hc=>by
  have:=i4 rfl hc;rw[Iq] at this;have:ys.length<34:=this;omega
 have h3:ys=fZ (suQ ys).2 suL++(suQ ys).1.2:=i3 h0;refine⟨h0,h3,?_⟩;have hl:(fZ (suQ ys).2 suL).length=34:=by rw[lD];rfl
 have:=congrArg (List.drop 34) h3;rw[UX hl] at this;exact this.symm
theorem zW{im:By}(h:64≤im.length):im.take 64=suB (suF im) ↔
 im.take 4=suM∧iL (im.take 38)=bX ((im.drop 38).take 4)∧(im.take 64).drop 42=Tf 22 0:=by
 have hl:((im.take 64).drop 4).length=60:=by rw[Ta,S2];omega
 obtain⟨h0,h1,h2⟩:=C4 (ys:=(im.take 64).drop 4) (by omega);have e4:im.take 64=im.take 4++(im.take 64).drop 4:=by
  have:=Tn 4 (im.take 64);rw[Ui] at this;exact this.symm
 have e38:im.take 38=im.take 4++fZ (suF im) suL:=by
  have h3:=congrArg (List.take 34) h1;have hle:(fZ (suQ ((im.take 64).drop 4)).2 suL).length=34:=by rw[lD];rfl
  rw[UV hle] at h3;show _=_++fZ (suQ ((im.take 64).drop 4)).2 suL;rw[←h3,U9,Ui];have:=Tn 4 (im.take 38);rw[Ui] at this;exact this.symm
 have e26:(suQ ((im.take 64).drop 4)).1.2=(im.take 64).drop 38:=by rw[h2,UQ]
 have eall:im.take 64=(im.take 4++fZ (suF im) suL)++(im.take 64).drop 38:=by
  rw[←e38];have:=Tn 38 (im.take 64);rw[Ui] at this;exact this.symm
 have e42:(im.take 64).drop 38=(im.drop 38).take 4++(im.take 64).drop 42:=by
  have h3:=Tn 4 ((im.take 64).drop 38);rw[UQ,U9,Ui] at h3;rw[U9];exact h3.symm
 have hr4:((im.drop 38).take 4).length=4:=by rw[S2,Ta];omega
 constructor
 · intro he
   unfold suB suH at he;rw[eall] at he;have hi1:=UY he (by rw[SR,SR,S2];show min 4 _+_=4+_;omega);have hi2:=UY hi1.1 (by rw[S2];show min 4 _=4;omega);rw[e42] at hi1;have hi3:=UY hi1.2 (by rw[hr4,bG]);refine⟨hi2.1,?_,hi3.2⟩;rw[e38,hi2.1,hi3.1];have:=xR 4 (iL (suH (suF im)):Nat) (UJ _) (by have:=rA (suH (suF im));show ((iL _:Nat):Int)<256 ^ 4;omega);show iL (suH (suF im))=_;have h5:((bX (le (iL (suH (suF im)):Nat) 4):Nat):Int)=((iL (suH (suF im)):Nat):Int):=this;show iL (suH (suF im))=bX (le (iL (suH (suF im)):Nat) 4);omega
 · rintro⟨a,b,c⟩
   unfold suB;rw[eall,e42,c];have e5:im.take 4++fZ (suF im) suL=suH (suF im):=by rw[a];rfl
   rw[e5];congr 2;have h5:iL (suH (suF im))=bX ((im.drop 38).take 4):=by rw[←e5,←e38];exact b
   rw[h5];have:=yN ((im.drop 38).take 4);rw[hr4] at this;exact this.symm
theorem Bx{b:By}{n:Nat}(hl:b.length=n):b=Tf n 0↔∀ c∈b,c=0:=by
 rw[List.eq_replicate_iff];exact⟨fun h=>h.2,fun h=>⟨hl,h⟩⟩
abbrev Ent:=By×Int×Int
def Cu:Ent:=([],0,0)
def uA(x:Ent):List Value:=[.string (bs x.1),iV x.2.1,iV x.2.2]
theorem iI:jD 3 uA:=fun x=>⟨rfl,by simp[uA,Value.oneCell']⟩
def iM(x:Ent)(last:By):Prop:=cP x.1=0∧Ti last x.1=true∧1≤x.2.1∧x.2.1≤3∧0≤x.2.2∧x.2.2≤4294967295
instance (x:Ent)(last:By):Decidable (iM x last):=by unfold iM;infer_instance
def kQ(x:Ent):By:=(Th x.1.length::x.1)++(le x.2.1 1++le x.2.2 4)
def bL(L:List Ent):By:=L.flatMap kQ
def yC(s:Rd):Ent:=(gTx s,gV 1 (iO s),gV 4 (gS 1 (iO s)))
def uW(s:Rd):Rd:=gS 4 (gS 1 (iO s))
def cI:By→List Ent→Prop
|_,[]=>True
|last,x::r=>iM x last∧cI x.1 r
def tJ(l:List Ent):By:=(l.getLast?.getD Cu).1
def dtP:Nat→By→By→Option (List Ent)
|0,_,_=>none
|n+1,last,ys=>if ys=[] then some [] else if (uW (0,ys)).1=0∧iM (yC (0,ys)) last then (dtP n (yC (0,ys)).1 (uW (0,ys)).2).map (yC (0,ys) :: ·) else none
def Ln(b:By):List Ent×Int:=match dtP (b.length+1) [] b with
|some L=>(L,0)
|none=>([],2)
def JA(x:Ent):Prop:=x.1.length≤255∧0≤x.2.1∧x.2.1<256∧0≤x.2.2∧x.2.2≤4294967295
theorem nW{x:Ent}{last:By}(h:iM x last):JA x:=⟨(iP h.1).1,by have:=h.2.2.1;omega,by have:=h.2.2.2.1;omega,h.2.2.2.2.1,h.2.2.2.2.2⟩
theorem Le{t rest:By}(h:t.length≤255):gTx (0,(Th t.length::t)++rest)=t∧iO (0,(Th t.length::t)++rest)=(0,rest):=by
 have e0:cF 0 1=0:=by decide
 have l1:(0:Int)<((Th t.length::t)++rest).length:=by simp only[SR,Td];omega
 have e1:dC 0 ((Th t.length::t)++rest) 1=0:=by rw[gW (by decide) (by omega)]
 obtain⟨c1,c2⟩:=eJ e1;have eE:tE 0 ((Th t.length::t)++rest)=0:=by unfold tE;rw[e0,e1]
 have eR:tR 0 ((Th t.length::t)++rest)=t++rest:=by unfold tR;rw[e0,c2];rfl
 have eN:tN 0 ((Th t.length::t)++rest)=(t.length:Int):=by
  unfold tN;rw[e0,c1];show ((Th t.length).toNat+256*0:Nat)=(t.length:Int)
  rw[TO];omega
 have e2:dC 0 (t++rest) (t.length:Int)=0:=by rw[gW (by omega) (by rw[SR];omega)]
 obtain⟨c3,c4⟩:=eJ e2;unfold gTx iO;show gA (tE 0 _) (tR 0 _) (tN 0 _)=t∧(dC (tE 0 _) (tR 0 _) (tN 0 _),oQ (tE 0 _) (tR 0 _) (tN 0 _))=(0,rest)
 rw[eE,eR,eN,c3,e2,c4];exact⟨UV rfl,by rw[TF,UX rfl]⟩
theorem G4{s:Rd}(h:s.1≠0):(iO s).1≠0:=by
 unfold iO;have h1:tE s.1 s.2≠0:=DD (n:=1) h;show dC _ _ _≠0;rw[pQ h1];exact h1
theorem Js{s:Rd}(h:(iO s).1=0):s.1=0∧s.2=(Th (gTx s).length::gTx s)++(iO s).2∧(gTx s).length≤255:=by
 have h0:s.1=0:=S4 fun hc=>G4 hc h;obtain⟨E,ys⟩:=s;obtain rfl:E=0:=h0;have e0:cF 0 1=0:=by decide
 have hz:tE 0 ys=0:=S4 fun hc=>by
  have:(iO (0,ys)).1=dC (tE 0 ys) (tR 0 ys) (tN 0 ys):=rfl;rw[this,pQ hc] at h;exact hc h
 have hz1:dC 0 ys 1=0:=by unfold tE at hz;rw[e0] at hz;exact hz
 obtain⟨_,_,hl⟩:=lX hz1;obtain⟨c1,c2⟩:=eJ hz1;obtain⟨d,t,rfl⟩:∃ d t,ys=d::t:=by cases ys with|nil=>(simp at hl)|cons d t=>exact⟨d,t,rfl⟩
 have etR:tR 0 (d::t)=t:=by unfold tR;rw[e0,c2];rfl
 have etN:tN 0 (d::t)=(d.toNat:Int):=by unfold tN;rw[e0,c1];show ((d.toNat+256*0:Nat):Int)=_;omega
 have h2:dC 0 t (d.toNat:Int)=0:=by
  have:(iO (0,d::t)).1=dC (tE 0 (d::t)) (tR 0 (d::t)) (tN 0 (d::t)):=rfl;rw[this,hz,etR,etN] at h;exact h
 obtain⟨_,_,hl2⟩:=lX h2;obtain⟨c3,c4⟩:=eJ h2;have eT:gTx (0,d::t)=t.take d.toNat:=by unfold gTx;rw[hz,etR,etN,c3];rfl
 have eS:iO (0,d::t)=(0,t.drop d.toNat):=by unfold iO;rw[hz,etR,etN,h2,c4];rfl
 have hd:=UInt8.toNat_lt d;have hlen:(t.take d.toNat).length=d.toNat:=by rw[S2];omega
 refine⟨rfl,?_,by rw[eT,hlen];omega⟩;rw[eT,eS,hlen];show d::t=(Th d.toNat::t.take d.toNat)++t.drop d.toNat;rw[UInt8.ofNat_toNat,T1,Tn]
theorem Ld{n:Nat}{x:Int}(h1:1≤n)(h4:n≤4)(h0:0≤x)(hx:x<256 ^ n)(rest:By):gV n (0,le x n++rest)=x∧gS n (0,le x n++rest)=(0,rest):=by
 have hl:(le x n).length=n:=bG _ _;obtain⟨a,b⟩:=tS (n:=(n:Int)) (s:=(0,le x n++rest)) (by omega) (by omega) rfl (by show (n:Int)≤(le x n++rest).length;rw[SR,hl];omega);rw[a,b];show ((bX ((le x n++rest).take (n:Int).toNat):Nat):Int)=x∧(0,(le x n++rest).drop (n:Int).toNat)=(0,rest)
 rw[show ((n:Int).toNat)=n by omega,UV hl,UX hl];exact⟨xR n x h0 hx,rfl⟩
theorem Kb{n:Nat}{s:Rd}(h1:1≤n)(h4:n≤4)(h:(gS n s).1=0):s.1=0∧s.2=le (gV n s) n++(gS n s).2:=by
 have h0:s.1=0:=S4 fun hc=>DD hc h;have hl:(n:Int)≤s.2.length:=S4 fun hc=>DC (by omega) (by omega) h0 (by omega) h;obtain⟨a,b⟩:=tS (n:=(n:Int)) (s:=s) (by omega) (by omega) h0 hl;rw[a,b];refine⟨h0,?_⟩;show s.2=le ((bX (s.2.take (n:Int).toNat):Nat):Int) n++s.2.drop (n:Int).toNat;rw[show ((n:Int).toNat)=n by omega,Dv (by omega),Tn]
theorem F7{x:Ent}(h:JA x)(rest:By):yC (0,kQ x++rest)=x∧uW (0,kQ x++rest)=(0,rest):=by
 obtain⟨h1,h2,h3,h4,h5⟩:=h;obtain⟨a,b⟩:=Le (t:=x.1) (rest:=le x.2.1 1++(le x.2.2 4++rest)) h1;obtain⟨c,d⟩:=Ld (n:=1) (x:=x.2.1) (by decide) (by decide) h2 (by show x.2.1<256;exact h3) (le x.2.2 4++rest);obtain⟨e,f⟩:=Ld (n:=4) (x:=x.2.2) (by decide) (by decide) h4 (by show x.2.2<256 ^ 4;omega) rest;have he:kQ x++rest=(Th x.1.length::x.1)++(le x.2.1 1++(le x.2.2 4++rest)):=by unfold kQ;simp only[To]
 rw[he];unfold yC uW;rw[a,b];have d':gS 1 (0,le x.2.1 1++(le x.2.2 4++rest))=(0,le x.2.2 4++rest):=d;have c':gV 1 (0,le x.2.1 1++(le x.2.2 4++rest))=x.2.1:=c;rw[c',d'];have e':gV 4 (0,le x.2.2 4++rest)=x.2.2:=e;have f':gS 4 (0,le x.2.2 4++rest)=(0,rest):=f;rw[e',f'];exact⟨rfl,rfl⟩
theorem Dc{s:Rd}(h:(uW s).1=0):s.1=0∧s.2=kQ (yC s)++(uW s).2∧(yC s).1.length≤255:=by
 obtain⟨a1,a2⟩:=Kb (n:=4) (by decide) (by decide) h;obtain⟨b1,b2⟩:=Kb (n:=1) (by decide) (by decide) a1;obtain⟨c1,c2,c3⟩:=Js b1;refine⟨c1,?_,c3⟩;unfold kQ;rw[c2];show _=((Th (gTx s).length::gTx s)++(le (gV 1 (iO s)) 1++le (gV 4 (gS 1 (iO s))) 4))++(gS 4 (gS 1 (iO s))).2;rw[To,To];congr 1;have b2':(iO s).2=le (gV 1 (iO s)) 1++(gS 1 (iO s)).2:=b2;have a2':(gS 1 (iO s)).2=le (gV 4 (gS 1 (iO s))) 4++(gS 4 (gS 1 (iO s))).2:=a2;rw[←a2',←b2']
theorem lC(x:Ent):(kQ x).length=x.1.length+6:=by unfold kQ;simp[bG]
theorem F6{ys:By}(h:(uW (0,ys)).1=0):(uW (0,ys)).2.length+6≤ys.length:=by
 have h2:=(Dc h).2.1;have:=congrArg Tp h2;rw[SR,lC] at this;have e:((0,ys):Rd).2=ys:=rfl;rw[e] at this;omega
theorem DP:∀ (n:Nat) (last ys:By) (L:List Ent),ys.length<n→(dtP n last ys=some L↔cI last L∧ys=bL L)
|0,_,_,_,h=>by omega
|n+1,last,ys,L,h=>by
   unfold dtP;by_cases h0:ys=[]
   · rw[SQ h0]
     subst h0;constructor
     ·intro h;cases h;exact⟨trivial,rfl⟩
     · rintro⟨h1,h2⟩
       cases L with
      |nil=>rfl
      |cons x r=>have:=congrArg Tp h2;simp[bL,lC] at this;omega
   · rw[SP h0]
     by_cases hg:(uW (0,ys)).1=0∧iM (yC (0,ys)) last
     · rw[SQ hg]
       obtain⟨hg1,hg2⟩:=hg;have hc:=(Dc hg1).2.1;have e:((0,ys):Rd).2=ys:=rfl;rw[e] at hc;have hl:=F6 hg1;have ih:=fun L=>DP n (yC (0,ys)).1 (uW (0,ys)).2 L (by omega);constructor
       · intro h
         obtain⟨R,hR,rfl⟩:=Tc.1 h;obtain⟨i1,i2⟩:=(ih R).1 hR;refine⟨⟨hg2,i1⟩,?_⟩;show ys=kQ _++bL R;rw[←i2];exact hc
       · rintro⟨h1,h2⟩
         cases L with
        |nil=>exact absurd h2 h0
        |cons x r=>
           obtain⟨a,b⟩:=F7 (nW h1.1) (bL r);have h2':ys=kQ x++bL r:=h2;rw[←h2'] at a b;rw[a,b];have:=(ih r).2 (by rw[a,b];exact⟨h1.2,rfl⟩);rw[a,b] at this;rw[this];rfl
     · rw[SP hg]
       constructor
       ·intro h;cases h
       · rintro⟨h1,h2⟩
         cases L with
        |nil=>exact absurd h2 h0
        |cons x r=>
           obtain⟨a,b⟩:=F7 (nW h1.1) (bL r);have h2':ys=kQ x++bL r:=h2;rw[←h2'] at a b;exact absurd ⟨by rw[b],by rw[a];exact h1.1⟩ hg
theorem HD{b:By}{L:List Ent}(h1:cI [] L)(h2:b=bL L):Ln b=(L,0):=by
 unfold Ln;rw[(DP (b.length+1) [] b L (by omega)).2 ⟨h1,h2⟩]
theorem qO{x:Ent}:∀ {l:List Ent} {last:By},cI last (l++[x])↔cI last l∧iM x (if l=[] then last else tJ l)
|[],last=>by simp[cI]
|y::r,last=>by
   rw[T1];show iM y last∧cI y.1 (r++[x])↔(iM y last∧cI y.1 r)∧_;rw[qO];have hne:¬ (y::r=[]):=by simp
   rw[SP hne];have e:tJ (y::r)=if r=[] then y.1 else tJ r:=by
    unfold tJ;cases r with
   |nil=>rfl
   |cons z r=>rw[SP (by simp),List.getLast?_cons_cons]
   rw[e,and_assoc]
theorem Ce(l:List Ent)(x:Ent):tJ (l++[x])=x.1:=by unfold tJ;simp
theorem Ct(l:List Ent)(x:Ent):bL (l++[x])=bL l++kQ x:=by unfold bL;simp
structure Rec where
 ref:Int
 ino:(Nat→Int)×By
 list:List Ent
 xs:List Xa
abbrev MSt:=List (Rec×Int)×Nat
structure Img where
 im:By
 F:Nat→Int
 eC:List Int
 ids:List Int
 recs:List (Rec×Int)
theorem zY(F:Nat→Int){o:Nat}(h:o<10):(cH F)[o]?=some (iV (F o)):=by
 match o,h with
|0,_|1,_|2,_|3,_|4,_|5,_|6,_|7,_|8,_|9,_=>rfl
theorem zX(F:Nat→Int){o:Nat}(h:o<10)(z:Int):(cH F).set o (iV z)=cH (upd F o z):=by
 match o,h with
|0,_|1,_|2,_|3,_|4,_|5,_|6,_|7,_|8,_|9,_=>simp[cH,upd]
def fdZ:Fd:=⟨0,0,0,0⟩
theorem Ab{j:Nat}(h:j<10):(suL.getD j fdZ).o<10:=by
 match j,h with
|0,_|1,_|2,_|3,_|4,_|5,_|6,_|7,_|8,_|9,_=>decide
def suE(F:Nat→Int)(j:Nat):By:=suM++fZ F (suL.take j)
theorem FG(F:Nat→Int){j:Nat}(h:j<10):suE F (j+1)=suE F j++le (F (suL.getD j fdZ).o) (suL.getD j fdZ).b.toNat:=by
 have hl:j<suL.length:=h;unfold suE fZ;rw[Tg hl,UD,To];congr 2;simp[S6,hl]
theorem It(F:Nat→Int)(j:Nat):(suE F j).length≤38:=by
 unfold suE;rw[SR,lD];by_cases h:j<10
 · match j,h with
  |0,_|1,_|2,_|3,_|4,_|5,_|6,_|7,_|8,_|9,_=>decide
 ·rw[S9 (show suL.length≤j from by show 10≤j;omega)];decide
theorem I7{F:Nat→Int}(h:kD F){j:Nat}(hj:j<10):¬ eZ (F (suL.getD j fdZ).o) (suL.getD j fdZ).b:=by
 obtain⟨⟨a1,a2,a3,a4,a5,a6,a7⟩,b1,b2,b3,b4,b5,b6,b7,b8⟩:=h;have wide:∀ z:Int,0≤z→z≤4294967295→¬ eZ z 4:=fun z h0 h1=>eX (m:=4294967295) (by decide) (by decide) h0 h1 (by decide);have narrow:∀ z:Int,0≤z→z≤65535→¬ eZ z 2:=fun z h0 h1=>eX (m:=65535) (by decide) (by decide) h0 h1 (by decide)
 match j,hj with
|0,_=>exact wide (F 0) (by omega) (by omega)
|1,_=>exact wide (F 2) (by omega) (by omega)
|2,_=>exact wide (F 3) (by omega) (by omega)
|3,_=>exact wide (F 4) (by omega) (by omega)
|4,_=>exact wide (F 5) (by omega) (by omega)
|5,_=>exact wide (F 6) (by omega) (by omega)
|6,_=>exact wide (F 9) (by omega) (by omega)
|7,_=>exact narrow (F 1) (by omega) (by omega)
|8,_=>exact narrow (F 7) (by omega) (by omega)
|9,_=>exact narrow (F 8) (by omega) (by omega)
def suX(F:Nat→Int)(n:Nat):By:=suH F++(le (iL (suH F):Nat) 4++Tf n 0)
theorem rB(F:Nat→Int)(n:Nat):(suX F n).length=42+n:=by unfold suX;rw[SR,SR,rD,bG,Tw];omega
section
variable {P:Program}{N:Nt}{l:SF}{ty:TypeId}{pos:String}{aft:Array Edge}{CH:Array Obj→Prop}{x:Operand}{t t2 e:TypeId}{g:Option (Nat×Bool)}{dd:Option Nat}{n size bytes:Nat}
theorem Ri{parts:List (Nat×Operand)}{vs:List (Nat×Value)}{zc cs:Array Value}(hu:P.underlying t=some (.array n e))(ht:aM P t2 e size bytes)(hz:(P.info? t).map (fun i=>i.zero.map (·.cells))=some (some zc))
 (hx:evPs l parts=some vs)(hf:Instr.fill (fun i=>some (i*size,size)) zc vs=some cs):Cm P N CH l ⟨dd,.build t parts.toArray,ty,pos,aft,g⟩ (.agg cs):=fun a w ha _=>by
 obtain⟨i,hi,h1⟩:=Tc.1 hz;obtain⟨z,hz',rfl⟩:=Tc.1 h1;have hv:=ha.evPs hx;simp only[execOp,Instr.build,Sem.run_bind,zeroValue,typeInfo,run_program,Result.andThen_ok,hi,hz',run_underlying hu,Sem.run_pure,ht.size,List.map_toArray,hv];rw[hf];simp
theorem QS{ad:Addr}(hu:P.underlying t=some (.array n e))(ht:aM P t2 e size bytes)(hx:evL l x=some (.pointer (some ad))):Cm P N CH l ⟨dd,.slice t x none none none,ty,pos,aft,g⟩ (.slice (some ad) n n):=fun a w ha _=>by
 simp only[execOp,ha.ev hx,Instr.sliceAt,Sem.run_bind,run_underlying hu,Result.andThen_ok,Instr.sureAddr,Instr.sliceBounds,Sem.run_pure,ht.size];by_cases h:n=0
 ·simp[h]
 ·simp[h,Addr.add]
end
theorem FE(x:Int)(W:World):CA 173 [iV x] W fun v w'=>v=.bool false∧w'=W:=by
 refine cS 6 [(0,_)] Tryz.func173 ?_;refine Gz 9 ?_;refine cL (Qv (Qb rfl rfl) (fun h=>h rfl)) ?_;refine Gz 5 ?_;exact⟨_,rfl,rfl,rfl⟩
theorem vQ(x y:Int)(W:World):CA 122 [iV x,iV y] W fun v w'=>v=.bool (decide (x<y))∧w'=W:=by
 refine cS 17 [(0,_),(1,_)] Tryz.func122 ?_;refine cA 8 Mt (FE x W) ?_;rintro _ w1 ⟨rfl,hw1⟩;subst w1;refine Gz 8 ?_;refine cW (P5 rfl rfl) ?_;refine Gz 6 ?_;exact⟨_,rfl,rfl,rfl⟩
def upI(l:List Int):Prop:=∀ i,i+1<l.length→l.getD i 0≤l.getD (i+1) 0
instance (l:List Int):Decidable (upI l):=decidable_of_iff ((TM (l.length-1)).all (fun i=>decide (l.getD i 0≤l.getD (i+1) 0))=true) (by
 rw[List.all_eq_true];exact⟨fun h i hi=>of_decide_eq_true (h i (by rw[Ua];omega)),fun h i hi=>SX (h i (by rw[Ua] at hi;omega))⟩)
theorem Aa(lo:Option Addr)(lc:Nat)(l:List Int)(W:World)(hv:Vw i64 W.heap lo lc l) :
 CA 100 [.slice lo l.length lc] W fun v w'=>v=.bool (decide (upI l))∧aA nob W w':=by
 have h63:=hv.SM;refine cS 21 [(0,_)] Tryz.func100 ?_;refine Gz 15 ?_;refine Pb (β:=Int) (fun z=>[(0,.slice lo l.length lc),(3,iV z)]) (fun z w=>-1≤z∧z<l.length∧(∀ j:Nat,z≤j→j+1<l.length→l.getD j 0≤l.getD (j+1) 0)∧aA nob W w) (fun z=>z.toNat) ((l.length:Int)-1) ⟨rfl,rfl,trivial⟩ ⟨by omega,by omega,fun j h1 h2=>by omega,RY _ _⟩ ?_;rintro z w ⟨hz1,hz2,hall,hF⟩;refine fK 4 ?_ ?_<;>intro h8
 ·refine Gz 8 ?_;refine Pk 9 (fun H=>Vw i64 H lo lc l) [9] [0,1,2,3,4,5,6,7,8,9] aJ (by kernel_rfl) (hv.SN hF) ?_;refine Gz 2 ?_;refine xC rfl (O5 bR rfl rfl hv.non (by omega)) ?_;refine xC rfl (Pe aK rfl (fun H hH=>hH.gz 0 z.toNat (by omega) (by omega))) ?_;refine Gz 3 ?_;refine xC rfl (O5 bR rfl rfl hv.non (by omega)) ?_;refine xC rfl (Pe aK rfl (fun H hH=>hH.gz 0 (z-1).toNat (by omega) (by omega))) ?_;refine Ph rfl rfl (O6 Kl rfl (vQ (l.getD z.toNat 0) (l.getD (z-1).toNat 0) _) rfl ?_);rintro _ w1 ⟨rfl,rfl⟩;refine PN rfl ?_;by_cases h20:l.getD z.toNat 0<l.getD (z-1).toNat 0
  ·rw[SX h20];refine Gz 15 ?_;exact⟨_,rfl,by rw[SU (fun h=>by have:=h (z-1).toNat (by omega);rw[show (z-1).toNat+1=z.toNat by omega] at this;omega)],hF.draws 1⟩
  rw[SU h20];refine Gz 11 ?_;refine aG (z-1) ⟨by omega,by omega,fun j h1 h2=>?_,hF.draws 1⟩ (by show (z-1).toNat<z.toNat;omega);by_cases e:(j:Int)=z-1
  · have e1:(z-1).toNat=j:=by omega
    have e2:z.toNat=j+1:=by omega
    rw[e1,e2] at h20;omega
  ·exact hall j (by omega) h2
 refine Gz 15 ?_;exact⟨_,rfl,by rw[SX (show upI l from fun i hi=>hall i (by omega) hi)],hF⟩
section
variable {R:UInt8→Prop}[DecidablePred R]
theorem BK(f:FuncId)(hf:fnB Tryz.prog f=true)(lo:Option Addr)(lc:Nat)(b:By)(W:World)(hv:Vw b8 W.heap lo lc b)
 (hc:∀ w c,Calls Tryz.prog f [b8 c].toArray w (Ret fun v w'=>v=.bool (decide (R c))∧w'=w)) :
 CA 102 [.slice lo b.length lc,.func (.func f) #[] #[]] W fun v w'=>∃ z:Int,v=iV z∧(0≤z↔∃ c∈b,R c)∧w'=W:=by
 have h63:=hv.SM;refine cS 19 [(0,_),(1,_)] Tryz.func102 ?_;refine Gz 14 ?_;refine Pb (β:=Nat) (fun i=>[(0,.slice lo b.length lc),(1,.func (.func f) #[] #[]),(7,iV b.length),(8,iV i)]) (fun i w=>i≤b.length∧(∀ j,j<i→¬ R (b.getD j 0))∧w=W) (fun i=>b.length-i) 0 ⟨rfl,rfl,rfl,rfl,trivial⟩ ⟨S3 _,fun j hj=>by omega,rfl⟩ ?_;rintro i w ⟨hi,hno,hw⟩;subst w;refine fK 2 ?_ ?_<;>intro h9
 ·have hil:i<b.length:=by omega
  refine Gz 19 ?_;refine cL (O5 aN rfl rfl hv.non (by omega)) ?_;refine cL (O8 uU rfl (hv.gz 0 i rfl hil)) ?_;refine P9 hf rfl rfl (hc W (b.getD i 0)) rfl ?_;rintro _ w1 ⟨rfl,hw1⟩;subst w1;by_cases h16:R (b.getD i 0)
  ·rw[SX h16];refine Gz 16 ?_;exact⟨_,rfl,i,rfl,⟨fun _=>⟨_,(by rw[S6,SS hil];exact Uh hil),h16⟩,fun _=>by omega⟩,rfl⟩
  rw[SU h16];refine Gz 10 ?_;refine aG (i+1) ⟨by omega,fun j hj=>?_,rfl⟩ (by show b.length-(i+1)<b.length-i;omega);by_cases e:j=i
  ·subst e;exact h16
  ·exact hno j (by omega)
 have hie:i=b.length:=by omega
 refine Gz 16 ?_;exact⟨_,rfl,-1,rfl,⟨fun h=>by omega,fun⟨c,hc1,hc2⟩=>by obtain⟨j,hj,rfl⟩:=TG hc1;exact absurd hc2 (by have:=hno j (by omega);rwa[S6,SS hj] at this)⟩,rfl⟩
theorem uS(f:FuncId)(hf:fnB Tryz.prog f=true)(lo:Option Addr)(lc:Nat)(b:By)(W:World)(hv:Vw b8 W.heap lo lc b)
 (hc:∀ w c,Calls Tryz.prog f [b8 c].toArray w (Ret fun v w'=>v=.bool (decide (R c))∧w'=w)) :
 CA 50 [.slice lo b.length lc,.func (.func f) #[] #[]] W fun v w'=>v=.bool (decide (∃ c∈b,R c))∧w'=W:=by
 refine cS 9 [(0,_),(1,_)] Tryz.func50 ?_;refine cA 9 MU (BK f hf lo lc b W hv hc) ?_;rintro _ w1 ⟨z,rfl,hz,hw1⟩;subst w1;refine cL (Qi rfl rfl) ?_;refine Gz 5 ?_;exact⟨_,rfl,congrArg _ (decide_eq_decide.2 hz),rfl⟩
end
theorem BG(W:World)(c:UInt8):CA 51 [b8 c] W fun v w'=>v=.bool (decide (c≠0))∧w'=W:=by
 refine cS 5 [(0,_)] Tryz.func51 ?_;refine Gz 8 ?_;refine cL (Qb rfl rfl) ?_;refine Gz 5 ?_;refine⟨_,rfl,congrArg Value.bool (decide_eq_decide.2 (not_congr ⟨fun h=>?_,fun h=>by rw[h];rfl⟩)),rfl⟩;have h:((c.toNat:Nat):Int)=0:=h;exact Uv.1 (by show c.toNat=0;omega)
def mK(E:Int)(ys:By):Int:=if E≠0 then 0 else ys.length
theorem vO{D:Nat→Prop}(p:Nat)(E:Int)(ys:By)(W:World)(hP:RdL D W.heap p E ys) :
 CA 46 [pT p] W fun v w'=>v=iV (mK E ys)∧w'=W:=by
 obtain⟨ao,c,hobj,hv,hap⟩:=hP;refine cS 14 [(0,_)] Tryz.func46 ?_;refine fK 13 ?_ ?_<;>intro h8
 ·refine Gz 11 ?_;exact⟨_,rfl,by unfold mK;rw[SQ h8],rfl⟩
 refine Gz 17 ?_;exact⟨_,rfl,by unfold mK;rw[SP h8],rfl⟩
theorem FD{D:Nat→Prop}(p:Nat)(E:Int)(ys:By)(W:World)(hP:RdL D W.heap p E ys) :
 CA 47 [pT p] W fun v w'=>v=iV E∧w'=W:=by
 obtain⟨ao,c,hobj,hv,hap⟩:=hP;refine cS 7 [(0,_)] Tryz.func47 ?_;refine Gz 16 ?_;exact⟨_,rfl,rfl,rfl⟩
theorem iQ(x a b:Int)(W:World):CA 101 [iV x,iV a,iV b] W fun v w'=>v=.bool (decide (a≤x∧x≤b))∧w'=W:=by
 refine cS 15 [(0,_),(1,_),(2,_)] Tryz.func101 ?_;refine fK 9 ?_ ?_<;>intro h9
 ·refine fW 3 ?_ ?_<;>intro h13
  ·refine Gz 6 ?_;exact⟨_,rfl,by rw[SX ⟨h9,h13⟩],rfl⟩
  refine Gz 6 ?_;exact⟨_,rfl,by rw[SU (fun h:a≤x∧x≤b=>by omega)],rfl⟩
 refine Gz 10 ?_;exact⟨_,rfl,by rw[SU (fun h:a≤x∧x≤b=>by omega)],rfl⟩
theorem In(F:Nat→Int)(W:World):CA 99 [.agg (cH F).toArray] W fun v w'=>v=.agg ((gM F).map i64).toArray∧aA nob W w':=by
 refine cS 16 [(0,_)] Tryz.func99 ?_;refine Gz 2 ?_;refine Px rfl rfl ?_;intro w1 hg1 hs1 hf1;have hg1:w1.heap[W.heap.size]?=some (.cells (cH F).toArray 44 (0,0)):=hg1;obtain⟨g,eg⟩:∃ g,g=W.heap.size:=⟨_,rfl⟩
 rw[←eg] at hg1 ⊢;refine O9 Fk rfl ?_;intro w2 hg2a hs2 hf2;have hg2:=hf2.obj hg1 id;obtain⟨r,er⟩:∃ r,r=w1.heap.size:=⟨_,rfl⟩
 rw[←er] at hg2a ⊢;refine Gz 16 ?_;refine cL (Ri (n:=8) (cs:=((gM F).map i64).toArray) (by kernel_rfl) bR Fk rfl (by kernel_rfl)) ?_;refine sA rfl CD (by intro v hv;obtain⟨z,_,rfl⟩:=Tj.1 hv;rfl) hg2a ?_;intro w3 hg3 hs3 hf3;refine Gz 3 ?_;refine Qq (cs:=(gM F).map i64) rfl CD rfl (fun j v hj=>aD hg3 hj) ?_;exact⟨_,rfl,rfl,(hf1.trans hf2).tw hf3⟩
theorem zZ(F:Nat→Int)(W:World):CA 49 [.agg (cH F).toArray] W fun v w'=>v=.bool (decide (kD F))∧aA nob W w':=by
 refine cS 28 [(0,_)] Tryz.func49 ?_;refine Gz 2 ?_;refine Px rfl rfl ?_;intro w1 hg1 hs1 hf1;have hg1:w1.heap[W.heap.size]?=some (.cells (cH F).toArray 44 (0,0)):=hg1;obtain⟨g,eg⟩:∃ g,g=W.heap.size:=⟨_,rfl⟩
 rw[←eg] at hg1 ⊢;refine Gz 5 ?_;refine cL (Pi (cs:=cH F) dE rfl (bJ hg1 0 rfl)) ?_;refine cA 0 Om (In F w1) ?_;rintro _ w2 ⟨rfl,hf2⟩;refine O9 Fk rfl ?_;intro w3 hg3a hs3 hf3;refine sA rfl CD (by intro v hv;obtain⟨z,_,rfl⟩:=Tj.1 hv;rfl) hg3a ?_;intro w3b hg3 hs3b hf3b;obtain⟨r,er⟩:∃ r,r=w2.heap.size:=⟨_,rfl⟩
 rw[←er] at hg3 hf3b ⊢;have hF3:aA nob w1 w3b:=(hf2.trans hf3).SJ hf3b (fun k hk=>.inr (by have h:k=r:=hk;have:=hf2.size;omega));have hv3:Vw i64 w3b.heap (some ⟨r,0,none⟩) 8 (gM F):=⟨by show 8≤8;decide,by decide,fun _=>by simp,fun i x hx=>by
  have h1:((gM F).map i64)[i]?=some (i64 x):=by rw[Ts,hx];rfl
  exact aD hg3 h1⟩
 refine Gz 4 ?_;refine cL (QS (n:=8) (by kernel_rfl) bR rfl) ?_;refine cA 0 MV (Aa (some ⟨r,0,none⟩) 8 (gM F) w3b hv3) ?_;rintro _ w4 ⟨rfl,hf4⟩;have hW4:=(hf1.trans hF3).trans hf4;have hg4:=(hF3.trans hf4).obj hg1 id;by_cases h7:upI (gM F)
 ·rw[SX h7];have hso:Ad F:=Ac.2 (fun i hi=>h7 i hi);refine Gz 3 ?_;refine Pd rfl rfl DK rfl (iQ _ _ _ w4) rfl ?_;rintro _ w5 ⟨rfl,hw5⟩;subst w5;by_cases h11:1≤F 1∧F 1≤1024
  ·rw[SX h11];refine Gz 4 ?_;refine Pd rfl rfl DK rfl (iQ _ _ _ w4) rfl ?_;rintro _ w5 ⟨rfl,hw5⟩;subst w5;by_cases h16:1≤F 7∧F 7≤2048
   ·rw[SX h16];refine Gz 4 ?_;refine Pd rfl rfl DK rfl (iQ _ _ _ w4) rfl ?_;rintro _ w5 ⟨rfl,hw5⟩;subst w5;by_cases h21:0≤F 8∧F 8≤1024
    ·rw[SX h21];refine Gz 4 ?_;refine Pd rfl rfl DK rfl (iQ _ _ _ w4) rfl ?_;rintro _ w5 ⟨rfl,hw5⟩;subst w5;by_cases h26:0≤F 9∧F 9≤4294967295
     ·rw[SX h26];refine Gz 6 ?_;exact⟨_,rfl,by rw[SX ⟨hso,h11.1,h11.2,h16.1,h16.2,h21.1,h21.2,h26.1,h26.2⟩],hW4⟩
     rw[SU h26];refine Gz 6 ?_;exact⟨_,rfl,by rw[SU (fun h=>by first|exact hso h.1|(unfold kD at h;omega))],hW4⟩
    rw[SU h21];refine Gz 11 ?_;exact⟨_,rfl,by rw[SU (fun h=>by first|exact hso h.1|(unfold kD at h;omega))],hW4⟩
   rw[SU h16];refine Gz 16 ?_;exact⟨_,rfl,by rw[SU (fun h=>by first|exact hso h.1|(unfold kD at h;omega))],hW4⟩
  rw[SU h11];refine Gz 21 ?_;exact⟨_,rfl,by rw[SU (fun h=>by first|exact hso h.1|(unfold kD at h;omega))],hW4⟩
 rw[SU h7];have hso:¬ Ad F:=fun h=>h7 (fun i hi=>Ac.1 h i hi);refine Gz 25 ?_;exact⟨_,rfl,by rw[SU (fun h=>by first|exact hso h.1|(unfold kD at h;omega))],hW4⟩
def ptO(g:Nat)(o:Nat):Value:=.pointer (some ⟨g,o,none⟩)
def oW:List Nat:=[0,2,3,4,5,6,9]
def oN:List Nat:=[1,7,8]
theorem Dn{i:Nat}(h:i<7):oW.getD i 0=(suL.getD i fdZ).o∧(suL.getD i fdZ).b=4:=by
 match i,h with
|0,_|1,_|2,_|3,_|4,_|5,_|6,_=>exact⟨rfl,rfl⟩
theorem Do{i:Nat}(h:i<3):oN.getD i 0=(suL.getD (7+i) fdZ).o∧(suL.getD (7+i) fdZ).b=2:=by
 match i,h with
|0,_|1,_|2,_=>exact⟨rfl,rfl⟩
theorem vK(g:Nat)(W:World):CA 43 [pT g] W fun v w'=>∃ q,v=.slice (some ⟨q,0,none⟩) oW.length 7∧Own (ptO g) 72 w'.heap (some ⟨q,0,none⟩) 7 oW∧W.heap.size≤q∧q<w'.heap.size∧aA nob W w':=by
 refine cS 25 [(0,_)] Tryz.func43 ?_;refine Gz 6 ?_;refine Pk 23 (fun _=>True) [21] [0,1,2,3,4,5,6,7,8,9,10,11,12,13,14,15,16,17,18,19,20,21,22] aJ (by kernel_rfl) (trivial) ?_;refine Gz 21 ?_;refine Ph rfl rfl (PA xY (cs:=(oW.map (ptO g)).toArray) Kr rfl rfl rfl (by kernel_rfl) rfl ?_);intro w1 hg1 hs1 hf1;refine Pn (by exact trivial) ?_;refine Gz 5 ?_;exact⟨_,rfl,_,rfl,iT (xs:=oW) hg1 (by decide),SY _,by have h:w1.heap.size=W.heap.size+1:=hs1;show W.heap.size<_;omega,hf1.SL⟩
theorem qA(g:Nat)(W:World):CA 45 [pT g] W fun v w'=>∃ q,v=.slice (some ⟨q,0,none⟩) oN.length 3∧Own (ptO g) 72 w'.heap (some ⟨q,0,none⟩) 3 oN∧W.heap.size≤q∧q<w'.heap.size∧aA nob W w':=by
 refine cS 13 [(0,_)] Tryz.func45 ?_;refine Gz 6 ?_;refine Pk 11 (fun _=>True) [9] [0,1,2,3,4,5,6,7,8,9,10] aJ (by kernel_rfl) (trivial) ?_;refine Gz 9 ?_;refine Ph rfl rfl (PA xY (cs:=(oN.map (ptO g)).toArray) Kr rfl rfl rfl (by kernel_rfl) rfl ?_);intro w1 hg1 hs1 hf1;refine Pn (by exact trivial) ?_;refine Gz 5 ?_;exact⟨_,rfl,_,rfl,iT (xs:=oN) hg1 (by decide),SY _,by have h:w1.heap.size=W.heap.size+1:=hs1;show W.heap.size<_;omega,hf1.SL⟩
def suT(q:Rd)(k:Nat):Rd×(Nat→Int):=(suL.take k).foldl gF (q,zF)
theorem nK{q:Rd}{j:Nat}(h:j<10):suT q (j+1)=(gS (suL.getD j fdZ).b (suT q j).1,upd (suT q j).2 (suL.getD j fdZ).o (gV (suL.getD j fdZ).b (suT q j).1)):=by
 have hl:j<suL.length:=h;unfold suT;rw[Tg hl,TX];simp only[TY,List.foldl_nil,S6,SS hl,Option.getD_some];rfl
theorem C1{q:Rd}{j:Nat}(h:j<10):(suT q (j+1)).2 (suL.getD j fdZ).o=gV (suL.getD j fdZ).b (suT q j).1:=by
 rw[nK h];simp[upd]
theorem vP{q:Rd}{j:Nat}(h:j<10):(cH (suT q j).2).set (suL.getD j fdZ).o (iV ((suT q (j+1)).2 (suL.getD j fdZ).o))=cH (suT q (j+1)).2:=by
 rw[zX _ (Ab h),C1 h,nK h]
theorem C2(q:Rd):∀ k,k≤10→(suT q k).1.2.length≤q.2.length:=by
 intro k
 induction k with
|zero=>intro _;exact SY _
|succ n ih=>intro hn;rw[nK (by omega)];exact Tt (uD _ _ _) (ih (by omega))
theorem C3(q:Rd)(hl:q.2.length≤64)(j:Nat)(hj:j<10)(D:Nat→Prop)(p:Nat)(W:World)(hP:RdL D W.heap p (suT q j).1.1 (suT q j).1.2) :
 CA 44 [pT p,iV (suL.getD j fdZ).b] W fun v w'=>v=iV ((suT q (j+1)).2 (suL.getD j fdZ).o)∧RdL D w'.heap p (suT q (j+1)).1.1 (suT q (j+1)).1.2∧aA (· = p) W w':=by
 rw[C1 hj,nK hj];exact Aj p _ _ _ W hP (by have:=C2 q j (by omega);omega)
def spQ(im:By):Rd:=(dC 0 (im.take 64) 4,oQ 0 (im.take 64) 4)
def spS(im:By):Rd×(Nat→Int):=suT (spQ im) 10
def spR(s:Rd):Rd:=gS 4 s
def spL(s:Rd):Int:=mK s.1 s.2
def spE(s:Rd):Int:=dC s.1 s.2 (spL s)
def spB(s:Rd):By:=gA s.1 s.2 (spL s)
theorem rE{im:By}(h:64≤im.length):gA 0 (im.take 64) 4=im.take 4∧(spS im).2=suF im∧spL (spS im).1=26∧gV 4 (spS im).1=(bX ((im.drop 38).take 4):Nat)∧spE (spR (spS im).1)=0∧spB (spR (spS im).1)=(im.take 64).drop 42:=by
 have hl:(im.take 64).length=64:=by rw[S2];omega
 have e1:dC 0 (im.take 64) 4=0:=gW (by decide) (by omega);obtain⟨c1,c2⟩:=eJ e1;have eq:spQ im=(0,(im.take 64).drop 4):=by unfold spQ;rw[e1,c2];rfl
 have es:spS im=suQ ((im.take 64).drop 4):=by unfold spS;rw[eq];rfl
 have hl2:((im.take 64).drop 4).length=60:=by rw[Ta];omega
 obtain⟨h0,h1,h2⟩:=C4 (ys:=(im.take 64).drop 4) (by omega);have es1:(spS im).1=(0,(im.take 64).drop 38):=by rw[es];exact U3 h0 (by rw[h2,UQ])
 have hl3:((im.take 64).drop 38).length=26:=by rw[Ta];omega
 have hg:=tS (n:=4) (s:=(0,(im.take 64).drop 38)) (by decide) (by decide) rfl (by show (4:Int)≤(((im.take 64).drop 38).length:Nat);omega);have e4:spR (spS im).1=(0,(im.take 64).drop 42):=by rw[es1];unfold spR;rw[hg.1,show ((4:Int).toNat)=4 from rfl];simp only[UQ]
 have hl4:((im.take 64).drop 42).length=22:=by rw[Ta];omega
 have e5:spL (spR (spS im).1)=22:=by rw[e4];show mK 0 _=22;unfold mK;rw[SP (by omega),hl4];rfl
 have e6:dC 0 ((im.take 64).drop 42) 22=0:=gW (by decide) (by omega);obtain⟨c3,c4⟩:=eJ e6;refine⟨by rw[c1,show ((4:Int).toNat)=4 from rfl,Ui];rfl,by rw[es];rfl,?_,?_,?_,?_⟩
 ·rw[es1];show mK 0 _=26;unfold mK;rw[SP (by omega),hl3];rfl
 · rw[es1,hg.2,show ((4:Int).toNat)=4 from rfl,U9,Ui,U9]
   simp only[show min (38+4) 64=42 by rfl,show (38+4:Nat)=42 by rfl]
 ·unfold spE;rw[e5,e4];exact e6
 · unfold spB;rw[e5,e4]
   show gA 0 ((im.take 64).drop 42) 22=_;rw[c3,S9 (by rw[hl4];decide)]
theorem LI{im:By}(h:64≤im.length)(h1:gA 0 (im.take 64) 4=suM)(h2:((bX ((im.drop 38).take 4):Nat):Int)=(iL (im.take 38):Nat))(h3:(suF im) 0=im.length)(h4:kD (suF im))(h5:¬ ∃ c∈spB (spR (spS im).1),c≠0):iK im:=by
 obtain⟨g1,g2,g3,g4,g5,g6⟩:=rE h;rw[g6] at h5;refine⟨h,h4,(zW h).2 ⟨by rw[←g1];exact h1,by omega,(Bx (by rw[Ta,S2];omega)).2 (fun c hc=>S4 fun hn=>h5 ⟨c,hc,hn⟩)⟩,h3⟩
theorem FM{im:By}(hok:iK im):gA 0 (im.take 64) 4=suM∧((bX ((im.drop 38).take 4):Nat):Int)=(iL (im.take 38):Nat)∧¬ ∃ c∈spB (spR (spS im).1),c≠0:=by
 obtain⟨h,h4,h5,h3⟩:=hok;obtain⟨g1,g2,g3,g4,g5,g6⟩:=rE h;obtain⟨a,b,c⟩:=(zW h).1 h5;refine⟨by rw[g1];exact a,by omega,?_⟩;rw[g6];rintro⟨x,hx,hn⟩;exact hn ((Bx (by rw[Ta,S2];omega)).1 c x hx)
theorem vL(tp:Nat)(io:Option Addr)(ic:Nat)(im:By)(W:World)(ht:TbV W.heap tp)(hv:Vw b8 W.heap io ic im)(hb:im.length≤1099511627776) :
 CA 14 [pT tp,.slice io im.length ic] W fun v w'=>v=.tuple #[.agg (cH (dK im).1).toArray,iV (dK im).2]∧aA nob W w':=by
 have hl63:=hv.SM;have hle:=hv.le;obtain⟨r,er⟩:∃ r,r=W.heap.size:=⟨_,rfl⟩
 have hml:(im.take 64).length=min 64 im.length:=S2;obtain⟨ys,hys⟩:∃ ys,ys=im.take 64:=⟨_,rfl⟩
 obtain⟨q0,hq0⟩:∃ q0,q0=spQ im:=⟨_,rfl⟩
 have hql:q0.2.length≤64:=by rw[hq0];have:(spQ im).2.length≤(im.take 64).length:=uD _ _ _;omega
 refine cS 99 [(0,_),(1,_)] Tryz.func14 ?_;refine Gz 2 ?_;refine O9 oY rfl ?_;intro w1 hg1 hs1 hf1;have hg1:w1.heap[W.heap.size]?=some (.cells (cH zF).toArray 44 (0,0)):=hg1;rw[←er] at hg1 ⊢;refine Gz 8 ?_;refine cL (O7 (u:=iV (ys.length:Nat)) (QD rfl rfl) (by rw[hys,hml];congr 1;omega)) ?_;refine cL (O7 (u:=.slice io ys.length ic) (Pr aN rfl rfl (by rw[hys,hml];omega)) (by rw[aS];rfl)) ?_;refine O6 OK rfl (F5 io ic ys w1 (by rw[hys];exact(hv.take 64).SN hf1) (by rw[hys,hml];omega)) rfl ?_;rintro _ w2 ⟨p,rfl,hp,hP,hf2⟩;have hlp:=RdO.lt hP;have hz1:=hf1.size;have hz2:=hf2.size;have hsw1:w1.heap.size=W.heap.size+1:=hs1;refine Gz 5 ?_;refine O9 oY rfl ?_;intro w3 hg3 hs3 hf3;have hg3:w3.heap[w2.heap.size]?=some (.cells (cH (suT q0 0).2).toArray 44 (0,0)):=hg3;obtain⟨q,eq⟩:∃ q,q=w2.heap.size:=⟨_,rfl⟩
 rw[←eq] at hg3 ⊢;refine Gz 5 ?_;refine O6 Li rfl (yD p 0 ys 4 w3 (hP.SN hf3) (by rw[hys,hml];omega)) rfl ?_;rintro _ w4 ⟨o4,c4,rfl,ho4,hfr4,hP4,hF4⟩;have hz3:=hf3.size;have hz4:=hF4.size;have hg4:=hF4.obj hg3 (fun h=>by have h:q=p:=h;omega);have hP4:RdL (fun k=>w1.heap.size≤k∧k<w2.heap.size) w4.heap p (suT q0 0).1.1 (suT q0 0).1.2:=by rw[hq0];rw[hys] at hP4;exact hP4
 have hJ4:aA (fun k=>w1.heap.size≤k) w1 w4:=((hf2.trans hf3).any).trans (hF4.mono (fun k h=>by have h:k=p:=h;omega));refine cL (Qd aN ty5 ty9 rfl ho4.vw) ?_;refine cA 6 L5 (vK q w4) ?_;rintro _ w5 ⟨l,rfl,ho5,hl1,hl2,hf5⟩;have hz5:=hf5.size;have hJ5:=hJ4.trans hf5.any;refine Gz 5 ?_;refine Pb (β:=Nat) (fun i=>[(0,pT tp),(1,.slice io im.length ic),(4,pT r),(6,pT p),(7,pT q),(8,.string (bs (gA 0 ys 4))),(26,.slice (some ⟨l,0,none⟩) oW.length 7),(27,iV (oW.length:Nat)),(28,iV i)]) (fun i w=>i≤7∧RdL (fun k=>w1.heap.size≤k∧k<w2.heap.size) w.heap p (suT q0 i).1.1 (suT q0 i).1.2∧w.heap[q]?=some (.cells (cH (suT q0 i).2).toArray 44 (0,0))∧Own (ptO q) 72 w.heap (some ⟨l,0,none⟩) 7 oW∧aA (fun k=>w1.heap.size≤k) w1 w∧w5.heap.size≤w.heap.size) (fun i=>7-i) 0 ⟨rfl,rfl,rfl,rfl,rfl,rfl,rfl,rfl,rfl,trivial⟩ ⟨by decide,hP4.SN hf5,hf5.obj hg4 id,ho5,hJ5,SY _⟩ ?_;rintro i w6 ⟨hi,hP6,hg6,how,hJ6,hz56⟩;refine fK 2 ?_ ?_<;>intro h29
 ·have hi7:i<7:=by have:(i:Int)<(oW.length:Nat):=h29;have e:oW.length=7:=rfl;omega
  refine Gz 10 ?_;refine cL (O5 xY rfl rfl how.vw.non (by have e:oW.length=7:=rfl;omega)) ?_;refine cL (O8 vT rfl (how.vw.gz 0 i rfl (by show i<7;exact hi7))) ?_;rw[(Dn hi7).1];refine Gz 6 ?_;refine O6 Lh rfl (by have h:=C3 q0 hql i (by omega) _ p w6 hP6;rw[(Dn hi7).2] at h;exact h) rfl ?_;rintro _ w7 ⟨rfl,hP7,hF7⟩;have hz7:=hF7.size;have hg7:=hF7.obj hg6 (fun h=>by have h:q=p:=h;omega);have hJ7:=hJ6.trans (hF7.mono (fun k h=>by have h:k=p:=h;show w1.heap.size≤k;omega));have how7:=how.SO hF7 (fun a ha e=>by cases ha;have e:l=p:=e;omega);refine Gz 1 ?_;refine Pg aK rfl rfl rfl hg7 (by have:=Ab (j:=i) (by omega);rw[T8];exact this) ?_;intro w8 hg8 hs8 hF8;rw[vP (by omega)] at hg8;have hP8:=hP7.SO hF8 (fun k hk e=>by have e:k=q:=e;have:=hk.2;omega);have hJ8:=hJ7.trans (hF8.mono (fun k h=>by have h:k=q:=h;show w1.heap.size≤k;omega));have how8:=how7.SO hF8 (fun a ha e=>by cases ha;have e:l=q:=e;omega);refine Gz 7 ?_;exact aG (i+1) ⟨by omega,hP8,hg8,how8,hJ8,by have h:w8.heap.size=w7.heap.size:=hs8;omega⟩ (by show 7-(i+1)<7-i;omega)
 have hi7:i=7:=by have h29:¬ (i:Int)<(oW.length:Nat):=h29;have e:oW.length=7:=rfl;omega
 subst hi7;refine cA 12 L4 (qA q w6) ?_;rintro _ w9 ⟨l2,rfl,ho9,hm1,hm2,hf9⟩;have hz6:=hJ6.size;have hz9:=hf9.size;have hJ9:=hJ6.trans hf9.any;refine Gz 5 ?_;refine Pb (β:=Nat) (fun i=>[(0,pT tp),(1,.slice io im.length ic),(4,pT r),(6,pT p),(7,pT q),(8,.string (bs (gA 0 ys 4))),(37,.slice (some ⟨l2,0,none⟩) oN.length 3),(38,iV (oN.length:Nat)),(39,iV i)]) (fun i w=>i≤3∧RdL (fun k=>w1.heap.size≤k∧k<w2.heap.size) w.heap p (suT q0 (7+i)).1.1 (suT q0 (7+i)).1.2∧w.heap[q]?=some (.cells (cH (suT q0 (7+i)).2).toArray 44 (0,0))∧Own (ptO q) 72 w.heap (some ⟨l2,0,none⟩) 3 oN∧aA (fun k=>w1.heap.size≤k) w1 w) (fun i=>3-i) 0 ⟨rfl,rfl,rfl,rfl,rfl,rfl,rfl,rfl,rfl,trivial⟩ ⟨by decide,hP6.SN hf9,hf9.obj hg6 id,ho9,hJ9⟩ ?_;rintro i w6 ⟨hi,hP6,hg6,how,hJ6⟩;refine fK 2 ?_ ?_<;>intro h40
 ·have hi3:i<3:=by have:(i:Int)<(oN.length:Nat):=h40;have e:oN.length=3:=rfl;omega
  refine Gz 10 ?_;refine cL (O5 xY rfl rfl how.vw.non (by have e:oN.length=3:=rfl;omega)) ?_;refine cL (O8 vT rfl (how.vw.gz 0 i rfl (by show i<3;exact hi3))) ?_;rw[(Do hi3).1];refine Gz 6 ?_;refine O6 Lh rfl (by have h:=C3 q0 hql (7+i) (by omega) _ p w6 hP6;rw[(Do hi3).2] at h;exact h) rfl ?_;rintro _ w7 ⟨rfl,hP7,hF7⟩;have hz7:=hF7.size;have hg7:=hF7.obj hg6 (fun h=>by have h:q=p:=h;omega);have hJ7:=hJ6.trans (hF7.mono (fun k h=>by have h:k=p:=h;show w1.heap.size≤k;omega));have how7:=how.SO hF7 (fun a ha e=>by cases ha;have e:l2=p:=e;omega);refine Gz 1 ?_;refine Pg aK rfl rfl rfl hg7 (by have:=Ab (j:=7+i) (by omega);rw[T8];exact this) ?_;intro w8 hg8 hs8 hF8;rw[vP (by omega)] at hg8;have hP8:=hP7.SO hF8 (fun k hk e=>by have e:k=q:=e;have:=hk.2;omega);have hJ8:=hJ7.trans (hF8.mono (fun k h=>by have h:k=q:=h;show w1.heap.size≤k;omega));have how8:=how7.SO hF8 (fun a ha e=>by cases ha;have e:l2=q:=e;omega);refine Gz 7 ?_;exact aG (i+1) ⟨by omega,hP8,hg8,how8,hJ8⟩ (by show 3-(i+1)<3-i;omega)
 have hi3:i=3:=by have h40:¬ (i:Int)<(oN.length:Nat):=h40;have e:oN.length=3:=rfl;omega
 subst hi3;have eS:suT q0 10=spS im:=by rw[hq0];rfl
 have hP6:RdL (fun k=>w1.heap.size≤k∧k<w2.heap.size) w6.heap p (suT q0 10).1.1 (suT q0 10).1.2:=hP6;have hg6:w6.heap[q]?=some (.cells (cH (suT q0 10).2).toArray 44 (0,0)):=hg6;rw[eS] at hP6 hg6;obtain⟨s,hs⟩:∃ s,s=(spS im).1:=⟨_,rfl⟩
 rw[←hs] at hP6;have hsl:s.2.length≤64:=by rw[hs,←eS];have:=C2 q0 10 (by decide);omega
 refine cA 12 L3 (vO p s.1 s.2 w6 hP6) ?_;rintro _ wq ⟨rfl,hwq⟩;subst wq;rw[show mK s.1 s.2=spL s from rfl];refine Gz 6 ?_;refine O6 Lh rfl (Aj p s.1 s.2 4 w6 hP6 (by omega)) rfl ?_;rintro _ w10 ⟨rfl,hP10,hF10⟩;have hP10:RdL (fun k=>w1.heap.size≤k∧k<w2.heap.size) w10.heap p (spR s).1 (spR s).2:=hP10;have hrl:(spR s).2.length≤s.2.length:=uD _ _ _;have hJ10:=hJ6.trans (hF10.mono (fun k h=>by have h:k=p:=h;show w1.heap.size≤k;omega));have hg10:=hF10.obj hg6 (fun h=>by have h:q=p:=h;omega);obtain⟨vn,hvn⟩:∃ vn,vn=bX (gA (cF s.1 4) s.2 4):=⟨_,rfl⟩
 have hvn4:vn<4294967296:=by have h1:=qY (gA (cF s.1 4) s.2 4);have h2:=AC s.1 s.2 4;rw[←hvn] at h1;exact TQ h1 (by have:=Nat.pow_le_pow_right (n:=256) (by decide) h2;omega)
 rw[←hvn];refine cL (Pj (n:=((vn:Nat):Int)) is3 LG rfl (qX hvn4)) ?_;refine cA 7 L3 (vO p (spR s).1 (spR s).2 w10 hP10) ?_;rintro _ wq ⟨rfl,hwq⟩;subst wq;rw[show mK (spR s).1 (spR s).2=spL (spR s) from rfl];refine O6 Li rfl (yD p (spR s).1 (spR s).2 (spL (spR s)) w10 hP10 (by omega)) rfl ?_;rintro _ w11 ⟨o11,c11,rfl,ho11,hfr11,hP11,hF11⟩;have hJ11:=hJ10.trans (hF11.mono (fun k h=>by have h:k=p:=h;show w1.heap.size≤k;omega));have hg11:=hF11.obj hg10 (fun h=>by have h:q=p:=h;omega);have hP11:RdL (fun k=>w1.heap.size≤k∧k<w2.heap.size) w11.heap p (spE (spR s)) (oQ (spR s).1 (spR s).2 (spL (spR s))):=hP11;have ho11:Own b8 5 w11.heap o11 c11 (spB (spR s)):=ho11;rw[show gA (spR s).1 (spR s).2 (spL (spR s))=spB (spR s) from rfl];have hW11:aA nob W w11:=(hf1.any.SJ hJ11 (fun k h=>.inl h)).fresh (fun k h=>by omega);have hr11:=hJ11.obj hg1 (fun h=>by have h:w1.heap.size≤r:=h;omega);refine Gz 9 ?_;refine O6 AY rfl (FD p _ _ w11 hP11) rfl ?_;rintro _ wq ⟨rfl,hwq⟩;subst wq;refine fK 0 ?_ ?_<;>intro h61
 ·have hno:¬ iK im:=fun h=>h61 (by rw[hs];exact(rE h.1).2.2.2.2.1);refine Gz 10 ?_;refine cL (bU (cH zF) qH oY) ?_;refine sA rfl dE (by exact dG _) hr11 ?_;intro w20 hg20 hs20 hf20;have hFx:aA nob W w20:=hW11.tw hf20;refine Gz 5 ?_;refine rC hg20 dE ?_;have e:dK im=(zF,2):=SP hno;exact⟨_,rfl,by rw[e],hFx⟩
 refine fW 3 ?_ ?_<;>intro h65
 ·have hno:¬ iK im:=fun h=>by have:=h.1;omega
  refine Gz 6 ?_;refine cL (bU (cH zF) qH oY) ?_;refine sA rfl dE (by exact dG _) hr11 ?_;intro w20 hg20 hs20 hf20;have hFx:aA nob W w20:=hW11.tw hf20;refine Gz 5 ?_;refine rC hg20 dE ?_;have e:dK im=(zF,2):=SP hno;exact⟨_,rfl,by rw[e],hFx⟩
 have h64:64≤im.length:=by omega
 obtain⟨g1,g2,g3,g4,g5,g6⟩:=rE h64;rw[←hs] at g3 g4;have g4:((vn:Nat):Int)=(bX ((im.drop 38).take 4):Nat):=by rw[hvn];exact g4
 rw[g2] at hg11;rw[g3];refine Gz 9 ?_;refine PD (PU (b:=suM) rfl rfl) rfl (fun h69=>?_) (fun h69=>?_)
 ·have hm1:gA 0 (im.take 64) 4=suM:=by rw[←hys];exact h69
  refine Gz 6 ?_;refine cW (O7 (u:=.slice io (im.take 38).length ic) (Pr aN rfl rfl (by omega)) (by rw[aS,S2,T6 (by omega)];rfl)) ?_;refine Pd rfl rfl Lg rfl (BH tp io ic (im.take 38) w11 (hW11.obj ht id) ((hv.take 38).SN hW11)) rfl ?_;rintro _ wq ⟨rfl,hwq⟩;subst wq;refine fW 0 ?_ ?_<;>intro h78
  ·have hm2:((bX ((im.drop 38).take 4):Nat):Int)=(iL (im.take 38):Nat):=by rw[←g4];exact h78
   refine fW 6 ?_ ?_<;>intro h85
   ·refine Gz 2 ?_;refine cW (Pi (cs:=cH (suF im)) dE rfl (bJ hg11 0 rfl)) ?_;refine Pd rfl rfl L2 rfl (zZ (suF im) w11) rfl ?_;rintro _ w12 ⟨rfl,hf12⟩;have hr12:=hf12.obj hr11 id;have hg12:=hf12.obj hg11 id;have hW12:=hW11.trans hf12;by_cases h89:kD (suF im)
    ·rw[SX h89];refine Gz 8 ?_;refine cL (Pp rfl) ?_;refine Gz 2 ?_;refine Pd rfl rfl OJ rfl (uS (R:=fun c=>c≠0) 51 OI o11 c11 (spB (spR s)) w12 (ho11.SN hf12).vw BG) rfl ?_;rintro _ wq ⟨rfl,hwq⟩;subst wq;by_cases h95:∃ c∈spB (spR s),c≠0
     ·rw[SX h95];have hno:¬ iK im:=fun h=>(FM h).2.2 (by rw[←hs];exact h95);refine Gz 6 ?_;refine cL (bU (cH zF) qH oY) ?_;refine sA rfl dE (by exact dG _) (by first|exact hr12|exact hr11) ?_;intro w20 hg20 hs20 hf20;have hFx:aA nob W w20:=by first|exact hW12.tw hf20|exact hW11.tw hf20
      refine Gz 5 ?_;refine rC hg20 dE ?_;have e:dK im=(zF,2):=SP hno;exact⟨_,rfl,by rw[e],hFx⟩
     rw[SU h95];have hyes:iK im:=LI h64 hm1 hm2 h85 h89 (by rw[←hs];exact h95);refine Gz 8 ?_;refine cL (Pi (cs:=cH (suF im)) dE rfl (bJ hg12 0 rfl)) ?_;refine sA rfl dE (by exact dG _) hr12 ?_;intro w20 hg20 hs20 hf20;have hFx:aA nob W w20:=hW12.tw hf20;refine Gz 4 ?_;refine rC hg20 dE ?_;have e:dK im=(suF im,0):=SQ hyes;exact⟨_,rfl,by rw[e],hFx⟩
    rw[SU h89];have hno:¬ iK im:=fun h=>h89 h.2.1;refine Gz 8 ?_;refine cL (Pp rfl) ?_;refine Gz 9 ?_;refine cL (bU (cH zF) qH oY) ?_;refine sA rfl dE (by exact dG _) (by first|exact hr12|exact hr11) ?_;intro w20 hg20 hs20 hf20;have hFx:aA nob W w20:=by first|exact hW12.tw hf20|exact hW11.tw hf20
    refine Gz 5 ?_;refine rC hg20 dE ?_;have e:dK im=(zF,2):=SP hno;exact⟨_,rfl,by rw[e],hFx⟩
   have hno:¬ iK im:=fun h=>h85 h.2.2.2;refine Gz 12 ?_;refine cL (Pp rfl) ?_;refine Gz 9 ?_;refine cL (bU (cH zF) qH oY) ?_;refine sA rfl dE (by exact dG _) (by first|exact hr12|exact hr11) ?_;intro w20 hg20 hs20 hf20;have hFx:aA nob W w20:=by first|exact hW12.tw hf20|exact hW11.tw hf20
   refine Gz 5 ?_;refine rC hg20 dE ?_;have e:dK im=(zF,2):=SP hno;exact⟨_,rfl,by rw[e],hFx⟩
  have hno:¬ iK im:=fun h=>h78 (by rw[g4];exact(FM h).2.1);refine Gz 19 ?_;refine cL (Pp rfl) ?_;refine Gz 9 ?_;refine cL (bU (cH zF) qH oY) ?_;refine sA rfl dE (by exact dG _) (by first|exact hr12|exact hr11) ?_;intro w20 hg20 hs20 hf20;have hFx:aA nob W w20:=by first|exact hW12.tw hf20|exact hW11.tw hf20
  refine Gz 5 ?_;refine rC hg20 dE ?_;have e:dK im=(zF,2):=SP hno;exact⟨_,rfl,by rw[e],hFx⟩
 have hno:¬ iK im:=fun h=>h69 (by rw[hys];exact(FM h).1);refine Gz 28 ?_;refine cL (Pp rfl) ?_;refine Gz 9 ?_;refine cL (bU (cH zF) qH oY) ?_;refine sA rfl dE (by exact dG _) (by first|exact hr12|exact hr11) ?_;intro w20 hg20 hs20 hf20;have hFx:aA nob W w20:=by first|exact hW12.tw hf20|exact hW11.tw hf20
 refine Gz 5 ?_;refine rC hg20 dE ?_;have e:dK im=(zF,2):=SP hno;exact⟨_,rfl,by rw[e],hFx⟩
theorem Hx(x:Ent):∀ v∈uA x,v.oneCell'=true:=(iI x).2
theorem HA(x:Ent)(last:By)(W:World)(hx:x.1.length≤maxLen):CA 172 [.agg (uA x).toArray,.string (bs last)] W fun v w'=>v=.bool (decide (iM x last))∧aA nob W w':=by
 refine cS 35 [(0,_),(1,_)] Tryz.func172 ?_;refine Gz 2 ?_;refine Px rfl rfl ?_;intro w1 hg1 hs1 hf1;have hg2:w1.heap[W.heap.size]?=some (.cells (uA x).toArray 157 (0,0)):=hg1;obtain⟨g,eg⟩:∃ g,g=W.heap.size:=⟨_,rfl⟩
 rw[←eg] at hg2 ⊢;refine cA 7 Ki (zR x.1 w1 hx) ?_;rintro _ w2 ⟨rfl,hf2⟩;have hg2:=hf2.obj hg2 id;have hW:=hf1.trans hf2;refine fK 0 ?_ ?_<;>intro h8
 ·have hv0:cP x.1=0:=h8;refine Gz 4 ?_;refine PB rfl rfl (Pv (QI (a:=x.1) (b:=last) rfl rfl)) rfl (fun h13=>?_) (fun h13=>?_)
  ·have hlt:Ti last x.1=true:=by rw[fX] at h13;simpa using h13
   refine fW 4 ?_ ?_<;>intro h18
   ·refine fW 4 ?_ ?_<;>intro h23
    ·refine fW 4 ?_ ?_<;>intro h28
     ·refine fW 4 ?_ ?_<;>intro h33
      ·refine Gz 6 ?_;exact⟨_,rfl,by rw[SX (show iM x last from ⟨hv0,hlt,h18,h23,h28,h33⟩)],hW⟩
      refine Gz 6 ?_;exact⟨_,rfl,by rw[SU (fun h:iM x last=>by obtain⟨m1,m2,m3,m4,m5,m6⟩:=h;first|exact h8 m1|exact hlt m2|omega)],hW⟩
     refine Gz 11 ?_;exact⟨_,rfl,by rw[SU (fun h:iM x last=>by obtain⟨m1,m2,m3,m4,m5,m6⟩:=h;first|exact h8 m1|exact hlt m2|omega)],hW⟩
    refine Gz 16 ?_;exact⟨_,rfl,by rw[SU (fun h:iM x last=>by obtain⟨m1,m2,m3,m4,m5,m6⟩:=h;first|exact h8 m1|exact hlt m2|omega)],hW⟩
   refine Gz 21 ?_;exact⟨_,rfl,by rw[SU (fun h:iM x last=>by obtain⟨m1,m2,m3,m4,m5,m6⟩:=h;first|exact h8 m1|exact hlt m2|omega)],hW⟩
  have hlt:¬ Ti last x.1=true:=by rw[fX] at h13;simpa using h13
  refine Gz 26 ?_;exact⟨_,rfl,by rw[SU (fun h:iM x last=>by obtain⟨m1,m2,m3,m4,m5,m6⟩:=h;first|exact h8 m1|exact hlt m2|omega)],hW⟩
 refine Gz 31 ?_;exact⟨_,rfl,by rw[SU (fun h:iM x last=>by obtain⟨m1,m2,m3,m4,m5,m6⟩:=h;first|exact h8 m1|exact hlt m2|omega)],hW⟩
theorem GD{x:Ent}{last:By}(h:iM x last):x.1.length≤255:=(nW h).1
def chainB:By→List Ent→Bool
|_,[]=>true
|last,x::r=>decide (iM x last) && chainB x.1 r
theorem uI:∀ (L:List Ent) (last:By),chainB last L=true↔cI last L
|[],_=>by simp[chainB,cI]
|x::r,last=>by simp only[chainB,cI,Bool.and_eq_true,decide_eq_true_eq,uI r]
instance (last:By)(L:List Ent):Decidable (cI last L):=decidable_of_iff _ (uI L last)
theorem WrO.bound{cs:Int→Value→List Value}{T:TypeId}{D D':Nat→Prop}{H:Array Obj}{p:Nat}{E:Int}{xs:By}(h:WrO cs T D H p E xs)(hd:∀ k,D k→k<H.size→D' k):WrO cs T D' H p E xs:=by
 have hl:=h.lt;obtain⟨ao,c,hg,ho,h1,h2,h3⟩:=h;exact⟨ao,c,hg,ho,h1,hd _ h2 hl,fun k hk=>hd k (h3 k hk) (by obtain⟨a,ha,rfl⟩:=hk;exact ho.lt a ha)⟩
def gC(L:List Ent):By×Int:=if cI [] L then (bL L,0) else ([],1)
theorem xI:∀ {L:List Ent} {last:By} {i:Nat} {x:Ent},cI last L→L[i]?=some x→iM x (if i=0 then last else (L.getD (i-1) Cu).1)
|[],_,_,_,_,h=>by simp at h
|y::r,last,0,x,h,hx=>by simp at hx;subst hx;exact h.1
|y::r,last,i+1,x,h,hx=>by
   have:=xI (i:=i) h.2 (by simpa using hx);rw[SP (by omega)];by_cases hi:i=0
   ·subst hi;simpa using this
   · rw[SP hi] at this
     have e:(y::r).getD (i+1-1) Cu=r.getD (i-1) Cu:=by
      obtain⟨k,rfl⟩:∃ k,i=k+1:=⟨i-1,by omega⟩
      simp
     rw[e];exact this
theorem sD{L:List Ent}{i:Nat}{x:Ent}(hx:L[i]?=some x):L.take (i+1)=L.take i++[x]:=by
 obtain⟨h,rfl⟩:=SV.1 hx;exact Tg h
theorem Cd{L:List Ent}{i:Nat}(h0:0<i)(h:i≤L.length):tJ (L.take i)=(L.getD (i-1) Cu).1:=by
 obtain⟨k,rfl⟩:∃ k,i=k+1:=⟨i-1,by omega⟩
 have hk:k<L.length:=by omega
 rw[sD (SS hk),Ce];simp[S6,hk]
theorem tZ{L:List Ent}{last:By}(h:cI last L):(bL L).length≤261*L.length:=by
 induction L generalizing last with
|nil=>simp[bL]
|cons x r ih=>
   have h1:=ih h.2;have h2:=GD h.1;show (kQ x++bL r).length≤_;rw[SR,lC,Td];omega
theorem OW{x:Ent}(h:JA x):¬ eZ x.2.1 1:=eX (m:=255) (by decide) (by decide) h.2.1 (by have:=h.2.2.1;omega) (by decide)
theorem OV{x:Ent}(h:JA x):¬ eZ x.2.2 4:=eX (m:=4294967295) (by decide) (by decide) h.2.2.2.1 h.2.2.2.2 (by decide)
section
open Go Go.RowKit Go.Maps
theorem BE{ps qs:List (NdH×Nd)}(h:qs.Perm ps)(ht:¬ cM (nds ps)):¬ cM (nds qs):=by
 unfold cM at *;rw[TJ] at *;exact((h.map (·.2)).pairwise_iff (R:=fun a b:Nd=>a.names≠b.names) (fun h e=>h e.symm)).2 ht
theorem Kx{ps:List (NdH×Nd)}(ht:¬ cM (nds ps)){i j:Nat}{p q:NdH×Nd}(hij:i<j)(hp:(fQ ps)[i]?=some p)(hq:(fQ ps)[j]?=some q):cX p.2.names q.2.names=true:=by
 have e1:=SV.1 hp;have e2:=SV.1 hq;have h:=TA.1 (C5 ps) i j e1.1 e2.1 hij;rw[e1.2,e2.2] at h;rcases jM.1 h with e|h
 ·exact absurd ((fH (fQ ps)).2 ⟨i,j,p,q,hij,hp,hq,e.symm⟩) (BE (jF ps) ht)
 ·exact h
theorem CB{ps qs:List (NdH×Nd)}(hq:nds qs=nds (cQ ps)){i:Nat}{q:NdH×Nd}(h:qs[i]?=some q):∃ p,(fQ ps)[i]?=some p∧q.2=(dV (aP (fQ ps)) p).2:=by
 have h1:=dO h;rw[hq] at h1;simp only[nds,cQ,BZ,Ts,Tc] at h1;obtain⟨a,⟨p,hp,e⟩,e2⟩:=h1;exact⟨p,hp,by rw[←e2,←e]⟩
theorem JW{ps qs:List (NdH×Nd)}(hq:nds qs=nds (cQ ps)):qs.length=ps.length:=by
 have:=congrArg Tp hq;have h2:=(jF ps).length_eq;simp[nds,cQ,BZ] at this;omega
theorem Lr{ps qs:List (NdH×Nd)}(ht:¬ cM (nds ps))(hq:nds qs=nds (cQ ps)){i j:Nat}{p q:NdH×Nd}(hij:i<j)(hp:qs[i]?=some p)(h:qs[j]?=some q):cX p.2.names q.2.names=true:=by
 obtain⟨a,ha,e1⟩:=CB hq hp;obtain⟨b,hb,e2⟩:=CB hq h;have:=Kx ht hij ha hb;rw[e1,e2];exact this
theorem EK(a:List By):cX a []=false:=by cases a<;>rfl
theorem Ei{l:List Nd}(h:plc l=0):eY l []∧∀ n∈l,n.names≠[]→eY l n.names.dropLast:=by
 unfold plc at h;by_cases h0:1024<l.length
 ·rw[SQ h0] at h;cases h
 · rw[SP h0] at h
   by_cases h1:nmd l=0
   · rw[SP (fun g=>g h1)] at h
     by_cases h2:eY l []
     · rw[SP (fun g=>g h2)] at h
       by_cases h3:∃ n∈l,n.names≠[]∧¬ eY l n.names.dropLast
       ·rw[SQ h3] at h;cases h
       ·exact⟨h2,fun n hn hne=>S4 fun hd=>h3 ⟨n,hn,hne,hd⟩⟩
     ·rw[SQ h2] at h;cases h
   ·rw[SQ h1] at h;exact absurd h h1
def sL(ps:List (NdH×Nd))(i:Nat):Nat:=(bT (aP ((fQ ps).take i))).length
theorem JX{ps qs:List (NdH×Nd)}(hq:nds qs=nds (cQ ps)){i:Nat}{q:NdH×Nd}(h:qs[i]?=some q):1≤q.2.ino∧q.2.ino≤(sL ps i:Int)+1∧((sL ps (i+1):Nat):Int)=if (sL ps i:Int)<q.2.ino then q.2.ino else (sL ps i:Int):=by
 obtain⟨p,hp,e⟩:=CB hq h;have ei:q.2.ino=jJ (aP (fQ ps)) p.2.ino:=by rw[e];rfl
 rw[ei];refine⟨Gr _ _,?_⟩;unfold sL;rw[oE hp];by_cases hm:p.2.ino∈aP ((fQ ps).take i)
 · have h1:jJ (aP (fQ ps)) p.2.ino≤((bT (aP ((fQ ps).take i))).length:Int):=by
    obtain⟨r,hr⟩:=Af (aP ((fQ ps).take i)) (p.2.ino::aP ((fQ ps).drop (i+1)));rw[mY hp];unfold jJ;rw[hr,List.idxOf_append,SQ (gZ.2 hm)];have:=Vj.2 (gZ.2 hm);omega
   rw[nM hm];exact⟨by omega,by rw[SP (by omega)]⟩
 · have h1:jJ (aP (fQ ps)) p.2.ino=((bT (aP ((fQ ps).take i))).length:Nat)+1:=by rw[mY hp,Ay hm]
   rw[nN hm,h1];exact⟨by omega,by rw[SQ (by omega)];omega⟩
end
section
open Go Go.RowKit Go.Maps
theorem lS{l s:List By}:iN l s↔l≠[]∧l.dropLast=s:=by
 unfold iN;rw[drop_take];constructor
 · rintro⟨h1,h2⟩
   exact⟨fun e=>by rw[e] at h1;simp at h1,by rw[show l.length-1=s.length by omega];exact h2⟩
 · rintro⟨h1,h2⟩
   have h0:=S8.2 h1;have h3:s.length=l.length-1:=by rw[←h2,S2];omega
   exact⟨by omega,by rw[h3];exact h2⟩
section
variable {ps qs:List (NdH×Nd)}
theorem yH(qs:List (NdH×Nd)){i:Nat}(h:i<qs.length):∃ p,qs[i]?=some p∧nmG qs i=p.2.names:=⟨_,SS h,pG (SS h)⟩
end
end
def qJ(b:By):Prop:=∀ i,i<b.length→b.getD i 0=0
instance (b:By):Decidable (qJ b):=by unfold qJ;exact inferInstance
theorem Fw(o:Option Addr)(c:Nat)(b:By)(W:World)(hv:Vw b8 W.heap o c b) :
 CA 210 [.slice o b.length c,.int .u8 0] W fun v w'=>∃ o' n c',v=.slice o' n c'∧(n=0↔qJ b)∧w'=W:=by
 have hlen:=hv.SM;refine cS 21 [(0,_),(1,_)] Tryz.func210 ?_;refine Gz 7 ?_;refine Pb (β:=Nat×(Option Addr×Nat)) (fun⟨i,⟨oi,ci⟩⟩=>[(0,.slice oi (b.drop i).length ci),(1,.int .u8 0)]) (fun⟨i,⟨oi,ci⟩⟩ w=>i≤b.length∧(∀ j,j<i→b.getD j 0=0)∧Vw b8 W.heap oi ci (b.drop i)∧w=W) (fun⟨i,⟨oi,ci⟩⟩=>b.length-i) ⟨0,⟨o,c⟩⟩ ⟨rfl,rfl,trivial⟩ ⟨S3 _,by intro j hj;omega,hv,rfl⟩ ?_;rintro⟨i,⟨oi,ci⟩⟩ w2 ⟨hi,hz,hvi,hw2⟩;subst hw2;have hdl0:=Ta (i:=i) (l:=b);have hci:=hvi.le;refine fK 5 ?_ ?_<;>intro h7
 ·have hdl:0<(b.drop i).length:=by omega
  refine Gz 2 ?_;refine cW (O5 aN rfl rfl hvi.non (by omega)) ?_;refine cW (O8 uU rfl (hvi.gz 0 0 rfl (by omega))) ?_;refine fW 1 ?_ ?_<;>intro h13
  ·have h13:(((b.drop i).getD 0 0).toNat:Int)=0:=h13;have h0:b.getD i 0=0:=by rw[S6,Ut,UN] at h13;have h13:((b.getD i 0).toNat:Int)=0:=h13;exact Uv.1 (by show _=0;omega)
   refine Gz 9 ?_;refine cL (PM aN rfl rfl (by omega)) ?_;refine Gz 3 ?_;have hcd:=Bh (n:=1) hvi (by decide) (by omega);rw[show (1:Int).toNat=1 from rfl,UQ] at hcd;refine Po ⟨i+1,⟨_,_⟩⟩ ⟨?_,rfl,trivial⟩ ⟨by omega,?_,hcd,rfl⟩ (by show b.length-(i+1)<b.length-i;omega)
   · show some (Value.slice _ _ _)=some (Value.slice _ _ _)
     rw[show (1:Int).toNat=1 from rfl,Ta,Ta,Nat.sub_sub]
   · intro j hj
     by_cases hji:j=i
     ·rw[hji];exact h0
     ·exact hz j (by omega)
  have h13:¬ (((b.drop i).getD 0 0).toNat:Int)=0:=h13;have hne:b.getD i 0≠0:=fun e=>h13 (by rw[S6,Ut,UN];show ((b.getD i 0).toNat:Int)=0;rw[e];rfl);refine fK 14 ?_ ?_<;>intro h19
  ·refine Gz 11 ?_
   first
   |exact absurd h19 (by omega)
   |(have h0:b.length≤i:=by omega
     exact⟨_,rfl,none,0,0,rfl,⟨fun _=>fun j hj=>hz j (by omega),fun _=>rfl⟩,rfl⟩)
  refine Gz 13 ?_
  first
  |exact absurd h19 (by omega)
  |(have h0:i<b.length:=by omega
    exact⟨_,rfl,oi,(b.drop i).length,ci,rfl,⟨fun e=>absurd e (by omega),fun h=>absurd (h i h0) hne⟩,rfl⟩)
 refine fK 20 ?_ ?_<;>intro h19
 ·refine Gz 11 ?_
  first
  |exact absurd h19 (by omega)
  |(have h0:b.length≤i:=by omega
    exact⟨_,rfl,none,0,0,rfl,⟨fun _=>fun j hj=>hz j (by omega),fun _=>rfl⟩,rfl⟩)
 refine Gz 13 ?_
 first
 |exact absurd h19 (by omega)
 |(have h0:i<b.length:=by omega
   exact⟨_,rfl,oi,(b.drop i).length,ci,rfl,⟨fun e=>absurd e (by omega),fun h=>absurd (h i h0) hne⟩,rfl⟩)
theorem EN:qJ []:=fun i h=>absurd h (by simp)
theorem Fx(o:Option Addr)(c:Nat)(b:By)(W:World)(hv:Vw b8 W.heap o c b) :
 CA 168 [.slice o b.length c,.string (bs [0])] W fun v w'=>∃ o' n c',v=.slice o' n c'∧(n=0↔qJ b)∧w'=W:=by
 have hlen:=hv.SM;refine cS 36 [(0,_),(1,_)] Tryz.func168 ?_;refine fK 10 ?_ ?_<;>intro h9
 ·have h0:b=[]:=S7.1 (by omega);refine Gz 11 ?_;exact⟨_,rfl,none,0,0,rfl,⟨fun _=>by rw[h0];exact EN,fun _=>rfl⟩,rfl⟩
 refine Gz 9 ?_;refine cL (Qv (PU (a:=[0]) (b:=[]) rfl rfl) (by decide)) ?_;refine Gz 9 ?_;refine cL (PG ty9 rfl) ?_;refine cL (PQ (PK rfl rfl) (by decide)) ?_;refine Gz 2 ?_;refine cW (Q3 ty9 rfl rfl (by decide)) ?_;refine cW (PQ (P5 rfl rfl) (by decide)) ?_;refine Gz 8 ?_;refine cL (Q3 ty9 rfl rfl (by decide)) ?_;refine cA 0 Mf (Fw o c b W hv) ?_;rintro _ w1 ⟨o1,n1,c1,rfl,hn,hw1⟩;subst hw1;refine Gz 6 ?_;exact⟨_,rfl,_,_,_,rfl,hn,rfl⟩
theorem Jp(o:Option Addr)(c:Nat)(b:By)(W:World)(hv:Vw b8 W.heap o c b) :
 CA 119 [.slice o b.length c] W fun v w'=>v=.bool (decide (qJ b))∧w'=W:=by
 refine cS 7 [(0,_)] Tryz.func119 ?_;refine cA 8 My (Fx o c b W hv) ?_;rintro _ w1 ⟨o1,n1,c1,rfl,hn,hw1⟩;subst hw1;refine fK 1 ?_ ?_<;>intro h6
 ·refine Gz 5 ?_;refine⟨_,rfl,?_,rfl⟩;congr 1
  first
  |exact(SX (hn.1 (by omega))).symm
  |exact(SU (fun h=>h6 (by have:=hn.2 h;omega))).symm
 refine Gz 5 ?_;refine⟨_,rfl,?_,rfl⟩;congr 1
 first
 |exact(SX (hn.1 (by omega))).symm
 |exact(SU (fun h=>h6 (by have:=hn.2 h;omega))).symm
def zL(W:World)(xs:By):Value→World→Prop:=fun v w'=>∃ ao' cap',v=.slice ao' xs.length cap'∧Own b8 5 w'.heap ao' cap' xs∧Fr W.heap.size ao'∧aA nob W w'
theorem E3(cap:Nat)(xs:By)(W:World)(hv:Vw b8 W.heap none cap xs):CA 61 [.slice none xs.length cap] W (zL W xs):=by
 have hx:xs=[]:=Tk (by
  rcases Nat.eq_zero_or_pos xs.length with h|h
  ·exact h
  ·exact absurd rfl (hv.non (by omega)))
 subst hx;refine cS 8 [(0,_)] Tryz.func61 ?_;refine Gz 9 ?_;refine cL (Pz aN rfl rfl) ?_;refine Gz 11 ?_;exact⟨_,rfl,none,0,rfl,R8,R6,RY _ _⟩
theorem Cx(a:Addr)(cap:Nat)(xs:By)(W:World)(hv:Vw b8 W.heap (some a) cap xs)(hb:xs.length≤140737488355328):CA 61 [.slice (some a) xs.length cap] W (zL W xs):=by
 have hl:=hv.SM;refine cS 8 [(0,_)] Tryz.func61 ?_;refine Gz 9 ?_;refine cL (Pz aN rfl rfl) ?_;refine Gz 7 ?_;refine Qf b8 aN rfl ?_;intro w1 ho1 hs1 hf1;refine Gz 1 ?_;refine Pm cU aN rfl rfl ho1 (hv.SN hf1) (by simp only[Tr];omega) (by simp only[Tr];unfold maxLen;omega) rfl ?_;intro ao2 c2 w2 ho2 hf2 hr2 hn2;refine Gz 5 ?_;have hfr:Fr W.heap.size (some (⟨W.heap.size,0,none⟩:Addr)):=fun a ha=>by cases ha;exact SY _
 refine⟨_,rfl,ao2,c2,rfl,ho2,fun a ha=>?_,hf1.SJ hf2 hfr.step⟩;rcases hr2 a ha with h|h
 ·exact hfr a h
 ·have:=hf1.size;omega
theorem Bp(ao:Option Addr)(cap:Nat)(xs:By)(W:World)(hv:Vw b8 W.heap ao cap xs)(hb:xs.length≤140737488355328):CA 61 [.slice ao xs.length cap] W (zL W xs):=by
 cases ao with
|none=>exact E3 cap xs W hv
|some a=>exact Cx a cap xs W hv hb
def KpB(sb nb:Nat)(W W':World):Prop:=W'.heap[sb]?=W.heap[sb]?∧W'.heap[nb]?=W.heap[nb]?
theorem KpB.trans{sb nb:Nat}{A B C:World}(h:KpB sb nb A B)(k:KpB sb nb B C):KpB sb nb A C:=⟨k.1.trans h.1,k.2.trans h.2⟩
def ckN(len k:Nat):Nat:=(len+k-1)/k
def ckE(len k i:Nat):Nat:=min k (len-i*k)
def ckV(o:Option Addr)(len k i:Nat):Value:=.slice (aY o (i*k+ckE len k i) (i*k) 1) (ckE len k i) (ckE len k i)
theorem Kn{len k i:Nat}(hk:1≤k):i<ckN len k↔i*k<len:=by
 unfold ckN;rw[Nat.lt_div_iff_mul_lt (by omega)];omega
theorem JT(i k:Nat):(i+1)*k=i*k+k:=Nat.succ_mul i k
def ckA(sb nb:Nat):List Value:=[pT sb,pT nb]
theorem HM(sb nb:Nat)(o:Option Addr)(c len k:Nat)(w0:World)(hs:w0.heap[sb]?=some (.cells [Value.slice o len c].toArray 25 (0,0)))(hn:w0.heap[nb]?=some (.cells [Value.int .i64 k].toArray 3 (0,0)))
 (hk:1≤k)(hk2:k≤1099511627776)(hl:len≤c)(hlb:len≤1099511627776) :
 SeqStopsK Fence.wide 3 Tryz.prog 167 (ckA sb nb).toArray (fun i:Fin (ckN len k)=>#[ckV o len k i.1]) (KpB sb nb) (fun xs=>xs.map (·.1)=TM (ckN len k)) (fun _=>True) (ckN len k) w0:=by
 intro l J Jx W hW hJ hJx hY h0;refine callsIn_wide.2 ?_;have hs1:W.heap[sb]?=some (.cells [Value.slice o len c].toArray 25 (0,0)):=(hW.block sb (SZ.1 hs).1).trans hs;have hn1:W.heap[nb]?=some (.cells [Value.int .i64 k].toArray 3 (0,0)):=(hW.block nb (SZ.1 hn).1).trans hn;have ea:(#[Value.func (.yield l) #[] #[]]++(ckA sb nb).toArray)=[.func (.yield l) #[] #[],pT sb,pT nb].toArray:=by simp[ckA]
 rw[ea];refine cS 31 [(0,_),(1,_),(2,_)] Tryz.func167 ?_;refine Gz 6 ?_;refine Pb (β:=Nat) (fun i=>[(0,.func (.yield l) #[] #[]),(1,pT sb),(2,pT nb),(4,iV (i*k:Nat))]) (fun i w=>i≤ckN len k∧(∃ xs:List (Fin (ckN len k)),xs.map (·.1)=TM i∧J xs w)∧w.heap[sb]?=some (.cells [Value.slice o len c].toArray 25 (0,0))∧w.heap[nb]?=some (.cells [Value.int .i64 k].toArray 3 (0,0))) (fun i=>ckN len k-i) 0 ⟨rfl,rfl,rfl,(by rw[Nat.zero_mul];rfl),trivial⟩ ⟨S3 _,⟨[],rfl,h0⟩,hs1,hn1⟩ ?_;rintro i w ⟨hi,⟨xs,hx,hJw⟩,hs2,hn2⟩;have hxl:i=xs.length:=by have:=congrArg Tp hx;simpa using this.symm
 refine Gz 4 ?_;refine cL (O8 aO rfl (bB hs2 rfl)) ?_;refine fK 1 ?_ ?_<;>intro h9
 ·have hilt:i<ckN len k:=(Kn hk).2 (by omega);have hik:i*k<len:=by omega
  obtain⟨e,he⟩:∃ e,e=ckE len k i:=⟨_,rfl⟩
  have he2:e=min k (len-i*k):=he;have hcv:ckV o len k i=.slice (aY o (i*k+e) (i*k) 1) e e:=by unfold ckV;rw[←he]
  refine Gz 8 ?_;refine PS 7 [0,1,2,3,4,5,6] aJ (by kernel_rfl) ?_;refine xC rfl (O8 aK rfl (bB hn2 rfl)) ?_;refine xC rfl (O8 aO rfl (bB hs2 rfl)) ?_;refine Gz 1 ?_;refine xC rfl (PM aN rfl rfl (by omega)) ?_;refine Gz 1 ?_;refine xC rfl (O7 (u:=iV (e:Int)) (QD rfl rfl) (by rw[he2];congr 1;omega)) ?_;refine Gz 4 ?_;refine QZ 3 ?_;refine Si.calm (Pc rfl) rfl ?_;refine Si.calm (O8 aO rfl (bB hs2 rfl)) rfl ?_;refine Si.calm (Pc rfl) rfl ?_;refine Si.calm (Pc rfl) rfl ?_;refine Si.calm (Pc rfl) rfl ?_;refine Si.calm (PR rfl rfl (by omega)) rfl ?_;refine Si.calm (Pc rfl) rfl ?_;refine Si.calm (Pc rfl) rfl ?_;refine Si.calm (PR rfl rfl (by omega)) rfl ?_;refine Si.calm (O7 (u:=ckV o len k i) (P8 aN rfl rfl rfl rfl (by omega) (by omega) (by omega)) (by rw[hcv,show ((i*k:Nat):Int).toNat=i*k from rfl,show (((i*k:Nat):Int)+(e:Int)).toNat=i*k+e by omega,Vm])) rfl ?_;refine Si.yield rfl rfl (hY xs ⟨i,hilt⟩ (w.drewN 1) (hJ _ _ _ none hJw ⟨rfl,rfl,rfl,SY _,fun _ _ _=>rfl⟩ (fun r e=>by cases e)) (by rw[←hxl];exact hilt)) rfl ?_ ?_
  ·rintro W' ⟨hJ',hK'⟩;refine Si.calm (Pp rfl) rfl ?_;refine Sk ?_;refine Gz 7 ?_;refine cL (O8 aK rfl (bB (hK'.2.trans hn2) rfl)) ?_;refine Gz 3 ?_;refine Po (i+1) ⟨rfl,rfl,rfl,?_,trivial⟩ ⟨by omega,⟨xs++[⟨i,hilt⟩],by rw[List.map_append,hx,UH];rfl,hJ'⟩,hK'.1.trans hs2,hK'.2.trans hn2⟩ (by show ckN len k-(i+1)<ckN len k-i;omega);rw[JT];rfl
  rintro W' hJ';refine Si.calm (Pp rfl) rfl ?_;refine Sk ?_;refine Gz 8 ?_;exact⟨⟨_,rfl⟩,.inr ⟨_,trivial,hJ'⟩⟩
 have h9n:¬ i<ckN len k:=fun q=>(show ¬ i*k<len by omega) ((Kn (len:=len) (i:=i) hk).1 q)
 have hie:i=ckN len k:=by omega
 refine Gz 7 ?_;refine Pw rfl ?_;exact⟨⟨_,rfl⟩,.inl ⟨xs,by show xs.map (·.1)=_;rw[hx,hie],hJw⟩⟩
theorem HL(o:Option Addr)(c len k:Nat)(W:World)(hk:1≤k) :
 CA 118 [.slice o len c,iV k] W fun v w'=>v=.func (.func 167) #[] (ckA W.heap.size (W.heap.size+1)).toArray∧w'.heap[W.heap.size]?=some (.cells [Value.slice o len c].toArray 25 (0,0))∧w'.heap[W.heap.size+1]?=some (.cells [Value.int .i64 k].toArray 3 (0,0))∧W.heap.size+2≤w'.heap.size∧aA nob W w':=by
 refine cS 9 [(0,_),(1,_)] Tryz.func118 ?_;refine Gz 2 ?_;refine Px rfl rfl ?_;intro w1 hg1 hs1 hf1;refine Px rfl rfl ?_;intro w2 hg2 hs2 hf2;have hg1b:=hf2.obj hg1 id;rw[hs1] at hg2 ⊢;refine Gz 6 ?_;refine cL (O8 aK rfl (bB (cs:=[Value.int .i64 k]) hg2 rfl)) ?_;refine cL (Qv (P5 rfl rfl) (by omega)) ?_;refine Gz 7 ?_;refine cL (by refine P4 (cs:=[.tmp 2,.tmp 3]) (vs:=ckA W.heap.size (W.heap.size+1)) ?_;rfl) ?_;refine Gz 5 ?_;exact⟨_,rfl,rfl,hg1b,hg2,by omega,hf1.trans hf2⟩
def chB(b:By)(i:Nat):By:=(b.drop (i*128)).take 128
def hX(x:By):By:=if qJ x then [] else x
def frB(x:By):By:=(cR (hX x)).1
def uV(b:By)(n:Nat):By:=((TM n).map fun i=>frB (chB b i)).flatten
def bY(b:By):By:=uV b (b.length/128)
def cV(b:By):By:=b.drop (b.length/128*128)
theorem zC(b:By)(i:Nat):(chB b i).length≤128:=by unfold chB;rw[S2];omega
theorem HQ{b:By}{i:Nat}(h:i<b.length/128):(chB b i).length=128:=by unfold chB;rw[S2,Ta];omega
theorem La(x:By):(hX x).length≤x.length:=by unfold hX;split<;>simp
theorem yT{x:By}(h:x.length≤128):(frB x).length≤135∧3≤(frB x).length:=by
 have h1:=La x;have h2:=fR (b:=hX x) (by omega);unfold frB;omega
theorem Ec(b:By)(n:Nat):uV b (n+1)=uV b n++frB (chB b n):=by unfold uV;rw[UH];simp
theorem jI(b:By):∀ n,(uV b n).length≤135*n∧3*n≤(uV b n).length
|0=>by simp[uV]
|n+1=>by
   have h:=jI b n;have h2:=yT (zC b n);rw[Ec,SR];omega
theorem mpS:pX Tryz.prog 60 9 3 (iV 0):=⟨by kernel_rfl,z3⟩
def vM(m:List (SK×Nat)):List (SK×Value):=m.map fun p=>(p.1,nV p.2)
def fD:List (SK×Nat)→SK→Option Nat
|[],_=>none
|p::r,a=>if p.1=a then some p.2 else fD r a
theorem oH(a:SK):∀ m:List (SK×Nat),bP (vM m) a=(fD m a).map nV
|[]=>rfl
|p::r=>by
   unfold fD;show (if p.1=a then some (nV p.2) else bP (vM r) a)=_
   split
   ·rfl
   ·exact oH a r
theorem Iz{m:List (SK×Nat)}{a:SK}{v:Nat}(h:fD m a=none):bW (vM m) a (nV v)=vM (m++[(a,v)]):=by
 rw[fI _ (by rw[oH,h];rfl)];simp[vM]
theorem Cp{m:List (SK×Nat)}{a b:SK}{v:Nat}:fD (m++[(a,v)]) b=match fD m b with|some k=>some k|none=>if a=b then some v else none:=by
 induction m with
|nil=>simp[fD]
|cons p r ih=>
   simp only[T1,fD]
   split
   ·rfl
   ·exact ih
structure DS where
 B:By
 m:List (SK×Nat)
def Fc(first:Nat)(s:DS)(r:By):DS×Nat:=match fD s.m (iY r) with
|some k=>(s,k)
|none=>(⟨s.B++r,s.m++[(iY r,first+s.B.length)]⟩,first+s.B.length)
def fA(first:Nat)(s:DS)(b:By):DS×Nat:=if bY b=[] then (s,0) else Fc first s (bY b)
theorem Fe{first:Nat}{s:DS}{b:By}(h:(bY b).length=0):fA first s b=(s,0):=by unfold fA;rw[SQ (S7.1 h)]
theorem BA{first:Nat}{s:DS}{b:By}{k:Nat}(h:(bY b).length≠0)(hk:fD s.m (iY (bY b))=some k):fA first s b=(s,k):=by
 unfold fA Fc;rw[SP (fun e=>h (by rw[e];rfl)),hk]
theorem BB{first:Nat}{s:DS}{b:By}(h:(bY b).length≠0)(hk:fD s.m (iY (bY b))=none):fA first s b=(⟨s.B++bY b,s.m++[(iY (bY b),first+s.B.length)]⟩,first+s.B.length):=by
 unfold fA Fc;rw[SP (fun e=>h (by rw[e];rfl)),hk]
def dwC(p first:Nat)(bo:Option Addr)(bn bc mg:Nat):List Value:=[pT p,iV first,.slice bo bn bc,.map (some mg)]
def DwO(D:Nat→Prop)(H:Array Obj)(g p first:Nat)(s:DS):Prop:=
 ∃ bo bc mg,H[g]?=some (.cells (dwC p first bo s.B.length bc mg).toArray 132 (0,0))∧Own b8 5 H bo bc s.B∧cG enS H mg (vM s.m)∧¬ blk bo g∧mg≠g∧¬ blk bo mg∧D g∧(∀ k,blk bo k→D k)∧D mg∧TbV H p∧¬ D p
section
variable {D:Nat→Prop}{g p first:Nat}{s:DS}
theorem DwO.lt{H:Array Obj}(h:DwO D H g p first s):g<H.size:=by obtain⟨bo,bc,mg,hg,_⟩:=h;exact(SZ.1 hg).1
theorem DwO.tab{H:Array Obj}(h:DwO D H g p first s):TbV H p∧¬ D p:=by obtain⟨bo,bc,mg,hg,h1,h2,h3,h4,h5,h6,h7,h8,h9,h10⟩:=h;exact⟨h9,h10⟩
theorem DwO.SO{S:Nat→Prop}{w w':World}(h:DwO D w.heap g p first s)(hf:aA S w w')(hs:∀ k,D k→¬ S k)(hp:¬ S p):DwO D w'.heap g p first s:=by
 obtain⟨bo,bc,mg,hg,h1,h2,h3,h4,h5,h6,h7,h8,h9,h10⟩:=h;exact⟨bo,bc,mg,hf.obj hg (hs g h6),h1.SO hf (fun a ha=>hs _ (h7 _ ⟨a,ha,rfl⟩)),h2.SO hf (hs _ h8),h3,h4,h5,h6,h7,h8,hf.obj h9 hp,h10⟩
theorem DwO.SN{w w':World}(h:DwO D w.heap g p first s)(hf:aA nob w w'):DwO D w'.heap g p first s:=h.SO hf (fun _ _=>id) id
theorem DwO.mono{D':Nat→Prop}{H:Array Obj}(h:DwO D H g p first s)(hd:∀ k,D k→D' k)(hp:¬ D' p):DwO D' H g p first s:=by
 obtain⟨bo,bc,mg,hg,h1,h2,h3,h4,h5,h6,h7,h8,h9,h10⟩:=h;exact⟨bo,bc,mg,hg,h1,h2,h3,h4,h5,hd _ h6,fun k hk=>hd _ (h7 k hk),hd _ h8,h9,hp⟩
theorem DwO.fresh{B:Nat→Prop}{w w':World}(h:DwO D w.heap g p first s)(hf:aA nob w w')(hB:∀ k,k<w.heap.size→D k→B k)(hp:¬ B p):DwO B w'.heap g p first s:=by
 have hl:=h.lt;obtain⟨bo,bc,mg,hg,h1,h2,h3,h4,h5,h6,h7,h8,h9,h10⟩:=h;exact⟨bo,bc,mg,hf.obj hg id,h1.SN hf,h2.SO hf id,h3,h4,h5,hB _ hl h6,fun k ⟨a,ha,hb⟩=>hB _ (by have:=h1.lt a ha;omega) (h7 k ⟨a,ha,hb⟩),hB _ h2.obj h8,hf.obj h9 id,hp⟩
theorem Nm{W w1 w2:World}{bo bo':Option Addr}{bc' mg:Nat}{mq:List (SK×Nat)}{Bq:By}(hD:∀ k,W.heap.size≤k→D k)
 (hm:cG enS W.heap mg (vM mq))(h3:¬ blk bo g)(h4:mg≠g)(h5:¬ blk bo mg)(h6:D g)(h7:∀ k,blk bo k→D k)(h8:D mg)(h9:TbV W.heap p)(h10:¬ D p)(hgl:g<W.heap.size)
 (ho:Own b8 5 w1.heap bo' bc' Bq)(hf1:aA (blk bo) W w1)(hr:∀ a,bo'=some a→bo=some a∨W.heap.size≤a.block)
 (hg2:w2.heap[g]?=some (.cells (dwC p first bo' Bq.length bc' mg).toArray 132 (0,0)))(hf2:aA (· = g) w1 w2) :
 DwO D w2.heap g p first ⟨Bq,mq⟩∧aA D W w2:=by
 have hpl:=(SZ.1 h9).1;have hD1:aA D W w1:=hf1.mono h7;have hD2:aA D W w2:=hD1.trans (hf2.mono (fun k h=>by have h:k=g:=h;subst h;exact h6));have hml:=hm.obj;have hn:∀ k,k<W.heap.size→¬ blk bo k→¬ blk bo' k:=fun k hk hb ⟨a,ha,e⟩=>by
  rcases hr a ha with h|h
  ·exact hb ⟨a,h,e⟩
  ·omega
 refine⟨⟨bo',bc',mg,hg2,ho.SO hf2 (fun a ha h=>hn g hgl h3 ⟨a,ha,h⟩),(hm.SO hf1 h5).SO hf2 h4,hn g hgl h3,h4,hn mg hml h5,h6,fun k ⟨a,ha,hb⟩=>?_,h8,hD2.obj h9 h10,h10⟩,hD2⟩;rcases hr a ha with h|h
 ·exact h7 k ⟨a,h,hb⟩
 ·exact hD k (by omega)
end
theorem JK(p first:Nat)(W:World)(ht:TbV W.heap p) :
 CA 21 [pT p,iV first] W fun v w'=>v=.pointer (some ⟨W.heap.size+1,0,none⟩)∧DwO (fun k=>W.heap.size≤k) w'.heap (W.heap.size+1) p first ⟨[],[]⟩∧aA nob W w':=by
 have hpl:=(SZ.1 ht).1;refine cS 10 [(0,_),(1,_)] Tryz.func21 ?_;refine Gz 9 ?_;refine PF (enc:=enS) rfl ?_;intro w1 hm1 hs1 hf1;refine cL (P6 (cs:=#[pT p,iV first,sN,.map (some W.heap.size)]) KF LB rfl (by kernel_rfl)) ?_;refine Px rfl rfl ?_;intro w2 hg2 hs2 hf2;rw[hs1] at hg2 ⊢;refine Gz 5 ?_;exact⟨_,rfl,rfl,⟨none,0,W.heap.size,hg2,R8,hm1.SO hf2 id,(fun⟨a,ha,_⟩=>by cases ha),(by omega),(fun⟨a,ha,_⟩=>by cases ha),(by omega),(fun k ⟨a,ha,_⟩=>by cases ha),SY _,(hf1.trans hf2).obj ht id,(by omega)⟩,hf1.trans hf2⟩
theorem HF(D:Nat→Prop)(g p first:Nat)(s:DS)(W:World)(hM:DwO D W.heap g p first s)(hb:s.B.length≤1099511627776) :
 CA 28 [pT g] W (zL W s.B):=by
 obtain⟨bo,bc,mg,hg,h1,h2,h3,h4,h5,h6,h7,h8,h9,h10⟩:=hM;refine cS 8 [(0,_)] Tryz.func28 ?_;refine Gz 11 ?_;refine O6 Cl rfl (Bp bo bc s.B W h1.vw (by omega)) rfl ?_;intro _ w1 hP1;refine Gz 5 ?_;exact⟨_,rfl,hP1⟩
def kO(first:Nat)(s:DS)(b:By):DS×Nat:=(⟨s.B++(cR b).1,s.m⟩,first+s.B.length)
theorem EZ(D:Nat→Prop)(g p first:Nat)(s:DS)(bo0:Option Addr)(bc0:Nat)(b:By)(W:World)(hM:DwO D W.heap g p first s)(hD:∀ k,W.heap.size≤k→D k)(hv:Vw b8 W.heap bo0 bc0 b)(hfi:first≤1000)(hb:s.B.length≤1099511627776)(hbl:b.length≤128) :
 CA 69 [pT g,.slice bo0 b.length bc0] W fun v w'=>v=iV ((kO first s b).2:Nat)∧DwO D w'.heap g p first (kO first s b).1∧aA D W w':=by
 obtain⟨bo,bc,mg,hg,h1,h2,h3,h4,h5,h6,h7,h8,h9,h10⟩:=hM;have hgl:=(SZ.1 hg).1;have hps:=fR hbl;refine cS 37 [(0,_),(1,_)] Tryz.func69 ?_;refine cA 12 Jt (rM p bo0 bc0 b W h9 hv) ?_;rintro _ w1 ⟨o1,c1,rfl,ho1,hfr1,hf1⟩;have hg1:=hf1.obj hg id;refine Gz 8 ?_;refine Pk 11 (fun H=>H[g]?=some (.cells (dwC p first bo s.B.length bc mg).toArray 132 (0,0))) [] [0,1,2,3,4,5,6,7,8,9,10] aJ (by kernel_rfl) (hg1) ?_;refine Gz 21 ?_;refine Pm cU aN rfl rfl (h1.SN (hf1.draws 1)) ho1.vw (by omega) (by unfold maxLen;omega) rfl ?_;intro o2 c2 w2 ho2 hf2 hr2 hn2;have hf2:=hf2.SL;have hg2:=hf2.obj hg1 h3;refine Gz 2 ?_;refine Pg aO rfl rfl rfl hg2 rfl ?_;intro w3 hg3 hs3 hf3;obtain⟨hM3,hF3⟩:=Nm (W:=w1) (mq:=s.m) (first:=first) (Bq:=s.B++(cR b).1) (lA hf1 hD) (h2.SO hf1 id) h3 h4 h5 h6 h7 h8 (hf1.obj h9 id) h10 (by have:=hf1.size;omega) ho2 hf2 hr2 hg3 hf3;refine Gz 10 ?_;exact⟨_,rfl,rfl,hM3,hf1.any.trans hF3⟩
def kJ{M:Nat}(b:By)(pre:List (Fin M)):By:=(pre.map fun i=>frB (chB b i.1)).flatten
theorem tA{M:Nat}(b:By)(pre:List (Fin M))(x:Fin M):kJ b (pre++[x])=kJ b pre++frB (chB b x.1):=by simp[kJ]
theorem Ek{M:Nat}(b:By)(xs:List (Fin M))(h:xs.map (·.1)=TM M):kJ b xs=uV b M:=by
 unfold kJ uV;rw[←h,T3];rfl
theorem Ej{M:Nat}(b:By):∀ pre:List (Fin M),(kJ b pre).length≤135*pre.length:=fun pre=>by
 induction pre with
|nil=>simp[kJ]
|cons x r ih=>
   have h2:=(yT (zC b x.1)).1;have e:kJ b (x::r)=frB (chB b x.1)++kJ b r:=by simp[kJ]
   rw[e,SR,Td];omega
theorem Iy{r:By}(h:r.length≤maxLen):iY r=⟨r,h⟩:=by unfold iY;rw[dif_pos h]
theorem JM(D:Nat→Prop)(g p first:Nat)(s:DS)(bo0:Option Addr)(bc0:Nat)(b:By)(W:World)(hM:DwO D W.heap g p first s)(hD:∀ k,W.heap.size≤k→D k)(hv:Vw b8 W.heap bo0 bc0 b)(hfi:first≤1000)(hb:s.B.length≤1099511627776)(hbl:b.length≤1048576) :
 CA 66 [pT g,.slice bo0 b.length bc0] W fun v w'=>∃ o c,v=.tuple #[iV ((fA first s b).2:Nat),.slice o (cV b).length c]∧Own b8 5 w'.heap o c (cV b)∧Fr W.heap.size o∧DwO (fun k=>D k∧¬ blk o k) w'.heap g p first (fA first s b).1∧aA D W w':=by
 have hM0:=hM;obtain⟨bo,bc,mg,hg,h1,h2,h3,h4,h5,h6,h7,h8,h9,h10⟩:=hM;have hgl:=(SZ.1 hg).1;have hpl:=(SZ.1 h9).1;have hlb:=hv.le;obtain⟨M,hMd⟩:∃ M,M=b.length/128:=⟨_,rfl⟩
 obtain⟨n,hn⟩:∃ n,n=M*128:=⟨_,rfl⟩
 have hnb:n≤b.length:=by omega
 have hrun:=jI b M;have hrd:bY b=uV b M:=by rw[hMd];rfl
 have hck:ckN n 128=M:=by unfold ckN;omega
 refine zD 83 [(0,_),(1,_)] Tryz.func66 rfl rfl rfl (qN ⟨rfl,rfl,trivial⟩) ?_;refine Gz 2 ?_;refine Px rfl rfl ?_;intro w1 hg1 hs1 hf1;have hg1:w1.heap[W.heap.size]?=some (.cells [pT g].toArray 63 (0,0)):=hg1;refine Gz 6 ?_;refine O9 Lz rfl ?_;intro w2 hg2 hs2 hf2;rw[hs1] at hg2 ⊢;have hg2:w2.heap[W.heap.size+1]?=some (.cells [Value.slice none ([]:By).length 0].toArray 25 (0,0)):=hg2;obtain⟨bx,hbx⟩:∃ bx,bx=W.heap.size+1:=⟨_,rfl⟩
 rw[←hbx] at hg2 ⊢;have hg12:=hf2.obj hg1 id;have hF2:=hf1.trans hf2;refine Gz 6 ?_;refine cL (O7 (u:=iV (M:Int)) (Rk rfl rfl (by omega) (by decide)) (by congr 1;omega)) ?_;refine cL (O7 (u:=iV (n:Int)) (PT rfl rfl (by omega)) (by congr 1;omega)) ?_;refine Gz 8 ?_;refine cL (O7 (u:=.slice bo0 n bc0) (Pr aN rfl rfl (by omega)) (by rw[aS];rfl)) ?_;refine O6 MN rfl (HL bo0 bc0 n 128 w2 (by decide)) rfl ?_;rintro _ w4 ⟨rfl,hsb4,hnb4,hz4,hf4⟩;have hF4:=hF2.trans hf4;have hg4:=hf4.obj hg2 id;have hb4:=hf4.obj hg12 id;have hG4:=hF4.obj hg id;refine Gz 3 ?_;refine Rt (α:=Fin (ckN n 128)) (f:=19) (p:=20) (q:=8) (gf:=167) (lb:=(ckA w2.heap.size (w2.heap.size+1)).toArray) (enc:=fun i=>ckV bo0 n 128 i.1) (M:=ckN n 128) rfl Mz (HM w2.heap.size (w2.heap.size+1) bo0 bc0 n 128 w4 hsb4 hnb4 (by decide) (by decide) (by omega) (by omega)) KpB.trans (fun W1 l1 _ _ hl1 _ _ _=>⟨World.putObj_heap_other (by omega),World.putObj_heap_other (by omega)⟩) (Below.refl _ _) rfl rfl (BbI 5 25 bx w4 (kJ b)) BbI.own ⟨none,0,hg4,R8,R6,RY _ _⟩ ?_ ?_
 ·rintro lp pre x w ⟨oo,oc,hbw,hoo,hfro,hFw⟩ hlt;have hxn:x.1<M:=by have:=x.2;omega
  have hpl2:=Ej b pre;have hpl3:pre.length<M:=by omega
  have hfl:=(yT (zC b x.1)).1;have hvw:=((hv.SN hF4).keep' hFw (fun hne a ha e=>by have e:a.block=bx:=e;have:=zQ hv (show 0<b.length by have:=S8.2 hne;omega) a.block ⟨a,ha,rfl⟩;omega))
  have hGw:=hFw.obj hG4 (by omega);have hbw2:=hFw.obj hb4 (by omega);have hTw:TbV w.heap p:=hFw.obj (hF4.obj h9 id) (by omega);have hx1:ckE n 128 x.1=128:=by unfold ckE;omega
  obtain⟨co,hco⟩:∃ co,co=aY bo0 (x.1*128+128) (x.1*128) 1:=⟨_,rfl⟩
  have hcl:(chB b x.1).length=128:=HQ (by omega);have hcv:=hvw.cut (l:=x.1*128) (h:=x.1*128+128) (m:=x.1*128+128) (by omega) (by omega) (by omega) (by omega);rw[←hco,Vm] at hcv;have hcv:Vw b8 w.heap co 128 (chB b x.1):=hcv;have hckv:ckV bo0 n 128 x.1=.slice co (chB b x.1).length 128:=by unfold ckV;rw[hx1,←hco,hcl]
  rw[hckv];obtain⟨wr,hwr⟩:∃ wr,wr=w:=⟨_,rfl⟩
  refine Rc.block ?_;refine Rc.cut (β:=Option Addr×Nat) (fun⟨xo,xc⟩=>[(2,pT W.heap.size),(6,pT bx),(8,.slice xo (hX (chB b x.1)).length xc)]) (fun⟨xo,xc⟩ w=>Vw b8 w.heap xo xc (hX (chB b x.1))∧w=wr) ?_ ?_
  ·refine Rc.seq ?_;refine Rc.region (by repeat first|exact dQ.post|with_reducible apply Sg|with_reducible apply dQ.block) rfl ?_;refine cA 1 MM (Jp co 128 (chB b x.1) w hcv) ?_;rintro _ wq ⟨rfl,hwq⟩;subst wq;by_cases h22:qJ (chB b x.1)
   ·rw[SX h22];have ex:hX (chB b x.1)=[]:=by unfold hX;rw[SQ h22]
    refine Gz 1 ?_;refine QY ?_;refine Sh rfl ?_;refine Rc.region (by repeat first|exact dQ.post|with_reducible apply Sg|with_reducible apply dQ.block) rfl ?_;refine Gz 2 ?_;exact PJ ⟨none,0⟩ ⟨rfl,rfl,(by show some (Value.slice none 0 0)=_;rw[ex];rfl),trivial⟩ ⟨by rw[ex];exact R7 0 (S3 _),hwr.symm⟩
   rw[SU h22];have ex:hX (chB b x.1)=chB b x.1:=by unfold hX;rw[SP h22]
   refine Gz 1 ?_;refine QY ?_;refine Sj rfl ?_;refine Rc.skip ?_;exact PJ ⟨co,128⟩ ⟨rfl,rfl,(by rw[ex];rfl),trivial⟩ ⟨by rw[ex];exact hcv,hwr.symm⟩
  rintro⟨xo,xc⟩ wq ⟨hxv,hwq⟩;obtain rfl:w=wq:=(hwq.trans hwr).symm;refine Rc.seq ?_;refine Rc.region (by repeat first|exact dQ.post|with_reducible apply Sg|with_reducible apply dQ.block) rfl ?_;refine cL (O8 qC rfl (bB hbw2 rfl)) ?_;refine cA 4 Jt (rM p xo xc (hX (chB b x.1)) w hTw hxv) ?_;rintro _ v1 ⟨o1,c1,rfl,ho1,hfr1,hvf1⟩;have ho1:Own b8 5 v1.heap o1 c1 (frB (chB b x.1)):=ho1;have hbw1:=hvf1.obj hbw id;refine Gz 6 ?_;refine QY ?_;refine Rc.region (by repeat first|exact dQ.post|with_reducible apply Sg|with_reducible apply dQ.block) rfl ?_;refine cL (O8 aO rfl (bB hbw1 rfl)) ?_;refine Gz 1 ?_;refine Pm cU aN rfl rfl (hoo.SN hvf1) ho1.vw (by rw[show (cR (hX (chB b x.1))).1=frB (chB b x.1) from rfl];omega) (by rw[show (cR (hX (chB b x.1))).1=frB (chB b x.1) from rfl];unfold maxLen;omega) rfl ?_;intro o7 c7 v2 ho7 hvf2 hr7 hn7;have hnb2:∀ k,k<w4.heap.size→¬ blk oo k:=fun k hk ⟨a,ha,e⟩=>by have:=hfro a ha;omega
  have hbw3:=hvf2.obj hbw1 (hnb2 bx (by omega));refine Pg aO rfl rfl rfl hbw3 rfl ?_;intro v3 hg3b hs3b hvf3;have hFv:aA (fun k=>k=bx∨blk oo k) w v3:=(hvf1.any.SJ hvf2 (fun k hk=>.inl (.inr hk))).SJ hvf3 (fun k hk=>.inl (.inl hk));have ho73:=ho7.SO hvf3 (fun a ha e=>by rcases hr7 a ha with h|h;have:=hfro a h;have e:a.block=bx:=e;omega;have e:a.block=bx:=e;have:=hvf1.size;have:=hFw.size;omega);refine Gz 2 ?_;refine QQ ⟨GR hFv (fun k hk _=>?_),⟨hFv.same _ (by have:=hFw.size;omega) ?_,hFv.same _ (by have:=hFw.size;omega) ?_⟩,⟨o7,c7,?_,?_,lV hfro hr7 (by have:=hFw.size;have:=hvf1.size;omega),(hFw.SJ hFv (fun k hk=>hk.imp id (fun⟨a,ha,e⟩=>by have:=hfro a ha;omega)))⟩⟩
  · rcases hk with rfl|⟨a,ha,rfl⟩
    ·exact⟨_,_,_,hbw⟩
    ·obtain⟨cur,h⟩:=hoo.cells ha;exact⟨_,_,_,h⟩
  · rintro(h|⟨a,ha,e⟩)
    ·omega
    ·have:=hfro a ha;omega
  · rintro(h|⟨a,ha,e⟩)
    ·omega
    ·have:=hfro a ha;omega
  ·rw[tA];exact hg3b
  ·rw[tA];exact ho73
 intro Dm xs w5 hDm hS ⟨oo,oc,hb5,ho5,hfro,hF5⟩ hK;have hS:xs.map (·.1)=TM (ckN n 128):=hS;have hall:kJ b xs=bY b:=by rw[Ek b xs hS,hck,hrd]
 rw[hall] at hb5 ho5;have hFW5:aA nob W w5:=hF4.SJ hF5 (fun k e=>.inr (by have e:k=bx:=e;omega));have htl:(cV b).length=b.length-n:=by unfold cV;rw[Ta,←hMd,←hn]
 have hrb:=jI b M;rw[←hrd] at hrb;have hvt:Vw b8 w5.heap (aY bo0 bc0 n 1) (bc0-n) (cV b):=by
  have h:=(hv.SN hFW5).cut (l:=n) (h:=b.length) (m:=bc0) (by omega) (by omega) (by omega) (SY _);rw[S9 (by rw[Ta];omega)] at h;unfold cV;rw[←hMd,←hn];exact h
 refine Gz 6 ?_;refine cL (O7 (u:=.slice (aY bo0 bc0 n 1) (cV b).length (bc0-n)) (PM aN rfl rfl (by omega)) (by rw[htl];rfl)) ?_;refine O6 Cl rfl (Bp (aY bo0 bc0 n 1) (bc0-n) (cV b) w5 hvt (by omega)) rfl ?_;rintro _ w6 ⟨o6,c6,rfl,ho6,hfr6,hf6⟩;have hK6:=hf6.obj hK id;have hb6:=hf6.obj hb5 id;have ho56:=ho5.SN hf6;have hFW6:=hFW5.trans hf6;have hG6:=hFW6.obj hg id;have hB6:=hf6.obj (hF5.obj hb4 (by omega)) id;have h26:=h2.SO hFW6 id;have hz6:=hFW6.size;have ho6l:=ho6.lt;have hfr6w:=hfr6.mono hFW5.size;have ho5l:=ho56.lt;have hne6:∀ k,k<W.heap.size→¬ blk o6 k:=fun k hk ⟨a,ha,e⟩=>by have:=hfr6w a ha;omega
 have hsame:∀ wf,aA nob W wf→DwO (fun k=>D k∧¬ blk o6 k) wf.heap g p first s:=fun wf hf=>hM0.fresh hf (fun k hk hd=>⟨hd,hne6 k hk⟩) (fun h=>h10 h.1)
 have hend:∀ wf,aA (· = Dm) w6 wf→Own b8 5 wf.heap o6 c6 (cV b)∧aA nob W wf:=fun wf hf=>⟨ho6.SO hf (fun a ha e=>by obtain⟨cur,h⟩:=ho6.cells ha;have e:a.block=Dm:=e;rw[e,hK6] at h;cases h),hFW6.SJ hf (fun k e=>.inr (by have e:k=Dm:=e;omega))⟩
 refine Gz 6 ?_;refine cL (O8 aO rfl (bB hb6 rfl)) ?_;refine fK 1 ?_ ?_<;>intro h41
 ·have e:=Fe (first:=first) (s:=s) (b:=b) (by omega);refine Gz 12 ?_;refine Qs rfl rfl rfl hK6 ?_;intro wf _ hfD;obtain⟨e1,e2⟩:=hend wf hfD;rw[e];exact⟨_,rfl,o6,c6,rfl,e1,hfr6w,hsame wf e2,e2.any⟩
 have hrl:(bY b).length≤maxLen:=by unfold maxLen;omega
 have hrne:(bY b).length≠0:=by omega
 have hsk:=Iy hrl;refine Gz 6 ?_;refine Pk 12 (fun H=>H[W.heap.size]?=some (.cells [pT g].toArray 63 (0,0))∧H[g]?=some (.cells (dwC p first bo s.B.length bc mg).toArray 132 (0,0))∧H[bx]?=some (.cells [Value.slice oo (bY b).length oc].toArray 25 (0,0))∧Vw b8 H oo oc (bY b)∧cG enS H mg (vM s.m)) [] [0,1,2,3,4,5,6,7,8,9,10,11] aJ (by kernel_rfl) (⟨hB6,hG6,hb6,ho56.vw,h26⟩) ?_;refine xC rfl (Pe qC rfl (fun H hH=>bB hH.1 rfl)) ?_;refine Gz 3 ?_;refine xC rfl (Pe aO rfl (fun H hH=>bB hH.2.2.1 rfl)) ?_;refine xC rfl (Qp aN ty5 ty9 rfl (fun H hH=>hH.2.2.2.1)) ?_;refine xC rfl (PL mpS AO (a:=⟨bY b,hrl⟩) rfl rfl (fun H hH=>hH.2.2.2.2)) ?_;refine Gz 11 ?_;refine PD (Qg rfl) rfl (fun h54=>?_) (fun h54=>?_)
 ·rw[oH] at h54;have hno:fD s.m (iY (bY b))=none:=by rw[hsk];simpa using h54
  have e:=BB (first:=first) hrne hno;refine Gz 4 ?_;refine Pk 11 (fun H=>H[W.heap.size]?=some (.cells [pT g].toArray 63 (0,0))∧H[g]?=some (.cells (dwC p first bo s.B.length bc mg).toArray 132 (0,0))) [] [0,1,2,3,4,5,6,7,8,9,10] aJ (by kernel_rfl) (⟨hB6,hG6⟩) ?_;refine xC rfl (Pe qC rfl (fun H hH=>bB hH.1 rfl)) ?_;refine Gz 3 ?_;refine xC rfl (Pe qC rfl (fun H hH=>bB hH.1 rfl)) ?_;refine Gz 9 ?_;refine Pk 7 (fun H=>H[W.heap.size]?=some (.cells [pT g].toArray 63 (0,0))∧H[g]?=some (.cells (dwC p first bo s.B.length bc mg).toArray 132 (0,0))∧H[bx]?=some (.cells [Value.slice oo (bY b).length oc].toArray 25 (0,0))∧Vw b8 H oo oc (bY b)) [7] [0,1,2,3,4,5,6,7] aJ (by kernel_rfl) (⟨hB6,hG6,hb6,ho56.vw⟩) ?_;refine xC rfl (Pe qC rfl (fun H hH=>bB hH.1 rfl)) ?_;refine Gz 3 ?_;refine xC rfl (Pe aO rfl (fun H hH=>bB hH.2.2.1 rfl)) ?_;refine xC rfl (Qp aN ty5 ty9 rfl (fun H hH=>hH.2.2.2)) ?_;refine Gz 1 ?_;refine Ph rfl rfl (Py mpS AO (a:=⟨bY b,hrl⟩) rfl rfl rfl h26 ?_);intro w7 hm7 hs7 hf7;refine PN rfl ?_;have hf7:=hf7.SL.SL.SL;have hml:=h2.obj;have hDml:=(SZ.1 hK6).1;have hnbo:∀ k,W.heap.size≤k→¬ blk bo k:=fun k hk ⟨a,ha,e⟩=>by have:=h1.lt a ha;omega
  have hG7:=hf7.obj hG6 (fun e=>h4 (Eq.symm e));have hB7:=hf7.obj hB6 (by omega);have hb7:=hf7.obj hb6 (by omega);have ho57:=ho56.SO hf7 (fun a ha e=>by have:=hfro a ha;have e:a.block=mg:=e;omega);have h17:=(h1.SN hFW6).SO hf7 (fun a ha e=>h5 ⟨a,ha,e⟩);have hz7:=hf7.size;have hm7q:cG enS w7.heap mg (vM (s.m++[(iY (bY b),first+s.B.length)])):=by rw[←Iz hno,hsk];exact hm7
  refine Gz 2 ?_;refine Pk 9 (fun H=>H[W.heap.size]?=some (.cells [pT g].toArray 63 (0,0))∧H[g]?=some (.cells (dwC p first bo s.B.length bc mg).toArray 132 (0,0))∧H[bx]?=some (.cells [Value.slice oo (bY b).length oc].toArray 25 (0,0))) [6,9] [0,1,2,3,4,5,6,7,8,9] aJ (by kernel_rfl) (⟨hB7,hG7,hb7⟩) ?_;refine xC rfl (Pe qC rfl (fun H hH=>bB hH.1 rfl)) ?_;refine xC rfl (Pe qC rfl (fun H hH=>bB hH.1 rfl)) ?_;refine Gz 3 ?_;refine xC rfl (Pe aO rfl (fun H hH=>bB hH.2.2 rfl)) ?_;refine Ph rfl rfl (Pm cU aN rfl rfl h17 ho57.vw (by omega) (by unfold maxLen;omega) rfl ?_);intro o8 c8 w8 ho8 hf8 hr8 hn8;have hf8:=hf8.SL;have hz8:=hf8.size;refine Pn (by exact⟨hf8.obj hB7 (hnbo _ (by omega)),hf8.obj hG7 h3,hf8.obj hb7 (hnbo _ (by omega))⟩) ?_;refine Gz 2 ?_;refine Ph rfl rfl (Pg aO rfl rfl rfl (hf8.obj hG7 h3) rfl ?_);intro w9 hg9 hs9 hf9;refine PN rfl ?_;obtain⟨hM9,hF9⟩:=Nm (W:=w7) (D:=fun k=>D k∧¬ blk o6 k∧k≠Dm) (mq:=s.m++[(iY (bY b),first+s.B.length)]) (first:=first) (Bq:=s.B++bY b) (fun k hk=>⟨hD k (by omega),(fun⟨a,ha,e⟩=>by have:=ho6l a ha;omega),by omega⟩) hm7q h3 h4 h5 ⟨h6,hne6 g hgl,by omega⟩ (fun k ⟨a,ha,e⟩=>⟨h7 k ⟨a,ha,e⟩,hne6 k (by have:=h1.lt a ha;omega),by have:=h1.lt a ha;omega⟩) ⟨h8,hne6 mg hml,by omega⟩ (hf7.obj (hFW6.obj h9 id) (fun e=>h10 (by have e:p=mg:=e;rw[e];exact h8))) (fun h=>h10 h.1) (by omega) ho8 hf8 hr8 hg9 hf9;have hK9:=hf9.obj (hf8.obj (hf7.obj hK6 (by omega)) (hnbo _ (by omega))) (fun e=>by have e:Dm=g:=e;omega);have hK6:=hK9;have hz9:=hF9.size;have ho9:=(ho6.SO hf7 (fun a ha e=>hne6 mg hml ⟨a,ha,e⟩)).SO hF9 (fun a ha e=>e.2.1 ⟨a,ha,rfl⟩);refine Gz 11 ?_;refine Qs rfl rfl rfl hK6 ?_;intro wf _ hfD;have e9:Own b8 5 wf.heap o6 c6 (cV b):=ho9.SO hfD (fun a ha e=>by obtain⟨cur,h⟩:=ho9.cells ha;have e:a.block=Dm:=e;rw[e,hK6] at h;cases h);rw[e];exact⟨_,rfl,o6,c6,rfl,e9,hfr6w,(hM9.SO hfD (fun k hk e=>hk.2.2 e) (fun e=>by have e:p=Dm:=e;omega)).mono (fun k hk=>⟨hk.1,hk.2.1⟩) (fun h=>h10 h.1),((hFW6.any.trans (hf7.mono (fun k e=>by have e:k=mg:=e;rw[e];exact h8))).trans (hF9.mono (fun k hk=>hk.1))).SJ hfD (fun k e=>.inr (by have e:k=Dm:=e;omega))⟩
 rw[oH] at h54;obtain⟨k,hk⟩:∃ k,fD s.m (iY (bY b))=some k:=by rw[hsk];cases h:fD s.m ⟨bY b,hrl⟩ with|none=>rw[h] at h54;exact absurd rfl h54|some k=>exact⟨k,rfl⟩
 have e:=BA (first:=first) hrne hk;have eg:(bP (vM s.m) ⟨bY b,hrl⟩).getD (iV 0)=nV k:=by rw[oH,←hsk,hk];rfl
 rw[eg];refine Gz 14 ?_;refine Qs rfl rfl rfl hK6 ?_;intro wf _ hfD;obtain⟨e1,e2⟩:=hend wf hfD.SL;rw[e];exact⟨_,rfl,o6,c6,rfl,e1,hfr6w,hsame wf e2,e2.any⟩
abbrev Ino:=(Nat→Int)×By
def EM(x:Ino):List Value:=bK x.1 x.2
def bA:Ino:=(fun _=>0,[])
def zB(x:Ino):By:=(yE x.1 x.2).2
theorem Be{x:Ino}(h:jL x.1 x.2):15≤(zB x).length∧(zB x).length≤214:=by
 have h1:=De h;have h9:=h.1;unfold iZ at h9;unfold zB
 split at h1
 ·omega
 ·split at h1<;>omega
def sZ(l:List Int)(n:Int):Int:=match l.findIdx? (fun x=>decide (x=n)) with
|some i=>i
|none=>0
structure BSt where
 ino:By
 lst:By
 fur:By
 refs:List Int
 sets:List (List Xa×Int)
 many:Nat
def jV(n:Nat):BSt:=⟨[],[],[],Tf n 0,[],0⟩
def bH(s:BSt)(X:List Xa):Int×BSt:=
 if X.length=0 then (0,s) else
 match s.sets.find? (fun y=>decide (y.1=X)) with
|some y=>(y.2+1,s)
|none=>((bM s.fur s.fur.length:Nat)+1,{ s with fur:=s.fur++(iS X).1,sets:=s.sets++[(X,((bM s.fur s.fur.length:Nat):Int))] })
def ndB(qs:List (NdH×Nd))(k:Int):Nd:=(qs.getD k.toNat (uX,nd0)).2
def inB(qs:List (NdH×Nd))(ids:List Int)(k:Int)(i:Ino)(xr:Int):Ino:=
 (fun j=>[(ndB qs k).kind,(ndB qs k).md,sZ ids (ndB qs k).ud,sZ ids (ndB qs k).gd,uY qs k,xr,i.1 6,i.1 7,i.1 8,i.1 9].getD j 0,i.2)
def dJ(qs:List (NdH×Nd))(ids:List Int)(k:Int)(i:Ino)(s:BSt):BSt:=
 { (bH s (ndB qs k).xs).2 with
  ino:=(bH s (ndB qs k).xs).2.ino++(mE (inB qs ids k i (bH s (ndB qs k).xs).1).1 (inB qs ids k i (bH s (ndB qs k).xs).1).2).1
  refs:=(bH s (ndB qs k).xs).2.refs.set (ndB qs k).ino.toNat ((bM (bH s (ndB qs k).xs).2.ino (bH s (ndB qs k).xs).2.ino.length:Nat)+1)
  many:=(bH s (ndB qs k).xs).2.many+1 }
def wrK(wr:Int→BSt→BSt)(qs:List (NdH×Nd)):List Int→BSt→BSt×List Ent
|[],s=>(s,[])
|j::r,s=>((wrK wr qs r (wr j s)).1,(aT (ndB qs j).names,(ndB qs j).kind,(wr j s).refs.getD (ndB qs j).ino.toNat 0-1)::(wrK wr qs r (wr j s)).2)
def Bg(s:BSt)(b:By):Ino:=(fun j=>if j=6 then ((bM s.lst s.lst.length:Nat):Int) else if j=7 then b.length else 0,[])
def wrB(qs:List (NdH×Nd))(ids:List Int)(files:List Ino):Nat→Int→BSt→BSt
|0,_,s=>s
|n+1,k,s=>
   if 0<s.refs.getD (ndB qs k).ino.toNat 0 then s
   else if (ndB qs k).kind=2 then dJ qs ids k (files.getD (ndB qs k).ino.toNat bA) s
   else if (ndB qs k).kind=3 then dJ qs ids k (zF,(ndB qs k).tgt) s
   else if (ndB qs k).kind=1 then
    dJ qs ids k (Bg (wrK (wrB qs ids files n) qs (aX qs (ndB qs k).names qs.length) s).1 (gC (wrK (wrB qs ids files n) qs (aX qs (ndB qs k).names qs.length) s).2).1)
     { (wrK (wrB qs ids files n) qs (aX qs (ndB qs k).names qs.length) s).1 with lst:=(wrK (wrB qs ids files n) qs (aX qs (ndB qs k).names qs.length) s).1.lst++(gC (wrK (wrB qs ids files n) qs (aX qs (ndB qs k).names qs.length) s).2).1 }
   else dJ qs ids k (zF,[]) s
structure FSt where
 ds:DS
 tails:List By
 files:List Ino
def cN(s:FSt)(x:Nd):FSt:=
 if x.kind≠2∨(s.files.getD x.ino.toNat bA).1 0=2 then s
 else ⟨(fA 64 s.ds x.data).1,(gH s.tails (cV x.data)).1,s.files.set x.ino.toNat (fun j=>[2,0,0,0,0,0,((fA 64 s.ds x.data).2:Int),x.data.length,((gH s.tails (cV x.data)).2.1:Int),((gH s.tails (cV x.data)).2.2:Int)].getD j 0,[])⟩
def aL(qs:List (NdH×Nd)):FSt:=(nds qs).foldl cN ⟨⟨[],[]⟩,[],Tf (qs.length+1) bA⟩
def dA:List By→DS→DS×List Int
|[],s=>(s,[])
|t::r,s=>((dA r (kO 64 s t).1).1,((kO 64 s t).2:Int)::(dA r (kO 64 s t).1).2)
def dnW(T:By):By:=frW T (nF T)
structure uR where
 d:DS
 pl:List Int
 s:BSt
def aF(qs:List (NdH×Nd))(ids:List Int):uR:=⟨(dA (aL qs).tails (aL qs).ds).1,(dA (aL qs).tails (aL qs).ds).2,wrB qs ids (aL qs).files 17 0 (jV (qs.length+1))⟩
def eI(a:uR):By:=a.d.B
def dX(a:uR):By:=eI a++dnW a.s.ino
def eH(a:uR):By:=dX a++dnW a.s.lst
def eU(a:uR):By:=eH a++dnW (aH a.pl 4).1
def fC(a:uR)(ids:List Int):By:=eU a++dnW (aH ids 2).1
def dD(a:uR)(ids:List Int):By:=fC a ids++dnW a.s.fur
def fB(qs:List (NdH×Nd))(ids:List Int)(a:uR):Nat→Int:=fun j=>[64+((dD a ids).length:Int),a.s.many,64+(eI a).length,64+(dX a).length,64+(eH a).length,64+(eU a).length,64+(fC a ids).length,ids.length,a.pl.length,a.s.refs.getD (ndB qs 0).ino.toNat 0-1].getD j 0
def pI(qs:List (NdH×Nd))(ids:List Int):By×Int:=
 if 1048576<64+((dD (aF qs ids) ids).length:Int) then ([],3)
 else ((iB (fB qs ids (aF qs ids))).1++dD (aF qs ids) ids,0)
structure BiA where
 lo:Option Addr
 lc:Nat
 io:Option Addr
 ic:Nat
 f1:Option Addr
 c1:Nat
 t1:Option Addr
 d1:Nat
 f2:Option Addr
 c2:Nat
 t2:Option Addr
 d2:Nat
 f3:Option Addr
 c3:Nat
 t3:Option Addr
 d3:Nat
 ro:Option Addr
 rc:Nat
 fo:Option Addr
 fc:Nat
 so:Option Addr
 sc:Nat
 tr:Option Addr
 tc:Nat
 hs:List Hd
def Lb(ow:Nat→Nat):Nat→Prop:=fun k=>ow k≠0∧ow k≠4
section
variable {a:BiA}{ow ow':Nat→Nat}{g:Nat}{qs:List (NdH×Nd)}{ids:List Int}{files:List Ino}{s:BSt}
theorem B7{D D' S:Nat→Prop}{w w':World}{lo:Option Addr}{lc:Nat}(h:aR D w.heap lo lc qs)(f:aA S w w')(hS:∀ k,D k→¬ S k)(hl:qs≠[]→∀ k,blk lo k→¬ S k)(hD:∀ k,D k→D' k):aR D' w'.heap lo lc qs:=
 ⟨h.1.keep' f (fun hne a ha=>hl hne _ ⟨a,ha,rfl⟩),fun p hp=>((h.2 p hp).SO f hS).mono hD⟩
end
def bdB(s:BSt):Prop:=s.ino.length≤137438953472∧s.lst.length≤137438953472∧s.fur.length≤137438953472∧s.sets.length≤1048576∧s.many≤1048576
def bdR(s:BSt):Prop:=(∀ z∈s.refs,0≤z∧z≤1152921504606846977)∧∀ y∈s.sets,0≤y.2∧y.2≤1152921504606846976
theorem EQ{s:BSt}{X:List Xa}(h:X.length=0):bH s X=(0,s):=SQ h
structure leB (s t:BSt):Prop where
 i:s.ino.length≤t.ino.length
 l:s.lst.length≤t.lst.length
 f:s.fur.length≤t.fur.length
 e:s.sets.length≤t.sets.length
 r:t.refs.length=s.refs.length
 m:s.many≤t.many
theorem leB.rfl{s:BSt}:leB s s:=⟨SY _,SY _,SY _,SY _,Eq.refl _,SY _⟩
theorem leB.trans{s t u:BSt}(h:leB s t)(k:leB t u):leB s u:=⟨Tt h.i k.i,Tt h.l k.l,Tt h.f k.f,Tt h.e k.e,k.r.trans h.r,Tt h.m k.m⟩
theorem leB.bd{s t:BSt}(h:leB s t)(k:bdB t):bdB s:=⟨Tt h.i k.1,Tt h.l k.2.1,Tt h.f k.2.2.1,Tt h.e k.2.2.2.1,Tt h.m k.2.2.2.2⟩
theorem yS(s:BSt)(X:List Xa):leB s (bH s X).2:=by
 unfold bH
 split
 ·exact .rfl
 · split
   ·exact .rfl
   ·exact⟨SY _,SY _,by show _≤(s.fur++_).length;rw[SR];omega,by show _≤(s.sets++_).length;rw[SR];omega,Eq.refl _,SY _⟩
section
variable {qs:List (NdH×Nd)}{ids:List Int}{files:List Ino}
theorem rQ(k:Int)(i:Ino)(s:BSt):leB (bH s (ndB qs k).xs).2 (dJ qs ids k i s):=⟨by show _≤(_++_:By).length;rw[SR];omega,SY _,SY _,SY _,TL,UU _⟩
theorem jS(k:Int)(i:Ino)(s:BSt):leB s (dJ qs ids k i s):=(yS s _).trans (rQ k i s)
theorem xO{wr:Int→BSt→BSt}(hw:∀ k s,leB s (wr k s)):∀ (ys:List Int) (s:BSt),leB s (wrK wr qs ys s).1
|[],s=>.rfl
|j::r,s=>(hw j s).trans (xO hw r (wr j s))
theorem Ca(s:BSt)(b:By):leB s { s with lst:=s.lst++b }:=⟨SY _,by show _≤(s.lst++b).length;rw[SR];omega,SY _,SY _,Eq.refl _,SY _⟩
theorem xP:∀ (n:Nat) (k:Int) (s:BSt),leB s (wrB qs ids files n k s)
|0,k,s=>.rfl
|n+1,k,s=>by
   unfold wrB
   split
   ·exact .rfl
   · split
     ·exact jS _ _ _
     · split
       ·exact jS _ _ _
       · split
         ·exact((xO (xP n) _ s).trans (Ca _ _)).trans (jS _ _ _)
         ·exact jS _ _ _
def shS(s:BSt):Prop:=∀ y∈s.sets,∀ x∈y.1,x.1.length≤255
theorem DG{s:BSt}{X:List Xa}(h:shS s)(hX:∀ x∈X,x.1.length≤255):shS (bH s X).2:=by
 unfold bH
 split
 ·exact h
 · split
   ·exact h
   · intro y hy
     rcases Tx.1 hy with hy|hy
     ·exact h y hy
     ·rw[Tv] at hy;subst hy;exact hX
structure GdB (qs:List (NdH×Nd))(files:List Ino):Prop where
 q:∀ q∈qs,(1≤q.2.ino∧q.2.ino≤qs.length)∧q.2.names.length≤16∧(∀ c∈q.2.names,c.length≤255)∧q.2.tgt.length≤200∧(∀ x∈q.2.xs,x.1.length≤255)
 k:∀ s ys,xN qs s ys→ys=aX qs s qs.length
 fl:files.length=qs.length+1
 ft:∀ f∈files,f.2.length≤200
 n:qs.length≤1024
theorem GdB.nd(G:GdB qs files)(k:Int):∀ x∈(ndB qs k).xs,x.1.length≤255:=by
 unfold ndB;rw[S6];cases h:qs[k.toNat]? with
|none=>simp[nd0]
|some q=>exact(G.q q (S1 h)).2.2.2.2
theorem rP(G:GdB qs files){k:Int}{i:Ino}{s:BSt}(h:shS s):shS (dJ qs ids k i s):=DG h (G.nd k)
theorem Fo{wr:Int→BSt→BSt}(hw:∀ k s,shS s→shS (wr k s)):∀ (ys:List Int) (s:BSt),shS s→shS (wrK wr qs ys s).1
|[],s,h=>h
|j::r,s,h=>Fo hw r (wr j s) (hw j s h)
theorem Fp(G:GdB qs files):∀ (n:Nat) (k:Int) (s:BSt),shS s→shS (wrB qs ids files n k s)
|0,k,s,h=>h
|n+1,k,s,h=>by
   unfold wrB
   split
   ·exact h
   · split
     ·exact rP G h
     · split
       ·exact rP G h
       · split
         ·exact rP G (show shS { (wrK (wrB qs ids files n) qs (aX qs (ndB qs k).names qs.length) s).1 with lst:=_ } from Fo (Fp G n) _ s h)
         ·exact rP G h
structure okS (qs:List (NdH×Nd))(s:BSt):Prop where
 r:s.refs.length=qs.length+1
 b:bdR s
 h:shS s
end
theorem bO{qs:List (NdH×Nd)}{i:Nat}{q:NdH×Nd}(h:qs[i]?=some q):ndB qs (i:Int)=q.2:=by unfold ndB;rw[TF,S6,h];rfl
theorem Fq{qs:List (NdH×Nd)}{ids:List Int}{files:List Ino}{i m:Nat}{q:NdH×Nd}(n:Nat)(s:BSt)(h:qs[i]?=some q)(hm:q.2.ino=(m:Int)):wrB qs ids files (n+1) (i:Int) s=if 0<s.refs.getD m 0 then s else if q.2.kind=2 then dJ qs ids i (files.getD m bA) s else if q.2.kind=3 then dJ qs ids i (zF,q.2.tgt) s else if q.2.kind=1 then
 dJ qs ids i (Bg (wrK (wrB qs ids files n) qs (aX qs q.2.names qs.length) s).1 (gC (wrK (wrB qs ids files n) qs (aX qs q.2.names qs.length) s).2).1)
  { (wrK (wrB qs ids files n) qs (aX qs q.2.names qs.length) s).1 with lst:=(wrK (wrB qs ids files n) qs (aX qs q.2.names qs.length) s).1.lst++(gC (wrK (wrB qs ids files n) qs (aX qs q.2.names qs.length) s).2).1 }
 else dJ qs ids i (zF,[]) s:=by
 rw[wrB,bO h,hm,TF]
theorem Dx{qs:List (NdH×Nd)}{s:List By}:∀ (n:Nat),(aX qs s n).length≤n
|0=>SY _
|n+1=>by
   have:=Dx (qs:=qs) (s:=s) n;unfold aX
   split
   ·rw[SR,S5];omega
   ·omega
theorem AL{l:List By}(h:∀ c∈l,c.length≤255):(aT l).length≤255:=by
 unfold aT;rw[S6];cases hx:l[l.length-1]? with
|none=>exact S3 _
|some x=>exact h x (S1 hx)
theorem kF{ow ow8:Nat→Nat}{w4 w w':World}(h8:∀ k,k<w4.heap.size→ow8 k=ow k)(hF:aA (Lb ow) w4 w)(hf:aA (Lb ow8) w w'):aA (Lb ow) w4 w':=hF.SJ hf (fun k h=>by
 by_cases hk:k<w4.heap.size
 · have h:ow8 k≠0∧ow8 k≠4:=h
   rw[h8 k hk] at h;exact .inl h
 ·exact .inr (by omega))
section
open Go Go.RowKit Go.Maps
def uZ(l:List Nd):Prop:=l.length≤1024∧(∀ n∈l,∀ s∈n.names,cP s=0)∧(∀ n∈l,n.names.length≤16)∧(l.Pairwise fun a b=>a.names≠b.names)∧eY l []∧(∀ n∈l,n.names≠[]→eY l n.names.dropLast)∧(∀ n∈l,eM n)∧l.Pairwise gO
theorem HN(l:List Nd):chk l=0↔uZ l:=by
 constructor
 · intro h
   have h1:=oR h;have h2:=iE (sY h1);have h3:=Ei h1;have hm:¬ ∃ n∈l,¬ eM n:=fun hm=>by
    rw[aI,h1,SP (show ¬ ((0:Int)≠0) from fun h=>h rfl),SQ hm] at h;cases h
   have hl:l.Pairwise gO:=by
    apply S4;intro hl;rw[aI,h1,SP (show ¬ ((0:Int)≠0) from fun h=>h rfl),SP hm,SP hl] at h;cases h
   exact⟨DQ h,fun n hn s hs=>h2.1 s (T9.2 ⟨n,hn,hs⟩),h2.2.1,TJ.1 h2.2.2,h3.1,h3.2,fun n hn=>S4 fun h=>hm ⟨n,hn,h⟩,hl⟩
 · rintro⟨g1,g2,g3,g4,g5,g6,g7,g8⟩
   have e1:fU (eB l)=0:=tF fun s hs=>by obtain⟨n,hn,h⟩:=T9.1 hs;exact g2 n hn s h
   have e2:nmd l=0:=by
    unfold nmd;rw[SP (fun h=>h e1),SP (fun⟨n,hn,h⟩=>by have:=g3 n hn;omega),SP (fun h=>h g4)]
   have e3:plc l=0:=by
    unfold plc;rw[SP (by omega),SP (fun h=>h e2),SP (fun h=>h g5),SP (fun⟨n,hn,h1,h2⟩=>h2 (g6 n hn h1))]
   rw[aI,e3,SP (show ¬ ((0:Int)≠0) from fun h=>h rfl),SP (fun⟨n,hn,h⟩=>h (g7 n hn)),SQ g8]
theorem EH{a b:Nd}(h:gO a b):gO b a:=fun e=>by
 obtain⟨h1,h2⟩:=h e.symm;exact⟨by rw[←h2.1];exact h1,h2.symm⟩
theorem uC{l m:List Nd}(h:l.Perm m){s:List By}(hd:eY l s):eY m s:=by
 obtain⟨n,hn,h1,h2⟩:=hd;exact⟨n,h.mem_iff.1 hn,h1,h2⟩
theorem pK{l m:List Nd}(h:l.Perm m)(g:uZ l):uZ m:=by
 obtain⟨g1,g2,g3,g4,g5,g6,g7,g8⟩:=g;exact⟨by rw[←h.length_eq];exact g1,fun n hn=>g2 n (h.mem_iff.2 hn),fun n hn=>g3 n (h.mem_iff.2 hn),(h.pairwise_iff (fun h e=>h e.symm)).1 g4,uC h g5,fun n hn hne=>uC h (g6 n (h.mem_iff.2 hn) hne),fun n hn=>g7 n (h.mem_iff.2 hn),(h.pairwise_iff (fun h=>EH h)).1 g8⟩
def sQ(f:Int→Int)(n:Nd):Nd:={ n with ino:=f n.ino }
def DU(f:Int→Int)(zs:List Int):Prop:=∀ a∈zs,∀ b∈zs,f a=f b→a=b
theorem wZ{f:Int→Int}{l:List Nd}{s:List By}:eY (l.map (sQ f)) s↔eY l s:=by
 constructor
 · rintro⟨n,hn,h1,h2⟩
   obtain⟨m,hm,rfl⟩:=Tj.1 hn;exact⟨m,hm,h1,h2⟩
 · rintro⟨n,hn,h1,h2⟩
   exact⟨sQ f n,Tj.2 ⟨n,hn,rfl⟩,h1,h2⟩
theorem AS{f:Int→Int}{l:List Nd}(hf:DU f (l.map (·.ino))):uZ (l.map (sQ f))↔uZ l:=by
 have hp:∀ {R R':Nd→Nd→Prop},(∀ a∈l,∀ b∈l,R (sQ f a) (sQ f b)↔R' a b)→((l.map (sQ f)).Pairwise R↔l.Pairwise R'):=fun {R R'} h=>by
  rw[List.pairwise_map];exact⟨fun g=>g.imp_of_mem (fun ha hb=>(h _ ha _ hb).1),fun g=>g.imp_of_mem (fun ha hb=>(h _ ha _ hb).2)⟩
 have hl:(l.map (sQ f)).Pairwise gO↔l.Pairwise gO:=hp fun a ha b hb=>by
  unfold gO;constructor
  ·intro h e;exact h (by show f b.ino=f a.ino;rw[e])
  ·intro h e;exact h (hf _ (Tj.2 ⟨b,hb,rfl⟩) _ (Tj.2 ⟨a,ha,rfl⟩) e)
 have hn:((l.map (sQ f)).Pairwise fun a b=>a.names≠b.names)↔l.Pairwise fun a b=>a.names≠b.names:=hp fun a _ b _=>Iff.rfl;unfold uZ;rw[hl,hn,Tb,wZ];simp only[List.forall_mem_map,wZ];exact Iff.rfl
theorem Gs(zs:List Int):DU (jJ zs) zs:=fun a ha b hb h=>by
 unfold jJ at h;have h1:=Vj.2 (gZ.2 ha);have h2:=Vj.2 (gZ.2 hb);have e:(bT zs).idxOf a=(bT zs).idxOf b:=by omega
 have g1:=List.getElem_idxOf h1;have g2:=List.getElem_idxOf h2;rw[←g1,←g2];exact getElem_congr_idx e
def IJ(f:Int→Int)(p:NdH×Nd):NdH×Nd:=(p.1,sQ f p.2)
theorem IY(f:Int→Int)(ps:List (NdH×Nd)):nds (ps.map (IJ f))=(nds ps).map (sQ f):=by simp[nds,IJ,Function.comp_def]
theorem Jr{f:Int→Int}{ps qs:List (NdH×Nd)}(hp:qs.Perm (ps.map (IJ f)))(hf:DU f (aP ps)):uZ (nds qs)↔uZ (nds ps):=by
 have h1:(nds qs).Perm ((nds ps).map (sQ f)):=by rw[←IY];exact hp.map _
 have h2:DU f ((nds ps).map (·.ino)):=by
  have e:(nds ps).map (·.ino)=aP ps:=by simp[nds,aP,Function.comp_def]
  rw[e];exact hf
 constructor
 ·intro g;exact(AS h2).1 (pK h1 g)
 ·intro g;exact pK h1.symm ((AS h2).2 g)
theorem HT{ps:List (NdH×Nd)}(g:uZ (nds ps)):uZ (nds (cQ ps)):=by
 have e:cQ ps=(fQ ps).map (IJ (jJ (aP (fQ ps)))):=rfl;refine(Jr (f:=jJ (aP (fQ ps))) (ps:=fQ ps) (by rw[e]) (Gs _)).2 ?_;exact pK ((jF ps).symm.map _) g
end
section
open Go Go.RowKit Go.Maps
structure GdT (qs:List (NdH×Nd)):Prop where
 n:0<qs.length∧qs.length≤40
 ino:∀ q∈qs,1≤q.2.ino∧q.2.ino≤qs.length
 may:∀ q∈qs,eM q.2
 nmv:∀ q∈qs,∀ c∈q.2.names,cP c=0
 dep:∀ q∈qs,q.2.names.length≤16
 lt:∀ (i j:Nat) (p q:NdH×Nd),i<j→qs[i]?=some p→qs[j]?=some q→cX p.2.names q.2.names=true
 lnk:∀ (i j:Nat) (p q:NdH×Nd),i≠j→qs[i]?=some p→qs[j]?=some q→p.2.ino=q.2.ino→p.2.kind≠1∧Alk p.2 q.2
 root:∃ q,qs[0]?=some q∧q.2.names=[]∧q.2.kind=1
 up:∀ q∈qs,q.2.names≠[]→∃ p∈qs,p.2.names=q.2.names.dropLast∧p.2.kind=1
theorem HU(ps:List (NdH×Nd)):(cQ ps).length=ps.length:=JW (ps:=ps) rfl
theorem HV(ps:List (NdH×Nd)):∀ q∈cQ ps,1≤q.2.ino∧q.2.ino≤(cQ ps).length:=by
 intro q hq;obtain⟨i,hi⟩:=Te hq;obtain⟨h1,h2,_⟩:=JX (ps:=ps) rfl hi;have h3:=(SV.1 hi).1;have h4:sL ps i≤i:=by
  have:=C8 (aP ((fQ ps).take i));have:(aP ((fQ ps).take i)).length≤i:=by simp[aP];omega
  unfold sL;omega
 omega
theorem Cj{ps:List (NdH×Nd)}(hz:chk (nds ps)=0)(hl:ps.length≤40):GdT (cQ ps):=by
 have g:=HT ((HN _).1 hz);obtain⟨qs,hqs⟩:∃ qs,qs=cQ ps:=⟨_,rfl⟩
 have hlen:=HU ps;have hino:=HV ps;have hq:nds qs=nds (cQ ps):=by rw[hqs]
 rw[←hqs] at g hlen hino ⊢;obtain⟨g1,g2,g3,g4,g5,g6,g7,g8⟩:=g;have hlt:∀ (i j:Nat) (p q:NdH×Nd),i<j→qs[i]?=some p→qs[j]?=some q→cX p.2.names q.2.names=true:=fun i j p q hij hp h=>Lr (xH hz) hq hij hp h;have hmem:∀ q∈qs,q.2∈nds qs:=fun q h=>Tj.2 ⟨q,h,rfl⟩;have hr:∃ q,qs[0]?=some q∧q.2.names=[]∧q.2.kind=1:=by
  obtain⟨n,hn,h1,h2⟩:=g5;obtain⟨q,hqm,rfl⟩:=Tj.1 hn;obtain⟨i,hi⟩:=Te hqm;have hi0:=(SV.1 hi).1;by_cases e:i=0
  ·subst e;exact⟨q,hi,h1,h2⟩
  · have:=hlt 0 i _ q (by omega) (SS (by omega)) hi
    rw[h1,EK] at this;cases this
 refine⟨⟨?_,by omega⟩,hino,fun q h=>g7 _ (hmem q h),fun q h=>g2 _ (hmem q h),fun q h=>g3 _ (hmem q h),hlt,fun i j p q hij hp h e=>?_,hr,fun q h hne=>?_⟩
 · obtain⟨q,h,_⟩:=hr
   have:=(SV.1 h).1;omega
 · have hp':=dO hp
   have hq':=dO h;have l1:=(SV.1 hp').1;have l2:=(SV.1 hq').1;have e1:=(SV.1 hp').2;have e2:=(SV.1 hq').2;rcases Nat.lt_or_gt_of_ne hij with c|c
   · have:=TA.1 g8 i j l1 l2 c
     rw[e1,e2] at this;obtain⟨a,b⟩:=this e.symm;have b':=b.symm;exact⟨fun hk=>a (by rw[←b'.1];exact hk),b'⟩
   · have:=TA.1 g8 j i l2 l1 c
     rw[e1,e2] at this;exact this e
 · obtain⟨n,hn,h1,h2⟩:=g6 _ (hmem q h) hne
   obtain⟨p,hp,rfl⟩:=Tj.1 hn;exact⟨p,hp,h1,h2⟩
section
variable {qs:List (NdH×Nd)}(G:GdT qs)
include G
theorem GdT.inj{i j:Nat}{p q:NdH×Nd}(hp:qs[i]?=some p)(h:qs[j]?=some q)(e:p.2.names=q.2.names):i=j:=by
 rcases TW i j with g|g|g
 ·have:=G.lt i j p q g hp h;rw[e,pH] at this;cases this
 ·exact g
 ·have:=G.lt j i q p g h hp;rw[e,pH] at this;cases this
theorem GdT.kids{s:List By}{ys:List Int}(h:xN qs s ys):ys=aX qs s qs.length:=by
 refine h.uniq ⟨List.Perm.refl _,?_⟩;refine KB ?_;have h1:=jO (ps:=qs) (s:=s) qs.length;refine List.Pairwise.imp_of_mem (fun {a b} ha hb hab=>?_) h1;obtain⟨x,rfl,hx,_⟩:=eW.1 ha;obtain⟨y,rfl,hy,_⟩:=eW.1 hb;obtain⟨p,hp,ep⟩:=yH qs hx;obtain⟨q,hq',eq⟩:=yH qs hy;have hl:=G.lt x y p q (by omega) hp hq';refine .inl ?_;show bZ (nmG qs ((x:Int)).toNat) (nmG qs ((y:Int)).toNat)<0;rw[TF,TF,ep,eq];unfold cX at hl;exact of_decide_eq_true hl
theorem GdT.gdB{files:List Ino}(h1:files.length=qs.length+1)(h2:∀ f∈files,f.2.length≤200):GdB qs files where
 q:=fun q hq=>by
  have hm:=G.may q hq;have ht:q.2.tgt.length≤200:=by
   have h:=hm.2.2.2.2.2.2.2.1;unfold okT at h
   split at h
   ·exact h.2.1
   ·rw[h];exact S3 _
  refine⟨G.ino q hq,G.dep q hq,fun c hc=>(iP (G.nmv q hq c hc)).1,ht,fun x hx=>?_⟩;have hx2:=hm.2.2.2.2.2.2.2.2;obtain⟨i,hi,rfl⟩:=TG hx;obtain⟨_,g2,_,_⟩:=hx2.1 i hi;have e:q.2.xs.getD i x0=q.2.xs[i]:=by simp[S6,hi]
  rw[e] at g2;omega
 k:=fun s ys h=>G.kids h
 fl:=h1
 ft:=h2
 n:=by have:=G.n.2;omega
omit G in
theorem iH {s:List By} {z:Int} (h:z∈aX qs s qs.length):∃ (k:Nat) (q:NdH×Nd),z=(k:Int)∧qs[k]?=some q∧q.2.names=s++[aT q.2.names]:=by
 obtain⟨k,rfl,hkl,hkq⟩:=eW.1 h;obtain⟨q,hq',eq⟩:=yH qs hkl;rw[eq] at hkq;refine⟨k,q,rfl,hq',?_⟩;have h1:q.2.names[s.length]?=some (aT q.2.names):=by
  unfold aT;rw[hkq.1,S6,U7,SS (by have:=hkq.1;omega)];rfl
 have h2:=tkL h1;rw[hkq.2,S9 (by have:=hkq.1;omega)] at h2;exact h2
omit G in
theorem GP {k:Nat} {q:NdH×Nd} {s:List By} (h:qs[k]?=some q) (hne:q.2.names≠[]) (hs:q.2.names.dropLast=s):(k:Int)∈aX qs s qs.length:=by
 have hk:=(SV.1 h).1;exact eW.2 ⟨k,rfl,hk,by rw[pG h];exact lS.2 ⟨hne,hs⟩⟩
theorem GdT.above{q:NdH×Nd}(hq:q∈qs):∀ (m d:Nat),d+m=q.2.names.length→∃ (k:Nat) (p:NdH×Nd),qs[k]?=some p∧p.2.names=q.2.names.take d∧(0<m→p.2.kind=1)
|0,d,h=>by
   obtain⟨k,hk⟩:=Te hq;exact⟨k,q,hk,by rw[S9 (by omega)],fun h=>absurd h (Nat.lt_irrefl 0)⟩
|m+1,d,h=>by
   obtain⟨k,p,hk,hn,_⟩:=GdT.above hq m (d+1) (by omega);have hpl:p.2.names.length=d+1:=by rw[hn,S2];omega
   obtain⟨r,hr,h1,h2⟩:=G.up p (S1 hk) (fun e=>by rw[e] at hpl;simp at hpl);obtain⟨j,hj⟩:=Te hr;refine⟨j,r,hj,?_,fun _=>h2⟩;rw[h1,hn,List.dropLast_eq_take,Ui,S2];congr 1;omega
end
end
theorem Dg{s:Int×By}{z n:Int}(h:s.1=0)(hb:¬ eZ z n):dR n s z=(0,s.2++le z n.toNat):=by
 have h1:eD s.1 z n=0:=by rw[bE hb,h]
 have h2:dR n s z=(eD s.1 z n,mG s.1 s.2 z n):=rfl;rw[h2,h1,gR h1]
def enW(w:Nat)(l:List Int):By:=l.flatMap fun x=>le x w
def inW(w:Nat)(l:List Int):Prop:=∀ x∈l,0≤x∧x<256 ^ w
def w24(w:Nat):Prop:=w=2∨w=4
theorem OU{w:Nat}(hw:w24 w){z:Int}(h0:0≤z)(h1:z<256 ^ w):¬ eZ z w:=by
 rcases hw with rfl|rfl
 ·exact eX (m:=65535) (by decide) (by decide) h0 (by have:z<65536:=h1;omega) (by decide)
 ·exact eX (m:=4294967295) (by decide) (by decide) h0 (by have:z<4294967296:=h1;omega) (by decide)
theorem JG(w:Nat)(l:List Int):(enW w l).length=w*l.length:=by
 induction l with
|nil=>rfl
|cons x r ih=>show (le x w++enW w r).length=_;rw[SR,bG,ih,Td,Nat.mul_succ];omega
theorem wG{w:Nat}(hw:w24 w):∀ (l:List Int) (s:Int×By),s.1=0→inW w l→l.foldl (dR (w:Int)) s=(0,s.2++enW w l)
|[],s,h,_=>by show s=_;rw[show enW w []=[] from rfl,Un,←h]
|x::r,s,h,hl=>by
   have h1:=hl x (by simp);rw[TY,Dg h (OU hw h1.1 h1.2),wG hw r _ rfl (fun y hy=>hl y (by simp[hy]))];show (0,s.2++le x (w:Int).toNat++enW w r)=(0,s.2++(le x w++enW w r))
   rw[To,TF]
theorem Am{w:Nat}(hw:w24 w){l:List Int}(h:inW w l):aH l (w:Int)=(enW w l,0):=by
 unfold aH;rw[SQ (by rcases hw with rfl|rfl;exact .inl rfl;exact .inr rfl)];have:kL l (w:Int)=(0,enW w l):=by unfold kL;rw[wG hw l _ rfl h];rfl
 rw[this];rfl
def zA(s:By):By:=Th s.length::s
def iW(x:Xa):By:=zA x.1++zA x.2
def cO(X:List Xa):By:=Th X.length::X.flatMap iW
theorem oP(s:By):(zA s).length=1+s.length:=by simp[zA];omega
theorem CW{s:Int×By}{t:By}(h:s.1=0)(ht:t.length≤255):sB s t=(0,s.2++zA t):=by
 have h1:=(gQ h ht).1;have h2:sB s t=(mC s.1 t,mO s.1 s.2 t):=rfl;have h3:mC s.1 t=0:=h1;rw[h2,h3];unfold mO zA;rw[SP (by omega)]
theorem CN{X:List Xa}(h:dS X):∀ k,k≤X.length→xSt X k=(0,Th X.length::(X.take k).flatMap iW)
|0,_=>by
   have hb:=lJ (n:=X.length) (by have:=h.2;omega);show dR 1 (0,[]) X.length=_;rw[Dg rfl hb];have:=GL X.length;simp only[List.nil_append,List.take_zero,List.flatMap_nil];rw[show (1:Int).toNat=1 from rfl,this]
|k+1,hk=>by
   obtain⟨_,g2,_,g4⟩:=h.1 k (by omega);rw[rY X k (by omega),CN h k (by omega)];unfold xF;have i1:=CW (s:=(0,Th X.length::(X.take k).flatMap iW)) (t:=(X.getD k x0).1) rfl (by omega);rw[i1,CW rfl (by omega)];rw[Tg (by omega:k<X.length),UD];simp[iW,S6,show k<X.length by omega]
theorem lL{X:List Xa}(h:dS X)(h0:0<X.length):iS X=(cO X,0):=by
 unfold iS;rw[SP (by rintro(h1|h1);omega;exact h1 h),CN h _ (SY _),TB];rfl
section
variable {im pre rest b:List UInt8}(him:im=pre++(bY b++rest))
include him
end
def CG(B b:By)(st:Nat):Prop:=(bY b=[]∧st=0)∨(bY b≠[]∧∃ pre rest,B=pre++(bY b++rest)∧st=64+pre.length)
def uQ(s:DS):Prop:=∀ a v,fD s.m a=some v→∃ pre rest,s.B=pre++(a.1++rest)∧64+pre.length=v
theorem uQ.zero:uQ ⟨[],[]⟩:=fun a v h=>by cases h
theorem Ff(s:DS)(b:By):∃ z,(fA 64 s b).1.B=s.B++z:=by
 unfold fA Fc
 split
 ·exact⟨[],by simp⟩
 · split
   ·exact⟨[],by simp⟩
   ·exact⟨_,rfl⟩
theorem Fg{s:DS}(h:uQ s)(b:By)(hb:(bY b).length≤maxLen):uQ (fA 64 s b).1∧CG (fA 64 s b).1.B b (fA 64 s b).2:=by
 by_cases hr:bY b=[]
 · have e:fA 64 s b=(s,0):=by unfold fA;rw[SQ hr]
   rw[e];exact⟨h,.inl ⟨hr,rfl⟩⟩
 · cases hf:fD s.m (iY (bY b)) with
  |some k=>
     have e:fA 64 s b=(s,k):=BA (fun e=>hr (S7.1 e)) hf;rw[e];obtain⟨pre,rest,h1,h2⟩:=h _ _ hf;rw[nL hb] at h1;exact⟨h,.inr ⟨hr,pre,rest,h1,h2.symm⟩⟩
  |none=>
     have e:fA 64 s b=(⟨s.B++bY b,s.m++[(iY (bY b),64+s.B.length)]⟩,64+s.B.length):=BB (fun e=>hr (S7.1 e)) hf;rw[e];refine⟨fun a v hv=>?_,.inr ⟨hr,s.B,[],by simp,rfl⟩⟩;have hv:fD (s.m++[(iY (bY b),64+s.B.length)]) a=some v:=hv;rw[Cp] at hv;show ∃ pre rest,s.B++bY b=pre++(a.1++rest)∧64+pre.length=v;cases ha:fD s.m a with
    |some k=>
       rw[ha] at hv;have hkv:k=v:=by simpa using hv
       subst hkv;obtain⟨pre,rest,h1,h2⟩:=h a k ha;exact⟨pre,rest++bY b,by rw[h1];simp,h2⟩
    |none=>
       rw[ha] at hv;by_cases hk:iY (bY b)=a
       · have hv:64+s.B.length=v:=by simpa[hk] using hv
         refine⟨s.B,[],?_,hv⟩;rw[←hk,nL hb,Un]
       ·simp[hk] at hv
theorem CG.more{B b z:By}{st:Nat}(h:CG B b st):CG (B++z) b st:=by
 rcases h with h|⟨h,pre,rest,h1,h2⟩
 ·exact .inl h
 ·exact .inr ⟨h,pre,rest++z,by rw[h1];simp,h2⟩
def TlS(L:List By)(t:By)(fr off:Nat):Prop:=(t=[]∧fr=0∧off=0)∨(0<t.length∧∃ (n:Nat) (a z:By),n<L.length∧fr=n+1∧off=a.length∧L.getD n []=a++(t++z))
def ExL(A B:List By):Prop:=A.length≤B.length∧∀ q,q<A.length→∃ z,B.getD q []=A.getD q []++z
theorem TlS.ext{A B:List By}{t:By}{fr off:Nat}(h:TlS A t fr off)(k:ExL A B):TlS B t fr off:=by
 rcases h with h|⟨h,n,a,z,h1,h2,h3,h4⟩
 ·exact .inl h
 · obtain⟨y,hy⟩:=k.2 n h1
   exact .inr ⟨h,n,a,z++y,TQ h1 k.1,h2,h3,by rw[hy,h4];simp⟩
def zE(L:List By):Prop:=∀ b∈L,0<b.length∧b.length≤128
theorem H8{L:List By}(hL:zE L){t:By}(ht:t.length<128):ExL L (gH L t).1∧zE (gH L t).1∧(gH L t).1.length≤L.length+1∧TlS (gH L t).1 t (gH L t).2.1 (gH L t).2.2:=by
 unfold gH;by_cases h0:t.length<1
 · rw[SQ (uN (.inl h0))]
   exact⟨⟨SY _,fun q _=>⟨[],by simp⟩⟩,hL,UU _,.inl ⟨S7.1 (by omega),rfl,rfl⟩⟩
 · rw[SP (by rw[rU ⟨by omega,ht⟩];simp)]
   by_cases hn:L=[]∨128<(L.getD (L.length-1) []).length+t.length
   · rw[SQ hn]
     refine⟨⟨by simp,fun q hq=>⟨[],by rw[S6,S6,List.getElem?_append_left hq];simp⟩⟩,fun b hb=>?_,by simp,.inr ⟨by omega,L.length,[],[],by simp,rfl,rfl,by simp[S6]⟩⟩;rcases Tx.1 hb with hb|hb
     ·exact hL b hb
     ·rw[Tv] at hb;subst hb;omega
   · rw[SP hn]
     have hne:L≠[]:=fun e=>hn (.inl e);have hl:=S8.2 hne;have hsum:(L.getD (L.length-1) []).length+t.length≤128:=Nat.le_of_not_lt (fun h=>hn (.inr h));have hlast:(L.set (L.length-1) (L.getD (L.length-1) []++t)).getD (L.length-1) []=L.getD (L.length-1) []++t:=by
      rw[S6,Ub,SQ rfl,SQ (by omega)];rfl
     refine⟨⟨by simp,fun q hq=>?_⟩,fun b hb=>?_,by simp,.inr ⟨by omega,L.length-1,L.getD (L.length-1) [],[],by rw[TL];omega,by show L.length=_;omega,rfl,by rw[hlast];simp⟩⟩
     · by_cases e:q=L.length-1
       ·subst e;exact⟨t,hlast⟩
       ·exact⟨[],by rw[S6,Ub,SP (fun h=>e h.symm)];simp[S6]⟩
     · rcases List.mem_or_eq_of_mem_set hb with hb|hb
       ·exact hL b hb
       ·rw[hb,SR];omega
def FOk(B:By)(L:List By)(d:By)(f:Ino):Prop:=
 ∃ st fr off:Nat,f=(fun j=>[2,0,0,0,0,0,(st:Int),(d.length:Int),(fr:Int),(off:Int)].getD j 0,[])∧CG B d st∧TlS L (cV d) fr off
structure FI (V:List Nd)(n:Nat)(s:FSt):Prop where
 g:uQ s.ds
 t:zE s.tails
 tn:s.tails.length≤V.length
 l:s.files.length=n
 b:s.ds.B.length≤4320*V.length
 f:∀ i f,s.files[i]?=some f→f=bA∨∃ x∈V,x.kind=2∧x.ino.toNat=i∧FOk s.ds.B s.tails x.data f
 a:∀ x∈V,x.kind=2→(s.files.getD x.ino.toNat bA).1 0=2
theorem D5(d:By):(cV d).length<128:=by unfold cV;rw[Ta];omega
theorem Kz(d:By)(h:d.length≤4096):(bY d).length≤maxLen:=by
 have:=jI d (d.length/128);have:(bY d).length≤135*(d.length/128):=this.1;unfold maxLen;omega
theorem Lw(s:DS)(b:By)(h:b.length≤4096):(fA 64 s b).1.B.length≤s.B.length+4320:=by
 have h1:(bY b).length≤135*(b.length/128):=(jI b (b.length/128)).1;unfold fA Fc
 split
 ·exact T0 _ _
 · split
   ·exact T0 _ _
   · show (s.B++bY b).length≤_
     rw[SR];omega
theorem A4{V:List Nd}{n:Nat}{s:FSt}(h:FI V n s){x:Nd}(hx:0≤x.ino∧x.ino<n)(hd:x.data.length≤4096):FI (V++[x]) n (cN s x):=by
 unfold cN;by_cases hc:x.kind≠2∨(s.files.getD x.ino.toNat bA).1 0=2
 · rw[SQ hc]
   refine⟨h.g,h.t,by rw[SR];exact Tt h.tn (T0 _ _),h.l,by rw[SR];have:=h.b;omega,fun i f hf=>(h.f i f hf).imp id (fun⟨y,hy,r⟩=>⟨y,List.mem_append_left _ hy,r⟩),fun y hy hk=>?_⟩;rcases Tx.1 hy with hy|hy
   ·exact h.a y hy hk
   · rw[Tv] at hy;subst hy
     exact hc.resolve_left (fun h=>h hk)
 · rw[SP hc]
   have hk:x.kind=2:=S4 fun h=>hc (.inl h);obtain⟨g1,g2⟩:=Fg h.g x.data (Kz _ hd);obtain⟨a1,a2,a3,a4⟩:=H8 h.t (D5 x.data);obtain⟨z,hz⟩:=Ff s.ds x.data;refine⟨g1,a2,by rw[SR];exact Tt a3 (Nat.add_le_add_right h.tn 1),by show (s.files.set _ _).length=n;rw[TL];exact h.l,by
    have h1:=Lw s.ds x.data hd;have:=h.b;show (fA 64 s.ds x.data).1.B.length≤_;rw[SR];simp only[S5];omega,fun i f hf=>?_,fun y hy hk2=>?_⟩
   · have hf:(s.files.set x.ino.toNat _)[i]?=some f:=hf
     rw[Ub] at hf;by_cases e:x.ino.toNat=i
     · rw[SQ e] at hf
       split at hf
       · cases hf
         exact .inr ⟨x,by simp,hk,e,_,_,_,rfl,g2,a4⟩
       ·cases hf
     · rw[SP e] at hf
       rcases h.f i f hf with hf|⟨y,hy,k1,k2,st,fr,off,k3,k4,k5⟩
       ·exact .inl hf
       ·exact .inr ⟨y,List.mem_append_left _ hy,k1,k2,st,fr,off,k3,by show CG (fA 64 s.ds x.data).1.B _ _;rw[hz];exact k4.more,k5.ext a1⟩
   · show ((s.files.set x.ino.toNat _).getD y.ino.toNat bA).1 0=2
     rw[S6,Ub];by_cases e:x.ino.toNat=y.ino.toNat
     ·rw[SQ e,SQ (by rw[h.l];omega)];rfl
     · rw[SP e]
       rcases Tx.1 hy with hy|hy
       ·exact h.a y hy hk2
       ·rw[Tv] at hy;subst hy;exact absurd rfl e
theorem wT{n:Nat}:∀ (L V:List Nd) (s:FSt),FI V n s→(∀ x∈L,(0≤x.ino∧x.ino<n)∧x.data.length≤4096)→FI (V++L) n (L.foldl cN s)
|[],V,s,h,_=>by rw[Un];exact h
|x::r,V,s,h,hL=>by
   have h1:=A4 h (hL x (by simp)).1 (hL x (by simp)).2;have h2:=wT r (V++[x]) _ h1 (fun y hy=>hL y (by simp[hy]));rw[To] at h2;exact h2
theorem yW{qs:List (NdH×Nd)}(h:∀ q∈qs,(1≤q.2.ino∧q.2.ino≤qs.length)∧q.2.data.length≤4096):FI (nds qs) (qs.length+1) (aL qs):=by
 have h0:FI [] (qs.length+1) ⟨⟨[],[]⟩,[],Tf (qs.length+1) bA⟩:=⟨uQ.zero,(by intro b hb;cases hb),SY _,Tw,SY _,fun i f hf=>.inl (by
  have:=S1 hf;exact UF this),(by intro x hx;cases hx)⟩
 have:=wT (nds qs) [] _ h0 (fun x hx=>by
  obtain⟨q,hq,rfl⟩:=Tj.1 hx;have:=h q hq;omega)
 exact this
theorem kV:∀ (L:List By) (s:DS),(dA L s).2.length=L.length
|[],_=>rfl
|t::r,s=>by show ((_::(dA r (kO 64 s t).1).2).length=_);rw[Td,kV r,Td]
theorem pA:∀ (L:List By) (s:DS),∃ z,(dA L s).1.B=s.B++z∧z.length≤(L.map (fun t=>(cR t).1.length)).sum
|[],s=>⟨[],by simp[dA],by simp⟩
|t::r,s=>by
   obtain⟨z,hz,hl⟩:=pA r (kO 64 s t).1;refine⟨(cR t).1++z,?_,?_⟩
   · show (dA r (kO 64 s t).1).1.B=_
     rw[hz];show (s.B++(cR t).1)++z=_;rw[To]
   ·rw[SR,TD,TU];omega
theorem xS:∀ (L:List By) (s:DS) (j:Nat),j<L.length→∃ pre rest,(dA L s).1.B=pre++((cR (L.getD j [])).1++rest)∧(dA L s).2.getD j 0=64+(pre.length:Int)
|[],s,j,h=>absurd h (Nat.not_lt_zero _)
|t::r,s,0,_=>by
   obtain⟨z,hz,_⟩:=pA r (kO 64 s t).1;refine⟨s.B,z,?_,?_⟩
   · show (dA r (kO 64 s t).1).1.B=_
     rw[hz];show (s.B++(cR t).1)++z=_;rw[To];rfl
   · show ((64+s.B.length:Nat):Int)=_
     omega
|t::r,s,j+1,h=>xS r (kO 64 s t).1 j (Nat.lt_of_succ_lt_succ h)
theorem DE{F:Nat→Int}:∀ (L:List Fd) (G:Nat→Int) (t:By),(∀ x∈L,(1≤x.b∧x.b≤4)∧0≤F x.o∧F x.o<256 ^ x.b.toNat)→L.foldl gF ((0,fZ F L++t),G)=((0,t),fun o=>if o∈L.map (·.o) then F o else G o)
|[],G,t,_=>by simp[fZ]
|x::r,G,t,h=>by
   obtain⟨⟨b1,b4⟩,h0,hx⟩:=h x (by simp);have e:fZ F (x::r)++t=le (F x.o) x.b.toNat++(fZ F r++t):=by simp[fZ]
   obtain⟨g1,g2⟩:=Ld (n:=x.b.toNat) (x:=F x.o) (by omega) (by omega) h0 hx (fZ F r++t);rw[show ((x.b.toNat:Nat):Int)=x.b by omega] at g1 g2;have hs:gF ((0,fZ F (x::r)++t),G) x=((0,fZ F r++t),upd G x.o (F x.o)):=by
    unfold gF;rw[e];simp only;rw[g1,g2]
   rw[TY,hs,DE r _ t (fun y hy=>h y (by simp[hy]))];refine U3 rfl (funext fun o=>?_);simp only[TD,Tm];by_cases ho:o∈r.map (·.o)
   ·rw[SQ ho,SQ (.inr ho)]
   · rw[SP ho]
     by_cases hx2:o=x.o
     ·rw[SQ (.inl hx2)];subst hx2;simp[upd]
     ·rw[SP (fun h=>h.elim hx2 ho)];simp[upd,hx2]
theorem Ir{F:Nat→Int}(h:kD F):∀ x∈suL,(1≤x.b∧x.b≤4)∧0≤F x.o∧F x.o<256 ^ x.b.toNat:=by
 obtain⟨⟨a1,a2,a3,a4,a5,a6,a7⟩,b1,b2,b3,b4,b5,b6,b7,b8⟩:=h;intro x hx;simp only[suL,Tm,TE,or_false] at hx;rcases hx with rfl|rfl|rfl|rfl|rfl|rfl|rfl|rfl|rfl|rfl
 ·exact⟨by decide,by show 0≤F 0;omega,by show F 0<4294967296;omega⟩
 ·exact⟨by decide,by show 0≤F 2;omega,by show F 2<4294967296;omega⟩
 ·exact⟨by decide,by show 0≤F 3;omega,by show F 3<4294967296;omega⟩
 ·exact⟨by decide,by show 0≤F 4;omega,by show F 4<4294967296;omega⟩
 ·exact⟨by decide,by show 0≤F 5;omega,by show F 5<4294967296;omega⟩
 ·exact⟨by decide,by show 0≤F 6;omega,by show F 6<4294967296;omega⟩
 ·exact⟨by decide,by show 0≤F 9;omega,by show F 9<4294967296;omega⟩
 ·exact⟨by decide,by show 0≤F 1;omega,by show F 1<65536;omega⟩
 ·exact⟨by decide,by show 0≤F 7;omega,by show F 7<65536;omega⟩
 ·exact⟨by decide,by show 0≤F 8;omega,by show F 8<65536;omega⟩
theorem FF(o:Nat):o∈suL.map (·.o)↔o<10:=by
 show o∈[0,2,3,4,5,6,9,1,7,8]↔_;simp only[Tm,TE,or_false];omega
theorem Is{F:Nat→Int}(h:kD F)(h0:∀ o,10≤o→F o=0)(rest:By):suF (suB F++rest)=F:=by
 have e:((suB F++rest).take 64).drop 4=fZ F suL++(le (iL (suH F):Nat) 4++Tf 22 0):=by
  rw[UV (jZ F)];unfold suB suH;rw[To];exact UX (show suM.length=4 from rfl)
 unfold suF suQ;rw[e,DE suL zF _ (Ir h)];funext o;show (if o∈suL.map (·.o) then F o else zF o)=F o;by_cases ho:o<10
 ·rw[SQ ((FF o).2 ho)]
 ·rw[SP (fun h=>ho ((FF o).1 h)),h0 o (by omega)];rfl
theorem zT{F:Nat→Int}(h:kD F)(h0:∀ o,10≤o→F o=0)(rest:By)(hs:F 0=64+(rest.length:Int)):dK (suB F++rest)=(F,0):=by
 have hl:=jZ F;have hF:=Is h h0 rest;have hok:iK (suB F++rest):=by
  unfold iK;rw[hF];exact⟨by rw[SR];omega,h,UV hl,by rw[SR];omega⟩
 unfold dK;rw[SQ hok,hF]
theorem HE{L:List Ent}(h:cI [] L):gC L=(bL L,0)∧Ln (bL L)=(L,0):=by
 refine⟨?_,HD h rfl⟩;unfold gC;rw[SQ h]
section
open Go Go.RowKit Go.Maps
def At3(T X:By)(o:Nat):Prop:=∃ pre rest,T=pre++(X++rest)∧pre.length=o
theorem At3.more{T X z:By}{o:Nat}(h:At3 T X o):At3 (T++z) X o:=by
 obtain⟨pre,rest,h1,h2⟩:=h;exact⟨pre,rest++z,by rw[h1];simp,h2⟩
theorem At3.le{T X:By}{o:Nat}(h:At3 T X o):o+X.length≤T.length:=by
 obtain⟨pre,rest,h1,h2⟩:=h;rw[h1,SR,SR];omega
theorem At3.new(T X:By):At3 (T++X) X T.length:=⟨T,[],by simp,rfl⟩
theorem eG{T z:By}{o:Nat}(h:o≤T.length):bM (T++z) o=bM T o:=by
 rw[vW (T:=T++z) (by rw[SR];omega),vW (T:=T) h,List.take_append_of_le_length h]
theorem IK(T:By){o p:Nat}(h:o<p):bM T o<bM T p:=by
 unfold bM;by_cases e:o/128=p/128
 ·rw[e];omega
 · have h1:(frW T (o/128+1)).length≤(frW T (p/128)).length:=G9 (by omega)
   have h2:=Lf (T:=T) (o/128);omega
structure Ex (s t:BSt):Prop where
 i:∃ z,t.ino=s.ino++z
 l:∃ z,t.lst=s.lst++z
 f:∃ z,t.fur=s.fur++z
 r:∀ m,0<s.refs.getD m 0→t.refs.getD m 0=s.refs.getD m 0
theorem Ex.rfl{s:BSt}:Ex s s:=⟨⟨[],by simp⟩,⟨[],by simp⟩,⟨[],by simp⟩,fun _ _=>Eq.refl _⟩
theorem Ex.trans{s t u:BSt}(h:Ex s t)(k:Ex t u):Ex s u:=by
 obtain⟨⟨a,ha⟩,⟨b,hb⟩,⟨c,hc⟩,hr⟩:=h;obtain⟨⟨a',ha'⟩,⟨b',hb'⟩,⟨c',hc'⟩,hr'⟩:=k;exact⟨⟨a++a',by rw[ha',ha,To]⟩,⟨b++b',by rw[hb',hb,To]⟩,⟨c++c',by rw[hc',hc,To]⟩,fun m hm=>by rw[hr' m (by rw[hr m hm];exact hm),hr m hm]⟩
def XrI(s:BSt)(X:List Xa)(xr:Int):Prop:=(X=[]∧xr=0)∨(X≠[]∧∃ o,xr=((bM s.fur o:Nat):Int)+1∧At3 s.fur (cO X) o)
theorem XrI.ex{s t:BSt}{X:List Xa}{xr:Int}(h:XrI s X xr)(e:Ex s t):XrI t X xr:=by
 rcases h with h|⟨h,o,h1,h2⟩
 ·exact .inl h
 · obtain⟨z,hz⟩:=e.f
   have:=h2.le;exact .inr ⟨h,o,by rw[hz,eG (by omega)];exact h1,by rw[hz];exact h2.more⟩
def kP(qs:List (NdH×Nd))(s:BSt)(ys:List Int):List Ent:=ys.map fun j=>(aT (ndB qs j).names,(ndB qs j).kind,s.refs.getD (ndB qs j).ino.toNat 0-1)
def BN(qs:List (NdH×Nd))(s:BSt)(ys:List Int):Prop:=∀ j∈ys,0<s.refs.getD (ndB qs j).ino.toNat 0
theorem BN.ex{qs:List (NdH×Nd)}{s t:BSt}{ys:List Int}(h:BN qs s ys)(e:Ex s t):BN qs t ys:=fun j hj=>by rw[e.r _ (h j hj)];exact h j hj
theorem yZ{qs:List (NdH×Nd)}{s t:BSt}{ys:List Int}(h:BN qs s ys)(e:Ex s t):kP qs t ys=kP qs s ys:=by
 unfold kP;apply List.map_congr_left;intro j hj;rw[e.r _ (h j hj)]
def JL(s:BSt)(o n:Nat):Ino:=(fun j=>if j=6 then ((bM s.lst o:Nat):Int) else if j=7 then (n:Int) else 0,[])
def KiI(qs:List (NdH×Nd))(files:List Ino)(s:BSt)(q:Nd)(i:Ino):Prop:=
 (q.kind=2→i=files.getD q.ino.toNat bA)∧(q.kind=3→i=(zF,q.tgt)) ∧
 (q.kind=1→BN qs s (aX qs q.names qs.length)∧∃ o,i=JL s o (bL (kP qs s (aX qs q.names qs.length))).length∧At3 s.lst (bL (kP qs s (aX qs q.names qs.length))) o)
theorem KiI.ex{qs:List (NdH×Nd)}{files:List Ino}{s t:BSt}{q:Nd}{i:Ino}(h:KiI qs files s q i)(e:Ex s t):KiI qs files t q i:=by
 obtain⟨h1,h2,h3⟩:=h;refine⟨h1,h2,fun hk=>?_⟩;obtain⟨a,o,b,c⟩:=h3 hk;obtain⟨z,hz⟩:=e.l;have hl:=c.le;have he:=yZ a e;refine⟨a.ex e,o,?_,?_⟩
 ·rw[he,b];unfold JL;rw[hz,eG (by omega)]
 ·rw[he,hz];exact c.more
def J2(qs:List (NdH×Nd))(ids:List Int)(files:List Ino)(s:BSt)(m:Nat):Prop:=
 ∃ (k:Nat) (q:NdH×Nd) (i:Ino) (xr:Int) (o:Nat),qs[k]?=some q∧q.2.ino=(m:Int)∧s.refs.getD m 0=((bM s.ino o:Nat):Int)+1∧jL (inB qs ids k i xr).1 (inB qs ids k i xr).2∧At3 s.ino (zB (inB qs ids k i xr)) o∧XrI s q.2.xs xr∧KiI qs files s q.2 i
theorem J2.ex{qs:List (NdH×Nd)}{ids:List Int}{files:List Ino}{s t:BSt}{m:Nat}(h:J2 qs ids files s m)(h0:0<s.refs.getD m 0)(e:Ex s t):J2 qs ids files t m:=by
 obtain⟨k,q,i,xr,o,h1,h2,h3,h4,h5,h6,h7⟩:=h;obtain⟨z,hz⟩:=e.i;have hl:=h5.le;exact⟨k,q,i,xr,o,h1,h2,by rw[e.r m h0,hz,eG (by omega)];exact h3,h4,by rw[hz];exact h5.more,h6.ex e,h7.ex e⟩
def qS(s:BSt):List Int:=s.refs.filter (fun r=>decide (0<r))
structure kR (qs:List (NdH×Nd))(ids:List Int)(files:List Ino)(s:BSt):Prop where
 std:∀ m,0<s.refs.getD m 0→J2 qs ids files s m
 rl:s.refs.length=qs.length+1
 rn:∀ m,0≤s.refs.getD m 0
 sets:∀ y∈s.sets,∃ o,y.2=((bM s.fur o:Nat):Int)∧At3 s.fur (cO y.1) o
 many:s.many=(qS s).length
 dist:∀ m n,0<s.refs.getD m 0→s.refs.getD m 0=s.refs.getD n 0→m=n
 bi:s.ino.length≤214*s.many
 bf:s.fur.length≤4200*s.many
 sn:s.sets.length≤s.many
 sh:shS s
theorem tW{l:List Int}{m:Nat}{v:Int}(h:m<l.length)(h0:l.getD m 0≤0)(hv:0<v):((l.set m v).filter (fun r=>decide (0<r))).length=(l.filter (fun r=>decide (0<r))).length+1:=by
 have e:l=l.take m++l.getD m 0::l.drop (m+1):=by
  rw[show l.getD m 0=l[m] by simp[S6,h],←TV h,Tn]
 have e2:l.set m v=l.take m++v::l.drop (m+1):=List.set_eq_take_append_cons_drop .. |>.trans (by rw[SQ h]);rw[e2]
 conv=>rhs;rw[e]
 rw[TZ,TZ,Uq (by simpa using hv),List.filter_cons_of_neg (by simp only[decide_eq_true_eq];omega)];simp;omega
theorem LX{l:List Int}{m n:Nat}{v:Int}(h:m<l.length):(l.set m v).getD n 0=if n=m then v else l.getD n 0:=by
 rw[S6,Ub];by_cases e:m=n
 ·subst e;rw[SQ rfl,SQ h,SQ rfl];rfl
 ·rw[SP e,SP (fun h=>e h.symm)];rfl
theorem pN{X:List Xa}(h:dS X):(cO X).length≤4200:=by
 have hb:∀ x∈X,x.1.length≤255∧x.2.length≤255:=fun x hx=>by
  obtain⟨i,hi,rfl⟩:=TG hx;obtain⟨_,g2,_,g4⟩:=h.1 i hi;have e:X.getD i x0=X[i]:=by simp[S6,hi]
  rw[e] at g2 g4;omega
 have key:∀ Y:List Xa,(∀ x∈Y,x.1.length≤255∧x.2.length≤255)→(Y.flatMap iW).length≤512*Y.length:=by
  intro Y
  induction Y with
 |nil=>intro _;exact SY _
 |cons x r ih=>
    intro hy;have h1:=hy x (by simp);have h2:=ih (fun y h=>hy y (by simp[h]));have e:(iW x).length=(1+x.1.length)+(1+x.2.length):=by unfold iW;rw[SR,oP,oP]
    rw[TN,SR,Td,e];omega
 have h1:=key X hb;have h2:=h.2;unfold cO;rw[Td];omega
section
variable {qs:List (NdH×Nd)}{ids:List Int}{files:List Ino}
theorem G7{s:BSt}(h:kR qs ids files s){X:List Xa}(hX:dS X) :
 XrI (bH s X).2 X (bH s X).1∧Ex s (bH s X).2∧(bH s X).2.refs=s.refs∧(bH s X).2.many=s.many∧(bH s X).2.ino=s.ino∧(bH s X).2.lst=s.lst∧(bH s X).2.fur.length≤s.fur.length+4200 ∧
 (∀ y∈(bH s X).2.sets,∃ o,y.2=((bM (bH s X).2.fur o:Nat):Int)∧At3 (bH s X).2.fur (cO y.1) o)∧0≤(bH s X).1∧shS (bH s X).2∧(bH s X).2.sets.length≤s.sets.length+1:=by
 have hsh:shS (bH s X).2:=DG h.sh (fun x hx=>by
  obtain⟨i,hi,rfl⟩:=TG hx;obtain⟨_,g2,_,_⟩:=hX.1 i hi;have e:X.getD i x0=X[i]:=by simp[S6,hi]
  rw[e] at g2;omega)
 by_cases h0:X.length=0
 · have e:bH s X=(0,s):=by unfold bH;rw[SQ h0]
   rw[e] at hsh ⊢;exact⟨.inl ⟨S7.1 h0,rfl⟩,.rfl,rfl,rfl,rfl,rfl,T0 _ _,h.sets,Int.le_refl _,hsh,UU _⟩
 · have hne:X≠[]:=fun e=>h0 (by rw[e];rfl)
   cases hf:s.sets.find? (fun y=>decide (y.1=X)) with
  |some y=>
     have e:bH s X=(y.2+1,s):=by unfold bH;rw[SP h0,hf]
     rw[e] at hsh ⊢;obtain⟨o,h1,h2⟩:=h.sets y (UC hf);have h3:y.1=X:=by simpa using List.find?_some hf
     exact⟨.inr ⟨hne,o,by rw[h1],by rw[←h3];exact h2⟩,.rfl,rfl,rfl,rfl,rfl,T0 _ _,h.sets,by show 0≤y.2+1;omega,hsh,UU _⟩
  |none=>
     have e:bH s X=(((bM s.fur s.fur.length:Nat):Int)+1,{ s with fur:=s.fur++(iS X).1,sets:=s.sets++[(X,((bM s.fur s.fur.length:Nat):Int))] }):=by unfold bH;rw[SP h0,hf]
     have hp:(iS X).1=cO X:=by rw[lL hX (by omega)]
     rw[hp] at e;rw[e] at hsh ⊢;have hl:=pN hX;refine⟨.inr ⟨hne,s.fur.length,by show _=((bM (s.fur++cO X) s.fur.length:Nat):Int)+1;rw[eG (SY _)],.new _ _⟩,⟨⟨[],by simp⟩,⟨[],by simp⟩,⟨_,rfl⟩,fun _ _=>rfl⟩,rfl,rfl,rfl,rfl,by show (s.fur++cO X).length≤_;rw[SR];omega,fun y hy=>?_,by show (0:Int)≤((bM _ _:Nat):Int)+1;omega,hsh,by show (s.sets++_).length≤_;rw[SR];exact SY _⟩;show ∃ o,y.2=((bM (s.fur++cO X) o:Nat):Int)∧At3 (s.fur++cO X) (cO y.1) o;rcases Tx.1 hy with hy|hy
     · obtain⟨o,h1,h2⟩:=h.sets y hy
       have:=h2.le;exact⟨o,by rw[eG (by omega)];exact h1,h2.more⟩
     · rw[Tv] at hy;subst hy
       exact⟨s.fur.length,by rw[eG (SY _)],.new _ _⟩
theorem Hk{s:BSt}(h:kR qs ids files s){k m:Nat}{q:NdH×Nd}(hq:qs[k]?=some q)(hm:q.2.ino=(m:Int))(hml:m≤qs.length)(h0:s.refs.getD m 0=0)(hX:dS q.2.xs){i:Ino}(hk:KiI qs files s q.2 i)
 (hmay:∀ xr,0≤xr→xr≤4294967295→jL (inB qs ids k i xr).1 (inB qs ids k i xr).2)(hn:qs.length≤40) :
 kR qs ids files (dJ qs ids k i s)∧Ex s (dJ qs ids k i s)∧0<(dJ qs ids k i s).refs.getD m 0∧(∀ n,n≠m→(dJ qs ids k i s).refs.getD n 0=s.refs.getD n 0)∧(dJ qs ids k i s).lst=s.lst∧(dJ qs ids k i s).many=s.many+1:=by
 have hmn:s.many≤41:=by
  have h1:=UT (fun r:Int=>decide (0<r)) s.refs;rw[h.many];unfold qS;rw[h.rl] at h1;omega
 obtain⟨x1,x2,x3,x4,x5,x6,x7,x8,x9,x10,x11⟩:=G7 h hX;have hnd:=bO hq;obtain⟨R,hR⟩:∃ R,R=bH s q.2.xs:=⟨_,rfl⟩
 rw[←hR] at x1 x2 x3 x4 x5 x6 x7 x8 x9 x10 x11;have hxr:R.1≤4294967295:=by
  rcases x1 with⟨_,e⟩|⟨_,o,e,ha⟩
  ·rw[e];decide
  · have h1:=ha.le
    have h2:=h.bf;have h3:=pL R.2.fur (o/128);rw[e];unfold bM;omega
 have hmy:=hmay R.1 x9 hxr;obtain⟨I,hI⟩:∃ I,I=inB qs ids k i R.1:=⟨_,rfl⟩
 rw[←hI] at hmy;have hput:(mE I.1 I.2).1=zB I:=by unfold mE zB;rw[SQ hmy]
 have hlen:=Be hmy;have hfix:dJ qs ids (k:Int) i s = { R.2 with ino:=R.2.ino++zB I,refs:=R.2.refs.set m ((bM R.2.ino R.2.ino.length:Nat)+1),many:=R.2.many+1 }:=by
  unfold dJ;rw[hnd,←hR,hm,TF,←hI,hput]
 obtain⟨t,ht⟩:∃ t,t=dJ qs ids (k:Int) i s:=⟨_,rfl⟩
 rw[←ht];have t1:t.ino=R.2.ino++zB I:=by rw[ht,hfix]
 have t2:t.refs=R.2.refs.set m ((bM R.2.ino R.2.ino.length:Nat)+1):=by rw[ht,hfix]
 have t3:t.many=R.2.many+1:=by rw[ht,hfix]
 have t4:t.fur=R.2.fur:=by rw[ht,hfix]
 have t5:t.lst=R.2.lst:=by rw[ht,hfix]
 have t6:t.sets=R.2.sets:=by rw[ht,hfix]
 have hrl:m<R.2.refs.length:=by rw[x3,h.rl];omega
 have hgd:∀ n,t.refs.getD n 0=if n=m then ((bM s.ino s.ino.length:Nat):Int)+1 else s.refs.getD n 0:=fun n=>by rw[t2,LX hrl,x3,x5]
 have hex2:Ex R.2 t:=⟨⟨_,t1⟩,⟨[],by rw[t5];simp⟩,⟨[],by rw[t4];simp⟩,fun n hn=>by
  rw[hgd n,x3];by_cases e:n=m
  ·subst e;rw[x3,h0] at hn;exact absurd hn (by decide)
  ·rw[SP e]⟩
 have hex:=x2.trans hex2;have hpos:0<t.refs.getD m 0:=by rw[hgd m,SQ rfl];omega
 have hmt:At3 t.ino (zB I) s.ino.length:=by rw[t1,x5];exact .new _ _
 have hrt:bM t.ino s.ino.length=bM s.ino s.ino.length:=by rw[t1,x5];exact eG (SY _)
 refine⟨⟨fun n hn=>?_,by rw[t2,TL,x3];exact h.rl,fun n=>?_,fun y hy=>?_,?_,fun a b ha hab=>?_,by rw[t1,t3,x5,x4,SR];have:=h.bi;omega,by rw[t4,t3,x4];have:=h.bf;omega,by rw[t6,t3,x4];have:=h.sn;omega,fun y hy=>x10 y (by rw[←t6];exact hy)⟩,hex,hpos,fun n hn=>by rw[hgd n,SP hn],by rw[t5,x6],by rw[t3,x4]⟩
 · by_cases e:n=m
   · subst e
     refine⟨k,q,i,R.1,s.ino.length,hq,hm,?_,by rw[←hI];exact hmy,by rw[←hI];exact hmt,x1.ex hex2,hk.ex hex⟩;rw[hgd n,SQ rfl,hrt]
   · have hn':0<s.refs.getD n 0:=by rw[hgd n,SP e] at hn;exact hn
     exact(h.std n hn').ex hn' hex
 · rw[hgd n]
   split
   ·omega
   ·exact h.rn n
 · rw[t6] at hy
   rw[t4];exact x8 y hy
 · rw[t3,x4,h.many]
   unfold qS;rw[t2,tW hrl (by rw[x3,h0];exact Int.le_refl _) (by omega),x3]
 · have old:∀ c,c≠m→0<s.refs.getD c 0→s.refs.getD c 0<((bM s.ino s.ino.length:Nat):Int)+1:=fun c hc hp=>by
    obtain⟨_,_,_,_,o,_,_,e,hmy2,ha,_⟩:=h.std c hp;have h1:=ha.le;have h2:=Be hmy2;have h3:=IK s.ino (show o<s.ino.length by omega);rw[e];omega
   rw[hgd a] at ha hab;rw[hgd b] at hab;by_cases ea:a=m
   · by_cases eb:b=m
     ·rw[ea,eb]
     · rw[SQ ea,SP eb] at hab
       have:=old b eb (by omega);omega
   · rw[SP ea] at ha hab
     by_cases eb:b=m
     · rw[SQ eb] at hab
       have:=old a ea ha;omega
     · rw[SP eb] at hab
       exact h.dist a b ha hab
end
end
theorem DwO.tight{D B:Nat→Prop}{w:World}{g p first:Nat}{s:DS}(h:DwO D w.heap g p first s)(hB:∀ k,k<w.heap.size→D k→B k)(hp:¬ B p):DwO B w.heap g p first s:=h.fresh (RY _ _) hB hp
theorem HC(p first:Nat)(W:World)(ht:TbV W.heap p) :
 CA 21 [pT p,iV first] W fun v w'=>v=.pointer (some ⟨W.heap.size+1,0,none⟩)∧DwO (fun k=>W.heap.size≤k∧k<w'.heap.size) w'.heap (W.heap.size+1) p first ⟨[],[]⟩∧aA nob W w':=by
 have hpl:=(SZ.1 ht).1;refine(JK p first W ht).mono ?_;rintro e w' ⟨v,rfl,rfl,h1,h2⟩;exact⟨_,rfl,rfl,h1.tight (fun k hk h=>⟨h,hk⟩) (fun h=>by omega),h2⟩
theorem HG(A:Nat→Prop)(g p first:Nat)(s:DS)(bo:Option Addr)(bc:Nat)(b:By)(W:World)(hM:DwO A W.heap g p first s)(hv:Vw b8 W.heap bo bc b)(hfi:first≤1000)(hb:s.B.length≤1099511627776)(hbl:b.length≤1048576) :
 CA 66 [pT g,.slice bo b.length bc] W fun v w'=>∃ o c,v=.tuple #[iV ((fA first s b).2:Nat),.slice o (cV b).length c]∧Own b8 5 w'.heap o c (cV b)∧Fr W.heap.size o∧DwO (fun k=>Nx A W w' k∧¬ blk o k) w'.heap g p first (fA first s b).1∧aA A W w':=by
 obtain⟨ht,hp⟩:=hM.tab;have hpl:=(SZ.1 ht).1;refine(JM (fun k=>A k∨W.heap.size≤k) g p first s bo bc b W (hM.mono (fun k h=>.inl h) (fun h=>h.elim hp (fun h=>by omega))) (fun k h=>.inr h) hv hfi hb hbl).mono ?_;rintro e w' ⟨v,rfl,o,c,rfl,h1,h2,h3,h4⟩;exact⟨_,rfl,o,c,rfl,h1,h2,h3.tight (fun k hk h=>⟨h.1.imp id (fun h=>⟨h,hk⟩),h.2⟩) (fun h=>h.1.elim hp (fun h=>by omega)),h4.nx⟩
theorem Cw(A:Nat→Prop)(g p first:Nat)(s:DS)(bo:Option Addr)(bc:Nat)(b:By)(W:World)(hM:DwO A W.heap g p first s)(hv:Vw b8 W.heap bo bc b)(hfi:first≤1000)(hb:s.B.length≤1099511627776)(hbl:b.length≤128) :
 CA 69 [pT g,.slice bo b.length bc] W fun v w'=>v=iV ((kO first s b).2:Nat)∧DwO (Nx A W w') w'.heap g p first (kO first s b).1∧aA A W w':=by
 obtain⟨ht,hp⟩:=hM.tab;have hpl:=(SZ.1 ht).1;refine(EZ (fun k=>A k∨W.heap.size≤k) g p first s bo bc b W (hM.mono (fun k h=>.inl h) (fun h=>h.elim hp (fun h=>by omega))) (fun k h=>.inr h) hv hfi hb hbl).mono ?_;rintro e w' ⟨v,rfl,rfl,h3,h4⟩;exact⟨_,rfl,rfl,h3.tight (fun k hk h=>h.imp id (fun h=>⟨h,hk⟩)) (fun h=>h.elim hp (fun h=>by omega)),h4.nx⟩
section
open Go Go.RowKit Go.Maps
structure PiA where
 lo:Option Addr
 lc:Nat
 io:Option Addr
 ic:Nat
 g1:Nat
 g2:Nat
 g3:Nat
 r:Nat
 f:Nat
 z:Nat
def piC(a:PiA)(n m:Nat):List Value:=[pT a.g1,pT a.g2,pT a.g3,.slice a.lo n a.lc,.slice a.io m a.ic,.map (some a.r),.map (some a.f),.map (some a.z)]
def fl0(f:Ino):Ino:=(fun j=>if j=0 then 0 else f.1 j,f.2)
def yP(f:Ino):Value:=.agg (EM f).toArray
def vD(m:List (I6×Value))(refs:List Int):Prop:=∀ a:I6,1≤a.1→bP m a=if 0<refs.getD a.1.toNat 0 then some (iV (refs.getD a.1.toNat 0-1)) else none
def CJ(m:List (I6×Value))(files:List Ino):Prop:=∀ a:I6,1≤a.1→bP m a=if (files.getD a.1.toNat bA).1 0=2 then some (yP (fl0 (files.getD a.1.toNat bA))) else none
def CF(m:List (SK×Value))(sets:List (List Xa×Int)):Prop:=∀ X,dS X→X≠[]→bP m (iY (cO X))=(sets.find? (fun y=>decide (y.1=X))).map (fun y=>iV y.2)
def PiX(z:Nat)(a:PiA)(ow:Nat→Nat)(H:Array Obj)(g tp:Nat)(qs:List (NdH×Nd))(ids:List Int)(files:List Ino)(s:BSt):Prop:=
 (H[g]?=some (.cells (piC a qs.length ids.length).toArray 62 (0,0))∧ow g=6)∧(aR (fun k=>ow k=4) H a.lo a.lc qs∧(qs≠[]→∀ k,blk a.lo k→ow k=4))∧(Vw i64 H a.io a.ic ids∧(ids≠[]→∀ k,blk a.io k→ow k=4))∧(TbV H tp∧ow tp=4) ∧
 (z≠1→MwO (fun k=>ow k=1) H a.g1 tp (cT [] s.ino).1 (cT [] s.ino).2)∧(z≠2→MwO (fun k=>ow k=2) H a.g2 tp (cT [] s.lst).1 (cT [] s.lst).2)∧(z≠3→MwO (fun k=>ow k=3) H a.g3 tp (cT [] s.fur).1 (cT [] s.fur).2) ∧
 (ow a.r=5∧(z≠5→∃ m,cG enI H a.r m∧vD m s.refs∧m.length=(qS s).length))∧(ow a.f=7∧(z≠7→∃ m,cG enI H a.f m∧CJ m files))∧(ow a.z=8∧(z≠8→∃ m,cG enS H a.z m∧CF m s.sets))
section
variable {a:PiA}{ow ow':Nat→Nat}{g tp:Nat}{qs:List (NdH×Nd)}{ids:List Int}{files:List Ino}{s:BSt}{w w':World}
theorem PiX.step{S:Nat→Prop}(h:PiX 0 a ow w.heap g tp qs ids files s)(f:aA S w w')(z:Nat)(hz:z≠4∧z≠6)(hS:∀ k,S k→ow k=z∨ow k=0)(ho:∀ k,ow k≠0→ow' k=ow k):PiX z a ow' w'.heap g tp qs ids files s:=by
 obtain⟨⟨b1,b2⟩,⟨n1,n2⟩,⟨i1,i2⟩,⟨t1,t2⟩,w1,w2,w3,⟨r1,r2⟩,⟨f1,f2⟩,z1,z2⟩:=h;have key:∀ c,c≠0→c≠z→∀ k,ow k=c→¬ S k:=fun c h0 h1 k hk hs=>by rcases hS k hs with h|h<;>omega
 have kz:∀ c,c≠0→∀ k,ow k=c→ow' k=c:=fun c h0 k hk=>by rw[ho k (by omega)];exact hk
 have tb:¬ S tp:=key 4 (by decide) (fun h=>hz.1 h.symm) tp t2;have tn:∀ c,c≠4→¬ ow' tp=c:=fun c hc=>by rw[kz 4 (by decide) tp t2];exact fun h=>hc h.symm
 have d4:=key 4 (by decide) (fun h=>hz.1 h.symm);refine⟨⟨f.obj b1 (key 6 (by decide) (fun h=>hz.2 h.symm) g b2),kz 6 (by decide) g b2⟩,⟨B7 n1 f d4 (fun hne k hk=>d4 k (n2 hne k hk)) (kz 4 (by decide)),fun hne k hk=>kz 4 (by decide) k (n2 hne k hk)⟩,
  ⟨i1.keep' f (fun hne b hb=>d4 _ (i2 hne _ ⟨b,hb,rfl⟩)),fun hne k hk=>kz 4 (by decide) k (i2 hne k hk)⟩,⟨f.obj t1 tb,kz 4 (by decide) tp t2⟩,
  fun hc=>((w1 (by decide)).SO f (key 1 (by decide) (fun h=>hc h.symm)) tb).mono (kz 1 (by decide)) (tn 1 (by decide)),fun hc=>((w2 (by decide)).SO f (key 2 (by decide) (fun h=>hc h.symm)) tb).mono (kz 2 (by decide)) (tn 2 (by decide)),
  fun hc=>((w3 (by decide)).SO f (key 3 (by decide) (fun h=>hc h.symm)) tb).mono (kz 3 (by decide)) (tn 3 (by decide)),
  ⟨kz 5 (by decide) _ r1,fun hc=>?_⟩,⟨kz 7 (by decide) _ f1,fun hc=>?_⟩,kz 8 (by decide) _ z1,fun hc=>?_⟩
 · obtain⟨m,m1,m2⟩:=r2 (by decide)
   exact⟨m,m1.SO f (key 5 (by decide) (fun h=>hc h.symm) _ r1),m2⟩
 · obtain⟨m,m1,m2⟩:=f2 (by decide)
   exact⟨m,m1.SO f (key 7 (by decide) (fun h=>hc h.symm) _ f1),m2⟩
 · obtain⟨m,m1,m2⟩:=z2 (by decide)
   exact⟨m,m1.SO f (key 8 (by decide) (fun h=>hc h.symm) _ z1),m2⟩
theorem PiX.SN(h:PiX 0 a ow w.heap g tp qs ids files s)(f:aA nob w w'):PiX 0 a ow w'.heap g tp qs ids files s:=h.step f 0 (by decide) (fun k h=>h.elim) (fun _ _=>rfl)
def mX(W w':World)(z:Nat)(ow:Nat→Nat):Nat→Nat:=fun k=>if k<W.heap.size then ow k else if k<w'.heap.size then z else 0
theorem iG{W:World}(z:Nat)(ow:Nat→Nat){k:Nat}(h:k<W.heap.size):mX W w' z ow k=ow k:=SQ h
theorem jN{W:World}(z:Nat)(ow:Nat→Nat)(hs:W.heap.size≤w'.heap.size){k:Nat}(h:w'.heap.size≤k):mX W w' z ow k=0:=by unfold mX;rw[SP (by omega),SP (by omega)]
theorem fP{W:World}(z:Nat)(hn:∀ k,W.heap.size≤k→ow k=0){k:Nat}(h:ow k≠0):mX W w' z ow k=ow k:=iG z ow (S4 fun hc=>h (hn k (by omega)))
theorem lR{W:World}(z:Nat)(hn:∀ k,W.heap.size≤k→ow k=0)(hz:z≠0){k:Nat}(h:Nx (fun k=>ow k=z) W w' k):mX W w' z ow k=z:=by
 rcases h with h|⟨h1,h2⟩
 ·rw[fP z hn (by omega)];exact h
 ·unfold mX;rw[SP (by omega),SQ h2]
def jB(a:PiA)(ow:Nat→Nat)(W:World)(g tp:Nat)(qs:List (NdH×Nd))(ids:List Int)(files:List Ino)(s':BSt)(w':World):Prop:=
 ∃ ow':Nat→Nat,PiX 0 a ow' w'.heap g tp qs ids files s'∧(∀ k,k<W.heap.size→ow' k=ow k)∧(∀ k,w'.heap.size≤k→ow' k=0)∧aA (Lb ow) W w'
theorem jB.trans{W:World}{s1 s2:BSt}{ow1:Nat→Nat}{w1:World}(h1:∀ k,k<W.heap.size→ow1 k=ow k)(f1:aA (Lb ow) W w1)(h:jB a ow1 w1 g tp qs ids files s2 w'):jB a ow W g tp qs ids files s2 w':=by
 obtain⟨ow2,a1,a2,a3,a4⟩:=h;refine⟨ow2,a1,fun k hk=>by rw[a2 k (by have:=f1.size;omega),h1 k hk],a3,f1.SJ a4 (fun k hk=>?_)⟩;by_cases hk2:k<W.heap.size
 ·left;unfold Lb at hk ⊢;rw[h1 k hk2] at hk;exact hk
 ·right;omega
theorem Eo(bo:Option Addr)(bc:Nat)(b:By)(W:World)(hM:PiX 0 a ow W.heap g tp qs ids files s)(hn:∀ k,W.heap.size≤k→ow k=0)(hv:Vw b8 W.heap bo bc b)(hl:s.ino.length+b.length≤274877906944) :
 CA 26 [pT a.g1,.slice bo b.length bc] W fun v w'=>v=iV (bM s.ino s.ino.length:Nat)∧jB a ow W g tp qs ids files { s with ino:=s.ino++b } w':=by
 obtain⟨_,_,_,⟨_,ht⟩,w1,w2,w3,_⟩:=id hM;refine(nY (fun k=>ow k=1) a.g1 tp s.ino bo bc b W (w1 (by decide)) hv hl).mono ?_;rintro e w' ⟨v,rfl,rfl,h1,h2⟩;have hs:=h2.size;obtain⟨b0,b1,b2,b3,c1,c2,c3,b4⟩:=hM.step h2 1 (by decide) (fun k hk=>.inl hk) (fun k hk=>fP (w':=w') 1 hn hk);have hw:=h1.mono (D':=fun k=>mX W w' 1 ow k=1) (fun k hk=>lR 1 hn (by decide) hk) (by rw[fP 1 hn (by omega),ht];decide);exact⟨_,rfl,rfl,mX W w' 1 ow,⟨b0,b1,b2,b3,fun _=>hw,fun _=>c2 (by decide),fun _=>c3 (by decide),b4.1.imp id (fun h _=>h (by decide)),b4.2.1.imp id (fun h _=>h (by decide)),b4.2.2.imp id (fun h _=>h (by decide))⟩,fun k hk=>iG 1 ow hk,fun k hk=>jN 1 ow hs hk,h2.mono (fun k hk=>by unfold Lb;omega)⟩
theorem Em(bo:Option Addr)(bc:Nat)(b:By)(W:World)(hM:PiX 0 a ow W.heap g tp qs ids files s)(hn:∀ k,W.heap.size≤k→ow k=0)(hv:Vw b8 W.heap bo bc b)(hl:s.lst.length+b.length≤274877906944) :
 CA 26 [pT a.g2,.slice bo b.length bc] W fun v w'=>v=iV (bM s.lst s.lst.length:Nat)∧jB a ow W g tp qs ids files { s with lst:=s.lst++b } w':=by
 obtain⟨_,_,_,⟨_,ht⟩,w1,w2,w3,_⟩:=id hM;refine(nY (fun k=>ow k=2) a.g2 tp s.lst bo bc b W (w2 (by decide)) hv hl).mono ?_;rintro e w' ⟨v,rfl,rfl,h1,h2⟩;have hs:=h2.size;obtain⟨b0,b1,b2,b3,c1,c2,c3,b4⟩:=hM.step h2 2 (by decide) (fun k hk=>.inl hk) (fun k hk=>fP (w':=w') 2 hn hk);have hw:=h1.mono (D':=fun k=>mX W w' 2 ow k=2) (fun k hk=>lR 2 hn (by decide) hk) (by rw[fP 2 hn (by omega),ht];decide);exact⟨_,rfl,rfl,mX W w' 2 ow,⟨b0,b1,b2,b3,fun _=>c1 (by decide),fun _=>hw,fun _=>c3 (by decide),b4.1.imp id (fun h _=>h (by decide)),b4.2.1.imp id (fun h _=>h (by decide)),b4.2.2.imp id (fun h _=>h (by decide))⟩,fun k hk=>iG 2 ow hk,fun k hk=>jN 2 ow hs hk,h2.mono (fun k hk=>by unfold Lb;omega)⟩
theorem El(bo:Option Addr)(bc:Nat)(b:By)(W:World)(hM:PiX 0 a ow W.heap g tp qs ids files s)(hn:∀ k,W.heap.size≤k→ow k=0)(hv:Vw b8 W.heap bo bc b)(hl:s.fur.length+b.length≤274877906944) :
 CA 26 [pT a.g3,.slice bo b.length bc] W fun v w'=>v=iV (bM s.fur s.fur.length:Nat)∧jB a ow W g tp qs ids files { s with fur:=s.fur++b } w':=by
 obtain⟨_,_,_,⟨_,ht⟩,w1,w2,w3,_⟩:=id hM;refine(nY (fun k=>ow k=3) a.g3 tp s.fur bo bc b W (w3 (by decide)) hv hl).mono ?_;rintro e w' ⟨v,rfl,rfl,h1,h2⟩;have hs:=h2.size;obtain⟨b0,b1,b2,b3,c1,c2,c3,b4⟩:=hM.step h2 3 (by decide) (fun k hk=>.inl hk) (fun k hk=>fP (w':=w') 3 hn hk);have hw:=h1.mono (D':=fun k=>mX W w' 3 ow k=3) (fun k hk=>lR 3 hn (by decide) hk) (by rw[fP 3 hn (by omega),ht];decide);exact⟨_,rfl,rfl,mX W w' 3 ow,⟨b0,b1,b2,b3,fun _=>c1 (by decide),fun _=>c2 (by decide),fun _=>hw,b4.1.imp id (fun h _=>h (by decide)),b4.2.1.imp id (fun h _=>h (by decide)),b4.2.2.imp id (fun h _=>h (by decide))⟩,fun k hk=>iG 3 ow hk,fun k hk=>jN 3 ow hs hk,h2.mono (fun k hk=>by unfold Lb;omega)⟩
end
end
section
open Go Go.RowKit Go.Maps
theorem Bc{s t A B:By}(hs:s.length≤255)(ht:t.length≤255)(h:zA s++A=zA t++B):s=t∧A=B:=by
 unfold zA at h;simp only[T1,Ux.injEq] at h;have hl:s.length=t.length:=by
  have:=congrArg UInt8.toNat h.1;rw[TO,TO] at this;omega
 exact UY h.2 hl
theorem Bd:∀ {X Y:List Xa},(∀ x∈X,x.1.length≤255∧x.2.length≤255)→(∀ x∈Y,x.1.length≤255∧x.2.length≤255)→X.length=Y.length→X.flatMap iW=Y.flatMap iW→X=Y
|[],[],_,_,_,_=>rfl
|[],y::r,_,_,h,_=>by simp at h
|x::r,[],_,_,h,_=>by simp at h
|x::r,y::q,hX,hY,hl,h=>by
   have hx:=hX x (by simp);have hy:=hY y (by simp);rw[TN,TN] at h;unfold iW at h;rw[To,To] at h;obtain⟨e1,h1⟩:=Bc hx.1 hy.1 h;obtain⟨e2,h2⟩:=Bc hx.2 hy.2 h1;rw[Bd (fun z hz=>hX z (by simp[hz])) (fun z hz=>hY z (by simp[hz])) (by simpa using hl) h2,U3 e1 e2]
theorem yL{X:List Xa}(h:dS X):∀ x∈X,x.1.length≤255∧x.2.length≤255:=fun x hx=>by
 obtain⟨i,hi,rfl⟩:=TG hx;obtain⟨_,g2,_,g4⟩:=h.1 i hi;have e:X.getD i x0=X[i]:=by simp[S6,hi]
 rw[e] at g2 g4;omega
theorem EX{X Y:List Xa}(hX:dS X)(hY:dS Y)(h:cO X=cO Y):X=Y:=by
 unfold cO at h;rw[Ux.injEq] at h;have hl:X.length=Y.length:=by
  have:=congrArg UInt8.toNat h.1;rw[TO,TO] at this;have:=hX.2;have:=hY.2;omega
 exact Bd (yL hX) (yL hY) hl h.2
theorem CF.put{m:List (SK×Value)}{sets:List (List Xa×Int)}(h:CF m sets){X:List Xa}(hX:dS X)(h0:X≠[])(hl:(cO X).length≤maxLen)(hno:bP m (iY (cO X))=none)(v:Int):CF (bW m (iY (cO X)) (iV v)) (sets++[(X,v)]):=by
 intro Y hY hY0;have hYl:(cO Y).length≤maxLen:=by have:=pN hY;unfold maxLen;omega
 rw[gY,List.find?_append];by_cases e:Y=X
 · subst e
   have hn:=h Y hY hY0;rw[hno] at hn;have hn:sets.find? (fun y=>decide (y.1=Y))=none:=by
    cases hf:sets.find? (fun y=>decide (y.1=Y)) with
   |none=>rfl
   |some y=>rw[hf] at hn;cases hn
   rw[SQ rfl,hn];simp
 · rw[SP (fun he=>e (EX hY hX (by have:=congrArg Subtype.val he;rwa[nL hYl,nL hl] at this))),h Y hY hY0]
   have hx:[(X,v)].find? (fun y=>decide (y.1=Y))=none:=by
    simp only[List.find?_cons,List.find?_nil];rw[SU (fun h=>e h.symm)]
   rw[hx];cases sets.find? (fun y=>decide (y.1=Y))<;>rfl
theorem Gh(a:PiA)(ow:Nat→Nat)(g tp:Nat)(qs:List (NdH×Nd))(ids:List Int)(files:List Ino)(s:BSt)(p:NdH×Nd)(W:World)(hM:PiX 0 a ow W.heap g tp qs ids files s)(hn:∀ k,W.heap.size≤k→ow k=0)(hp:NdV (fun k=>ow k=4) W.heap p)(hX:dS p.2.xs)(hb:s.fur.length≤137438953472)(hR:∀ y∈s.sets,0≤y.2∧y.2≤1152921504606846976) :
 CA 73 [pT g,.agg (aE p).toArray] W fun v w'=>v=iV (bH s p.2.xs).1∧jB a ow W g tp qs ids files (bH s p.2.xs).2 w':=by
 obtain⟨⟨hg,hg6⟩,_,_,_,_,_,_,_,_,hz8,hzm⟩:=id hM;obtain⟨mz,hmz,hms⟩:=hzm (by decide);obtain⟨X,hXe⟩:∃ X,X=p.2.xs:=⟨_,rfl⟩
 obtain⟨_,_,hxv⟩:=hp;have hxn:p.1.xs.n=X.length:=by rw[hXe];exact hxv.1
 rw[←hXe] at hX hxv ⊢;have hxl:=pN hX;have hxm:(cO X).length≤maxLen:=by unfold maxLen;omega
 have hlg:=(SZ.1 hg).1;refine cS 45 [(0,_),(1,_)] Tryz.func73 ?_;refine Gz 2 ?_;refine Px rfl rfl ?_;intro w1 hg1 hs1 hf1;have hg1:w1.heap[W.heap.size]?=some (.cells (aE p).toArray 37 (0,0)):=hg1;have hM1:=hM.SN hf1;refine Gz 6 ?_;refine cL (O7 (u:=.slice p.1.xs.a X.length p.1.xs.c) (O8 cJ rfl (aD hg1 rfl)) (by rw[←hxn];rfl)) ?_;refine O6 MJ rfl (IM p.1.xs.a p.1.xs.c X w1 ((XsV.SO hxv hf1 (fun _ _=>id)).xav (fun x hx=>by have:=(yL hX x hx).1;unfold maxLen;omega))) rfl ?_;rintro _ w2 ⟨bo,bc,rfl,ho2,hfr2,hf2⟩;have hF2:=hf1.trans hf2;have hM2:=hM1.SN hf2;refine fK 11 ?_ ?_<;>intro h16
 ·have h0:X=[]:=S4 fun hc=>h16 (by rw[lL hX (S8.2 hc)]);have hfu:bH s X=(0,s):=EQ (by rw[h0];rfl);refine Gz 11 ?_;exact⟨_,rfl,by rw[hfu],by rw[hfu];exact⟨ow,hM2,fun _ _=>rfl,fun k hk=>hn k (by have:=hF2.size;omega),hF2.any⟩⟩
 have hX0:X≠[]:=fun e=>h16 (by rw[e];decide);have hpx:=lL hX (S8.2 hX0);rw[hpx] at ho2 ⊢;obtain⟨B,hB⟩:∃ B,B=cO X:=⟨_,rfl⟩
 have ho2:Own b8 5 w2.heap bo bc B:=by rw[hB];exact ho2
 rw[show ((cO X,(0:Int)):By×Int).1=B from hB.symm];have hBs:(iY (cO X))=⟨B,by rw[hB];exact hxm⟩:=Subtype.ext (by rw[nL hxm];exact hB.symm);have hfx:=hms X hX hX0;rw[hBs] at hfx;refine Gz 6 ?_;refine Pk 12 (fun H=>H[g]?=some (.cells (piC a qs.length ids.length).toArray 62 (0,0))∧Vw b8 H bo bc B∧cG enS H a.z mz) [] [0,1,2,3,4,5,6,7,8,9,10,11] aJ (by kernel_rfl) (⟨hF2.obj hg id,ho2.vw,hmz.SO hF2 id⟩) ?_;refine Gz 5 ?_;refine xC rfl (Qp aN ty5 ty9 rfl (fun H hH=>hH.2.1)) ?_;refine xC rfl (PL mpS AO (a:=⟨B,by rw[hB];exact hxm⟩) rfl rfl (fun H hH=>hH.2.2)) ?_;refine Gz 11 ?_;refine PD (Qg rfl) rfl (fun h28=>?_) (fun h28=>?_)
 ·have hno:s.sets.find? (fun y=>decide (y.1=X))=none:=by
   cases hf:s.sets.find? (fun y=>decide (y.1=X)) with
  |none=>rfl
  |some y=>rw[hfx,hf] at h28;simp at h28
  have hrb:=BQ (T:=s.fur) (o:=s.fur.length) (by omega);have hfu:bH s X=(((bM s.fur s.fur.length:Nat):Int)+1,{ s with fur:=s.fur++(iS X).1,sets:=s.sets++[(X,((bM s.fur s.fur.length:Nat):Int))] }):=by
   unfold bH;rw[SP (fun h=>hX0 (S7.1 h)),hno]
  rw[hpx] at hfu;have hz2:=hF2.size;refine Gz 9 ?_;refine cL (O8 sM rfl (by rw[xM];exact aD (i:=2) (hF2.obj hg id) rfl)) ?_;refine Gz 1 ?_;refine O6 Jv rfl (El bo bc B (w2.drewN 1) hM2 (fun k hk=>hn k (by have hk:w2.heap.size≤k:=hk;omega)) ho2.vw (by rw[hB];omega)) rfl ?_;rintro _ w3 ⟨rfl,ow3,hM3,hl3,hn3,hf3⟩;have hf3:aA (Lb ow) w2 w3:=hf3.SL;have hF3:aA (Lb ow) W w3:=hF2.any.trans hf3;have hl3:∀ k,k<w2.heap.size→ow3 k=ow k:=hl3;have ho3:=ho2.SO hf3 (fun b hb h=>by have h1:=hfr2 b hb;have h2:=hf1.size;exact h.1 (hn _ (by omega)));obtain⟨⟨hg3,_⟩,_,_,_,_,_,_,_,_,hz38,hzm3⟩:=id hM3;obtain⟨mz3,hmz3,hms3⟩:=hzm3 (by decide);have hfx3:=hms3 X hX hX0;rw[show ({ s with fur:=s.fur++B }:BSt).sets=s.sets from rfl,hno] at hfx3;have hkey:=hfx3;rw[hBs] at hkey;refine Gz 3 ?_;refine Pk 7 (fun H=>H[g]?=some (.cells (piC a qs.length ids.length).toArray 62 (0,0))∧Vw b8 H bo bc B) [7] [0,1,2,3,4,5,6,7] aJ (by kernel_rfl) (⟨hg3,ho3.vw⟩) ?_;refine Gz 5 ?_;refine xC rfl (Qp aN ty5 ty9 rfl (fun H hH=>hH.2)) ?_;refine Gz 1 ?_;refine Ph rfl rfl (Py mpS AO (a:=⟨B,by rw[hB];exact hxm⟩) rfl rfl rfl hmz3 ?_);intro w4 hm4 hs4 hf4;refine PN rfl ?_;have hf4:aA (· = a.z) w3 w4:=hf4.SL;rw[←hBs] at hm4;have hst:=hM3.step hf4 8 (by decide) (fun k hk=>.inl (by have h:k=a.z:=hk;rw[h];exact hz38)) (fun _ _=>rfl);obtain⟨c0,c1,c2,c3,c4,c5,c6,c7,c8,c9,_⟩:=hst;have hM4:PiX 0 a ow3 w4.heap g tp qs ids files { s with fur:=s.fur++cO X,sets:=s.sets++[(X,((bM s.fur s.fur.length:Nat):Int))] }:=by
   rw[←hB];exact⟨c0,c1,c2,c3,fun _=>c4 (by decide),fun _=>c5 (by decide),fun _=>c6 (by decide),c7.imp id (fun h _=>h (by decide)),c8.imp id (fun h _=>h (by decide)),c9,fun _=>⟨_,hm4,hms3.put hX hX0 hxm hfx3 _⟩⟩
  have hz4:=hf4.size;have hz3:=hf3.size;have hF4:aA (Lb ow) W w4:=hF3.SJ hf4 (fun k hk=>.inl (by have h:k=a.z:=hk;rw[h];unfold Lb;omega));refine Gz 11 ?_
  first
  |exact⟨_,rfl,by rw[hfu],by rw[hfu];exact⟨ow3,hM4,fun k hk=>hl3 k (by omega),fun k hk=>hn3 k (by omega),hF4⟩⟩
  |exact⟨_,rfl,by rw[hfu],by rw[hfu];exact⟨ow,hM2,fun _ _=>rfl,fun k hk=>hn k (by have h1:=hF2.size;have h2:w2.heap.size≤k:=hk;omega),hF2.any.draws 1⟩⟩
 obtain⟨y,hy⟩:∃ y,s.sets.find? (fun y=>decide (y.1=X))=some y:=by
  cases hf:s.sets.find? (fun y=>decide (y.1=X)) with
 |none=>rw[hfx,hf] at h28;simp at h28
 |some y=>exact⟨y,rfl⟩
 have eg:(bP mz ⟨B,by rw[hB];exact hxm⟩).getD (iV 0)=iV y.2:=by rw[hfx,hy];rfl
 rw[eg];have hfu:bH s X=(y.2+1,s):=by
  unfold bH;rw[SP (fun h=>hX0 (S7.1 h)),hy]
 have hyb:=hR y (UC hy);refine Gz 14 ?_
 first
 |exact⟨_,rfl,by rw[hfu],by rw[hfu];exact⟨ow3,hM4,fun k hk=>hl3 k (by omega),fun k hk=>hn3 k (by omega),hF4⟩⟩
 |exact⟨_,rfl,by rw[hfu],by rw[hfu];exact⟨ow,hM2,fun _ _=>rfl,fun k hk=>hn k (by have h1:=hF2.size;have h2:w2.heap.size≤k:=hk;omega),hF2.any.draws 1⟩⟩
end
theorem IP{l:List Int}(hr:l.Pairwise (· < ·)){e:Nat}{z:Int}(he:l[e]?=some z):sZ l z=e∧∀ q,q<l.length→(l.getD q 0<z↔q<e):=by
 obtain⟨hel,hez⟩:=SV.1 he;have key:∀ q,q<l.length→(l.getD q 0<z↔q<e):=fun q hq=>by
  have hd:l.getD q 0=l[q]:=by rw[S6,SS hq];rfl
  rw[hd];have hp:=TA.1 hr;constructor
  · intro h
    apply S4;intro hc;rcases Nat.lt_or_eq_of_le (Nat.le_of_not_lt hc) with h1|h1
    ·have:=hp e q hel hq h1;rw[hez] at this;omega
    ·subst h1;rw[hez] at h;omega
  · intro h
    have:=hp q e hq hel h;rw[hez] at this;exact this
 refine⟨?_,key⟩;unfold sZ;have h:l.findIdx? (fun x=>decide (x=z))=some e:=by
  rw[T2];refine⟨hel,by simpa using hez,fun j hj=>?_⟩;have h1:=(key j (by omega)).2 hj;have hd:l.getD j 0=l[j]'(by omega):=by rw[S6,SS (by omega)];rfl
  rw[hd] at h1;simp only[decide_eq_true_eq];omega
 rw[h]
theorem H0(lo:Option Addr)(lc:Nat)(l:List Int)(z:Int)(W:World)(hv:Vw i64 W.heap lo lc l)(hr:l.Pairwise (· < ·))(hz:z∈l)(hll:l.length≤1099511627776) :
 CA 72 [.slice lo l.length lc,iV z] W fun v w'=>v=.tuple #[iV (sZ l z),.bool true]∧w'=W:=by
 obtain⟨e,he⟩:=Te hz;obtain⟨hpe,hlt⟩:=IP hr he;obtain⟨hel,hez⟩:=SV.1 he;have hed:l.getD e 0=z:=by rw[S6,he];rfl
 refine cS 54 [(0,_),(1,_)] Tryz.func72 ?_;refine Gz 22 ?_;refine Pb (β:=Nat×Nat) (fun⟨i,j⟩=>[(0,.slice lo l.length lc),(1,iV z),(6,iV l.length),(7,iV i),(8,iV j)]) (fun⟨i,j⟩ w=>i≤e∧e≤j∧j≤l.length∧w=W) (fun⟨i,j⟩=>j-i) ⟨0,l.length⟩ ⟨rfl,rfl,rfl,rfl,rfl,trivial⟩ ⟨S3 _,Nat.le_of_lt hel,SY _,rfl⟩ ?_;rintro⟨i,j⟩ w2 ⟨hie,hej,hjl,hw⟩;subst w2;refine fK 5 ?_ ?_<;>intro h15
 ·have hij:i<j:=by omega
  refine Gz 11 ?_;refine cL (Pj (n:=((i:Int)+j)) is3 Fs rfl (zO (by omega))) ?_;refine cL (Qh rfl rfl (by decide)) ?_;refine cL (Pj (n:=(((i+j)/2:Nat):Int)) GT ty3 rfl (AR (by omega))) ?_;obtain⟨q,hq⟩:∃ q:Nat,q=(i+j)/2:=⟨_,rfl⟩
  rw[←hq];have hql:q<l.length:=by omega
  have hqe:=hlt q hql;refine Gz 7 ?_;refine cL (O5 bR rfl rfl hv.non (by omega)) ?_;refine cL (O8 aK rfl (hv.gz 0 q rfl hql)) ?_;refine cA 1 Kl (vQ (l.getD q 0) z W) ?_;rintro _ wq ⟨rfl,hwq⟩;subst wq;by_cases h27:l.getD q 0<z
  ·rw[SX h27];refine Gz 9 ?_;exact aG ⟨q+1,j⟩ ⟨by have:=hqe.1 h27;omega,hej,hjl,rfl⟩ (by show j-(q+1)<j-i;omega)
  rw[SU h27];refine Gz 8 ?_;exact aG ⟨i,q⟩ ⟨hie,by have:¬ q<e:=fun h=>h27 (hqe.2 h);omega,by omega,rfl⟩ (by show q-i<j-i;omega)
 have hie:i=e:=by omega
 subst hie;refine Gz 13 ?_;refine cL (PQ (P5 rfl rfl) (by omega)) ?_;refine Gz 3 ?_;refine cW (O5 bR rfl rfl hv.non (by omega)) ?_;refine cW (O8 aK rfl (hv.gz 0 i rfl hel)) ?_;refine Gz 1 ?_;refine cW (PQ (PK rfl rfl) hed) ?_;refine Gz 18 ?_;exact⟨_,rfl,by rw[hpe],rfl⟩
theorem Ie(D:Nat→Prop)(p:Nat)(E:Int)(xs:By)(W:World)(hP:WrL D W.heap p E xs)(hb:xs.length≤1099511627776) :
 CA 82 [pT p] W fun v w'=>v=iV (iX E xs).length∧aA nob W w':=by
 refine cS 6 [(0,_)] Tryz.func82 ?_;refine cA 8 yV (eP D p E xs W hP hb) ?_;rintro _ w1 ⟨o1,c1,rfl,ho1,hfr1,hf1⟩;refine Gz 6 ?_;exact⟨_,rfl,rfl,hf1⟩
theorem SE{cs:Int→Value→List Value}{T:TypeId}{A:Nat→Prop}{W w':World}{p:Nat}{E:Int}{xs:By}(h:WrO cs T (fun k=>A k∨W.heap.size≤k) w'.heap p E xs):WrO cs T (Nx A W w') w'.heap p E xs:=
 h.bound (fun k hk hl=>hk.imp id (fun h=>⟨h,hl⟩))
theorem rH(A:Nat→Prop)(p:Nat)(xs:By)(x n:Int)(W:World)(hx:¬ eZ x n)(hP:WrL A W.heap p 0 xs)(hb:xs.length≤1099511627776) :
 CA 76 [pT p,iV x,iV n] W fun v w'=>WrL (Nx A W w') w'.heap p 0 (xs++le x n.toNat)∧aA A W w':=by
 refine(mS (fun k=>A k∨W.heap.size≤k) p 0 xs x n W (WrO.mono hP (fun k h=>.inl h)) (fun k h=>.inr h) hb).mono ?_;rintro e w' ⟨v,rfl,h1,h2⟩;have h0:eD 0 x n=0:=bE hx;rw[h0,gR h0] at h1;exact⟨_,rfl,SE h1,h2.nx⟩
theorem zP(A:Nat→Prop)(p:Nat)(xs:By)(yo:Option Addr)(yc:Nat)(ys:By)(W:World)(hP:WrL A W.heap p 0 xs)(hv:Vw b8 W.heap yo yc ys)(hb:xs.length≤1099511627776)(hb2:ys.length≤1099511627776) :
 CA 81 [pT p,.slice yo ys.length yc] W fun v w'=>WrL (Nx A W w') w'.heap p 0 (xs++ys)∧aA A W w':=by
 refine(lH (fun k=>A k∨W.heap.size≤k) p 0 xs yo yc ys W (WrO.mono hP (fun k h=>.inl h)) (fun k h=>.inr h) hv hb hb2).mono ?_;rintro e w' ⟨v,rfl,h1,h2⟩;exact⟨_,rfl,SE h1,h2.nx⟩
theorem C0(F:Nat→Int)(hm:kD F)(j:Nat)(hj:j<10)(b:Int)(hb:(suL.getD j fdZ).b=b)(A:Nat→Prop)(p:Nat)(W:World)(hP:WrL A W.heap p 0 (suE F j)) :
 CA 76 [pT p,iV (F (suL.getD j fdZ).o),iV b] W fun v w'=>WrL (Nx A W w') w'.heap p 0 (suE F (j+1))∧aA A W w':=by
 subst hb;rw[FG F hj];exact rH A p _ _ _ W (I7 hm hj) hP (by have:=It F j;omega)
theorem FB(tp:Nat)(F:Nat→Int)(W:World)(ht:TbV W.heap tp) :
 CA 29 [pT tp,.agg (cH F).toArray] W (CI W (iB F)):=by
 refine cS 51 [(0,_),(1,_)] Tryz.func29 ?_;refine Gz 2 ?_;refine Px rfl rfl ?_;intro w1 hg1 hs1 hf1;have hg1:w1.heap[W.heap.size]?=some (.cells (cH F).toArray 44 (0,0)):=hg1;obtain⟨g,eg⟩:∃ g,g=W.heap.size:=⟨_,rfl⟩
 rw[←eg] at hg1 ⊢;refine Gz 7 ?_;refine cL (Pi (cs:=cH F) dE rfl (bJ hg1 0 rfl)) ?_;refine cA 0 L2 (zZ F w1) ?_;rintro _ w2 ⟨rfl,hf2⟩;have hg2:=hf2.obj hg1 id;have hW2:=hf1.trans hf2;obtain⟨p,ep⟩:∃ p,p=w2.heap.size:=⟨_,rfl⟩
 by_cases h12:kD F
 ·rw[SX h12];refine cL (Pp rfl) ?_;refine Gz 7 ?_;refine O9 vF rfl ?_;intro w3 hg3 hs3 hf3;rw[←ep] at hg3 ⊢;have hP3:WrL (· = p) w3.heap p 0 []:=Sf hg3 rfl;refine Gz 4 ?_;refine PA aN (cs:=(suM.map b8).toArray) zc5 rfl rfl rfl (by kernel_rfl) rfl ?_;intro w5 hg5 hs5 hf5;have ho5:=iT (e:=5) (enc:=b8) (xs:=suM) hg5 (by decide);refine Rq aN ty5 (xs:=suM) rfl hg5 ho5.vw rfl ?_;intro w6 hv6 hs6 hf6;have hz3:=hf3.size;have hf36:aA nob w3 w6:=hf5.tw hf6;have hF6:=hf3.trans hf36;refine O6 Ha rfl (zP (· = p) p [] _ _ suM w6 (hP3.SN hf36) hv6 (by simp) (by decide)) rfl ?_;rintro _ u0 ⟨hP0,hQ0⟩;have hz6:=hF6.size;have hA0:∀ k,Nx (· = p) w6 u0 k→p≤k∧k<u0.heap.size:=fun k hk=>hk.elim (fun h=>by have h:k=p:=h;have:=hP0.lt;omega) (fun h=>by omega);generalize Nx (· = p) w6 u0=A0 at hP0 hA0;have hP0:WrL A0 u0.heap p 0 (suE F 0):=hP0;have hF0:aA nob w2 u0:=hF6.tw hQ0;have hg0:=hF0.obj hg2 id;have hg_lt:=(SZ.1 hg2).1;refine cA 5 L5 (vK g u0) ?_;rintro _ w7 ⟨l,rfl,ho7,hl1,hl2,hf7⟩;have hF7:=hF0.trans hf7;refine Gz 5 ?_;refine Pb (β:=Nat×(Nat→Prop)) (fun⟨i,A⟩=>[(0,pT tp),(3,pT g),(6,pT p),(17,.slice (some ⟨l,0,none⟩) oW.length 7),(18,iV (oW.length:Nat)),(19,iV i)]) (fun⟨i,A⟩ w=>i≤7∧WrL A w.heap p 0 (suE F i)∧(∀ k,A k→p≤k∧k<w.heap.size∧k≠l)∧w.heap[g]?=some (.cells (cH F).toArray 44 (0,0))∧Own (ptO g) 72 w.heap (some ⟨l,0,none⟩) 7 oW∧aA nob w2 w∧w7.heap.size≤w.heap.size) (fun⟨i,A⟩=>7-i) ⟨0,A0⟩ ⟨rfl,rfl,rfl,rfl,rfl,rfl,trivial⟩ ⟨by decide,hP0.SN hf7,fun k hk=>by have h1:=hA0 k hk;have h2:=hf7.size;omega,hf7.obj hg0 id,ho7,hF7,SY _⟩ ?_;rintro⟨i,A⟩ w8 ⟨hi,hP8,hA,hg8,how,hF8,hz8⟩;refine fK 2 ?_ ?_<;>intro h20
  ·have hi7:i<7:=by have:(i:Int)<(oW.length:Nat):=h20;have e:oW.length=7:=rfl;omega
   refine Gz 10 ?_;refine cL (O5 xY rfl rfl how.vw.non (by have e:oW.length=7:=rfl;omega)) ?_;refine cL (O8 vT rfl (how.vw.gz 0 i rfl (by show i<7;exact hi7))) ?_;rw[(Dn hi7).1];refine Gz 2 ?_;refine aW [(0,_),(3,_),(6,_),(8,_),(17,_),(18,_),(19,_),(20,_)] ?_;refine Gz 4 ?_;refine cL (O8 aK rfl (bB hg8 (zY F (Ab (by omega))))) ?_;refine O6 tU rfl (C0 F h12 i (by omega) 4 (Dn hi7).2 A p w8 hP8) rfl ?_;rintro _ w9 ⟨hP9,hQ9⟩;have hz9:=hQ9.size;have hz8b:=hF8.size;have hF9:aA nob w2 w9:=hF8.SJ hQ9 (fun k hk=>.inr (by have:=(hA k hk).1;omega));have hA9:∀ k,Nx A w8 w9 k→p≤k∧k<w9.heap.size∧k≠l:=fun k hk=>hk.elim (fun h=>by have:=hA k h;omega) (fun h=>by omega);refine Gz 7 ?_;exact aG ⟨i+1,Nx A w8 w9⟩ ⟨by omega,hP9,hA9,hQ9.obj hg8 (fun h=>by have:=(hA _ h).1;omega),how.SO hQ9 (fun a ha h=>by cases ha;exact(hA _ h).2.2 rfl),hF9,by omega⟩ (by show 7-(i+1)<7-i;omega)
  have hi7:i=7:=by have h20:¬ (i:Int)<(oW.length:Nat):=h20;have e:oW.length=7:=rfl;omega
  subst hi7;refine cA 12 L4 (qA g w8) ?_;rintro _ w10 ⟨l2,rfl,ho10,hm1,hm2,hf10⟩;have hF10:=hF8.trans hf10;refine Gz 5 ?_;refine Pb (β:=Nat×(Nat→Prop)) (fun⟨i,A⟩=>[(0,pT tp),(3,pT g),(6,pT p),(28,.slice (some ⟨l2,0,none⟩) oN.length 3),(29,iV (oN.length:Nat)),(30,iV i)]) (fun⟨i,A⟩ w=>i≤3∧WrL A w.heap p 0 (suE F (7+i))∧(∀ k,A k→p≤k∧k<w.heap.size∧k≠l2)∧w.heap[g]?=some (.cells (cH F).toArray 44 (0,0))∧Own (ptO g) 72 w.heap (some ⟨l2,0,none⟩) 3 oN∧aA nob w2 w∧w10.heap.size≤w.heap.size) (fun⟨i,A⟩=>3-i) ⟨0,A⟩ ⟨rfl,rfl,rfl,rfl,rfl,rfl,trivial⟩ ⟨by decide,hP8.SN hf10,fun k hk=>by have h1:=hA k hk;have h2:=hf10.size;omega,hf10.obj hg8 id,ho10,hF10,SY _⟩ ?_;rintro⟨i,A⟩ w8 ⟨hi,hP8,hA,hg8,how,hF8,hz8⟩;refine fK 2 ?_ ?_<;>intro h31
  ·have hi3:i<3:=by have:(i:Int)<(oN.length:Nat):=h31;have e:oN.length=3:=rfl;omega
   refine Gz 10 ?_;refine cL (O5 xY rfl rfl how.vw.non (by have e:oN.length=3:=rfl;omega)) ?_;refine cL (O8 vT rfl (how.vw.gz 0 i rfl (by show i<3;exact hi3))) ?_;rw[(Do hi3).1];refine Gz 2 ?_;refine aW [(0,_),(3,_),(6,_),(10,_),(28,_),(29,_),(30,_),(31,_)] ?_;refine Gz 4 ?_;refine cL (O8 aK rfl (bB hg8 (zY F (Ab (by omega))))) ?_;refine O6 tU rfl (C0 F h12 (7+i) (by omega) 2 (Do hi3).2 A p w8 hP8) rfl ?_;rintro _ w9 ⟨hP9,hQ9⟩;have hz9:=hQ9.size;have hz8b:=hF8.size;have hF9:aA nob w2 w9:=hF8.SJ hQ9 (fun k hk=>.inr (by have:=(hA k hk).1;omega));have hA9:∀ k,Nx A w8 w9 k→p≤k∧k<w9.heap.size∧k≠l2:=fun k hk=>hk.elim (fun h=>by have:=hA k h;omega) (fun h=>by omega);refine Gz 7 ?_;exact aG ⟨i+1,Nx A w8 w9⟩ ⟨by omega,hP9,hA9,hQ9.obj hg8 (fun h=>by have:=(hA _ h).1;omega),how.SO hQ9 (fun a ha h=>by cases ha;exact(hA _ h).2.2 rfl),hF9,by omega⟩ (by show 3-(i+1)<3-i;omega)
  have hi3:i=3:=by have h31:¬ (i:Int)<(oN.length:Nat):=h31;have e:oN.length=3:=rfl;omega
  subst hi3;refine Gz 12 ?_;refine O6 yV rfl (eP A p 0 (suH F) w8 hP8 (by rw[rD];decide)) rfl ?_;rintro _ w11 ⟨o11,c11,rfl,ho11,hfr11,hf11⟩;have ho11:Own b8 5 w11.heap o11 c11 (suH F):=ho11;have hF11:=hF8.trans hf11;have hP11:=hP8.SN hf11;refine cA 0 Lg (BH tp o11 c11 (suH F) w11 ((hW2.trans hF11).obj ht id) ho11.vw) ?_;rintro _ wq ⟨rfl,hwq⟩;subst wq;refine cL (Pj (n:=((iL (suH F):Nat):Int)) K2 ty3 rfl (cD (by have:=rA (suH F);omega))) ?_;refine O6 tU rfl (rH A p (suH F) _ 4 w11 (eX (m:=4294967295) (by decide) (by decide) (UJ _) (by have:=rA (suH F);omega) (by decide)) hP11 (by rw[rD];decide)) rfl ?_;rintro _ u11 ⟨hP12,hQ12⟩;have hF12:aA nob w2 u11:=hF11.SJ hQ12 (fun k hk=>.inr (by have:=(hA k hk).1;omega));have hz11:=hF11.size;have hA12:∀ k,Nx A w11 u11 k→p≤k:=fun k hk=>hk.elim (fun h=>(hA k h).1) (fun h=>by omega);generalize Nx A w11 u11=A12 at hP12 hA12;have hP12:WrL A12 u11.heap p 0 (suX F 0):=by rw[show suX F 0=suH F++le (iL (suH F):Nat) 4 by unfold suX;simp];exact hP12
  refine Gz 1 ?_;refine aW [(0,_),(3,_),(6,_),(28,_),(29,_),(30,_),(31,_)] ?_;refine Gz 3 ?_;refine O6 Oo rfl (Ie A12 p 0 (suX F 0) u11 hP12 (by rw[rB];decide)) rfl ?_;rintro _ w13 ⟨rfl,hf13⟩;rw[show (iX 0 (suX F 0)).length=42 from rB F 0];have hP13:=hP12.SN hf13;have hF13:=hF12.trans hf13;refine cL (O7 (u:=iV 22) (PY rfl rfl (by decide)) rfl) ?_;refine Q2 b8 (0:UInt8) aN z5 rfl rfl rfl (by decide) (by decide) (by decide) (by decide) rfl ?_;intro w14 ho14 hs14 hf14;have ho14:Own b8 5 w14.heap (some ⟨w13.heap.size,0,none⟩) 22 (Tf 22 0):=ho14;have hF14:=hF13.trans hf14;refine O6 Ha rfl (zP A12 p (suX F 0) (some ⟨w13.heap.size,0,none⟩) 22 (Tf 22 0) w14 (hP13.SN hf14) ho14.vw (by rw[rB];decide) (by decide)) rfl ?_;rintro _ w15 ⟨hP15,hQ15⟩;have hF15:aA nob w2 w15:=hF14.SJ hQ15 (fun k hk=>.inr (by have:=hA12 k hk;omega));generalize Nx A12 w14 w15=A15 at hP15;have hP15:WrL A15 w15.heap p 0 (suX F 22):=by rw[show suX F 22=suX F 0++Tf 22 0 by unfold suX;simp];exact hP15
  refine Gz 4 ?_;refine O6 yV rfl (eP A15 p 0 (suX F 22) w15 hP15 (by rw[rB];decide)) rfl ?_;rintro _ w16 ⟨o16,c16,rfl,ho16,hfr16,hf16⟩;have ho16:Own b8 5 w16.heap o16 c16 (suX F 22):=ho16;have hP16:=hP15.SN hf16;refine cA 1 AY (nB A15 p 0 (suX F 22) w16 hP16) ?_;rintro _ wq ⟨rfl,hwq⟩;subst wq;refine Gz 6 ?_
  first
  |exact⟨_,rfl,none,0,by rw[show iB F=([],1) from SP h12];rfl,by rw[show iB F=([],1) from SP h12];exact R8,R6,hW2⟩
  |(have e:iB F=(suX F 22,0):=SQ h12;rw[e];exact⟨_,rfl,o16,c16,rfl,ho16,hfr16.mono (by have:=hF15.size;have:=hW2.size;omega),(hW2.trans hF15).trans hf16⟩)
 rw[SU h12];refine cL (Pp rfl) ?_;refine Gz 12 ?_
 first
 |exact⟨_,rfl,none,0,by rw[show iB F=([],1) from SP h12];rfl,by rw[show iB F=([],1) from SP h12];exact R8,R6,hW2⟩
 |(have e:iB F=(suX F 22,0):=SQ h12;rw[e];exact⟨_,rfl,o16,c16,rfl,ho16,hfr16.mono (by have:=hF15.size;have:=hW2.size;omega),(hW2.trans hF15).trans hf16⟩)
theorem Fm(A:Nat→Prop)(p:Nat)(xs s:By)(W:World)(hs:s.length≤255)(hP:WrL A W.heap p 0 xs)(hb:xs.length≤549755813888) :
 CA 128 [pT p,.string (bs s)] W fun v w'=>WrL (Nx A W w') w'.heap p 0 (xs++(Th s.length::s))∧aA A W w':=by
 refine(nH (fun k=>A k∨W.heap.size≤k) p 0 xs s W (WrO.mono hP (fun k h=>.inl h)) (fun k h=>.inr h) hb).mono ?_;rintro e w' ⟨v,rfl,h1,h2⟩;have e1:mC 0 s=0:=by unfold mC;rw[SP (by decide),SP (by omega)]
 have e2:mO 0 xs s=xs++(Th s.length::s):=by unfold mO;rw[SP (by omega)]
 rw[e1,e2] at h1;exact⟨_,rfl,SE h1,h2.nx⟩
theorem Hz(lo:Option Addr)(lc:Nat)(L:List Ent)(W:World)(hv:VwM 3 uA W.heap lo lc L)(hsm:∀ x∈L,x.1.length≤maxLen)(hll:L.length≤1073741824) :
 CA 121 [.slice lo L.length lc] W (CI W (gC L)):=by
 have h63:=hv.SM;refine cS 33 [(0,_)] Tryz.func121 ?_;refine Gz 8 ?_;refine O9 vF rfl ?_;intro w1 hg1 hs1 hf1;obtain⟨p,ep⟩:∃ p,p=W.heap.size:=⟨_,rfl⟩
 rw[←ep] at hg1 ⊢;have hP1:WrL (· = p) w1.heap p 0 []:=Sf hg1 rfl;have hpl:=(SZ.1 hg1).1;refine Gz 16 ?_;refine Pb (β:=Nat×By×(Nat→Prop)) (fun⟨i,last,A⟩=>[(4,pT p),(5,.string (bs last)),(8,.slice lo L.length lc),(9,iV L.length),(10,iV i)]) (fun⟨i,last,A⟩ w=>i≤L.length∧cI [] (L.take i)∧last=(if i=0 then [] else (L.getD (i-1) Cu).1)∧WrL A w.heap p 0 (bL (L.take i))∧(∀ k,A k→p≤k∧k<w.heap.size)∧aA nob W w) (fun⟨i,last,A⟩=>L.length-i) ⟨0,[],(· = p)⟩ ⟨rfl,rfl,rfl,rfl,rfl,trivial⟩ ⟨S3 _,trivial,rfl,hP1,fun k hk=>by have h:k=p:=hk;omega,hf1⟩ ?_;rintro⟨i,last,A⟩ w2 ⟨hi,hch,hla,hP2,hA,hF2⟩;refine fK 2 ?_ ?_<;>intro h11
 ·have hil:i<L.length:=by omega
  obtain⟨x,hx⟩:∃ x,L[i]?=some x:=⟨_,SS hil⟩
  have hxm:=hsm x (S1 hx);have hv2:=hv.SN hF2;have hchl:=tZ hch;have htl:(L.take i).length=i:=by rw[S2];omega
  have hnext:cI [] L→iM x (if i=0 then [] else (L.getD (i-1) Cu).1):=fun h=>xI h hx;have hz2:=hF2.size;refine Gz 10 ?_;refine cL (Pa C7 rfl rfl hv2.non (by omega)) ?_;refine cL (Pi (cs:=uA x) CE rfl (fun j v hj=>hv2.rowZ i rfl hx j v hj)) ?_;refine O9 Fl rfl ?_;intro w3 hg3 hs3 hf3;obtain⟨q,eq⟩:∃ q,q=w2.heap.size:=⟨_,rfl⟩
  rw[←eq] at hg3 ⊢;refine sA rfl CE (by exact Hx _) hg3 ?_;intro w4 hg4 hs4 hf4;have hF24:aA nob w2 w4:=hf3.tw hf4;have hF4:=hF2.trans hF24;have hz24:=hF24.size;refine Gz 1 ?_;refine aW [(4,_),(5,_),(7,_),(8,_),(9,_),(10,_),(11,_)] ?_;refine Gz 4 ?_;refine cL (Pi (cs:=uA x) CE rfl (bJ hg4 0 rfl)) ?_;refine cA 1 Mu (HA x last w4 hxm) ?_;rintro _ w5 ⟨rfl,hf5⟩;have hg5:=hf5.obj hg4 id;have hF5:=hF4.trans hf5;have hF25:=hF24.trans hf5;have hz5:=hf5.size;by_cases h16:iM x last
  ·rw[SX h16];have hfit:=nW h16;refine cL (Pp rfl) ?_;refine Gz 9 ?_;refine O6 DJ rfl (Fm A p (bL (L.take i)) x.1 w5 hfit.1 (hP2.SN hF25) (by omega)) rfl ?_;rintro _ w6 ⟨hP6,hQ6⟩;have hA6:∀ k,Nx A w5 w6 k→p≤k∧k<w6.heap.size∧k≠q:=fun k hk=>hk.elim (fun h=>by have:=hA k h;have:=hQ6.size;omega) (fun h=>by omega);generalize Nx A w5 w6=A6 at hP6 hA6;have hg6:=hQ6.obj hg5 (fun h=>by have:=(hA _ h).2;omega);have hF6:aA nob W w6:=hF5.SJ hQ6 (fun k hk=>.inr (by have:=(hA k hk).1;omega));refine Gz 6 ?_;refine O6 tU rfl (rH A6 p (bL (L.take i)++(Th x.1.length::x.1)) x.2.1 1 w6 (OW hfit) hP6 (by simp only[SR,Td];have:=hfit.1;omega)) rfl ?_;rintro _ w7 ⟨hP7,hQ7⟩;have hA7:∀ k,Nx A6 w6 w7 k→p≤k∧k<w7.heap.size∧k≠q:=fun k hk=>hk.elim (fun h=>by have:=hA6 k h;have:=hQ7.size;omega) (fun h=>by have:=hQ6.size;omega);generalize Nx A6 w6 w7=A7 at hP7 hA7;have hg7:=hQ7.obj hg6 (fun h=>(hA6 _ h).2.2 rfl);have hF7:aA nob W w7:=hF6.SJ hQ7 (fun k hk=>.inr (by have:=(hA6 k hk).1;omega));refine Gz 6 ?_;refine O6 tU rfl (rH A7 p (bL (L.take i)++(Th x.1.length::x.1)++le x.2.1 1) x.2.2 4 w7 (OV hfit) hP7 (by simp only[SR,Td,bG];have:=hfit.1;omega)) rfl ?_;rintro _ w8 ⟨hP8,hQ8⟩;have hA8:∀ k,Nx A7 w7 w8 k→p≤k∧k<w8.heap.size:=fun k hk=>hk.elim (fun h=>by have:=hA7 k h;have:=hQ8.size;omega) (fun h=>by have:=hQ7.size;have:=hQ6.size;omega);have hg8:=hQ8.obj hg7 (fun h=>(hA7 _ h).2.2 rfl);have hF8:aA nob W w8:=hF7.SJ hQ8 (fun k hk=>.inr (by have:=(hA7 k hk).1;omega));refine Gz 13 ?_;refine aG ⟨i+1,x.1,Nx A7 w7 w8⟩ ⟨by omega,?_,?_,?_,hA8,hF8⟩ (by show L.length-(i+1)<L.length-i;omega)
   · rw[sD hx,qO]
     refine⟨hch,?_⟩;rw[hla] at h16;by_cases hi0:i=0
     ·rw[SQ hi0] at h16;rw[SQ (by rw[hi0];rfl)];exact h16
     ·rw[SP hi0] at h16;rw[SP (fun e=>by rw[e] at htl;simp at htl;omega),Cd (by omega) (by omega)];exact h16
   ·rw[SP (by omega),S6,show i+1-1=i by omega,hx];rfl
   · rw[sD hx,Ct]
     have e:bL (L.take i)++kQ x=bL (L.take i)++(Th x.1.length::x.1)++le x.2.1 1++le x.2.2 4:=by unfold kQ;simp only[To]
     rw[e];exact hP8
  rw[SU h16];have hno:¬ cI [] L:=fun h=>h16 (by rw[hla];exact hnext h);refine cL (Pp rfl) ?_;refine Gz 17 ?_;have e:gC L=([],1):=SP hno;rw[e];exact⟨_,rfl,none,0,rfl,R8,R6,hF5⟩
 have hie:i=L.length:=by omega
 subst hie;rw[TB] at hP2 hch;refine Gz 11 ?_;refine O6 yV rfl (eP A p 0 (bL L) w2 hP2 (by have:=tZ hch;omega)) rfl ?_;rintro _ w3 ⟨o3,c3,rfl,ho3,hfr3,hf3⟩;have ho3:Own b8 5 w3.heap o3 c3 (bL L):=ho3;refine cA 1 AY (nB A p 0 (bL L) w3 (hP2.SN hf3)) ?_;rintro _ wq ⟨rfl,hwq⟩;subst wq;refine Gz 3 ?_;refine aW [(2,_),(3,_),(4,_),(5,_),(8,_),(9,_),(10,_),(11,_)] ?_;refine Gz 3 ?_;have e:gC L=(bL L,0):=SQ hch;rw[e];exact⟨_,rfl,o3,c3,rfl,ho3,hfr3.mono hF2.size,hF2.trans hf3⟩
section
open Go Go.RowKit Go.Maps
section
variable {qs:List (NdH×Nd)}{ids:List Int}{files:List Ino}
theorem G8{s:BSt}{X:List Xa}(h:bdR s)(hb:bdB (bH s X).2):bdR (bH s X).2:=by
 revert hb
 unfold bH
 split
 ·exact fun _=>h
 · split
   ·exact fun _=>h
   · intro hb
     refine⟨h.1,fun y hy=>?_⟩;rcases Tx.1 hy with hy|hy
     ·exact h.2 y hy
     · rw[Tv] at hy
       subst hy;have h3:=hb.2.2.1;simp only[SR] at h3;have:=BQ (T:=s.fur) (o:=s.fur.length) (by omega);exact⟨UJ _,by show ((bM s.fur s.fur.length:Nat):Int)≤_;omega⟩
theorem oM{k:Int}{i:Ino}{s:BSt}(h:bdR s)(hb:bdB (dJ qs ids k i s)):bdR (dJ qs ids k i s):=by
 have h2:=G8 h ((rQ (qs:=qs) (ids:=ids) k i s).bd hb);refine⟨fun z hz=>?_,h2.2⟩;have hz:z∈(bH s (ndB qs k).xs).2.refs.set (ndB qs k).ino.toNat _:=hz;rcases List.mem_or_eq_of_mem_set hz with hz|hz
 ·exact h2.1 z hz
 · have h3:=((rQ (qs:=qs) (ids:=ids) k i s).bd hb).1
   have:=BQ (T:=(bH s (ndB qs k).xs).2.ino) (o:=(bH s (ndB qs k).xs).2.ino.length) (by omega);omega
theorem CR{wr:Int→BSt→BSt}(hw:∀ k s,bdR s→bdB (wr k s)→bdR (wr k s))(hl:∀ k s,leB s (wr k s)):∀ (ys:List Int) (s:BSt),bdR s→bdB (wrK wr qs ys s).1→bdR (wrK wr qs ys s).1
|[],s,h,_=>h
|j::r,s,h,hb=>CR hw hl r (wr j s) (hw j s h ((xO hl r (wr j s)).bd hb)) hb
theorem CU:∀ (n:Nat) (k:Int) (s:BSt),bdR s→bdB (wrB qs ids files n k s)→bdR (wrB qs ids files n k s)
|0,k,s,h,_=>h
|n+1,k,s,h,hb=>by
   revert hb
   unfold wrB
   split
   ·exact fun _=>h
   · split
     ·exact fun hb=>oM h hb
     · split
       ·exact fun hb=>oM h hb
       · split
         · intro hb
           have h1:=(jS _ _ _).bd hb;have h2:=CR (CU n) (xP n) _ s h ((Ca _ _).bd h1);exact oM (show bdR { (wrK (wrB qs ids files n) qs (aX qs (ndB qs k).names qs.length) s).1 with lst:=_ } from h2) hb
         ·exact fun hb=>oM h hb
theorem Kt(G:GdB qs files){n:Nat}{k:Int}{s:BSt}(h:okS qs s)(hb:bdB (wrB qs ids files n k s)):okS qs (wrB qs ids files n k s):=⟨by rw[(xP n k s).r];exact h.r,CU n k s h.b hb,Fp G n k s h.h⟩
structure GdP (qs:List (NdH×Nd))(ids:List Int)(files:List Ino):Prop where
 B:GdB qs files
 xs:∀ q∈qs,dS q.2.xs
 tg:∀ q∈qs,q.2.kind≠3→q.2.tgt=[]
 kd:∀ q∈qs,q.2.kind=1∨q.2.kind=2∨q.2.kind=3
 fo:∀ q∈qs,q.2.kind=2→(files.getD q.2.ino.toNat bA).1 0=2
 fz:∀ q∈qs,q.2.kind≠2→(files.getD q.2.ino.toNat bA).1 0≠2
 ft:∀ f∈files,f.2=[]
 ir:ids.Pairwise (· < ·)
 io:∀ q∈qs,q.2.ud∈ids∧q.2.gd∈ids
 il:ids.length≤1099511627776
theorem GdP.ft0(G:GdP qs ids files)(m:Nat):(files.getD m bA).2=[]:=by
 rw[S6];cases h:files[m]? with
|none=>rfl
|some f=>exact G.ft f (S1 h)
theorem Hl(k:Int)(f:Ino)(t:By)(s:BSt)(h:f.2=t):dJ qs ids k ((fl0 f).1,t) s=dJ qs ids k f s:=by subst h;rfl
end
theorem vD.put{m:List (I6×Value)}{refs:List Int}(h:vD m refs)(x:I6){v:Nat}(hx:1≤x.1)(hl:x.1.toNat<refs.length):vD (bW m x (iV (v:Int))) (refs.set x.1.toNat ((v:Int)+1)):=by
 intro a ha;rw[gY];by_cases e:a=x
 · subst e
   rw[SQ rfl,S6,Tz hl];show _=if 0<(v:Int)+1 then _ else _
   rw[SQ (by omega)];show _=some (Value.int .i64 ((v:Int)+1-1));rw[show (v:Int)+1-1=v by omega]
 · have hne:¬ a.1.toNat=x.1.toNat:=fun h=>e (Subtype.ext (by omega))
   rw[SP e,h a ha];have e2:(refs.set x.1.toNat ((v:Int)+1)).getD a.1.toNat 0=refs.getD a.1.toNat 0:=by
    rw[S6,List.getElem?_set_ne (fun h=>hne h.symm)];rfl
   rw[e2]
theorem A2{l:List Int}{m:Nat}{v:Int}(h:m<l.length)(h0:0<l.getD m 0)(hv:0<v):((l.set m v).filter (fun r=>decide (0<r))).length=(l.filter (fun r=>decide (0<r))).length:=by
 have e:l=l.take m++l.getD m 0::l.drop (m+1):=by
  rw[show l.getD m 0=l[m] by simp[S6,h],←TV h,Tn]
 have e2:l.set m v=l.take m++v::l.drop (m+1):=List.set_eq_take_append_cons_drop .. |>.trans (by rw[SQ h]);rw[e2]
 conv=>rhs;rw[e]
 rw[TZ,TZ,Uq (by simpa using hv),Uq (by simpa using h0)];simp
theorem vS{α:Type}[DecidableEq α]{a:α}{v v0:Value}:∀ {l:List (α×Value)},bP l a=some v0→(bW l a v).length=l.length
|[],h=>by cases h
|p::r,h=>by
   unfold bP at h;unfold bW;by_cases e:p.1=a
   ·rw[SQ e];rfl
   · rw[SP e] at h ⊢
     rw[Td,Td,vS h]
theorem vD.len{m:List (I6×Value)}{refs:List Int}(h:vD m refs)(hn:m.length=(refs.filter (fun r=>decide (0<r))).length)(x:I6){v:Int}(u:Value)(hx:1≤x.1)(hl:x.1.toNat<refs.length)(hv:0<v):(bW m x u).length=((refs.set x.1.toNat v).filter (fun r=>decide (0<r))).length:=by
 have hg:=h x hx;by_cases h0:0<refs.getD x.1.toNat 0
 · rw[SQ h0] at hg
   rw[vS hg,hn,A2 hl h0 hv]
 · rw[SP h0] at hg
   rw[fI _ hg,SR,hn,tW hl (by omega) hv];rfl
theorem mpQ:pX Tryz.prog 58 3 3 (iV 0):=⟨by kernel_rfl,by kernel_rfl⟩
theorem mpF:pX Tryz.prog 59 3 88 (yP bA):=⟨by kernel_rfl,by kernel_rfl⟩
def PwS(a:PiA)(g tp:Nat)(qs:List (NdH×Nd))(ids:List Int)(files:List Ino)(n:Nat):Prop:=∀ (ow:Nat→Nat) (s:BSt) (k:Int) (W:World),PiX 0 a ow W.heap g tp qs ids files s→(∀ k,W.heap.size≤k→ow k=0)→(0≤k∧k<qs.length)→17≤(ndB qs k).names.length+n→okS qs s→bdB (wrB qs ids files n k s) →
 CA 23 [pT g,iV k] W fun v w'=>v=iV ((wrB qs ids files n k s).refs.getD (ndB qs k).ino.toNat 0-1)∧jB a ow W g tp qs ids files (wrB qs ids files n k s) w'
theorem Ge(a:PiA)(g tp:Nat)(qs:List (NdH×Nd))(ids:List Int)(files:List Ino)(G:GdP qs ids files)(n:Nat)(ih:PwS a g tp qs ids files n)(ow:Nat→Nat)(s:BSt)(q:NdH×Nd)(W:World)(hM:PiX 0 a ow W.heap g tp qs ids files s)(hn:∀ k,W.heap.size≤k→ow k=0)(hqv:NdV (fun k=>ow k=4) W.heap q)(hdp:16≤q.2.names.length+n)(hok:okS qs s)
 (K:BSt×List Ent)(hK:wrK (wrB qs ids files n) qs (aX qs q.2.names qs.length) s=K)(hbd:bdB { K.1 with lst:=K.1.lst++(gC K.2).1 }) :
 CA 70 [pT g,.agg (aE q).toArray] W fun v w'=>v=.tuple [iV (bM K.1.lst K.1.lst.length:Nat),iV (gC K.2).1.length].toArray∧okS qs K.1∧jB a ow W g tp qs ids files { K.1 with lst:=K.1.lst++(gC K.2).1 } w':=by
 obtain⟨hvn,hvd,hvx⟩:=id hqv;have hqn:q.1.names.n=q.2.names.length:=hvn.1;have hn1024:=G.B.n;have hgl:=(SZ.1 hM.1.1).1;have hbK:=(Ca _ _).bd hbd;refine cS 62 [(0,_),(1,_)] Tryz.func70 ?_;refine Gz 2 ?_;refine Px rfl rfl ?_;intro w1 hg1 hs1 hf1;have hg1:w1.heap[W.heap.size]?=some (.cells (aE q).toArray 37 (0,0)):=hg1;obtain⟨b,eb⟩:∃ b,b=W.heap.size:=⟨_,rfl⟩
 rw[←eb] at hg1 ⊢;have hM1:=hM.SN hf1;have hbl:ow b=0:=hn b (by omega);have hg2:=hM1.1.1;refine Gz 11 ?_;refine Pk 9 (fun H=>H[g]?=some (.cells (piC a qs.length ids.length).toArray 62 (0,0))∧H[b]?=some (.cells (aE q).toArray 37 (0,0))) [6] [0,1,2,3,4,5,8,6,7] aJ (by kernel_rfl) (⟨hg2,hg1⟩) ?_;refine Gz 5 ?_;refine xC rfl (O7 (u:=.slice q.1.names.a q.2.names.length q.1.names.c) (Pe iR rfl (fun H hH=>aD hH.2 rfl)) (by rw[←hqn];rfl)) ?_;refine Gz 1 ?_;refine Ph rfl rfl (O6 ML rfl (Jk a.lo a.lc qs q.1.names.a q.1.names.c q.2.names (w1.drewN 1) (show aR _ w1.heap a.lo a.lc qs from hM1.2.1.1) ((hvn.2.1.SN hf1).SN (RZ 1)) (by omega)) rfl ?_);rintro _ w5 ⟨ko,kc,ys,rfl,hoy,hfy,hky,hf5⟩;have hf5:=hf5.SL;refine Pn (by exact⟨hf5.obj hg2 id,hf5.obj hg1 id⟩) ?_;have hfy:Fr w1.heap.size ko:=hfy;have hky:=G.B.k _ _ hky;rw[←hky] at hK;have hysl:ys.length≤qs.length:=by rw[hky];exact Dx _
 have hyv:=hoy.vw;have hy63:=hyv.SM;have hz5:=hf5.size;have hz1:=hf1.size;have hb5:=hf5.obj hg1 id;have hF5:=hf1.trans hf5;have hM5:=hM1.SN hf5;have hlk5:=hoy.lt;have hq5:=hqv.SN hF5;have hb5l:=(SZ.1 hb5).1;refine Gz 4 ?_;refine Pb (β:=(Nat×BSt)×((Nat→Nat)×(Option Addr×(Nat×List Ent)))) (fun⟨⟨j,s9⟩,⟨ow9,⟨lo9,⟨lc9,L9⟩⟩⟩⟩=>[(0,pT g),(3,pT b),(6,.slice lo9 L9.length lc9),(18,.slice ko ys.length kc),(19,iV ys.length),(20,iV j)]) (fun⟨⟨j,s9⟩,⟨ow9,⟨lo9,⟨lc9,L9⟩⟩⟩⟩ w=>j≤ys.length∧L9.length=j∧K=((wrK (wrB qs ids files n) qs (ys.drop j) s9).1,L9++(wrK (wrB qs ids files n) qs (ys.drop j) s9).2)∧PiX 0 a ow9 w.heap g tp qs ids files s9∧okS qs s9∧(∀ k,k<w5.heap.size→ow9 k=ow k)∧(∀ k,w.heap.size≤k→ow9 k=0)∧bS 3 uA 157 w.heap lo9 lc9 L9∧(∀ k,blk lo9 k→w5.heap.size≤k∧ow9 k=0)∧(∀ x∈L9,x.1.length≤255)∧aA (Lb ow) w5 w) (fun⟨⟨j,s9⟩,⟨ow9,⟨lo9,⟨lc9,L9⟩⟩⟩⟩=>ys.length-j) ⟨⟨0,s⟩,⟨ow,⟨none,⟨0,[]⟩⟩⟩⟩ ⟨rfl,rfl,rfl,rfl,rfl,rfl,trivial⟩ ⟨S3 _,rfl,hK.symm,hM5,hok,fun _ _=>rfl,fun k hk=>hn k (by omega),Sd,(fun k ⟨a,ha,e⟩=>by cases ha),(by simp),RY _ _⟩ ?_;rintro⟨⟨j,s9⟩,⟨ow9,⟨lo9,⟨lc9,L9⟩⟩⟩⟩ w9 ⟨hj,hLj,hwk,hM9,hok9,hl9,hn9,ho9,hb9l,hL9,hF9⟩;refine fK 2 ?_ ?_<;>intro h21
 ·have hjl:j<ys.length:=by omega
  obtain⟨z,hz⟩:∃ z,ys[j]?=some z:=⟨_,SS hjl⟩
  have hzd:ys.getD j 0=z:=by rw[S6,hz];rfl
  have hzm:=S1 hz;rw[hky] at hzm;obtain⟨i,rfl,hil,hkq⟩:=eW.1 hzm;obtain⟨r,hr⟩:∃ r,qs[i]?=some r:=⟨_,SS hil⟩
  rw[pG hr] at hkq;obtain⟨hrne,hrdl⟩:=lS.1 hkq;have hrl:r.2.names.length=q.2.names.length+1:=by have h0:=S8.2 hrne;rw[←hrdl,Uz];omega
  have hnr:=bO hr;obtain⟨⟨hr1,hr2⟩,hrnl,hrnc,hrtl,hrxl⟩:=G.B.q r (S1 hr);obtain⟨mr,hmr⟩:=Uc (show 0≤r.2.ino by omega);have hdr:ys.drop j=(i:Int)::ys.drop (j+1):=by obtain⟨h,e⟩:=SV.1 hz;rw[←e];exact TV h
  rw[hdr] at hwk;have hb9:bdB (wrB qs ids files n (i:Int) s9):=(xO (qs:=qs) (xP n) (ys.drop (j+1)) _).bd (by have h:=hbK;rw[hwk] at h;exact h);have hvy9:=hyv.SO hF9 (fun a ha h=>by have h1:=hfy a ha;have h2:=hlk5 a ha;have h:(ow a.block≠0∧ow a.block≠4):=h;exact h.1 (hn _ (by omega)));have hN9:=hM9.2.1.1;refine Gz 10 ?_;refine cL (O5 bR rfl rfl hvy9.non (by omega)) ?_;refine cL (O8 aK rfl (hvy9.gz 0 j rfl hjl)) ?_;rw[hzd];refine Gz 2 ?_;refine aW [(0,_),(3,_),(6,_),(8,_),(18,_),(19,_),(20,_),(21,_)] ?_;refine Gz 6 ?_;refine cL (O8 vU rfl (aD hM9.1.1 rfl)) ?_;refine Gz 1 ?_;refine cL (Pa cC rfl rfl hN9.1.non (by omega)) ?_;refine cL (Pi (cs:=aE r) aV rfl (fun a v hv=>hN9.1.rowZ i rfl hr a v hv)) ?_;refine O9 fF rfl ?_;intro w11 hg11 hs11 hf11;obtain⟨d,ed⟩:∃ d,d=w9.heap.size:=⟨_,rfl⟩
  rw[←ed] at hg11 ⊢;refine Pf (vs:=aE r) aV rfl rfl (aB r).2 hg11 rfl ?_;intro w12 hd12 hs12 hf12;have hf912:aA nob w9 w12:=hf11.tw hf12;have hM12:=hM9.SN hf912;obtain⟨hrn,_⟩:=hM12.2.1.1.2 r (S1 hr);have hrnn:r.1.names.n=r.2.names.length:=hrn.1;have hb12:=(hF9.trans hf912.any).obj hb5 (fun h=>h.1 hbl);have hz12:=hf912.size;have hz9:=hF9.size;have hn12:∀ k,w12.heap.size≤k→ow9 k=0:=fun k hk=>hn9 k (by omega);have hdl:=hn9 d (by omega);have hl9lt:=ho9.lt;refine Gz 2 ?_;refine Pk 17 (fun H=>H[d]?=some (.cells (aE r).toArray 37 (0,0))∧H[b]?=some (.cells (aE q).toArray 37 (0,0))∧Vw jE H r.1.names.a r.1.names.c r.2.names) [12,14,15] [0,1,2,3,4,5,6,7,8,9,10,11,12,13,14,15,16] aJ (by kernel_rfl) (⟨hd12,hb12,hrn.2.1⟩) ?_;refine Gz 2 ?_;refine xC rfl (O7 (u:=.slice r.1.names.a r.2.names.length r.1.names.c) (Pe iR rfl (fun H hH=>aD hH.1 rfl)) (by rw[←hrnn];rfl)) ?_;refine Gz 1 ?_;refine xC rfl (O7 (u:=.slice q.1.names.a q.2.names.length q.1.names.c) (Pe iR rfl (fun H hH=>aD hH.2.1 rfl)) (by rw[←hqn];rfl)) ?_;refine Gz 1 ?_;refine xC rfl (O5 mD rfl rfl hrn.2.1.non (by omega)) ?_;refine xC rfl (Pe kN rfl (fun H hH=>hH.2.2.gz [] q.2.names.length rfl (by omega))) ?_;refine Gz 4 ?_;refine Ph rfl rfl (O6 L8 rfl (ih ow9 s9 (i:Int) (w12.drewN 1) hM12 hn12 ⟨by omega,by omega⟩ (by rw[hnr,hrl];omega) hok9 hb9) rfl ?_);rintro _ w13 ⟨rfl,ow13,hM13,hl13,hn13,hf13⟩;have hf13:aA (Lb ow9) w12 w13:=hf13.SL;have hl13:∀ k,k<w12.heap.size→ow13 k=ow9 k:=hl13;have hr13:=hrn.2.1.SO hf13 (fun x hx h=>by have h1:=hrn.2.2 hrne _ ⟨x,hx,rfl⟩;have h:(ow9 x.block≠0∧ow9 x.block≠4):=h;exact h.2 h1);have hd13:=hf13.obj hd12 (fun h=>h.1 hdl);have hb13:=hf13.obj hb12 (fun h=>h.1 (by rw[hl9 b (by omega)];exact hbl));rw[hnr,hmr,TF];refine Pn (by exact⟨hd13,hb13,hr13⟩) ?_;obtain⟨s10,es10⟩:∃ t,t=wrB qs ids files n (i:Int) s9:=⟨_,rfl⟩
  obtain⟨e,ee⟩:∃ e:Ent,e=(aT r.2.names,r.2.kind,s10.refs.getD mr 0-1):=⟨_,rfl⟩
  have hok10:okS qs s10:=by rw[es10];exact Kt G.B hok9 hb9
  have hwk2:K=((wrK (wrB qs ids files n) qs (ys.drop (j+1)) s10).1,(L9++[e])++(wrK (wrB qs ids files n) qs (ys.drop (j+1)) s10).2):=by
   rw[hwk];show ((wrK (wrB qs ids files n) qs (ys.drop (j+1)) (wrB qs ids files n (i:Int) s9)).1,L9++((aT (ndB qs i).names,(ndB qs i).kind,(wrB qs ids files n (i:Int) s9).refs.getD (ndB qs i).ino.toNat 0-1)::(wrK (wrB qs ids files n) qs (ys.drop (j+1)) (wrB qs ids files n (i:Int) s9)).2))=_;rw[hnr,hmr,TF,←es10,←ee,To];rfl
  rw[←es10] at hM13 ⊢;have hz13:=hf13.size;have ho13:=(ho9.SN hf912).SO hf13 (fun x hx h=>h.1 (hb9l _ ⟨x,hx,rfl⟩).2);have hln:r.2.names.getD q.2.names.length []=aT r.2.names:=by unfold aT;rw[hrl];rfl
  rw[hln];refine xC rfl (bU (uA (aT r.2.names,r.2.kind,s10.refs.getD mr 0-1)) KE Fl) ?_;rw[←ee];refine Ph rfl rfl (PA C7 (cs:=(uA e).toArray) Fl rfl rfl rfl (by kernel_rfl) rfl ?_);intro w14 hg14 hs14 hf14;have ho14:=cE (e:=157) (xs:=[e]) iI (by simpa using hg14) (by show 1≤maxLen;decide);refine Pn (by exact⟨hf14.obj hd13 id,hf14.obj hb13 id,hr13.SN hf14⟩) ?_;refine Ph rfl rfl (Pu iI rfl C7 rfl rfl (ho13.SN hf14) (ho14.vw iI) (by simp only[S5];omega) (by simp only[S5];unfold maxLen;omega) rfl ?_);intro lo15 lc15 w15 ho15 hf15 hr15 hn15;have hz14:=hf14.size;have hz15:=hf15.size;have hn9l:∀ k,blk lo9 k→ow13 k=0∧k<w9.heap.size:=fun k hk=>by
   have hk2:k<w9.heap.size:=by obtain⟨x,hx,hxe⟩:=hk;have:=hl9lt x hx;omega
   exact⟨by rw[hl13 k (by omega)];exact(hb9l k hk).2,hk2⟩
  refine Pn (by exact⟨hf15.obj (hf14.obj hd13 id) (fun h=>by have:=(hn9l d h).2;omega),hf15.obj (hf14.obj hb13 id) (fun h=>by have:=(hb9l b h).1;omega),(hr13.SN hf14).SO hf15 (fun x hx h=>by have h1:=hrn.2.2 hrne _ ⟨x,hx,rfl⟩;have h1:ow9 x.block=4:=h1;have:=(hb9l _ h).2;omega)⟩) ?_;have hM15:=(hM13.SN hf14).step hf15 0 (by decide) (fun k hk=>.inr (hn9l k hk).1) (fun _ _=>rfl);have hF15:aA (Lb ow) w5 w15:=((kF hl9 (hF9.trans hf912.any) hf13).trans hf14.any).SJ hf15 (fun k h=>.inr (hb9l k h).1);have hb15:∀ k,blk lo15 k→w5.heap.size≤k∧ow13 k=0:=fun k hk=>by
   obtain⟨x,hx,hxe⟩:=hk;rcases hr15 x hx with h|h
   ·exact⟨(hb9l k ⟨x,h,hxe⟩).1,(hn9l k ⟨x,h,hxe⟩).1⟩
   ·exact⟨by omega,hn13 k (by omega)⟩
  refine Gz 8 ?_;exact aG ⟨⟨j+1,s10⟩,⟨ow13,⟨lo15,⟨lc15,L9++[e]⟩⟩⟩⟩ ⟨by omega,by rw[SR,hLj];rfl,hwk2,hM15,hok10,fun k hk=>by rw[hl13 k (by omega)];exact hl9 k hk,fun k hk=>hn13 k (by omega),ho15,hb15,fun x hx=>by
   rcases Tx.1 hx with hx|hx
   ·exact hL9 x hx
   ·rw[Tv] at hx;subst hx;rw[ee];exact AL hrnc,hF15⟩ (by show ys.length-(j+1)<ys.length-j;omega)
 have hje:ys.drop j=[]:=List.drop_of_length_le (by omega);rw[hje] at hwk;have hwk:K=(s9,L9):=by rw[hwk];show (s9,L9++[])=(s9,L9);rw[Un]
 subst hwk;have hL9n:L9.length≤1024:=by omega
 refine Gz 12 ?_;refine O6 MK rfl (Hz lo9 lc9 L9 w9 (ho9.vw iI) (fun x hx=>Tt (hL9 x hx) (by decide)) (by omega)) rfl ?_;rintro _ w10 ⟨o10,c10,rfl,ho10,hfr10,hf10⟩;have hz10:=hf10.size;have hz9:=hF9.size;have hM10:=hM9.SN hf10;refine Gz 6 ?_;refine aW [(0,_),(3,_),(6,_),(10,_),(18,_),(19,_),(20,_),(21,_)] ?_;refine Gz 7 ?_;refine cL (O8 sM rfl (by rw[xM];exact aD (i:=1) hM10.1.1 rfl)) ?_;refine Gz 1 ?_;refine O6 Jv rfl (Em o10 c10 (gC L9).1 w10 hM10 (fun k hk=>hn9 k (by omega)) ho10.vw (by have h:=hbd.2.1;simp only[SR] at h;omega)) rfl ?_;rintro _ w11 ⟨rfl,hP11⟩;refine Gz 8 ?_;refine⟨_,rfl,rfl,hok9,?_⟩;refine jB.trans (W:=W) (s1:=s9) (ow1:=ow9) (w1:=w10) (fun k hk=>hl9 k (by omega)) ((hF5.any.trans hF9).trans hf10.any) hP11
theorem BT(a:PiA)(g tp:Nat)(qs:List (NdH×Nd))(ids:List Int)(files:List Ino)(G:GdP qs ids files)(n:Nat)(ih:PwS a g tp qs ids files n):PwS a g tp qs ids files (n+1):=by
 intro ow s k W hM hn hk hdp hok hbd;obtain⟨kn,rfl⟩:=Uc hk.1;have hkl:kn<qs.length:=by omega
 obtain⟨q,hq⟩:∃ q,qs[kn]?=some q:=⟨_,SS hkl⟩
 have hqm:=S1 hq;have hnd:=bO hq;obtain⟨⟨hi1,hi2⟩,hnl,hnc,htl,hxl⟩:=G.B.q q hqm;obtain⟨m,hm⟩:=Uc (show 0≤q.2.ino by omega);have hwr:=Fq (ids:=ids) (files:=files) n s hq hm;obtain⟨⟨hg,hg6⟩,⟨⟨nd1,ndq⟩,nd2⟩,_,_,_,_,_,⟨r5,r1⟩,⟨f7,f1⟩,_⟩:=id hM;obtain⟨mr,hmr,hRM,hmrl⟩:=r1 (by decide);obtain⟨mf,hmf,hFM⟩:=f1 (by decide);have hn1024:=G.B.n;have hlr:=hok.r;have hqv:=ndq q hqm;have hib : -9223372036854775808≤q.2.ino∧q.2.ino≤9223372036854775807:=by omega
 have hrv:=hRM ⟨q.2.ino,hib⟩ hi1;have hfv:=hFM ⟨q.2.ino,hib⟩ hi1;have htn:q.2.ino.toNat=m:=by omega
 rw[show (⟨q.2.ino,hib⟩:I6).1.toNat=m from htn] at hrv hfv;obtain⟨R0,hR0⟩:∃ R0:Ino,R0=if (files.getD m bA).1 0=2 then fl0 (files.getD m bA) else bA:=⟨_,rfl⟩
 have hfe:(bP mf ⟨q.2.ino,hib⟩).getD (yP bA)=yP R0:=by rw[hfv,hR0];split<;>rfl
 have hR02:R0.2=[]:=by rw[hR0];split;exact G.ft0 m;rfl
 have hfz:=fun h=>G.fz q hqm h;have hfo:=fun h=>G.fo q hqm h;rw[htn] at hfz hfo
 have hi8:q.2.kind≠1→wrB qs ids files (n+1) (kn:Int) s=if 0<s.refs.getD m 0 then s else dJ qs ids kn (R0.1,q.2.tgt) s:=fun h=>by
  rw[hwr]
  split
  ·rfl
  · rcases G.kd q hqm with h1|h1|h1
    ·exact absurd h1 h
    · rw[SQ h1,hR0,SQ (hfo h1)]
      exact(Hl _ _ _ _ (by rw[G.ft0 m,G.tg q hqm (by omega)])).symm
    ·rw[SP (by omega),SQ h1,hR0,SP (hfz (by omega))];rfl
 refine cS 114 [(0,_),(1,_)] Tryz.func23 ?_;refine Gz 12 ?_;refine cL (Pa cC rfl rfl nd1.non (by omega)) ?_;refine cL (Pi (cs:=aE q) aV rfl (fun j v hj=>nd1.rowZ kn rfl hq j v hj)) ?_;refine O9 fF rfl ?_;intro w1 hg1 hs1 hf1;obtain⟨b,eb⟩:∃ b,b=W.heap.size:=⟨_,rfl⟩
 rw[←eb] at hg1 ⊢;refine Pf (vs:=aE q) aV rfl rfl (aB q).2 hg1 rfl ?_;intro w2 hb2 hs2 hf2;have hF2:aA nob W w2:=hf1.tw hf2;have hs1b:w1.heap.size=W.heap.size+1:=hs1;have hs2b:w2.heap.size=w1.heap.size:=hs2;have hg2:=hF2.obj hg id;have hmf2:=hmf.SO hF2 id;refine Gz 4 ?_;refine Pk 12 (fun H=>H[g]?=some (.cells (piC a qs.length ids.length).toArray 62 (0,0))∧H[b]?=some (.cells (aE q).toArray 37 (0,0))∧cG enI H a.r mr) [] [0,1,2,3,4,5,6,7,8,9,10,11] aJ (by kernel_rfl) (⟨hg2,hb2,hmr.SO hF2 id⟩) ?_;refine Gz 6 ?_;refine xC rfl (PL mpQ qU (a:=⟨q.2.ino,hib⟩) rfl rfl (fun H hH=>hH.2.2)) ?_;refine Gz 9 ?_;refine PD (Pv (Pc rfl)) rfl (fun h29=>?_) (fun h29=>?_)
 ·have h29:=of_decide_eq_true h29;have hpos:0<s.refs.getD m 0:=S4 fun hc=>by rw[hrv,SP hc] at h29;cases h29
  have hgv:(bP mr ⟨q.2.ino,hib⟩).getD (iV 0)=iV (s.refs.getD m 0-1):=by rw[hrv,SQ hpos];rfl
  rw[hgv];rw[SQ hpos] at hwr;refine Gz 12 ?_;exact⟨_,rfl,by rw[hwr,hnd,htn],by rw[hwr];exact⟨ow,hM.SN (hF2.draws 1),fun _ _=>rfl,fun k hk=>hn k (by have hk:w2.heap.size≤k:=hk;omega),(hF2.draws 1).any⟩⟩
 have hpos:¬ 0<s.refs.getD m 0:=fun hc=>h29 (SX (by rw[hrv,SQ hc];rfl));rw[SP hpos] at hwr;refine Gz 6 ?_;refine Pk 8 (fun H=>H[g]?=some (.cells (piC a qs.length ids.length).toArray 62 (0,0))∧H[b]?=some (.cells (aE q).toArray 37 (0,0))∧cG enI H a.f mf) [7,8] [0,1,2,3,4,5,6,7,8] aJ (by kernel_rfl) (⟨hg2,hb2,hmf2⟩) ?_;refine Gz 6 ?_;refine xC rfl (O7 (u:=yP R0) (Qa mpF qU (a:=⟨q.2.ino,hib⟩) rfl rfl (fun H hH=>hH.2.2)) hfe) ?_;refine Ph rfl rfl (O9 Fi rfl ?_);intro w3 hg3 hs3 hf3;have hf3:=hf3.SL.SL;obtain⟨c,ec⟩:∃ c,c=w2.heap.size:=⟨_,rfl⟩
 rw[show ((w2.drewN 1).drewN 1).heap.size=c from ec.symm] at hg3 ⊢;refine Pn (by exact⟨hf3.obj hg2 id,hf3.obj hb2 id,hmf2.SO hf3 id⟩) ?_;refine Ph rfl rfl (Pf (vs:=EM R0) qP rfl rfl (tQ _ _) hg3 rfl ?_);intro w4 hc4 hs4 hf4;refine PN rfl ?_;have hf4:aA (· = c) w3 w4:=hf4;have hf24:aA nob w2 w4:=hf3.tw hf4;have hF4:=hF2.trans hf24;have hs3b:w3.heap.size=w2.heap.size+1:=hs3;have hs4b:w4.heap.size=w3.heap.size:=hs4;have hb4:=hf24.obj hb2 id;have hM4:=hM.SN hF4;have hg4:=hF4.obj hg id;have hbl:ow b=0:=hn b (by omega);have hcl:ow c=0:=hn c (by omega);have hn4:∀ k,w4.heap.size≤k→ow k=0:=fun k hk=>hn k (by omega);have hbc:b≠c:=by omega
 have hc4:w4.heap[c]?=some (.cells (bK R0.1 []).toArray 88 (0,0)):=by rw[←hR02];exact hc4
 refine Gz 2 ?_;refine PI (β:=(BSt×Ino)×(Nat→Nat)) (fun⟨⟨s8,i8⟩,ow8⟩=>[(0,pT g),(1,iV (kn:Int)),(5,pT b),(8,pT c)]) (fun⟨⟨s8,i8⟩,ow8⟩ w=>PiX 0 a ow8 w.heap g tp qs ids files s8∧w.heap[b]?=some (.cells (aE q).toArray 37 (0,0))∧w.heap[c]?=some (.cells (bK i8.1 []).toArray 88 (0,0))∧wrB qs ids files (n+1) (kn:Int) s=dJ qs ids kn i8 s8∧i8.2=q.2.tgt∧okS qs s8∧s8.refs.getD m 0=s8.refs.getD m 0∧(∀ k,k<w4.heap.size→ow8 k=ow k)∧(∀ k,w.heap.size≤k→ow8 k=0)∧aA (fun k=>Lb ow k∨k=c) w4 w) ?_ ?_
 ·refine fK 4 ?_ ?_<;>intro h40
  ·obtain⟨K,hK⟩:∃ K,wrK (wrB qs ids files n) qs (aX qs q.2.names qs.length) s=K:=⟨_,rfl⟩
   rw[SP (by omega),SP (by omega),SQ h40,hK] at hwr;have hbK:bdB { K.1 with lst:=K.1.lst++(gC K.2).1 }:=(jS (qs:=qs) (ids:=ids) _ _ _).bd (show bdB _ from hwr ▸ hbd);rw[hR0,SP (hfz (by omega))] at hc4;refine Gz 5 ?_;refine cL (Pi (cs:=aE q) aV rfl (bJ hb4 0 rfl)) ?_;refine O6 Ox rfl (Ge a g tp qs ids files G n ih ow s q w4 hM4 hn4 (hqv.SN hF4) (by rw[hnd] at hdp;omega) hok K hK hbK) rfl ?_;rintro _ w5 ⟨rfl,hokK,ow5,hM5,hl5,hn5,hf5⟩;have hz5:=hf5.size;have hb5:=hf5.obj hb4 (fun h=>h.1 hbl);have hc5:=hf5.obj hc4 (fun h=>h.1 hcl);have hc5l:ow5 c=0:=by rw[hl5 c (by omega)];exact hcl
   refine Gz 4 ?_;refine Pg aK rfl rfl rfl hc5 rfl ?_;intro w6 hc6 hs6 hf6;have hb6:=hf6.obj hb5 hbc;have hM6:=hM5.step hf6 0 (by decide) (fun k hk=>.inr (by have h:k=c:=hk;rw[h];exact hc5l)) (fun _ _=>rfl);have hs6b:w6.heap.size=w5.heap.size:=hs6;refine Gz 1 ?_;refine Pg aK rfl rfl rfl hc6 rfl ?_;intro w7 hc7 hs7 hf7;have hb7:=hf7.obj hb6 hbc;have hM7:=hM6.step hf7 0 (by decide) (fun k hk=>.inr (by have h:k=c:=hk;rw[h];exact hc5l)) (fun _ _=>rfl);have hs7b:w7.heap.size=w6.heap.size:=hs7;refine Gz 1 ?_;refine aC ⟨⟨{ K.1 with lst:=K.1.lst++(gC K.2).1 },Bg K.1 (gC K.2).1⟩,ow5⟩ ⟨hM7,hb7,hc7,hwr,(G.tg q hqm (by omega)).symm,⟨hokK.r,hokK.b,hokK.h⟩,rfl,fun k hk=>hl5 k hk,fun k hk=>hn5 k (by omega),?_⟩;exact(hf5.mono (fun k h=>.inl h)).trans ((hf6.mono (fun k h=>.inr h)).trans (hf7.mono (fun k h=>.inr h)))
  have h8:=hi8 h40;rw[SP hpos] at h8;refine Gz 4 ?_;exact aC ⟨⟨s,(R0.1,q.2.tgt)⟩,ow⟩ ⟨hM4,hb4,hc4,h8,rfl,hok,rfl,fun _ _=>rfl,hn4,RY _ _⟩
 rintro⟨⟨s8,i8⟩,ow8⟩ w8 ⟨hM8,hb8,hc8,hw8,ht8,hok8,_,hl8,hn8,hF8⟩;refine Gz 1 ?_;refine Pk 20 (fun H=>H[b]?=some (.cells (aE q).toArray 37 (0,0))∧H[g]?=some (.cells (piC a qs.length ids.length).toArray 62 (0,0))) [12,14,16,18,20] [0,1,2,3,4,5,6,7,8,9,10,11,13,12,14,15,16,17,18,19,20] aJ (by kernel_rfl) (⟨hb8,hM8.1.1⟩) ?_;refine Gz 1 ?_;have hz8:=hF8.size;have hcs:c<w4.heap.size:=by omega
 have hbs:b<w4.heap.size:=by omega
 have hc8l:ow8 c=0:=by rw[hl8 c hcs];exact hcl
 have hb8l:ow8 b=0:=by rw[hl8 b hbs];exact hbl
 have kc:∀ {w w2:World},PiX 0 a ow8 w.heap g tp qs ids files s8→aA (· = c) w w2→PiX 0 a ow8 w2.heap g tp qs ids files s8:=fun hM hf=>hM.step hf 0 (by decide) (fun k hk=>.inr (by have h:k=c:=hk;rw[h];exact hc8l)) (fun _ _=>rfl);obtain⟨R,hR⟩:∃ R,R=bH s8 q.2.xs:=⟨_,rfl⟩
 have hfix:dJ qs ids (kn:Int) i8 s8 = { R.2 with ino:=R.2.ino++(mE (inB qs ids kn i8 R.1).1 (inB qs ids kn i8 R.1).2).1,refs:=R.2.refs.set m ((bM R.2.ino R.2.ino.length:Nat)+1),many:=R.2.many+1 }:=by unfold dJ;rw[hnd,←hR,hm,TF]
 have hbF:bdB R.2:=by have h:=(rQ (qs:=qs) (ids:=ids) kn i8 s8).bd (by rw[←hw8];exact hbd);rw[hnd,←hR] at h;exact h
 have hbT:R.2.ino.length+(mE (inB qs ids kn i8 R.1).1 (inB qs ids kn i8 R.1).2).1.length≤137438953472:=by have h:=hbd.1;rw[hw8,hfix] at h;simp only[SR] at h;exact h
 refine Gz 3 ?_;refine xC rfl (Pe aK rfl (fun H hH=>aD (i:=3) hH.1 rfl)) ?_;refine Gz 8 ?_;refine Ph rfl rfl (O6 Ow rfl (GI a.lo a.lc qs kn (w8.drewN 1) (show aR _ w8.heap a.lo a.lc qs from hM8.2.1.1)) rfl ?_);rintro _ w9 ⟨rfl,hf9⟩;have hf9:=hf9.SL;refine Pn (by exact⟨hf9.obj hb8 id,hf9.obj hM8.1.1 id⟩) ?_;have hz9:=hf9.size;have hc9:=hf9.obj hc8 id;have hb9:=hf9.obj hb8 id;have hg9:=hf9.obj hM8.1.1 id;have hgc:g≠c:=fun e=>by have h:=hM8.1.2;rw[e,hc8l] at h;cases h
 have hM9:=hM8.SN hf9;refine Ph rfl rfl (Pg aK rfl rfl rfl hc9 rfl ?_);intro w10 hc10 hs10 hf10;have hb10:=hf10.obj hb9 hbc;have hg10:=hf10.obj hg9 hgc;refine Pn (by exact⟨hb10,hg10⟩) ?_;have hs10b:w10.heap.size=w9.heap.size:=hs10;refine Gz 1 ?_;refine Ph rfl rfl (Pg aK rfl rfl rfl hc10 rfl ?_);intro w11 hc11 hs11 hf11;have hb11:=hf11.obj hb10 hbc;have hg11:=hf11.obj hg10 hgc;refine Pn (by exact⟨hb11,hg11⟩) ?_;have hs11b:w11.heap.size=w10.heap.size:=hs11;refine Gz 1 ?_;refine Ph rfl rfl (Pg kN rfl rfl rfl hc11 rfl ?_);intro w12 hc12 hs12 hf12;have hb12:=hf12.obj hb11 hbc;have hg12:=hf12.obj hg11 hgc;refine Pn (by exact⟨hb12,hg12⟩) ?_;have hs12b:w12.heap.size=w11.heap.size:=hs12;refine Gz 1 ?_;refine Ph rfl rfl (Pg aK rfl rfl rfl hc12 rfl ?_);intro w13 hc13 hs13 hf13;refine PN rfl ?_;have hs13b:w13.heap.size=w12.heap.size:=hs13;have hM13:=kc (kc (kc (kc hM9 hf10) hf11) hf12) hf13;have hb13:=hf13.obj (hf12.obj (hf11.obj (hf10.obj hb9 hbc) hbc) hbc) hbc;refine Gz 3 ?_;refine Pk 13 (fun H=>H[g]?=some (.cells (piC a qs.length ids.length).toArray 62 (0,0))∧H[b]?=some (.cells (aE q).toArray 37 (0,0))) [7,12] [0,1,2,3,4,5,6,7,8,9,10,11,12] aJ (by kernel_rfl) (⟨hM13.1.1,hb13⟩) ?_;refine Gz 6 ?_;refine xC rfl (Pe aK rfl (fun H hH=>aD (i:=4) hH.2 rfl)) ?_;refine Ph rfl rfl (O6 LY rfl (H0 a.io a.ic ids q.2.ud (w13.drewN 1) (show Vw i64 w13.heap a.io a.ic ids from hM13.2.2.1.1) G.ir (G.io q hqm).1 G.il) rfl ?_);rintro _ w14 ⟨rfl,hw⟩;subst hw;refine Pn (by exact⟨hM13.1.1,hb13⟩) ?_;refine Gz 4 ?_;refine Ph rfl rfl (Pg aK rfl rfl rfl hc13 rfl ?_);intro w15 hc15 hs15 hf15;have hf15:=hf15.SL;have hb15:=hf15.obj hb13 hbc;refine Pn (by exact⟨hf15.obj hM13.1.1 hgc,hb15⟩) ?_;have hM15:=kc hM13 hf15;have hs15b:w15.heap.size=w13.heap.size:=hs15;refine Gz 3 ?_;refine Pk 13 (fun H=>H[g]?=some (.cells (piC a qs.length ids.length).toArray 62 (0,0))∧H[b]?=some (.cells (aE q).toArray 37 (0,0))) [7,12] [0,1,2,3,4,5,6,7,8,9,10,11,12] aJ (by kernel_rfl) (⟨hM15.1.1,hb15⟩) ?_;refine Gz 6 ?_;refine xC rfl (Pe aK rfl (fun H hH=>aD (i:=5) hH.2 rfl)) ?_;refine Ph rfl rfl (O6 LY rfl (H0 a.io a.ic ids q.2.gd (w15.drewN 1) (show Vw i64 w15.heap a.io a.ic ids from hM15.2.2.1.1) G.ir (G.io q hqm).2 G.il) rfl ?_);rintro _ w16 ⟨rfl,hw⟩;subst hw;refine Pn (by exact⟨hM15.1.1,hb15⟩) ?_;refine Gz 4 ?_;refine Ph rfl rfl (Pg aK rfl rfl rfl hc15 rfl ?_);intro w17 hc17 hs17 hf17;have hf17:=hf17.SL;have hb17:=hf17.obj hb15 hbc;refine Pn (by exact⟨hf17.obj hM15.1.1 hgc,hb17⟩) ?_;have hM17:=kc hM15 hf17;have hs17b:w17.heap.size=w15.heap.size:=hs17;have hn17:∀ k,w17.heap.size≤k→ow8 k=0:=fun k hk=>hn8 k (by omega);refine Gz 5 ?_;refine cL (Pi (cs:=aE q) aV rfl (bJ hb17 0 rfl)) ?_;refine O6 Ov rfl (Gh a ow8 g tp qs ids files s8 q w17 hM17 hn17 (hM17.2.1.1.2 q hqm) (G.xs q hqm) (by have h:=(yS s8 q.2.xs).f;rw[←hR] at h;have:=hbF.2.2.1;omega) hok8.b.2) rfl ?_;rw[←hR];rintro _ w18 ⟨rfl,ow18,hM18,hl18,hn18,hf18⟩;have hz18:=hf18.size;have hb18:=hf18.obj hb17 (fun h=>h.1 hb8l);have hc18:=hf18.obj hc17 (fun h=>h.1 hc8l);have hc18l:ow18 c=0:=by rw[hl18 c (by omega)];exact hc8l
 have hb18l:ow18 b=0:=by rw[hl18 b (by omega)];exact hb8l
 refine Gz 1 ?_;refine Pg aK rfl rfl rfl hc18 rfl ?_;intro w19 hc19 hs19 hf19;have hs19b:w19.heap.size=w18.heap.size:=hs19;have hb19:=hf19.obj hb18 hbc;have hM19:=hM18.step hf19 0 (by decide) (fun k hk=>.inr (by have h:k=c:=hk;rw[h];exact hc18l)) (fun _ _=>rfl);have hcF:w19.heap[c]?=some (.cells (bK (inB qs ids kn i8 R.1).1 (inB qs ids kn i8 R.1).2).toArray 88 (0,0)):=by unfold inB;rw[hnd,ht8];exact hc19
 refine Gz 4 ?_;refine cL (Pi (cs:=bK (inB qs ids kn i8 R.1).1 (inB qs ids kn i8 R.1).2) qP rfl (bJ hcF 0 rfl)) ?_;refine O6 Ou rfl (KC (inB qs ids kn i8 R.1).1 (inB qs ids kn i8 R.1).2 w19 (by show i8.2.length≤maxLen;rw[ht8];unfold maxLen;omega)) rfl ?_;rintro _ w20 ⟨o20,c20,rfl,ho20,hfr20,hf20⟩;have hz20:=hf20.size;have hb20:=hf20.obj hb19 id;have hM20:=hM19.SN hf20;refine Gz 13 ?_;refine cL (O8 sM rfl (by rw[xM];exact aD (i:=0) hM20.1.1 rfl)) ?_;refine Gz 1 ?_;refine O6 Jv rfl (Eo o20 c20 (mE (inB qs ids kn i8 R.1).1 (inB qs ids kn i8 R.1).2).1 w20 hM20 (fun k hk=>hn18 k (by omega)) ho20.vw (by omega)) rfl ?_;rintro _ w21 ⟨rfl,ow21,hM21,hl21,hn21,hf21⟩;have hz21:=hf21.size;have hb21:=hf21.obj hb20 (fun h=>h.1 hb18l);obtain⟨s21,es21⟩:∃ t:BSt,t = { R.2 with ino:=R.2.ino++(mE (inB qs ids kn i8 R.1).1 (inB qs ids kn i8 R.1).2).1 }:=⟨_,rfl⟩
 have zr:s21.refs=R.2.refs:=by rw[es21]
 have zm:s21.many=R.2.many:=by rw[es21]
 rw[←es21] at hM21;obtain⟨⟨hg21,_⟩,_,_,_,_,_,_,⟨r521,r121⟩,_⟩:=id hM21;obtain⟨mr21,hmr21,hRM21,hmrl21⟩:=r121 (by decide);refine Gz 4 ?_;refine Pk 7 (fun H=>H[g]?=some (.cells (piC a qs.length ids.length).toArray 62 (0,0))∧H[b]?=some (.cells (aE q).toArray 37 (0,0))) [7] [0,1,2,3,4,5,6,7] aJ (by kernel_rfl) (⟨hg21,hb21⟩) ?_;refine Gz 7 ?_;refine Ph rfl rfl (Py mpQ qU (a:=(⟨q.2.ino,hib⟩:I6)) rfl rfl rfl hmr21 ?_);intro w22 hm22 hs22 hf22;refine PN rfl ?_;have hf22:aA (· = a.r) w21 w22:=hf22.SL;refine Gz 10 ?_;have hRl:R.2.refs.length=qs.length+1:=by rw[hR,(yS s8 q.2.xs).r];exact hok8.r
 rw[hw8,hfix];refine⟨_,rfl,?_,?_⟩
 · rw[hnd,htn]
   show _=Value.int .i64 ((R.2.refs.set m (((bM R.2.ino R.2.ino.length:Nat):Int)+1)).getD m 0-1);rw[S6,Tz (by omega)];show _=Value.int .i64 (((bM R.2.ino R.2.ino.length:Nat):Int)+1-1);rw[show ((bM R.2.ino R.2.ino.length:Nat):Int)+1-1=(bM R.2.ino R.2.ino.length:Nat) by omega]
 · have hst:=hM21.step hf22 5 (by decide) (fun k hk=>.inl (by have h:k=a.r:=hk;rw[h];exact r521)) (fun _ _=>rfl)
   obtain⟨c0,c1,c2,c3,c4,c5,c6,⟨c7,_⟩,c8,c9⟩:=hst;subst es21;have h1l:R.2.refs.length=qs.length+1:=hRl;have hp1:=hRM21.put ⟨q.2.ino,hib⟩ (v:=bM R.2.ino R.2.ino.length) hi1 (by show q.2.ino.toNat<R.2.refs.length;omega);have hp2:=vD.len hRM21 hmrl21 ⟨q.2.ino,hib⟩ (v:=((bM R.2.ino R.2.ino.length:Nat):Int)+1) (iV ((bM R.2.ino R.2.ino.length:Nat):Int)) hi1 (by show q.2.ino.toNat<R.2.refs.length;omega) (by omega);rw[show (⟨q.2.ino,hib⟩:I6).1.toNat=m from htn] at hp1 hp2;have hz22:=hf22.size;have A8:aA (Lb ow) W w8:=(hF4.any (S:=Lb ow)).SJ hF8 (fun k h=>h.elim .inl (fun h=>.inr (by omega)));have A13:aA (Lb ow) W w13:=((((A8.trans hf9.any).tw hf10).tw hf11).tw hf12).tw hf13;have A17:aA (Lb ow) W w17:=(A13.tw hf15).tw hf17;have l8:∀ k,k<W.heap.size→ow8 k=ow k:=fun k hk=>hl8 k (by omega);have l18:∀ k,k<W.heap.size→ow18 k=ow k:=fun k hk=>by rw[hl18 k (by omega),l8 k hk]
   have l21:∀ k,k<W.heap.size→ow21 k=ow k:=fun k hk=>by rw[hl21 k (by omega),l18 k hk]
   have A19:aA (Lb ow) W w19:=(kF l8 A17 hf18).tw hf19;have A21:aA (Lb ow) W w21:=kF l18 (A19.trans hf20.any) hf21;refine⟨ow21,⟨c0,c1,c2,c3,fun _=>c4 (by decide),fun _=>c5 (by decide),fun _=>c6 (by decide),⟨c7,fun _=>⟨_,hm22,hp1,hp2⟩⟩,c8.imp id (fun h _=>h (by decide)),c9.imp id (fun h _=>h (by decide))⟩,l21,fun k hk=>hn21 k (by omega),A21.SJ hf22 (fun k h=>?_)⟩;have h:k=a.r:=h;by_cases hk:k<W.heap.size
   · refine .inl ?_
     rw[h] at hk ⊢;show ow a.r≠0∧ow a.r≠4;rw[r5];decide
   ·exact .inr (by omega)
theorem vX(a:PiA)(g tp:Nat)(qs:List (NdH×Nd))(ids:List Int)(files:List Ino)(G:GdP qs ids files):∀ (n:Nat),PwS a g tp qs ids files n
|0=>fun ow s k W hM hn hk hdp hok hbd=>by
   exfalso;obtain⟨kn,rfl⟩:=Uc hk.1;obtain⟨q,hq⟩:∃ q,qs[kn]?=some q:=⟨_,SS (by omega)⟩
   have h:=(G.B.q q (S1 hq)).2.1;rw[bO hq] at hdp;omega
|n+1=>BT a g tp qs ids files G n (vX a g tp qs ids files G n)
end
section
open Go Go.RowKit Go.Maps
theorem wH{α:Type}[DecidableEq α]:∀ (l m:List α),l.Nodup→(∀ x∈l,x∈m)→l.length≤m.length
|[],_,_,_=>S3 _
|x::r,m,hn,h=>by
   have hx:=h x (by simp);have h1:=List.nodup_cons.1 hn;have h2:=wH r (m.erase x) h1.2 (fun y hy=>(List.mem_erase_of_ne (fun e=>h1.1 (by rw[←e];exact hy))).2 (h y (by simp[hy])));rw[List.length_erase_of_mem hx] at h2;have:=List.length_pos_of_mem hx;rw[Td];omega
theorem lT{qs:List (NdH×Nd)}{ids:List Int}(h:oX qs ids):ids.length≤2*qs.length:=by
 have:=wH ids (gN qs) (h.1.imp (fun h=>by omega)) (fun x hx=>(h.2 x).1 hx);rw[tC] at this;exact this
theorem Dh{ids:List Int}{z:Int}(h:z∈ids):0≤sZ ids z∧sZ ids z<ids.length∧ids.getD (sZ ids z).toNat 0=z:=by
 unfold sZ;cases hf:ids.findIdx? (fun x=>decide (x=z)) with
|none=>
   rw[List.findIdx?_eq_none_iff] at hf;have:=hf z h;simp at this
|some i=>
   rw[T2] at hf;obtain⟨hi,h1,_⟩:=hf;have h1:ids[i]=z:=by simpa using h1
   refine⟨UJ _,by show (i:Int)<_;omega,?_⟩;show ids.getD ((i:Int)).toNat 0=z;rw[TF,S6,SS hi];exact h1
theorem rF{qs:List (NdH×Nd)}{q:NdH×Nd}(h:q∈qs):q.2.ud∈gN qs∧q.2.gd∈gN qs:=by
 obtain⟨i,hi⟩:=Te h;have hl:=(SV.1 hi).1;have hz:=tC qs;have g:∀ j,j<2*qs.length→(gN qs).getD j 0∈gN qs:=fun j hj=>by
  rw[S6,SS (by omega)];exact Uh _
 obtain⟨k0,k1⟩:=Dk qs i q hi;refine⟨?_,?_⟩
 · have:=g (2*i) (by omega)
   rw[k0] at this;exact this
 · have:=g (2*i+1) (by omega)
   rw[k1] at this;exact this
theorem JO{qs:List (NdH×Nd)}{q:NdH×Nd}(h:q∈qs):1≤jA qs q.2.ino:=by
 unfold jA;have:0<qs.countP (fun p=>decide (p.2.ino=q.2.ino)):=List.countP_pos_iff.2 ⟨q,h,by simp⟩;omega
section
variable {qs:List (NdH×Nd)}{ids:List Int}{fs:FSt}(G:GdT qs)(I:oX qs ids)(F:FI (nds qs) (qs.length+1) fs)
include G
theorem GdT.one{k:Nat}{q:NdH×Nd}(hq:qs[k]?=some q)(hk:q.2.kind=1):jA qs q.2.ino=1:=by
 have hl:=(SV.1 hq).1;have hz:∀ L:List (NdH×Nd),(∀ p∈L,p.2.ino≠q.2.ino)→L.countP (fun p=>decide (p.2.ino=q.2.ino))=0:=fun L h=>List.countP_eq_zero.2 (fun p hp=>by simpa using h p hp);have e:qs=qs.take k++q::qs.drop (k+1):=by rw[←(SV.1 hq).2,List.getElem_cons_drop,Tn]
 unfold jA;have h1:(qs.take k).countP (fun p=>decide (p.2.ino=q.2.ino))=0:=hz _ (fun p hp he=>by
  obtain⟨j,hj⟩:=Te hp;rw[List.getElem?_take] at hj
  split at hj
  · rename_i hlt
    exact(G.lnk k j q p (by omega) hq hj he.symm).1 hk
  ·cases hj)
 have h2:(qs.drop (k+1)).countP (fun p=>decide (p.2.ino=q.2.ino))=0:=hz _ (fun p hp he=>by
  obtain⟨j,hj⟩:=Te hp;rw[Ut] at hj;exact(G.lnk k (k+1+j) q p (by omega) hq hj he.symm).1 hk)
 have h3:qs.countP (fun p=>decide (p.2.ino=q.2.ino))=(qs.take k).countP (fun p=>decide (p.2.ino=q.2.ino))+(1+(qs.drop (k+1)).countP (fun p=>decide (p.2.ino=q.2.ino))):=by
  conv=>lhs;rw[e]
  rw[List.countP_append,List.countP_cons_of_pos (by simp)];omega
 rw[h3,h1,h2];rfl
theorem GdT.same{q x:NdH×Nd}(hq:q∈qs)(hx:x∈qs)(e:x.2.ino=q.2.ino):Alk x.2 q.2:=by
 obtain⟨i,hi⟩:=Te hx;obtain⟨j,hj⟩:=Te hq;by_cases h:i=j
 ·subst h;rw[hi] at hj;cases hj;exact Sm _
 ·exact(G.lnk i j x q h hi hj e).2
include F in
theorem JC {q:NdH×Nd} (hq:q∈qs) (hk:q.2.kind=2):FOk fs.ds.B fs.tails q.2.data (fs.files.getD q.2.ino.toNat bA):=by
 have hi:=G.ino q hq;have hl:=F.l;obtain⟨f,hf⟩:∃ f,fs.files[q.2.ino.toNat]?=some f:=⟨_,SS (by omega)⟩
 have hd:fs.files.getD q.2.ino.toNat bA=f:=by rw[S6,hf];rfl
 have ha:=F.a q.2 (Tj.2 ⟨q,hq,rfl⟩) hk;rw[hd] at ha ⊢;rcases F.f _ f hf with e|⟨x,hx,h1,h2,h3⟩
 ·rw[e] at ha;exact absurd (show (0:Int)=2 from ha) (by decide)
 · obtain⟨p,hp,rfl⟩:=Tj.1 hx
   have:=G.ino p hp;have e:=G.same hq hp (by omega);rw[←e.2.2.2.2.1];exact h3
omit G in
theorem J3 {B:By} {L:List By} {d:By} {f:Ino} (h:FOk B L d f) (hL:zE L):∃ st fr off:Nat,f=(fun j=>[2,0,0,0,0,0,(st:Int),(d.length:Int),(fr:Int),(off:Int)].getD j 0,[])∧st≤64+B.length∧fr≤L.length∧(0<fr↔0<d.length%128)∧off<128∧(0<fr∨off=0)∧CG B d st∧TlS L (cV d) fr off:=by
 obtain⟨st,fr,off,h1,h2,h3⟩:=h;have ht:(cV d).length=d.length%128:=by unfold cV;rw[Ta];omega
 have hs:st≤64+B.length:=by
  rcases h2 with⟨_,e⟩|⟨_,pre,rest,e1,e2⟩
  ·omega
  ·rw[e1,e2,SR];omega
 refine⟨st,fr,off,h1,hs,?_⟩;have h3':=h3;rcases h3 with⟨e1,e2,e3⟩|⟨e0,n,a,z,e1,e2,e3,e4⟩
 · rw[e1] at ht
   have ht:0=d.length%128:=ht;exact⟨by omega,by omega,by omega,.inr e3,h2,h3'⟩
 · have hb:=hL (L.getD n []) (by rw[S6,SS e1];exact Uh _)
   rw[e4,SR,SR] at hb;exact⟨by omega,by omega,by omega,.inl (by omega),h2,h3'⟩
include I F in
theorem yK {k:Nat} {q:NdH×Nd} (hq:qs[k]?=some q) {i:Ino} {xr:Int} (hx:0≤xr∧xr≤4294967295)
 (h2:q.2.kind=2→i=fs.files.getD q.2.ino.toNat bA) (h3:q.2.kind=3→i=(zF,q.2.tgt)) (h1:q.2.kind=1→∃ a n:Nat,i=(fun j=>if j=6 then (a:Int) else if j=7 then (n:Int) else 0,[])∧a≤4294967295∧n≤1048576) :
 jL (inB qs ids k i xr).1 (inB qs ids k i xr).2:=by
 have hm:=S1 hq;have hkl:=(SV.1 hq).1;obtain⟨⟨k1,k3⟩,_,m1,m2,m3,m4,m5,m6,_⟩:=G.may q hm;have hn:=G.n;have hil:=lT I;obtain⟨o1,o2⟩:=rF hm;obtain⟨u1,u2,_⟩:=Dh ((I.2 _).2 o1);obtain⟨g1,g2,_⟩:=Dh ((I.2 _).2 o2);have hl:uY qs (k:Int)=jA qs q.2.ino:=rJ ⟨by omega,by omega⟩ (by rw[TF];exact hq);have hc:=HJ qs q.2.ino;have hc1:=JO hm;have hnd:=bO hq;have f0:(inB qs ids k i xr).1 0=q.2.kind:=by unfold inB;rw[hnd];rfl
 have f1:(inB qs ids k i xr).1 1=q.2.md:=by unfold inB;rw[hnd];rfl
 have f2:(inB qs ids k i xr).1 2=sZ ids q.2.ud:=by unfold inB;rw[hnd];rfl
 have f3:(inB qs ids k i xr).1 3=sZ ids q.2.gd:=by unfold inB;rw[hnd];rfl
 have f4:(inB qs ids k i xr).1 4=jA qs q.2.ino:=by rw[←hl];rfl
 have f5:(inB qs ids k i xr).1 5=xr:=rfl;have f6:(inB qs ids k i xr).1 6=i.1 6:=rfl;have f7:(inB qs ids k i xr).1 7=i.1 7:=rfl;have f8:(inB qs ids k i xr).1 8=i.1 8:=rfl;have f9:(inB qs ids k i xr).1 9=i.1 9:=rfl;have ft:(inB qs ids k i xr).2=i.2:=rfl;unfold jL iZ;rw[f0,f1,f2,f3,f4,f5,f6,f7,f8,f9,ft];by_cases c2:q.2.kind=2
 · have hf:=JC G F hm c2
   rw[←h2 c2] at hf;obtain⟨st,fr,off,rfl,a1,a2,a3,a4,a5,_,_⟩:=J3 hf F.t;have hB:=F.b;have hT:=F.tn;rw[Tb] at hB hT;refine⟨⟨by omega,by omega,by omega,by omega,by omega,by omega,by omega,by omega,by omega,by omega,.inl ⟨c2,?_⟩⟩,fun h=>by omega⟩;show 0≤((q.2.data.length:Nat):Int)∧((q.2.data.length:Nat):Int)≤4096∧0≤((fr:Nat):Int)∧((fr:Nat):Int)≤1024∧(0<((fr:Nat):Int)↔0<((q.2.data.length:Nat):Int)%128)∧0≤((st:Nat):Int)∧((st:Nat):Int)≤4294967295∧0≤((off:Nat):Int)∧((off:Nat):Int)<128∧(0<((fr:Nat):Int)∨((off:Nat):Int)=0)∧([]:By).length=0;refine⟨by omega,by omega,by omega,by omega,by omega,by omega,by omega,by omega,by omega,by omega,rfl⟩
 · by_cases c3:q.2.kind=3
   · unfold okT at m6
     rw[SQ c3] at m6;have hp:=S8.2 m6.1;rw[h3 c3];refine⟨⟨by omega,by omega,by omega,by omega,by omega,by omega,by omega,by omega,by omega,by omega,.inr (.inr ⟨c3,by show 1≤q.2.tgt.length;omega,m6.2.1,rfl,rfl,rfl,rfl⟩)⟩,fun _=>m6.2.2⟩
   · have c1:q.2.kind=1:=by omega
     obtain⟨a,n,rfl,ha,hn2⟩:=h1 c1;have h11:=G.one hq c1;refine⟨⟨by omega,by omega,by omega,by omega,by omega,by omega,by omega,by omega,by omega,by omega,.inr (.inl ⟨c1,?_⟩)⟩,fun h=>by omega⟩;show 0≤((a:Nat):Int)∧((a:Nat):Int)≤4294967295∧0≤((n:Nat):Int)∧((n:Nat):Int)≤1048576∧jA qs q.2.ino=1∧(0:Int)=0∧(0:Int)=0∧([]:By).length=0;exact⟨by omega,by omega,by omega,by omega,h11,rfl,rfl,rfl⟩
end
theorem kR.many41{qs:List (NdH×Nd)}{ids:List Int}{files:List Ino}{s:BSt}(h:kR qs ids files s)(hn:qs.length≤40):s.many≤41:=by
 have h1:=UT (fun r:Int=>decide (0<r)) s.refs;rw[h.many];unfold qS;rw[h.rl] at h1;omega
theorem kR.ref_le{qs:List (NdH×Nd)}{ids:List Int}{files:List Ino}{s:BSt}(h:kR qs ids files s)(hn:qs.length≤40){m:Nat}(hm:0<s.refs.getD m 0):s.refs.getD m 0-1≤4294967295:=by
 obtain⟨_,_,_,_,o,_,_,e,_,ha,_⟩:=h.std m hm;have h1:=ha.le;have h2:=h.bi;have h3:=h.many41 hn;have h4:=pL s.ino (o/128);rw[e];unfold bM;omega
section
variable {qs:List (NdH×Nd)}{ids:List Int}{files:List Ino}(G:GdT qs)
include G
theorem wX{s:BSt}(h:kR qs ids files s){S:List By}:∀ (ys:List Int) (last:By),(∀ z∈ys,z∈aX qs S qs.length)→ys.Pairwise (· < ·)→BN qs s ys→(∀ z∈ys,Ti last (aT (ndB qs z).names)=true)→cI last (kP qs s ys)
|[],_,_,_,_,_=>trivial
|z::r,last,hk,hp,hs,hl=>by
   obtain⟨k,q,rfl,hq,hn⟩:=iH (hk z (by simp));have hnd:=bO hq;have hm:=S1 hq;obtain⟨⟨k1,k3⟩,_⟩:=G.may q hm;have hpos:=hs (k:Int) (by simp);have hrl:=h.ref_le G.n.2 hpos;have hp2:=Va.1 hp;refine⟨⟨?_,hl _ (by simp),?_,?_,?_,?_⟩,?_⟩
   · show cP (aT (ndB qs k).names)=0
     rw[hnd];refine G.nmv q hm _ ?_;rw[hn];simp[aT]
   ·show 1≤(ndB qs k).kind;rw[hnd];exact k1
   ·show (ndB qs k).kind≤3;rw[hnd];exact k3
   ·show 0≤s.refs.getD _ 0-1;omega
   ·show s.refs.getD _ 0-1≤4294967295;exact hrl
   · refine wX h r _ (fun z hz=>hk z (by simp[hz])) hp2.2 (fun z hz=>hs z (by simp[hz])) (fun z hz=>?_)
     obtain⟨j,p,rfl,hj,hnj⟩:=iH (hk z (by simp[hz]));have hlt:=hp2.1 _ hz;have hless:=G.lt k j q p (by omega) hq hj;rw[bO hj];show Ti (aT (ndB qs k).names) _=true;rw[hnd];have hkq:iN q.2.names S:=lS.2 ⟨by rw[hn];simp,by rw[hn];simp⟩;have hkp:iN p.2.names S:=lS.2 ⟨by rw[hnj];simp,by rw[hnj];simp⟩;unfold cX at hless;have h5:=of_decide_eq_true hless;rw[Jl hkq hkp] at h5;exact JR.1 h5
theorem Ht{s:BSt}{S:List By}:(bL (kP qs s (aX qs S qs.length))).length≤10440:=by
 have key:∀ ys:List Int,(∀ z∈ys,z∈aX qs S qs.length)→(bL (kP qs s ys)).length≤261*ys.length:=by
  intro ys
  induction ys with
 |nil=>intro _;exact SY _
 |cons z r ih=>
    intro h;obtain⟨k,q,rfl,hq,hn⟩:=iH (h z (by simp));have h2:=ih (fun y hy=>h y (by simp[hy]));have h3:(aT (ndB qs k).names).length≤255:=by
     rw[bO hq];refine(iP (G.nmv q (S1 hq) _ ?_)).1;rw[hn];simp[aT]
    have e:bL (kP qs s ((k:Int)::r))=kQ (aT (ndB qs k).names,(ndB qs k).kind,s.refs.getD (ndB qs k).ino.toNat 0-1)++bL (kP qs s r):=rfl;rw[e,SR,lC,Td];show (aT (ndB qs k).names).length+6+_≤_;omega
 have h1:=key _ (fun z hz=>hz);have h2:=oD (ps:=qs) (s:=S) qs.length;have h3:=G.n.2;omega
end
end
section
open Go Go.RowKit Go.Maps
def BlI(s:BSt):Prop:=s.lst.length≤10440*s.many
structure GdW (qs:List (NdH×Nd))(ids:List Int)(files:List Ino)(s t:BSt)(q:Nd):Prop where
 inv:kR qs ids files t
 bl:BlI t
 ex:Ex s t
 set:0<t.refs.getD q.ino.toNat 0
 ch:∀ m,t.refs.getD m 0≠s.refs.getD m 0→∃ x∈qs,x.2.ino=(m:Int)∧∃ r,x.2.names=q.names++r
section
variable {qs:List (NdH×Nd)}{ids:List Int}{fs:FSt}(G:GdT qs)(I:oX qs ids)(F:FI (nds qs) (qs.length+1) fs)
include G
theorem CQ{wr:Int→BSt→BSt}{S:List By}(IH:∀ (k:Nat) (q:NdH×Nd) (s:BSt),qs[k]?=some q→q.2.names.length=S.length+1→kR qs ids fs.files s→BlI s→GdW qs ids fs.files s (wr k s) q.2) :
 ∀ (ys:List Int) (s:BSt),(∀ z∈ys,z∈aX qs S qs.length)→kR qs ids fs.files s→BlI s→∃ t,wrK wr qs ys s=(t,kP qs t ys)∧kR qs ids fs.files t∧BlI t∧Ex s t∧BN qs t ys ∧
  ∀ m,t.refs.getD m 0≠s.refs.getD m 0→∃ x∈qs,x.2.ino=(m:Int)∧∃ a r,x.2.names=S++a::r
|[],s,_,h,hb=>⟨s,rfl,h,hb,.rfl,(by intro j hj;cases hj),fun m hm=>absurd rfl hm⟩
|z::r,s,hk,h,hb=>by
   obtain⟨k,q,rfl,hq,hn⟩:=iH (hk z (by simp));have g:=IH k q s hq (by rw[hn];simp) h hb;obtain⟨t,e,i1,i2,i3,i4,i5⟩:=CQ IH r (wr k s) (fun y hy=>hk y (by simp[hy])) g.inv g.bl;have hnd:=bO hq;have hset:0<t.refs.getD q.2.ino.toNat 0:=by rw[i3.r _ g.set];exact g.set
   refine⟨t,?_,i1,i2,g.ex.trans i3,?_,fun m hm=>?_⟩
   · show ((wrK wr qs r (wr k s)).1,(aT (ndB qs k).names,(ndB qs k).kind,(wr k s).refs.getD (ndB qs k).ino.toNat 0-1)::(wrK wr qs r (wr k s)).2)=_
     rw[e];refine U3 rfl ?_;show _::kP qs t r=(aT (ndB qs k).names,(ndB qs k).kind,t.refs.getD (ndB qs k).ino.toNat 0-1)::kP qs t r;rw[hnd,i3.r _ g.set]
   · intro j hj
     rcases Tm.1 hj with rfl|hj
     ·rw[hnd];exact hset
     ·exact i4 j hj
   · by_cases hc:t.refs.getD m 0=(wr k s).refs.getD m 0
     · obtain⟨x,hx,h1,y,h2⟩:=g.ch m (by rw[←hc];exact hm)
       obtain⟨a,ha⟩:∃ a,a=aT q.2.names:=⟨_,rfl⟩
       rw[←ha] at hn;exact⟨x,hx,h1,a,y,by rw[h2,hn];simp⟩
     ·exact i5 m hc
include I F in
theorem CT:∀ (n:Nat) (k:Nat) (q:NdH×Nd) (s:BSt),qs[k]?=some q→17≤q.2.names.length+n→kR qs ids fs.files s→BlI s→GdW qs ids fs.files s (wrB qs ids fs.files n k s) q.2
|0,k,q,s,hq,hd,h,hb=>by
   have:=G.dep q (S1 hq);omega
|n+1,k,q,s,hq,hd,h,hb=>by
   have hqm:=S1 hq;have hi:=G.ino q hqm;have hn40:=G.n.2;obtain⟨m,hm⟩:=Uc (show 0≤q.2.ino by omega);have hmt:q.2.ino.toNat=m:=by omega
   have hX:=(G.may q hqm).2.2.2.2.2.2.2.2;obtain⟨k1,k3⟩:=(G.may q hqm).1;rw[Fq n s hq hm];have one:∀ (s':BSt) (i:Ino),kR qs ids fs.files s'→s'.lst.length≤10440*(s'.many+1)→s'.refs.getD m 0=0→Ex s s'→KiI qs fs.files s' q.2 i →
    (∀ xr,0≤xr→xr≤4294967295→jL (inB qs ids k i xr).1 (inB qs ids k i xr).2)→(∀ a,s'.refs.getD a 0≠s.refs.getD a 0→∃ x∈qs,x.2.ino=(a:Int)∧∃ r,x.2.names=q.2.names++r)→GdW qs ids fs.files s (dJ qs ids k i s') q.2:=by
    intro s' i hI hl h0 he hk hmay hch;obtain⟨f1,f2,f3,f4,f5,f6⟩:=Hk hI hq hm (by omega) h0 hX hk hmay hn40;refine⟨f1,by unfold BlI;rw[f5,f6];exact hl,he.trans f2,by rw[hmt];exact f3,fun a ha=>?_⟩;by_cases e:a=m
    ·exact⟨q,hqm,by rw[e];exact hm,[],by simp⟩
    ·rw[f4 a e] at ha;exact hch a ha
   by_cases c0:0<s.refs.getD m 0
   · rw[SQ c0]
     exact⟨h,hb,.rfl,by rw[hmt];exact c0,fun a ha=>absurd rfl ha⟩
   · rw[SP c0]
     have h0:s.refs.getD m 0=0:=by have:=h.rn m;omega
     have hbl:s.lst.length≤10440*(s.many+1):=by have:s.lst.length≤10440*s.many:=hb;omega
     have hno:∀ a,s.refs.getD a 0≠s.refs.getD a 0→∃ x∈qs,x.2.ino=(a:Int)∧∃ r,x.2.names=q.2.names++r:=fun a ha=>absurd rfl ha;by_cases c2:q.2.kind=2
     · rw[SQ c2]
       have e:fs.files.getD m bA=fs.files.getD q.2.ino.toNat bA:=by rw[hmt]
       exact one s _ h hbl h0 .rfl ⟨fun _=>e,fun h=>by omega,fun h=>by omega⟩ (fun xr a b=>yK G I F hq ⟨a,b⟩ (fun _=>e) (fun h=>by omega) (fun h=>by omega)) hno
     · rw[SP c2]
       by_cases c3:q.2.kind=3
       · rw[SQ c3]
         exact one s _ h hbl h0 .rfl ⟨fun h=>by omega,fun _=>rfl,fun h=>by omega⟩ (fun xr a b=>yK G I F hq ⟨a,b⟩ (fun h=>by omega) (fun _=>rfl) (fun h=>by omega)) hno
       · rw[SP c3,SQ (by omega)]
         have c1:q.2.kind=1:=by omega
         obtain⟨t,e,i1,i2,i3,i4,i5⟩:=CQ (S:=q.2.names) (ids:=ids) (fs:=fs) G (wr:=wrB qs ids fs.files n) (fun k' q' s' hq' hl h' hb'=>CT n k' q' s' hq' (by omega) h' hb') (aX qs q.2.names qs.length) s (fun _ hz=>hz) h hb;rw[e];have hch:cI [] (kP qs t (aX qs q.2.names qs.length)):=wX G i1 _ _ (fun _ hz=>hz) (jO _) i4 (fun z hz=>by
          obtain⟨k',q',rfl,hq',hn'⟩:=iH hz;rw[bO hq'];have hv:=(iP (G.nmv q' (S1 hq') (aT q'.2.names) (by rw[hn'];simp[aT]))).2.1;cases hc:aT q'.2.names with
         |nil=>exact absurd hc hv
         |cons a r=>rfl)
         have hp:=(HE hch).1;have hlen:=Ht (s:=t) G (S:=q.2.names);simp only;rw[hp];simp only;obtain⟨B,hB⟩:∃ B,B=bL (kP qs t (aX qs q.2.names qs.length)):=⟨_,rfl⟩
         rw[←hB] at hlen ⊢;have hex:Ex t { t with lst:=t.lst++B }:=⟨⟨[],by simp⟩,⟨_,rfl⟩,⟨[],by simp⟩,fun _ _=>rfl⟩
         obtain⟨u,hu⟩:∃ u,u = { t with lst:=t.lst++B }:=⟨_,rfl⟩
         rw[←hu] at hex ⊢;have u1:u.ino=t.ino:=by rw[hu]
         have u2:u.refs=t.refs:=by rw[hu]
         have u3:u.fur=t.fur:=by rw[hu]
         have u4:u.sets=t.sets:=by rw[hu]
         have u5:u.many=t.many:=by rw[hu]
         have u6:u.lst=t.lst++B:=by rw[hu]
         have hIu:kR qs ids fs.files u:=⟨fun a ha=>by rw[u2] at ha;exact(i1.std a ha).ex ha hex,by rw[u2];exact i1.rl,fun a=>by rw[u2];exact i1.rn a,fun y hy=>by rw[u4] at hy;rw[u3];exact i1.sets y hy,by rw[u5,i1.many];unfold qS;rw[u2],fun a b=>by rw[u2];exact i1.dist a b,by rw[u1,u5];exact i1.bi,by rw[u3,u5];exact i1.bf,by rw[u4,u5];exact i1.sn,fun y hy=>i1.sh y (by rw[←u4];exact hy)⟩
         have ht0:u.refs.getD m 0=0:=by
          rw[u2];apply S4;intro hne;obtain⟨x,hx,hxi,a,r,hxn⟩:=i5 m (by rw[h0];exact hne);obtain⟨j,hj⟩:=Te hx;by_cases ej:k=j
          · subst ej;rw[hq] at hj;cases hj
            have:=congrArg Tp hxn;simp at this
          ·exact(G.lnk k j q x ej hq hj (by omega)).1 c1
         have hd1:Bg t B=JL u t.lst.length (bL (kP qs u (aX qs q.2.names qs.length))).length:=by
          have e1:kP qs u (aX qs q.2.names qs.length)=kP qs t (aX qs q.2.names qs.length):=yZ i4 hex;rw[e1,←hB];unfold Bg JL;rw[u6,eG (SY _)]
         have hki:KiI qs fs.files u q.2 (Bg t B):=⟨fun h=>by omega,fun h=>by omega,fun _=>⟨i4.ex hex,t.lst.length,hd1,by
          rw[yZ i4 hex,←hB,u6];exact .new _ _⟩⟩
         have hm41:=i1.many41 hn40;have hlt:t.lst.length≤10440*t.many:=i2;refine one u _ hIu (by rw[u6,u5,SR];omega) ht0 (i3.trans hex) hki (fun xr a b=>yK G I F hq ⟨a,b⟩ (fun h=>by omega) (fun h=>by omega) (fun _=>⟨bM t.lst t.lst.length,B.length,rfl,?_,by omega⟩)) (fun a ha=>?_)
         · have:=pL t.lst (t.lst.length/128)
           unfold bM;omega
         · rw[u2] at ha
           obtain⟨x,hx,h1,b,r,h2⟩:=i5 a ha;exact⟨x,hx,h1,b::r,h2⟩
omit G in
theorem Ol:kR qs ids fs.files (jV (qs.length+1))∧BlI (jV (qs.length+1)):=by
 have hz:∀ m,(jV (qs.length+1)).refs.getD m 0=0:=fun m=>by
  show (Tf (qs.length+1) (0:Int)).getD m 0=0;rw[S6,List.getElem?_replicate]
  split<;>rfl
 refine⟨⟨fun m hm=>?_,Tw,fun m=>by rw[hz];exact Int.le_refl _,(by intro y hy;cases hy),?_,fun m n hm=>?_,S3 _,S3 _,S3 _,(by intro y hy;cases hy)⟩,S3 _⟩
 ·rw[hz] at hm;exact absurd hm (by decide)
 · show 0=(List.filter _ (Tf (qs.length+1) (0:Int))).length
   rw[List.filter_replicate];simp
 ·rw[hz] at hm;exact absurd hm (by decide)
include I F in
theorem mA:∃ S,wrB qs ids fs.files 17 0 (jV (qs.length+1))=S∧kR qs ids fs.files S∧BlI S∧∀ q∈qs,0<S.refs.getD q.2.ino.toNat 0:=by
 obtain⟨r,hr,hr1,hr2⟩:=G.root;obtain⟨a,b⟩:=Ol (qs:=qs) (ids:=ids) (fs:=fs);have g:=CT G I F 17 0 r (jV (qs.length+1)) hr (by omega) a b;refine⟨_,rfl,g.inv,g.bl,?_⟩;obtain⟨S,hS⟩:∃ S,S=wrB qs ids fs.files 17 (0:Nat) (jV (qs.length+1)):=⟨_,rfl⟩
 rw[←hS] at g;show ∀ q∈qs,0<(wrB qs ids fs.files 17 ((0:Nat):Int) (jV (qs.length+1))).refs.getD q.2.ino.toNat 0;rw[←hS];have key:∀ (d:Nat) (q:NdH×Nd),q∈qs→q.2.names.length=d→0<S.refs.getD q.2.ino.toNat 0:=by
  intro d
  induction d with
 |zero=>
    intro q hq hl;obtain⟨j,hj⟩:=Te hq;have e:=G.inj hr hj (by rw[hr1,S7.1 hl]);subst e;rw[hr] at hj;cases hj;exact g.set
 |succ d ih=>
    intro q hq hl;obtain⟨j,hj⟩:=Te hq;have hne:q.2.names≠[]:=fun e=>by rw[e] at hl;cases hl
    obtain⟨p,hp,hpn,hpk⟩:=G.up q hq hne;have hpos:=ih p hp (by rw[hpn,Uz];omega);obtain⟨k',q',i,xr,o,h1,h2,h3,h4,h5,h6,h7⟩:=g.inv.std _ hpos;obtain⟨jp,hjp⟩:=Te hp;have hpi:=G.ino p hp;have e:k'=jp:=S4 fun hne=>(G.lnk jp k' p q' (fun h=>hne h.symm) hjp h1 (by omega)).1 hpk;subst e;rw[h1] at hjp;cases hjp;have hk:=(h7.2.2 hpk).1 (j:Int) (GP hj hne hpn.symm);rw[bO hj] at hk;exact hk
 exact fun q hq=>key _ q hq rfl
end
end
section
open Go Go.RowKit Go.Maps
theorem vH:∀ (L:List By) (t:By) (s:DS),dA (L++[t]) s=((kO 64 (dA L s).1 t).1,(dA L s).2++[((kO 64 (dA L s).1 t).2:Int)])
|[],t,s=>rfl
|x::r,t,s=>by
   show ((dA (r++[t]) (kO 64 s x).1).1,_::(dA (r++[t]) (kO 64 s x).1).2)=_;rw[vH r t];rfl
theorem CX{L:List By}(h:zE L)(s:DS):(dA L s).1.B.length≤s.B.length+135*L.length:=by
 obtain⟨z,hz,hl⟩:=pA L s;have key:∀ M:List By,zE M→(M.map (fun t=>(cR t).1.length)).sum≤135*M.length:=by
  intro M
  induction M with
 |nil=>intro _;exact SY _
 |cons x r ih=>
    intro hb;have h1:=ih (fun y hy=>hb y (by simp[hy]));have h2:=hb x (by simp);have h3:=fR (b:=x) h2.2;rw[TD,TU,Td];omega
 have:=key L h;rw[hz,SR];omega
theorem iJ(T:By):(dnW T).length≤135*((T.length+127)/128):=pL T (nF T)
structure O3 (qs:List (NdH×Nd))(ids:List Int):Prop where
 B:(dA (aL qs).tails (aL qs).ds).1.B.length≤200000
 i:(aF qs ids).s.ino.length≤10000
 l:(aF qs ids).s.lst.length≤500000
 f:(aF qs ids).s.fur.length≤200000
 b:bdB (aF qs ids).s
 m:(aF qs ids).s.many≤41
 d:ids.length≤80
 n4:(aH (aF qs ids).pl 4).1.length≤160
 n2:(aH ids 2).1.length≤160
 o1:(eI (aF qs ids)).length≤200000
 o2:(dX (aF qs ids)).length≤400000
 o3:(eH (aF qs ids)).length≤1000000
 o4:(eU (aF qs ids)).length≤1100000
 o5:(fC (aF qs ids) ids).length≤1200000
 o6:(dD (aF qs ids) ids).length≤1500000
theorem lM(l:List Int)(w:Nat)(hw:w24 w)(h:inW w l):(aH l w).1.length=w*l.length:=by rw[Am hw h,JG]
theorem DR{qs:List (NdH×Nd)}{ids:List Int}(G:GdT qs)(I:oX qs ids):O3 qs ids:=by
 have F:=yW (qs:=qs) (fun q hq=>⟨G.ino q hq,(G.may q hq).2.2.2.2.2.2.1⟩);obtain⟨S,e,hI,hB,_⟩:=mA G I F;have e:(aF qs ids).s=S:=e;have hn:=G.n.2;have h41:=hI.many41 hn;have hid:=lT I;have h1:=hI.bi;have h2:S.lst.length≤10440*S.many:=hB;have h3:=hI.bf;have h4:=hI.sn;have hT:=F.tn;have hFB:=F.b;rw[Tb] at hT hFB;have hb:=CX F.t (aL qs).ds;have hpl:=kV (aL qs).tails (aL qs).ds;have hpi:inW 4 (aF qs ids).pl:=by
  intro x hx;obtain⟨j,hj,rfl⟩:=TG hx;have hj2:j<(aL qs).tails.length:=by have:j<(dA (aL qs).tails (aL qs).ds).2.length:=hj;omega
  obtain⟨pre,rest,a1,a2⟩:=xS (aL qs).tails (aL qs).ds j hj2;have e:(aF qs ids).pl[j]=(dA (aL qs).tails (aL qs).ds).2.getD j 0:=by
   have e2:(aF qs ids).pl=(dA (aL qs).tails (aL qs).ds).2:=rfl;rw[S6,←e2,SS hj];rfl
  have a3:=congrArg Tp a1;rw[SR] at a3;rw[e,a2];refine⟨by omega,?_⟩;show (64:Int)+pre.length<4294967296;omega
 have hii:inW 2 ids:=by
  intro x hx;have h:=(I.2 x).1 hx;unfold gN at h;obtain⟨q,hq,h1⟩:=T9.1 h;obtain⟨_,_,_,m2,m3,_⟩:=G.may q hq;simp only[Tm,TE,or_false] at h1;refine⟨by rcases h1 with rfl|rfl<;>omega,?_⟩;show x<65536;rcases h1 with rfl|rfl<;>omega
 have hp4:(aH (aF qs ids).pl 4).1.length=4*(aF qs ids).pl.length:=lM _ 4 (.inr rfl) hpi;have hp2:(aH ids 2).1.length=2*ids.length:=lM _ 2 (.inl rfl) hii;have hpl2:(aF qs ids).pl.length=(aL qs).tails.length:=hpl;have d1:=iJ (aF qs ids).s.ino;have d2:=iJ (aF qs ids).s.lst;have d3:=iJ (aH (aF qs ids).pl 4).1;have d4:=iJ (aH ids 2).1;have d5:=iJ (aF qs ids).s.fur;rw[e] at d1 d2 d5;rw[hp4] at d3;rw[hp2] at d4;have l1:(eI (aF qs ids)).length=(dA (aL qs).tails (aL qs).ds).1.B.length:=rfl;have l2:(dX (aF qs ids)).length=(eI (aF qs ids)).length+(dnW (aF qs ids).s.ino).length:=SR;have l3:(eH (aF qs ids)).length=(dX (aF qs ids)).length+(dnW (aF qs ids).s.lst).length:=SR;have l4:(eU (aF qs ids)).length=(eH (aF qs ids)).length+(dnW (aH (aF qs ids).pl 4).1).length:=SR;have l5:(fC (aF qs ids) ids).length=(eU (aF qs ids)).length+(dnW (aH ids 2).1).length:=SR;have l6:(dD (aF qs ids) ids).length=(fC (aF qs ids) ids).length+(dnW (aF qs ids).s.fur).length:=SR;rw[e] at l2 l3 l6;refine⟨by omega,by rw[e];omega,by rw[e];omega,by rw[e];omega,by rw[e];exact⟨by omega,by omega,by omega,by omega,by omega⟩,by rw[e];omega,by omega,by omega,by omega,by omega,by omega,by omega,by omega,by omega,by omega⟩
def fs0(n:Nat):FSt:=⟨⟨[],[]⟩,[],Tf n bA⟩
theorem fi0(n:Nat):FI [] n (fs0 n):=⟨uQ.zero,(by intro b hb;cases hb),SY _,Tw,SY _,fun i f hf=>.inl (UF (S1 hf)),(by intro x hx;cases hx)⟩
theorem Hr{V:List Nd}{n:Nat}{s:FSt}(h:FI V n s):∀ f∈s.files,f.2.length≤200:=by
 intro f hf;obtain⟨i,hi⟩:=Te hf;rcases h.f i f hi with e|⟨x,_,_,_,st,fr,off,e,_⟩
 ·rw[e];exact S3 _
 ·rw[e];exact S3 _
theorem B8{qs:List (NdH×Nd)}{k:Nat}{q:NdH×Nd}(h:qs[k]?=some q):nds (qs.take (k+1))=nds (qs.take k)++[q.2]:=by rw[tkL h];simp[nds]
theorem Hm{qs:List (NdH×Nd)}{k:Nat}{q:NdH×Nd}(h:qs[k]?=some q)(s:FSt):(nds (qs.take (k+1))).foldl cN s=cN ((nds (qs.take k)).foldl cN s) q.2:=by rw[B8 h,TX];rfl
theorem tX{s:FSt}{x:Nd}(h:x.kind≠2∨(s.files.getD x.ino.toNat bA).1 0=2):cN s x=s:=by unfold cN;rw[SQ h]
def BuP(W:World)(ps:List (NdH×Nd)):Value→World→Prop:=fun v w'=>
 (chk (nds ps)≠0∧v=.tuple #[sN,iV (chk (nds ps))]∧aA nob W w') ∨
 (chk (nds ps)=0∧∃ ids o c,oX (cQ ps) ids∧v=.tuple #[.slice o (pI (cQ ps) ids).1.length c,iV (pI (cQ ps) ids).2]∧Own b8 5 w'.heap o c (pI (cQ ps) ids).1∧Fr W.heap.size o∧aA nob W w')
end
end Go.Proofs.YthmmmagklhiiiaaGreatDoor
