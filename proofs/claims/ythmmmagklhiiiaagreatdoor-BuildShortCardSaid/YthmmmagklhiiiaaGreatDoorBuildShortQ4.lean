/- lamella: what the law needs. No condition beyond the bounds that each states. -/
import Derived.Shelf.SlSortCmp.InsertionK
import Derived.Shelf.SlSortCmp.WholeK
import Derived.Laws.CopyRow
import Derived.Test.YthmmmagklhiiiaaGreatDoorBuildShortQ3
namespace Go.Proofs.YthmmmagklhiiiaaGreatDoor
open Go Go.RowKit
set_option linter.unusedVariables false
set_option linter.unusedSectionVars false
set_option maxHeartbeats 64000000
open List (sum_append)
open List renaming length_append → SR, getElem?_eq_getElem → SS, getElem?_eq_some_iff → SV, mem_of_getElem? → S1, length_take → S2, length_singleton → S5, getD → S6, take_of_length_le → S9, length_drop → Ta, length_map → Tb, length_cons → Td, getElem?_of_mem → Te, replicate → Tf, mem_map → Tj, mem_cons → Tm, append_assoc → To, length → Tp, length_nil → Tr, getElem?_map → Ts, mem_singleton → Tv, length_replicate → Tw, getElem?_eq_none → Ty, getElem?_set_self → Tz, take_length → TB, getElem?_take → TC, map_cons → TD, not_mem_nil → TE, getElem_of_mem → TG, nil_append → TH, length_set → TL, range → TM, flatMap_cons → TN, ext_getElem? → TP, mem_of_mem_take → TR, getElem?_set_ne → TT, sum_cons → TU, foldl_cons → TY, map_map → T3, mem_flatMap → T9, mem_range → Ua, map_append → Um, eq_of_mem_replicate → UF, getElem?_replicate → UL, set_set → U1, map_nil → U2, take_zero → U8, take_append → Vn
open _root_.Nat renaming le_refl → SY, zero_le → S3, mul_le_mul_right → Tu, zero_add → TI, lt_of_lt_of_le → TQ, le_add_right → T0, le_succ → UU
open _root_.Array renaming getElem?_eq_some_iff → SZ, length_toList → Ue, getElem?_eq_getElem → Ul, getElem?_modify → Uy
open Classical renaming byContradiction → S4, not_not → TJ
open _root_.Option renaming map_eq_some_iff → Tc
section
open Go Go.RowKit Go.Maps
theorem PiX.calm{z:Nat}{a:PiA}{ow:Nat→Nat}{H:Array Obj}{g tp:Nat}{qs:List (NdH×Nd)}{ids:List Int}{files:List Ino}{s:BSt}(h:PiX z a ow H g tp qs ids files s)(hz:z≠1∧z≠2∧z≠3∧z≠5∧z≠7∧z≠8):PiX 0 a ow H g tp qs ids files s:=by
 obtain⟨b0,b1,b2,b3,c1,c2,c3,⟨c4,c5⟩,⟨c6,c7⟩,c8,c9⟩:=h;exact⟨b0,b1,b2,b3,fun _=>c1 hz.1,fun _=>c2 hz.2.1,fun _=>c3 hz.2.2.1,⟨c4,fun _=>c5 hz.2.2.2.1⟩,⟨c6,fun _=>c7 hz.2.2.2.2.1⟩,c8,fun _=>c9 hz.2.2.2.2.2⟩
theorem gI.mono{D D':Nat→Prop}{H:Array Obj}{p:Nat}{L:List By}(h:gI D H p L)(hd:∀ k,D k→D' k):gI D' H p L:=by
 obtain⟨ao,c,bo,c',h1,h2,h3,h4,h5,h6,h7,h8,h9⟩:=h;exact⟨ao,c,bo,c',h1,h2,h3,h4,h5,h6,hd _ h7,fun k hk=>hd k (h8 k hk),fun k hk=>hd k (h9 k hk)⟩
theorem IB{D:Nat→Prop}{H:Array Obj}{hs:List Hd}{L:List By}(h:cK D H hs L):cK (fun k=>D k∧k<H.size) H hs L:=
 ⟨h.1,fun i x y hx hy=>by
  obtain⟨a,b,c⟩:=h.2 i x y hx hy;exact⟨a,b,fun hne k hk=>⟨c hne k hk,by obtain⟨z,hz,e⟩:=hk;have:=b.lt hne z hz;omega⟩⟩⟩
theorem CJ.put{m:List (I6×Value)}{files:List Ino}(h:CJ m files)(x:I6){f:Ino}(hx:1≤x.1)(hl:x.1.toNat<files.length)(hf:f.1 0=2):CJ (bW m x (yP (fl0 f))) (files.set x.1.toNat f):=by
 intro a ha;rw[gY];by_cases e:a=x
 · subst e
   rw[SQ rfl,S6,Tz hl];show _=if f.1 0=2 then _ else _
   rw[SQ hf];rfl
 · have hne:¬ a.1.toNat=x.1.toNat:=fun h=>e (Subtype.ext (by omega))
   rw[SP e,h a ha];have e2:(files.set x.1.toNat f).getD a.1.toNat bA=files.getD a.1.toNat bA:=by
    rw[S6,TT (fun h=>hne h.symm)];rfl
   rw[e2]
theorem AZ:∀ {L:List By},zE L→L.length≤1048576→L.flatten.length≤1099511627776:=by
 have key:∀ L:List By,zE L→L.flatten.length≤128*L.length:=by
  intro L
  induction L with
 |nil=>intro _;exact SY _
 |cons x r ih=>
    intro h;have h1:=ih (fun y hy=>h y (by simp[hy]));have h2:=(h x (by simp)).2;rw[List.flatten_cons,SR,Td];omega
 intro L h hn;have:=key L h;omega
noncomputable def yO (W w':World) (z:Nat) (o:Option Addr) (ow:Nat→Nat):Nat→Nat:=fun k=>open Classical in if k<W.heap.size then ow k else if k<w'.heap.size∧¬ blk o k then z else 0
theorem AM{W w':World}{z:Nat}{o:Option Addr}{ow:Nat→Nat}{k:Nat}(h:k<W.heap.size):yO W w' z o ow k=ow k:=SQ h
theorem GM{W w':World}{z:Nat}{o:Option Addr}{ow:Nat→Nat}(hs:W.heap.size≤w'.heap.size){k:Nat}(h:w'.heap.size≤k):yO W w' z o ow k=0:=by unfold yO;rw[SP (by omega),SP (fun h2=>by have:=h2.1;omega)]
theorem Dw{W w':World}{z:Nat}{o:Option Addr}{ow:Nat→Nat}(hn:∀ k,W.heap.size≤k→ow k=0){k:Nat}(h:ow k≠0):yO W w' z o ow k=ow k:=AM (S4 fun hc=>h (hn k (by omega)))
theorem GN{W w':World}{z:Nat}{o:Option Addr}{ow:Nat→Nat}(hf:Fr W.heap.size o){k:Nat}(h:blk o k):yO W w' z o ow k=0:=by
 obtain⟨x,hx,rfl⟩:=id h;have:=hf x hx;unfold yO;rw[SP (by omega),SP (fun h2=>h2.2 h)]
theorem Jj{W w':World}{z:Nat}{o:Option Addr}{ow:Nat→Nat}(hn:∀ k,W.heap.size≤k→ow k=0)(hz:z≠0){k:Nat}(h:Nx (fun k=>ow k=z) W w' k∧¬ blk o k):yO W w' z o ow k=z:=by
 obtain⟨h,hb⟩:=h;rcases h with h|⟨h1,h2⟩
 ·rw[Dw hn (by omega)];exact h
 ·unfold yO;rw[SP (by omega),SQ ⟨h2,hb⟩]
theorem BW(a:PiA)(ow:Nat→Nat)(g tp:Nat)(qs:List (NdH×Nd))(ids:List Int)(S0:BSt)(dg:Nat)(G:GdT qs)(W:World)(hM:PiX 0 a ow W.heap g tp qs ids (Tf (qs.length+1) bA) S0)(hn:∀ k,W.heap.size≤k→ow k=0)(hD:DwO (fun k=>ow k=9) W.heap dg tp 64 ⟨[],[]⟩) :
 CA 22 [pT g,pT dg] W fun v w'=>∃ o c ow',v=.slice o (dA (aL qs).tails (aL qs).ds).2.length c∧Own i64 3 w'.heap o c (dA (aL qs).tails (aL qs).ds).2∧(∀ k,blk o k→W.heap.size≤k∧ow' k=0)∧PiX 0 a ow' w'.heap g tp qs ids (aL qs).files S0∧DwO (fun k=>ow' k=9) w'.heap dg tp 64 (dA (aL qs).tails (aL qs).ds).1 ∧
  FI (nds qs) (qs.length+1) (aL qs)∧(∀ k,k<W.heap.size→ow' k=ow k)∧(∀ k,w'.heap.size≤k→ow' k=0)∧aA (Lb ow) W w':=by
 have hq40:=G.n.2;have htn:∀ {ow9:Nat→Nat} {H:Array Obj} {files:List Ino} {c:Nat},PiX 0 a ow9 H g tp qs ids files S0→c≠4→¬ ow9 tp=c:=fun h hc e=>by have h4:=h.2.2.2.1.2;rw[h4] at e;exact hc e.symm
 refine cS 86 [(0,_),(1,_)] Tryz.func22 ?_;refine cA 7 OC (KR W) ?_;rintro _ w1 ⟨rfl,hP1,hf1,hs1⟩;obtain⟨pg,epg⟩:∃ p,p=W.heap.size:=⟨_,rfl⟩
 rw[←epg] at hP1 ⊢;obtain⟨ow1,eo1⟩:∃ o,o=mX W w1 10 ow:=⟨_,rfl⟩
 have o1n:∀ k,ow k≠0→ow1 k=ow k:=fun k hk=>by rw[eo1];exact fP 10 hn hk
 have o1o:∀ k,k<W.heap.size→ow1 k=ow k:=fun k hk=>by rw[eo1];exact iG 10 ow hk
 have o1z:∀ k,w1.heap.size≤k→ow1 k=0:=fun k hk=>by rw[eo1];exact jN 10 ow hf1.size hk
 have hM1:PiX 0 a ow1 w1.heap g tp qs ids (Tf (qs.length+1) bA) S0:=hM.step hf1 0 (by decide) (fun k h=>h.elim) o1n;have hD1:DwO (fun k=>ow1 k=9) w1.heap dg tp 64 ⟨[],[]⟩:=(hD.SN hf1).mono (fun k hk=>by have hk:ow k=9:=hk;rw[o1n k (by omega)];exact hk) (htn hM1 (by decide));have hP1:gI (fun k=>ow1 k=10) w1.heap pg []:=hP1.mono (fun k hk=>by have hk:k=pg:=hk;rw[eo1];exact lR 10 hn (by decide) (.inr ⟨by omega,by omega⟩));refine Gz 9 ?_;refine cL (O8 vU rfl (aD hM1.1.1 rfl)) ?_;refine Gz 5 ?_;refine Pb (β:=Nat×(FSt×(Nat→Nat))) (fun⟨k,⟨s,ow9⟩⟩=>[(0,pT g),(1,pT dg),(5,pT pg),(20,.slice a.lo qs.length a.lc),(21,iV qs.length),(22,iV k)]) (fun⟨k,⟨s,ow9⟩⟩ w=>k≤qs.length∧s=(nds (qs.take k)).foldl cN (fs0 (qs.length+1))∧FI (nds (qs.take k)) (qs.length+1) s∧PiX 0 a ow9 w.heap g tp qs ids s.files S0∧DwO (fun k=>ow9 k=9) w.heap dg tp 64 s.ds∧gI (fun k=>ow9 k=10) w.heap pg s.tails∧(∀ k,k<W.heap.size→ow9 k=ow k)∧(∀ k,w.heap.size≤k→ow9 k=0)∧aA (Lb ow) W w) (fun⟨k,⟨s,ow9⟩⟩=>qs.length-k) ⟨0,⟨fs0 (qs.length+1),ow1⟩⟩ ⟨rfl,rfl,rfl,rfl,rfl,rfl,trivial⟩ ⟨S3 _,rfl,fi0 _,hM1,hD1,hP1,o1o,o1z,hf1.any⟩ ?_;rintro⟨k,⟨s,ow9⟩⟩ w9 ⟨hk,hs,hFI,hM,hD9,hP9,hl9,hn9,hF9⟩;refine fK 2 ?_ ?_<;>intro h23
 ·have hkl:k<qs.length:=by omega
  obtain⟨q,hq⟩:∃ q,qs[k]?=some q:=⟨_,SS hkl⟩
  have hqm:=S1 hq;have hqi:=G.ino q hqm;obtain⟨m,hm⟩:=Int.eq_ofNat_of_zero_le (show 0≤q.2.ino by omega);have htm:q.2.ino.toNat=m:=by omega
  have hib : -9223372036854775808≤q.2.ino∧q.2.ino≤9223372036854775807:=by omega
  have hml:m<s.files.length:=by rw[hFI.l];omega
  have hdat:q.2.data.length≤4096:=(G.may q hqm).2.2.2.2.2.2.1;have hnd:=hM.2.1.1;obtain⟨⟨hg9,hg96⟩,_,_,_,_,_,_,_,⟨f97,f91⟩,_⟩:=id hM;obtain⟨mf,hmf,hFM⟩:=f91 (by decide);have hfv:=hFM ⟨q.2.ino,hib⟩ hqi.1;rw[show (⟨q.2.ino,hib⟩:I6).1.toNat=m from htm] at hfv;obtain⟨R0,hR0⟩:∃ R0:Ino,R0=if (s.files.getD m bA).1 0=2 then fl0 (s.files.getD m bA) else bA:=⟨_,rfl⟩
  have hfe:(bP mf ⟨q.2.ino,hib⟩).getD (yP bA)=yP R0:=by rw[hfv,hR0];split<;>rfl
  have hfs:decide ((bP mf ⟨q.2.ino,hib⟩).isSome=true)=decide ((s.files.getD m bA).1 0=2):=by
   rw[hfv];by_cases h:(s.files.getD m bA).1 0=2
   ·rw[SQ h,SX h];rfl
   ·rw[SP h,SU h];rfl
  have hs2:=Hm hq (fs0 (qs.length+1));rw[←hs] at hs2;have hFI2:=A4 hFI (x:=q.2) ⟨by omega,by omega⟩ hdat;rw[←B8 hq] at hFI2;refine Gz 6 ?_;refine PI (β:=FSt×(Nat→Nat)) (fun⟨s,ow9⟩=>[(0,pT g),(1,pT dg),(5,pT pg),(20,.slice a.lo qs.length a.lc),(21,iV qs.length),(22,iV k)]) (fun⟨s,ow9⟩ w=>s=(nds (qs.take (k+1))).foldl cN (fs0 (qs.length+1))∧FI (nds (qs.take (k+1))) (qs.length+1) s∧PiX 0 a ow9 w.heap g tp qs ids s.files S0∧DwO (fun k=>ow9 k=9) w.heap dg tp 64 s.ds∧gI (fun k=>ow9 k=10) w.heap pg s.tails∧(∀ k,k<W.heap.size→ow9 k=ow k)∧(∀ k,w.heap.size≤k→ow9 k=0)∧aA (Lb ow) W w) ?_ ?_
  ·refine Gz 3 ?_;refine cL (Pa cC rfl rfl hnd.1.non (by omega)) ?_;refine cL (Pi (cs:=aE q) aV rfl (fun j v hj=>hnd.1.rowZ k rfl hq j v hj)) ?_;refine O9 fF rfl ?_;intro w10 hg10 hs10 hf10;obtain⟨d,ed⟩:∃ d,d=w9.heap.size:=⟨_,rfl⟩
   rw[←ed] at hg10 ⊢;refine Pf (vs:=aE q) aV rfl rfl (aB q).2 hg10 rfl ?_;intro w11 hd11 hs11 hf11;have hs10b:w10.heap.size=w9.heap.size+1:=hs10;have hs11b:w11.heap.size=w10.heap.size:=hs11;have hf911:aA nob w9 w11:=hf10.tw hf11;have hg11:=hf911.obj hg9 id;have hmf11:=hmf.SO hf911 id;refine Gz 1 ?_;refine aW [(0,_),(1,_),(5,_),(7,_),(20,_),(21,_),(22,_),(23,_)] ?_;refine Gz 3 ?_;refine Pk 13 (fun H=>H[g]?=some (.cells (piC a qs.length ids.length).toArray 62 (0,0))∧H[d]?=some (.cells (aE q).toArray 37 (0,0))∧cG enI H a.f mf) [10,11] [0,1,2,3,4,5,6,7,8,9,10,11,12] aJ (by kernel_rfl) (⟨hg11,hd11,hmf11⟩) ?_;refine Gz 6 ?_;refine xC rfl (O7 (u:=.tuple [yP R0,.bool (decide ((s.files.getD m bA).1 0=2))].toArray) (PL mpF qU (a:=⟨q.2.ino,hib⟩) rfl rfl (fun H hH=>hH.2.2)) (by rw[hfe,hfs])) ?_;refine Gz 3 ?_;refine Ph rfl rfl (O9 Fi rfl ?_);intro w12 hg12 hs12 hf12;have hf12:=hf12.SL;refine Pn (by exact⟨hf12.obj hg11 id,hf12.obj hd11 id,hmf11.SO hf12 id⟩) ?_;refine Ph rfl rfl (Pf (vs:=EM R0) qP rfl rfl (tQ _ _) hg12 rfl ?_);intro w13 hc13 hs13 hf13;have hs12b:w12.heap.size=w11.heap.size+1:=hs12;have hs13b:w13.heap.size=w12.heap.size:=hs13;have hf1113:aA nob w11 w13:=hf12.tw hf13;refine Pn (by exact⟨hf1113.obj hg11 id,hf1113.obj hd11 id,hmf11.SO hf1113 id⟩) ?_;have hf913:=hf911.trans hf1113;have hd13:=hf1113.obj hd11 id;have hn13:∀ k,w13.heap.size≤k→ow9 k=0:=fun k hk=>hn9 k (by omega);refine Gz 5 ?_;refine PD (Pv (Pc rfl)) rfl (fun h36=>?_) (fun h36=>?_)
   ·have h36:=of_decide_eq_true h36;have hsk:cN s q.2=s:=tX (.inr (by rw[htm];exact h36));rw[hsk] at hs2 hFI2;refine Gz 11 ?_;exact aC ⟨s,ow9⟩ ⟨hs2.symm,hFI2,hM.SN hf913,hD9.SN hf913,hP9.SO hf913 (fun _ _=>id),hl9,hn13,hF9.trans hf913.any⟩
   have h36:¬ (s.files.getD m bA).1 0=2:=fun h=>h36 (SX h);refine fW 3 ?_ ?_<;>intro h40
   ·have hsk:cN s q.2=s:=tX (.inl h40);rw[hsk] at hs2 hFI2;refine Gz 7 ?_;exact aC ⟨s,ow9⟩ ⟨hs2.symm,hFI2,hM.SN hf913,hD9.SN hf913,hP9.SO hf913 (fun _ _=>id),hl9,hn13,hF9.trans hf913.any⟩
   have hk2:q.2.kind=2:=TJ.1 h40;have hnf:¬ (q.2.kind≠2∨(s.files.getD q.2.ino.toNat bA).1 0=2):=by rw[htm];rintro(h|h);exact h hk2;exact h36 h
   obtain⟨R1,hR1⟩:∃ R,R=fA 64 s.ds q.2.data:=⟨_,rfl⟩
   obtain⟨R2,hR2⟩:∃ R,R=gH s.tails (cV q.2.data):=⟨_,rfl⟩
   obtain⟨fN,hfN⟩:∃ f:Ino,f=(fun j=>[2,0,0,0,0,0,(R1.2:Int),q.2.data.length,(R2.2.1:Int),(R2.2.2:Int)].getD j 0,[]):=⟨_,rfl⟩
   have hsn:cN s q.2=⟨R1.1,R2.1,s.files.set m fN⟩:=by unfold cN;rw[SP hnf,←hR1,←hR2,hfN,htm]
   rw[hsn] at hs2 hFI2;have hdv:=(hnd.2 q hqm).2.1;have hdn:q.1.data.n=q.2.data.length:=hdv.1;refine Gz 9 ?_;refine cL (O7 (u:=.slice q.1.data.a q.2.data.length q.1.data.c) (O8 aO rfl (aD hd13 rfl)) (by rw[←hdn];rfl)) ?_;refine Gz 1 ?_;refine cL (bU (bK (fun j=>if j=7 then (q.2.data.length:Int) else 0) []) LO Fi) ?_;refine O9 Fi rfl ?_;intro w14 hg14 hs14 hf14;obtain⟨e,ee⟩:∃ d,d=w13.heap.size:=⟨_,rfl⟩
   rw[←ee] at hg14 ⊢;refine sA rfl qP (tQ _ _) hg14 ?_;intro w15 he15 hs15 hf15;have hs14b:w14.heap.size=w13.heap.size+1:=hs14;have hs15b:w15.heap.size=w14.heap.size:=hs15;have hf915:aA nob w9 w15:=(hf913.trans hf14).tw hf15;have hf1315:aA nob w13 w15:=hf14.tw hf15;have hd15:=hf1315.obj hd13 id;have hM15:=hM.SN hf915;have hD15:=hD9.SN hf915;have hP15:=hP9.SO hf915 (fun _ _=>id);have hn15:∀ k,w15.heap.size≤k→ow9 k=0:=fun k hk=>hn9 k (by omega);have hel:ow9 e=0:=hn9 e (by omega);have hdl:ow9 d=0:=hn9 d (by omega);refine Gz 6 ?_;refine cL (O7 (u:=.slice q.1.data.a q.2.data.length q.1.data.c) (O8 aO rfl (aD hd15 rfl)) (by rw[←hdn];rfl)) ?_;refine O6 OB rfl (HG (fun k=>ow9 k=9) dg tp 64 s.ds q.1.data.a q.1.data.c q.2.data w15 hD15 (hdv.2.1.SN hf915) (by decide) (by have:=hFI.b;rw[Tb,S2] at this;omega) (by omega)) rfl ?_;rw[←hR1];rintro _ w16 ⟨o16,c16,rfl,ho16,hfr16,hD16,hf16⟩;have hz16:=hf16.size;obtain⟨ow16,eo16⟩:∃ o,o=yO w15 w16 9 o16 ow9:=⟨_,rfl⟩
   have o16n:∀ k,ow9 k≠0→ow16 k=ow9 k:=fun k hk=>by rw[eo16];exact Dw hn15 hk
   have o16o:∀ k,k<w15.heap.size→ow16 k=ow9 k:=fun k hk=>by rw[eo16];exact AM hk
   have o16z:∀ k,w16.heap.size≤k→ow16 k=0:=fun k hk=>by rw[eo16];exact GM hz16 hk
   have o16b:∀ k,blk o16 k→ow16 k=0:=fun k hk=>by rw[eo16];exact GN hfr16 hk
   have hM16:PiX 0 a ow16 w16.heap g tp qs ids s.files S0:=(hM15.step hf16 9 (by decide) (fun k hk=>.inl hk) o16n).calm (by decide);have hD16:DwO (fun k=>ow16 k=9) w16.heap dg tp 64 R1.1:=hD16.mono (fun k hk=>by rw[eo16];exact Jj hn15 (by decide) hk) (htn hM16 (by decide));have hP16:gI (fun k=>ow16 k=10) w16.heap pg s.tails:=(hP15.SO hf16 (fun k hk h=>by have hk:ow9 k=10:=hk;have h:ow9 k=9:=h;omega)).mono (fun k hk=>by have hk:ow9 k=10:=hk;rw[o16n k (by omega)];exact hk);have he16:=hf16.obj he15 (fun h=>by have h:ow9 e=9:=h;omega);have hd16:=hf16.obj hd15 (fun h=>by have h:ow9 d=9:=h;omega);have hel16:ow16 e=0:=by rw[o16o e (by omega)];exact hel
   have hF16:aA (Lb ow) W w16:=kF hl9 (hF9.trans hf915.any) (hf16.mono (fun k h=>by have h:ow9 k=9:=h;unfold Lb;omega));refine Gz 11 ?_;refine Pg aK rfl rfl rfl he16 rfl ?_;intro w17 he17 hs17 hf17;have hs17b:w17.heap.size=w16.heap.size:=hs17;have ke:∀ k,k=e→ow16 k=0:=fun k h=>by rw[h];exact hel16
   have hM17:=hM16.step hf17 0 (by decide) (fun k hk=>.inr (ke k hk)) (fun _ _=>rfl);have hD17:=hD16.SO hf17 (fun k hk h=>by have:=ke k h;omega) (fun h=>by have:=ke tp h;rw[hM16.2.2.2.1.2] at this;omega);have hP17:=hP16.SO hf17 (fun k hk h=>by have:=ke k h;have hk:ow16 k=10:=hk;omega);have hd17:=hf17.obj hd16 (show ¬ d=e by omega);have hfr16l:=ho16.lt;have ho17:=ho16.SO hf17 (fun x hx h=>by have h:x.block=e:=h;have:=hfr16 x hx;omega);have hF17:=hF16.SJ hf17 (fun k h=>.inr (by have h:k=e:=h;have:=hF9.size;omega));refine Gz 6 ?_;refine O6 OA rfl (Lv (fun k=>ow16 k=10) pg s.tails o16 c16 (cV q.2.data) w17 hP17 (fun k hk=>S4 fun hc=>by have:=o16z k (by omega);have hk:ow16 k=10:=hk;omega) ho17.vw (fun _ x hx h=>by have h:ow16 x.block=10:=h;rw[o16b _ ⟨x,hx,rfl⟩] at h;omega) (AZ hFI.t (by have:=hFI.tn;rw[Tb,S2] at this;omega)) (by have:=hFI.tn;rw[Tb,S2] at this;omega)) rfl ?_;rw[←J1,←hR2];rintro _ w18 ⟨rfl,D18,hP18,hD18a,hD18b,hf18⟩;have hz18:=hf18.size;have hn17:∀ k,w17.heap.size≤k→ow16 k=0:=fun k hk=>o16z k (by omega);obtain⟨ow18,eo18⟩:∃ o,o=mX w17 w18 10 ow16:=⟨_,rfl⟩
   have o18n:∀ k,ow16 k≠0→ow18 k=ow16 k:=fun k hk=>by rw[eo18];exact fP 10 hn17 hk
   have o18o:∀ k,k<w17.heap.size→ow18 k=ow16 k:=fun k hk=>by rw[eo18];exact iG 10 ow16 hk
   have o18z:∀ k,w18.heap.size≤k→ow18 k=0:=fun k hk=>by rw[eo18];exact jN 10 ow16 hz18 hk
   have hM18:PiX 0 a ow18 w18.heap g tp qs ids s.files S0:=(hM17.step hf18 10 (by decide) (fun k hk=>.inl hk) o18n).calm (by decide);have hD18:DwO (fun k=>ow18 k=9) w18.heap dg tp 64 R1.1:=(hD17.SO hf18 (fun k hk h=>by have hk:ow16 k=9:=hk;have h:ow16 k=10:=h;omega) (htn hM17 (by decide))).mono (fun k hk=>by have hk:ow16 k=9:=hk;rw[o18n k (by omega)];exact hk) (htn hM18 (by decide));have hP18:gI (fun k=>ow18 k=10) w18.heap pg R2.1:=hP18.mono (fun k hk=>by rw[eo18];exact lR 10 hn17 (by decide) ((hD18a k hk).imp id (fun h=>⟨h,hD18b k hk⟩)));have he18:=hf18.obj he17 (fun h=>by have h:ow16 e=10:=h;omega);have hd18:=hf18.obj hd17 (fun h=>by have h:ow16 d=10:=h;rw[o16o d (by omega)] at h;omega);have hel18:ow18 e=0:=by rw[o18o e (by omega)];exact hel16
   have l16:∀ k,k<W.heap.size→ow16 k=ow k:=fun k hk=>by rw[o16o k (by have:=hF9.size;omega)];exact hl9 k hk
   have l18:∀ k,k<W.heap.size→ow18 k=ow k:=fun k hk=>by rw[o18o k (by have:=hF9.size;omega)];exact l16 k hk
   have hF18:aA (Lb ow) W w18:=kF l16 hF17 (hf18.mono (fun k h=>by have h:ow16 k=10:=h;unfold Lb;omega));have ke18:∀ k,k=e→ow18 k=0:=fun k h=>by rw[h];exact hel18
   refine Gz 4 ?_;refine Pg aK rfl rfl rfl he18 rfl ?_;intro w19 he19 hs19 hf19;have hs19b:w19.heap.size=w18.heap.size:=hs19;refine Gz 1 ?_;refine Pg aK rfl rfl rfl he19 rfl ?_;intro w20 he20 hs20 hf20;have hs20b:w20.heap.size=w19.heap.size:=hs20;have hf1820:aA (· = e) w18 w20:=hf19.trans hf20;have hM20:=hM18.step hf1820 0 (by decide) (fun k hk=>.inr (ke18 k hk)) (fun _ _=>rfl);have hD20:=hD18.SO hf1820 (fun k hk h=>by have:=ke18 k h;omega) (fun h=>by have:=ke18 tp h;rw[hM18.2.2.2.1.2] at this;omega);have hP20:=hP18.SO hf1820 (fun k hk h=>by have:=ke18 k h;have hk:ow18 k=10:=hk;omega);have hd20:=hf1820.obj hd18 (show ¬ d=e by omega);have hF20:=hF18.SJ hf1820 (fun k h=>.inr (by have h:k=e:=h;have:=hF9.size;omega));have he20:w20.heap[e]?=some (.cells (EM (fl0 fN)).toArray 88 (0,0)):=by rw[hfN];exact he20
   obtain⟨⟨hg20,_⟩,_,_,_,_,_,_,_,⟨f207,f201⟩,_⟩:=id hM20;obtain⟨mf20,hmf20,hFM20⟩:=f201 (by decide);refine Gz 2 ?_;refine Pk 7 (fun H=>H[g]?=some (.cells (piC a qs.length ids.length).toArray 62 (0,0))∧H[d]?=some (.cells (aE q).toArray 37 (0,0))∧H[e]?=some (.cells (EM (fl0 fN)).toArray 88 (0,0))) [7] [0,1,2,3,4,5,6,7] aJ (by kernel_rfl) (⟨hg20,hd20,he20⟩) ?_;refine Gz 6 ?_;refine xC rfl (QJ (cs:=EM (fl0 fN)) qP rfl (fun H hH=>bJ hH.2.2 0 rfl)) ?_;refine Ph rfl rfl (Py mpF qU (a:=(⟨q.2.ino,hib⟩:I6)) rfl rfl rfl hmf20 ?_);intro w21 hm21 hs21 hf21;refine PN rfl ?_;have hf21:aA (· = a.f) w20 w21:=hf21.SL;have hz21:=hf21.size;have hfp:=hFM20.put ⟨q.2.ino,hib⟩ (f:=fN) (by show (1:Int)≤q.2.ino;omega) (by show q.2.ino.toNat<s.files.length;omega) (by rw[hfN];rfl);rw[show (⟨q.2.ino,hib⟩:I6).1.toNat=m from htm] at hfp;have kf:∀ k,k=a.f→ow18 k=7:=fun k h=>by rw[h];exact f207
   obtain⟨b0,b1,b2,b3,c1,c2,c3,⟨c4,c5⟩,⟨c6,_⟩,c8,c9⟩:=hM20.step hf21 7 (by decide) (fun k hk=>.inl (kf k hk)) (fun _ _=>rfl);have hM21:PiX 0 a ow18 w21.heap g tp qs ids (s.files.set m fN) S0:=⟨b0,b1,b2,b3,fun _=>c1 (by decide),fun _=>c2 (by decide),fun _=>c3 (by decide),⟨c4,fun _=>c5 (by decide)⟩,⟨c6,fun _=>⟨_,hm21,hfp⟩⟩,c8,fun _=>c9 (by decide)⟩
   have hD21:=hD20.SO hf21 (fun k hk h=>by have:=kf k h;omega) (fun h=>by have:=kf tp h;rw[hM20.2.2.2.1.2] at this;omega);have hP21:=hP20.SO hf21 (fun k hk h=>by have:=kf k h;have hk:ow18 k=10:=hk;omega);have hF21:aA (Lb ow) W w21:=kF l18 hF20 (hf21.mono (fun k h=>by have:=kf k h;unfold Lb;omega));refine Gz 2 ?_;exact aC ⟨⟨R1.1,R2.1,s.files.set m fN⟩,ow18⟩ ⟨hs2.symm,hFI2,hM21,hD21,hP21,l18,fun k hk=>o18z k (by omega),hF21⟩
  rintro⟨s,ow9⟩ w9 ⟨hs,hFI,hM,hD9,hP9,hl9,hn9,hF9⟩;refine Gz 4 ?_;exact aG ⟨k+1,⟨s,ow9⟩⟩ ⟨by omega,hs,hFI,hM,hD9,hP9,hl9,hn9,hF9⟩ (by show qs.length-(k+1)<qs.length-k;omega)
 have hke:k=qs.length:=by omega
 subst hke;rw[TB] at hs hFI;have hs:s=aL qs:=hs;subst hs;refine Gz 18 ?_;refine O6 Oz rfl (Fa (fun k=>ow9 k=10) pg (aL qs).tails w9 hP9 (AZ hFI.t (by have:=hFI.tn;rw[Tb] at this;omega)) (by have:=hFI.tn;rw[Tb] at this;omega)) rfl ?_;rintro _ w20 ⟨go,gc,gs,rfl,hgo,hrw,hgfr,hf20⟩;have hz20:=hf20.size;have hrw:=IB hrw;obtain⟨L,hL⟩:∃ L,L=(aL qs).tails:=⟨_,rfl⟩
 rw[←hL] at hrw;have hgl:=hrw.1;have hLn:L.length≤40:=by have:=hFI.tn;rw[Tb] at this;rw[hL];omega
 have hLb:zE L:=by rw[hL];exact hFI.t
 have hdB:(aL qs).ds.B.length≤172800:=by have:=hFI.b;rw[Tb] at this;omega
 have hg63:=hgo.vw.SM;have hgol:=hgo.lt;refine Gz 3 ?_;refine aW [(0,_),(1,_),(5,_),(13,_),(20,_),(21,_),(22,_),(23,_),(72,_),(73,_),(74,_)] ?_;refine Gz 2 ?_;refine Pb (β:=(Nat×(DS×List Int))×((Nat→Nat)×(Option Addr×Nat))) (fun⟨⟨j,⟨d9,pl9⟩⟩,⟨ow11,⟨po,pc⟩⟩⟩=>[(1,pT dg),(13,.slice po pl9.length pc),(72,.slice go gs.length gc),(73,iV gs.length),(74,iV j)]) (fun⟨⟨j,⟨d9,pl9⟩⟩,⟨ow11,⟨po,pc⟩⟩⟩ w=>j≤L.length∧dA (L.take j) (aL qs).ds=(d9,pl9)∧PiX 0 a ow11 w.heap g tp qs ids (aL qs).files S0∧DwO (fun k=>ow11 k=9) w.heap dg tp 64 d9∧(∀ k,k<W.heap.size→ow11 k=ow k)∧(∀ k,w.heap.size≤k→ow11 k=0)∧Own i64 3 w.heap po pc pl9∧(∀ k,blk po k→W.heap.size≤k∧ow11 k=0)∧(∀ k,blk po k→¬ (w9.heap.size≤k∧k<w20.heap.size))∧Own hd 25 w.heap go gc gs∧cK (fun k=>w9.heap.size≤k∧k<w20.heap.size) w.heap gs L∧(∀ k,w9.heap.size≤k→k<w20.heap.size→ow11 k=0)∧w20.heap.size≤w.heap.size∧aA (Lb ow) W w) (fun⟨⟨j,⟨d9,pl9⟩⟩,⟨ow11,⟨po,pc⟩⟩⟩=>L.length-j) ⟨⟨0,⟨(aL qs).ds,[]⟩⟩,⟨ow9,⟨none,0⟩⟩⟩ ⟨rfl,rfl,rfl,rfl,rfl,trivial⟩ ⟨S3 _,rfl,hM.SN hf20,hD9.SN hf20,hl9,fun k hk=>hn9 k (by omega),R8,(fun k ⟨x,hx,e⟩=>by cases hx),(fun k ⟨x,hx,e⟩=>by cases hx),hgo,hrw,fun k h _=>hn9 k h,SY _,hF9.trans hf20.any⟩ ?_;rintro⟨⟨j,⟨d9,pl9⟩⟩,⟨ow11,⟨po,pc⟩⟩⟩ w11 ⟨hj,htl,hM11,hD11,hl11,hn11,hpo,hpd,hpx,hgo9,hrw9,hz11,hzz,hF11⟩;refine fK 2 ?_ ?_<;>intro h75
 ·have hjl:j<L.length:=by omega
  have hjg:j<gs.length:=by omega
  obtain⟨t,ht⟩:∃ t,L[j]?=some t:=⟨_,SS hjl⟩
  obtain⟨x,hx⟩:∃ x,gs[j]?=some x:=⟨_,SS hjg⟩
  obtain⟨hxn,hxv,_⟩:=hrw9.2 j x t hx ht;have htb:=hLb t (S1 ht);have htk:L.take (j+1)=L.take j++[t]:=tkL ht;have hsn:=vH (L.take j) t (aL qs).ds;rw[←htk,htl] at hsn;have hdb9:d9.B.length≤200000:=by have h:=CX (L:=L.take j) (fun b hb=>hLb b (TR hb)) (aL qs).ds;rw[htl,S2] at h;have h:d9.B.length≤_:=h;omega
  have hplj:pl9.length=j:=by have h:=kV (L.take j) (aL qs).ds;rw[htl,S2] at h;have h:pl9.length=_:=h;omega
  refine Gz 10 ?_;refine cL (O5 sJ rfl rfl hgo9.vw.non (by omega)) ?_;refine cL (O7 (u:=.slice x.a t.length x.c) (O8 aO rfl (hgo9.vw.get j x hx)) (by rw[←hxn];rfl)) ?_;refine Gz 2 ?_;refine aW [(1,_),(13,_),(15,_),(72,_),(73,_),(74,_),(75,_)] ?_;refine Gz 5 ?_;refine O6 Oy rfl (Cw (fun k=>ow11 k=9) dg tp 64 d9 x.a x.c t w11 hD11 hxv (by decide) (by omega) htb.2) rfl ?_;obtain⟨R,hR⟩:∃ R,R=kO 64 d9 t:=⟨_,rfl⟩
  rw[←hR] at hsn ⊢;rintro _ w12 ⟨rfl,hD12,hf12⟩;have hz12:=hf12.size;obtain⟨ow12,eo12⟩:∃ o,o=mX w11 w12 9 ow11:=⟨_,rfl⟩
  have o12n:∀ k,ow11 k≠0→ow12 k=ow11 k:=fun k hk=>by rw[eo12];exact fP 9 hn11 hk
  have o12o:∀ k,k<w11.heap.size→ow12 k=ow11 k:=fun k hk=>by rw[eo12];exact iG 9 ow11 hk
  have o12z:∀ k,w12.heap.size≤k→ow12 k=0:=fun k hk=>by rw[eo12];exact jN 9 ow11 hz12 hk
  have hM12:PiX 0 a ow12 w12.heap g tp qs ids (aL qs).files S0:=(hM11.step hf12 9 (by decide) (fun k hk=>.inl hk) o12n).calm (by decide);have hD12:DwO (fun k=>ow12 k=9) w12.heap dg tp 64 R.1:=hD12.mono (fun k hk=>by rw[eo12];exact lR 9 hn11 (by decide) hk) (htn hM12 (by decide));have k12:∀ k,ow11 k=0→¬ (fun k=>ow11 k=9) k:=fun k h h2=>by have h2:ow11 k=9:=h2;omega
  have hpo12:=hpo.SO hf12 (fun y hy=>k12 _ (hpd _ ⟨y,hy,rfl⟩).2);have hgo12:=hgo9.SO hf12 (fun y hy=>k12 _ (hz11 _ (hgfr y hy) (hgol y hy)));have hrw12:=hrw9.SO hf12 (fun k hk=>k12 k (hz11 k hk.1 hk.2));have hpol:=hpo.lt;refine PX (enc:=i64) (u:=(R.2:Int)) bR rfl rfl rfl ?_;intro w13 ho13 hs13 hf13;refine Pm GZ bR rfl rfl (hpo12.SN hf13) ho13.vw (by simp only[S5];omega) (by simp only[S5];unfold maxLen;omega) rfl ?_;intro po14 pc14 w14 ho14 hf14 hr14 hn14;have hz13:=hf13.size;have hz14:=hf14.size;have kp:∀ k,blk po k→ow12 k=0∧k<w11.heap.size∧W.heap.size≤k∧¬ (w9.heap.size≤k∧k<w20.heap.size):=fun k ⟨y,hy,e⟩=>by
   have h1:=hpol y hy;have h2:=hpd k ⟨y,hy,e⟩;have h3:=hpx k ⟨y,hy,e⟩;exact⟨by rw[o12o k (by omega)];exact h2.2,by omega,h2.1,h3⟩
  have hM14:=(hM12.SN hf13).step hf14 0 (by decide) (fun k hk=>.inr (kp k hk).1) (fun _ _=>rfl);have hD14:=(hD12.SN hf13).SO hf14 (fun k hk h=>by have:=(kp k h).1;omega) (fun h=>by have:=(kp tp h).1;rw[hM12.2.2.2.1.2] at this;omega);have hgo14:=(hgo12.SN hf13).SO hf14 (fun y hy h=>(kp _ h).2.2.2 ⟨hgfr y hy,hgol y hy⟩);have hrw14:=(hrw12.SO hf13 (fun _ _=>id)).SO hf14 (fun k hk h=>(kp k h).2.2.2 hk);have l12:∀ k,k<W.heap.size→ow12 k=ow k:=fun k hk=>by rw[o12o k (by have:=hF11.size;omega)];exact hl11 k hk
  have hF14:aA (Lb ow) W w14:=((kF hl11 hF11 (hf12.mono (fun k h=>by have h:ow11 k=9:=h;unfold Lb;omega))).trans hf13.any).SJ hf14 (fun k h=>.inr (kp k h).2.2.1);have hF11z:=hF11.size;have hpd14:∀ k,blk po14 k→(W.heap.size≤k∧ow12 k=0)∧¬ (w9.heap.size≤k∧k<w20.heap.size):=fun k ⟨y,hy,e⟩=>by
   rcases hr14 y hy with h|h
   ·have:=kp k ⟨y,h,e⟩;exact⟨⟨this.2.2.1,this.1⟩,this.2.2.2⟩
   ·exact⟨⟨by omega,o12z k (by omega)⟩,by omega⟩
  refine Gz 8 ?_;exact aG ⟨⟨j+1,⟨R.1,pl9++[(R.2:Int)]⟩⟩,⟨ow12,⟨po14,pc14⟩⟩⟩ ⟨by omega,hsn,hM14,hD14,l12,fun k hk=>o12z k (by omega),ho14,fun k hk=>(hpd14 k hk).1,fun k hk=>(hpd14 k hk).2,hgo14,hrw14,fun k h1 h2=>by rw[o12o k (by omega)];exact hz11 k h1 h2,by omega,hF14⟩ (by show L.length-(j+1)<L.length-j;omega)
 have hje:j=L.length:=by omega
 subst hje;rw[TB,hL] at htl;refine Gz 14 ?_;refine aW [(1,_),(4,_),(13,_),(72,_),(73,_),(74,_),(75,_)] ?_;refine Gz 3 ?_;subst epg;refine⟨_,rfl,po,pc,ow11,?_,?_,hpd,hM11,?_,hFI,hl11,hn11,hF11⟩
 ·rw[htl]
 ·rw[htl];exact hpo
 ·rw[htl];exact hD11
end
section
open Go Go.RowKit Go.Maps
structure ImB (qs:List (NdH×Nd))(ids:List Int) where
 G:GdT qs
 I:oX qs ids
 sz:64+((dD (aF qs ids) ids).length:Int)≤1048576
section
variable {qs:List (NdH×Nd)}{ids:List Int}(M:ImB qs ids)
def stB(qs:List (NdH×Nd))(ids:List Int):BSt:=(aF qs ids).s
def plB(qs:List (NdH×Nd))(ids:List Int):List Int:=(aF qs ids).pl
def imB(qs:List (NdH×Nd))(ids:List Int):By:=suB (fB qs ids (aF qs ids))++dD (aF qs ids) ids
include M
theorem ImB.fi:FI (nds qs) (qs.length+1) (aL qs):=yW (fun q hq=>⟨M.G.ino q hq,(M.G.may q hq).2.2.2.2.2.2.1⟩)
theorem ImB.st:kR qs ids (aL qs).files (stB qs ids)∧(∀ q∈qs,0<(stB qs ids).refs.getD q.2.ino.toNat 0):=by
 obtain⟨S,e,h1,_,h2⟩:=mA M.G M.I M.fi;have e2:stB qs ids=S:=e;rw[e2];exact⟨h1,h2⟩
theorem ImB.pln:(plB qs ids).length=(aL qs).tails.length∧(plB qs ids).length≤40:=by
 have h:=kV (aL qs).tails (aL qs).ds;have h2:=M.fi.tn;have h3:=M.G.n.2;rw[Tb] at h2;have e:(plB qs ids).length=(aL qs).tails.length:=h;exact⟨e,by omega⟩
theorem ImB.ids0:1≤ids.length∧ids.length≤80:=by
 obtain⟨r,hr,_⟩:=M.G.root;have h:=(M.I.2 _).2 (rF (S1 hr)).1;have h2:=List.length_pos_of_mem h;have h3:=lT M.I;have h4:=M.G.n.2;omega
theorem ImB.many:1≤(stB qs ids).many∧(stB qs ids).many≤41:=by
 obtain⟨h,h2⟩:=M.st;refine⟨?_,h.many41 M.G.n.2⟩;obtain⟨r,hr,_⟩:=M.G.root;have h3:=h2 r (S1 hr);have h4:=M.G.ino r (S1 hr);rw[h.many];have hm:(stB qs ids).refs.getD r.2.ino.toNat 0∈qS (stB qs ids):=by
  unfold qS;rw[List.mem_filter];have hl:r.2.ino.toNat<(stB qs ids).refs.length:=by rw[h.rl];omega
  exact⟨by rw[S6,SS hl];exact List.getElem_mem _,by simpa using h3⟩
 exact List.length_pos_of_mem hm
theorem ImB.may:kD (fB qs ids (aF qs ids)):=by
 obtain⟨a1,a2⟩:=M.many;obtain⟨b1,b2⟩:=M.ids0;obtain⟨c1,c2⟩:=M.pln;obtain⟨h,h2⟩:=M.st;obtain⟨r,hr,_⟩:=M.G.root;have h3:=h2 r (S1 hr);have h4:=h.ref_le M.G.n.2 h3;have hs:=M.sz;have nd:=bO hr;have l2:(dX (aF qs ids)).length=(eI (aF qs ids)).length+(dnW (aF qs ids).s.ino).length:=SR;have l3:(eH (aF qs ids)).length=(dX (aF qs ids)).length+(dnW (aF qs ids).s.lst).length:=SR;have l4:(eU (aF qs ids)).length=(eH (aF qs ids)).length+(dnW (aH (aF qs ids).pl 4).1).length:=SR;have l5:(fC (aF qs ids) ids).length=(eU (aF qs ids)).length+(dnW (aH ids 2).1).length:=SR;have l6:(dD (aF qs ids) ids).length=(fC (aF qs ids) ids).length+(dnW (aF qs ids).s.fur).length:=SR;refine⟨⟨?_,?_,?_,?_,?_,?_,?_⟩,?_,?_,?_,?_,?_,?_,?_,?_⟩
 ·show (64:Int)≤64+((eI (aF qs ids)).length:Int);omega
 ·show 64+((eI (aF qs ids)).length:Int)≤64+((dX (aF qs ids)).length:Int);omega
 ·show 64+((dX (aF qs ids)).length:Int)≤64+((eH (aF qs ids)).length:Int);omega
 ·show 64+((eH (aF qs ids)).length:Int)≤64+((eU (aF qs ids)).length:Int);omega
 ·show 64+((eU (aF qs ids)).length:Int)≤64+((fC (aF qs ids) ids).length:Int);omega
 ·show 64+((fC (aF qs ids) ids).length:Int)≤64+((dD (aF qs ids) ids).length:Int);omega
 ·exact hs
 ·show 1≤((stB qs ids).many:Int);omega
 ·show ((stB qs ids).many:Int)≤1024;omega
 ·show 1≤(ids.length:Int);omega
 ·show (ids.length:Int)≤2048;omega
 ·show 0≤((plB qs ids).length:Int);omega
 ·show ((plB qs ids).length:Int)≤1024;omega
 · show 0≤(stB qs ids).refs.getD (ndB qs ((0:Nat):Int)).ino.toNat 0-1
   rw[nd];omega
 · show (stB qs ids).refs.getD (ndB qs ((0:Nat):Int)).ino.toNat 0-1≤4294967295
   rw[nd];exact h4
theorem ImB.img:pI qs ids=(imB qs ids,0):=by
 unfold pI;rw[SP (by have:=M.sz;omega)];have:(iB (fB qs ids (aF qs ids))).1=suB (fB qs ids (aF qs ids)):=by unfold iB;rw[SQ M.may]
 rw[this];rfl
theorem ImB.sup:dK (imB qs ids)=(fB qs ids (aF qs ids),0):=by
 refine zT M.may (fun o ho=>?_) _ rfl;show S6 [_,_,_,_,_,_,_,_,_,_] o (0:Int)=0;rw[S6,Ty (by simp only[Td,Tr];omega)];rfl
theorem ImB.pl_in:inW 4 (plB qs ids):=by
 intro x hx;obtain⟨j,hj,rfl⟩:=TG hx;have hl:=M.pln.1;obtain⟨pre,rest,h1,h2⟩:=xS (aL qs).tails (aL qs).ds j (by omega);have e:(plB qs ids)[j]=(dA (aL qs).tails (aL qs).ds).2.getD j 0:=by
  have e2:plB qs ids=(dA (aL qs).tails (aL qs).ds).2:=rfl;rw[S6,←e2,SS hj];rfl
 rw[e,h2];have h3:=M.sz;have h4:=congrArg Tp h1;rw[SR] at h4;have l6:(dD (aF qs ids) ids).length=(dA (aL qs).tails (aL qs).ds).1.B.length+(dnW (aF qs ids).s.ino++(dnW (aF qs ids).s.lst++(dnW (aH (aF qs ids).pl 4).1++(dnW (aH ids 2).1++dnW (aF qs ids).s.fur)))).length:=by
  rw[←SR];unfold dD fC eU eH dX;simp only[To];rfl
 refine⟨by omega,?_⟩;show (64:Int)+pre.length<4294967296;omega
theorem ImB.ids_in:inW 2 ids:=by
 intro x hx;have h:=(M.I.2 x).1 hx;unfold gN at h;obtain⟨q,hq,h1⟩:=T9.1 h;obtain⟨_,_,_,m2,m3,_⟩:=M.G.may q hq;simp only[Tm,TE,or_false] at h1;refine⟨by rcases h1 with rfl|rfl<;>omega,?_⟩;show x<65536;rcases h1 with rfl|rfl<;>omega
end
end
section
open Go Go.RowKit Go.Maps
def mF(qs:List (NdH×Nd)):Nat→Int→List Int
|0,_=>[]
|n+1,k=>k::(aX qs (ndB qs k).names qs.length).flatMap (mF qs n)
def vld(qs:List (NdH×Nd))(V:List Int):Prop:=∀ k∈V,∃ (i:Nat) (q:NdH×Nd),k=(i:Int)∧qs[i]?=some q
section
variable {qs:List (NdH×Nd)}
theorem kY:∀ (n k:Nat) (q:NdH×Nd),qs[k]?=some q→∀ z∈mF qs n k,∃ (i:Nat) (p:NdH×Nd) (r:List By),z=(i:Int)∧qs[i]?=some p∧p.2.names=q.2.names++r
|0,k,q,hq,z,hz=>by cases hz
|n+1,k,q,hq,z,hz=>by
   have hz:z∈(k:Int)::(aX qs (ndB qs k).names qs.length).flatMap (mF qs n):=hz;rcases Tm.1 hz with rfl|hz
   ·exact⟨k,q,[],rfl,hq,by simp⟩
   · obtain⟨y,hy,hz⟩:=T9.1 hz
     rw[bO hq] at hy;obtain⟨j,p,rfl,hj,hn⟩:=iH hy;obtain⟨i,x,r,h1,h2,h3⟩:=kY n j p hj z hz;obtain⟨a,ha⟩:∃ a,a=aT p.2.names:=⟨_,rfl⟩
     rw[←ha] at hn;exact⟨i,x,a::r,h1,h2,by rw[h3,hn];simp⟩
theorem Gc(n:Nat){k:Nat}{q:NdH×Nd}(hq:qs[k]?=some q):vld qs (mF qs n k):=fun z hz=>by
 obtain⟨i,p,_,h1,h2,_⟩:=kY n k q hq z hz;exact⟨i,p,h1,h2⟩
variable (G:GdT qs)
include G
theorem sW:∀ (n k:Nat) (q:NdH×Nd),qs[k]?=some q→(mF qs n k).Nodup
|0,_,_,_=>List.Pairwise.nil
|n+1,k,q,hq=>by
   show ((k:Int)::(aX qs (ndB qs k).names qs.length).flatMap (mF qs n)).Nodup;rw[bO hq];refine List.nodup_cons.2 ⟨fun hm=>?_,?_⟩
   · obtain⟨y,hy,hz⟩:=T9.1 hm
     obtain⟨j,p,rfl,hj,hn⟩:=iH hy;obtain⟨i,x,r,h1,h2,h3⟩:=kY n j p hj _ hz;have e:i=k:=by omega
     subst e;rw[hq] at h2;cases h2;have:=congrArg Tp h3;rw[hn] at this;simp at this
   · unfold List.Nodup
     rw[List.pairwise_flatMap];refine⟨fun y hy=>?_,?_⟩
     · obtain⟨j,p,rfl,hj,_⟩:=iH hy
       exact sW n j p hj
     · refine(jO qs.length).imp_of_mem (fun {a b} ha hb hab=>?_)
       obtain⟨i,p,rfl,hi,hn⟩:=iH ha;obtain⟨j,r,rfl,hj,hm⟩:=iH hb;intro x hx y hy e;subst e;obtain⟨i1,x1,r1,a1,a2,a3⟩:=kY n i p hi x hx;obtain⟨i2,x2,r2,b1,b2,b3⟩:=kY n j r hj x hy;have e:i1=i2:=by omega
       subst e;rw[a2] at b2;cases b2;have hlen:p.2.names.length=r.2.names.length:=by rw[hn,hm];simp
       have h2:=a3.symm.trans b3;have h3:=(List.append_inj h2 hlen).1;have:=G.inj hi hj h3;omega
theorem An:∀ (n k:Nat) (q:NdH×Nd),qs[k]?=some q→17≤q.2.names.length+n→∀ (i:Nat) (p:NdH×Nd) (r:List By),qs[i]?=some p→p.2.names=q.2.names++r→(i:Int)∈mF qs n k
|0,k,q,hq,hd,i,p,r,hp,hr=>by have:=G.dep q (S1 hq);omega
|n+1,k,q,hq,hd,i,p,r,hp,hr=>by
   show (i:Int)∈(k:Int)::(aX qs (ndB qs k).names qs.length).flatMap (mF qs n);rw[bO hq];by_cases h0:r=[]
   · subst h0
     have e:=G.inj hp hq (by rw[hr];simp);rw[e];exact List.mem_cons_self
   · refine List.mem_cons_of_mem _ (T9.2 ?_)
     have hl:p.2.names.length=q.2.names.length+r.length:=by rw[hr,SR]
     have hr0:=List.length_pos_iff.2 h0;obtain⟨j,y,hj,hy,_⟩:=G.above (S1 hp) (r.length-1) (q.2.names.length+1) (by omega);have hyl:y.2.names=q.2.names++r.take 1:=by
      rw[hy,hr,Vn,S9 (by omega)];congr 2;omega
     have hne:y.2.names≠[]:=fun e=>by
      have:=congrArg Tp (hyl.symm.trans e);simp only[SR,S2,Tr] at this;omega
     have hdl:y.2.names.dropLast=q.2.names:=by
      rw[hyl];cases r with
     |nil=>exact absurd rfl h0
     |cons a b=>simp
     refine⟨(j:Int),GP hj hne hdl,?_⟩;have hyn:y.2.names.length=q.2.names.length+1:=by rw[hyl,SR,S2];omega
     refine An n j y hj (by omega) i p (r.drop 1) hp ?_;rw[hyl,hr,To,List.take_append_drop]
omit G in
theorem Ak (n:Nat):((TM n).map (fun(i:Nat)=>(i:Int))).Nodup:=by
 unfold List.Nodup;rw[List.pairwise_map];exact(List.nodup_range (n:=n)).imp (fun h e=>h (by omega))
theorem Ef:(mF qs 17 0).Perm ((TM qs.length).map (fun(i:Nat)=>(i:Int))):=by
 obtain⟨r,hr,hrn,_⟩:=G.root;refine(List.perm_ext_iff_of_nodup (sW G 17 0 r hr) (Ak _)).2 (fun x=>⟨fun hx=>?_,fun hx=>?_⟩)
 · obtain⟨i,p,h1,h2⟩:=Gc 17 hr x hx
   exact Tj.2 ⟨i,Ua.2 (SV.1 h2).1,h1.symm⟩
 · obtain⟨i,hi,rfl⟩:=Tj.1 hx
   have hi:=Ua.1 hi;exact An G 17 0 r hr (by omega) i _ _ (SS hi) (by rw[hrn];simp;rfl)
end
section
variable {qs:List (NdH×Nd)}{ids:List Int}(M:ImB qs ids)
include M
end
end
section
open Go Go.RowKit Go.Maps
theorem jQ(qs:List (NdH×Nd))(i:Nat):(qs.getD i (uX,nd0)).2=(nds qs).getD i nd0:=by
 unfold nds;rw[S6,S6,Ts];cases qs[i]?<;>rfl
section
variable {qs rs:List (NdH×Nd)}(h:nds qs=nds rs)
include h
theorem nZ:qs.length=rs.length:=by have:=congrArg Tp h;simpa[nds] using this
theorem rI:ndB qs=ndB rs:=by
 funext k;unfold ndB;rw[jQ,jQ,h]
theorem IW:nmG qs=nmG rs:=by
 funext k;unfold nmG;rw[jQ,jQ,h]
theorem GQ:aX qs=aX rs:=by
 funext s n
 induction n with
|zero=>rfl
|succ n ih=>rw[aX,aX,ih,IW h]
theorem HK:jA qs=jA rs:=by
 funext z;have e:∀ l:List (NdH×Nd),jA l z=(((nds l).countP (fun n=>decide (n.ino=z)):Nat):Int):=fun l=>by
  unfold jA nds;rw[List.countP_map];rfl
 rw[e,e,h]
theorem GG:uY qs=uY rs:=by
 funext i;unfold uY;rw[jQ,jQ,h,nZ h,HK h]
theorem Hj(ids:List Int):dJ qs ids=dJ rs ids:=by
 funext k i s;unfold dJ inB;rw[rI h,GG h]
theorem Ib(wr:Int→BSt→BSt):wrK wr qs=wrK wr rs:=by
 funext l
 induction l with
|nil=>rfl
|cons j r ih=>
   funext s;rw[wrK,wrK,ih,rI h]
theorem Ic(ids:List Int)(files:List Ino):wrB qs ids files=wrB rs ids files:=by
 funext n
 induction n with
|zero=>rfl
|succ n ih=>
   funext k s;rw[wrB,wrB,ih,rI h,Hj h,Ib h,GQ h,nZ h]
theorem Hn:aL qs=aL rs:=by unfold aL;rw[h,nZ h]
theorem Bz(ids:List Int):aF qs ids=aF rs ids:=by
 unfold aF;rw[Hn h,Ic h,nZ h]
theorem oG(ids:List Int):pI qs ids=pI rs ids:=by
 have e:fB qs ids (aF qs ids)=fB rs ids (aF rs ids):=by
  funext j;unfold fB;rw[Bz h,rI h]
 unfold pI;rw[e,Bz h]
end
end
section
open Go Go.RowKit Go.Maps Go.Sort
section
variable {P:Program}{N:Nt}{Q:Exit→Act→World→Prop}{l:SF}{w:World}{ops:Array Oper}{rest:List Oper}{ty:TypeId}{pos:String}{aft:Array Edge}{x:Operand}{v:Value}{d:Nat}
theorem Q5{T:TypeId}(hx:evL l x=some v)(hd:Nat.blt d N.n=true)
 (h:∀ w',w'=w.alloc (.cells v.cells T)→Sl P N ops Q rest ((d,pT w.heap.size)::l) w') :
 Sl P N ops Q (⟨some d,.box T x,ty,pos,aft,none⟩::rest) l w:=by
 refine PC (w':=w.alloc (.cells v.cells T)) (fun a ha=>?_) hd (h _ rfl);simp[execOp,ha.ev hx,Instr.box,newVar,newRow]
end
theorem E7(p q:NdH×Nd)(W:World){D:Nat→Prop}(hp:NmV D W.heap p.1.names p.2.names)(hq:NmV D W.heap q.1.names q.2.names) :
 CA 58 [.agg (aE p).toArray,.agg (aE q).toArray] W fun v w'=>v=iV (bZ p.2.names q.2.names)∧∃ o1 o2,w'=(W.alloc o1).alloc o2:=by
 refine cS 10 [(0,_),(1,_)] Tryz.func58 ?_;refine Gz 2 ?_;refine Q5 rfl rfl ?_;intro w1 hw1;have hg1:w1.heap[W.heap.size]?=some (.cells (aE p).toArray 37 (0,0)):=by rw[hw1];exact heap_alloc_new W _
 have hf1:aA nob W w1:=by rw[hw1];exact aA.alloc _ _ _
 obtain⟨g,hg⟩:∃ g,g=W.heap.size:=⟨_,rfl⟩
 rw[←hg] at hg1 ⊢;refine Q5 rfl rfl ?_;intro w2 hw2;have hg2:w2.heap[w1.heap.size]?=some (.cells (aE q).toArray 37 (0,0)):=by rw[hw2];exact heap_alloc_new w1 _
 have hf2:aA nob w1 w2:=by rw[hw2];exact aA.alloc _ _ _
 obtain⟨r,hr⟩:∃ r,r=w1.heap.size:=⟨_,rfl⟩
 rw[←hr] at hg2 ⊢;have hgp:=hf2.obj hg1 id;have hp2:=hp.SO (hf1.trans hf2) (fun _ _=>id);have hq2:=hq.SO (hf1.trans hf2) (fun _ _=>id);refine Gz 9 ?_;refine O6 L1 rfl ((by show Calls _ _ [Value.slice p.1.names.a p.1.names.n p.1.names.c,Value.slice q.1.names.a q.1.names.n q.1.names.c].toArray _ _;rw[hp2.1,hq2.1];exact uF _ _ _ _ p.2.names q.2.names w2 hp2.2.1 hq2.2.1)) rfl ?_;rintro _ w3 ⟨rfl,hw3⟩;subst w3;refine Gz 5 ?_;exact⟨_,rfl,rfl,_,_,by rw[hw2,hw1]⟩
theorem sI{α:Type}[Inhabited α](enc:α→List Value)(K:Nat)(W:World)(b m:Nat)(dk:Array α)(os:Array Obj):aA (· = b) W (sortWorldK enc K W b 0 m dk os):=by
 unfold sortWorldK putRowK putRow mapBlock grow Go.Sort.ahead;refine⟨rfl,rfl,rfl,by simp,fun k hk hne=>?_⟩;show (W.heap.modify b _++os)[k]?=_;rw[Array.getElem?_append_left (by simpa using hk),Uy,SP (fun e=>hne e.symm)]
theorem wS{α:Type}[Inhabited α]{enc:α→List Value}{K:Nat}(hk:∀ x,(enc x).length=K)(hK:0<K)(d:Array α)(t:Nat)(ht:t<d.size*K):(flatK enc K d)[t]?=(d.toList.flatMap enc)[t]?:=by
 have h1:t/K<d.size:=(Nat.div_lt_iff_lt_mul hK).2 ht;have h2:t%K<K:=Nat.mod_lt _ hK;have e1:d.toList[t/K]?=some d[t/K]!:=by rw[Array.getElem?_toList,getElem!_pos d _ h1];exact Ul h1
 have e2:(enc d[t/K]!)[t%K]?=some (enc d[t/K]!)[t%K]!:=by
  have:t%K<(enc d[t/K]!).length:=by rw[hk];exact h2
  rw[SS this];exact congrArg some (getElem!_pos (enc d[t/K]!) (t%K) this).symm
 have e3:=nA hk d.toList (t/K) _ e1 (t%K) _ e2;rw[Nat.div_add_mod'] at e3;rw[e3];have:t<(flatK enc K d).size:=by rw[size_flatK];exact ht
 rw[Ul this,←getElem!_pos (flatK enc K d) t this,get_flatK enc K d t ht]
theorem Et{α:Type}[Inhabited α]{enc:α→List Value}{K:Nat}(hk:∀ x,(enc x).length=K)(hK:0<K){W:World}{b:Nat}{cur:Array Value}{T:TypeId}{d:Array α}(hg:W.heap[b]?=some (.cells cur T (0,0)))(hc:cur.toList.take (d.size*K)=d.toList.flatMap enc):HoldsK enc K W b 0 d:=by
 intro j hj;rw[size_flatK] at hj;have h1:=wS hk hK d j hj;rw[←hc,TC,SQ hj,Array.getElem?_toList] at h1;have h2:j<(flatK enc K d).size:=by rw[size_flatK];exact hj
 have h3:(flatK enc K d)[j]?=some (flatK enc K d)[j]!:=by rw[getElem!_pos _ j h2];exact Ul h2
 refine⟨?_,?_⟩
 · show World.cell? W ⟨b,0+j,none⟩=some (flatK enc K d)[j]!
   rw[TI,←h3,h1];simp[World.cell?,hg]
 ·simp[World.frozen?,hg]
theorem EO{α:Type}[Inhabited α]{enc:α→List Value}{K:Nat}(hk:∀ x,(enc x).length=K)(hK:0<K){W:World}{b cap m:Nat}{cur:Array Value}{T:TypeId}{d:Array α}{os:Array Obj}(hg:W.heap[b]?=some (.cells cur T (0,0)))(hl:d.size≤cap)(hm:cap≤maxLen)(hs:cur.size=cap*K) :
 ∃ cur':Array Value,(sortWorldK enc K W b 0 m d os).heap[b]?=some (.cells cur' T (0,0))∧cur'.size=cap*K∧cur'.toList.take (d.size*K)=d.toList.flatMap enc:=by
 have hb:=(SZ.1 hg).1;refine⟨putCells id 0 (flatK enc K d) cur,?_,by simp[putCells,hs],?_⟩
 · unfold sortWorldK putRowK putRow mapBlock grow Go.Sort.ahead
   show (W.heap.modify b _++os)[b]?=_;rw[Array.getElem?_append_left (by simpa using hb),Uy,SQ rfl,hg];rfl
 · apply TP
   intro t;have hle:d.size*K≤cap*K:=Tu K hl;by_cases ht:t<d.size*K
   · rw[TC,SQ ht,Array.getElem?_toList,←wS hk hK d t ht]
     have h2:t<(flatK enc K d).size:=by rw[size_flatK];exact ht
     unfold putCells;rw[Array.getElem?_mapIdx,Ul (show t<cur.size by omega),Option.map_some,SQ ⟨S3 _,by omega⟩];rw[Ul h2,←getElem!_pos (flatK enc K d) t h2];rfl
   ·rw[TC,SP ht,Ty (by rw[bN hk,Ue];omega)]
end
section
open Go Go.Proofs Go.Shelf
def SG:Go.Shelf.Ren:=⟨fun|6=>57|15=>113|14=>112|28=>162|29=>163|20=>154|21=>155|22=>156|23=>157|24=>158|25=>159|26=>160|27=>161|46=>197|47=>198|48=>199|49=>200|50=>201|57=>221|n=>n,fun|22=>22|24=>37|25=>116|3=>3|39=>97|0=>0|53=>39|55=>227|4=>4|46=>220|45=>219|50=>118|5=>5|9=>9|66=>252|70=>72|76=>273|77=>91|n=>n,fun|n=>n⟩
theorem SH:Go.Proofs.SlLaysF0.n6 Tryz.prog SG where
 mixed:=by kernel_rfl
 f6 := ⟨ "slices.SortFunc[[]lamella/api.Node,lamella/api.Node]", by decide, Tryz.func57.trans (congrArg some (by kernel_rfl))⟩
 f14 := ⟨ "slices.pdqsortCmpFunc[lamella/api.Node]", by decide, Tryz.func112.trans (congrArg some (by kernel_rfl))⟩
 f15:=Tryz.func113.trans (congrArg some (by kernel_rfl))
 f20 := ⟨ "slices.insertionSortCmpFunc[lamella/api.Node]", by decide, Tryz.func154.trans (congrArg some (by kernel_rfl))⟩
 f21 := ⟨ "slices.heapSortCmpFunc[lamella/api.Node]", by decide, Tryz.func155.trans (congrArg some (by kernel_rfl))⟩
 f22 := ⟨ "slices.breakPatternsCmpFunc[lamella/api.Node]", by decide, Tryz.func156.trans (congrArg some (by kernel_rfl))⟩
 f23 := ⟨ "slices.choosePivotCmpFunc[lamella/api.Node]", by decide, Tryz.func157.trans (congrArg some (by kernel_rfl))⟩
 f24 := ⟨ "slices.reverseRangeCmpFunc[lamella/api.Node]", by decide, Tryz.func158.trans (congrArg some (by kernel_rfl))⟩
 f25 := ⟨ "slices.partialInsertionSortCmpFunc[lamella/api.Node]", by decide, Tryz.func159.trans (congrArg some (by kernel_rfl))⟩
 f26 := ⟨ "slices.partitionEqualCmpFunc[lamella/api.Node]", by decide, Tryz.func160.trans (congrArg some (by kernel_rfl))⟩
 f27 := ⟨ "slices.partitionCmpFunc[lamella/api.Node]", by decide, Tryz.func161.trans (congrArg some (by kernel_rfl))⟩
 f28:=Tryz.func162.trans (congrArg some (by kernel_rfl))
 f29:=Tryz.func163.trans (congrArg some (by kernel_rfl))
 f46 := ⟨ "slices.siftDownCmpFunc[lamella/api.Node]", by decide, Tryz.func197.trans (congrArg some (by kernel_rfl))⟩
 f47:=Tryz.func198.trans (congrArg some (by kernel_rfl))
 f48:=Tryz.func199.trans (congrArg some (by kernel_rfl))
 f49 := ⟨ "slices.medianAdjacentCmpFunc[lamella/api.Node]", by decide, Tryz.func200.trans (congrArg some (by kernel_rfl))⟩
 f50 := ⟨ "slices.medianCmpFunc[lamella/api.Node]", by decide, Tryz.func201.trans (congrArg some (by kernel_rfl))⟩
 f57 := ⟨ "slices.order2CmpFunc[lamella/api.Node]", by decide, Tryz.func221.trans (congrArg some (by kernel_rfl))⟩
 t0:=Tryz.underlying0
 a0:=Tryz.isAgg0
 z0:=Tryz.sizeOf0
 v0:=Tryz.zeroValue0
 t3:=Tryz.underlying3
 a3:=Tryz.isAgg3
 z3:=Tryz.sizeOf3
 v3:=Tryz.zeroValue3
 t4:=Tryz.underlying4
 a4:=Tryz.isAgg4
 z4:=Tryz.sizeOf4
 v4:=Tryz.zeroValue4
 t5:=Tryz.underlying5
 a5:=Tryz.isAgg5
 z5:=Tryz.sizeOf5
 v5:=Tryz.zeroValue5
 t9:=Tryz.underlying9
 a9:=Tryz.isAgg9
 z9:=Tryz.sizeOf9
 v9:=Tryz.zeroValue9
 t22:=Tryz.underlying22
 a22:=Tryz.isAgg22
 z22:=Tryz.sizeOf22
 v22:=Tryz.zeroValue22
 t25:=Tryz.underlying116
 a25:=Tryz.isAgg116
 z25:=Tryz.sizeOf116
 v25:=Tryz.zeroValue116
 t39:=Tryz.underlying97
 a39:=Tryz.isAgg97
 z39:=Tryz.sizeOf97
 v39:=Tryz.zeroValue97
 t45:=Tryz.underlying219
 a45:=Tryz.isAgg219
 z45:=Tryz.sizeOf219
 v45:=Tryz.zeroValue219
 t46:=Tryz.underlying220
 a46:=Tryz.isAgg220
 z46:=Tryz.sizeOf220
 v46:=Tryz.zeroValue220
 t50:=Tryz.underlying118
 a50:=Tryz.isAgg118
 z50:=Tryz.sizeOf118
 v50:=Tryz.zeroValue118
 t53:=Tryz.underlying39
 a53:=Tryz.isAgg39
 z53:=Tryz.sizeOf39
 v53:=Tryz.zeroValue39
 t55:=Tryz.underlying227
 a55:=Tryz.isAgg227
 z55:=Tryz.sizeOf227
 v55:=Tryz.zeroValue227
 t66:=Tryz.underlying252
 a66:=Tryz.isAgg252
 z66:=Tryz.sizeOf252
 v66:=Tryz.zeroValue252
 t70:=Tryz.underlying72
 a70:=Tryz.isAgg72
 z70:=Tryz.sizeOf72
 v70:=Tryz.zeroValue72
 t76:=Tryz.underlying273
 a76:=Tryz.isAgg273
 z76:=Tryz.sizeOf273
 v76:=Tryz.zeroValue273
 t77:=Tryz.underlying91
 a77:=Tryz.isAgg91
 z77:=Tryz.sizeOf91
 v77:=Tryz.zeroValue91
end
section
open Go Go.RowKit Go.Maps Go.Sort
def NmB(W:World)(b:Nat)(p:NdH×Nd):Prop:=NmV (fun k=>k≠b∧k<W.heap.size) W.heap p.1.names p.2.names
abbrev NmS(W:World)(b:Nat):={ p:NdH×Nd // NmB W b p }
instance (W:World)(b:Nat):Inhabited (NmS W b):=⟨⟨(uX,nd0),⟨rfl,R7 0 (S3 _),fun h=>absurd rfl h⟩⟩⟩
def Cv{W:World}{b:Nat}(x:NmS W b):List Value:=aE x.1
def cfS{W:World}{b:Nat}(x y:NmS W b):Int:=bZ x.1.2.names y.1.2.names
theorem N7{W:World}{b:Nat}:SWO (Go.Proofs.ltOf (cfS (W:=W) (b:=b))) where
 irrefl x:=pH _
 trans x y z h1 h2:=qI (a:=x.1.2.names) (b:=y.1.2.names) (c:=z.1.2.names) h1 h2
 ntrans x y z h1 h2:=AJ (a:=x.1.2.names) (b:=y.1.2.names) (c:=z.1.2.names) h1 h2
theorem Iv(b cap:Nat)(xs:List (NdH×Nd))(W:World)(ho:bS 10 aE 37 W.heap (some ⟨b,0,none⟩) cap xs)(hn:∀ p∈xs,NmB W b p)(hl:xs.length≤1024) :
 CA 57 [.slice (some ⟨b,0,none⟩) xs.length cap,.func (.func 58) #[] #[]] W fun v w'=>v=.tuple #[]∧∃ ys:List (NdH×Nd),bS 10 aE 37 w'.heap (some ⟨b,0,none⟩) cap ys∧ys.Perm xs∧ys.Pairwise Ev∧aA (· = b) W w':=by
 rcases ho with⟨h,_⟩|⟨g,cur,hg0,hg,g1,g2,g3,g4⟩
 ·cases h
 · cases hg0
   obtain⟨d,hd⟩:∃ d:Array (NmS W b),d=(xs.attach.map fun x=>(⟨x.1,hn x.1 x.2⟩:NmS W b)).toArray:=⟨_,rfl⟩
   have hdl:d.toList.map (·.1)=xs:=by rw[hd];simp only[T3];exact List.attach_map_subtype_val xs
   have hds:d.size=xs.length:=by rw[←hdl];simp
   have hfl:∀ e:Array (NmS W b),e.toList.flatMap Cv=(e.toList.map (·.1)).flatMap aE:=fun e=>by rw[List.flatMap_map];rfl
   have hH:HoldsK Cv 10 W b 0 d:=Et (enc:=Cv) (K:=10) (fun _=>rfl) (by decide) hg (by rw[hds,hfl,hdl];exact g4);have hcmp:CmpLays Tryz.prog 58 #[] Cv 10 cfS b 0 d.size W:=fun m os dk _ x y=>by
    have hf:=sI Cv 10 W b m dk os;refine(E7 x.1 y.1 _ (x.2.SO hf (fun k hk e=>hk.1 e)) (y.2.SO hf (fun k hk e=>hk.1 e))).mono ?_;rintro e w' ⟨v,rfl,rfl,o1,o2,rfl⟩;exact⟨rfl,0,#[o1]++#[o2],by rw[alloc_eq_grow,alloc_eq_grow,grow_grow];rfl⟩
   have h:=AnyQ.slices_SortFunc SH 10 Tryz.isAgg37 Tryz.sizeOf37 Cv (fun _=>rfl) (fun x v hv=>(aB x.1).2 v hv) cfS N7 58 #[] b 0 cap d W (enters_of Tryz.func58 (by kernel_rfl) rfl) hcmp hH (SZ.1 hg).1 (by omega);rw[hds] at h;refine Calls.mono h ?_;rintro e w' ⟨rfl,d',n,os,⟨p1,_,p3⟩,hs,rfl⟩;have q1:d'.size=xs.length:=by rw[p1,hds]
   obtain⟨cur',c1,c2,c3⟩:=EO (enc:=Cv) (K:=10) (m:=n) (d:=d') (os:=os) (fun _=>rfl) (by decide) hg (by rw[q1];exact g1) g2 g3;refine⟨_,rfl,rfl,d'.toList.map (·.1),.inr ⟨b,cur',rfl,c1,by rw[Tb,Ue,q1];exact g1,g2,c2,?_⟩,?_,?_,sI _ _ _ _ _ _ _⟩
   ·rw[Tb,Ue,c3,hfl]
   · rw[←hdl]
     refine List.Perm.map _ ?_;have e1:d'.extract 0 xs.length=d':=by rw[←q1];exact Array.extract_size
     have e2:d.extract 0 xs.length=d:=by rw[←hds];exact Array.extract_size
     rw[e1,e2] at p3;exact p3
   · rw[List.pairwise_iff_getElem]
     intro i j hi hj hij;rw[Tb,Ue] at hi hj;have h1:=hs i j (S3 _) hij (by omega);rw[getElem!_pos d' i hi,getElem!_pos d' j hj] at h1;simp only[List.getElem_map,Array.getElem_toList];exact h1
end
section
open Go Go.RowKit Go.Maps
theorem KV:pX Tryz.prog 58 3 3 (iV 0):=⟨by kernel_rfl,by kernel_rfl⟩
def mH(Z zs:List Int)(m:List (I6×Value)):Prop:=(∀ z:I6,bP m z=if z.1∈zs then some (iV (jJ Z z.1)) else none)∧m.length=(bT zs).length
section
variable {Z zs:List Int}{m:List (I6×Value)}
theorem SI:mH Z [] []:=⟨fun z=>by simp[bP],rfl⟩
theorem mH.z(h:mH Z zs m)(z:I6):(bP m z).getD (iV 0)=iV (if z.1∈zs then jJ Z z.1 else 0):=by
 rw[h.1 z];split<;>rfl
theorem mH.is(h:mH Z zs m)(z:I6):decide ((bP m z).isSome=true)=decide (z.1∈zs):=by
 apply decide_eq_decide.2;rw[h.1 z];split<;>simp_all
theorem mH.old(h:mH Z zs m){z:Int}(hz:z∈zs):mH Z (zs++[z]) m:=⟨fun y=>by
 rw[h.1 y];have:(y.1∈zs)↔y.1∈zs++[z]:=by
  rw[List.mem_append,Tv];exact⟨.inl,fun e=>e.elim id (fun e=>e ▸ hz)⟩
 by_cases hy:y.1∈zs
 ·rw[SQ hy,SQ (this.1 hy)]
 ·rw[SP hy,SP (fun e=>hy (this.2 e))],by rw[h.2,nM hz]⟩
theorem mH.new(h:mH Z zs m)(z:I6)(hz:z.1∉zs):mH Z (zs++[z.1]) (bW m z (iV (jJ Z z.1))):=by
 have hn:bP m z=none:=by rw[h.1 z,SP hz]
 refine⟨fun y=>?_,by rw[fI _ hn,SR,h.2,nN hz];rfl⟩;rw[gY];by_cases e:y=z
 ·subst e;rw[SQ rfl,SQ (by simp)]
 · have e2:¬ y.1=z.1:=fun h=>e (Subtype.ext h)
   rw[SP e,h.1 y];by_cases hy:y.1∈zs
   ·rw[SQ hy,SQ (by simp[hy])]
   ·rw[SP hy,SP (by simp[hy,e2])]
end
theorem Gj{α:Type}{K:Nat}{enc:α→List Value}{T:TypeId}{H:Array Obj}{ao:Option Addr}{cap:Nat}{xs:List α}(h:bS K enc T H ao cap xs)(hne:xs≠[]):∃ b,ao=some ⟨b,0,none⟩:=by
 rcases h with⟨_,_,h⟩|⟨g,_,h,_⟩
 ·exact absurd h hne
 ·exact⟨g,h⟩
theorem NmV.real{D:Nat→Prop}{H:Array Obj}{h:Hd}{l:List By}(v:NmV D H h l):NmV (fun k=>k<H.size) H h l:=⟨v.1,v.2.1,fun hne k ⟨a,ha,e⟩=>by have:=v.2.1.lt hne a ha;show k<H.size;omega⟩
def zM(b g i:Nat)(Z:List Int)(ys zs:List (NdH×Nd))(w:World):Prop:=zs.length=ys.length∧(∀ j:Nat,i≤j→zs[j]?=ys[j]?)∧∀ (j:Nat) (q p:NdH×Nd),j<i→zs[j]?=some q→ys[j]?=some p→q.2=(dV Z p).2∧NdV (fun k=>k≠b∧k≠g∧k<w.heap.size) w.heap q
theorem zM.SN{b g i:Nat}{Z:List Int}{ys zs:List (NdH×Nd)}{w w':World}(h:zM b g i Z ys zs w)(f:aA (fun k=>k=b∨k=g) w w'):zM b g i Z ys zs w':=
 ⟨h.1,h.2.1,fun j q p hj hq hp=>⟨(h.2.2 j q p hj hq hp).1,((h.2.2 j q p hj hq hp).2.SO f (fun k hk e=>e.elim hk.1 hk.2.1)).mono (fun k hk=>⟨hk.1,hk.2.1,TQ hk.2.2 f.size⟩)⟩⟩
theorem zM.put{b g i:Nat}{Z:List Int}{ys zs:List (NdH×Nd)}{w:World}{p q:NdH×Nd}(h:zM b g i Z ys zs w)(hp:ys[i]?=some p)(hq:q.2=(dV Z p).2)(hv:NdV (fun k=>k≠b∧k≠g∧k<w.heap.size) w.heap q):zM b g (i+1) Z ys (zs.set i q) w:=by
 have hil:=(SV.1 hp).1;refine⟨by rw[TL];exact h.1,fun j hj=>by rw[TT (by omega)];exact h.2.1 j (by omega),fun j r s hj hr hs=>?_⟩;by_cases e:j=i
 · subst e
   rw[Tz (by rw[h.1];exact hil)] at hr;cases hr;rw[hp] at hs;cases hs;exact⟨hq,hv⟩
 · rw[TT (fun h=>e h.symm)] at hr
   exact h.2.2 j r s (by omega) hr hs
theorem zM.eq{b g:Nat}{ys zs:List (NdH×Nd)}{w:World}(h:zM b g ys.length (aP ys) ys zs w):nds zs=nds (BZ ys):=by
 apply TP;intro j;by_cases hj:j<ys.length
 · have h1:=SS hj
   have h2:zs[j]?=some (zs[j]'(by rw[h.1];exact hj)):=SS _;have h3:=(h.2.2 j _ _ hj h2 h1).1;rw[dO h2,h3];simp[nds,BZ,h1]
 ·rw[Ty (by rw[Tb,h.1];omega),Ty (by rw[Tb,BZ,Tb];omega)]
theorem JU{ps:List (NdH×Nd)}(h:chk (nds ps)=0):∀ p∈ps,eM p.2:=by
 intro p hp;have h0:=oR h;rw[aI,h0] at h;rw[SP (show ¬ ((0:Int)≠0) from fun h=>h rfl)] at h;by_cases hm:∃ n∈nds ps,¬ eM n
 ·rw[SQ hm] at h;cases h
 ·exact S4 fun hn=>hm ⟨p.2,Tj.2 ⟨p,hp,rfl⟩,hn⟩
theorem Ds{n:Nd}(h:eM n){k:Nat}{y:Xa}(hy:n.xs[k]?=some y):y.2.length≤200:=by
 have hk:=(SV.1 hy).1;have h1:=(h.2.2.2.2.2.2.2.2.1 k hk).2.2.2;have e:n.xs.getD k x0=y:=by simp[S6,hy]
 rwa[e] at h1
variable {D:Nat→Prop}
def XrJ(s k:Nat)(xx:List (By×Hd))(X:List Xa)(us:List (By×Hd))(w:World):Prop:=us.length=xx.length∧(∀ j:Nat,k≤j→us[j]?=xx[j]?)∧∀ (j:Nat) (u:By×Hd) (x:Xa),j<k→us[j]?=some u→X[j]?=some x→u.1=x.1∧ByV (fun q=>s≤q∧q<w.heap.size) w.heap u.2 x.2
theorem HS(lo:Option Addr)(lc:Nat)(ps:List (NdH×Nd))(W:World)(hv:aR D W.heap lo lc ps)(hsm:∀ p∈ps,smN p.2)(hok:∀ p∈ps,okN p.2) :
 CA 18 [.slice lo ps.length lc] W fun v w'=>∃ (o:Option Addr) (c:Nat) (qs:List (NdH×Nd)),v=.tuple [.slice o qs.length c,iV (chk (nds ps))].toArray∧(chk (nds ps)≠0→qs=[])∧(chk (nds ps)=0→nds qs=nds (cQ ps))∧aR (fun _=>True) w'.heap o c qs∧Fr W.heap.size o∧aA nob W w':=by
 have hll:(nds ps).length=ps.length:=by simp
 refine cS 102 [(0,_)] Tryz.func18 ?_;refine cA 10 OH (HO lo lc ps W hv hsm hok) ?_;rintro _ w2 ⟨rfl,hf2⟩;refine fK 6 ?_ ?_<;>intro h16
 ·refine Gz 13 ?_;exact⟨_,rfl,none,0,[],rfl,fun _=>rfl,fun h=>absurd h h16,⟨⟨S3 _,S3 _,fun h=>absurd rfl h,fun i x hx=>by simp at hx⟩,by simp⟩,R6,hf2⟩
 have hz:chk (nds ps)=0:=TJ.1 h16;have hlen:=DQ hz;have ht:=xH hz;have hne:ps≠[]:=fun e=>by subst e;exact absurd hz (by decide +kernel)
 have hmay:∀ p∈ps,eM p.2:=JU hz;have hnm16:∀ p∈ps,p.2.names.length≤16:=fun p hp=>(iE (sY (oR hz))).2.1 p.2 (Tj.2 ⟨p,hp,rfl⟩);refine Gz 8 ?_;refine O6 OG rfl (E4 lo lc ps w2 (hv.SN hf2).1 (by omega)) rfl ?_;rintro _ w3 ⟨o,c3,rfl,ho3,hfo,hf3⟩;obtain⟨b,rfl⟩:=Gj ho3 hne;have hF3:=hf2.trans hf3;have hbW:W.heap.size≤b:=by have:=hfo _ rfl;have:=hf2.size;exact Nat.le_trans hf2.size (hfo _ rfl)
 refine Gz 6 ?_;refine O6 OF rfl (Iv b c3 ps w3 ho3 (fun p hp=>(((hv.2 p hp).1.real).SO hF3 (fun _ _=>id)).mono (fun k hk=>⟨fun e=>by omega,TQ hk hF3.size⟩)) (by omega)) rfl ?_;rintro _ w4 ⟨rfl,ys,ho4,hpe,hor,hf4⟩;have hF4:aA nob W w4:=hF3.SJ hf4 (fun k e=>.inr (by have e:k=b:=e;omega));have hys:=FK ht hpe hor;have hyl:=hpe.length_eq;obtain⟨Z,hZ⟩:∃ Z,Z=aP ys:=⟨_,rfl⟩
 have hym:∀ p∈ys,p∈ps:=fun p hp=>hpe.mem_iff.1 hp;have hb4:b<w4.heap.size:=ho4.lt _ rfl;refine Gz 4 ?_;refine PF (enc:=enI) rfl ?_;intro w41 hm41 hs41 hf41;obtain⟨g,hg⟩:∃ g,g=w4.heap.size:=⟨_,rfl⟩
 rw[←hg] at hm41 ⊢;have hF41:=hF4.trans hf41;have hbg:b<g:=by omega
 have hgW:W.heap.size≤g:=by have:=hF4.size;omega
 refine Gz 12 ?_;refine Pb (β:=Nat×List (NdH×Nd)×List (I6×Value)) (fun⟨i,zs,m⟩=>[(5,.slice (some ⟨b,0,none⟩) ps.length c3),(6,.map (some g)),(24,iV ps.length),(25,iV i)]) (fun⟨i,zs,m⟩ w=>i≤ps.length∧bS 10 aE 37 w.heap (some ⟨b,0,none⟩) c3 zs∧zM b g i Z ys zs w∧cG enI w.heap g m∧mH Z (aP (ys.take i)) m∧aA nob W w) (fun⟨i,zs,m⟩=>ps.length-i) ⟨0,ys,[]⟩ ⟨rfl,rfl,rfl,rfl,trivial⟩ ⟨S3 _,ho4.SN hf41,⟨rfl,fun _ _=>rfl,fun j _ _ hj=>by omega⟩,hm41,SI,hF41⟩ ?_;rintro⟨i,zs,m⟩ w5 ⟨hi,ho5,hC,hm5,hMI,hF5⟩;refine fK 2 ?_ ?_<;>intro h26
 ·have hil:i<ps.length:=by omega
  obtain⟨p,hp⟩:∃ p,ys[i]?=some p:=⟨_,SS (by omega)⟩
  have hpm:=hym p (S1 hp);have hzi:zs[i]?=some p:=by rw[hC.2.1 i (SY _)];exact hp
  have hv5:=ho5.vw aB;have hzb:=hok p hpm p.2.ino (by simp);have hsl:=C8 (aP (ys.take i));have hil2:(aP (ys.take i)).length=i:=by simp[aP];omega
  have hml:=hMI.2;have hzl:=hC.1;have hizs:i<zs.length:=by omega
  have hpv:=hv.2 p hpm;have hpmay:=hmay p hpm;refine Gz 13 ?_;refine aW [(5,_),(6,_),(7,_),(24,_),(25,_),(26,_)] ?_;refine Gz 5 ?_;refine cL (Pa cC rfl rfl (fun _=>by simp) (by omega)) ?_;refine Gz 9 ?_;refine cL (O8 aK rfl (hv5.rowZ i rfl hzi 1 _ rfl)) ?_;refine cL (O7 (u:=.tuple [iV (if p.2.ino∈aP (ys.take i) then jJ Z p.2.ino else 0),.bool (decide (p.2.ino∈aP (ys.take i)))].toArray) (PL KV qU (a:=(⟨p.2.ino,hzb⟩:I6)) rfl rfl (fun _ e=>by rw[e];exact hm5)) (by rw[hMI.z,hMI.is])) ?_;refine Gz 3 ?_;by_cases h39:p.2.ino∈aP (ys.take i)
  ·rw[SX h39];rw[SQ h39];refine Gz 4 ?_;refine PI (β:=List (I6×Value)) (fun m2=>[(5,.slice (some ⟨b,0,none⟩) ps.length c3),(6,.map (some g)),(8,.pointer (some (adr (some ⟨b,0,none⟩) (i*10)))),(9,iV (jJ Z p.2.ino)),(24,iV ps.length),(25,iV i)]) (fun m2 w=>cG enI w.heap g m2∧mH Z (aP (ys.take (i+1))) m2∧bS 10 aE 37 w.heap (some ⟨b,0,none⟩) c3 zs∧aA (fun k=>k=b∨k=g) w5 w) ?_ ?_
   ·refine Gz 3 ?_;refine cL (Pp rfl) ?_;refine Gz 4 ?_
    first
    |exact aC m ⟨hm5,by rw[oE hp];exact hMI.old h39,ho5,RY _ _⟩
    |exact PJ _ ⟨rfl,rfl,rfl,congrArg (fun z:Int=>some (Value.int .i64 z)) hnew,rfl,rfl,trivial⟩ ⟨hm6,by rw[oE hp];exact hMI.new (⟨p.2.ino,hzb⟩:I6) h39,ho5.SO hf6 (fun a ha e=>by cases ha;have e:b=g:=e;omega),hf6.mono (fun k e=>.inr e)⟩
   rintro m2 w6 ⟨hm6,hMI2,ho6,hH6⟩;refine Gz 6 ?_;refine PH aB (i:=i) (j:=1) (x':=dV Z p) hzi (by decide) rfl aK rfl rfl rfl rfl ho6 ?_;intro w7 ho7 hs7 hf7;have hH7:aA (fun k=>k=b∨k=g) w5 w7:=hH6.step hf7 (fun k ⟨a,ha,e⟩=>.inl (.inl (by cases ha;exact e.symm)));have hzi7:(zs.set i (dV Z p))[i]?=some (dV Z p):=Tz (by omega);have hm7:=hm6.SO hf7 (fun⟨a,ha,e⟩=>by cases ha;have e:b=g:=e;omega);refine Gz 3 ?_;obtain⟨hxn0,xx,hxv,hxl,hxd,hxx⟩:=hpv.2.2;have hxn:p.1.xs.n=xx.length:=by rw[hxn0,hxl]
   have hx8:p.2.xs.length≤8:=hpmay.2.2.2.2.2.2.2.2.2;have hG7:aA nob W w7:=hF5.SJ hH7 (fun k e=>.inr (by rcases e with e|e<;>omega));refine PW 20 [6,11,16] (fun H=>VwM 10 aE H (some ⟨b,0,none⟩) c3 (zs.set i (dV Z p))) [7,12,17,20,23,26] [0,1,2,3,4,5,6,8,9,10,11,13,14,15,16] (.alt 7 [] (.alt 12 [] (.alt 17 [18,19] (.alt 20 [21,22] (.alt 23 [24,25] (.alt 26 [] .fin .stop) .stop) .stop) .stop) .stop) .stop) aJ (by kernel_rfl) ((ho7.vw aB)) ?_;have hH0:aA (fun k=>k=b∨k=g) w5 (w7.drewN 1):=hH7.draws 1;have hG0:aA nob W (w7.drewN 1):=hG7.draws 1;have ho0:bS 10 aE 37 (w7.drewN 1).heap (some ⟨b,0,none⟩) c3 (zs.set i (dV Z p)):=ho7;have hm0:cG enI (w7.drewN 1).heap g m2:=hm7;generalize w7.drewN 1=v0 at hH0 hG0 ho0 hm0 ⊢;refine Sz.calm rfl rfl (Pc rfl) rfl ?_;refine Sz.calm rfl rfl (Pc rfl) rfl ?_;refine Sz.calm rfl rfl (Pc rfl) rfl ?_;refine Sz.calm rfl rfl (Pc rfl) rfl ?_;refine Sz.calm rfl rfl (Pq rfl) rfl ?_;refine Sz.calm rfl rfl (Pt rO.h rfl) rfl ?_;refine Sz.calm rfl rfl (Pe iR rfl (fun H (hH:VwM 10 aE H (some ⟨b,0,none⟩) c3 (zs.set i (dV Z p)))=>hH.rowZ i rfl hzi7 0 _ rfl)) rfl ?_;refine Sz.calm rfl rfl (Pc rfl) rfl ?_;refine Sz.calm rfl rfl (Pq rfl) rfl ?_;refine Sz.calm rfl rfl (Pt rN.h rfl) rfl ?_;refine Sz.calm rfl rfl (Pe aO rfl (fun H (hH:VwM 10 aE H (some ⟨b,0,none⟩) c3 (zs.set i (dV Z p)))=>hH.rowZ i rfl hzi7 6 _ rfl)) rfl ?_;refine Sz.calm rfl rfl (Pc rfl) rfl ?_;refine Sz.calm rfl rfl (Pq rfl) rfl ?_;refine Sz.calm rfl rfl (Pt lW.h rfl) rfl ?_;refine Sz.calm rfl rfl (Pe cJ rfl (fun H (hH:VwM 10 aE H (some ⟨b,0,none⟩) c3 (zs.set i (dV Z p)))=>hH.rowZ i rfl hzi7 8 _ rfl)) rfl ?_;refine Sz.alt ?_ ?_
   ·refine Ss rfl rfl (O6 L0 rfl ((by show Calls _ _ [Value.slice p.1.names.a p.1.names.n p.1.names.c].toArray _ _;rw[hpv.1.1];exact xE _ _ p.2.names v0 (hpv.SN hG0).1.2.1 (by have:=hnm16 p hpm;omega))) rfl ?_);rintro _ v1 ⟨on,cn,rfl,hon1,hfn,hf1⟩;have hH1:aA (fun k=>k=b∨k=g) w5 v1:=hH0.step hf1 (fun _ h=>h.elim);have hG1:=hG0.trans hf1;have ho1:=ho0.SN hf1;have hm1:=hm0.SO hf1 id;refine Sz.on (by exact(ho1.vw aB)) ?_;refine Sz.alt ?_ ?_
    ·refine Ss rfl rfl (O6 Cl rfl ((by show Calls _ _ [Value.slice p.1.data.a p.1.data.n p.1.data.c].toArray _ _;rw[hpv.2.1.1];exact lZ _ _ p.2.data v1 (hpv.SN hG1).2.1.2.1 (by have:=hpmay.2.2.2.2.2.2.1;omega))) rfl ?_);rintro _ v2 ⟨od,cd,rfl,hod2,hfd,hf2b⟩;have hH2:aA (fun k=>k=b∨k=g) w5 v2:=hH1.step hf2b (fun _ h=>h.elim);have hG2:=hG1.trans hf2b;have ho2:=ho1.SN hf2b;have hm2b:=hm1.SO hf2b id;have hon2:=hon1.SN hf2b;refine Sz.on (by exact(ho2.vw aB)) ?_;refine Sz.alt ?_ ?_
     ·refine Ss rfl rfl (O6 LZ rfl ((by show Calls _ _ [Value.slice p.1.xs.a p.1.xs.n p.1.xs.c].toArray _ _;rw[hxn];exact xD _ _ xx v2 (hxv.keep' hG2 (fun _ _ _=>id)) (by omega))) rfl ?_);rintro _ v3 ⟨ox,cx,rfl,hox3,hfx,hf3b⟩;have hH3:aA (fun k=>k=b∨k=g) w5 v3:=hH2.step hf3b (fun _ h=>h.elim);have hG3:=hG2.trans hf3b;have ho3b:=ho2.SN hf3b;have hm3b:=hm2b.SO hf3b id;have hon3:=hon2.SN hf3b;have hod3:=hod2.SN hf3b;have hfx5:∀ a,ox=some a→w5.heap.size≤a.block:=fun a ha=>by have h1:v2.heap.size≤a.block:=hfx a ha;have:=hH2.size;omega
      have hnx:∀ a c:Addr,on=some a→ox=some c→c.block=a.block→False:=fun a c ha hc e=>by have h1:v2.heap.size≤c.block:=hfx c hc;have h2:=hon2.lt a ha;omega
      have hdx:∀ a c:Addr,od=some a→ox=some c→c.block=a.block→False:=fun a c ha hc e=>by have h1:v2.heap.size≤c.block:=hfx c hc;have h2:=hod2.lt a ha;omega
      have hb0:b<v0.heap.size:=ho0.lt _ rfl;have hg0:g<v0.heap.size:=hm0.obj;have hfn:∀ a,on=some a→b<a.block∧g<a.block:=fun a ha=>by have:=hfn a ha;omega
      have hfd:∀ a,od=some a→b<a.block∧g<a.block:=fun a ha=>by have:=hfd a ha;have:=hf1.size;omega
      have hfx:∀ a,ox=some a→b<a.block∧g<a.block:=fun a ha=>by have:=hfx a ha;have:=hf1.size;have:=hf2b.size;omega
      refine Sz.on (by exact(ho3b.vw aB)) ?_;refine Sz.calm rfl rfl (Pq rfl) rfl ?_;refine Sz.calm rfl rfl (Pt rO.h rfl) rfl ?_;refine Sz.alt ?_ ?_
      ·refine Ss rfl rfl (PH aB (i:=i) (j:=0) (x':=((⟨⟨on,p.2.names.length,cn⟩,p.1.data,p.1.xs⟩:NdH),(dV Z p).2)) hzi7 (by decide) rfl iR rfl rfl rfl rfl ho3b ?_);intro v4 ho4v hs4v hf4v;rw[U1] at ho4v;have hz4:=Tz (a:=(((⟨⟨on,p.2.names.length,cn⟩,p.1.data,p.1.xs⟩:NdH),(dV Z p).2):NdH×Nd)) hizs;have hH4:aA (fun k=>k=b∨k=g) w5 v4:=hH3.step hf4v (fun k ⟨a,ha,e⟩=>.inl (.inl (by cases ha;exact e.symm)));have hm4v:=hm3b.SO hf4v (fun⟨a,ha,e⟩=>by cases ha;have e:b=g:=e;omega);have hon4:=hon3.SO hf4v (fun a ha ⟨c,hc,e⟩=>by cases hc;have e:b=a.block:=e;have:=hfn a ha;omega);have hod4:=hod3.SO hf4v (fun a ha ⟨c,hc,e⟩=>by cases hc;have e:b=a.block:=e;have:=hfd a ha;omega);have hox4:=hox3.SO hf4v (fun a ha ⟨c,hc,e⟩=>by cases hc;have e:b=a.block:=e;have:=hfx a ha;omega);refine Sz.off rfl ?_;refine Sz.calm rfl rfl (Pq rfl) rfl ?_;refine Sz.calm rfl rfl (Pt rN.h rfl) rfl ?_;refine Sz.alt ?_ ?_
       ·refine Ss rfl rfl (PH aB (i:=i) (j:=6) (x':=((⟨⟨on,p.2.names.length,cn⟩,⟨od,p.2.data.length,cd⟩,p.1.xs⟩:NdH),(dV Z p).2)) hz4 (by decide) rfl aO rfl rfl rfl rfl ho4v ?_);intro v5 ho5v hs5v hf5v;rw[U1] at ho5v;have hz5:=Tz (a:=(((⟨⟨on,p.2.names.length,cn⟩,⟨od,p.2.data.length,cd⟩,p.1.xs⟩:NdH),(dV Z p).2):NdH×Nd)) hizs;have hH5:aA (fun k=>k=b∨k=g) w5 v5:=hH4.step hf5v (fun k ⟨a,ha,e⟩=>.inl (.inl (by cases ha;exact e.symm)));have hm5v:=hm4v.SO hf5v (fun⟨a,ha,e⟩=>by cases ha;have e:b=g:=e;omega);have hon5:=hon4.SO hf5v (fun a ha ⟨c,hc,e⟩=>by cases hc;have e:b=a.block:=e;have:=hfn a ha;omega);have hod5:=hod4.SO hf5v (fun a ha ⟨c,hc,e⟩=>by cases hc;have e:b=a.block:=e;have:=hfd a ha;omega);have hox5:=hox4.SO hf5v (fun a ha ⟨c,hc,e⟩=>by cases hc;have e:b=a.block:=e;have:=hfx a ha;omega);refine Sz.off rfl ?_;refine Sz.calm rfl rfl (Pq rfl) rfl ?_;refine Sz.calm rfl rfl (Pt lW.h rfl) rfl ?_;refine Sz.alt ?_ ?_
        ·refine Ss rfl rfl (PH aB (i:=i) (j:=8) (x':=((⟨⟨on,p.2.names.length,cn⟩,⟨od,p.2.data.length,cd⟩,⟨ox,xx.length,cx⟩⟩:NdH),(dV Z p).2)) hz5 (by decide) rfl cJ rfl rfl rfl rfl ho5v ?_);intro v6 ho6v hs6v hf6v;rw[U1] at ho6v;have hH6v:aA (fun k=>k=b∨k=g) w5 v6:=hH5.step hf6v (fun k ⟨a,ha,e⟩=>.inl (.inl (by cases ha;exact e.symm)));have hm6v:=hm5v.SO hf6v (fun⟨a,ha,e⟩=>by cases ha;have e:b=g:=e;omega);have hon6:=hon5.SO hf6v (fun a ha ⟨c,hc,e⟩=>by cases hc;have e:b=a.block:=e;have:=hfn a ha;omega);have hod6:=hod5.SO hf6v (fun a ha ⟨c,hc,e⟩=>by cases hc;have e:b=a.block:=e;have:=hfd a ha;omega);have hox6:=hox5.SO hf6v (fun a ha ⟨c,hc,e⟩=>by cases hc;have e:b=a.block:=e;have:=hfx a ha;omega);obtain⟨pz,hpz⟩:∃ pz:NdH×Nd,pz=((⟨⟨on,p.2.names.length,cn⟩,⟨od,p.2.data.length,cd⟩,⟨ox,xx.length,cx⟩⟩:NdH),(dV Z p).2):=⟨_,rfl⟩
         rw[←hpz] at ho6v;have hzi6:(zs.set i pz)[i]?=some pz:=Tz (by omega);have hG6:aA nob W v6:=hF5.SJ hH6v (fun k e=>.inr (by rcases e with e|e<;>omega));refine Sz.off rfl ?_;refine St ?_;refine Gz 6 ?_;refine cL (O7 (u:=.slice ox xx.length cx) (O8 cJ rfl ((ho6v.vw aB).rowZ i rfl hzi6 8 _ rfl)) (by rw[hpz];rfl)) ?_;refine Gz 5 ?_;have hb6:b<v6.heap.size:=ho6v.lt _ rfl;have hg6:g<v6.heap.size:=hm6v.obj;refine Pb (β:=Nat×List (By×Hd)) (fun⟨k,us⟩=>[(5,.slice (some ⟨b,0,none⟩) ps.length c3),(6,.map (some g)),(8,.pointer (some (adr (some ⟨b,0,none⟩) (i*10)))),(24,iV ps.length),(25,iV i),(82,.slice ox xx.length cx),(83,iV xx.length),(84,iV k)]) (fun⟨k,us⟩ w=>k≤xx.length∧bS 2 dZ 123 w.heap ox cx us∧XrJ v6.heap.size k xx p.2.xs us w∧aA (blk ox) v6 w) (fun⟨k,us⟩=>xx.length-k) ⟨0,xx⟩ ⟨rfl,rfl,rfl,rfl,rfl,rfl,rfl,rfl,trivial⟩ ⟨S3 _,hox6,⟨rfl,fun _ _=>rfl,fun j _ _ hj=>by omega⟩,RY _ _⟩ ?_;rintro⟨k,us⟩ w8 ⟨hk,hou,hXI,hI8⟩;refine fK 2 ?_ ?_<;>intro h85
         ·have hkx:k<xx.length:=by omega
          obtain⟨x,hx⟩:∃ x,xx[k]?=some x:=⟨_,SS hkx⟩
          obtain⟨y,hy⟩:∃ y,p.2.xs[k]?=some y:=⟨_,SS (by omega)⟩
          have hux:us[k]?=some x:=by rw[hXI.2.1 k (SY _)];exact hx
          have hvu:=hou.vw bQ;have hul:=hXI.1;have hxy:=hxx k x y hx hy;have hyl4:y.2.length≤200:=Ds hpmay hy;refine Gz 11 ?_;refine cL (Pa kA rfl rfl (by rw[←hul];exact hvu.non) (by omega)) ?_;refine cL (Pi (cs:=dZ x) dT rfl (fun j v hj=>hvu.rowZ k rfl hux j v hj)) ?_;refine O9 rX rfl ?_;intro w9 hg9 hs9 hf9;obtain⟨qx,hqx⟩:∃ qx,qx=w8.heap.size:=⟨_,rfl⟩
          rw[←hqx] at hg9 ⊢;refine Gz 1 ?_;refine Pf (vs:=dZ x) dT rfl rfl (bQ x).2 hg9 rfl ?_;intro wA hgA hsA hfA;have hf8A:aA nob w8 wA:=hf9.SJ hfA (fun k e=>.inr (by have e:k=qx:=e;omega));have hI_A:aA (blk ox) v6 wA:=hI8.step hf8A (fun _ h=>h.elim);have hoz8:=ho6v.SO hI8 (fun a ha ⟨c,hc,e⟩=>by cases ha;have:=hfx c hc;have e:c.block=b:=e;omega);have hozA:=hoz8.SN hf8A;have houA:=hou.SN hf8A;have hqv:v6.heap.size≤qx:=by rw[hqx];exact hI8.size
          refine Gz 1 ?_;refine aW [(5,_),(6,_),(8,_),(11,_),(12,_),(24,_),(25,_),(82,_),(83,_),(84,_),(85,_)] ?_;refine Gz 1 ?_;refine PW 10 [3,6] (fun H=>VwM 10 aE H (some ⟨b,0,none⟩) c3 (zs.set i pz)∧H[qx]?=some (.cells (dZ x).toArray 123 (0,0))) [7,10] [0,1,2,3,4,5,6] (.alt 7 [8,9] (.alt 10 [] .fin .stop) .stop) aJ (by kernel_rfl) (⟨hozA.vw aB,hgA⟩) ?_;refine Sz.calm rfl rfl (Pc rfl) rfl ?_;refine Sz.calm rfl rfl (Pq rfl) rfl ?_;refine Sz.calm rfl rfl (Pt lW.h rfl) rfl ?_;refine Sz.calm rfl rfl (O7 (u:=.slice ox xx.length cx) (Pe cJ rfl (fun H (hH:VwM 10 aE H (some ⟨b,0,none⟩) c3 (zs.set i pz)∧H[qx]?=some (.cells (dZ x).toArray 123 (0,0)))=>hH.1.rowZ i rfl hzi6 8 _ rfl)) (by rw[hpz];rfl)) rfl ?_;refine Sz.calm rfl rfl (Pc rfl) rfl ?_;refine Sz.calm rfl rfl (Pt oI.h rfl) rfl ?_;refine Sz.calm rfl rfl (O7 (u:=.slice x.2.a y.2.length x.2.c) (Pe aO rfl (fun H (hH:VwM 10 aE H (some ⟨b,0,none⟩) c3 (zs.set i pz)∧H[qx]?=some (.cells (dZ x).toArray 123 (0,0)))=>aD hH.2 rfl)) (by rw[←hxy.2.1];rfl)) rfl ?_;refine Sz.alt ?_ ?_
          ·refine Ss rfl rfl (O6 Cl rfl (lZ _ _ y.2 _ ((hxy.2.SO (hG6.SJ hI_A (fun k ⟨a,ha,e⟩=>.inr (by have:=hfx a ha;omega))) (fun _ _=>id)).2.1) (by omega)) rfl ?_);rintro _ wB ⟨oB,cB,rfl,hoB,hfB,hfBf⟩;have hfBf:aA nob wA wB:=hfBf.SL;have hozB:=hozA.SN hfBf;have houB:=houA.SN hfBf;refine Sz.on (by exact⟨hozB.vw aB,hfBf.obj hgA id⟩) ?_;refine Sz.calm rfl rfl (Pa kA rfl rfl (by rw[←hul];exact hvu.non) (by omega)) rfl ?_;refine Sz.calm rfl rfl (Pt oI.h rfl) rfl ?_;refine Sz.alt ?_ ?_
           ·refine Ss rfl rfl (PH bQ (i:=k) (j:=1) (x':=(x.1,(⟨oB,y.2.length,cB⟩:Hd))) hux (by decide) rfl aO rfl rfl rfl rfl houB ?_);intro wC houC hsC hfC;have hI_C:aA (blk ox) v6 wC:=(hI_A.step hfBf (fun _ h=>h.elim)).trans hfC;have hoBC:=hoB.SO hfC (fun a ha ⟨c,hc,e⟩=>by have h1:=hfB a ha;have h2:=hou.lt c hc;have h3:=hf8A.size;have e:c.block=a.block:=e;have h1:wA.heap.size≤a.block:=h1;omega);refine Sz.off rfl ?_;refine St ?_;refine Gz 6 ?_;refine aG ⟨k+1,us.set k (x.1,(⟨oB,y.2.length,cB⟩:Hd))⟩ ⟨by omega,houC,⟨by rw[TL];exact hul,fun j hj=>by rw[TT (by omega)];exact hXI.2.1 j (by omega),fun j u z hj hu hz=>?_⟩,hI_C⟩ (by show xx.length-(k+1)<xx.length-k;omega);by_cases e:j=k
            · subst e
              rw[Tz (by omega)] at hu;cases hu;rw[hy] at hz;cases hz;exact⟨hxy.1,rfl,hoBC.vw,fun _ q ⟨a,ha,e⟩=>⟨by have h1:wA.heap.size≤a.block:=hfB a ha;have:=hI_A.size;omega,by have:=hoBC.lt a ha;omega⟩⟩
            · rw[TT (fun h=>e h.symm)] at hu
              obtain⟨h1,h2⟩:=hXI.2.2 j u z (by omega) hu hz;have hfAC:aA (blk ox) w8 wC:=((hf8A.mono (fun _ h=>h.elim)).trans (hfBf.mono (fun _ h=>h.elim))).trans hfC;exact⟨h1,(h2.SO hfAC (fun q hq ⟨a,ha,e⟩=>by have:=hox6.lt a ha;have:=hq.1;omega)).mono (fun q hq=>⟨hq.1,TQ hq.2 hfAC.size⟩)⟩
           exact Sz.stop
          exact Sz.stop
         have hke:k=xx.length:=by omega
         subst hke;refine Gz 14 ?_;have hH8:aA (fun k=>k=b∨k=g) w5 w8:=hH6v.step hI8 (fun k ⟨a,ha,e⟩=>.inr (by have:=hfx5 a ha;omega));have hI8s:=hI8.size;have hfoot:=hI8;have hon8:=hon6.SO hI8 (fun a ha ⟨c,hc,e⟩=>hnx a c ha hc e);have hod8:=hod6.SO hI8 (fun a ha ⟨c,hc,e⟩=>hdx a c ha hc e);have hoz8:=ho6v.SO hI8 (fun a ha ⟨c,hc,e⟩=>by cases ha;have:=hfx c hc;have e:c.block=b:=e;omega);have hm8:=hm6v.SO hI8 (fun⟨a,ha,e⟩=>by have:=hfx a ha;omega);have hpzv:NdV (fun k=>k≠b∧k≠g∧k<w8.heap.size) w8.heap pz:=by
          rw[hpz];refine⟨⟨rfl,hon8.vw,fun _ k ⟨a,ha,e⟩=>?_⟩,⟨rfl,hod8.vw,fun _ k ⟨a,ha,e⟩=>?_⟩,⟨hxl,us,hou.vw bQ,hXI.1.trans hxl,fun _ k ⟨a,ha,e⟩=>?_,fun j u x hu hx=>?_⟩⟩
          ·have h1:=hfn a ha;have h2:=hon8.lt a ha;exact⟨by omega,by omega,by omega⟩
          ·have h1:=hfd a ha;have h2:=hod8.lt a ha;exact⟨by omega,by omega,by omega⟩
          ·have h1:=hfx a ha;have h2:=hou.lt a ha;exact⟨by omega,by omega,by omega⟩
          · obtain⟨h1,h2⟩:=hXI.2.2 j u x (by have:=(SV.1 hu).1;have:=hXI.1;omega) hu hx
            exact⟨h1,h2.mono (fun k hk=>⟨by have:=hk.1;omega,by have:=hk.1;omega,hk.2⟩)⟩
         exact aG ⟨i+1,zs.set i pz,m2⟩ ⟨by omega,hoz8,(hC.SN hH8).put hp (by rw[hpz]) hpzv,hm8,hMI2,hF5.SJ hH8 (fun k e=>.inr (by rcases e with e|e<;>omega))⟩ (by show ps.length-(i+1)<ps.length-i;omega)
        exact Sz.stop
       exact Sz.stop
      exact Sz.stop
     exact Sz.stop
    exact Sz.stop
   exact Sz.stop
  rw[SU h39];rw[SP h39];have hnew:((m.length:Nat):Int)+1=jJ Z p.2.ino:=by rw[hml,hZ,mY hp,Ay h39]
  refine Gz 4 ?_;refine PI (β:=List (I6×Value)) (fun m2=>[(5,.slice (some ⟨b,0,none⟩) ps.length c3),(6,.map (some g)),(8,.pointer (some (adr (some ⟨b,0,none⟩) (i*10)))),(9,iV (jJ Z p.2.ino)),(24,iV ps.length),(25,iV i)]) (fun m2 w=>cG enI w.heap g m2∧mH Z (aP (ys.take (i+1))) m2∧bS 10 aE 37 w.heap (some ⟨b,0,none⟩) c3 zs∧aA (fun k=>k=b∨k=g) w5 w) ?_ ?_
  ·refine Gz 3 ?_;refine cL (Pp rfl) ?_;refine Gz 6 ?_;refine cL (Qx KV rfl (fun _ e=>by rw[e];exact hm5)) ?_;refine Gz 9 ?_;refine cL (O8 aK rfl (hv5.rowZ i rfl hzi 1 _ rfl)) ?_;refine Gz 1 ?_;refine Py KV qU (a:=(⟨p.2.ino,hzb⟩:I6)) rfl rfl rfl hm5 ?_;intro w6 hm6 hs6 hf6;rw[hnew] at hm6;refine Gz 1 ?_
   first
   |exact aC m ⟨hm5,by rw[oE hp];exact hMI.old h39,ho5,RY _ _⟩
   |exact PJ _ ⟨rfl,rfl,rfl,congrArg (fun z:Int=>some (Value.int .i64 z)) hnew,rfl,rfl,trivial⟩ ⟨hm6,by rw[oE hp];exact hMI.new (⟨p.2.ino,hzb⟩:I6) h39,ho5.SO hf6 (fun a ha e=>by cases ha;have e:b=g:=e;omega),hf6.mono (fun k e=>.inr e)⟩
  rintro m2 w6 ⟨hm6,hMI2,ho6,hH6⟩;refine Gz 6 ?_;refine PH aB (i:=i) (j:=1) (x':=dV Z p) hzi (by decide) rfl aK rfl rfl rfl rfl ho6 ?_;intro w7 ho7 hs7 hf7;have hH7:aA (fun k=>k=b∨k=g) w5 w7:=hH6.step hf7 (fun k ⟨a,ha,e⟩=>.inl (.inl (by cases ha;exact e.symm)));have hzi7:(zs.set i (dV Z p))[i]?=some (dV Z p):=Tz (by omega);have hm7:=hm6.SO hf7 (fun⟨a,ha,e⟩=>by cases ha;have e:b=g:=e;omega);refine Gz 3 ?_;obtain⟨hxn0,xx,hxv,hxl,hxd,hxx⟩:=hpv.2.2;have hxn:p.1.xs.n=xx.length:=by rw[hxn0,hxl]
  have hx8:p.2.xs.length≤8:=hpmay.2.2.2.2.2.2.2.2.2;have hG7:aA nob W w7:=hF5.SJ hH7 (fun k e=>.inr (by rcases e with e|e<;>omega));refine PW 20 [6,11,16] (fun H=>VwM 10 aE H (some ⟨b,0,none⟩) c3 (zs.set i (dV Z p))) [7,12,17,20,23,26] [0,1,2,3,4,5,6,8,9,10,11,13,14,15,16] (.alt 7 [] (.alt 12 [] (.alt 17 [18,19] (.alt 20 [21,22] (.alt 23 [24,25] (.alt 26 [] .fin .stop) .stop) .stop) .stop) .stop) .stop) aJ (by kernel_rfl) ((ho7.vw aB)) ?_;have hH0:aA (fun k=>k=b∨k=g) w5 (w7.drewN 1):=hH7.draws 1;have hG0:aA nob W (w7.drewN 1):=hG7.draws 1;have ho0:bS 10 aE 37 (w7.drewN 1).heap (some ⟨b,0,none⟩) c3 (zs.set i (dV Z p)):=ho7;have hm0:cG enI (w7.drewN 1).heap g m2:=hm7;generalize w7.drewN 1=v0 at hH0 hG0 ho0 hm0 ⊢;refine Sz.calm rfl rfl (Pc rfl) rfl ?_;refine Sz.calm rfl rfl (Pc rfl) rfl ?_;refine Sz.calm rfl rfl (Pc rfl) rfl ?_;refine Sz.calm rfl rfl (Pc rfl) rfl ?_;refine Sz.calm rfl rfl (Pq rfl) rfl ?_;refine Sz.calm rfl rfl (Pt rO.h rfl) rfl ?_;refine Sz.calm rfl rfl (Pe iR rfl (fun H (hH:VwM 10 aE H (some ⟨b,0,none⟩) c3 (zs.set i (dV Z p)))=>hH.rowZ i rfl hzi7 0 _ rfl)) rfl ?_;refine Sz.calm rfl rfl (Pc rfl) rfl ?_;refine Sz.calm rfl rfl (Pq rfl) rfl ?_;refine Sz.calm rfl rfl (Pt rN.h rfl) rfl ?_;refine Sz.calm rfl rfl (Pe aO rfl (fun H (hH:VwM 10 aE H (some ⟨b,0,none⟩) c3 (zs.set i (dV Z p)))=>hH.rowZ i rfl hzi7 6 _ rfl)) rfl ?_;refine Sz.calm rfl rfl (Pc rfl) rfl ?_;refine Sz.calm rfl rfl (Pq rfl) rfl ?_;refine Sz.calm rfl rfl (Pt lW.h rfl) rfl ?_;refine Sz.calm rfl rfl (Pe cJ rfl (fun H (hH:VwM 10 aE H (some ⟨b,0,none⟩) c3 (zs.set i (dV Z p)))=>hH.rowZ i rfl hzi7 8 _ rfl)) rfl ?_;refine Sz.alt ?_ ?_
  ·refine Ss rfl rfl (O6 L0 rfl ((by show Calls _ _ [Value.slice p.1.names.a p.1.names.n p.1.names.c].toArray _ _;rw[hpv.1.1];exact xE _ _ p.2.names v0 (hpv.SN hG0).1.2.1 (by have:=hnm16 p hpm;omega))) rfl ?_);rintro _ v1 ⟨on,cn,rfl,hon1,hfn,hf1⟩;have hH1:aA (fun k=>k=b∨k=g) w5 v1:=hH0.step hf1 (fun _ h=>h.elim);have hG1:=hG0.trans hf1;have ho1:=ho0.SN hf1;have hm1:=hm0.SO hf1 id;refine Sz.on (by exact(ho1.vw aB)) ?_;refine Sz.alt ?_ ?_
   ·refine Ss rfl rfl (O6 Cl rfl ((by show Calls _ _ [Value.slice p.1.data.a p.1.data.n p.1.data.c].toArray _ _;rw[hpv.2.1.1];exact lZ _ _ p.2.data v1 (hpv.SN hG1).2.1.2.1 (by have:=hpmay.2.2.2.2.2.2.1;omega))) rfl ?_);rintro _ v2 ⟨od,cd,rfl,hod2,hfd,hf2b⟩;have hH2:aA (fun k=>k=b∨k=g) w5 v2:=hH1.step hf2b (fun _ h=>h.elim);have hG2:=hG1.trans hf2b;have ho2:=ho1.SN hf2b;have hm2b:=hm1.SO hf2b id;have hon2:=hon1.SN hf2b;refine Sz.on (by exact(ho2.vw aB)) ?_;refine Sz.alt ?_ ?_
    ·refine Ss rfl rfl (O6 LZ rfl ((by show Calls _ _ [Value.slice p.1.xs.a p.1.xs.n p.1.xs.c].toArray _ _;rw[hxn];exact xD _ _ xx v2 (hxv.keep' hG2 (fun _ _ _=>id)) (by omega))) rfl ?_);rintro _ v3 ⟨ox,cx,rfl,hox3,hfx,hf3b⟩;have hH3:aA (fun k=>k=b∨k=g) w5 v3:=hH2.step hf3b (fun _ h=>h.elim);have hG3:=hG2.trans hf3b;have ho3b:=ho2.SN hf3b;have hm3b:=hm2b.SO hf3b id;have hon3:=hon2.SN hf3b;have hod3:=hod2.SN hf3b;have hfx5:∀ a,ox=some a→w5.heap.size≤a.block:=fun a ha=>by have h1:v2.heap.size≤a.block:=hfx a ha;have:=hH2.size;omega
     have hnx:∀ a c:Addr,on=some a→ox=some c→c.block=a.block→False:=fun a c ha hc e=>by have h1:v2.heap.size≤c.block:=hfx c hc;have h2:=hon2.lt a ha;omega
     have hdx:∀ a c:Addr,od=some a→ox=some c→c.block=a.block→False:=fun a c ha hc e=>by have h1:v2.heap.size≤c.block:=hfx c hc;have h2:=hod2.lt a ha;omega
     have hb0:b<v0.heap.size:=ho0.lt _ rfl;have hg0:g<v0.heap.size:=hm0.obj;have hfn:∀ a,on=some a→b<a.block∧g<a.block:=fun a ha=>by have:=hfn a ha;omega
     have hfd:∀ a,od=some a→b<a.block∧g<a.block:=fun a ha=>by have:=hfd a ha;have:=hf1.size;omega
     have hfx:∀ a,ox=some a→b<a.block∧g<a.block:=fun a ha=>by have:=hfx a ha;have:=hf1.size;have:=hf2b.size;omega
     refine Sz.on (by exact(ho3b.vw aB)) ?_;refine Sz.calm rfl rfl (Pq rfl) rfl ?_;refine Sz.calm rfl rfl (Pt rO.h rfl) rfl ?_;refine Sz.alt ?_ ?_
     ·refine Ss rfl rfl (PH aB (i:=i) (j:=0) (x':=((⟨⟨on,p.2.names.length,cn⟩,p.1.data,p.1.xs⟩:NdH),(dV Z p).2)) hzi7 (by decide) rfl iR rfl rfl rfl rfl ho3b ?_);intro v4 ho4v hs4v hf4v;rw[U1] at ho4v;have hz4:=Tz (a:=(((⟨⟨on,p.2.names.length,cn⟩,p.1.data,p.1.xs⟩:NdH),(dV Z p).2):NdH×Nd)) hizs;have hH4:aA (fun k=>k=b∨k=g) w5 v4:=hH3.step hf4v (fun k ⟨a,ha,e⟩=>.inl (.inl (by cases ha;exact e.symm)));have hm4v:=hm3b.SO hf4v (fun⟨a,ha,e⟩=>by cases ha;have e:b=g:=e;omega);have hon4:=hon3.SO hf4v (fun a ha ⟨c,hc,e⟩=>by cases hc;have e:b=a.block:=e;have:=hfn a ha;omega);have hod4:=hod3.SO hf4v (fun a ha ⟨c,hc,e⟩=>by cases hc;have e:b=a.block:=e;have:=hfd a ha;omega);have hox4:=hox3.SO hf4v (fun a ha ⟨c,hc,e⟩=>by cases hc;have e:b=a.block:=e;have:=hfx a ha;omega);refine Sz.off rfl ?_;refine Sz.calm rfl rfl (Pq rfl) rfl ?_;refine Sz.calm rfl rfl (Pt rN.h rfl) rfl ?_;refine Sz.alt ?_ ?_
      ·refine Ss rfl rfl (PH aB (i:=i) (j:=6) (x':=((⟨⟨on,p.2.names.length,cn⟩,⟨od,p.2.data.length,cd⟩,p.1.xs⟩:NdH),(dV Z p).2)) hz4 (by decide) rfl aO rfl rfl rfl rfl ho4v ?_);intro v5 ho5v hs5v hf5v;rw[U1] at ho5v;have hz5:=Tz (a:=(((⟨⟨on,p.2.names.length,cn⟩,⟨od,p.2.data.length,cd⟩,p.1.xs⟩:NdH),(dV Z p).2):NdH×Nd)) hizs;have hH5:aA (fun k=>k=b∨k=g) w5 v5:=hH4.step hf5v (fun k ⟨a,ha,e⟩=>.inl (.inl (by cases ha;exact e.symm)));have hm5v:=hm4v.SO hf5v (fun⟨a,ha,e⟩=>by cases ha;have e:b=g:=e;omega);have hon5:=hon4.SO hf5v (fun a ha ⟨c,hc,e⟩=>by cases hc;have e:b=a.block:=e;have:=hfn a ha;omega);have hod5:=hod4.SO hf5v (fun a ha ⟨c,hc,e⟩=>by cases hc;have e:b=a.block:=e;have:=hfd a ha;omega);have hox5:=hox4.SO hf5v (fun a ha ⟨c,hc,e⟩=>by cases hc;have e:b=a.block:=e;have:=hfx a ha;omega);refine Sz.off rfl ?_;refine Sz.calm rfl rfl (Pq rfl) rfl ?_;refine Sz.calm rfl rfl (Pt lW.h rfl) rfl ?_;refine Sz.alt ?_ ?_
       ·refine Ss rfl rfl (PH aB (i:=i) (j:=8) (x':=((⟨⟨on,p.2.names.length,cn⟩,⟨od,p.2.data.length,cd⟩,⟨ox,xx.length,cx⟩⟩:NdH),(dV Z p).2)) hz5 (by decide) rfl cJ rfl rfl rfl rfl ho5v ?_);intro v6 ho6v hs6v hf6v;rw[U1] at ho6v;have hH6v:aA (fun k=>k=b∨k=g) w5 v6:=hH5.step hf6v (fun k ⟨a,ha,e⟩=>.inl (.inl (by cases ha;exact e.symm)));have hm6v:=hm5v.SO hf6v (fun⟨a,ha,e⟩=>by cases ha;have e:b=g:=e;omega);have hon6:=hon5.SO hf6v (fun a ha ⟨c,hc,e⟩=>by cases hc;have e:b=a.block:=e;have:=hfn a ha;omega);have hod6:=hod5.SO hf6v (fun a ha ⟨c,hc,e⟩=>by cases hc;have e:b=a.block:=e;have:=hfd a ha;omega);have hox6:=hox5.SO hf6v (fun a ha ⟨c,hc,e⟩=>by cases hc;have e:b=a.block:=e;have:=hfx a ha;omega);obtain⟨pz,hpz⟩:∃ pz:NdH×Nd,pz=((⟨⟨on,p.2.names.length,cn⟩,⟨od,p.2.data.length,cd⟩,⟨ox,xx.length,cx⟩⟩:NdH),(dV Z p).2):=⟨_,rfl⟩
        rw[←hpz] at ho6v;have hzi6:(zs.set i pz)[i]?=some pz:=Tz (by omega);have hG6:aA nob W v6:=hF5.SJ hH6v (fun k e=>.inr (by rcases e with e|e<;>omega));refine Sz.off rfl ?_;refine St ?_;refine Gz 6 ?_;refine cL (O7 (u:=.slice ox xx.length cx) (O8 cJ rfl ((ho6v.vw aB).rowZ i rfl hzi6 8 _ rfl)) (by rw[hpz];rfl)) ?_;refine Gz 5 ?_;have hb6:b<v6.heap.size:=ho6v.lt _ rfl;have hg6:g<v6.heap.size:=hm6v.obj;refine Pb (β:=Nat×List (By×Hd)) (fun⟨k,us⟩=>[(5,.slice (some ⟨b,0,none⟩) ps.length c3),(6,.map (some g)),(8,.pointer (some (adr (some ⟨b,0,none⟩) (i*10)))),(24,iV ps.length),(25,iV i),(82,.slice ox xx.length cx),(83,iV xx.length),(84,iV k)]) (fun⟨k,us⟩ w=>k≤xx.length∧bS 2 dZ 123 w.heap ox cx us∧XrJ v6.heap.size k xx p.2.xs us w∧aA (blk ox) v6 w) (fun⟨k,us⟩=>xx.length-k) ⟨0,xx⟩ ⟨rfl,rfl,rfl,rfl,rfl,rfl,rfl,rfl,trivial⟩ ⟨S3 _,hox6,⟨rfl,fun _ _=>rfl,fun j _ _ hj=>by omega⟩,RY _ _⟩ ?_;rintro⟨k,us⟩ w8 ⟨hk,hou,hXI,hI8⟩;refine fK 2 ?_ ?_<;>intro h85
        ·have hkx:k<xx.length:=by omega
         obtain⟨x,hx⟩:∃ x,xx[k]?=some x:=⟨_,SS hkx⟩
         obtain⟨y,hy⟩:∃ y,p.2.xs[k]?=some y:=⟨_,SS (by omega)⟩
         have hux:us[k]?=some x:=by rw[hXI.2.1 k (SY _)];exact hx
         have hvu:=hou.vw bQ;have hul:=hXI.1;have hxy:=hxx k x y hx hy;have hyl4:y.2.length≤200:=Ds hpmay hy;refine Gz 11 ?_;refine cL (Pa kA rfl rfl (by rw[←hul];exact hvu.non) (by omega)) ?_;refine cL (Pi (cs:=dZ x) dT rfl (fun j v hj=>hvu.rowZ k rfl hux j v hj)) ?_;refine O9 rX rfl ?_;intro w9 hg9 hs9 hf9;obtain⟨qx,hqx⟩:∃ qx,qx=w8.heap.size:=⟨_,rfl⟩
         rw[←hqx] at hg9 ⊢;refine Gz 1 ?_;refine Pf (vs:=dZ x) dT rfl rfl (bQ x).2 hg9 rfl ?_;intro wA hgA hsA hfA;have hf8A:aA nob w8 wA:=hf9.SJ hfA (fun k e=>.inr (by have e:k=qx:=e;omega));have hI_A:aA (blk ox) v6 wA:=hI8.step hf8A (fun _ h=>h.elim);have hoz8:=ho6v.SO hI8 (fun a ha ⟨c,hc,e⟩=>by cases ha;have:=hfx c hc;have e:c.block=b:=e;omega);have hozA:=hoz8.SN hf8A;have houA:=hou.SN hf8A;have hqv:v6.heap.size≤qx:=by rw[hqx];exact hI8.size
         refine Gz 1 ?_;refine aW [(5,_),(6,_),(8,_),(11,_),(12,_),(24,_),(25,_),(82,_),(83,_),(84,_),(85,_)] ?_;refine Gz 1 ?_;refine PW 10 [3,6] (fun H=>VwM 10 aE H (some ⟨b,0,none⟩) c3 (zs.set i pz)∧H[qx]?=some (.cells (dZ x).toArray 123 (0,0))) [7,10] [0,1,2,3,4,5,6] (.alt 7 [8,9] (.alt 10 [] .fin .stop) .stop) aJ (by kernel_rfl) (⟨hozA.vw aB,hgA⟩) ?_;refine Sz.calm rfl rfl (Pc rfl) rfl ?_;refine Sz.calm rfl rfl (Pq rfl) rfl ?_;refine Sz.calm rfl rfl (Pt lW.h rfl) rfl ?_;refine Sz.calm rfl rfl (O7 (u:=.slice ox xx.length cx) (Pe cJ rfl (fun H (hH:VwM 10 aE H (some ⟨b,0,none⟩) c3 (zs.set i pz)∧H[qx]?=some (.cells (dZ x).toArray 123 (0,0)))=>hH.1.rowZ i rfl hzi6 8 _ rfl)) (by rw[hpz];rfl)) rfl ?_;refine Sz.calm rfl rfl (Pc rfl) rfl ?_;refine Sz.calm rfl rfl (Pt oI.h rfl) rfl ?_;refine Sz.calm rfl rfl (O7 (u:=.slice x.2.a y.2.length x.2.c) (Pe aO rfl (fun H (hH:VwM 10 aE H (some ⟨b,0,none⟩) c3 (zs.set i pz)∧H[qx]?=some (.cells (dZ x).toArray 123 (0,0)))=>aD hH.2 rfl)) (by rw[←hxy.2.1];rfl)) rfl ?_;refine Sz.alt ?_ ?_
         ·refine Ss rfl rfl (O6 Cl rfl (lZ _ _ y.2 _ ((hxy.2.SO (hG6.SJ hI_A (fun k ⟨a,ha,e⟩=>.inr (by have:=hfx a ha;omega))) (fun _ _=>id)).2.1) (by omega)) rfl ?_);rintro _ wB ⟨oB,cB,rfl,hoB,hfB,hfBf⟩;have hfBf:aA nob wA wB:=hfBf.SL;have hozB:=hozA.SN hfBf;have houB:=houA.SN hfBf;refine Sz.on (by exact⟨hozB.vw aB,hfBf.obj hgA id⟩) ?_;refine Sz.calm rfl rfl (Pa kA rfl rfl (by rw[←hul];exact hvu.non) (by omega)) rfl ?_;refine Sz.calm rfl rfl (Pt oI.h rfl) rfl ?_;refine Sz.alt ?_ ?_
          ·refine Ss rfl rfl (PH bQ (i:=k) (j:=1) (x':=(x.1,(⟨oB,y.2.length,cB⟩:Hd))) hux (by decide) rfl aO rfl rfl rfl rfl houB ?_);intro wC houC hsC hfC;have hI_C:aA (blk ox) v6 wC:=(hI_A.step hfBf (fun _ h=>h.elim)).trans hfC;have hoBC:=hoB.SO hfC (fun a ha ⟨c,hc,e⟩=>by have h1:=hfB a ha;have h2:=hou.lt c hc;have h3:=hf8A.size;have e:c.block=a.block:=e;have h1:wA.heap.size≤a.block:=h1;omega);refine Sz.off rfl ?_;refine St ?_;refine Gz 6 ?_;refine aG ⟨k+1,us.set k (x.1,(⟨oB,y.2.length,cB⟩:Hd))⟩ ⟨by omega,houC,⟨by rw[TL];exact hul,fun j hj=>by rw[TT (by omega)];exact hXI.2.1 j (by omega),fun j u z hj hu hz=>?_⟩,hI_C⟩ (by show xx.length-(k+1)<xx.length-k;omega);by_cases e:j=k
           · subst e
             rw[Tz (by omega)] at hu;cases hu;rw[hy] at hz;cases hz;exact⟨hxy.1,rfl,hoBC.vw,fun _ q ⟨a,ha,e⟩=>⟨by have h1:wA.heap.size≤a.block:=hfB a ha;have:=hI_A.size;omega,by have:=hoBC.lt a ha;omega⟩⟩
           · rw[TT (fun h=>e h.symm)] at hu
             obtain⟨h1,h2⟩:=hXI.2.2 j u z (by omega) hu hz;have hfAC:aA (blk ox) w8 wC:=((hf8A.mono (fun _ h=>h.elim)).trans (hfBf.mono (fun _ h=>h.elim))).trans hfC;exact⟨h1,(h2.SO hfAC (fun q hq ⟨a,ha,e⟩=>by have:=hox6.lt a ha;have:=hq.1;omega)).mono (fun q hq=>⟨hq.1,TQ hq.2 hfAC.size⟩)⟩
          exact Sz.stop
         exact Sz.stop
        have hke:k=xx.length:=by omega
        subst hke;refine Gz 14 ?_;have hH8:aA (fun k=>k=b∨k=g) w5 w8:=hH6v.step hI8 (fun k ⟨a,ha,e⟩=>.inr (by have:=hfx5 a ha;omega));have hI8s:=hI8.size;have hfoot:=hI8;have hon8:=hon6.SO hI8 (fun a ha ⟨c,hc,e⟩=>hnx a c ha hc e);have hod8:=hod6.SO hI8 (fun a ha ⟨c,hc,e⟩=>hdx a c ha hc e);have hoz8:=ho6v.SO hI8 (fun a ha ⟨c,hc,e⟩=>by cases ha;have:=hfx c hc;have e:c.block=b:=e;omega);have hm8:=hm6v.SO hI8 (fun⟨a,ha,e⟩=>by have:=hfx a ha;omega);have hpzv:NdV (fun k=>k≠b∧k≠g∧k<w8.heap.size) w8.heap pz:=by
         rw[hpz];refine⟨⟨rfl,hon8.vw,fun _ k ⟨a,ha,e⟩=>?_⟩,⟨rfl,hod8.vw,fun _ k ⟨a,ha,e⟩=>?_⟩,⟨hxl,us,hou.vw bQ,hXI.1.trans hxl,fun _ k ⟨a,ha,e⟩=>?_,fun j u x hu hx=>?_⟩⟩
         ·have h1:=hfn a ha;have h2:=hon8.lt a ha;exact⟨by omega,by omega,by omega⟩
         ·have h1:=hfd a ha;have h2:=hod8.lt a ha;exact⟨by omega,by omega,by omega⟩
         ·have h1:=hfx a ha;have h2:=hou.lt a ha;exact⟨by omega,by omega,by omega⟩
         · obtain⟨h1,h2⟩:=hXI.2.2 j u x (by have:=(SV.1 hu).1;have:=hXI.1;omega) hu hx
           exact⟨h1,h2.mono (fun k hk=>⟨by have:=hk.1;omega,by have:=hk.1;omega,hk.2⟩)⟩
        exact aG ⟨i+1,zs.set i pz,m2⟩ ⟨by omega,hoz8,(hC.SN hH8).put hp (by rw[hpz]) hpzv,hm8,hMI2,hF5.SJ hH8 (fun k e=>.inr (by rcases e with e|e<;>omega))⟩ (by show ps.length-(i+1)<ps.length-i;omega)
       exact Sz.stop
      exact Sz.stop
     exact Sz.stop
    exact Sz.stop
   exact Sz.stop
  exact Sz.stop
 have hie:i=ps.length:=by omega
 subst hie;refine Gz 15 ?_;refine aW [(2,_),(3,_),(5,_),(6,_),(24,_),(25,_),(26,_)] ?_;refine Gz 3 ?_;have hle:zs.length=ps.length:=by rw[hC.1,hyl]
 refine⟨_,rfl,some ⟨b,0,none⟩,c3,zs,by rw[hle,hz],fun h=>absurd hz h,fun _=>?_,⟨ho5.vw aB,fun q hq=>?_⟩,fun a ha=>by cases ha;exact hbW,hF5⟩
 ·rw[←hyl,hZ] at hC;rw[hC.eq,hys];rfl
 · obtain⟨j,hj⟩:=Te hq
   have hjl:=(SV.1 hj).1;exact(hC.2.2 j q _ (by omega) hj (SS (by omega))).2.mono (fun _ _=>trivial)
end
section
variable {P:Program}{N:Nt}{ops:Array Oper}{Q:Exit→Act→World→Prop}{rest:List Oper}{l:SF}{w:World}{d:Nat}{ty:TypeId}{pos:String}{aft:Array Edge}{x y:Operand}{t:TypeId}
theorem Rx{α:Type}{enc:α→Value}(henc:∀ x,(enc x).oneCell'=true){e:TypeId}{bytes g:Nat}(ht:aM P t e 1 bytes){b:Addr}{cap bcap:Nat}{xs ys:List α}
 (hx:evL l x=some (.slice (some ⟨g,0,none⟩) xs.length cap))(hy:evL l y=some (.slice (some b) ys.length bcap))(ho:Own enc e w.heap (some ⟨g,0,none⟩) cap xs)(hv:Vw enc w.heap (some b) bcap ys)(hl:ys.length≤xs.length)(hd:Nat.blt d N.n=true)
 (h:∀ w',Own enc e w'.heap (some ⟨g,0,none⟩) cap (ys++xs.drop ys.length)→w'.heap.size=w.heap.size→aA (· = g) w w'→Sl P N ops Q rest ((d,iV (ys.length:Nat))::l) w') :
 Sl P N ops Q (⟨some d,.call ⟨.builtin .copy,#[x,y],#[t,t]⟩,ty,pos,aft,none⟩::rest) l w:=by
 obtain⟨i,z,hi,h1,hz,h2,h3⟩:=ht.parts;rcases ho with⟨h,_⟩|⟨g',cur,he,hg,g1,g2,g3,g4⟩
 ·cases h
 cases he;have hnews:∀ j v,(ys.map enc)[j]?=some v→w.cell? (b.add j)=some v:=by
  intro j v hv2;rw[Ts] at hv2;obtain⟨u,hu,rfl⟩:=Tc.1 hv2;exact hv.get j u hu
 have hr:=run_copy_row (P:=P) w t t ty e g 0 xs.length cap b ys.length bcap cur e (ys.map enc) ht.und (by rw[hi];simp[h2]) hg (by rw[Tb];exact(Nat.min_eq_left hl).symm) hnews (by rw[Tb];omega)
  (fun v hv2=>by obtain⟨u,_,rfl⟩:=Tj.1 hv2;exact henc u)
 refine PC (w':=_) (v:=iV (ys.length:Nat)) (fun a ha=>?_) hd (h (w.setRow g (cur.toList.take 0++ys.map enc++cur.toList.drop (0+(ys.map enc).length)).toArray) ?_ ?_ ?_)
 ·simp[execOp,ha.ev hx,ha.ev hy,resolve,invoke,builtin,hr,goInt]
 · refine .inr ⟨g,_,rfl,setRow_heap w g cur _ e _ hg,?_,g2,?_,?_⟩
   ·rw[SR,Ta];omega
   ·simp only[List.size_toArray,SR,S2,Ta,Tb,Ue];omega
   · have e1:(ys++xs.drop ys.length).length=xs.length:=by rw[SR,Ta];omega
     rw[e1,Um,List.map_drop,←g4];simp only[U8,TH,Tb,TI];rw[Vn,Tb,S9 (by rw[Tb];exact hl),List.drop_take]
 ·simp[World.setRow]
 ·exact⟨rfl,rfl,rfl,by simp[World.setRow],fun k hk hn=>setRow_other w g k _ (fun e=>hn e)⟩
end
section
open Go Go.RowKit Go.Maps
theorem ByV.lts{D:Nat→Prop}{H:Array Obj}{h:Hd}{l:By}(v:ByV D H h l):ByV (fun k=>k<H.size) H h l:=⟨v.1,v.2.1,fun hne k ⟨a,ha,e⟩=>by have:=v.2.1.lt hne a ha;show k<H.size;omega⟩
theorem XsV.lts{D:Nat→Prop}{H:Array Obj}{h:Hd}{X:List Xa}(v:XsV D H h X):XsV (fun k=>k<H.size) H h X:=by
 obtain⟨h1,ys,h2,h3,h4,h5⟩:=v;exact⟨h1,ys,h2,h3,fun hne k ⟨a,ha,e⟩=>by have:=h2.lt hne (fun x e=>by cases e) a ha;show k<H.size;omega,fun i x y hx hy=>⟨(h5 i x y hx hy).1,(h5 i x y hx hy).2.lts⟩⟩
theorem aR.lts{D:Nat→Prop}{H:Array Obj}{ao:Option Addr}{c:Nat}{ps:List (NdH×Nd)}(v:aR D H ao c ps):aR (fun k=>k<H.size) H ao c ps:=⟨v.1,fun p hp=>⟨(v.2 p hp).1.real,(v.2 p hp).2.1.lts,(v.2 p hp).2.2.lts⟩⟩
theorem jK{qs rs:List (NdH×Nd)}(h:nds qs=nds rs){i:Nat}{q:NdH×Nd}(hq:qs[i]?=some q):∃ r,rs[i]?=some r∧r.2=q.2:=by
 have h1:=dO hq;rw[h] at h1;unfold nds at h1;rw[Ts] at h1;obtain⟨r,hr,e⟩:=Tc.1 h1;exact⟨r,hr,e⟩
theorem gT{qs rs:List (NdH×Nd)}(h:nds qs=nds rs){q:NdH×Nd}(hq:q∈qs):∃ r∈rs,r.2=q.2:=by
 obtain⟨i,hi⟩:=Te hq;obtain⟨r,hr,e⟩:=jK h hi;exact⟨r,S1 hr,e⟩
theorem GdT.nds{rs qs:List (NdH×Nd)}(G:GdT rs)(h:nds qs=nds rs):GdT qs:=by
 have hl:=nZ h;refine⟨by rw[hl];exact G.n,fun q hq=>?_,fun q hq=>?_,fun q hq=>?_,fun q hq=>?_,fun i j p q hij hp hq=>?_,fun i j p q hij hp hq e=>?_,?_,fun q hq hne=>?_⟩
 · obtain⟨r,hr,e⟩:=gT h hq
   rw[←e,hl];exact G.ino r hr
 · obtain⟨r,hr,e⟩:=gT h hq
   rw[←e];exact G.may r hr
 · obtain⟨r,hr,e⟩:=gT h hq
   rw[←e];exact G.nmv r hr
 · obtain⟨r,hr,e⟩:=gT h hq
   rw[←e];exact G.dep r hr
 · obtain⟨r,hr,e⟩:=jK h hp
   obtain⟨t,ht,e2⟩:=jK h hq;rw[←e,←e2];exact G.lt i j r t hij hr ht
 · obtain⟨r,hr,e1⟩:=jK h hp
   obtain⟨t,ht,e2⟩:=jK h hq;rw[←e1,←e2] at e ⊢;exact G.lnk i j r t hij hr ht e
 · obtain⟨q,hq,h1,h2⟩:=G.root
   obtain⟨r,hr,e⟩:=jK h.symm hq;exact⟨r,hr,by rw[e];exact h1,by rw[e];exact h2⟩
 · obtain⟨r,hr,e⟩:=gT h hq
   rw[←e] at hne;obtain⟨p,hp,h1,h2⟩:=G.up r hr hne;obtain⟨t,ht,e2⟩:=gT h.symm hp;exact⟨t,ht,by rw[e2,h1,e],by rw[e2];exact h2⟩
theorem Dj(ps:List (NdH×Nd)):gN ps=(nds ps).flatMap (fun n=>[n.ud,n.gd]):=by simp[gN,nds,List.flatMap_map]
theorem oX.nds{qs rs:List (NdH×Nd)}{ids:List Int}(h:oX qs ids)(e:nds qs=nds rs):oX rs ids:=⟨h.1,fun z=>by rw[h.2 z,Dj,Dj,e]⟩
theorem GdT.okN{qs:List (NdH×Nd)}(G:GdT qs):∀ q∈qs,okN q.2:=by
 intro q hq z hz;obtain⟨⟨k1,k2⟩,_,⟨m1,m2⟩,⟨u1,u2⟩,⟨g1,g2⟩,_⟩:=G.may q hq;have:=G.ino q hq;have hn:=G.n.2;simp only[Tm,TE,or_false] at hz;rcases hz with rfl|rfl|rfl|rfl|rfl<;>omega
theorem Lc{qs:List (NdH×Nd)}{ids:List Int}(G:GdT qs)(I:oX qs ids)(F:FI (nds qs) (qs.length+1) (aL qs)):GdP qs ids (aL qs).files where
 B:=G.gdB F.l (Hr F)
 xs:=fun q hq=>(G.may q hq).2.2.2.2.2.2.2.2
 tg:=fun q hq hk=>by
  have h:=(G.may q hq).2.2.2.2.2.2.2.1;unfold okT at h;rw[SP hk] at h;exact h
 kd:=fun q hq=>by have:=(G.may q hq).1;omega
 fo:=fun q hq hk=>F.a q.2 (Tj.2 ⟨q,hq,rfl⟩) hk
 fz:=fun q hq hk h=>by
  by_cases hl:q.2.ino.toNat<(aL qs).files.length
  · have he:=SS hl
    have hd:(aL qs).files.getD q.2.ino.toNat bA=(aL qs).files[q.2.ino.toNat]:=by rw[S6,he];rfl
    rcases F.f _ _ he with e|⟨x,hx,hx2,hxi,_⟩
    ·rw[hd,e] at h;cases h
    · obtain⟨y,hy,rfl⟩:=Tj.1 hx
      have h1:=G.ino q hq;have h2:=G.ino y hy;exact hk (by rw[←(G.same hq hy (by omega)).1];exact hx2)
  ·rw[S6,Ty (by omega)] at h;cases h
 ft:=fun f hf=>by
  obtain⟨i,hi⟩:=Te hf;rcases F.f i f hi with e|⟨x,_,_,_,st,fr,off,e,_⟩
  ·rw[e];rfl
  ·rw[e]
 ir:=I.1
 io:=fun q hq=>⟨(I.2 _).2 (rF hq).1,(I.2 _).2 (rF hq).2⟩
 il:=by have:=lT I;have:=G.n.2;omega
theorem Dp(tp:Nat)(lo:Option Addr)(lc:Nat)(l:List Int)(wide:Int)(W:World)(ht:TbV W.heap tp)(hv:Vw i64 W.heap lo lc l)(hl:l.length≤1000)(hb:(aH l wide).1.length≤100000) :
 Calls Tryz.prog 24 (([.slice lo l.length lc,iV wide]:List Value)++([pT tp]:List Value)).toArray W (Ret (lG W (dnW (aH l wide).1))):=by
 simp only[List.cons_append,TH];have htl:=(SZ.1 ht).1;refine cS 21 [(0,_),(1,_),(2,_)] Tryz.func24 ?_;refine cA 7 Jw (nU tp W ht) ?_;rintro _ w1 ⟨rfl,hM1,hf1⟩;have hz1:=hf1.size;refine Gz 7 ?_;refine O6 ON rfl (BV lo lc l wide w1 (hv.SN hf1) (by omega)) rfl ?_;rintro _ w2 ⟨o2,c2,rfl,ho2,hfr2,hf2⟩;have hM2:=hM1.SO hf2 (fun _ _=>id) id;have hz2:=hf2.size;refine Gz 11 ?_;refine O6 Jv rfl (nY (fun k=>W.heap.size≤k∧k<w1.heap.size) W.heap.size tp [] o2 c2 (aH l wide).1 w2 hM2 ho2.vw (by rw[Tr];omega)) rfl ?_;rintro _ w3 ⟨rfl,hM3,hf3⟩;rw[TH] at hM3;have hz3:=hf3.size;refine Gz 5 ?_;refine O6 Ju rfl (lN (Nx (fun k=>W.heap.size≤k∧k<w1.heap.size) w2 w3) W.heap.size tp (aH l wide).1 w3 hM3 (by omega)) rfl ?_;rintro _ w4 ⟨o4,c4,rfl,ho4,hfr4,hf4⟩;refine Gz 5 ?_;have hF3:aA nob W w3:=(hf1.trans hf2).SJ hf3 (fun k h=>.inr h.1);exact⟨_,rfl,o4,c4,rfl,ho4,hfr4.mono (by omega),hF3.trans hf4⟩
def owB(B1 B2 B3 B4 B5 B6:Nat):Nat→Nat:=fun k=>if k<B1 then 4 else if k<B2 then 1 else if k<B3 then 2 else if k<B4 then 3 else if k<B5 then 4 else if k=B5 then 5 else if k=B5+1 then 7 else if k=B5+2 then 8 else if k=B5+3 then 6 else if k<B6 then 9 else 0
section
variable {B1 B2 B3 B4 B5 B6:Nat}(h:B1≤B2∧B2≤B3∧B3≤B4∧B4≤B5∧B5+4≤B6){k:Nat}
theorem Og(hk:k<B1):owB B1 B2 B3 B4 B5 B6 k=4:=SQ hk
theorem Oj(hk:B1≤k∧k<B2):owB B1 B2 B3 B4 B5 B6 k=1:=by unfold owB;rw[SP (by omega),SQ (by omega)]
include h
theorem Oi(hk:B2≤k∧k<B3):owB B1 B2 B3 B4 B5 B6 k=2:=by unfold owB;rw[SP (by omega),SP (by omega),SQ (by omega)]
theorem Oh(hk:B3≤k∧k<B4):owB B1 B2 B3 B4 B5 B6 k=3:=by unfold owB;rw[SP (by omega),SP (by omega),SP (by omega),SQ (by omega)]
theorem LS(hk:B4≤k∧k<B5):owB B1 B2 B3 B4 B5 B6 k=4:=by unfold owB;rw[SP (by omega),SP (by omega),SP (by omega),SP (by omega),SQ (by omega)]
theorem Of:owB B1 B2 B3 B4 B5 B6 B5=5:=by unfold owB;rw[SP (by omega),SP (by omega),SP (by omega),SP (by omega),SP (by omega),SQ rfl]
theorem Od:owB B1 B2 B3 B4 B5 B6 (B5+1)=7:=by unfold owB;rw[SP (by omega),SP (by omega),SP (by omega),SP (by omega),SP (by omega),SP (by omega),SQ rfl]
theorem Oc:owB B1 B2 B3 B4 B5 B6 (B5+2)=8:=by unfold owB;rw[SP (by omega),SP (by omega),SP (by omega),SP (by omega),SP (by omega),SP (by omega),SP (by omega),SQ rfl]
theorem Oe:owB B1 B2 B3 B4 B5 B6 (B5+3)=6:=by unfold owB;rw[SP (by omega),SP (by omega),SP (by omega),SP (by omega),SP (by omega),SP (by omega),SP (by omega),SP (by omega),SQ rfl]
theorem Ob(hk:B5+4≤k∧k<B6):owB B1 B2 B3 B4 B5 B6 k=9:=by unfold owB;rw[SP (by omega),SP (by omega),SP (by omega),SP (by omega),SP (by omega),SP (by omega),SP (by omega),SP (by omega),SP (by omega),SQ (by omega)]
theorem Ok(hk:B6≤k):owB B1 B2 B3 B4 B5 B6 k=0:=by unfold owB;rw[SP (by omega),SP (by omega),SP (by omega),SP (by omega),SP (by omega),SP (by omega),SP (by omega),SP (by omega),SP (by omega),SP (by omega)]
end
theorem PiX.relab{a:PiA}{ow ow':Nat→Nat}{H:Array Obj}{g tp:Nat}{qs:List (NdH×Nd)}{ids:List Int}{files:List Ino}{s:BSt}(h:PiX 0 a ow H g tp qs ids files s)(kz:∀ c,c≠0→c≤8→∀ k,ow k=c→ow' k=c):PiX 0 a ow' H g tp qs ids files s:=by
 obtain⟨⟨b1,b2⟩,⟨⟨n0,n1⟩,n2⟩,⟨i1,i2⟩,⟨t1,t2⟩,w1,w2,w3,⟨r1,r2⟩,⟨f1,f2⟩,z1,z2⟩:=h;have k4:=kz 4 (by decide) (by decide);have tn:∀ c,c≠4→¬ ow' tp=c:=fun c hc=>by rw[k4 tp t2];exact fun h=>hc h.symm
 exact⟨⟨b1,kz 6 (by decide) (by decide) g b2⟩,⟨⟨n0,fun p hp=>(n1 p hp).mono k4⟩,fun hne k hk=>k4 k (n2 hne k hk)⟩,⟨i1,fun hne k hk=>k4 k (i2 hne k hk)⟩,⟨t1,k4 tp t2⟩,
  fun hc=>(w1 hc).mono (kz 1 (by decide) (by decide)) (tn 1 (by decide)),fun hc=>(w2 hc).mono (kz 2 (by decide) (by decide)) (tn 2 (by decide)),fun hc=>(w3 hc).mono (kz 3 (by decide) (by decide)) (tn 3 (by decide)),
  ⟨kz 5 (by decide) (by decide) _ r1,r2⟩,⟨kz 7 (by decide) (by decide) _ f1,f2⟩,kz 8 (by decide) (by decide) _ z1,z2⟩
theorem vD.zero(n:Nat):vD [] (Tf n 0):=fun a _=>by
 have e:(Tf n (0:Int)).getD a.1.toNat 0=0:=by rw[S6,UL];split<;>rfl
 rw[e];rfl
theorem CJ.zero(n:Nat):CJ [] (Tf n bA):=fun a _=>by
 have e:(Tf n bA).getD a.1.toNat bA=bA:=by rw[S6,UL];split<;>rfl
 rw[e];rfl
theorem CF.zero:CF [] []:=fun X _ _=>rfl
theorem Eh(n:Nat):(qS (jV n)).length=0:=by
 unfold qS jV;rw[List.filter_replicate];rfl
def oB:List Nat:=[2,3,4,5,6,0]
def ffB(F:Nat→Int)(Ps:List By):Nat→(Nat→Int)
|0=>F
|i+1=>upd (ffB F Ps i) (oB.getD i 0) (64+((Ps.take (i+1)).flatten.length:Nat))
theorem J8{i:Nat}(h:i<6):oB.getD i 0<10:=by
 match i,h with
|0,_|1,_|2,_|3,_|4,_|5,_=>decide
theorem Jy{Ps:List By}{i:Nat}{x:By}(h:Ps[i]?=some x):(Ps.take (i+1)).flatten=(Ps.take i).flatten++x:=by rw[tkL h];simp
def dB(A:uR)(ids:List Int):List By:=[A.d.B,dnW A.s.ino,dnW A.s.lst,dnW (aH A.pl 4).1,dnW (aH ids 2).1,dnW A.s.fur]
theorem mR(A:uR)(ids:List Int):(dB A ids).flatten=dD A ids:=by
 unfold dB dD fC eU eH dX eI;simp only[List.flatten_cons,List.flatten_nil,List.append_nil,To]
theorem JD(A:uR)(qs:List (NdH×Nd))(ids:List Int)(F:Nat→Int)(hF:F=fun j=>[0,(A.s.many:Int),0,0,0,0,0,(ids.length:Int),(A.pl.length:Int),A.s.refs.getD (ndB qs 0).ino.toNat 0-1].getD j 0):cH (ffB F (dB A ids) 6)=cH (fB qs ids A):=by
 have e1:((dB A ids).take 1).flatten=eI A:=by simp[dB,eI]
 have e2:((dB A ids).take 2).flatten=dX A:=by simp[dB,eI,dX]
 have e3:((dB A ids).take 3).flatten=eH A:=by simp[dB,eI,dX,eH]
 have e4:((dB A ids).take 4).flatten=eU A:=by simp[dB,eI,dX,eH,eU]
 have e5:((dB A ids).take 5).flatten=fC A ids:=by simp[dB,eI,dX,eH,eU,fC]
 have e6:((dB A ids).take 6).flatten=dD A ids:=by rw[←mR];rfl
 have e:ffB F (dB A ids) 6=upd (upd (upd (upd (upd (upd F 2 (64+((eI A).length:Nat))) 3 (64+((dX A).length:Nat))) 4 (64+((eH A).length:Nat))) 5 (64+((eU A).length:Nat))) 6 (64+((fC A ids).length:Nat))) 0 (64+((dD A ids).length:Nat)):=by
  rw[←e1,←e2,←e3,←e4,←e5,←e6];rfl
 rw[e,hF];rfl
end
section
open Go Go.RowKit Go.Maps
theorem vZ(lo0:Option Addr)(lc0:Nat)(ps:List (NdH×Nd))(W:World)(hv:aR (fun k=>k<W.heap.size) W.heap lo0 lc0 ps)(hsm:∀ p∈ps,smN p.2)(hok:∀ p∈ps,okN p.2)(hl:ps.length≤40) :
 CA 10 [.slice lo0 ps.length lc0] W (BuP W ps):=by
 refine cS 127 [(0,_)] Tryz.func10 ?_;refine cA 9 OR (HS lo0 lc0 ps W hv hsm hok) ?_;rintro _ w1 ⟨lo,lc,qs,rfl,_,hq1,hvq,hfrq,hf1⟩;refine fK 11 ?_ ?_<;>intro h23
 ·refine Gz 13 ?_;exact⟨_,rfl,.inl ⟨h23,rfl,hf1⟩⟩
 have hz:chk (nds ps)=0:=TJ.1 h23;have hqs:=hq1 hz;have G:=(Cj hz hl).nds hqs;have hq40:=G.n.2;have hq0:=G.n.1;have hvq:=hvq.lts;refine cA 7 Lj (pR w1) ?_;rintro _ w2 ⟨rfl,hf2⟩;refine O9 Fj rfl ?_;intro w3 hg3 hs3 hf3;refine Pf (vs:=tab) pU rfl rfl qZ hg3 (by rw[nI,Tw]) ?_;intro w4 hg4 hs4 hf4;obtain⟨tp,hp⟩:∃ p,p=w2.heap.size:=⟨_,rfl⟩
 have hF4:aA nob w1 w4:=(hf2.trans hf3).SJ hf4 (fun k hk=>.inr (by have h:k=w2.heap.size:=hk;have:=hf2.size;omega));rw[←hp] at hg4 ⊢;have ht4:TbV w4.heap tp:=hg4;have htl:=(SZ.1 hg4).1;have hz4:=hF4.size;have hvq4:=hvq.SN hF4;refine cA 4 Jw (nU tp w4 ht4) ?_;rintro _ w5 ⟨rfl,hW1,hf5⟩;have ht5:=hf5.obj ht4 id;have hz5:=hf5.size;refine cA 0 Jw (nU tp w5 ht5) ?_;rintro _ w6 ⟨rfl,hW2,hf6⟩;have ht6:=hf6.obj ht5 id;have hz6:=hf6.size;refine cA 0 Jw (nU tp w6 ht6) ?_;rintro _ w7 ⟨rfl,hW3,hf7⟩;have ht7:=hf7.obj ht6 id;have hz7:=hf7.size;have hf47:=(hf5.trans hf6).trans hf7;have hvq7:=hvq4.SN hf47;refine cL (P6 (cs:=#[pT w4.heap.size,pT w5.heap.size,pT w6.heap.size]) LQ N4 rfl (by kernel_rfl)) ?_;refine Gz 2 ?_;refine O6 OQ rfl (K5 lo lc qs w7 hvq7.1 G.okN (by omega)) rfl ?_;rintro _ w8 ⟨io,ic,ids,rfl,hI8,hfI,hIds,hf8⟩;have hz8:=hf8.size;have hIl:=hI8.lt;have hid80:=lT hIds;refine PF (enc:=enI) rfl ?_;intro w9 hm9 hs9 hf9;refine PF (enc:=enI) rfl ?_;intro w10 hm10 hs10 hf10;refine PF (enc:=enS) rfl ?_;intro w11 hm11 hs11 hf11;refine cL (bU (piC ⟨lo,lc,io,ic,w4.heap.size,w5.heap.size,w6.heap.size,w8.heap.size,w9.heap.size,w10.heap.size⟩ qs.length ids.length) LP N3) ?_;refine Px rfl rfl ?_;intro w12 hg12 hs12 hf12;obtain⟨a,ea⟩:∃ a:PiA,a=⟨lo,lc,io,ic,w4.heap.size,w5.heap.size,w6.heap.size,w8.heap.size,w9.heap.size,w10.heap.size⟩:=⟨_,rfl⟩
 have hg12:w12.heap[w11.heap.size]?=some (.cells (piC a qs.length ids.length).toArray 62 (0,0)):=by rw[ea];exact hg12
 obtain⟨g,eg⟩:∃ g,g=w11.heap.size:=⟨_,rfl⟩
 rw[←eg] at hg12 ⊢;have hf812:=((hf9.trans hf10).trans hf11).trans hf12;have hf712:=hf8.trans hf812;have ht12:=hf712.obj ht7 id;refine cA 5 OP (HC tp 64 w12 ht12) ?_;rintro _ w13 ⟨rfl,hD13,hf13⟩;have hz13:=hf13.size;obtain⟨ow,how⟩:∃ o,o=owB w4.heap.size w5.heap.size w6.heap.size w7.heap.size w8.heap.size w13.heap.size:=⟨_,rfl⟩
 have hB:w4.heap.size≤w5.heap.size∧w5.heap.size≤w6.heap.size∧w6.heap.size≤w7.heap.size∧w7.heap.size≤w8.heap.size∧w8.heap.size+4≤w13.heap.size:=by omega
 have hf713:=hf712.trans hf13;have hf813:=hf812.trans hf13;have o4:∀ k,k<w4.heap.size→ow k=4:=fun k hk=>by rw[how];exact Og hk
 have otp:=o4 tp htl;have hn13:∀ k,w13.heap.size≤k→ow k=0:=fun k hk=>by rw[how];exact Ok hB hk
 have ntp:∀ c,c≠4→¬ ow tp=c:=fun c hc h=>hc (by rw[←h,otp]);have hM13:PiX 0 a ow w13.heap g tp qs ids (Tf (qs.length+1) bA) (jV (qs.length+1)):=by
  rw[ea] at hg12 ⊢;refine⟨⟨hf13.obj hg12 id,by rw[eg,show w11.heap.size=w8.heap.size+3 by omega,how];exact Oe hB⟩,⟨⟨(hvq7.1.keep' hf713 (fun _ _ _=>id)),fun p hp=>((hvq7.2 p hp).SN hf713).mono (fun k hk=>o4 k (by omega))⟩,fun hne k ⟨x,hx,e⟩=>o4 k (by have:=hvq.1.lt hne (fun x e=>by cases e) x hx;omega)⟩,⟨(hI8.SN hf813).vw,fun _ k ⟨x,hx,e⟩=>by have h1:=hfI x hx;have h2:=hIl x hx;rw[how];exact LS hB ⟨by omega,by omega⟩⟩,⟨hf13.obj ht12 id,otp⟩,fun _=>?_,fun _=>?_,fun _=>?_,⟨by rw[how];exact Of hB,fun _=>⟨[],(((hm9.SO hf10 id).SO hf11 id).SO hf12 id).SO hf13 id,vD.zero _,(Eh _).symm⟩⟩,⟨by show ow w9.heap.size=7;rw[show w9.heap.size=w8.heap.size+1 by omega,how];exact Od hB,fun _=>⟨[],((hm10.SO hf11 id).SO hf12 id).SO hf13 id,CJ.zero _⟩⟩,by show ow w10.heap.size=8;rw[show w10.heap.size=w8.heap.size+2 by omega,how];exact Oc hB,fun _=>⟨[],(hm11.SO hf12 id).SO hf13 id,CF.zero⟩⟩
  ·exact(((hW1.SO hf6 (fun _ _=>id) id).SO hf7 (fun _ _=>id) id).SO hf713 (fun _ _=>id) id).mono (fun k hk=>by rw[how];exact Oj hk) (ntp 1 (by decide))
  ·exact((hW2.SO hf7 (fun _ _=>id) id).SO hf713 (fun _ _=>id) id).mono (fun k hk=>by rw[how];exact Oi hB hk) (ntp 2 (by decide))
  ·exact(hW3.SO hf713 (fun _ _=>id) id).mono (fun k hk=>by rw[how];exact Oh hB hk) (ntp 3 (by decide))
 obtain⟨dg,edg⟩:∃ d,d=w12.heap.size+1:=⟨_,rfl⟩
 rw[←edg] at hD13 ⊢;have hD13:DwO (fun k=>ow k=9) w13.heap dg tp 64 ⟨[],[]⟩:=hD13.mono (fun k hk=>by rw[how];exact Ob hB ⟨by omega,hk.2⟩) (ntp 9 (by decide));refine cA 7 OO (BW a ow g tp qs ids (jV (qs.length+1)) dg G w13 hM13 hn13 hD13) ?_;rintro _ w14 ⟨po,pc,ow14,rfl,hpo,hpd,hM14,hD14,hFI,hl14,hn14,hf14⟩;obtain⟨S,eS,hInv,_,hpos⟩:=mA G hIds hFI;have hAll:=DR G hIds;have hGP:=Lc G hIds hFI;have hz14:=hf14.size;obtain⟨pl,epl⟩:∃ l,l=(dA (aL qs).tails (aL qs).ds).2:=⟨_,rfl⟩
 obtain⟨ds,eds⟩:∃ d,d=(dA (aL qs).tails (aL qs).ds).1:=⟨_,rfl⟩
 rw[←epl] at hpo ⊢;rw[←eds] at hD14;have hpll:pl.length≤40:=by have h1:=kV (aL qs).tails (aL qs).ds;have h2:=hFI.tn;rw[Tb] at h2;rw[epl];omega
 have hdsl:ds.B.length≤200000:=by rw[eds];exact hAll.B
 have eAll:aF qs ids=⟨ds,pl,S⟩:=by unfold aF;rw[←eds,←epl,eS]
 obtain⟨q0,hq00,hq0n,hq0k⟩:=G.root;have hnd0:=bO hq00;obtain⟨ow15,eo15⟩:∃ o:Nat→Nat,o=fun k=>if ow14 k≤8 then ow14 k else 0:=⟨_,rfl⟩
 have o15e:∀ k,ow15 k=if ow14 k≤8 then ow14 k else 0:=fun k=>by rw[eo15]
 have o15a:∀ k,ow14 k≤8→ow15 k=ow14 k:=fun k h=>by rw[o15e,SQ h]
 have o15b:∀ k,8<ow14 k→ow15 k=0:=fun k h=>by rw[o15e,SP (by omega)]
 have hM15:=hM14.relab (ow':=ow15) (fun c _ hc k hk=>by rw[o15a k (by omega)];exact hk);have hn15:∀ k,w14.heap.size≤k→ow15 k=0:=fun k hk=>by have:=hn14 k hk;rw[o15a k (by omega)];exact this
 have hokS:okS qs (jV (qs.length+1)):=⟨Tw,⟨fun z hz=>by have hz:=UF hz;omega,fun y hy=>by cases hy⟩,fun y hy=>by cases hy⟩
 have hbd:bdB (wrB qs ids (aL qs).files 17 0 (jV (qs.length+1))):=hAll.b;refine Gz 6 ?_;refine O6 L8 rfl (vX a g tp qs ids (aL qs).files hGP 17 ow15 (jV (qs.length+1)) 0 w14 hM15 hn15 ⟨by omega,by omega⟩ (by omega) hokS hbd) rfl ?_;rw[eS];rintro _ w15 ⟨rfl,ow16,hM16,hl16,hn16,hf15⟩;have hz15:=hf15.size;have nLb:∀ k,ow14 k=0∨ow14 k=9∨ow14 k=4→¬ Lb ow15 k:=fun k h h2=>by
  rcases h with h|h|h
  ·exact h2.1 (by rw[o15a k (by omega)];exact h)
  ·exact h2.1 (o15b k (by omega))
  ·exact h2.2 (by rw[o15a k (by omega)];exact h)
 have hD15:=hD14.SO hf15 (fun k hk=>nLb k (.inr (.inl hk))) (nLb tp (.inr (.inr hM14.2.2.2.1.2)));have hpo15:=hpo.SO hf15 (fun x hx=>nLb _ (.inl (hpd _ ⟨x,hx,rfl⟩).2));have hpol:=hpo.lt;obtain⟨⟨hg15,hg6⟩,_,⟨i15,_⟩,⟨ht15,ht154⟩,cw1,cw2,cw3,⟨_,c5⟩,_⟩:=id hM16;obtain⟨mr,hmr,_,hmrl⟩:=c5 (by decide);have hmany:mr.length=S.many:=by rw[hmrl,hInv.many]
 have hW15:aA (fun k=>w1.heap.size≤k) w1 w15:=by
  have f0:aA nob w1 w13:=(hF4.trans hf47).trans hf713;refine(f0.any.SJ hf14 (fun k h=>?_)).SJ hf15 (fun k h=>?_)
  · by_cases hk:k<w4.heap.size
    ·exact absurd (o4 k hk) h.2
    ·exact .inr (by omega)
  · by_cases hk:k<w4.heap.size
    ·exact absurd (by rw[o15a k (by rw[hl14 k (by omega),o4 k hk];decide),hl14 k (by omega)];exact o4 k hk) h.2
    ·exact .inr (by omega)
 have hg15l:=(SZ.1 hg15).1;refine Gz 5 ?_;refine cL (P4 (vs:=[pT tp]) rfl) ?_;refine Gz 4 ?_;refine Pk 15 (fun H=>H[g]?=some (.cells (piC a qs.length ids.length).toArray 62 (0,0))∧cG enI H a.r mr) [14,15] [0,1,2,3,4,5,6,7,8,9,10,11,12,13,14,15] aJ (by kernel_rfl) (⟨hg15,hmr⟩) ?_;refine Gz 4 ?_;refine xC rfl (O7 (u:=iV (S.many:Nat)) (Qx mpQ rfl (fun H hH=>hH.2)) (by rw[hmany])) ?_;refine Gz 8 ?_;refine xC rfl (bU (cH (fun j=>[0,(S.many:Int),0,0,0,0,0,(ids.length:Int),(pl.length:Int),S.refs.getD (ndB qs 0).ino.toNat 0-1].getD j 0)) qH oY) ?_;obtain⟨F0,hF0⟩:∃ F:Nat→Int,F=fun j=>[0,(S.many:Int),0,0,0,0,0,(ids.length:Int),(pl.length:Int),S.refs.getD (ndB qs 0).ino.toNat 0-1].getD j 0:=⟨_,rfl⟩
 rw[←hF0];refine Ph rfl rfl (O9 oY rfl ?_);intro w16 hg16 hs16 hf16;have hf16:aA nob w15 w16:=hf16.SL;refine Pn (by exact⟨hf16.obj hg15 id,hmr.SO hf16 id⟩) ?_;obtain⟨gS,egS⟩:∃ x,x=w15.heap.size:=⟨_,rfl⟩
 rw[show (w15.drewN 1).heap.size=gS from egS.symm] at hg16 ⊢;refine Ph rfl rfl (Pf (vs:=cH F0) dE rfl rfl (by exact dG _) hg16 rfl ?_);intro w17 hS17 hs17 hf17;refine PN rfl ?_;have hf17:aA (· = gS) w16 w17:=hf17;have hs16b:w16.heap.size=w15.heap.size+1:=hs16;have hs17b:w17.heap.size=w16.heap.size:=hs17;have hf1517:aA nob w15 w17:=hf16.tw hf17;refine Gz 4 ?_;refine Q2 b8 (0:UInt8) aN z5 rfl rfl rfl (by decide) (by decide) (by decide) (by decide) rfl ?_;intro w18 ho18 hs18 hf18;have ho18:Own b8 5 w18.heap (some ⟨w17.heap.size,0,none⟩) 64 (Tf 64 0):=ho18;have hs18b:w18.heap.size=w17.heap.size+1:=hs18;have hf1518:=hf1517.trans hf18;have hg18:=hf1518.obj hg15 id;have hS18:=hf18.obj hS17 id;have n4:=hAll.n4;have n2:=hAll.n2;have li:=hAll.i;have ll:=hAll.l;have lf:=hAll.f;have o6:=hAll.o6;rw[eAll] at n4 li ll lf o6
 replace n4:(aH pl 4).1.length≤160:=n4
 replace li:S.ino.length≤10000:=li
 replace ll:S.lst.length≤500000:=ll
 replace lf:S.fur.length≤200000:=lf
 refine Gz 4 ?_;refine Pk 31 (fun H=>H[g]?=some (.cells (piC a qs.length ids.length).toArray 62 (0,0))) [1,7,13,16,22,28,29] [0,2,3,4,5,6,8,9,10,11,12,14,15,17,18,19,20,21,23,24,25,26,27,1,7,13,16,22,28,29,30] aJ (by kernel_rfl) (hg18) ?_;refine Gz 5 ?_;refine xC rfl (Pe sM rfl (fun H hH=>by rw[xM];exact aD (i:=0) hH rfl)) ?_;refine Gz 4 ?_;refine xC rfl (Pe sM rfl (fun H hH=>by rw[xM];exact aD (i:=1) hH rfl)) ?_;refine Gz 11 ?_;refine xC rfl (Pe sM rfl (fun H hH=>by rw[xM];exact aD (i:=2) hH rfl)) ?_;refine Ph rfl rfl (O6 OM rfl (HF (fun k=>ow14 k=9) dg tp 64 ds (w18.drewN 1) (hD15.SN (hf1518.draws 1)) (by omega)) rfl ?_);rintro _ w19 ⟨o1,c1,rfl,ho1,hfr1,hf19⟩;have hf19:aA nob w18 w19:=hf19.SL;have hfr1:Fr w18.heap.size o1:=hfr1;have hf1519:=hf1518.trans hf19;have hz19:=hf19.size;refine Pn (by exact hf1519.obj hg15 id) ?_;refine Ph rfl rfl (O6 Ju rfl (lN (fun k=>ow16 k=1) a.g1 tp S.ino w19 ((cw1 (by decide)).SO hf1519 (fun _ _=>id) id) (by omega)) rfl ?_);rintro _ w20 ⟨o2,c2,rfl,ho2,hfr2,hf20⟩;have hf1520:=hf1519.trans hf20;have hz20:=hf20.size;refine Pn (by exact hf1520.obj hg15 id) ?_;refine Ph rfl rfl (O6 Ju rfl (lN (fun k=>ow16 k=2) a.g2 tp S.lst w20 ((cw2 (by decide)).SO hf1520 (fun _ _=>id) id) (by omega)) rfl ?_);rintro _ w21 ⟨o3,c3,rfl,ho3,hfr3,hf21⟩;have hf1521:=hf1520.trans hf21;have hz21:=hf21.size;refine Pn (by exact hf1521.obj hg15 id) ?_;refine Ph rfl rfl (PO L6 rfl rfl (Dp tp po pc pl 4 w21 (hf1521.obj ht15 id) (hpo15.SN hf1521).vw (by omega) (by omega)) rfl ?_);intro v22 w22 hr22;obtain⟨o4,c4,rfl,ho4,hfr4,hf22⟩:=hr22;have hf1522:=hf1521.trans hf22;have hz22:=hf22.size;refine Pn (by exact hf1522.obj hg15 id) ?_;refine Ph rfl rfl (PO L6 rfl rfl (Dp tp a.io a.ic ids 2 w22 (hf1522.obj ht15 id) (i15.SN hf1522) (by omega) (by omega)) rfl ?_);intro v23 w23 hr23;obtain⟨o5,c5,rfl,ho5,hfr5,hf23⟩:=hr23;have hf1523:=hf1522.trans hf23;have hz23:=hf23.size;refine Pn (by exact hf1523.obj hg15 id) ?_;refine Ph rfl rfl (O6 Ju rfl (lN (fun k=>ow16 k=3) a.g3 tp S.fur w23 ((cw3 (by decide)).SO hf1523 (fun _ _=>id) id) (by omega)) rfl ?_);rintro _ w24 ⟨o6b,c6,rfl,ho6,hfr6,hf24⟩;have hf1524:=hf1523.trans hf24;have hz24:=hf24.size;refine Pn (by exact hf1524.obj hg15 id) ?_;refine Ph rfl rfl (PA sJ (cs:=([(⟨o1,ds.B.length,c1⟩:Hd),⟨o2,(dnW S.ino).length,c2⟩,⟨o3,(dnW S.lst).length,c3⟩,⟨o4,(dnW (aH pl 4).1).length,c4⟩,⟨o5,(dnW (aH ids 2).1).length,c5⟩,⟨o6b,(dnW S.fur).length,c6⟩].map hd).toArray) Lz rfl rfl rfl (by kernel_rfl) rfl ?_);intro w25 hg25 hs25 hf25;have hf1525:=hf1524.trans hf25;have hs25b:w25.heap.size=w24.heap.size+1:=hs25;refine Pn (by exact hf1525.obj hg15 id) ?_;obtain⟨hs,ehs⟩:∃ l:List Hd,l=[⟨o1,ds.B.length,c1⟩,⟨o2,(dnW S.ino).length,c2⟩,⟨o3,(dnW S.lst).length,c3⟩,⟨o4,(dnW (aH pl 4).1).length,c4⟩,⟨o5,(dnW (aH ids 2).1).length,c5⟩,⟨o6b,(dnW S.fur).length,c6⟩]:=⟨_,rfl⟩
 have hhs6:hs.length=6:=by rw[ehs];rfl
 have hp25:Own hd 25 w25.heap (some ⟨w24.heap.size,0,none⟩) 6 hs:=by rw[ehs];exact iT hg25 (show 6≤maxLen by decide)
 have hPl:(dB ⟨ds,pl,S⟩ ids).length=6:=rfl;have hrw25:cK (fun k=>w18.heap.size≤k∧k<w25.heap.size) w25.heap hs (dB ⟨ds,pl,S⟩ ids):=by
  have k:∀ {o:Option Addr} {c:Nat} {x:By} {u v:World},Own b8 5 v.heap o c x→aA nob v w25→Fr u.heap.size o→w18.heap.size≤u.heap.size→Vw b8 w25.heap o c x∧(x≠[]→∀ k,blk o k→w18.heap.size≤k∧k<w25.heap.size):=fun h f hfr hu=>⟨(h.SN f).vw,fun _ k ⟨y,hy,e⟩=>by have:=hfr y hy;have:=h.lt y hy;have:=f.size;omega⟩
  have k6:=k ho6 hf25 hfr6 (by omega);have k5:=k ho5 (hf24.trans hf25) hfr5 (by omega);have k4:=k ho4 ((hf23.trans hf24).trans hf25) hfr4 (by omega);have k3:=k ho3 (((hf22.trans hf23).trans hf24).trans hf25) hfr3 (by omega);have k2:=k ho2 ((((hf21.trans hf22).trans hf23).trans hf24).trans hf25) hfr2 (by omega);have k1:=k ho1 (((((hf20.trans hf21).trans hf22).trans hf23).trans hf24).trans hf25) hfr1 (by omega);rw[ehs];exact((((((Se (H:=w25.heap)).snoc (x:=⟨o1,ds.B.length,c1⟩) rfl k1.1 k1.2).snoc (x:=⟨o2,(dnW S.ino).length,c2⟩) rfl k2.1 k2.2).snoc (x:=⟨o3,(dnW S.lst).length,c3⟩) rfl k3.1 k3.2).snoc (x:=⟨o4,(dnW (aH pl 4).1).length,c4⟩) rfl k4.1 k4.2).snoc (x:=⟨o5,(dnW (aH ids 2).1).length,c5⟩) rfl k5.1 k5.2).snoc (x:=⟨o6b,(dnW S.fur).length,c6⟩) rfl k6.1 k6.2
 have hS25:w25.heap[gS]?=some (.cells (cH F0).toArray 44 (0,0)):=(((((((hf19.trans hf20).trans hf21).trans hf22).trans hf23).trans hf24).trans hf25)).obj hS18 id;refine Gz 12 ?_;refine PA xY (cs:=(oB.map (ptO gS)).toArray) Kr rfl rfl rfl (by kernel_rfl) rfl ?_;intro w26 hg26 hs26 hf26;have hs26b:w26.heap.size=w25.heap.size+1:=hs26;have hq26:Own (ptO gS) 72 w26.heap (some ⟨w25.heap.size,0,none⟩) 6 oB:=iT (xs:=oB) hg26 (by decide);have hf1826:=((((((hf19.trans hf20).trans hf21).trans hf22).trans hf23).trans hf24).trans hf25).trans hf26;have hN15:aA nob W w15:=hf1.SJ hW15 (fun k h=>.inr (by have:=hf1.size;omega));have hN26:aA nob W w26:=(hN15.trans hf1518).trans hf1826;obtain⟨Ps,ePs⟩:∃ P,P=dB ⟨ds,pl,S⟩ ids:=⟨_,rfl⟩
 rw[←ePs] at hrw25 hPl;have hPf:Ps.flatten.length≤1500000:=by rw[ePs,mR];exact o6
 have hzW:=hN15.size;refine Gz 5 ?_;refine Pb (β:=Nat×(Option Addr×Nat)) (fun⟨i,⟨oo,oc⟩⟩=>[(5,pT tp),(11,pT gS),(12,.slice oo (Tf 64 (0:UInt8)++(Ps.take i).flatten).length oc),(13,.slice (some ⟨w24.heap.size,0,none⟩) 6 6),(96,.slice (some ⟨w25.heap.size,0,none⟩) 6 6),(97,iV 6),(98,iV i)]) (fun⟨i,⟨oo,oc⟩⟩ w=>i≤6∧Own b8 5 w.heap oo oc (Tf 64 (0:UInt8)++(Ps.take i).flatten)∧(∀ k,blk oo k→k=w17.heap.size∨w26.heap.size≤k)∧w.heap[gS]?=some (.cells (cH (ffB F0 Ps i)).toArray 44 (0,0))∧Own hd 25 w.heap (some ⟨w24.heap.size,0,none⟩) 6 hs∧Own (ptO gS) 72 w.heap (some ⟨w25.heap.size,0,none⟩) 6 oB∧cK (fun k=>w18.heap.size≤k∧k<w25.heap.size) w.heap hs Ps∧TbV w.heap tp∧w26.heap.size≤w.heap.size∧aA nob W w) (fun⟨i,⟨oo,oc⟩⟩=>6-i) ⟨0,⟨some ⟨w17.heap.size,0,none⟩,64⟩⟩ ⟨rfl,rfl,rfl,rfl,rfl,rfl,rfl,trivial⟩ ⟨by decide,by rw[show Tf 64 (0:UInt8)++(Ps.take 0).flatten=Tf 64 0 by simp];exact ho18.SN hf1826,fun k ⟨z,hz,e⟩=>by cases hz;exact .inl e.symm,hf26.obj hS25 id,hp25.SN hf26,hq26,hrw25.SO hf26 (fun _ _=>id),(hf1518.trans hf1826).obj ht15 id,SY _,hN26⟩ ?_;rintro⟨i,⟨oo,oc⟩⟩ w27 ⟨hi,hoo,hob,hS,hp,hq,hrw,ht27,hz27,hN⟩;refine fK 2 ?_ ?_<;>intro h99
 ·have hi6:i<6:=by omega
  obtain⟨x,hx⟩:∃ x,Ps[i]?=some x:=⟨_,SS (by omega)⟩
  obtain⟨y,hy⟩:∃ y,hs[i]?=some y:=⟨_,SS (by omega)⟩
  obtain⟨hyn,hyv,_⟩:=hrw.2 i y x hy hx;have hft:=Jy hx;have hfl:=kM Ps (i+1);have hfl2:(Ps.take i).flatten.length+x.length≤1500000:=by have h:=congrArg Tp hft;rw[SR] at h;omega
  refine Gz 11 ?_;refine cL (O5 xY rfl rfl hq.vw.non (by have e:oB.length=6:=rfl;omega)) ?_;refine cL (O8 vT rfl (hq.vw.gz 0 i rfl (by show i<6;exact hi6))) ?_;refine Gz 3 ?_;refine aW [(5,_),(11,_),(12,_),(13,_),(14,_),(15,_),(96,_),(97,_),(98,_),(99,_)] ?_;refine Gz 6 ?_;refine cL (O5 sJ rfl rfl (fun _=>by simp) (by omega)) ?_;refine cL (O7 (u:=.slice y.a x.length y.c) (O8 aO rfl (hp.vw.get i y hy)) (by rw[←hyn];rfl)) ?_;refine Pm cU aN rfl rfl hoo hyv (by simp only[SR,Tw];omega) (by simp only[SR,Tw];unfold maxLen;omega) rfl ?_;intro o28 c28 w28 ho28 hf28 hr28 hn28;have eL:Tf 64 (0:UInt8)++(Ps.take i).flatten++x=Tf 64 0++(Ps.take (i+1)).flatten:=by rw[hft,To]
  rw[eL] at ho28 ⊢;have hz28:=hf28.size;have kd:∀ k,k<w26.heap.size→k≠w17.heap.size→¬ blk oo k:=fun k h1 h2 h3=>by rcases hob k h3 with h|h;exact h2 h;omega
  have hS28:=hf28.obj hS (kd gS (by omega) (by omega));have hp28:=hp.SO hf28 (fun z hz=>by cases hz;exact kd w24.heap.size (by omega) (by omega));have hq28:=hq.SO hf28 (fun z hz=>by cases hz;exact kd w25.heap.size (by omega) (by omega));have hrw28:=hrw.SO hf28 (fun k hk=>kd k (by omega) (by omega));have hN28:aA nob W w28:=hN.SJ hf28 (fun k h=>.inr (by rcases hob k h with h|h;omega;have:=hN26.size;omega));have hob28:∀ k,blk o28 k→k=w17.heap.size∨w26.heap.size≤k:=fun k ⟨z,hz,e⟩=>by
   rcases hr28 z hz with h|h
   ·exact hob k ⟨z,h,e⟩
   ·exact .inr (by omega)
  refine Gz 6 ?_;refine cL (O7 (u:=iV (64+((Ps.take (i+1)).flatten.length:Nat))) (Qc aN rfl) (by rw[SR,Tw];rfl)) ?_;refine Gz 1 ?_;refine Pg aK rfl rfl rfl hS28 (by have:=J8 hi6;rw[Nat.blt_eq];exact this) ?_;intro w29 hS29 hs29 hf29;have hS29:w29.heap[gS]?=some (.cells (cH (ffB F0 Ps (i+1))).toArray 44 (0,0)):=by rw[show ffB F0 Ps (i+1)=upd (ffB F0 Ps i) (oB.getD i 0) (64+((Ps.take (i+1)).flatten.length:Nat)) from rfl,←zX _ (J8 hi6)];exact hS29
  have hf29:aA (· = gS) w28 w29:=hf29;have hs29b:w29.heap.size=w28.heap.size:=hs29;refine Gz 7 ?_;exact aG ⟨i+1,⟨o28,c28⟩⟩ ⟨by omega,ho28.SO hf29 (fun z hz h=>by have h:z.block=gS:=h;rcases hob28 _ ⟨z,hz,h⟩ with h2|h2<;>omega),hob28,hS29,hp28.SO hf29 (fun z hz h=>by cases hz;have h:w24.heap.size=gS:=h;omega),hq28.SO hf29 (fun z hz h=>by cases hz;have h:w25.heap.size=gS:=h;omega),hrw28.SO hf29 (fun k hk h=>by have h:k=gS:=h;omega),hf29.obj (hf28.obj ht27 (kd tp (by omega) (by omega))) (show ¬ tp=gS by omega),by omega,hN28.tw hf29⟩ (by show 6-(i+1)<6-i;omega)
 have hi6:i=6:=by omega
 subst hi6;refine Gz 13 ?_;have hfin:Ps.flatten=dD (aF qs ids) ids:=by rw[ePs,mR,eAll]
 have htk6:Ps.take 6=Ps:=S9 (by omega);have eT:(Ps.take 6).flatten=dD (aF qs ids) ids:=by rw[htk6,hfin]
 have hff:cH (ffB F0 Ps 6)=cH (fB qs ids (aF qs ids)):=by rw[ePs,eAll];exact JD _ qs ids F0 hF0
 rw[hff] at hS;refine cL (O7 (u:=iV (64+((dD (aF qs ids) ids).length:Int))) (O8 aK rfl (aD (i:=0) hS rfl)) rfl) ?_;refine fK 0 ?_ ?_<;>intro h116
 ·have hib:pI qs ids=([],3):=by unfold pI;rw[SQ h116]
  refine Gz 1 ?_;refine aW [(5,_),(11,_),(12,_),(13,_),(96,_),(97,_),(98,_),(99,_),(116,_)] ?_;refine Gz 11 ?_;refine⟨_,rfl,.inr ⟨hz,ids,none,0,hIds.nds hqs,?_,?_,R6,hN⟩⟩
  ·rw[←oG hqs ids,hib];rfl
  ·rw[←oG hqs ids,hib];exact R8
 have M:ImB qs ids:=⟨G,hIds,by omega⟩
 refine Gz 1 ?_;refine aW [(5,_),(11,_),(12,_),(13,_),(96,_),(97,_),(98,_),(99,_),(116,_)] ?_;refine Gz 6 ?_;refine cL (Pi (cs:=cH (fB qs ids (aF qs ids))) dE rfl (bJ hS 0 rfl)) ?_;refine cA 0 OL (FB tp (fB qs ids (aF qs ids)) w27 ht27) ?_;rintro _ w31 ⟨o31,c31,rfl,ho31,hfr31,hf31⟩;have ep:iB (fB qs ids (aF qs ids))=(suB (fB qs ids (aF qs ids)),0):=SQ M.may;rw[ep] at ho31 ⊢;have hsl:=jZ (fB qs ids (aF qs ids));obtain⟨b31,rfl⟩:∃ b,o31=some b:=by
  cases o31 with
 |none=>exact absurd rfl (ho31.vw.non (by rw[show ((suB (fB qs ids (aF qs ids)),(0:Int)):By×Int).1=suB (fB qs ids (aF qs ids)) from rfl,hsl];decide))
 |some b=>exact⟨b,rfl⟩
 have hoo31:=hoo.SN hf31;obtain⟨bb,rfl⟩:∃ b,oo=some (⟨b,0,none⟩:Addr):=by
  rcases hoo31 with⟨_,_,h⟩|⟨x,_,h,_⟩
  · have h:=congrArg Tp h
    rw[SR,Tw,Tr] at h;omega
  ·exact⟨x,h⟩
 refine Gz 11 ?_;refine Rx cU aN (b:=b31) (ys:=suB (fB qs ids (aF qs ids))) rfl rfl hoo31 ho31.vw (by rw[hsl,SR,Tw];omega) rfl ?_;intro w32 ho32 hs32 hf32;refine Gz 12 ?_;have hbW:W.heap.size≤bb:=by rcases hob bb ⟨_,rfl,rfl⟩ with h|h<;>omega
 have efin:suB (fB qs ids (aF qs ids))++(Tf 64 (0:UInt8)++(Ps.take 6).flatten).drop (suB (fB qs ids (aF qs ids))).length=imB qs ids:=by rw[hsl,eT,List.drop_left' Tw];rfl
 have elen:(Tf 64 (0:UInt8)++(Ps.take 6).flatten).length=(imB qs ids).length:=by unfold imB;rw[eT,SR,SR,Tw,hsl]
 refine⟨_,rfl,.inr ⟨hz,ids,some ⟨bb,0,none⟩,oc,hIds.nds hqs,?_,?_,fun z hz=>by cases hz;exact hbW,(hN.trans hf31).tw hf32⟩⟩
 · rw[←oG hqs ids,M.img]
   show _=Value.tuple #[.slice _ (imB qs ids).length oc,iV 0];rw[←elen]
 · rw[←oG hqs ids,M.img]
   show Own b8 5 w32.heap (some ⟨bb,0,none⟩) oc (imB qs ids);rw[←efin];exact ho32
end
section
open Go Go.RowKit Go.Maps
def Ka(n:Nd):Nd:={ n with names:=n.names.take 18,data:=n.data.take 1500,xs:=n.xs.take 10 }
def bF(p:NdH×Nd):NdH×Nd:=(⟨fE p.1.names 18,fE p.1.data 1500,fE p.1.xs 10⟩,Ka p.2)
def iF(ps:List (NdH×Nd)):List (NdH×Nd):=(ps.take 40).map bF
variable {D:Nat→Prop}
theorem NdV.mfew{H:Array Obj}{p:NdH×Nd}(v:NdV D H p):NdV D H (bF p):=⟨v.1.cut 18,v.2.1.cut 1500,v.2.2.cut 10⟩
theorem smN.mfew{n:Nd}(h:smN n):smN (Ka n):=⟨h.1,fun s hs=>h.2.1 s (TR hs),fun x hx=>h.2.2 x (TR hx)⟩
theorem GB(ps:List (NdH×Nd)):(iF ps).length≤40:=by unfold iF;rw[Tb,S2];omega
theorem kZ{ps:List (NdH×Nd)}{i:Nat}{p:NdH×Nd}(hp:ps[i]?=some p):(ps.take (i+1)).map bF=(ps.take i).map bF++[bF p]:=by rw[tkL hp];simp
theorem I5(lo:Option Addr)(lc:Nat)(ps:List (NdH×Nd))(W:World)(hv:aR D W.heap lo lc ps) :
 CA 9 [.slice lo ps.length lc] W fun v w'=>∃ o c,v=.slice o (iF ps).length c∧bS 10 aE 37 w'.heap o c (iF ps)∧Fr W.heap.size o∧aA nob W w'∧aR D w'.heap o c (iF ps):=by
 have h63:=hv.1.SM;refine cS 50 [(0,_)] Tryz.func9 ?_;refine Gz 7 ?_;refine Qr aB cC rfl ?_;intro w1 ho1 hs1 hf1;refine Gz 10 ?_;refine Pb (β:=Nat×Option Addr×Nat) (fun⟨i,o,c⟩=>[(0,.slice lo ps.length lc),(3,.slice o ((ps.take i).map bF).length c),(4,iV i)]) (fun⟨i,o,c⟩ w=>i≤ps.length∧i≤40∧bS 10 aE 37 w.heap o c ((ps.take i).map bF)∧Fr W.heap.size o∧aA nob W w) (fun⟨i,o,c⟩=>ps.length-i) ⟨0,some ⟨W.heap.size,0,none⟩,0⟩ ⟨rfl,rfl,rfl,trivial⟩ ⟨S3 _,S3 _,ho1,fun a ha=>by cases ha;exact SY _,hf1⟩ ?_;rintro⟨i,o,c⟩ w2 ⟨hi,hi60,ho2,hfo,hF2⟩;refine fK 6 ?_ ?_<;>intro h10
 ·refine fW 2 ?_ ?_<;>intro h13
  ·have hil:i<ps.length:=by omega
   obtain⟨p,hp⟩:∃ p,ps[i]?=some p:=⟨_,SS hil⟩
   have hpm:=S1 hp;have hv2:=hv.SN hF2;refine Gz 2 ?_;refine aW [(0,_),(3,_),(4,_),(14,_)] ?_;refine Gz 10 ?_;refine cL (Pa cC rfl rfl hv2.1.non (by omega)) ?_;refine cL (Pi (cs:=aE p) aV rfl (fun j v hj=>hv2.1.rowZ i rfl hp j v hj)) ?_;refine O9 fF rfl ?_;intro w3 hg3 hs3 hf3;obtain⟨q,hq⟩:∃ q,q=w2.heap.size:=⟨_,rfl⟩
   rw[←hq] at hg3 ⊢;have hqW:W.heap.size≤q:=by rw[hq];exact hF2.size
   refine Pf (vs:=aE p) aV rfl rfl (aB p).2 hg3 rfl ?_;intro w4 hg4 hs4 hf4;have hf24:aA nob w2 w4:=hf3.SJ hf4 (fun k e=>.inr (by have e:k=q:=e;omega));have hF4:aA nob W w4:=hF2.trans hf24;have hn4:=(hv.SN hF4).2 p hpm;have ho4:=ho2.SN hf24;have hoq:∀ a,o=some a→¬ a.block=q:=fun a ha=>by have:=ho2.lt a ha;omega
   refine fK 8 ?_ ?_<;>intro h24
   ·refine Gz 6 ?_;refine cL (O7 (u:=hd ⟨p.1.names.a,18,p.1.names.c⟩) (Pr mD rfl rfl (by have:=hn4.1.2.1.le;have:=hn4.1.1;omega)) (by rw[aS];rfl)) ?_;refine Gz 1 ?_;refine Pg iR rfl rfl rfl hg4 rfl ?_;intro w5 hg5 hs5 hf5;have hgA:w5.heap[q]?=some (.cells (aE ((⟨fE p.1.names 18,p.1.data,p.1.xs⟩:NdH),p.2)).toArray 37 (0,0)):=by rw[cZ (by omega)];exact hg5
    have hF5:aA nob W w5:=hF4.SJ hf5 (fun k e=>.inr (by have e:k=q:=e;omega));have ho5:=ho4.SO hf5 hoq;refine Gz 6 ?_;have hn5:=(hv.SN hF5).2 p hpm;refine cL (O7 (u:=hd p.1.data) (O8 aO rfl (aD hgA rfl)) rfl) ?_;refine fK 1 ?_ ?_<;>intro h32
    ·refine Gz 5 ?_;refine cL (O7 (u:=hd p.1.data) (O8 aO rfl (aD hgA rfl)) rfl) ?_;refine cL (O7 (u:=hd ⟨p.1.data.a,1500,p.1.data.c⟩) (Pr aN rfl rfl (by have:=hn5.2.1.2.1.le;have:=hn5.2.1.1;omega)) (by rw[aS];rfl)) ?_;refine Gz 1 ?_;refine Pg aO rfl rfl rfl hgA rfl ?_;intro w6 hg6 hs6 hf6;have hgB:w6.heap[q]?=some (.cells (aE ((⟨fE p.1.names 18,fE p.1.data 1500,p.1.xs⟩:NdH),p.2)).toArray 37 (0,0)):=by rw[cZ (n:=1500) (by omega)];exact hg6
     have hF6:aA nob W w6:=hF5.SJ hf6 (fun k e=>.inr (by have e:k=q:=e;omega));have ho6:=ho5.SO hf6 hoq;refine Gz 6 ?_;have hn6:=(hv.SN hF6).2 p hpm;refine cL (O7 (u:=hd p.1.xs) (O8 cJ rfl (aD hgB rfl)) rfl) ?_;refine fK 1 ?_ ?_<;>intro h40
     ·refine Gz 5 ?_;refine cL (O7 (u:=hd p.1.xs) (O8 cJ rfl (aD hgB rfl)) rfl) ?_;refine cL (O7 (u:=hd ⟨p.1.xs.a,10,p.1.xs.c⟩) (Pr kA rfl rfl (by obtain⟨k1,ys,k2,k3,_⟩:=hn6.2.2;have:=k2.le;omega)) (by rw[aS];rfl)) ?_;refine Gz 1 ?_;refine Pg cJ rfl rfl rfl hgB rfl ?_;intro w7 hg7 hs7 hf7;have hgC:w7.heap[q]?=some (.cells (aE (bF p)).toArray 37 (0,0)):=by unfold bF;rw[cZ (n:=10) (by omega)];exact hg7
      have hF7:aA nob W w7:=hF6.SJ hf7 (fun k e=>.inr (by have e:k=q:=e;omega));have ho7:=ho6.SO hf7 hoq;refine Gz 4 ?_;refine cL (Pi (cs:=aE (bF p)) aV rfl (bJ hgC 0 rfl)) ?_;obtain⟨y,hy⟩:∃ y,y=bF p:=⟨_,rfl⟩
      rw[←hy];refine PA cC (cs:=(aE y).toArray) fF rfl rfl rfl (by kernel_rfl) rfl ?_;intro w8 hg8 hs8 hf8;have ho8:bS 10 aE 37 w8.heap (some ⟨w7.heap.size,0,none⟩) 1 [y]:=cE (xs:=[y]) aB (by simpa using hg8) (by show 1≤maxLen;decide);refine Pu aB rfl cC rfl rfl (ho7.SN hf8) (ho8.vw aB) (by simp only[S5,Tb,S2];omega) (by simp only[S5,Tb,S2];unfold maxLen;omega) rfl ?_;intro o9 c9 w9 ho9 hf9 hr9 hn9;rw[hy,←kZ hp] at ho9 ⊢;have hF9:aA nob W w9:=(hF7.trans hf8).SJ hf9 hfo.step;have hfo9:Fr W.heap.size o9:=fL hfo hr9 (by have:=hF7.size;have:=hf8.size;omega);refine Gz 9 ?_;exact aG ⟨i+1,o9,c9⟩ ⟨by omega,by omega,ho9,hfo9,hF9⟩ (by show ps.length-(i+1)<ps.length-i;omega)
     have hgC:w6.heap[q]?=some (.cells (aE (bF p)).toArray 37 (0,0)):=by unfold bF;rw[eA (n:=10) (by omega)];exact hgB
     have hF7:=hF6;have ho7:=ho6
     rename World=>w7
     refine Gz 7 ?_;refine cL (Pi (cs:=aE (bF p)) aV rfl (bJ hgC 0 rfl)) ?_;obtain⟨y,hy⟩:∃ y,y=bF p:=⟨_,rfl⟩
     rw[←hy];refine PA cC (cs:=(aE y).toArray) fF rfl rfl rfl (by kernel_rfl) rfl ?_;intro w8 hg8 hs8 hf8;have ho8:bS 10 aE 37 w8.heap (some ⟨w7.heap.size,0,none⟩) 1 [y]:=cE (xs:=[y]) aB (by simpa using hg8) (by show 1≤maxLen;decide);refine Pu aB rfl cC rfl rfl (ho7.SN hf8) (ho8.vw aB) (by simp only[S5,Tb,S2];omega) (by simp only[S5,Tb,S2];unfold maxLen;omega) rfl ?_;intro o9 c9 w9 ho9 hf9 hr9 hn9;rw[hy,←kZ hp] at ho9 ⊢;have hF9:aA nob W w9:=(hF7.trans hf8).SJ hf9 hfo.step;have hfo9:Fr W.heap.size o9:=fL hfo hr9 (by have:=hF7.size;have:=hf8.size;omega);refine Gz 9 ?_;exact aG ⟨i+1,o9,c9⟩ ⟨by omega,by omega,ho9,hfo9,hF9⟩ (by show ps.length-(i+1)<ps.length-i;omega)
    have hgB:w5.heap[q]?=some (.cells (aE ((⟨fE p.1.names 18,fE p.1.data 1500,p.1.xs⟩:NdH),p.2)).toArray 37 (0,0)):=by rw[eA (n:=1500) (by omega)];exact hgA
    have hF6:=hF5;have ho6:=ho5
    rename World=>w6
    refine Gz 9 ?_;have hn6:=(hv.SN hF6).2 p hpm;refine cL (O7 (u:=hd p.1.xs) (O8 cJ rfl (aD hgB rfl)) rfl) ?_;refine fK 1 ?_ ?_<;>intro h40
    ·refine Gz 5 ?_;refine cL (O7 (u:=hd p.1.xs) (O8 cJ rfl (aD hgB rfl)) rfl) ?_;refine cL (O7 (u:=hd ⟨p.1.xs.a,10,p.1.xs.c⟩) (Pr kA rfl rfl (by obtain⟨k1,ys,k2,k3,_⟩:=hn6.2.2;have:=k2.le;omega)) (by rw[aS];rfl)) ?_;refine Gz 1 ?_;refine Pg cJ rfl rfl rfl hgB rfl ?_;intro w7 hg7 hs7 hf7;have hgC:w7.heap[q]?=some (.cells (aE (bF p)).toArray 37 (0,0)):=by unfold bF;rw[cZ (n:=10) (by omega)];exact hg7
     have hF7:aA nob W w7:=hF6.SJ hf7 (fun k e=>.inr (by have e:k=q:=e;omega));have ho7:=ho6.SO hf7 hoq;refine Gz 4 ?_;refine cL (Pi (cs:=aE (bF p)) aV rfl (bJ hgC 0 rfl)) ?_;obtain⟨y,hy⟩:∃ y,y=bF p:=⟨_,rfl⟩
     rw[←hy];refine PA cC (cs:=(aE y).toArray) fF rfl rfl rfl (by kernel_rfl) rfl ?_;intro w8 hg8 hs8 hf8;have ho8:bS 10 aE 37 w8.heap (some ⟨w7.heap.size,0,none⟩) 1 [y]:=cE (xs:=[y]) aB (by simpa using hg8) (by show 1≤maxLen;decide);refine Pu aB rfl cC rfl rfl (ho7.SN hf8) (ho8.vw aB) (by simp only[S5,Tb,S2];omega) (by simp only[S5,Tb,S2];unfold maxLen;omega) rfl ?_;intro o9 c9 w9 ho9 hf9 hr9 hn9;rw[hy,←kZ hp] at ho9 ⊢;have hF9:aA nob W w9:=(hF7.trans hf8).SJ hf9 hfo.step;have hfo9:Fr W.heap.size o9:=fL hfo hr9 (by have:=hF7.size;have:=hf8.size;omega);refine Gz 9 ?_;exact aG ⟨i+1,o9,c9⟩ ⟨by omega,by omega,ho9,hfo9,hF9⟩ (by show ps.length-(i+1)<ps.length-i;omega)
    have hgC:w6.heap[q]?=some (.cells (aE (bF p)).toArray 37 (0,0)):=by unfold bF;rw[eA (n:=10) (by omega)];exact hgB
    have hF7:=hF6;have ho7:=ho6
    rename World=>w7
    refine Gz 7 ?_;refine cL (Pi (cs:=aE (bF p)) aV rfl (bJ hgC 0 rfl)) ?_;obtain⟨y,hy⟩:∃ y,y=bF p:=⟨_,rfl⟩
    rw[←hy];refine PA cC (cs:=(aE y).toArray) fF rfl rfl rfl (by kernel_rfl) rfl ?_;intro w8 hg8 hs8 hf8;have ho8:bS 10 aE 37 w8.heap (some ⟨w7.heap.size,0,none⟩) 1 [y]:=cE (xs:=[y]) aB (by simpa using hg8) (by show 1≤maxLen;decide);refine Pu aB rfl cC rfl rfl (ho7.SN hf8) (ho8.vw aB) (by simp only[S5,Tb,S2];omega) (by simp only[S5,Tb,S2];unfold maxLen;omega) rfl ?_;intro o9 c9 w9 ho9 hf9 hr9 hn9;rw[hy,←kZ hp] at ho9 ⊢;have hF9:aA nob W w9:=(hF7.trans hf8).SJ hf9 hfo.step;have hfo9:Fr W.heap.size o9:=fL hfo hr9 (by have:=hF7.size;have:=hf8.size;omega);refine Gz 9 ?_;exact aG ⟨i+1,o9,c9⟩ ⟨by omega,by omega,ho9,hfo9,hF9⟩ (by show ps.length-(i+1)<ps.length-i;omega)
   have hgA:w4.heap[q]?=some (.cells (aE ((⟨fE p.1.names 18,p.1.data,p.1.xs⟩:NdH),p.2)).toArray 37 (0,0)):=by rw[eA (by omega)];exact hg4
   have hF5:=hF4;have ho5:=ho4
   rename World=>w5
   refine Gz 9 ?_;have hn5:=(hv.SN hF5).2 p hpm;refine cL (O7 (u:=hd p.1.data) (O8 aO rfl (aD hgA rfl)) rfl) ?_;refine fK 1 ?_ ?_<;>intro h32
   ·refine Gz 5 ?_;refine cL (O7 (u:=hd p.1.data) (O8 aO rfl (aD hgA rfl)) rfl) ?_;refine cL (O7 (u:=hd ⟨p.1.data.a,1500,p.1.data.c⟩) (Pr aN rfl rfl (by have:=hn5.2.1.2.1.le;have:=hn5.2.1.1;omega)) (by rw[aS];rfl)) ?_;refine Gz 1 ?_;refine Pg aO rfl rfl rfl hgA rfl ?_;intro w6 hg6 hs6 hf6;have hgB:w6.heap[q]?=some (.cells (aE ((⟨fE p.1.names 18,fE p.1.data 1500,p.1.xs⟩:NdH),p.2)).toArray 37 (0,0)):=by rw[cZ (n:=1500) (by omega)];exact hg6
    have hF6:aA nob W w6:=hF5.SJ hf6 (fun k e=>.inr (by have e:k=q:=e;omega));have ho6:=ho5.SO hf6 hoq;refine Gz 6 ?_;have hn6:=(hv.SN hF6).2 p hpm;refine cL (O7 (u:=hd p.1.xs) (O8 cJ rfl (aD hgB rfl)) rfl) ?_;refine fK 1 ?_ ?_<;>intro h40
    ·refine Gz 5 ?_;refine cL (O7 (u:=hd p.1.xs) (O8 cJ rfl (aD hgB rfl)) rfl) ?_;refine cL (O7 (u:=hd ⟨p.1.xs.a,10,p.1.xs.c⟩) (Pr kA rfl rfl (by obtain⟨k1,ys,k2,k3,_⟩:=hn6.2.2;have:=k2.le;omega)) (by rw[aS];rfl)) ?_;refine Gz 1 ?_;refine Pg cJ rfl rfl rfl hgB rfl ?_;intro w7 hg7 hs7 hf7;have hgC:w7.heap[q]?=some (.cells (aE (bF p)).toArray 37 (0,0)):=by unfold bF;rw[cZ (n:=10) (by omega)];exact hg7
     have hF7:aA nob W w7:=hF6.SJ hf7 (fun k e=>.inr (by have e:k=q:=e;omega));have ho7:=ho6.SO hf7 hoq;refine Gz 4 ?_;refine cL (Pi (cs:=aE (bF p)) aV rfl (bJ hgC 0 rfl)) ?_;obtain⟨y,hy⟩:∃ y,y=bF p:=⟨_,rfl⟩
     rw[←hy];refine PA cC (cs:=(aE y).toArray) fF rfl rfl rfl (by kernel_rfl) rfl ?_;intro w8 hg8 hs8 hf8;have ho8:bS 10 aE 37 w8.heap (some ⟨w7.heap.size,0,none⟩) 1 [y]:=cE (xs:=[y]) aB (by simpa using hg8) (by show 1≤maxLen;decide);refine Pu aB rfl cC rfl rfl (ho7.SN hf8) (ho8.vw aB) (by simp only[S5,Tb,S2];omega) (by simp only[S5,Tb,S2];unfold maxLen;omega) rfl ?_;intro o9 c9 w9 ho9 hf9 hr9 hn9;rw[hy,←kZ hp] at ho9 ⊢;have hF9:aA nob W w9:=(hF7.trans hf8).SJ hf9 hfo.step;have hfo9:Fr W.heap.size o9:=fL hfo hr9 (by have:=hF7.size;have:=hf8.size;omega);refine Gz 9 ?_;exact aG ⟨i+1,o9,c9⟩ ⟨by omega,by omega,ho9,hfo9,hF9⟩ (by show ps.length-(i+1)<ps.length-i;omega)
    have hgC:w6.heap[q]?=some (.cells (aE (bF p)).toArray 37 (0,0)):=by unfold bF;rw[eA (n:=10) (by omega)];exact hgB
    have hF7:=hF6;have ho7:=ho6
    rename World=>w7
    refine Gz 7 ?_;refine cL (Pi (cs:=aE (bF p)) aV rfl (bJ hgC 0 rfl)) ?_;obtain⟨y,hy⟩:∃ y,y=bF p:=⟨_,rfl⟩
    rw[←hy];refine PA cC (cs:=(aE y).toArray) fF rfl rfl rfl (by kernel_rfl) rfl ?_;intro w8 hg8 hs8 hf8;have ho8:bS 10 aE 37 w8.heap (some ⟨w7.heap.size,0,none⟩) 1 [y]:=cE (xs:=[y]) aB (by simpa using hg8) (by show 1≤maxLen;decide);refine Pu aB rfl cC rfl rfl (ho7.SN hf8) (ho8.vw aB) (by simp only[S5,Tb,S2];omega) (by simp only[S5,Tb,S2];unfold maxLen;omega) rfl ?_;intro o9 c9 w9 ho9 hf9 hr9 hn9;rw[hy,←kZ hp] at ho9 ⊢;have hF9:aA nob W w9:=(hF7.trans hf8).SJ hf9 hfo.step;have hfo9:Fr W.heap.size o9:=fL hfo hr9 (by have:=hF7.size;have:=hf8.size;omega);refine Gz 9 ?_;exact aG ⟨i+1,o9,c9⟩ ⟨by omega,by omega,ho9,hfo9,hF9⟩ (by show ps.length-(i+1)<ps.length-i;omega)
   have hgB:w5.heap[q]?=some (.cells (aE ((⟨fE p.1.names 18,fE p.1.data 1500,p.1.xs⟩:NdH),p.2)).toArray 37 (0,0)):=by rw[eA (n:=1500) (by omega)];exact hgA
   have hF6:=hF5;have ho6:=ho5
   rename World=>w6
   refine Gz 9 ?_;have hn6:=(hv.SN hF6).2 p hpm;refine cL (O7 (u:=hd p.1.xs) (O8 cJ rfl (aD hgB rfl)) rfl) ?_;refine fK 1 ?_ ?_<;>intro h40
   ·refine Gz 5 ?_;refine cL (O7 (u:=hd p.1.xs) (O8 cJ rfl (aD hgB rfl)) rfl) ?_;refine cL (O7 (u:=hd ⟨p.1.xs.a,10,p.1.xs.c⟩) (Pr kA rfl rfl (by obtain⟨k1,ys,k2,k3,_⟩:=hn6.2.2;have:=k2.le;omega)) (by rw[aS];rfl)) ?_;refine Gz 1 ?_;refine Pg cJ rfl rfl rfl hgB rfl ?_;intro w7 hg7 hs7 hf7;have hgC:w7.heap[q]?=some (.cells (aE (bF p)).toArray 37 (0,0)):=by unfold bF;rw[cZ (n:=10) (by omega)];exact hg7
    have hF7:aA nob W w7:=hF6.SJ hf7 (fun k e=>.inr (by have e:k=q:=e;omega));have ho7:=ho6.SO hf7 hoq;refine Gz 4 ?_;refine cL (Pi (cs:=aE (bF p)) aV rfl (bJ hgC 0 rfl)) ?_;obtain⟨y,hy⟩:∃ y,y=bF p:=⟨_,rfl⟩
    rw[←hy];refine PA cC (cs:=(aE y).toArray) fF rfl rfl rfl (by kernel_rfl) rfl ?_;intro w8 hg8 hs8 hf8;have ho8:bS 10 aE 37 w8.heap (some ⟨w7.heap.size,0,none⟩) 1 [y]:=cE (xs:=[y]) aB (by simpa using hg8) (by show 1≤maxLen;decide);refine Pu aB rfl cC rfl rfl (ho7.SN hf8) (ho8.vw aB) (by simp only[S5,Tb,S2];omega) (by simp only[S5,Tb,S2];unfold maxLen;omega) rfl ?_;intro o9 c9 w9 ho9 hf9 hr9 hn9;rw[hy,←kZ hp] at ho9 ⊢;have hF9:aA nob W w9:=(hF7.trans hf8).SJ hf9 hfo.step;have hfo9:Fr W.heap.size o9:=fL hfo hr9 (by have:=hF7.size;have:=hf8.size;omega);refine Gz 9 ?_;exact aG ⟨i+1,o9,c9⟩ ⟨by omega,by omega,ho9,hfo9,hF9⟩ (by show ps.length-(i+1)<ps.length-i;omega)
   have hgC:w6.heap[q]?=some (.cells (aE (bF p)).toArray 37 (0,0)):=by unfold bF;rw[eA (n:=10) (by omega)];exact hgB
   have hF7:=hF6;have ho7:=ho6
   rename World=>w7
   refine Gz 7 ?_;refine cL (Pi (cs:=aE (bF p)) aV rfl (bJ hgC 0 rfl)) ?_;obtain⟨y,hy⟩:∃ y,y=bF p:=⟨_,rfl⟩
   rw[←hy];refine PA cC (cs:=(aE y).toArray) fF rfl rfl rfl (by kernel_rfl) rfl ?_;intro w8 hg8 hs8 hf8;have ho8:bS 10 aE 37 w8.heap (some ⟨w7.heap.size,0,none⟩) 1 [y]:=cE (xs:=[y]) aB (by simpa using hg8) (by show 1≤maxLen;decide);refine Pu aB rfl cC rfl rfl (ho7.SN hf8) (ho8.vw aB) (by simp only[S5,Tb,S2];omega) (by simp only[S5,Tb,S2];unfold maxLen;omega) rfl ?_;intro o9 c9 w9 ho9 hf9 hr9 hn9;rw[hy,←kZ hp] at ho9 ⊢;have hF9:aA nob W w9:=(hF7.trans hf8).SJ hf9 hfo.step;have hfo9:Fr W.heap.size o9:=fL hfo hr9 (by have:=hF7.size;have:=hf8.size;omega);refine Gz 9 ?_;exact aG ⟨i+1,o9,c9⟩ ⟨by omega,by omega,ho9,hfo9,hF9⟩ (by show ps.length-(i+1)<ps.length-i;omega)
  refine Gz 2 ?_;refine aW [(0,_),(3,_),(4,_),(14,_)] ?_;refine Gz 15 ?_;have e:ps.take i=ps.take 40:=by
   by_cases k:i=40
   ·rw[k]
   ·rw[S9 (by omega),S9 (by omega)]
  rw[e] at ho2 ⊢;refine⟨_,rfl,o,c,rfl,ho2,hfo,hF2,ho2.vw aB,fun p hp=>?_⟩;obtain⟨r,hr,rfl⟩:=Tj.1 hp;exact((hv.SN hF2).2 r (TR hr)).mfew
 refine Gz 5 ?_;refine aW [(0,_),(3,_),(4,_),(14,_)] ?_;refine Gz 15 ?_;have e:ps.take i=ps.take 40:=by
  by_cases k:i=40
  ·rw[k]
  ·rw[S9 (by omega),S9 (by omega)]
 rw[e] at ho2 ⊢;refine⟨_,rfl,o,c,rfl,ho2,hfo,hF2,ho2.vw aB,fun p hp=>?_⟩;obtain⟨r,hr,rfl⟩:=Tj.1 hp;exact((hv.SN hF2).2 r (TR hr)).mfew
theorem D7{qs:List (NdH×Nd)}{ids:List Int}(G:GdT qs)(I:oX qs ids)(h1:qs.length≤3):64+((dD (aF qs ids) ids).length:Int)≤1048576:=by
 have F:=yW (qs:=qs) (fun q hq=>⟨G.ino q hq,(G.may q hq).2.2.2.2.2.2.1⟩);obtain⟨S,e,hI,hB,_⟩:=mA G I F;have e:(aF qs ids).s=S:=e;have hA:=DR G I;have hm:S.many≤4:=by
  have h1:=List.length_filter_le (fun r:Int=>decide (0<r)) S.refs;rw[hI.many];unfold qS;rw[hI.rl] at h1;omega
 have h2:=hI.bi;have h3:S.lst.length≤10440*S.many:=hB;have h4:=hI.bf;have hT:=F.tn;have hFB:=F.b;rw[Tb] at hT hFB;have hb:=CX F.t (aL qs).ds;have n4:=hA.n4;have n2:=hA.n2;have d1:=iJ (aF qs ids).s.ino;have d2:=iJ (aF qs ids).s.lst;have d3:=iJ (aH (aF qs ids).pl 4).1;have d4:=iJ (aH ids 2).1;have d5:=iJ (aF qs ids).s.fur;rw[e] at d1 d2 d5;have l1:(eI (aF qs ids)).length=(dA (aL qs).tails (aL qs).ds).1.B.length:=rfl;have l2:(dX (aF qs ids)).length=(eI (aF qs ids)).length+(dnW (aF qs ids).s.ino).length:=SR;have l3:(eH (aF qs ids)).length=(dX (aF qs ids)).length+(dnW (aF qs ids).s.lst).length:=SR;have l4:(eU (aF qs ids)).length=(eH (aF qs ids)).length+(dnW (aH (aF qs ids).pl 4).1).length:=SR;have l5:(fC (aF qs ids) ids).length=(eU (aF qs ids)).length+(dnW (aH ids 2).1).length:=SR;have l6:(dD (aF qs ids) ids).length=(fC (aF qs ids) ids).length+(dnW (aF qs ids).s.fur).length:=SR;rw[e] at l2 l3 l6;omega
theorem IF{D:Nat→Prop}(H:Array Obj):NdV D H bD:=
 ⟨⟨rfl,R7 0 (S3 _),fun h=>absurd rfl h⟩,⟨rfl,R7 0 (S3 _),fun h=>absurd rfl h⟩,⟨rfl,[],⟨S3 _,S3 _,fun h=>absurd rfl h,fun i x hx=>by simp at hx⟩,rfl,fun h=>absurd rfl h,fun i x y hx=>by simp at hx⟩⟩
theorem GF{qs:List (NdH×Nd)}{ids:List Int}(M:ImB qs ids)(hall:∀ m:Nat,1≤m→m≤qs.length→∃ q∈qs,q.2.ino.toNat=m):(aF qs ids).s.many=qs.length:=by
 obtain⟨h,h2⟩:=M.st;show (stB qs ids).many=qs.length;rw[h.many];unfold qS;have hl:=h.rl;have h0:¬ 0<(stB qs ids).refs.getD 0 0:=fun hc=>by
  obtain⟨k,q,i,xr,o,hq,hi,_⟩:=h.std 0 hc;have:=M.G.ino q (S1 hq);omega
 have hp:∀ m:Nat,1≤m→m≤qs.length→0<(stB qs ids).refs.getD m 0:=fun m h1 hm=>by
  obtain⟨q,hq,e⟩:=hall m h1 hm;rw[←e];exact h2 q hq
 generalize (stB qs ids).refs=L at hl h0 hp ⊢
 match L,hl with
|x::r,hl=>
   rw[List.filter_cons_of_neg (by simpa using h0),List.filter_eq_self.2 (fun z hz=>?_)]
   ·rw[Td] at hl;omega
   · obtain⟨i,hi⟩:=Te hz
     have hil:=(SV.1 hi).1;rw[Td] at hl;have h:=hp (i+1) (by omega) (by omega);rw[S6,List.getElem?_cons_succ,hi] at h;simpa using h
theorem A3:∀ (L:List Nd) (s:FSt),(∀ x∈L,x.kind≠2)→L.foldl cN s=s
|[],_,_=>rfl
|x::r,s,h=>by
   rw[TY,tX (.inl (h x (by simp)))];exact A3 r s (fun y hy=>h y (by simp[hy]))
theorem GY{l:List Int}(hp:l.Pairwise (· < ·))(h:∀ z∈l,z=0):l.length≤1:=by
 match l,hp,h with
|[],_,_=>exact S3 _
|[_],_,_=>exact SY _
|a::b::_,hp,h=>
   have h1:=h a (by simp);have h2:=h b (by simp);have h3:=(List.pairwise_cons.1 hp).1 b (by simp);omega
theorem E8:cQ [bD]=[bD]:=by
 unfold cQ;rw[show fQ [bD]=[bD] from List.mergeSort_singleton _];rfl
theorem FW{ids:List Int}(M:ImB [bD] ids):(fB [bD] ids (aF [bD] ids)) 1=1∧(fB [bD] ids (aF [bD] ids)) 7=1∧(fB [bD] ids (aF [bD] ids)) 8=0∧(fB [bD] ids (aF [bD] ids)) 2=64:=by
 have ef:aL [bD]=⟨⟨[],[]⟩,[],Tf 2 bA⟩:=A3 [bD.2] _ (fun x hx=>by rw[Tv] at hx;subst hx;decide);have e1:=GF M (fun m h1 hm=>⟨bD,by simp,by have:m≤1:=hm;show (1:Int).toNat=m;omega⟩);have e2:ids.length=1:=by
  have h1:=M.ids0.1;have h2:=GY M.I.1 (fun z hz=>by have h:=(M.I.2 z).1 hz;simpa[gN,bD,nd0] using h);omega
 refine⟨?_,?_,?_,?_⟩
 · show ((aF [bD] ids).s.many:Int)=1
   rw[e1];rfl
 · show (ids.length:Int)=1
   rw[e2];rfl
 · show (((dA (aL [bD]).tails (aL [bD]).ds).2.length:Nat):Int)=0
   rw[ef];rfl
 · show 64+(((dA (aL [bD]).tails (aL [bD]).ds).1.B.length:Nat):Int)=64
   rw[ef];rfl
theorem E9(W:World):Calls Tryz.prog 8 #[] W (Ret fun v w'=>v=.bool true∧aA nob W w'):=by
 refine cS 44 [] Tryz.func8 ?_;refine Gz 7 ?_;refine cL (bU (aE bD) LR fF) ?_;refine PA cC (cs:=(aE bD).toArray) fF rfl rfl rfl (by kernel_rfl) rfl ?_;intro w2 hg2 hs2 hf2;have ho2:bS 10 aE 37 w2.heap (some ⟨W.heap.size,0,none⟩) 1 [bD]:=cE (xs:=[bD]) aB (by simpa using hg2) (by show 1≤maxLen;decide);refine O6 MW rfl (vZ (some ⟨W.heap.size,0,none⟩) 1 [bD] w2 ⟨ho2.vw aB,by simp only[Tv];rintro p rfl;exact IF _⟩ (by simp only[Tv];rintro p rfl;exact ID) (by simp only[Tv];rintro p rfl;exact IE) (by decide)) rfl ?_;rintro _ w3 hB;obtain⟨hz,ids,o3,c3,hIds,rfl,ho3,hfr3,hf3⟩:=hB.resolve_left (fun h=>h.1 Br);have hG:=Cj Br (by decide);rw[E8] at hG hIds ho3 ⊢;have M:ImB [bD] ids:=⟨hG,hIds,D7 hG hIds (by decide)⟩
 rw[M.img] at ho3 ⊢;obtain⟨s1,s2,s3,s4⟩:=FW M;have himl:(imB [bD] ids).length≤1048576:=by unfold imB;rw[SR,jZ];have:=M.sz;omega
 obtain⟨F,hF⟩:∃ F,F=fB [bD] ids (aF [bD] ids):=⟨_,rfl⟩
 have hsp:=M.sup;rw[←hF] at hsp s1 s2 s3 s4;refine cA 9 Lj (pR w3) ?_;rintro _ w4 ⟨rfl,hf4⟩;refine O9 Fj rfl ?_;intro w5 hg5 hs5 hf5;refine Pf (vs:=tab) pU rfl rfl qZ hg5 (by rw[nI,Tw]) ?_;intro w6 hg6 hs6 hf6;obtain⟨tp,hp⟩:∃ p,p=w4.heap.size:=⟨_,rfl⟩
 have hF6:aA nob w3 w6:=(hf4.trans hf5).SJ hf6 (fun k hk=>.inr (by have h:k=w4.heap.size:=hk;have:=hf4.size;omega));rw[←hp] at hg6 ⊢;have ht6:TbV w6.heap tp:=hg6;refine Gz 5 ?_;refine O6 ME rfl (vL tp o3 c3 (imB [bD] ids) w6 ht6 (ho3.SN hF6).vw (by omega)) rfl ?_;rw[hsp];rintro _ w7 ⟨rfl,hf7⟩;refine Gz 3 ?_;refine O9 oY rfl ?_;intro w8 hg8 hs8 hf8;obtain⟨b,eb⟩:∃ b,b=w7.heap.size:=⟨_,rfl⟩
 rw[←eb] at hg8 ⊢;refine sA rfl dE (by exact dG _) hg8 ?_;intro w9 hg9 hs9 hf9;have hF9:aA nob w7 w9:=hf8.tw hf9;refine Gz 6 ?_;refine cL (PQ (PK rfl rfl) rfl) ?_;refine Gz 2 ?_;refine cW (PQ (PK rfl rfl) rfl) ?_;refine Gz 3 ?_;refine cW (O8 aK rfl (aD (i:=1) hg9 rfl)) ?_;refine cW (PQ (PK rfl rfl) s1) ?_;refine Gz 3 ?_;refine cW (O8 aK rfl (aD (i:=7) hg9 rfl)) ?_;refine cW (PQ (PK rfl rfl) s2) ?_;refine Gz 3 ?_;refine cW (O8 aK rfl (aD (i:=8) hg9 rfl)) ?_;refine cW (PQ (PK rfl rfl) s3) ?_;refine Gz 3 ?_;refine cW (O8 aK rfl (aD (i:=2) hg9 rfl)) ?_;refine cW (PQ (PK rfl rfl) s4) ?_;refine Gz 6 ?_;exact⟨_,rfl,rfl,(((hf2.trans hf3).trans hF6).trans hf7).trans hF9⟩
end
section
open Go Go.RowKit Go.Maps
def Lx(ps:List (NdH×Nd))(r:By×Int):Prop:=(chk (nds ps)≠0∧r=([],chk (nds ps)))∨(chk (nds ps)=0∧∃ ids,oX (cQ ps) ids∧r=pI (cQ ps) ids)
theorem BuP.res{W w':World}{ps:List (NdH×Nd)}{v:Value}(h:BuP W ps v w'):∃ (r:By×Int) (o:Option Addr) (c:Nat),v=.tuple #[.slice o r.1.length c,iV r.2]∧Lx ps r∧Own b8 5 w'.heap o c r.1∧Fr W.heap.size o∧aA nob W w':=by
 rcases h with⟨h1,rfl,h2⟩|⟨h1,ids,o,c,h2,rfl,h3,h4,h5⟩
 ·exact⟨([],chk (nds ps)),none,0,rfl,.inl ⟨h1,rfl⟩,R8,R6,h2⟩
 ·exact⟨_,o,c,rfl,.inr ⟨h1,ids,h2,rfl⟩,h3,h4,h5⟩
theorem aR.old{W w:World}{o:Option Addr}{c:Nat}{ps:List (NdH×Nd)}(h:aR (fun k=>k<W.heap.size) w.heap o c ps)(hs:W.heap.size≤w.heap.size):aR (fun k=>k<w.heap.size) w.heap o c ps:=⟨h.1,fun p hp=>(h.2 p hp).mono (fun k hk=>TQ hk hs)⟩
theorem IU{ps:List (NdH×Nd)}(h:∀ p∈ps,okN p.2∧smN p.2):∀ p∈iF ps,okN p.2:=by
 intro p hp;obtain⟨q,hq,rfl⟩:=Tj.1 hp;exact(h q (TR hq)).1
theorem Iw{ps:List (NdH×Nd)}(h:∀ p∈ps,okN p.2∧smN p.2):∀ p∈iF ps,smN p.2:=by
 intro p hp;obtain⟨q,hq,rfl⟩:=Tj.1 hp;exact(h q (TR hq)).2.mfew
end
section
open Go Go.RowKit Go.Maps
def nmT(n:Nd):Nat:=(n.names.map (·.length)).sum
def fV(n:Nd):Nat:=600+n.data.length+n.tgt.length+500*n.xs.length+nmT n
def mJ(l:List Nd):Nat:=600+(l.map fV).sum
def wI(q:Nd):Nat:=22+q.tgt.length
def wF(q:Nd):Nat:=1+458*q.xs.length
def wL(q:Nd):Nat:=(aT q.names).length+6
def jY(qs:List (NdH×Nd))(f:Nd→Nat)(V:List Int):Nat:=(V.map fun j=>f (ndB qs j)).sum
theorem Dr:∀ {l:List Nat} {x:Nat},x∈l→x≤l.sum
|a::l,x,h=>by
   rw[TU];rcases Tm.1 h with rfl|h
   ·omega
   ·have:=Dr h;omega
theorem Ji(n:Nd):(aT n.names).length≤nmT n:=by
 unfold aT;rw[S6];cases h:n.names[n.names.length-1]? with
|none=>exact S3 _
|some x=>exact Dr (Tj.2 ⟨x,S1 h,rfl⟩)
theorem Au{l m:List Nat}(h:l.Perm m):l.sum=m.sum:=by
 induction h with
|nil=>rfl
|cons x _ ih=>rw[TU,TU,ih]
|swap x y l=>simp only[TU];omega
|trans _ _ a b=>exact a.trans b
theorem sH(qs:List (NdH×Nd))(f:Nd→Nat)(V U:List Int):jY qs f (V++U)=jY qs f V+jY qs f U:=by
 unfold jY;rw[Um,sum_append]
theorem pB(qs:List (NdH×Nd))(f:Nd→Nat)(k:Int)(U:List Int):jY qs f (k::U)=f (ndB qs k)+jY qs f U:=by
 unfold jY;rw[TD,TU]
theorem G6(s:BSt){X:List Xa}(hX:dS X):(bH s X).2.fur.length≤s.fur.length+(1+458*X.length)∧(bH s X).2.ino=s.ino∧(bH s X).2.lst=s.lst:=by
 unfold bH
 split
 ·exact⟨T0 _ _,rfl,rfl⟩
 · rename_i h0
   split
   ·exact⟨T0 _ _,rfl,rfl⟩
   · refine⟨?_,rfl,rfl⟩
     show (s.fur++(iS X).1).length≤_;rw[lL hX (by omega),SR];have hb:∀ x∈X,x.1.length≤255∧x.2.length≤200:=fun x hx=>by
      obtain⟨i,hi,rfl⟩:=TG hx;obtain⟨_,g2,_,g4⟩:=hX.1 i hi;have e:X.getD i x0=X[i]:=by simp[S6,hi]
      rw[e] at g2 g4;omega
     have key:∀ Y:List Xa,(∀ x∈Y,x.1.length≤255∧x.2.length≤200)→(Y.flatMap iW).length≤457*Y.length:=by
      intro Y
      induction Y with
     |nil=>intro _;exact SY _
     |cons x r ih=>
        intro hy;have h1:=hy x (by simp);have h2:=ih (fun y h=>hy y (by simp[h]));have e:(iW x).length=(1+x.1.length)+(1+x.2.length):=by unfold iW;rw[SR,oP,oP]
        rw[TN,SR,Td,e];omega
     have h1:=key X hb;have e:(cO X).length=(X.flatMap iW).length+1:=by unfold cO;rw[Td]
     rw[e];show s.fur.length+_≤_;omega
theorem F9(F:Nat→Int)(T:By):(mE F T).1.length≤22+T.length:=by
 unfold mE
 split
 · rename_i h
   show (yE F T).2.length≤_;rw[De h]
   split
   ·omega
   ·split<;>omega
 ·exact S3 _
section
variable {qs:List (NdH×Nd)}{ids:List Int}{files:List Ino}
theorem oL(k:Int)(i:Ino)(s:BSt)(hX:dS (ndB qs k).xs):(dJ qs ids k i s).ino.length≤s.ino.length+(22+i.2.length)∧(dJ qs ids k i s).fur.length≤s.fur.length+wF (ndB qs k)∧(dJ qs ids k i s).lst=s.lst:=by
 obtain⟨h1,h2,h3⟩:=G6 s hX;refine⟨?_,h1,h3⟩;show ((bH s (ndB qs k).xs).2.ino++_).length≤_;rw[SR,h2];have:=F9 (inB qs ids k i (bH s (ndB qs k).xs).1).1 (inB qs ids k i (bH s (ndB qs k).xs).1).2;have e:(inB qs ids k i (bH s (ndB qs k).xs).1).2.length=i.2.length:=rfl;omega
theorem wW:∀ L:List Ent,(bL L).length=(L.map fun x=>x.1.length+6).sum
|[]=>rfl
|x::r=>by
   show (kQ x++bL r).length=_;rw[SR,lC,wW r,TD,TU]
theorem Ga(L:List Ent):(gC L).1.length≤(L.map fun x=>x.1.length+6).sum:=by
 unfold gC
 split
 ·exact Nat.le_of_eq (wW L)
 ·exact S3 _
theorem CP{wr:Int→BSt→BSt}{P:Int→List Int}:∀ (ys:List Int) (s:BSt),(∀ z∈ys,∀ s,(wr z s).ino.length≤s.ino.length+jY qs wI (P z)∧(wr z s).fur.length≤s.fur.length+jY qs wF (P z)∧(wr z s).lst.length+wL (ndB qs z)≤s.lst.length+jY qs wL (P z)) →
 (wrK wr qs ys s).1.ino.length≤s.ino.length+jY qs wI (ys.flatMap P)∧(wrK wr qs ys s).1.fur.length≤s.fur.length+jY qs wF (ys.flatMap P)∧(wrK wr qs ys s).1.lst.length+((wrK wr qs ys s).2.map fun x=>x.1.length+6).sum≤s.lst.length+jY qs wL (ys.flatMap P)
|[],s,_=>⟨SY _,SY _,SY _⟩
|z::r,s,h=>by
   obtain⟨a1,a2,a3⟩:=h z (by simp) s;obtain⟨b1,b2,b3⟩:=CP r (wr z s) (fun y hy=>h y (by simp[hy]));rw[TN,sH,sH,sH];have e1:(wrK wr qs (z::r) s).1=(wrK wr qs r (wr z s)).1:=rfl;have e2:((wrK wr qs (z::r) s).2.map fun x=>x.1.length+6).sum=wL (ndB qs z)+((wrK wr qs r (wr z s)).2.map fun x=>x.1.length+6).sum:=by
    show (List.map _ (_::(wrK wr qs r (wr z s)).2)).sum=_;rw[TD,TU];rfl
   rw[e1,e2];exact⟨by omega,by omega,by omega⟩
theorem CS(G:GdT qs)(hf:∀ i,(files.getD i bA).2=[]):∀ (n k:Nat) (q:NdH×Nd) (s:BSt),qs[k]?=some q→17≤q.2.names.length+n →
 (wrB qs ids files n k s).ino.length≤s.ino.length+jY qs wI (mF qs n k)∧(wrB qs ids files n k s).fur.length≤s.fur.length+jY qs wF (mF qs n k)∧(wrB qs ids files n k s).lst.length+wL q.2≤s.lst.length+jY qs wL (mF qs n k)
|0,k,q,s,hq,hd=>by have:=G.dep q (S1 hq);omega
|n+1,k,q,s,hq,hd=>by
   have e:mF qs (n+1) k=(k:Int)::(aX qs q.2.names qs.length).flatMap (mF qs n):=by show (k:Int)::_=_;rw[bO hq]
   have hm:=G.may q (S1 hq);have hX:dS (ndB qs (k:Int)).xs:=by rw[bO hq];exact hm.2.2.2.2.2.2.2.2
   rw[e,pB,pB,pB,bO hq];have hwF:wF (ndB qs (k:Int))=wF q.2:=by rw[bO hq]
   have h22:22≤wI q.2:=T0 _ _;unfold wrB
   split
   ·exact⟨by omega,by omega,by omega⟩
   · split
     · obtain⟨h1,h2,h3⟩:=oL (ids:=ids) (k:Int) (files.getD (ndB qs (k:Int)).ino.toNat bA) s hX
       rw[hf] at h1;rw[h3,hwF] at *;exact⟨by have:([]:By).length=0:=rfl;omega,by omega,by omega⟩
     · split
       · obtain⟨h1,h2,h3⟩:=oL (ids:=ids) (k:Int) (zF,(ndB qs (k:Int)).tgt) s hX
         have e2:((zF,(ndB qs (k:Int)).tgt):Ino).2=q.2.tgt:=by rw[bO hq]
         rw[e2] at h1;rw[h3,hwF] at *;exact⟨by unfold wI;omega,by omega,by omega⟩
       · split
         · rw[bO hq]
           obtain⟨b1,b2,b3⟩:=CP (qs:=qs) (wr:=wrB qs ids files n) (P:=mF qs n) (aX qs q.2.names qs.length) s (fun z hz s=>by
            obtain⟨j,p,rfl,hj,hn⟩:=iH hz;have:=CS G hf n j p s hj (by rw[hn,SR,S5];omega);rw[bO hj];exact this)
           obtain⟨r,hr⟩:∃ r,r=wrK (wrB qs ids files n) qs (aX qs q.2.names qs.length) s:=⟨_,rfl⟩
           rw[←hr] at b1 b2 b3 ⊢;have hp:=Ga r.2;obtain⟨h1,h2,h3⟩:=oL (ids:=ids) (k:Int) (Bg r.1 (gC r.2).1) { r.1 with lst:=r.1.lst++(gC r.2).1 } hX;have e2:(Bg r.1 (gC r.2).1).2=[]:=rfl;rw[e2] at h1;rw[h3,hwF] at *;have e3:({ r.1 with lst:=r.1.lst++(gC r.2).1 }:BSt).lst.length=r.1.lst.length+(gC r.2).1.length:=SR;have e4:({ r.1 with lst:=r.1.lst++(gC r.2).1 }:BSt).ino=r.1.ino:=rfl;have e5:({ r.1 with lst:=r.1.lst++(gC r.2).1 }:BSt).fur=r.1.fur:=rfl;have e6:([]:By).length=0:=rfl;rw[e4] at h1;rw[e5] at h2;rw[e3];exact⟨by omega,by omega,by omega⟩
         · obtain⟨h1,h2,h3⟩:=oL (ids:=ids) (k:Int) (zF,[]) s hX
           have e2:((zF,[]):Ino).2=([]:By):=rfl;rw[e2] at h1;rw[h3,hwF] at *;exact⟨by have:([]:By).length=0:=rfl;omega,by omega,by omega⟩
theorem EU(s:FSt)(x:Nd)(hx:x.data.length≤4096)(hf:∀ i,(s.files.getD i bA).2=[]):(cN s x).ds.B.length+135*(cN s x).tails.length≤s.ds.B.length+135*s.tails.length+(x.data.length+359)∧(∀ i,((cN s x).files.getD i bA).2=[])∧(cN s x).tails.length≤s.tails.length+1:=by
 unfold cN
 split
 ·exact⟨by omega,hf,UU _⟩
 · have h1:(fA 64 s.ds x.data).1.B.length≤s.ds.B.length+135*(x.data.length/128):=by
    have h1:(bY x.data).length≤135*(x.data.length/128):=(jI x.data (x.data.length/128)).1;unfold fA Fc
    split
    ·exact T0 _ _
    · split
      ·exact T0 _ _
      · show (s.ds.B++bY x.data).length≤_
        rw[SR];omega
   have h2:(gH s.tails (cV x.data)).1.length≤s.tails.length+1:=by
    unfold gH
    split
    ·exact UU _
    · split
      · show (s.tails++_).length≤_
        rw[SR];exact SY _
      · show (s.tails.set _ _).length≤_
        rw[TL];exact UU _
   refine⟨?_,fun i=>?_,h2⟩
   · show (fA 64 s.ds x.data).1.B.length+135*(gH s.tails (cV x.data)).1.length≤_
     omega
   · show ((s.files.set x.ino.toNat _).getD i bA).2=[]
     rw[S6,List.getElem?_set];by_cases h:x.ino.toNat=i
     · rw[SQ h]
       split
       ·rfl
       ·rfl
     ·rw[SP h];exact hf i
theorem DN:∀ (L:List Nd) (s:FSt),(∀ x∈L,x.data.length≤4096)→(∀ i,(s.files.getD i bA).2=[])→(L.foldl cN s).ds.B.length+135*(L.foldl cN s).tails.length≤s.ds.B.length+135*s.tails.length+(L.map fun x=>x.data.length+359).sum∧(∀ i,((L.foldl cN s).files.getD i bA).2=[])∧(L.foldl cN s).tails.length≤s.tails.length+L.length
|[],s,_,hf=>⟨SY _,hf,SY _⟩
|x::r,s,hL,hf=>by
   obtain⟨h1,h2,h3⟩:=EU s x (hL x (by simp)) hf;obtain⟨k1,k2,k3⟩:=DN r (cN s x) (fun y hy=>hL y (by simp[hy])) h2;rw[TY,TD,TU,Td];exact⟨by omega,k2,by omega⟩
theorem EG(f:Nd→Nat):jY qs f ((TM qs.length).map (fun(i:Nat)=>(i:Int)))=((nds qs).map f).sum:=by
 unfold jY nds;congr 1;rw[T3,T3];apply TP;intro i;rw[Ts,Ts];by_cases hi:i<qs.length
 · have e:=bO (SS hi)
   rw[List.getElem?_range hi,SS hi];show some (f (ndB qs (i:Int)))=_;rw[e];rfl
 · have h1:(TM qs.length)[i]?=none:=Ty (by rw[List.length_range];omega)
   have h2:qs[i]?=none:=Ty (by omega);rw[h1,h2];rfl
theorem Ip(G:GdT qs)(f:Nd→Nat):jY qs f (mF qs 17 0)=((nds qs).map f).sum:=by
 rw[←EG f];exact Au ((Ef G).map _)
theorem Io(l:List Nd)(hT:∀ n∈l,n.tgt.length≤200)(hN:∀ n∈l,(aT n.names).length≤255) :
 ∃ D T X A:Nat,(l.map fun x=>x.data.length+359).sum=D+359*l.length∧(l.map wI).sum=22*l.length+T∧T≤200*l.length∧(l.map wF).sum=l.length+458*X∧(l.map wL).sum=6*l.length+A∧A≤255*l.length∧D+T+500*X+A+600*l.length+600≤mJ l:=by
 induction l with
|nil=>exact⟨0,0,0,0,rfl,rfl,SY _,rfl,rfl,SY _,SY _⟩
|cons x r ih=>
   obtain⟨D,T,X,A,h1,h2,h3,h4,h5,h6,h7⟩:=ih (fun n hn=>hT n (by simp[hn])) (fun n hn=>hN n (by simp[hn]));have hx:=hT x (by simp);have hn:=hN x (by simp);have hl:=Ji x;unfold mJ at h7 ⊢;simp only[TD,TU,Td];refine⟨D+x.data.length,T+x.tgt.length,X+x.xs.length,A+(aT x.names).length,by omega,by unfold wI at h2 ⊢;omega,by omega,by unfold wF at h4 ⊢;omega,by unfold wL at h5 ⊢;omega,by omega,by unfold fV at h7 ⊢;omega⟩
end
theorem GW{qs:List (NdH×Nd)}{ids:List Int}(M:ImB qs ids):(imB qs ids).length≤mJ (nds qs):=by
 have G:=M.G;have F:=M.fi;have hz0:∀ i,((Tf (qs.length+1) bA).getD i bA).2=[]:=fun i=>by
  rw[S6,UL]
  split<;>rfl
 obtain⟨f1,f2,f3⟩:=DN (nds qs) ⟨⟨[],[]⟩,[],Tf (qs.length+1) bA⟩ (fun x hx=>by
  obtain⟨q,hq,rfl⟩:=Tj.1 hx;exact(G.may q hq).2.2.2.2.2.2.1) hz0
 have ef:(nds qs).foldl cN ⟨⟨[],[]⟩,[],Tf (qs.length+1) bA⟩=aL qs:=rfl;rw[ef] at f1 f2 f3;obtain⟨r,hr,hrn,hrk⟩:=G.root;obtain⟨w1,w2,w3⟩:=CS (ids:=ids) (files:=(aL qs).files) G f2 17 0 r (jV (qs.length+1)) hr (by omega);have es:wrB qs ids (aL qs).files 17 ((0:Nat):Int) (jV (qs.length+1))=(aF qs ids).s:=rfl;rw[es] at w1 w2 w3;have e0:((0:Nat):Int)=0:=rfl;rw[e0,Ip G] at w1 w2 w3;have hb:=CX F.t (aL qs).ds;have hn:(nds qs).length=qs.length:=by simp[nds]
 have hpl:=M.pln.1;have hidl:=lT M.I;have n4:=lM (plB qs ids) 4 (.inr rfl) M.pl_in;have n2:=lM ids 2 (.inl rfl) M.ids_in;obtain⟨D,T,X,A,h1,h2,h3,h4,h5,h6,h7⟩:=Io (nds qs) (fun n hn=>by
  obtain⟨q,hq,rfl⟩:=Tj.1 hn;have hT:=(G.may q hq).2.2.2.2.2.2.2.1;unfold okT at hT
  split at hT
  ·exact hT.2.1
  ·rw[hT];exact S3 _) (fun n hn=>by
  obtain⟨q,hq,rfl⟩:=Tj.1 hn;unfold aT;rw[S6];cases h:q.2.names[q.2.names.length-1]? with
 |none=>exact S3 _
 |some x=>exact(iP (G.nmv q hq x (S1 h))).1)
 have d1:=iJ (aF qs ids).s.ino;have d2:=iJ (aF qs ids).s.lst;have d3:=iJ (aH (aF qs ids).pl 4).1;have d4:=iJ (aH ids 2).1;have d5:=iJ (aF qs ids).s.fur;have l1:(eI (aF qs ids)).length=(dA (aL qs).tails (aL qs).ds).1.B.length:=rfl;have l2:(dX (aF qs ids)).length=(eI (aF qs ids)).length+(dnW (aF qs ids).s.ino).length:=SR;have l3:(eH (aF qs ids)).length=(dX (aF qs ids)).length+(dnW (aF qs ids).s.lst).length:=SR;have l4:(eU (aF qs ids)).length=(eH (aF qs ids)).length+(dnW (aH (aF qs ids).pl 4).1).length:=SR;have l5:(fC (aF qs ids) ids).length=(eU (aF qs ids)).length+(dnW (aH ids 2).1).length:=SR;have l6:(dD (aF qs ids) ids).length=(fC (aF qs ids) ids).length+(dnW (aF qs ids).s.fur).length:=SR;have li:(imB qs ids).length=64+(dD (aF qs ids) ids).length:=by unfold imB;rw[SR,jZ]
 have b0:(jV (qs.length+1)).ino.length=0∧(jV (qs.length+1)).fur.length=0∧(jV (qs.length+1)).lst.length=0:=⟨rfl,rfl,rfl⟩
 have c0:(⟨⟨[],[]⟩,[],Tf (qs.length+1) bA⟩:FSt).ds.B.length=0∧(⟨⟨[],[]⟩,[],Tf (qs.length+1) bA⟩:FSt).tails.length=0:=⟨rfl,rfl⟩
 have p0:(plB qs ids).length=(aF qs ids).pl.length:=rfl;have n4b:(aH (aF qs ids).pl 4).1.length=4*(plB qs ids).length:=n4;have hn1:=G.n.1;obtain⟨b1,b2,b3⟩:=b0;obtain⟨c1,c2⟩:=c0;rw[b1] at w1;rw[b2] at w2;rw[b3] at w3;rw[c1,c2] at f1;rw[c2] at f3;rw[h2] at w1;rw[h4] at w2;rw[h5] at w3;rw[h1] at f1;have n2b:(aH ids 2).1.length=2*ids.length:=n2;rw[n2b] at d4;rw[n4b] at d3;omega
end
section
open Go Go.RowKit Go.Maps
theorem F1{ps:List (NdH×Nd)}{r:By×Int}(hl:ps.length≤40)(h:Lx ps r)(h0:r.2=0):∃ (ids:List Int) (M:ImB (cQ ps) ids),chk (nds ps)=0∧r=(imB (cQ ps) ids,0):=by
 rcases h with⟨h1,rfl⟩|⟨h1,ids,hi,rfl⟩
 ·exact absurd h0 h1
 · have hs:¬ 1048576<64+((dD (aF (cQ ps) ids) ids).length:Int):=fun hc=>by
    unfold pI at h0;rw[SQ hc] at h0;exact absurd h0 (by decide)
   have M:ImB (cQ ps) ids:=⟨Cj h1 hl,hi,by omega⟩
   exact⟨ids,M,h1,M.img⟩
theorem II{ps:List (NdH×Nd)}{r:By×Int}(hl:ps.length≤40)(h:Lx ps r)(h0:r.2≠0):r.1=[]:=by
 rcases h with⟨h1,rfl⟩|⟨h1,ids,hi,rfl⟩
 ·rfl
 · unfold pI at h0 ⊢
   split
   ·rfl
   · rename_i hc
     rw[SP hc] at h0;exact absurd rfl h0
theorem IG{ps:List (NdH×Nd)}{ids:List Int}(M:ImB (cQ ps) ids):(fB (cQ ps) ids (aF (cQ ps) ids)) 0=((imB (cQ ps) ids).length:Int):=by
 unfold imB;rw[SR,jZ];show 64+((dD (aF (cQ ps) ids) ids).length:Int)=_;omega
theorem EF{ps:List (NdH×Nd)}:mJ (nds (cQ ps))=mJ (nds ps):=by
 have e:((nds (cQ ps)).map fV).sum=((nds ps).map fV).sum:=by
  have h1:(nds (cQ ps)).map fV=(nds (fQ ps)).map fV:=by
   unfold cQ BZ nds;rw[T3,T3,T3];rfl
  rw[h1];exact Au (((jF ps).map (·.2)).map fV)
 unfold mJ;rw[e]
theorem CZ{ps:List (NdH×Nd)}{k:Nat}{p:NdH×Nd}(h:ps[k]?=some p):((nds (ps.take (k+1))).map fV).sum=((nds (ps.take k)).map fV).sum+fV p.2:=by rw[B8 h,Um,sum_append];simp
theorem J9{l:List By}{k:Nat}{s:By}(h:l[k]?=some s):((l.take (k+1)).map (·.length)).sum=((l.take k).map (·.length)).sum+s.length:=by
 obtain⟨hl,rfl⟩:=SV.1 h;rw[List.take_succ_eq_append_getElem hl,Um,sum_append];simp
theorem wrL(a b:Int):IntKind.i64.wrap (IntKind.i64.wrap a+b)=IntKind.i64.wrap (a+b):=by
 unfold IntKind.wrap;simp only[IntKind.bits,IntKind.signed,Bool.true_and,decide_eq_true_eq,ge_iff_le]
 split<;>split<;>omega
theorem wrR(a b:Int):IntKind.i64.wrap (a+IntKind.i64.wrap b)=IntKind.i64.wrap (a+b):=by
 rw[Int.add_comm,wrL,Int.add_comm]
variable {D:Nat→Prop}
theorem Ar(lo:Option Addr)(lc:Nat)(ps:List (NdH×Nd))(W:World)(hv:aR D W.heap lo lc ps) :
 CA 16 [.slice lo ps.length lc] W fun v w'=>v=iV (IntKind.i64.wrap (mJ (nds ps):Nat))∧aA nob W w':=by
 have h63:=hv.1.SM;refine cS 43 [(0,_)] Tryz.func16 ?_;refine Gz 19 ?_;refine Pb (β:=Nat) (fun i=>[(3,iV (IntKind.i64.wrap ((600+((nds (ps.take i)).map fV).sum:Nat):Int))),(8,.slice lo ps.length lc),(9,iV ps.length),(10,iV i)]) (fun i w=>i≤ps.length∧aA nob W w) (fun i=>ps.length-i) 0 ⟨rfl,rfl,rfl,rfl,trivial⟩ ⟨S3 _,RY _ _⟩ ?_;rintro i w2 ⟨hi,hF2⟩;refine fK 2 ?_ ?_<;>intro h11
 ·have hil:i<ps.length:=by omega
  obtain⟨p,hp⟩:∃ p,ps[i]?=some p:=⟨_,SS hil⟩
  have hv2:=hv.SN hF2;have hst:=CZ hp;obtain⟨S,hS⟩:∃ S,S=((nds (ps.take i)).map fV).sum:=⟨_,rfl⟩
  rw[←hS] at hst;have hmn:fV p.2=600+p.2.data.length+p.2.tgt.length+500*p.2.xs.length+(p.2.names.map (·.length)).sum:=rfl;refine Gz 10 ?_;refine cL (Pa cC rfl rfl hv2.1.non (by omega)) ?_;refine cL (Pi (cs:=aE p) aV rfl (fun j v hj=>hv2.1.rowZ i rfl hp j v hj)) ?_;refine O9 fF rfl ?_;intro w3 hg3 hs3 hf3;obtain⟨r,hr⟩:∃ r,r=w2.heap.size:=⟨_,rfl⟩
  rw[←hr] at hg3 ⊢;refine Pf (vs:=aE p) aV rfl rfl (aB p).2 hg3 rfl ?_;intro w4 hg4 hs4 hf4;have hF4:aA nob W w4:=hF2.trans (hf3.SJ hf4 (fun k e=>.inr (by have e:k=r:=e;omega)));have hn4:=(hv.SN hF4).2 p (S1 hp);refine Gz 7 ?_;refine cL (O7 (u:=iV p.2.data.length) (Qc aN rfl) (by rw[←hn4.2.1.1])) ?_;refine cL (PP rfl rfl) ?_;refine Gz 2 ?_;refine cL (PG ty9 rfl) ?_;refine cL (PP rfl rfl) ?_;refine Gz 2 ?_;refine cL (O7 (u:=iV p.2.xs.length) (Qc kA rfl) (by rw[←hn4.2.2.1])) ?_;refine cL (Qm rfl rfl) ?_;refine cL (PP rfl rfl) ?_;refine cL (PP rfl rfl) ?_;refine Gz 6 ?_;refine cL (O7 (u:=.slice p.1.names.a p.2.names.length p.1.names.c) (O8 iR rfl (aD hg4 rfl)) (by rw[←hn4.1.1];rfl)) ?_;have hnv:=hn4.1.2.1;have hn63:=hnv.SM;refine Gz 5 ?_;refine Pb (β:=Nat) (fun j=>[(3,iV (IntKind.i64.wrap ((600+S+(600+p.2.data.length+p.2.tgt.length+500*p.2.xs.length)+((p.2.names.take j).map (·.length)).sum:Nat):Int))),(8,.slice lo ps.length lc),(9,iV ps.length),(10,iV i),(30,.slice p.1.names.a p.2.names.length p.1.names.c),(31,iV p.2.names.length),(32,iV j)]) (fun j w=>j≤p.2.names.length∧w=w4) (fun j=>p.2.names.length-j) 0 ⟨congrArg (fun z:Int=>some (Value.int .i64 z)) (by rw[hS];simp only[wrL,wrR,U8,U2,List.sum_nil];exact congrArg _ (by omega)),rfl,rfl,rfl,rfl,rfl,rfl,trivial⟩ ⟨S3 _,rfl⟩ ?_;rintro j w5 ⟨hj,hw⟩;subst hw;refine fK 2 ?_ ?_<;>intro h33
  ·have hjl:j<p.2.names.length:=by omega
   obtain⟨x,hx⟩:∃ x,p.2.names[j]?=some x:=⟨_,SS hjl⟩
   have hxd:p.2.names.getD j []=x:=by rw[S6,hx];rfl
   have hnt:=J9 hx;refine Gz 10 ?_;refine cL (O5 mD rfl rfl hnv.non (by omega)) ?_;refine cL (O8 kN rfl (hnv.gz [] j rfl hjl)) ?_;rw[hxd];refine Gz 6 ?_;refine cL (PG ty9 rfl) ?_;refine cL (PP rfl rfl) ?_;refine Gz 8 ?_;exact Po (j+1) ⟨congrArg (fun z:Int=>some (Value.int .i64 z)) (by rw[hnt];simp only[wrL];exact congrArg _ (by omega)),rfl,rfl,rfl,rfl,rfl,rfl,trivial⟩ ⟨by omega,rfl⟩ (by show p.2.names.length-(j+1)<p.2.names.length-j;omega)
  have hje:j=p.2.names.length:=by omega
  subst hje;refine Gz 14 ?_;have hnm:((p.2.names.take p.2.names.length).map (·.length)).sum=(p.2.names.map (·.length)).sum:=by rw[TB]
  exact Po (i+1) ⟨congrArg (fun z:Int=>some (Value.int .i64 z)) (by rw[hst,hmn];exact congrArg _ (by omega)),rfl,rfl,rfl,trivial⟩ ⟨by omega,hF4⟩ (by show ps.length-(i+1)<ps.length-i;omega)
 have hie:i=ps.length:=by omega
 subst hie;refine Gz 17 ?_;refine⟨_,rfl,?_,hF2⟩;rw[TB];rfl
theorem FY(lo:Option Addr)(lc:Nat)(ps:List (NdH×Nd))(W:World)(hv:aR D W.heap lo lc ps) :
 CA 17 [.slice lo ps.length lc] W fun v w'=>v=iV (IntKind.i64.wrap (mJ (nds ps):Nat))∧aA nob W w':=by
 have h63:=hv.1.SM;refine cS 58 [(0,_)] Tryz.func17 ?_;refine Gz 17 ?_;refine Pb (β:=Nat) (fun i=>[(0,.slice lo ps.length lc),(3,iV (IntKind.i64.wrap ((600+((nds (ps.take i)).map fV).sum:Nat):Int))),(4,iV i)]) (fun i w=>i≤ps.length∧aA nob W w) (fun i=>ps.length-i) 0 ⟨rfl,rfl,rfl,trivial⟩ ⟨S3 _,RY _ _⟩ ?_;rintro i w2 ⟨hi,hF2⟩;refine fK 6 ?_ ?_<;>intro h9
 ·have hil:i<ps.length:=by omega
  obtain⟨p,hp⟩:∃ p,ps[i]?=some p:=⟨_,SS hil⟩
  have hv2:=hv.SN hF2;have hst:=CZ hp;obtain⟨S,hS⟩:∃ S,S=((nds (ps.take i)).map fV).sum:=⟨_,rfl⟩
  rw[←hS] at hst;have hmn:fV p.2=600+p.2.data.length+p.2.tgt.length+500*p.2.xs.length+(p.2.names.map (·.length)).sum:=rfl;have hn4:=hv2.2 p (S1 hp);have hnv:=hn4.1.2.1;have hn63:=hnv.SM;have hpn:p.1.names.n=p.2.names.length:=hn4.1.1;have hr2:=hv2.1;refine Gz 8 ?_;refine Pk 25 (fun H=>VwM 10 aE H lo lc ps) [] [0,1,2,3,4,5,6,7,8,9,10,11,12,13,14,15,16,17,18,19,20,21,22,23,24] aJ (by kernel_rfl) (hr2) ?_;refine Gz 1 ?_;refine xC rfl (PP rfl rfl) ?_;refine Gz 2 ?_;refine xC rfl (Pa cC rfl rfl hr2.non (by omega)) ?_;refine Gz 1 ?_;refine xC rfl (Pe aO rfl (fun H hH=>hH.rowZ i rfl hp 6 _ rfl)) ?_;refine xC rfl (O7 (u:=iV p.2.data.length) (Qc aN rfl) (by rw[←hn4.2.1.1])) ?_;refine xC rfl (PP rfl rfl) ?_;refine Gz 2 ?_;refine xC rfl (Pa cC rfl rfl hr2.non (by omega)) ?_;refine Gz 1 ?_;refine xC rfl (Pe kN rfl (fun H hH=>hH.rowZ i rfl hp 7 _ rfl)) ?_;refine xC rfl (PG ty9 rfl) ?_;refine xC rfl (PP rfl rfl) ?_;refine Gz 2 ?_;refine xC rfl (Pa cC rfl rfl hr2.non (by omega)) ?_;refine Gz 1 ?_;refine xC rfl (Pe cJ rfl (fun H hH=>hH.rowZ i rfl hp 8 _ rfl)) ?_;refine xC rfl (O7 (u:=iV p.2.xs.length) (Qc kA rfl) (by rw[←hn4.2.2.1])) ?_;refine xC rfl (Qm rfl rfl) ?_;refine xC rfl (PP rfl rfl) ?_;refine Gz 9 ?_;refine Pb (β:=Nat) (fun j=>[(0,.slice lo ps.length lc),(3,iV (IntKind.i64.wrap ((600+S+(600+p.2.data.length+p.2.tgt.length+500*p.2.xs.length)+((p.2.names.take j).map (·.length)).sum:Nat):Int))),(4,iV i),(5,iV j)]) (fun j w=>j≤p.2.names.length∧w=w2.drewN 1) (fun j=>p.2.names.length-j) 0 ⟨rfl,congrArg (fun z:Int=>some (Value.int .i64 z)) (by rw[hS];simp only[wrL,wrR,U8,U2,List.sum_nil];exact congrArg _ (by omega)),rfl,rfl,trivial⟩ ⟨S3 _,rfl⟩ ?_;rintro j w5 ⟨hj,hw⟩;subst hw;refine Gz 6 ?_;refine cL (Pa cC rfl rfl hr2.non (by omega)) ?_;refine Gz 1 ?_;refine cL (O7 (u:=.slice p.1.names.a p.2.names.length p.1.names.c) (O8 iR rfl (hr2.rowZ i rfl hp 0 _ rfl)) (by rw[←hpn];rfl)) ?_;refine fK 1 ?_ ?_<;>intro h43
  ·have hjl:j<p.2.names.length:=by omega
   obtain⟨x,hx⟩:∃ x,p.2.names[j]?=some x:=⟨_,SS hjl⟩
   have hxd:p.2.names.getD j []=x:=by rw[S6,hx];rfl
   have hnt:=J9 hx;refine Gz 11 ?_;refine cL (Pa cC rfl rfl hr2.non (by omega)) ?_;refine Gz 1 ?_;refine cL (O7 (u:=.slice p.1.names.a p.2.names.length p.1.names.c) (O8 iR rfl (hr2.rowZ i rfl hp 0 _ rfl)) (by rw[←hpn];rfl)) ?_;refine Gz 1 ?_;refine cL (O5 mD rfl rfl hnv.non (by omega)) ?_;refine cL (O8 kN rfl (hnv.gz [] j rfl hjl)) ?_;rw[hxd];refine cL (PG ty9 rfl) ?_;refine cL (PP rfl rfl) ?_;refine Gz 9 ?_;exact Po (j+1) ⟨rfl,congrArg (fun z:Int=>some (Value.int .i64 z)) (by rw[hnt];simp only[wrL];exact congrArg _ (by omega)),rfl,rfl,trivial⟩ ⟨by omega,rfl⟩ (by show p.2.names.length-(j+1)<p.2.names.length-j;omega)
  have hje:j=p.2.names.length:=by omega
  subst hje;refine Gz 14 ?_;have hnm:((p.2.names.take p.2.names.length).map (·.length)).sum=(p.2.names.map (·.length)).sum:=by rw[TB]
  exact Po (i+1) ⟨rfl,congrArg (fun z:Int=>some (Value.int .i64 z)) (by rw[hst,hmn];exact congrArg _ (by omega)),rfl,trivial⟩ ⟨by omega,hF2.draws 1⟩ (by show ps.length-(i+1)<ps.length-i;omega)
 have hie:i=ps.length:=by omega
 subst hie;refine Gz 16 ?_;refine⟨_,rfl,?_,hF2⟩;rw[TB];rfl
end
section
open Go Go.RowKit Go.Maps
theorem AD:∀ (l:List By) (m:Nat),(∀ s∈l,s.length≤m)→(l.map (·.length)).sum≤l.length*m
|[],m,_=>S3 _
|x::r,m,h=>by
   have h1:=AD r m (fun s hs=>h s (by simp[hs]));have h2:=h x (by simp);rw[TD,TU,Td,Nat.succ_mul];omega
theorem vN{α:Type}(f:α→Nat)(m:Nat):∀ (l:List α),(∀ x∈l,f x≤m)→(l.map f).sum≤l.length*m
|[],_=>S3 _
|x::r,h=>by
   have h1:=vN f m r (fun s hs=>h s (by simp[hs]));have h2:=h x (by simp);rw[TD,TU,Td,Nat.succ_mul];omega
theorem B9{qs:List (NdH×Nd)}(G:GdT qs):mJ (nds qs)≤1000000:=by
 have h1:=vN fV 14000 (nds qs) (fun n hn=>by
  obtain⟨q,hq,rfl⟩:=Tj.1 hn;have gB:=(G.gdB (files:=Tf (qs.length+1) bA) Tw (fun f hf=>by rw[UF hf];exact S3 _)).q q hq;obtain⟨_,g1,g2,g3,_⟩:=gB;have h1:=AD q.2.names 255 g2;have h2:q.2.names.length*255≤16*255:=Tu _ g1;obtain⟨_,_,_,_,_,_,d1,_,x1⟩:=G.may q hq;have x2:=x1.2;show 600+q.2.data.length+q.2.tgt.length+500*q.2.xs.length+(q.2.names.map (·.length)).sum≤_;omega)
 have h2:(nds qs).length≤40:=by have:=G.n.2;simpa[nds] using this
 have h3:(nds qs).length*14000≤40*14000:=Tu _ h2;unfold mJ;omega
theorem vC(a0:Option Addr)(cap0:Nat)(x0:List (NdH×Nd))(W:World)(hv0:aR (fun k=>k<W.heap.size) W.heap a0 cap0 x0)(hw0:∀ p∈x0,okN p.2∧smN p.2) :
 CA 7 [.slice a0 x0.length cap0] W fun v w'=>v=.bool true∧aA nob W w':=by
 have hfl:=GB x0;refine cS 53 [(0,_)] Tryz.func7 ?_;refine cA 7 fn8 (E9 W) ?_;rintro _ w1 ⟨rfl,hf1⟩;refine cA 6 fn9 (I5 a0 cap0 x0 w1 (hv0.SN hf1)) ?_;rintro _ w2 ⟨o,c,rfl,_,_,hf2,hvf⟩;have hz1:=hf1.size;have hz2:=hf2.size;refine Gz 6 ?_;refine O6 MW rfl (vZ o c (iF x0) w2 (hvf.old (by omega)) (Iw hw0) (IU hw0) hfl) rfl ?_;rintro _ w3 hA;obtain⟨r,oa,ca,rfl,hra,hoa,hfra,hf3⟩:=hA.res;have hvf3:=hvf.SN hf3;refine Gz 11 ?_;refine cL (Pp rfl) ?_;refine Gz 2 ?_;refine Pd rfl rfl MA rfl (Ar o c (iF x0) w3 hvf3) rfl ?_;rintro _ w4 ⟨rfl,hf4⟩;have hvf4:=hvf3.SN hf4;refine Gz 1 ?_;refine Pd rfl rfl OS rfl (FY o c (iF x0) w4 hvf4) rfl ?_;rintro _ w5 ⟨rfl,hf5⟩;have hvf5:=hvf4.SN hf5;have hF5:=(((hf1.trans hf2).trans hf3).trans hf4).trans hf5;refine cW (Qv (Qb rfl rfl) (fun h=>h rfl)) ?_;refine fK 10 ?_ ?_<;>intro h27
 ·have e1:=II hfl hra h27;refine Gz 7 ?_;refine cL (PQ (PK rfl rfl) (by rw[e1];rfl)) ?_;refine Gz 6 ?_
  first
  |exact⟨_,rfl,rfl,hFin.trans hf12⟩
  |exact⟨_,rfl,rfl,hF5⟩
 have e1:r.2=0:=TJ.1 h27;obtain⟨ids,M,hz,er⟩:=F1 hfl hra e1;rw[er] at hoa ⊢;have himl:(imB (cQ (iF x0)) ids).length≤1048576:=by unfold imB;rw[SR,jZ];have:=M.sz;omega
 refine cA 7 Lj (pR w5) ?_;rintro _ w6 ⟨rfl,hf6⟩;refine O9 Fj rfl ?_;intro w7 hg7 hs7 hf7;refine Pf (vs:=tab) pU rfl rfl qZ hg7 (by rw[nI,Tw]) ?_;intro w8 hg8 hs8 hf8;obtain⟨tp,hp⟩:∃ p,p=w6.heap.size:=⟨_,rfl⟩
 have hF8:aA nob w5 w8:=(hf6.trans hf7).SJ hf8 (fun k hk=>.inr (by have h:k=w6.heap.size:=hk;have:=hf6.size;omega));rw[←hp] at hg8 ⊢;have ht8:TbV w8.heap tp:=hg8;have ho8:=((hoa.SN hf4).SN hf5).SN hF8;refine Gz 5 ?_;refine O6 ME rfl (vL tp oa ca (imB (cQ (iF x0)) ids) w8 ht8 ho8.vw (by omega)) rfl ?_;rw[M.sup];rintro _ w9 ⟨rfl,hf9⟩;obtain⟨F,hF⟩:∃ F,F=fB (cQ (iF x0)) ids (aF (cQ (iF x0)) ids):=⟨_,rfl⟩
 have hF0:=IG M;rw[←hF] at hF0 ⊢;refine Gz 3 ?_;refine O9 oY rfl ?_;intro w10 hg10 hs10 hf10;obtain⟨b,eb⟩:∃ b,b=w9.heap.size:=⟨_,rfl⟩
 rw[←eb] at hg10 ⊢;refine sA rfl dE (by exact dG _) hg10 ?_;intro w11 hg11 hs11 hf11;have hF11:aA nob w9 w11:=hf10.tw hf11;have hf511:=(hF8.trans hf9).trans hF11;have hFin:=hF5.trans hf511;refine Gz 6 ?_;refine cL (PQ (PK rfl rfl) rfl) ?_;refine Gz 2 ?_;refine cW (O8 aK rfl (aD (i:=0) hg11 rfl)) ?_;refine Gz 2 ?_;refine cW (PQ (PK rfl rfl) hF0) ?_;refine Gz 5 ?_;refine Pd rfl rfl MA rfl (Ar o c (iF x0) w11 (hvf5.SN hf511)) rfl ?_;rintro _ w12 ⟨rfl,hf12⟩;refine cW (PQ (P7 rfl rfl) (by have h:=GW M;have h2:=B9 M.G;rw[EF] at h h2;rw[cD (by omega)];exact Int.ofNat_le.2 h)) ?_;refine Gz 6 ?_
 first
 |exact⟨_,rfl,rfl,hFin.trans hf12⟩
 |exact⟨_,rfl,rfl,hF5⟩
end
end Go.Proofs.YthmmmagklhiiiaaGreatDoor
