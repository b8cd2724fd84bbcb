/- lamella: what the law needs. No condition beyond the bounds that each states. -/
import Derived.Shelf.SlSortCmp.InsertionK
import Derived.Shelf.SlSortCmp.WholeK
import Derived.Laws.CopyRow
import Derived.Test.YthmmmagklhiiiaaGreatDoorBuildOrderQ3
namespace Go.Proofs.YthmmmagklhiiiaaGreatDoor
open Go Go.RowKit
set_option linter.unusedVariables false
set_option linter.unusedSectionVars false
set_option maxHeartbeats 64000000
open List renaming getElem?_eq_getElem → SD, length_append → SE, getElem?_eq_some_iff → SG, length_take → SL, mem_of_getElem? → SM, length_singleton → SO, length_drop → SP, getD → SS, take_of_length_le → SV, length_map → SX, getElem?_of_mem → SZ, length_cons → S1, mem_map → S6, replicate → S7, length_nil → S9, mem_cons → Ta, append_assoc → Tc, length → Tf, mem_singleton → Th, getElem?_map → Ti, getElem?_set_self → Tj, getElem?_take → Tl, length_replicate → Tn, getElem?_eq_none → To, not_mem_nil → Tp, nil_append → Tr, take_length → Ts, mem_of_mem_take → Tx, length_set → Tz, getElem?_set_ne → TC, ext_getElem? → TJ, append_nil → TU, map_append → Uf, set_set → UJ, getElem?_replicate → U4
open _root_.Nat renaming le_refl → SI, zero_le → SQ, zero_add → Tu, lt_of_lt_of_le → TB, min_eq_left → TK
open _root_.Array renaming getElem?_eq_some_iff → SJ, length_toList → TW, getElem?_eq_getElem → T3, getElem?_modify → Ui
open Classical renaming byContradiction → SN, not_not → Tw
open _root_.Option renaming map_eq_some_iff → SY
open _root_.Int renaming tmod_eq_emod_of_nonneg → US
section
open Go Go.RowKit Go.Maps
theorem PiX.calm{z:Nat}{a:PiA}{ow:Nat→Nat}{H:Array Obj}{g tp:Nat}{qs:List (NdH×Nd)}{ids:List Int}{files:List Ino}{s:BSt}(h:PiX z a ow H g tp qs ids files s)(hz:z≠1∧z≠2∧z≠3∧z≠5∧z≠7∧z≠8):PiX 0 a ow H g tp qs ids files s:=by
 obtain⟨b0,b1,b2,b3,c1,c2,c3,⟨c4,c5⟩,⟨c6,c7⟩,c8,c9⟩:=h;exact⟨b0,b1,b2,b3,fun _=>c1 hz.1,fun _=>c2 hz.2.1,fun _=>c3 hz.2.2.1,⟨c4,fun _=>c5 hz.2.2.2.1⟩,⟨c6,fun _=>c7 hz.2.2.2.2.1⟩,c8,fun _=>c9 hz.2.2.2.2.2⟩
theorem gG.mono{D D':Nat→Prop}{H:Array Obj}{p:Nat}{L:List By}(h:gG D H p L)(hd:∀ k,D k→D' k):gG D' H p L:=by
 obtain⟨ao,c,bo,c',h1,h2,h3,h4,h5,h6,h7,h8,h9⟩:=h;exact⟨ao,c,bo,c',h1,h2,h3,h4,h5,h6,hd _ h7,fun k hk=>hd k (h8 k hk),fun k hk=>hd k (h9 k hk)⟩
theorem In{D:Nat→Prop}{H:Array Obj}{hs:List Hd}{L:List By}(h:cM D H hs L):cM (fun k=>D k∧k<H.size) H hs L:=
 ⟨h.1,fun i x y hx hy=>by
  obtain⟨a,b,c⟩:=h.2 i x y hx hy;exact⟨a,b,fun hne k hk=>⟨c hne k hk,by obtain⟨z,hz,e⟩:=hk;have:=b.lt hne z hz;omega⟩⟩⟩
theorem CB.put{m:List (I6×Value)}{files:List Ino}(h:CB m files)(x:I6){f:Ino}(hx:1≤x.1)(hl:x.1.toNat<files.length)(hf:f.1 0=2):CB (bV m x (yM (fl0 f))) (files.set x.1.toNat f):=by
 intro a ha;rw[gX];by_cases e:a=x
 · subst e
   rw[SB rfl,SS,Tj hl];show _=if f.1 0=2 then _ else _
   rw[SB hf];rfl
 · have hne:¬ a.1.toNat=x.1.toNat:=fun h=>e (Subtype.ext (by omega))
   rw[SA e,h a ha];have e2:(files.set x.1.toNat f).getD a.1.toNat bX=files.getD a.1.toNat bX:=by
    rw[SS,TC (fun h=>hne h.symm)];rfl
   rw[e2]
theorem AV:∀ {L:List By},zB L→L.length≤1048576→L.flatten.length≤1099511627776:=by
 have key:∀ L:List By,zB L→L.flatten.length≤128*L.length:=by
  intro L
  induction L with
 |nil=>intro _;exact SI _
 |cons x r ih=>
    intro h;have h1:=ih (fun y hy=>h y (by simp[hy]));have h2:=(h x (by simp)).2;rw[List.flatten_cons,SE,S1];omega
 intro L h hn;have:=key L h;omega
noncomputable def yL (W w':World) (z:Nat) (o:Option Addr) (ow:Nat→Nat):Nat→Nat:=fun k=>open Classical in if k<W.heap.size then ow k else if k<w'.heap.size∧¬ blk o k then z else 0
theorem AH{W w':World}{z:Nat}{o:Option Addr}{ow:Nat→Nat}{k:Nat}(h:k<W.heap.size):yL W w' z o ow k=ow k:=SB h
theorem Gy{W w':World}{z:Nat}{o:Option Addr}{ow:Nat→Nat}(hs:W.heap.size≤w'.heap.size){k:Nat}(h:w'.heap.size≤k):yL W w' z o ow k=0:=by unfold yL;rw[SA (by omega),SA (fun h2=>by have:=h2.1;omega)]
theorem Di{W w':World}{z:Nat}{o:Option Addr}{ow:Nat→Nat}(hn:∀ k,W.heap.size≤k→ow k=0){k:Nat}(h:ow k≠0):yL W w' z o ow k=ow k:=AH (SN fun hc=>h (hn k (by omega)))
theorem GA{W w':World}{z:Nat}{o:Option Addr}{ow:Nat→Nat}(hf:Fr W.heap.size o){k:Nat}(h:blk o k):yL W w' z o ow k=0:=by
 obtain⟨x,hx,rfl⟩:=id h;have:=hf x hx;unfold yL;rw[SA (by omega),SA (fun h2=>h2.2 h)]
theorem I4{W w':World}{z:Nat}{o:Option Addr}{ow:Nat→Nat}(hn:∀ k,W.heap.size≤k→ow k=0)(hz:z≠0){k:Nat}(h:Nx (fun k=>ow k=z) W w' k∧¬ blk o k):yL W w' z o ow k=z:=by
 obtain⟨h,hb⟩:=h;rcases h with h|⟨h1,h2⟩
 ·rw[Di hn (by omega)];exact h
 ·unfold yL;rw[SA (by omega),SB ⟨h2,hb⟩]
theorem BT(a:PiA)(ow:Nat→Nat)(g tp:Nat)(qs:List (NdH×Nd))(ids:List Int)(S0:BSt)(dg:Nat)(G:GdT qs)(W:World)(hM:PiX 0 a ow W.heap g tp qs ids (S7 (qs.length+1) bX) S0)(hn:∀ k,W.heap.size≤k→ow k=0)(hD:DwO (fun k=>ow k=9) W.heap dg tp 64 ⟨[],[]⟩) :
 CA 22 [pT g,pT dg] W fun v w'=>∃ o c ow',v=.slice o (dN (aS qs).tails (aS qs).ds).2.length c∧Own i64 3 w'.heap o c (dN (aS qs).tails (aS qs).ds).2∧(∀ k,blk o k→W.heap.size≤k∧ow' k=0)∧PiX 0 a ow' w'.heap g tp qs ids (aS qs).files S0∧DwO (fun k=>ow' k=9) w'.heap dg tp 64 (dN (aS qs).tails (aS qs).ds).1 ∧
  FI (nds qs) (qs.length+1) (aS qs)∧(∀ k,k<W.heap.size→ow' k=ow k)∧(∀ k,w'.heap.size≤k→ow' k=0)∧aA (Lb ow) W w':=by
 have hq40:=G.n.2;have htn:∀ {ow9:Nat→Nat} {H:Array Obj} {files:List Ino} {c:Nat},PiX 0 a ow9 H g tp qs ids files S0→c≠4→¬ ow9 tp=c:=fun h hc e=>by have h4:=h.2.2.2.1.2;rw[h4] at e;exact hc e.symm
 refine cS 86 [(0,_),(1,_)] Tryz.func22 ?_;refine cA 7 Oj (KD W) ?_;rintro _ w1 ⟨rfl,hP1,hf1,hs1⟩;obtain⟨pg,epg⟩:∃ p,p=W.heap.size:=⟨_,rfl⟩
 rw[←epg] at hP1 ⊢;obtain⟨ow1,eo1⟩:∃ o,o=mO W w1 10 ow:=⟨_,rfl⟩
 have o1n:∀ k,ow k≠0→ow1 k=ow k:=fun k hk=>by rw[eo1];exact fJ 10 hn hk
 have o1o:∀ k,k<W.heap.size→ow1 k=ow k:=fun k hk=>by rw[eo1];exact iF 10 ow hk
 have o1z:∀ k,w1.heap.size≤k→ow1 k=0:=fun k hk=>by rw[eo1];exact jG 10 ow hf1.size hk
 have hM1:PiX 0 a ow1 w1.heap g tp qs ids (S7 (qs.length+1) bX) S0:=hM.step hf1 0 (by decide) (fun k h=>h.elim) o1n;have hD1:DwO (fun k=>ow1 k=9) w1.heap dg tp 64 ⟨[],[]⟩:=(hD.Sw hf1).mono (fun k hk=>by have hk:ow k=9:=hk;rw[o1n k (by omega)];exact hk) (htn hM1 (by decide));have hP1:gG (fun k=>ow1 k=10) w1.heap pg []:=hP1.mono (fun k hk=>by have hk:k=pg:=hk;rw[eo1];exact lJ 10 hn (by decide) (.inr ⟨by omega,by omega⟩));refine Gz 9 ?_;refine cL (OR vO rfl (aD hM1.1.1 rfl)) ?_;refine Gz 5 ?_;refine OU (β:=Nat×(FSt×(Nat→Nat))) (fun⟨k,⟨s,ow9⟩⟩=>[(0,pT g),(1,pT dg),(5,pT pg),(20,.slice a.lo qs.length a.lc),(21,iV qs.length),(22,iV k)]) (fun⟨k,⟨s,ow9⟩⟩ w=>k≤qs.length∧s=(nds (qs.take k)).foldl gE (fs0 (qs.length+1))∧FI (nds (qs.take k)) (qs.length+1) s∧PiX 0 a ow9 w.heap g tp qs ids s.files S0∧DwO (fun k=>ow9 k=9) w.heap dg tp 64 s.ds∧gG (fun k=>ow9 k=10) w.heap pg s.tails∧(∀ k,k<W.heap.size→ow9 k=ow k)∧(∀ k,w.heap.size≤k→ow9 k=0)∧aA (Lb ow) W w) (fun⟨k,⟨s,ow9⟩⟩=>qs.length-k) ⟨0,⟨fs0 (qs.length+1),ow1⟩⟩ ⟨rfl,rfl,rfl,rfl,rfl,rfl,trivial⟩ ⟨SQ _,rfl,fi0 _,hM1,hD1,hP1,o1o,o1z,hf1.any⟩ ?_;rintro⟨k,⟨s,ow9⟩⟩ w9 ⟨hk,hs,hFI,hM,hD9,hP9,hl9,hn9,hF9⟩;refine fK 2 ?_ ?_<;>intro h23
 ·have hkl:k<qs.length:=by omega
  obtain⟨q,hq⟩:∃ q,qs[k]?=some q:=⟨_,SD hkl⟩
  have hqm:=SM hq;have hqi:=G.ino q hqm;obtain⟨m,hm⟩:=Int.eq_ofNat_of_zero_le (show 0≤q.2.ino by omega);have htm:q.2.ino.toNat=m:=by omega
  have hib : -9223372036854775808≤q.2.ino∧q.2.ino≤9223372036854775807:=by omega
  have hml:m<s.files.length:=by rw[hFI.l];omega
  have hdat:q.2.data.length≤4096:=(G.may q hqm).2.2.2.2.2.2.1;have hnd:=hM.2.1.1;obtain⟨⟨hg9,hg96⟩,_,_,_,_,_,_,_,⟨f97,f91⟩,_⟩:=id hM;obtain⟨mf,hmf,hFM⟩:=f91 (by decide);have hfv:=hFM ⟨q.2.ino,hib⟩ hqi.1;rw[show (⟨q.2.ino,hib⟩:I6).1.toNat=m from htm] at hfv;obtain⟨R0,hR0⟩:∃ R0:Ino,R0=if (s.files.getD m bX).1 0=2 then fl0 (s.files.getD m bX) else bX:=⟨_,rfl⟩
  have hfe:(bP mf ⟨q.2.ino,hib⟩).getD (yM bX)=yM R0:=by rw[hfv,hR0];split<;>rfl
  have hfs:decide ((bP mf ⟨q.2.ino,hib⟩).isSome=true)=decide ((s.files.getD m bX).1 0=2):=by
   rw[hfv];by_cases h:(s.files.getD m bX).1 0=2
   ·rw[SB h,SH h];rfl
   ·rw[SA h,SC h];rfl
  have hs2:=G8 hq (fs0 (qs.length+1));rw[←hs] at hs2;have hFI2:=AZ hFI (x:=q.2) ⟨by omega,by omega⟩ hdat;rw[←Gi hq] at hFI2;refine Gz 6 ?_;refine Po (β:=FSt×(Nat→Nat)) (fun⟨s,ow9⟩=>[(0,pT g),(1,pT dg),(5,pT pg),(20,.slice a.lo qs.length a.lc),(21,iV qs.length),(22,iV k)]) (fun⟨s,ow9⟩ w=>s=(nds (qs.take (k+1))).foldl gE (fs0 (qs.length+1))∧FI (nds (qs.take (k+1))) (qs.length+1) s∧PiX 0 a ow9 w.heap g tp qs ids s.files S0∧DwO (fun k=>ow9 k=9) w.heap dg tp 64 s.ds∧gG (fun k=>ow9 k=10) w.heap pg s.tails∧(∀ k,k<W.heap.size→ow9 k=ow k)∧(∀ k,w.heap.size≤k→ow9 k=0)∧aA (Lb ow) W w) ?_ ?_
  ·refine Gz 3 ?_;refine cL (OV bR rfl rfl hnd.1.non (by omega)) ?_;refine cL (O2 (cs:=aE q) aT rfl (fun j v hj=>hnd.1.rowZ k rfl hq j v hj)) ?_;refine OS eW rfl ?_;intro w10 hg10 hs10 hf10;obtain⟨d,ed⟩:∃ d,d=w9.heap.size:=⟨_,rfl⟩
   rw[←ed] at hg10 ⊢;refine O1 (vs:=aE q) aT rfl rfl (aB q).2 hg10 rfl ?_;intro w11 hd11 hs11 hf11;have hs10b:w10.heap.size=w9.heap.size+1:=hs10;have hs11b:w11.heap.size=w10.heap.size:=hs11;have hf911:aA nob w9 w11:=hf10.tw hf11;have hg11:=hf911.obj hg9 id;have hmf11:=hmf.Sy hf911 id;refine Gz 1 ?_;refine aW [(0,_),(1,_),(5,_),(7,_),(20,_),(21,_),(22,_),(23,_)] ?_;refine Gz 3 ?_;refine O4 13 (fun H=>H[g]?=some (.cells (piC a qs.length ids.length).toArray 62 (0,0))∧H[d]?=some (.cells (aE q).toArray 37 (0,0))∧cF enI H a.f mf) [10,11] [0,1,2,3,4,5,6,7,8,9,10,11,12] aL (by kernel_rfl) (⟨hg11,hd11,hmf11⟩) ?_;refine Gz 6 ?_;refine xC rfl (OQ (u:=.tuple [yM R0,.bool (decide ((s.files.getD m bX).1 0=2))].toArray) (Pu mpF qQ (a:=⟨q.2.ino,hib⟩) rfl rfl (fun H hH=>hH.2.2)) (by rw[hfe,hfs])) ?_;refine Gz 3 ?_;refine OZ rfl rfl (OS E4 rfl ?_);intro w12 hg12 hs12 hf12;have hf12:=hf12.Su;refine O6 (by exact⟨hf12.obj hg11 id,hf12.obj hd11 id,hmf11.Sy hf12 id⟩) ?_;refine OZ rfl rfl (O1 (vs:=EA R0) qK rfl rfl (tI _ _) hg12 rfl ?_);intro w13 hc13 hs13 hf13;have hs12b:w12.heap.size=w11.heap.size+1:=hs12;have hs13b:w13.heap.size=w12.heap.size:=hs13;have hf1113:aA nob w11 w13:=hf12.tw hf13;refine O6 (by exact⟨hf1113.obj hg11 id,hf1113.obj hd11 id,hmf11.Sy hf1113 id⟩) ?_;have hf913:=hf911.trans hf1113;have hd13:=hf1113.obj hd11 id;have hn13:∀ k,w13.heap.size≤k→ow9 k=0:=fun k hk=>hn9 k (by omega);refine Gz 5 ?_;refine Pn (Pd (OW rfl)) rfl (fun h36=>?_) (fun h36=>?_)
   ·have h36:=of_decide_eq_true h36;have hsk:gE s q.2=s:=tQ (.inr (by rw[htm];exact h36));rw[hsk] at hs2 hFI2;refine Gz 11 ?_;exact aC ⟨s,ow9⟩ ⟨hs2.symm,hFI2,hM.Sw hf913,hD9.Sw hf913,hP9.Sy hf913 (fun _ _=>id),hl9,hn13,hF9.trans hf913.any⟩
   have h36:¬ (s.files.getD m bX).1 0=2:=fun h=>h36 (SH h);refine fW 3 ?_ ?_<;>intro h40
   ·have hsk:gE s q.2=s:=tQ (.inl h40);rw[hsk] at hs2 hFI2;refine Gz 7 ?_;exact aC ⟨s,ow9⟩ ⟨hs2.symm,hFI2,hM.Sw hf913,hD9.Sw hf913,hP9.Sy hf913 (fun _ _=>id),hl9,hn13,hF9.trans hf913.any⟩
   have hk2:q.2.kind=2:=Tw.1 h40;have hnf:¬ (q.2.kind≠2∨(s.files.getD q.2.ino.toNat bX).1 0=2):=by rw[htm];rintro(h|h);exact h hk2;exact h36 h
   obtain⟨R1,hR1⟩:∃ R,R=fZ 64 s.ds q.2.data:=⟨_,rfl⟩
   obtain⟨R2,hR2⟩:∃ R,R=jO s.tails (dB q.2.data):=⟨_,rfl⟩
   obtain⟨fN,hfN⟩:∃ f:Ino,f=(fun j=>[2,0,0,0,0,0,(R1.2:Int),q.2.data.length,(R2.2.1:Int),(R2.2.2:Int)].getD j 0,[]):=⟨_,rfl⟩
   have hsn:gE s q.2=⟨R1.1,R2.1,s.files.set m fN⟩:=by unfold gE;rw[SA hnf,←hR1,←hR2,hfN,htm]
   rw[hsn] at hs2 hFI2;have hdv:=(hnd.2 q hqm).2.1;have hdn:q.1.data.n=q.2.data.length:=hdv.1;refine Gz 9 ?_;refine cL (OQ (u:=.slice q.1.data.a q.2.data.length q.1.data.c) (OR aO rfl (aD hd13 rfl)) (by rw[←hdn];rfl)) ?_;refine Gz 1 ?_;refine cL (bU (bI (fun j=>if j=7 then (q.2.data.length:Int) else 0) []) Lz E4) ?_;refine OS E4 rfl ?_;intro w14 hg14 hs14 hf14;obtain⟨e,ee⟩:∃ d,d=w13.heap.size:=⟨_,rfl⟩
   rw[←ee] at hg14 ⊢;refine sA rfl qK (tI _ _) hg14 ?_;intro w15 he15 hs15 hf15;have hs14b:w14.heap.size=w13.heap.size+1:=hs14;have hs15b:w15.heap.size=w14.heap.size:=hs15;have hf915:aA nob w9 w15:=(hf913.trans hf14).tw hf15;have hf1315:aA nob w13 w15:=hf14.tw hf15;have hd15:=hf1315.obj hd13 id;have hM15:=hM.Sw hf915;have hD15:=hD9.Sw hf915;have hP15:=hP9.Sy hf915 (fun _ _=>id);have hn15:∀ k,w15.heap.size≤k→ow9 k=0:=fun k hk=>hn9 k (by omega);have hel:ow9 e=0:=hn9 e (by omega);have hdl:ow9 d=0:=hn9 d (by omega);refine Gz 6 ?_;refine cL (OQ (u:=.slice q.1.data.a q.2.data.length q.1.data.c) (OR aO rfl (aD hd15 rfl)) (by rw[←hdn];rfl)) ?_;refine OP Oi rfl (Ht (fun k=>ow9 k=9) dg tp 64 s.ds q.1.data.a q.1.data.c q.2.data w15 hD15 (hdv.2.1.Sw hf915) (by decide) (by have:=hFI.b;rw[SX,SL] at this;omega) (by omega)) rfl ?_;rw[←hR1];rintro _ w16 ⟨o16,c16,rfl,ho16,hfr16,hD16,hf16⟩;have hz16:=hf16.size;obtain⟨ow16,eo16⟩:∃ o,o=yL w15 w16 9 o16 ow9:=⟨_,rfl⟩
   have o16n:∀ k,ow9 k≠0→ow16 k=ow9 k:=fun k hk=>by rw[eo16];exact Di hn15 hk
   have o16o:∀ k,k<w15.heap.size→ow16 k=ow9 k:=fun k hk=>by rw[eo16];exact AH hk
   have o16z:∀ k,w16.heap.size≤k→ow16 k=0:=fun k hk=>by rw[eo16];exact Gy hz16 hk
   have o16b:∀ k,blk o16 k→ow16 k=0:=fun k hk=>by rw[eo16];exact GA hfr16 hk
   have hM16:PiX 0 a ow16 w16.heap g tp qs ids s.files S0:=(hM15.step hf16 9 (by decide) (fun k hk=>.inl hk) o16n).calm (by decide);have hD16:DwO (fun k=>ow16 k=9) w16.heap dg tp 64 R1.1:=hD16.mono (fun k hk=>by rw[eo16];exact I4 hn15 (by decide) hk) (htn hM16 (by decide));have hP16:gG (fun k=>ow16 k=10) w16.heap pg s.tails:=(hP15.Sy hf16 (fun k hk h=>by have hk:ow9 k=10:=hk;have h:ow9 k=9:=h;omega)).mono (fun k hk=>by have hk:ow9 k=10:=hk;rw[o16n k (by omega)];exact hk);have he16:=hf16.obj he15 (fun h=>by have h:ow9 e=9:=h;omega);have hd16:=hf16.obj hd15 (fun h=>by have h:ow9 d=9:=h;omega);have hel16:ow16 e=0:=by rw[o16o e (by omega)];exact hel
   have hF16:aA (Lb ow) W w16:=jW hl9 (hF9.trans hf915.any) (hf16.mono (fun k h=>by have h:ow9 k=9:=h;unfold Lb;omega));refine Gz 11 ?_;refine O0 aJ rfl rfl rfl he16 rfl ?_;intro w17 he17 hs17 hf17;have hs17b:w17.heap.size=w16.heap.size:=hs17;have ke:∀ k,k=e→ow16 k=0:=fun k h=>by rw[h];exact hel16
   have hM17:=hM16.step hf17 0 (by decide) (fun k hk=>.inr (ke k hk)) (fun _ _=>rfl);have hD17:=hD16.Sy hf17 (fun k hk h=>by have:=ke k h;omega) (fun h=>by have:=ke tp h;rw[hM16.2.2.2.1.2] at this;omega);have hP17:=hP16.Sy hf17 (fun k hk h=>by have:=ke k h;have hk:ow16 k=10:=hk;omega);have hd17:=hf17.obj hd16 (show ¬ d=e by omega);have hfr16l:=ho16.lt;have ho17:=ho16.Sy hf17 (fun x hx h=>by have h:x.block=e:=h;have:=hfr16 x hx;omega);have hF17:=hF16.St hf17 (fun k h=>.inr (by have h:k=e:=h;have:=hF9.size;omega));refine Gz 6 ?_;refine OP Oh rfl (Lh (fun k=>ow16 k=10) pg s.tails o16 c16 (dB q.2.data) w17 hP17 (fun k hk=>SN fun hc=>by have:=o16z k (by omega);have hk:ow16 k=10:=hk;omega) ho17.vw (fun _ x hx h=>by have h:ow16 x.block=10:=h;rw[o16b _ ⟨x,hx,rfl⟩] at h;omega) (AV hFI.t (by have:=hFI.tn;rw[SX,SL] at this;omega)) (by have:=hFI.tn;rw[SX,SL] at this;omega)) rfl ?_;rw[←JN,←hR2];rintro _ w18 ⟨rfl,D18,hP18,hD18a,hD18b,hf18⟩;have hz18:=hf18.size;have hn17:∀ k,w17.heap.size≤k→ow16 k=0:=fun k hk=>o16z k (by omega);obtain⟨ow18,eo18⟩:∃ o,o=mO w17 w18 10 ow16:=⟨_,rfl⟩
   have o18n:∀ k,ow16 k≠0→ow18 k=ow16 k:=fun k hk=>by rw[eo18];exact fJ 10 hn17 hk
   have o18o:∀ k,k<w17.heap.size→ow18 k=ow16 k:=fun k hk=>by rw[eo18];exact iF 10 ow16 hk
   have o18z:∀ k,w18.heap.size≤k→ow18 k=0:=fun k hk=>by rw[eo18];exact jG 10 ow16 hz18 hk
   have hM18:PiX 0 a ow18 w18.heap g tp qs ids s.files S0:=(hM17.step hf18 10 (by decide) (fun k hk=>.inl hk) o18n).calm (by decide);have hD18:DwO (fun k=>ow18 k=9) w18.heap dg tp 64 R1.1:=(hD17.Sy hf18 (fun k hk h=>by have hk:ow16 k=9:=hk;have h:ow16 k=10:=h;omega) (htn hM17 (by decide))).mono (fun k hk=>by have hk:ow16 k=9:=hk;rw[o18n k (by omega)];exact hk) (htn hM18 (by decide));have hP18:gG (fun k=>ow18 k=10) w18.heap pg R2.1:=hP18.mono (fun k hk=>by rw[eo18];exact lJ 10 hn17 (by decide) ((hD18a k hk).imp id (fun h=>⟨h,hD18b k hk⟩)));have he18:=hf18.obj he17 (fun h=>by have h:ow16 e=10:=h;omega);have hd18:=hf18.obj hd17 (fun h=>by have h:ow16 d=10:=h;rw[o16o d (by omega)] at h;omega);have hel18:ow18 e=0:=by rw[o18o e (by omega)];exact hel16
   have l16:∀ k,k<W.heap.size→ow16 k=ow k:=fun k hk=>by rw[o16o k (by have:=hF9.size;omega)];exact hl9 k hk
   have l18:∀ k,k<W.heap.size→ow18 k=ow k:=fun k hk=>by rw[o18o k (by have:=hF9.size;omega)];exact l16 k hk
   have hF18:aA (Lb ow) W w18:=jW l16 hF17 (hf18.mono (fun k h=>by have h:ow16 k=10:=h;unfold Lb;omega));have ke18:∀ k,k=e→ow18 k=0:=fun k h=>by rw[h];exact hel18
   refine Gz 4 ?_;refine O0 aJ rfl rfl rfl he18 rfl ?_;intro w19 he19 hs19 hf19;have hs19b:w19.heap.size=w18.heap.size:=hs19;refine Gz 1 ?_;refine O0 aJ rfl rfl rfl he19 rfl ?_;intro w20 he20 hs20 hf20;have hs20b:w20.heap.size=w19.heap.size:=hs20;have hf1820:aA (· = e) w18 w20:=hf19.trans hf20;have hM20:=hM18.step hf1820 0 (by decide) (fun k hk=>.inr (ke18 k hk)) (fun _ _=>rfl);have hD20:=hD18.Sy hf1820 (fun k hk h=>by have:=ke18 k h;omega) (fun h=>by have:=ke18 tp h;rw[hM18.2.2.2.1.2] at this;omega);have hP20:=hP18.Sy hf1820 (fun k hk h=>by have:=ke18 k h;have hk:ow18 k=10:=hk;omega);have hd20:=hf1820.obj hd18 (show ¬ d=e by omega);have hF20:=hF18.St hf1820 (fun k h=>.inr (by have h:k=e:=h;have:=hF9.size;omega));have he20:w20.heap[e]?=some (.cells (EA (fl0 fN)).toArray 88 (0,0)):=by rw[hfN];exact he20
   obtain⟨⟨hg20,_⟩,_,_,_,_,_,_,_,⟨f207,f201⟩,_⟩:=id hM20;obtain⟨mf20,hmf20,hFM20⟩:=f201 (by decide);refine Gz 2 ?_;refine O4 7 (fun H=>H[g]?=some (.cells (piC a qs.length ids.length).toArray 62 (0,0))∧H[d]?=some (.cells (aE q).toArray 37 (0,0))∧H[e]?=some (.cells (EA (fl0 fN)).toArray 88 (0,0))) [7] [0,1,2,3,4,5,6,7] aL (by kernel_rfl) (⟨hg20,hd20,he20⟩) ?_;refine Gz 6 ?_;refine xC rfl (Qq (cs:=EA (fl0 fN)) qK rfl (fun H hH=>bF hH.2.2 0 rfl)) ?_;refine OZ rfl rfl (Ph mpF qQ (a:=(⟨q.2.ino,hib⟩:I6)) rfl rfl rfl hmf20 ?_);intro w21 hm21 hs21 hf21;refine Pv rfl ?_;have hf21:aA (· = a.f) w20 w21:=hf21.Su;have hz21:=hf21.size;have hfp:=hFM20.put ⟨q.2.ino,hib⟩ (f:=fN) (by show (1:Int)≤q.2.ino;omega) (by show q.2.ino.toNat<s.files.length;omega) (by rw[hfN];rfl);rw[show (⟨q.2.ino,hib⟩:I6).1.toNat=m from htm] at hfp;have kf:∀ k,k=a.f→ow18 k=7:=fun k h=>by rw[h];exact f207
   obtain⟨b0,b1,b2,b3,c1,c2,c3,⟨c4,c5⟩,⟨c6,_⟩,c8,c9⟩:=hM20.step hf21 7 (by decide) (fun k hk=>.inl (kf k hk)) (fun _ _=>rfl);have hM21:PiX 0 a ow18 w21.heap g tp qs ids (s.files.set m fN) S0:=⟨b0,b1,b2,b3,fun _=>c1 (by decide),fun _=>c2 (by decide),fun _=>c3 (by decide),⟨c4,fun _=>c5 (by decide)⟩,⟨c6,fun _=>⟨_,hm21,hfp⟩⟩,c8,fun _=>c9 (by decide)⟩
   have hD21:=hD20.Sy hf21 (fun k hk h=>by have:=kf k h;omega) (fun h=>by have:=kf tp h;rw[hM20.2.2.2.1.2] at this;omega);have hP21:=hP20.Sy hf21 (fun k hk h=>by have:=kf k h;have hk:ow18 k=10:=hk;omega);have hF21:aA (Lb ow) W w21:=jW l18 hF20 (hf21.mono (fun k h=>by have:=kf k h;unfold Lb;omega));refine Gz 2 ?_;exact aC ⟨⟨R1.1,R2.1,s.files.set m fN⟩,ow18⟩ ⟨hs2.symm,hFI2,hM21,hD21,hP21,l18,fun k hk=>o18z k (by omega),hF21⟩
  rintro⟨s,ow9⟩ w9 ⟨hs,hFI,hM,hD9,hP9,hl9,hn9,hF9⟩;refine Gz 4 ?_;exact aG ⟨k+1,⟨s,ow9⟩⟩ ⟨by omega,hs,hFI,hM,hD9,hP9,hl9,hn9,hF9⟩ (by show qs.length-(k+1)<qs.length-k;omega)
 have hke:k=qs.length:=by omega
 subst hke;rw[Ts] at hs hFI;have hs:s=aS qs:=hs;subst hs;refine Gz 18 ?_;refine OP Og rfl (EY (fun k=>ow9 k=10) pg (aS qs).tails w9 hP9 (AV hFI.t (by have:=hFI.tn;rw[SX] at this;omega)) (by have:=hFI.tn;rw[SX] at this;omega)) rfl ?_;rintro _ w20 ⟨go,gc,gs,rfl,hgo,hrw,hgfr,hf20⟩;have hz20:=hf20.size;have hrw:=In hrw;obtain⟨L,hL⟩:∃ L,L=(aS qs).tails:=⟨_,rfl⟩
 rw[←hL] at hrw;have hgl:=hrw.1;have hLn:L.length≤40:=by have:=hFI.tn;rw[SX] at this;rw[hL];omega
 have hLb:zB L:=by rw[hL];exact hFI.t
 have hdB:(aS qs).ds.B.length≤172800:=by have:=hFI.b;rw[SX] at this;omega
 have hg63:=hgo.vw.Sv;have hgol:=hgo.lt;refine Gz 3 ?_;refine aW [(0,_),(1,_),(5,_),(13,_),(20,_),(21,_),(22,_),(23,_),(72,_),(73,_),(74,_)] ?_;refine Gz 2 ?_;refine OU (β:=(Nat×(DS×List Int))×((Nat→Nat)×(Option Addr×Nat))) (fun⟨⟨j,⟨d9,pl9⟩⟩,⟨ow11,⟨po,pc⟩⟩⟩=>[(1,pT dg),(13,.slice po pl9.length pc),(72,.slice go gs.length gc),(73,iV gs.length),(74,iV j)]) (fun⟨⟨j,⟨d9,pl9⟩⟩,⟨ow11,⟨po,pc⟩⟩⟩ w=>j≤L.length∧dN (L.take j) (aS qs).ds=(d9,pl9)∧PiX 0 a ow11 w.heap g tp qs ids (aS qs).files S0∧DwO (fun k=>ow11 k=9) w.heap dg tp 64 d9∧(∀ k,k<W.heap.size→ow11 k=ow k)∧(∀ k,w.heap.size≤k→ow11 k=0)∧Own i64 3 w.heap po pc pl9∧(∀ k,blk po k→W.heap.size≤k∧ow11 k=0)∧(∀ k,blk po k→¬ (w9.heap.size≤k∧k<w20.heap.size))∧Own hd 25 w.heap go gc gs∧cM (fun k=>w9.heap.size≤k∧k<w20.heap.size) w.heap gs L∧(∀ k,w9.heap.size≤k→k<w20.heap.size→ow11 k=0)∧w20.heap.size≤w.heap.size∧aA (Lb ow) W w) (fun⟨⟨j,⟨d9,pl9⟩⟩,⟨ow11,⟨po,pc⟩⟩⟩=>L.length-j) ⟨⟨0,⟨(aS qs).ds,[]⟩⟩,⟨ow9,⟨none,0⟩⟩⟩ ⟨rfl,rfl,rfl,rfl,rfl,trivial⟩ ⟨SQ _,rfl,hM.Sw hf20,hD9.Sw hf20,hl9,fun k hk=>hn9 k (by omega),RS,(fun k ⟨x,hx,e⟩=>by cases hx),(fun k ⟨x,hx,e⟩=>by cases hx),hgo,hrw,fun k h _=>hn9 k h,SI _,hF9.trans hf20.any⟩ ?_;rintro⟨⟨j,⟨d9,pl9⟩⟩,⟨ow11,⟨po,pc⟩⟩⟩ w11 ⟨hj,htl,hM11,hD11,hl11,hn11,hpo,hpd,hpx,hgo9,hrw9,hz11,hzz,hF11⟩;refine fK 2 ?_ ?_<;>intro h75
 ·have hjl:j<L.length:=by omega
  have hjg:j<gs.length:=by omega
  obtain⟨t,ht⟩:∃ t,L[j]?=some t:=⟨_,SD hjl⟩
  obtain⟨x,hx⟩:∃ x,gs[j]?=some x:=⟨_,SD hjg⟩
  obtain⟨hxn,hxv,_⟩:=hrw9.2 j x t hx ht;have htb:=hLb t (SM ht);have htk:L.take (j+1)=L.take j++[t]:=tkL ht;have hsn:=vD (L.take j) t (aS qs).ds;rw[←htk,htl] at hsn;have hdb9:d9.B.length≤200000:=by have h:=Fk (L:=L.take j) (fun b hb=>hLb b (Tx hb)) (aS qs).ds;rw[htl,SL] at h;have h:d9.B.length≤_:=h;omega
  have hplj:pl9.length=j:=by have h:=kL (L.take j) (aS qs).ds;rw[htl,SL] at h;have h:pl9.length=_:=h;omega
  refine Gz 10 ?_;refine cL (OO sD rfl rfl hgo9.vw.non (by omega)) ?_;refine cL (OQ (u:=.slice x.a t.length x.c) (OR aO rfl (hgo9.vw.get j x hx)) (by rw[←hxn];rfl)) ?_;refine Gz 2 ?_;refine aW [(1,_),(13,_),(15,_),(72,_),(73,_),(74,_),(75,_)] ?_;refine Gz 5 ?_;refine OP Of rfl (Cp (fun k=>ow11 k=9) dg tp 64 d9 x.a x.c t w11 hD11 hxv (by decide) (by omega) htb.2) rfl ?_;obtain⟨R,hR⟩:∃ R,R=kF 64 d9 t:=⟨_,rfl⟩
  rw[←hR] at hsn ⊢;rintro _ w12 ⟨rfl,hD12,hf12⟩;have hz12:=hf12.size;obtain⟨ow12,eo12⟩:∃ o,o=mO w11 w12 9 ow11:=⟨_,rfl⟩
  have o12n:∀ k,ow11 k≠0→ow12 k=ow11 k:=fun k hk=>by rw[eo12];exact fJ 9 hn11 hk
  have o12o:∀ k,k<w11.heap.size→ow12 k=ow11 k:=fun k hk=>by rw[eo12];exact iF 9 ow11 hk
  have o12z:∀ k,w12.heap.size≤k→ow12 k=0:=fun k hk=>by rw[eo12];exact jG 9 ow11 hz12 hk
  have hM12:PiX 0 a ow12 w12.heap g tp qs ids (aS qs).files S0:=(hM11.step hf12 9 (by decide) (fun k hk=>.inl hk) o12n).calm (by decide);have hD12:DwO (fun k=>ow12 k=9) w12.heap dg tp 64 R.1:=hD12.mono (fun k hk=>by rw[eo12];exact lJ 9 hn11 (by decide) hk) (htn hM12 (by decide));have k12:∀ k,ow11 k=0→¬ (fun k=>ow11 k=9) k:=fun k h h2=>by have h2:ow11 k=9:=h2;omega
  have hpo12:=hpo.Sy hf12 (fun y hy=>k12 _ (hpd _ ⟨y,hy,rfl⟩).2);have hgo12:=hgo9.Sy hf12 (fun y hy=>k12 _ (hz11 _ (hgfr y hy) (hgol y hy)));have hrw12:=hrw9.Sy hf12 (fun k hk=>k12 k (hz11 k hk.1 hk.2));have hpol:=hpo.lt;refine PH (enc:=i64) (u:=(R.2:Int)) bO rfl rfl rfl ?_;intro w13 ho13 hs13 hf13;refine O5 GM bO rfl rfl (hpo12.Sw hf13) ho13.vw (by simp only[SO];omega) (by simp only[SO];unfold maxLen;omega) rfl ?_;intro po14 pc14 w14 ho14 hf14 hr14 hn14;have hz13:=hf13.size;have hz14:=hf14.size;have kp:∀ k,blk po k→ow12 k=0∧k<w11.heap.size∧W.heap.size≤k∧¬ (w9.heap.size≤k∧k<w20.heap.size):=fun k ⟨y,hy,e⟩=>by
   have h1:=hpol y hy;have h2:=hpd k ⟨y,hy,e⟩;have h3:=hpx k ⟨y,hy,e⟩;exact⟨by rw[o12o k (by omega)];exact h2.2,by omega,h2.1,h3⟩
  have hM14:=(hM12.Sw hf13).step hf14 0 (by decide) (fun k hk=>.inr (kp k hk).1) (fun _ _=>rfl);have hD14:=(hD12.Sw hf13).Sy hf14 (fun k hk h=>by have:=(kp k h).1;omega) (fun h=>by have:=(kp tp h).1;rw[hM12.2.2.2.1.2] at this;omega);have hgo14:=(hgo12.Sw hf13).Sy hf14 (fun y hy h=>(kp _ h).2.2.2 ⟨hgfr y hy,hgol y hy⟩);have hrw14:=(hrw12.Sy hf13 (fun _ _=>id)).Sy hf14 (fun k hk h=>(kp k h).2.2.2 hk);have l12:∀ k,k<W.heap.size→ow12 k=ow k:=fun k hk=>by rw[o12o k (by have:=hF11.size;omega)];exact hl11 k hk
  have hF14:aA (Lb ow) W w14:=((jW hl11 hF11 (hf12.mono (fun k h=>by have h:ow11 k=9:=h;unfold Lb;omega))).trans hf13.any).St hf14 (fun k h=>.inr (kp k h).2.2.1);have hF11z:=hF11.size;have hpd14:∀ k,blk po14 k→(W.heap.size≤k∧ow12 k=0)∧¬ (w9.heap.size≤k∧k<w20.heap.size):=fun k ⟨y,hy,e⟩=>by
   rcases hr14 y hy with h|h
   ·have:=kp k ⟨y,h,e⟩;exact⟨⟨this.2.2.1,this.1⟩,this.2.2.2⟩
   ·exact⟨⟨by omega,o12z k (by omega)⟩,by omega⟩
  refine Gz 8 ?_;exact aG ⟨⟨j+1,⟨R.1,pl9++[(R.2:Int)]⟩⟩,⟨ow12,⟨po14,pc14⟩⟩⟩ ⟨by omega,hsn,hM14,hD14,l12,fun k hk=>o12z k (by omega),ho14,fun k hk=>(hpd14 k hk).1,fun k hk=>(hpd14 k hk).2,hgo14,hrw14,fun k h1 h2=>by rw[o12o k (by omega)];exact hz11 k h1 h2,by omega,hF14⟩ (by show L.length-(j+1)<L.length-j;omega)
 have hje:j=L.length:=by omega
 subst hje;rw[Ts,hL] at htl;refine Gz 14 ?_;refine aW [(1,_),(4,_),(13,_),(72,_),(73,_),(74,_),(75,_)] ?_;refine Gz 3 ?_;subst epg;refine⟨_,rfl,po,pc,ow11,?_,?_,hpd,hM11,?_,hFI,hl11,hn11,hF11⟩
 ·rw[htl]
 ·rw[htl];exact hpo
 ·rw[htl];exact hD11
end
section
open Go Go.RowKit Go.Maps
structure ImB (qs:List (NdH×Nd))(ids:List Int) where
 G:GdT qs
 I:kZ qs ids
 sz:64+((eX (aF qs ids) ids).length:Int)≤1048576
section
variable {qs:List (NdH×Nd)}{ids:List Int}(M:ImB qs ids)
def stB(qs:List (NdH×Nd))(ids:List Int):BSt:=(aF qs ids).s
def plB(qs:List (NdH×Nd))(ids:List Int):List Int:=(aF qs ids).pl
def imB(qs:List (NdH×Nd))(ids:List Int):By:=suB (fL qs ids (aF qs ids))++eX (aF qs ids) ids
include M
theorem ImB.fi:FI (nds qs) (qs.length+1) (aS qs):=yT (fun q hq=>⟨M.G.ino q hq,(M.G.may q hq).2.2.2.2.2.2.1⟩)
theorem ImB.st:kH qs ids (aS qs).files (stB qs ids)∧(∀ q∈qs,0<(stB qs ids).refs.getD q.2.ino.toNat 0):=by
 obtain⟨S,e,h1,_,h2⟩:=lR M.G M.I M.fi;have e2:stB qs ids=S:=e;rw[e2];exact⟨h1,h2⟩
theorem ImB.pln:(plB qs ids).length=(aS qs).tails.length∧(plB qs ids).length≤40:=by
 have h:=kL (aS qs).tails (aS qs).ds;have h2:=M.fi.tn;have h3:=M.G.n.2;rw[SX] at h2;have e:(plB qs ids).length=(aS qs).tails.length:=h;exact⟨e,by omega⟩
theorem ImB.ids0:1≤ids.length∧ids.length≤80:=by
 obtain⟨r,hr,_⟩:=M.G.root;have h:=(M.I.2 _).2 (rB (SM hr)).1;have h2:=List.length_pos_of_mem h;have h3:=nZ M.I;have h4:=M.G.n.2;omega
theorem ImB.many:1≤(stB qs ids).many∧(stB qs ids).many≤41:=by
 obtain⟨h,h2⟩:=M.st;refine⟨?_,h.many41 M.G.n.2⟩;obtain⟨r,hr,_⟩:=M.G.root;have h3:=h2 r (SM hr);have h4:=M.G.ino r (SM hr);rw[h.many];have hm:(stB qs ids).refs.getD r.2.ino.toNat 0∈qO (stB qs ids):=by
  unfold qO;rw[List.mem_filter];have hl:r.2.ino.toNat<(stB qs ids).refs.length:=by rw[h.rl];omega
  exact⟨by rw[SS,SD hl];exact List.getElem_mem _,by simpa using h3⟩
 exact List.length_pos_of_mem hm
theorem ImB.may:jU (fL qs ids (aF qs ids)):=by
 obtain⟨a1,a2⟩:=M.many;obtain⟨b1,b2⟩:=M.ids0;obtain⟨c1,c2⟩:=M.pln;obtain⟨h,h2⟩:=M.st;obtain⟨r,hr,_⟩:=M.G.root;have h3:=h2 r (SM hr);have h4:=h.ref_le M.G.n.2 h3;have hs:=M.sz;have nd:=eM hr;have l2:(eY (aF qs ids)).length=(eZ (aF qs ids)).length+(dnW (aF qs ids).s.ino).length:=SE;have l3:(fP (aF qs ids)).length=(eY (aF qs ids)).length+(dnW (aF qs ids).s.lst).length:=SE;have l4:(gD (aF qs ids)).length=(fP (aF qs ids)).length+(dnW (aI (aF qs ids).pl 4).1).length:=SE;have l5:(iC (aF qs ids) ids).length=(gD (aF qs ids)).length+(dnW (aI ids 2).1).length:=SE;have l6:(eX (aF qs ids) ids).length=(iC (aF qs ids) ids).length+(dnW (aF qs ids).s.fur).length:=SE;refine⟨⟨?_,?_,?_,?_,?_,?_,?_⟩,?_,?_,?_,?_,?_,?_,?_,?_⟩
 ·show (64:Int)≤64+((eZ (aF qs ids)).length:Int);omega
 ·show 64+((eZ (aF qs ids)).length:Int)≤64+((eY (aF qs ids)).length:Int);omega
 ·show 64+((eY (aF qs ids)).length:Int)≤64+((fP (aF qs ids)).length:Int);omega
 ·show 64+((fP (aF qs ids)).length:Int)≤64+((gD (aF qs ids)).length:Int);omega
 ·show 64+((gD (aF qs ids)).length:Int)≤64+((iC (aF qs ids) ids).length:Int);omega
 ·show 64+((iC (aF qs ids) ids).length:Int)≤64+((eX (aF qs ids) ids).length:Int);omega
 ·exact hs
 ·show 1≤((stB qs ids).many:Int);omega
 ·show ((stB qs ids).many:Int)≤1024;omega
 ·show 1≤(ids.length:Int);omega
 ·show (ids.length:Int)≤2048;omega
 ·show 0≤((plB qs ids).length:Int);omega
 ·show ((plB qs ids).length:Int)≤1024;omega
 · show 0≤(stB qs ids).refs.getD (ndB qs ((0:Nat):Int)).ino.toNat 0-1
   rw[nd];omega
 · show (stB qs ids).refs.getD (ndB qs ((0:Nat):Int)).ino.toNat 0-1≤4294967295
   rw[nd];exact h4
theorem ImB.img:tJ qs ids=(imB qs ids,0):=by
 unfold tJ;rw[SA (by have:=M.sz;omega)];have:(hO (fL qs ids (aF qs ids))).1=suB (fL qs ids (aF qs ids)):=by unfold hO;rw[SB M.may]
 rw[this];rfl
theorem ImB.sup:dG (imB qs ids)=(fL qs ids (aF qs ids),0):=by
 refine zQ M.may (fun o ho=>?_) _ rfl;show SS [_,_,_,_,_,_,_,_,_,_] o (0:Int)=0;rw[SS,To (by simp only[S1,S9];omega)];rfl
end
end
section
open Go Go.RowKit Go.Maps
theorem jI(qs:List (NdH×Nd))(i:Nat):(qs.getD i (uT,nd0)).2=(nds qs).getD i nd0:=by
 unfold nds;rw[SS,SS,Ti];cases qs[i]?<;>rfl
section
variable {qs rs:List (NdH×Nd)}(h:nds qs=nds rs)
include h
theorem nR:qs.length=rs.length:=by have:=congrArg Tf h;simpa[nds] using this
theorem rF:ndB qs=ndB rs:=by
 funext k;unfold ndB;rw[jI,jI,h]
theorem II:nmG qs=nmG rs:=by
 funext k;unfold nmG;rw[jI,jI,h]
theorem GC:aZ qs=aZ rs:=by
 funext s n
 induction n with
|zero=>rfl
|succ n ih=>rw[aZ,aZ,ih,II h]
theorem Hx:iT qs=iT rs:=by
 funext z;have e:∀ l:List (NdH×Nd),iT l z=(((nds l).countP (fun n=>decide (n.ino=z)):Nat):Int):=fun l=>by
  unfold iT nds;rw[List.countP_map];rfl
 rw[e,e,h]
theorem Gs:uU qs=uU rs:=by
 funext i;unfold uU;rw[jI,jI,h,nR h,Hx h]
theorem G5(ids:List Int):dV qs ids=dV rs ids:=by
 funext k i s;unfold dV inB;rw[rF h,Gs h]
theorem HZ(wr:Int→BSt→BSt):wrK wr qs=wrK wr rs:=by
 funext l
 induction l with
|nil=>rfl
|cons j r ih=>
   funext s;rw[wrK,wrK,ih,rF h]
theorem H0(ids:List Int)(files:List Ino):wrB qs ids files=wrB rs ids files:=by
 funext n
 induction n with
|zero=>rfl
|succ n ih=>
   funext k s;rw[wrB,wrB,ih,rF h,G5 h,HZ h,GC h,nR h]
theorem G9:aS qs=aS rs:=by unfold aS;rw[h,nR h]
theorem Bu(ids:List Int):aF qs ids=aF rs ids:=by
 unfold aF;rw[G9 h,H0 h,nR h]
theorem nY(ids:List Int):tJ qs ids=tJ rs ids:=by
 have e:fL qs ids (aF qs ids)=fL rs ids (aF rs ids):=by
  funext j;unfold fL;rw[Bu h,rF h]
 unfold tJ;rw[e,Bu h]
end
end
section
open Go Go.RowKit Go.Maps Go.Sort
section
variable {P:Program}{N:Nt}{Q:Exit→Act→World→Prop}{l:SF}{w:World}{ops:Array Oper}{rest:List Oper}{ty:TypeId}{pos:String}{aft:Array Edge}{x:Operand}{v:Value}{d:Nat}
theorem QQ{T:TypeId}(hx:evL l x=some v)(hd:Nat.blt d N.n=true)
 (h:∀ w',w'=w.alloc (.cells v.cells T)→Sl P N ops Q rest ((d,pT w.heap.size)::l) w') :
 Sl P N ops Q (⟨some d,.box T x,ty,pos,aft,none⟩::rest) l w:=by
 refine Pm (w':=w.alloc (.cells v.cells T)) (fun a ha=>?_) hd (h _ rfl);simp[execOp,ha.ev hx,Instr.box,newVar,newRow]
end
theorem EV(p q:NdH×Nd)(W:World){D:Nat→Prop}(hp:NmV D W.heap p.1.names p.2.names)(hq:NmV D W.heap q.1.names q.2.names) :
 CA 58 [.agg (aE p).toArray,.agg (aE q).toArray] W fun v w'=>v=iV (bZ p.2.names q.2.names)∧∃ o1 o2,w'=(W.alloc o1).alloc o2:=by
 refine cS 10 [(0,_),(1,_)] Tryz.func58 ?_;refine Gz 2 ?_;refine QQ rfl rfl ?_;intro w1 hw1;have hg1:w1.heap[W.heap.size]?=some (.cells (aE p).toArray 37 (0,0)):=by rw[hw1];exact heap_alloc_new W _
 have hf1:aA nob W w1:=by rw[hw1];exact aA.alloc _ _ _
 obtain⟨g,hg⟩:∃ g,g=W.heap.size:=⟨_,rfl⟩
 rw[←hg] at hg1 ⊢;refine QQ rfl rfl ?_;intro w2 hw2;have hg2:w2.heap[w1.heap.size]?=some (.cells (aE q).toArray 37 (0,0)):=by rw[hw2];exact heap_alloc_new w1 _
 have hf2:aA nob w1 w2:=by rw[hw2];exact aA.alloc _ _ _
 obtain⟨r,hr⟩:∃ r,r=w1.heap.size:=⟨_,rfl⟩
 rw[←hr] at hg2 ⊢;have hgp:=hf2.obj hg1 id;have hp2:=hp.Sy (hf1.trans hf2) (fun _ _=>id);have hq2:=hq.Sy (hf1.trans hf2) (fun _ _=>id);refine Gz 9 ?_;refine OP LM rfl ((by show Calls _ _ [Value.slice p.1.names.a p.1.names.n p.1.names.c,Value.slice q.1.names.a q.1.names.n q.1.names.c].toArray _ _;rw[hp2.1,hq2.1];exact tZ _ _ _ _ p.2.names q.2.names w2 hp2.2.1 hq2.2.1)) rfl ?_;rintro _ w3 ⟨rfl,hw3⟩;subst w3;refine Gz 5 ?_;exact⟨_,rfl,rfl,_,_,by rw[hw2,hw1]⟩
theorem sC{α:Type}[Inhabited α](enc:α→List Value)(K:Nat)(W:World)(b m:Nat)(dk:Array α)(os:Array Obj):aA (· = b) W (sortWorldK enc K W b 0 m dk os):=by
 unfold sortWorldK putRowK putRow mapBlock grow Go.Sort.ahead;refine⟨rfl,rfl,rfl,by simp,fun k hk hne=>?_⟩;show (W.heap.modify b _++os)[k]?=_;rw[Array.getElem?_append_left (by simpa using hk),Ui,SA (fun e=>hne e.symm)]
theorem wP{α:Type}[Inhabited α]{enc:α→List Value}{K:Nat}(hk:∀ x,(enc x).length=K)(hK:0<K)(d:Array α)(t:Nat)(ht:t<d.size*K):(flatK enc K d)[t]?=(d.toList.flatMap enc)[t]?:=by
 have h1:t/K<d.size:=(Nat.div_lt_iff_lt_mul hK).2 ht;have h2:t%K<K:=Nat.mod_lt _ hK;have e1:d.toList[t/K]?=some d[t/K]!:=by rw[Array.getElem?_toList,getElem!_pos d _ h1];exact T3 h1
 have e2:(enc d[t/K]!)[t%K]?=some (enc d[t/K]!)[t%K]!:=by
  have:t%K<(enc d[t/K]!).length:=by rw[hk];exact h2
  rw[SD this];exact congrArg some (getElem!_pos (enc d[t/K]!) (t%K) this).symm
 have e3:=mR hk d.toList (t/K) _ e1 (t%K) _ e2;rw[Nat.div_add_mod'] at e3;rw[e3];have:t<(flatK enc K d).size:=by rw[size_flatK];exact ht
 rw[T3 this,←getElem!_pos (flatK enc K d) t this,get_flatK enc K d t ht]
theorem Eg{α:Type}[Inhabited α]{enc:α→List Value}{K:Nat}(hk:∀ x,(enc x).length=K)(hK:0<K){W:World}{b:Nat}{cur:Array Value}{T:TypeId}{d:Array α}(hg:W.heap[b]?=some (.cells cur T (0,0)))(hc:cur.toList.take (d.size*K)=d.toList.flatMap enc):HoldsK enc K W b 0 d:=by
 intro j hj;rw[size_flatK] at hj;have h1:=wP hk hK d j hj;rw[←hc,Tl,SB hj,Array.getElem?_toList] at h1;have h2:j<(flatK enc K d).size:=by rw[size_flatK];exact hj
 have h3:(flatK enc K d)[j]?=some (flatK enc K d)[j]!:=by rw[getElem!_pos _ j h2];exact T3 h2
 refine⟨?_,?_⟩
 · show World.cell? W ⟨b,0+j,none⟩=some (flatK enc K d)[j]!
   rw[Tu,←h3,h1];simp[World.cell?,hg]
 ·simp[World.frozen?,hg]
theorem EC{α:Type}[Inhabited α]{enc:α→List Value}{K:Nat}(hk:∀ x,(enc x).length=K)(hK:0<K){W:World}{b cap m:Nat}{cur:Array Value}{T:TypeId}{d:Array α}{os:Array Obj}(hg:W.heap[b]?=some (.cells cur T (0,0)))(hl:d.size≤cap)(hm:cap≤maxLen)(hs:cur.size=cap*K) :
 ∃ cur':Array Value,(sortWorldK enc K W b 0 m d os).heap[b]?=some (.cells cur' T (0,0))∧cur'.size=cap*K∧cur'.toList.take (d.size*K)=d.toList.flatMap enc:=by
 have hb:=(SJ.1 hg).1;refine⟨putCells id 0 (flatK enc K d) cur,?_,by simp[putCells,hs],?_⟩
 · unfold sortWorldK putRowK putRow mapBlock grow Go.Sort.ahead
   show (W.heap.modify b _++os)[b]?=_;rw[Array.getElem?_append_left (by simpa using hb),Ui,SB rfl,hg];rfl
 · apply TJ
   intro t;have hle:d.size*K≤cap*K:=Nat.mul_le_mul_right K hl;by_cases ht:t<d.size*K
   · rw[Tl,SB ht,Array.getElem?_toList,←wP hk hK d t ht]
     have h2:t<(flatK enc K d).size:=by rw[size_flatK];exact ht
     unfold putCells;rw[Array.getElem?_mapIdx,T3 (show t<cur.size by omega),Option.map_some,SB ⟨SQ _,by omega⟩];rw[T3 h2,←getElem!_pos (flatK enc K d) t h2];rfl
   ·rw[Tl,SA ht,To (by rw[bM hk,TW];omega)]
end
section
open Go Go.Proofs Go.Shelf
def Sq:Go.Shelf.Ren:=⟨fun|6=>57|15=>113|14=>112|28=>162|29=>163|20=>154|21=>155|22=>156|23=>157|24=>158|25=>159|26=>160|27=>161|46=>197|47=>198|48=>199|49=>200|50=>201|57=>221|n=>n,fun|22=>22|24=>37|25=>116|3=>3|39=>97|0=>0|53=>39|55=>227|4=>4|46=>220|45=>219|50=>118|5=>5|9=>9|66=>252|70=>72|76=>273|77=>91|n=>n,fun|n=>n⟩
theorem Sr:Go.Proofs.SlLaysF0.n6 Tryz.prog Sq where
 mixed:=by kernel_rfl
 f6 := ⟨ "slices.SortFunc[[]lamella/api.Node,lamella/api.Node]", by decide, Tryz.func57.trans (congrArg some (by kernel_rfl))⟩
 f14 := ⟨ "slices.pdqsortCmpFunc[lamella/api.Node]", by decide, Tryz.func112.trans (congrArg some (by kernel_rfl))⟩
 f15:=Tryz.func113.trans (congrArg some (by kernel_rfl))
 f20 := ⟨ "slices.insertionSortCmpFunc[lamella/api.Node]", by decide, Tryz.func154.trans (congrArg some (by kernel_rfl))⟩
 f21 := ⟨ "slices.heapSortCmpFunc[lamella/api.Node]", by decide, Tryz.func155.trans (congrArg some (by kernel_rfl))⟩
 f22 := ⟨ "slices.breakPatternsCmpFunc[lamella/api.Node]", by decide, Tryz.func156.trans (congrArg some (by kernel_rfl))⟩
 f23 := ⟨ "slices.choosePivotCmpFunc[lamella/api.Node]", by decide, Tryz.func157.trans (congrArg some (by kernel_rfl))⟩
 f24 := ⟨ "slices.reverseRangeCmpFunc[lamella/api.Node]", by decide, Tryz.func158.trans (congrArg some (by kernel_rfl))⟩
 f25 := ⟨ "slices.partialInsertionSortCmpFunc[lamella/api.Node]", by decide, Tryz.func159.trans (congrArg some (by kernel_rfl))⟩
 f26 := ⟨ "slices.partitionEqualCmpFunc[lamella/api.Node]", by decide, Tryz.func160.trans (congrArg some (by kernel_rfl))⟩
 f27 := ⟨ "slices.partitionCmpFunc[lamella/api.Node]", by decide, Tryz.func161.trans (congrArg some (by kernel_rfl))⟩
 f28:=Tryz.func162.trans (congrArg some (by kernel_rfl))
 f29:=Tryz.func163.trans (congrArg some (by kernel_rfl))
 f46 := ⟨ "slices.siftDownCmpFunc[lamella/api.Node]", by decide, Tryz.func197.trans (congrArg some (by kernel_rfl))⟩
 f47:=Tryz.func198.trans (congrArg some (by kernel_rfl))
 f48:=Tryz.func199.trans (congrArg some (by kernel_rfl))
 f49 := ⟨ "slices.medianAdjacentCmpFunc[lamella/api.Node]", by decide, Tryz.func200.trans (congrArg some (by kernel_rfl))⟩
 f50 := ⟨ "slices.medianCmpFunc[lamella/api.Node]", by decide, Tryz.func201.trans (congrArg some (by kernel_rfl))⟩
 f57 := ⟨ "slices.order2CmpFunc[lamella/api.Node]", by decide, Tryz.func221.trans (congrArg some (by kernel_rfl))⟩
 t0:=Tryz.underlying0
 a0:=Tryz.isAgg0
 z0:=Tryz.sizeOf0
 v0:=Tryz.zeroValue0
 t3:=Tryz.underlying3
 a3:=Tryz.isAgg3
 z3:=Tryz.sizeOf3
 v3:=Tryz.zeroValue3
 t4:=Tryz.underlying4
 a4:=Tryz.isAgg4
 z4:=Tryz.sizeOf4
 v4:=Tryz.zeroValue4
 t5:=Tryz.underlying5
 a5:=Tryz.isAgg5
 z5:=Tryz.sizeOf5
 v5:=Tryz.zeroValue5
 t9:=Tryz.underlying9
 a9:=Tryz.isAgg9
 z9:=Tryz.sizeOf9
 v9:=Tryz.zeroValue9
 t22:=Tryz.underlying22
 a22:=Tryz.isAgg22
 z22:=Tryz.sizeOf22
 v22:=Tryz.zeroValue22
 t25:=Tryz.underlying116
 a25:=Tryz.isAgg116
 z25:=Tryz.sizeOf116
 v25:=Tryz.zeroValue116
 t39:=Tryz.underlying97
 a39:=Tryz.isAgg97
 z39:=Tryz.sizeOf97
 v39:=Tryz.zeroValue97
 t45:=Tryz.underlying219
 a45:=Tryz.isAgg219
 z45:=Tryz.sizeOf219
 v45:=Tryz.zeroValue219
 t46:=Tryz.underlying220
 a46:=Tryz.isAgg220
 z46:=Tryz.sizeOf220
 v46:=Tryz.zeroValue220
 t50:=Tryz.underlying118
 a50:=Tryz.isAgg118
 z50:=Tryz.sizeOf118
 v50:=Tryz.zeroValue118
 t53:=Tryz.underlying39
 a53:=Tryz.isAgg39
 z53:=Tryz.sizeOf39
 v53:=Tryz.zeroValue39
 t55:=Tryz.underlying227
 a55:=Tryz.isAgg227
 z55:=Tryz.sizeOf227
 v55:=Tryz.zeroValue227
 t66:=Tryz.underlying252
 a66:=Tryz.isAgg252
 z66:=Tryz.sizeOf252
 v66:=Tryz.zeroValue252
 t70:=Tryz.underlying72
 a70:=Tryz.isAgg72
 z70:=Tryz.sizeOf72
 v70:=Tryz.zeroValue72
 t76:=Tryz.underlying273
 a76:=Tryz.isAgg273
 z76:=Tryz.sizeOf273
 v76:=Tryz.zeroValue273
 t77:=Tryz.underlying91
 a77:=Tryz.isAgg91
 z77:=Tryz.sizeOf91
 v77:=Tryz.zeroValue91
end
section
open Go Go.RowKit Go.Maps Go.Sort
def NmB(W:World)(b:Nat)(p:NdH×Nd):Prop:=NmV (fun k=>k≠b∧k<W.heap.size) W.heap p.1.names p.2.names
abbrev NmS(W:World)(b:Nat):={ p:NdH×Nd // NmB W b p }
instance (W:World)(b:Nat):Inhabited (NmS W b):=⟨⟨(uT,nd0),⟨rfl,RR 0 (SQ _),fun h=>absurd rfl h⟩⟩⟩
def Co{W:World}{b:Nat}(x:NmS W b):List Value:=aE x.1
def cfS{W:World}{b:Nat}(x y:NmS W b):Int:=bZ x.1.2.names y.1.2.names
theorem NR{W:World}{b:Nat}:SWO (Go.Proofs.ltOf (cfS (W:=W) (b:=b))) where
 irrefl x:=pD _
 trans x y z h1 h2:=qD (a:=x.1.2.names) (b:=y.1.2.names) (c:=z.1.2.names) h1 h2
 ntrans x y z h1 h2:=AE (a:=x.1.2.names) (b:=y.1.2.names) (c:=z.1.2.names) h1 h2
theorem Ii(b cap:Nat)(xs:List (NdH×Nd))(W:World)(ho:bJ 10 aE 37 W.heap (some ⟨b,0,none⟩) cap xs)(hn:∀ p∈xs,NmB W b p)(hl:xs.length≤1024) :
 CA 57 [.slice (some ⟨b,0,none⟩) xs.length cap,.func (.func 58) #[] #[]] W fun v w'=>v=.tuple #[]∧∃ ys:List (NdH×Nd),bJ 10 aE 37 w'.heap (some ⟨b,0,none⟩) cap ys∧ys.Perm xs∧ys.Pairwise Aq∧aA (· = b) W w':=by
 rcases ho with⟨h,_⟩|⟨g,cur,hg0,hg,g1,g2,g3,g4⟩
 ·cases h
 · cases hg0
   obtain⟨d,hd⟩:∃ d:Array (NmS W b),d=(xs.attach.map fun x=>(⟨x.1,hn x.1 x.2⟩:NmS W b)).toArray:=⟨_,rfl⟩
   have hdl:d.toList.map (·.1)=xs:=by rw[hd];simp only[List.map_map];exact List.attach_map_subtype_val xs
   have hds:d.size=xs.length:=by rw[←hdl];simp
   have hfl:∀ e:Array (NmS W b),e.toList.flatMap Co=(e.toList.map (·.1)).flatMap aE:=fun e=>by rw[List.flatMap_map];rfl
   have hH:HoldsK Co 10 W b 0 d:=Eg (enc:=Co) (K:=10) (fun _=>rfl) (by decide) hg (by rw[hds,hfl,hdl];exact g4);have hcmp:CmpLays Tryz.prog 58 #[] Co 10 cfS b 0 d.size W:=fun m os dk _ x y=>by
    have hf:=sC Co 10 W b m dk os;refine(EV x.1 y.1 _ (x.2.Sy hf (fun k hk e=>hk.1 e)) (y.2.Sy hf (fun k hk e=>hk.1 e))).mono ?_;rintro e w' ⟨v,rfl,rfl,o1,o2,rfl⟩;exact⟨rfl,0,#[o1]++#[o2],by rw[alloc_eq_grow,alloc_eq_grow,grow_grow];rfl⟩
   have h:=AnyQ.slices_SortFunc Sr 10 Tryz.isAgg37 Tryz.sizeOf37 Co (fun _=>rfl) (fun x v hv=>(aB x.1).2 v hv) cfS NR 58 #[] b 0 cap d W (enters_of Tryz.func58 (by kernel_rfl) rfl) hcmp hH (SJ.1 hg).1 (by omega);rw[hds] at h;refine Calls.mono h ?_;rintro e w' ⟨rfl,d',n,os,⟨p1,_,p3⟩,hs,rfl⟩;have q1:d'.size=xs.length:=by rw[p1,hds]
   obtain⟨cur',c1,c2,c3⟩:=EC (enc:=Co) (K:=10) (m:=n) (d:=d') (os:=os) (fun _=>rfl) (by decide) hg (by rw[q1];exact g1) g2 g3;refine⟨_,rfl,rfl,d'.toList.map (·.1),.inr ⟨b,cur',rfl,c1,by rw[SX,TW,q1];exact g1,g2,c2,?_⟩,?_,?_,sC _ _ _ _ _ _ _⟩
   ·rw[SX,TW,c3,hfl]
   · rw[←hdl]
     refine List.Perm.map _ ?_;have e1:d'.extract 0 xs.length=d':=by rw[←q1];exact Array.extract_size
     have e2:d.extract 0 xs.length=d:=by rw[←hds];exact Array.extract_size
     rw[e1,e2] at p3;exact p3
   · rw[List.pairwise_iff_getElem]
     intro i j hi hj hij;rw[SX,TW] at hi hj;have h1:=hs i j (SQ _) hij (by omega);rw[getElem!_pos d' i hi,getElem!_pos d' j hj] at h1;simp only[List.getElem_map,Array.getElem_toList];exact h1
end
section
open Go Go.RowKit Go.Maps
theorem KH:pQ Tryz.prog 58 3 3 (iV 0):=⟨by kernel_rfl,by kernel_rfl⟩
def lW(Z zs:List Int)(m:List (I6×Value)):Prop:=(∀ z:I6,bP m z=if z.1∈zs then some (iV (gL Z z.1)) else none)∧m.length=(bK zs).length
section
variable {Z zs:List Int}{m:List (I6×Value)}
theorem Ss:lW Z [] []:=⟨fun z=>by simp[bP],rfl⟩
theorem lW.z(h:lW Z zs m)(z:I6):(bP m z).getD (iV 0)=iV (if z.1∈zs then gL Z z.1 else 0):=by
 rw[h.1 z];split<;>rfl
theorem lW.is(h:lW Z zs m)(z:I6):decide ((bP m z).isSome=true)=decide (z.1∈zs):=by
 apply decide_eq_decide.2;rw[h.1 z];split<;>simp_all
theorem lW.old(h:lW Z zs m){z:Int}(hz:z∈zs):lW Z (zs++[z]) m:=⟨fun y=>by
 rw[h.1 y];have:(y.1∈zs)↔y.1∈zs++[z]:=by
  rw[List.mem_append,Th];exact⟨.inl,fun e=>e.elim id (fun e=>e ▸ hz)⟩
 by_cases hy:y.1∈zs
 ·rw[SB hy,SB (this.1 hy)]
 ·rw[SA hy,SA (fun e=>hy (this.2 e))],by rw[h.2,nC hz]⟩
theorem lW.new(h:lW Z zs m)(z:I6)(hz:z.1∉zs):lW Z (zs++[z.1]) (bV m z (iV (gL Z z.1))):=by
 have hn:bP m z=none:=by rw[h.1 z,SA hz]
 refine⟨fun y=>?_,by rw[fF _ hn,SE,h.2,nD hz];rfl⟩;rw[gX];by_cases e:y=z
 ·subst e;rw[SB rfl,SB (by simp)]
 · have e2:¬ y.1=z.1:=fun h=>e (Subtype.ext h)
   rw[SA e,h.1 y];by_cases hy:y.1∈zs
   ·rw[SB hy,SB (by simp[hy])]
   ·rw[SA hy,SA (by simp[hy,e2])]
end
theorem F4{α:Type}{K:Nat}{enc:α→List Value}{T:TypeId}{H:Array Obj}{ao:Option Addr}{cap:Nat}{xs:List α}(h:bJ K enc T H ao cap xs)(hne:xs≠[]):∃ b,ao=some ⟨b,0,none⟩:=by
 rcases h with⟨_,_,h⟩|⟨g,_,h,_⟩
 ·exact absurd h hne
 ·exact⟨g,h⟩
theorem NmV.real{D:Nat→Prop}{H:Array Obj}{h:Hd}{l:List By}(v:NmV D H h l):NmV (fun k=>k<H.size) H h l:=⟨v.1,v.2.1,fun hne k ⟨a,ha,e⟩=>by have:=v.2.1.lt hne a ha;show k<H.size;omega⟩
def zJ(b g i:Nat)(Z:List Int)(ys zs:List (NdH×Nd))(w:World):Prop:=zs.length=ys.length∧(∀ j:Nat,i≤j→zs[j]?=ys[j]?)∧∀ (j:Nat) (q p:NdH×Nd),j<i→zs[j]?=some q→ys[j]?=some p→q.2=(dS Z p).2∧NdV (fun k=>k≠b∧k≠g∧k<w.heap.size) w.heap q
theorem zJ.Sw{b g i:Nat}{Z:List Int}{ys zs:List (NdH×Nd)}{w w':World}(h:zJ b g i Z ys zs w)(f:aA (fun k=>k=b∨k=g) w w'):zJ b g i Z ys zs w':=
 ⟨h.1,h.2.1,fun j q p hj hq hp=>⟨(h.2.2 j q p hj hq hp).1,((h.2.2 j q p hj hq hp).2.Sy f (fun k hk e=>e.elim hk.1 hk.2.1)).mono (fun k hk=>⟨hk.1,hk.2.1,TB hk.2.2 f.size⟩)⟩⟩
theorem zJ.put{b g i:Nat}{Z:List Int}{ys zs:List (NdH×Nd)}{w:World}{p q:NdH×Nd}(h:zJ b g i Z ys zs w)(hp:ys[i]?=some p)(hq:q.2=(dS Z p).2)(hv:NdV (fun k=>k≠b∧k≠g∧k<w.heap.size) w.heap q):zJ b g (i+1) Z ys (zs.set i q) w:=by
 have hil:=(SG.1 hp).1;refine⟨by rw[Tz];exact h.1,fun j hj=>by rw[TC (by omega)];exact h.2.1 j (by omega),fun j r s hj hr hs=>?_⟩;by_cases e:j=i
 · subst e
   rw[Tj (by rw[h.1];exact hil)] at hr;cases hr;rw[hp] at hs;cases hs;exact⟨hq,hv⟩
 · rw[TC (fun h=>e h.symm)] at hr
   exact h.2.2 j r s (by omega) hr hs
theorem zJ.eq{b g:Nat}{ys zs:List (NdH×Nd)}{w:World}(h:zJ b g ys.length (aK ys) ys zs w):nds zs=nds (yC ys):=by
 apply TJ;intro j;by_cases hj:j<ys.length
 · have h1:=SD hj
   have h2:zs[j]?=some (zs[j]'(by rw[h.1];exact hj)):=SD _;have h3:=(h.2.2 j _ _ hj h2 h1).1;rw[dK h2,h3];simp[nds,yC,h1]
 ·rw[To (by rw[SX,h.1];omega),To (by rw[SX,yC,SX];omega)]
theorem JF{ps:List (NdH×Nd)}(h:chk (nds ps)=0):∀ p∈ps,eH p.2:=by
 intro p hp;have h0:=oM h;rw[aH,h0] at h;rw[SA (show ¬ ((0:Int)≠0) from fun h=>h rfl)] at h;by_cases hm:∃ n∈nds ps,¬ eH n
 ·rw[SB hm] at h;cases h
 ·exact SN fun hn=>hm ⟨p.2,S6.2 ⟨p,hp,rfl⟩,hn⟩
theorem De{n:Nd}(h:eH n){k:Nat}{y:Xa}(hy:n.xs[k]?=some y):y.2.length≤200:=by
 have hk:=(SG.1 hy).1;have h1:=(h.2.2.2.2.2.2.2.2.1 k hk).2.2.2;have e:n.xs.getD k x0=y:=by simp[SS,hy]
 rwa[e] at h1
variable {D:Nat→Prop}
def XrJ(s k:Nat)(xx:List (By×Hd))(X:List Xa)(us:List (By×Hd))(w:World):Prop:=us.length=xx.length∧(∀ j:Nat,k≤j→us[j]?=xx[j]?)∧∀ (j:Nat) (u:By×Hd) (x:Xa),j<k→us[j]?=some u→X[j]?=some x→u.1=x.1∧ByV (fun q=>s≤q∧q<w.heap.size) w.heap u.2 x.2
theorem HE(lo:Option Addr)(lc:Nat)(ps:List (NdH×Nd))(W:World)(hv:aU D W.heap lo lc ps)(hsm:∀ p∈ps,smN p.2)(hok:∀ p∈ps,okN p.2) :
 CA 18 [.slice lo ps.length lc] W fun v w'=>∃ (o:Option Addr) (c:Nat) (qs:List (NdH×Nd)),v=.tuple [.slice o qs.length c,iV (chk (nds ps))].toArray∧(chk (nds ps)≠0→qs=[])∧(chk (nds ps)=0→nds qs=nds (fY ps))∧aU (fun _=>True) w'.heap o c qs∧Fr W.heap.size o∧aA nob W w':=by
 have hll:(nds ps).length=ps.length:=by simp
 refine cS 102 [(0,_)] Tryz.func18 ?_;refine cA 10 Oo (HA lo lc ps W hv hsm hok) ?_;rintro _ w2 ⟨rfl,hf2⟩;refine fK 6 ?_ ?_<;>intro h16
 ·refine Gz 13 ?_;exact⟨_,rfl,none,0,[],rfl,fun _=>rfl,fun h=>absurd h h16,⟨⟨SQ _,SQ _,fun h=>absurd rfl h,fun i x hx=>by simp at hx⟩,by simp⟩,RQ,hf2⟩
 have hz:chk (nds ps)=0:=Tw.1 h16;have hlen:=DE hz;have ht:=pN hz;have hne:ps≠[]:=fun e=>by subst e;exact absurd hz (by decide +kernel)
 have hmay:∀ p∈ps,eH p.2:=JF hz;have hnm16:∀ p∈ps,p.2.names.length≤16:=fun p hp=>(iE (sO (oM hz))).2.1 p.2 (S6.2 ⟨p,hp,rfl⟩);refine Gz 8 ?_;refine OP On rfl (ES lo lc ps w2 (hv.Sw hf2).1 (by omega)) rfl ?_;rintro _ w3 ⟨o,c3,rfl,ho3,hfo,hf3⟩;obtain⟨b,rfl⟩:=F4 ho3 hne;have hF3:=hf2.trans hf3;have hbW:W.heap.size≤b:=by have:=hfo _ rfl;have:=hf2.size;exact Nat.le_trans hf2.size (hfo _ rfl)
 refine Gz 6 ?_;refine OP Om rfl (Ii b c3 ps w3 ho3 (fun p hp=>(((hv.2 p hp).1.real).Sy hF3 (fun _ _=>id)).mono (fun k hk=>⟨fun e=>by omega,TB hk hF3.size⟩)) (by omega)) rfl ?_;rintro _ w4 ⟨rfl,ys,ho4,hpe,hor,hf4⟩;have hF4:aA nob W w4:=hF3.St hf4 (fun k e=>.inr (by have e:k=b:=e;omega));have hys:=zZ ht hpe hor;have hyl:=hpe.length_eq;obtain⟨Z,hZ⟩:∃ Z,Z=aK ys:=⟨_,rfl⟩
 have hym:∀ p∈ys,p∈ps:=fun p hp=>hpe.mem_iff.1 hp;have hb4:b<w4.heap.size:=ho4.lt _ rfl;refine Gz 4 ?_;refine Pq (enc:=enI) rfl ?_;intro w41 hm41 hs41 hf41;obtain⟨g,hg⟩:∃ g,g=w4.heap.size:=⟨_,rfl⟩
 rw[←hg] at hm41 ⊢;have hF41:=hF4.trans hf41;have hbg:b<g:=by omega
 have hgW:W.heap.size≤g:=by have:=hF4.size;omega
 refine Gz 12 ?_;refine OU (β:=Nat×List (NdH×Nd)×List (I6×Value)) (fun⟨i,zs,m⟩=>[(5,.slice (some ⟨b,0,none⟩) ps.length c3),(6,.map (some g)),(24,iV ps.length),(25,iV i)]) (fun⟨i,zs,m⟩ w=>i≤ps.length∧bJ 10 aE 37 w.heap (some ⟨b,0,none⟩) c3 zs∧zJ b g i Z ys zs w∧cF enI w.heap g m∧lW Z (aK (ys.take i)) m∧aA nob W w) (fun⟨i,zs,m⟩=>ps.length-i) ⟨0,ys,[]⟩ ⟨rfl,rfl,rfl,rfl,trivial⟩ ⟨SQ _,ho4.Sw hf41,⟨rfl,fun _ _=>rfl,fun j _ _ hj=>by omega⟩,hm41,Ss,hF41⟩ ?_;rintro⟨i,zs,m⟩ w5 ⟨hi,ho5,hC,hm5,hMI,hF5⟩;refine fK 2 ?_ ?_<;>intro h26
 ·have hil:i<ps.length:=by omega
  obtain⟨p,hp⟩:∃ p,ys[i]?=some p:=⟨_,SD (by omega)⟩
  have hpm:=hym p (SM hp);have hzi:zs[i]?=some p:=by rw[hC.2.1 i (SI _)];exact hp
  have hv5:=ho5.vw aB;have hzb:=hok p hpm p.2.ino (by simp);have hsl:=CX (aK (ys.take i));have hil2:(aK (ys.take i)).length=i:=by simp[aK];omega
  have hml:=hMI.2;have hzl:=hC.1;have hizs:i<zs.length:=by omega
  have hpv:=hv.2 p hpm;have hpmay:=hmay p hpm;refine Gz 13 ?_;refine aW [(5,_),(6,_),(7,_),(24,_),(25,_),(26,_)] ?_;refine Gz 5 ?_;refine cL (OV bR rfl rfl (fun _=>by simp) (by omega)) ?_;refine Gz 9 ?_;refine cL (OR aJ rfl (hv5.rowZ i rfl hzi 1 _ rfl)) ?_;refine cL (OQ (u:=.tuple [iV (if p.2.ino∈aK (ys.take i) then gL Z p.2.ino else 0),.bool (decide (p.2.ino∈aK (ys.take i)))].toArray) (Pu KH qQ (a:=(⟨p.2.ino,hzb⟩:I6)) rfl rfl (fun _ e=>by rw[e];exact hm5)) (by rw[hMI.z,hMI.is])) ?_;refine Gz 3 ?_;by_cases h39:p.2.ino∈aK (ys.take i)
  ·rw[SH h39];rw[SB h39];refine Gz 4 ?_;refine Po (β:=List (I6×Value)) (fun m2=>[(5,.slice (some ⟨b,0,none⟩) ps.length c3),(6,.map (some g)),(8,.pointer (some (adr (some ⟨b,0,none⟩) (i*10)))),(9,iV (gL Z p.2.ino)),(24,iV ps.length),(25,iV i)]) (fun m2 w=>cF enI w.heap g m2∧lW Z (aK (ys.take (i+1))) m2∧bJ 10 aE 37 w.heap (some ⟨b,0,none⟩) c3 zs∧aA (fun k=>k=b∨k=g) w5 w) ?_ ?_
   ·refine Gz 3 ?_;refine cL (O7 rfl) ?_;refine Gz 4 ?_
    first
    |exact aC m ⟨hm5,by rw[nW hp];exact hMI.old h39,ho5,RL _ _⟩
    |exact Pk _ ⟨rfl,rfl,rfl,congrArg (fun z:Int=>some (Value.int .i64 z)) hnew,rfl,rfl,trivial⟩ ⟨hm6,by rw[nW hp];exact hMI.new (⟨p.2.ino,hzb⟩:I6) h39,ho5.Sy hf6 (fun a ha e=>by cases ha;have e:b=g:=e;omega),hf6.mono (fun k e=>.inr e)⟩
   rintro m2 w6 ⟨hm6,hMI2,ho6,hH6⟩;refine Gz 6 ?_;refine Pt aB (i:=i) (j:=1) (x':=dS Z p) hzi (by decide) rfl aJ rfl rfl rfl rfl ho6 ?_;intro w7 ho7 hs7 hf7;have hH7:aA (fun k=>k=b∨k=g) w5 w7:=hH6.step hf7 (fun k ⟨a,ha,e⟩=>.inl (.inl (by cases ha;exact e.symm)));have hzi7:(zs.set i (dS Z p))[i]?=some (dS Z p):=Tj (by omega);have hm7:=hm6.Sy hf7 (fun⟨a,ha,e⟩=>by cases ha;have e:b=g:=e;omega);refine Gz 3 ?_;obtain⟨hxn0,xx,hxv,hxl,hxd,hxx⟩:=hpv.2.2;have hxn:p.1.xs.n=xx.length:=by rw[hxn0,hxl]
   have hx8:p.2.xs.length≤8:=hpmay.2.2.2.2.2.2.2.2.2;have hG7:aA nob W w7:=hF5.St hH7 (fun k e=>.inr (by rcases e with e|e<;>omega));refine PG 20 [6,11,16] (fun H=>VwM 10 aE H (some ⟨b,0,none⟩) c3 (zs.set i (dS Z p))) [7,12,17,20,23,26] [0,1,2,3,4,5,6,8,9,10,11,13,14,15,16] (.alt 7 [] (.alt 12 [] (.alt 17 [18,19] (.alt 20 [21,22] (.alt 23 [24,25] (.alt 26 [] .fin .stop) .stop) .stop) .stop) .stop) .stop) aL (by kernel_rfl) ((ho7.vw aB)) ?_;have hH0:aA (fun k=>k=b∨k=g) w5 (w7.drewN 1):=hH7.draws 1;have hG0:aA nob W (w7.drewN 1):=hG7.draws 1;have ho0:bJ 10 aE 37 (w7.drewN 1).heap (some ⟨b,0,none⟩) c3 (zs.set i (dS Z p)):=ho7;have hm0:cF enI (w7.drewN 1).heap g m2:=hm7;generalize w7.drewN 1=v0 at hH0 hG0 ho0 hm0 ⊢;refine Sz.calm rfl rfl (OW rfl) rfl ?_;refine Sz.calm rfl rfl (OW rfl) rfl ?_;refine Sz.calm rfl rfl (OW rfl) rfl ?_;refine Sz.calm rfl rfl (OW rfl) rfl ?_;refine Sz.calm rfl rfl (O8 rfl) rfl ?_;refine Sz.calm rfl rfl (Pc rL.h rfl) rfl ?_;refine Sz.calm rfl rfl (OX kP rfl (fun H (hH:VwM 10 aE H (some ⟨b,0,none⟩) c3 (zs.set i (dS Z p)))=>hH.rowZ i rfl hzi7 0 _ rfl)) rfl ?_;refine Sz.calm rfl rfl (OW rfl) rfl ?_;refine Sz.calm rfl rfl (O8 rfl) rfl ?_;refine Sz.calm rfl rfl (Pc rK.h rfl) rfl ?_;refine Sz.calm rfl rfl (OX aO rfl (fun H (hH:VwM 10 aE H (some ⟨b,0,none⟩) c3 (zs.set i (dS Z p)))=>hH.rowZ i rfl hzi7 6 _ rfl)) rfl ?_;refine Sz.calm rfl rfl (OW rfl) rfl ?_;refine Sz.calm rfl rfl (O8 rfl) rfl ?_;refine Sz.calm rfl rfl (Pc lN.h rfl) rfl ?_;refine Sz.calm rfl rfl (OX cN rfl (fun H (hH:VwM 10 aE H (some ⟨b,0,none⟩) c3 (zs.set i (dS Z p)))=>hH.rowZ i rfl hzi7 8 _ rfl)) rfl ?_;refine Sz.alt ?_ ?_
   ·refine Sb rfl rfl (OP LL rfl ((by show Calls _ _ [Value.slice p.1.names.a p.1.names.n p.1.names.c].toArray _ _;rw[hpv.1.1];exact xA _ _ p.2.names v0 (hpv.Sw hG0).1.2.1 (by have:=hnm16 p hpm;omega))) rfl ?_);rintro _ v1 ⟨on,cn,rfl,hon1,hfn,hf1⟩;have hH1:aA (fun k=>k=b∨k=g) w5 v1:=hH0.step hf1 (fun _ h=>h.elim);have hG1:=hG0.trans hf1;have ho1:=ho0.Sw hf1;have hm1:=hm0.Sy hf1 id;refine Sz.on (by exact(ho1.vw aB)) ?_;refine Sz.alt ?_ ?_
    ·refine Sb rfl rfl (OP Ce rfl ((by show Calls _ _ [Value.slice p.1.data.a p.1.data.n p.1.data.c].toArray _ _;rw[hpv.2.1.1];exact lQ _ _ p.2.data v1 (hpv.Sw hG1).2.1.2.1 (by have:=hpmay.2.2.2.2.2.2.1;omega))) rfl ?_);rintro _ v2 ⟨od,cd,rfl,hod2,hfd,hf2b⟩;have hH2:aA (fun k=>k=b∨k=g) w5 v2:=hH1.step hf2b (fun _ h=>h.elim);have hG2:=hG1.trans hf2b;have ho2:=ho1.Sw hf2b;have hm2b:=hm1.Sy hf2b id;have hon2:=hon1.Sw hf2b;refine Sz.on (by exact(ho2.vw aB)) ?_;refine Sz.alt ?_ ?_
     ·refine Sb rfl rfl (OP LK rfl ((by show Calls _ _ [Value.slice p.1.xs.a p.1.xs.n p.1.xs.c].toArray _ _;rw[hxn];exact wZ _ _ xx v2 (hxv.keep' hG2 (fun _ _ _=>id)) (by omega))) rfl ?_);rintro _ v3 ⟨ox,cx,rfl,hox3,hfx,hf3b⟩;have hH3:aA (fun k=>k=b∨k=g) w5 v3:=hH2.step hf3b (fun _ h=>h.elim);have hG3:=hG2.trans hf3b;have ho3b:=ho2.Sw hf3b;have hm3b:=hm2b.Sy hf3b id;have hon3:=hon2.Sw hf3b;have hod3:=hod2.Sw hf3b;have hfx5:∀ a,ox=some a→w5.heap.size≤a.block:=fun a ha=>by have h1:v2.heap.size≤a.block:=hfx a ha;have:=hH2.size;omega
      have hnx:∀ a c:Addr,on=some a→ox=some c→c.block=a.block→False:=fun a c ha hc e=>by have h1:v2.heap.size≤c.block:=hfx c hc;have h2:=hon2.lt a ha;omega
      have hdx:∀ a c:Addr,od=some a→ox=some c→c.block=a.block→False:=fun a c ha hc e=>by have h1:v2.heap.size≤c.block:=hfx c hc;have h2:=hod2.lt a ha;omega
      have hb0:b<v0.heap.size:=ho0.lt _ rfl;have hg0:g<v0.heap.size:=hm0.obj;have hfn:∀ a,on=some a→b<a.block∧g<a.block:=fun a ha=>by have:=hfn a ha;omega
      have hfd:∀ a,od=some a→b<a.block∧g<a.block:=fun a ha=>by have:=hfd a ha;have:=hf1.size;omega
      have hfx:∀ a,ox=some a→b<a.block∧g<a.block:=fun a ha=>by have:=hfx a ha;have:=hf1.size;have:=hf2b.size;omega
      refine Sz.on (by exact(ho3b.vw aB)) ?_;refine Sz.calm rfl rfl (O8 rfl) rfl ?_;refine Sz.calm rfl rfl (Pc rL.h rfl) rfl ?_;refine Sz.alt ?_ ?_
      ·refine Sb rfl rfl (Pt aB (i:=i) (j:=0) (x':=((⟨⟨on,p.2.names.length,cn⟩,p.1.data,p.1.xs⟩:NdH),(dS Z p).2)) hzi7 (by decide) rfl kP rfl rfl rfl rfl ho3b ?_);intro v4 ho4v hs4v hf4v;rw[UJ] at ho4v;have hz4:=Tj (a:=(((⟨⟨on,p.2.names.length,cn⟩,p.1.data,p.1.xs⟩:NdH),(dS Z p).2):NdH×Nd)) hizs;have hH4:aA (fun k=>k=b∨k=g) w5 v4:=hH3.step hf4v (fun k ⟨a,ha,e⟩=>.inl (.inl (by cases ha;exact e.symm)));have hm4v:=hm3b.Sy hf4v (fun⟨a,ha,e⟩=>by cases ha;have e:b=g:=e;omega);have hon4:=hon3.Sy hf4v (fun a ha ⟨c,hc,e⟩=>by cases hc;have e:b=a.block:=e;have:=hfn a ha;omega);have hod4:=hod3.Sy hf4v (fun a ha ⟨c,hc,e⟩=>by cases hc;have e:b=a.block:=e;have:=hfd a ha;omega);have hox4:=hox3.Sy hf4v (fun a ha ⟨c,hc,e⟩=>by cases hc;have e:b=a.block:=e;have:=hfx a ha;omega);refine Sz.off rfl ?_;refine Sz.calm rfl rfl (O8 rfl) rfl ?_;refine Sz.calm rfl rfl (Pc rK.h rfl) rfl ?_;refine Sz.alt ?_ ?_
       ·refine Sb rfl rfl (Pt aB (i:=i) (j:=6) (x':=((⟨⟨on,p.2.names.length,cn⟩,⟨od,p.2.data.length,cd⟩,p.1.xs⟩:NdH),(dS Z p).2)) hz4 (by decide) rfl aO rfl rfl rfl rfl ho4v ?_);intro v5 ho5v hs5v hf5v;rw[UJ] at ho5v;have hz5:=Tj (a:=(((⟨⟨on,p.2.names.length,cn⟩,⟨od,p.2.data.length,cd⟩,p.1.xs⟩:NdH),(dS Z p).2):NdH×Nd)) hizs;have hH5:aA (fun k=>k=b∨k=g) w5 v5:=hH4.step hf5v (fun k ⟨a,ha,e⟩=>.inl (.inl (by cases ha;exact e.symm)));have hm5v:=hm4v.Sy hf5v (fun⟨a,ha,e⟩=>by cases ha;have e:b=g:=e;omega);have hon5:=hon4.Sy hf5v (fun a ha ⟨c,hc,e⟩=>by cases hc;have e:b=a.block:=e;have:=hfn a ha;omega);have hod5:=hod4.Sy hf5v (fun a ha ⟨c,hc,e⟩=>by cases hc;have e:b=a.block:=e;have:=hfd a ha;omega);have hox5:=hox4.Sy hf5v (fun a ha ⟨c,hc,e⟩=>by cases hc;have e:b=a.block:=e;have:=hfx a ha;omega);refine Sz.off rfl ?_;refine Sz.calm rfl rfl (O8 rfl) rfl ?_;refine Sz.calm rfl rfl (Pc lN.h rfl) rfl ?_;refine Sz.alt ?_ ?_
        ·refine Sb rfl rfl (Pt aB (i:=i) (j:=8) (x':=((⟨⟨on,p.2.names.length,cn⟩,⟨od,p.2.data.length,cd⟩,⟨ox,xx.length,cx⟩⟩:NdH),(dS Z p).2)) hz5 (by decide) rfl cN rfl rfl rfl rfl ho5v ?_);intro v6 ho6v hs6v hf6v;rw[UJ] at ho6v;have hH6v:aA (fun k=>k=b∨k=g) w5 v6:=hH5.step hf6v (fun k ⟨a,ha,e⟩=>.inl (.inl (by cases ha;exact e.symm)));have hm6v:=hm5v.Sy hf6v (fun⟨a,ha,e⟩=>by cases ha;have e:b=g:=e;omega);have hon6:=hon5.Sy hf6v (fun a ha ⟨c,hc,e⟩=>by cases hc;have e:b=a.block:=e;have:=hfn a ha;omega);have hod6:=hod5.Sy hf6v (fun a ha ⟨c,hc,e⟩=>by cases hc;have e:b=a.block:=e;have:=hfd a ha;omega);have hox6:=hox5.Sy hf6v (fun a ha ⟨c,hc,e⟩=>by cases hc;have e:b=a.block:=e;have:=hfx a ha;omega);obtain⟨pz,hpz⟩:∃ pz:NdH×Nd,pz=((⟨⟨on,p.2.names.length,cn⟩,⟨od,p.2.data.length,cd⟩,⟨ox,xx.length,cx⟩⟩:NdH),(dS Z p).2):=⟨_,rfl⟩
         rw[←hpz] at ho6v;have hzi6:(zs.set i pz)[i]?=some pz:=Tj (by omega);have hG6:aA nob W v6:=hF5.St hH6v (fun k e=>.inr (by rcases e with e|e<;>omega));refine Sz.off rfl ?_;refine Sd ?_;refine Gz 6 ?_;refine cL (OQ (u:=.slice ox xx.length cx) (OR cN rfl ((ho6v.vw aB).rowZ i rfl hzi6 8 _ rfl)) (by rw[hpz];rfl)) ?_;refine Gz 5 ?_;have hb6:b<v6.heap.size:=ho6v.lt _ rfl;have hg6:g<v6.heap.size:=hm6v.obj;refine OU (β:=Nat×List (By×Hd)) (fun⟨k,us⟩=>[(5,.slice (some ⟨b,0,none⟩) ps.length c3),(6,.map (some g)),(8,.pointer (some (adr (some ⟨b,0,none⟩) (i*10)))),(24,iV ps.length),(25,iV i),(82,.slice ox xx.length cx),(83,iV xx.length),(84,iV k)]) (fun⟨k,us⟩ w=>k≤xx.length∧bJ 2 dW 123 w.heap ox cx us∧XrJ v6.heap.size k xx p.2.xs us w∧aA (blk ox) v6 w) (fun⟨k,us⟩=>xx.length-k) ⟨0,xx⟩ ⟨rfl,rfl,rfl,rfl,rfl,rfl,rfl,rfl,trivial⟩ ⟨SQ _,hox6,⟨rfl,fun _ _=>rfl,fun j _ _ hj=>by omega⟩,RL _ _⟩ ?_;rintro⟨k,us⟩ w8 ⟨hk,hou,hXI,hI8⟩;refine fK 2 ?_ ?_<;>intro h85
         ·have hkx:k<xx.length:=by omega
          obtain⟨x,hx⟩:∃ x,xx[k]?=some x:=⟨_,SD hkx⟩
          obtain⟨y,hy⟩:∃ y,p.2.xs[k]?=some y:=⟨_,SD (by omega)⟩
          have hux:us[k]?=some x:=by rw[hXI.2.1 k (SI _)];exact hx
          have hvu:=hou.vw bQ;have hul:=hXI.1;have hxy:=hxx k x y hx hy;have hyl4:y.2.length≤200:=De hpmay hy;refine Gz 11 ?_;refine cL (OV kO rfl rfl (by rw[←hul];exact hvu.non) (by omega)) ?_;refine cL (O2 (cs:=dW x) dP rfl (fun j v hj=>hvu.rowZ k rfl hux j v hj)) ?_;refine OS rS rfl ?_;intro w9 hg9 hs9 hf9;obtain⟨qx,hqx⟩:∃ qx,qx=w8.heap.size:=⟨_,rfl⟩
          rw[←hqx] at hg9 ⊢;refine Gz 1 ?_;refine O1 (vs:=dW x) dP rfl rfl (bQ x).2 hg9 rfl ?_;intro wA hgA hsA hfA;have hf8A:aA nob w8 wA:=hf9.St hfA (fun k e=>.inr (by have e:k=qx:=e;omega));have hI_A:aA (blk ox) v6 wA:=hI8.step hf8A (fun _ h=>h.elim);have hoz8:=ho6v.Sy hI8 (fun a ha ⟨c,hc,e⟩=>by cases ha;have:=hfx c hc;have e:c.block=b:=e;omega);have hozA:=hoz8.Sw hf8A;have houA:=hou.Sw hf8A;have hqv:v6.heap.size≤qx:=by rw[hqx];exact hI8.size
          refine Gz 1 ?_;refine aW [(5,_),(6,_),(8,_),(11,_),(12,_),(24,_),(25,_),(82,_),(83,_),(84,_),(85,_)] ?_;refine Gz 1 ?_;refine PG 10 [3,6] (fun H=>VwM 10 aE H (some ⟨b,0,none⟩) c3 (zs.set i pz)∧H[qx]?=some (.cells (dW x).toArray 123 (0,0))) [7,10] [0,1,2,3,4,5,6] (.alt 7 [8,9] (.alt 10 [] .fin .stop) .stop) aL (by kernel_rfl) (⟨hozA.vw aB,hgA⟩) ?_;refine Sz.calm rfl rfl (OW rfl) rfl ?_;refine Sz.calm rfl rfl (O8 rfl) rfl ?_;refine Sz.calm rfl rfl (Pc lN.h rfl) rfl ?_;refine Sz.calm rfl rfl (OQ (u:=.slice ox xx.length cx) (OX cN rfl (fun H (hH:VwM 10 aE H (some ⟨b,0,none⟩) c3 (zs.set i pz)∧H[qx]?=some (.cells (dW x).toArray 123 (0,0)))=>hH.1.rowZ i rfl hzi6 8 _ rfl)) (by rw[hpz];rfl)) rfl ?_;refine Sz.calm rfl rfl (OW rfl) rfl ?_;refine Sz.calm rfl rfl (Pc oC.h rfl) rfl ?_;refine Sz.calm rfl rfl (OQ (u:=.slice x.2.a y.2.length x.2.c) (OX aO rfl (fun H (hH:VwM 10 aE H (some ⟨b,0,none⟩) c3 (zs.set i pz)∧H[qx]?=some (.cells (dW x).toArray 123 (0,0)))=>aD hH.2 rfl)) (by rw[←hxy.2.1];rfl)) rfl ?_;refine Sz.alt ?_ ?_
          ·refine Sb rfl rfl (OP Ce rfl (lQ _ _ y.2 _ ((hxy.2.Sy (hG6.St hI_A (fun k ⟨a,ha,e⟩=>.inr (by have:=hfx a ha;omega))) (fun _ _=>id)).2.1) (by omega)) rfl ?_);rintro _ wB ⟨oB,cB,rfl,hoB,hfB,hfBf⟩;have hfBf:aA nob wA wB:=hfBf.Su;have hozB:=hozA.Sw hfBf;have houB:=houA.Sw hfBf;refine Sz.on (by exact⟨hozB.vw aB,hfBf.obj hgA id⟩) ?_;refine Sz.calm rfl rfl (OV kO rfl rfl (by rw[←hul];exact hvu.non) (by omega)) rfl ?_;refine Sz.calm rfl rfl (Pc oC.h rfl) rfl ?_;refine Sz.alt ?_ ?_
           ·refine Sb rfl rfl (Pt bQ (i:=k) (j:=1) (x':=(x.1,(⟨oB,y.2.length,cB⟩:Hd))) hux (by decide) rfl aO rfl rfl rfl rfl houB ?_);intro wC houC hsC hfC;have hI_C:aA (blk ox) v6 wC:=(hI_A.step hfBf (fun _ h=>h.elim)).trans hfC;have hoBC:=hoB.Sy hfC (fun a ha ⟨c,hc,e⟩=>by have h1:=hfB a ha;have h2:=hou.lt c hc;have h3:=hf8A.size;have e:c.block=a.block:=e;have h1:wA.heap.size≤a.block:=h1;omega);refine Sz.off rfl ?_;refine Sd ?_;refine Gz 6 ?_;refine aG ⟨k+1,us.set k (x.1,(⟨oB,y.2.length,cB⟩:Hd))⟩ ⟨by omega,houC,⟨by rw[Tz];exact hul,fun j hj=>by rw[TC (by omega)];exact hXI.2.1 j (by omega),fun j u z hj hu hz=>?_⟩,hI_C⟩ (by show xx.length-(k+1)<xx.length-k;omega);by_cases e:j=k
            · subst e
              rw[Tj (by omega)] at hu;cases hu;rw[hy] at hz;cases hz;exact⟨hxy.1,rfl,hoBC.vw,fun _ q ⟨a,ha,e⟩=>⟨by have h1:wA.heap.size≤a.block:=hfB a ha;have:=hI_A.size;omega,by have:=hoBC.lt a ha;omega⟩⟩
            · rw[TC (fun h=>e h.symm)] at hu
              obtain⟨h1,h2⟩:=hXI.2.2 j u z (by omega) hu hz;have hfAC:aA (blk ox) w8 wC:=((hf8A.mono (fun _ h=>h.elim)).trans (hfBf.mono (fun _ h=>h.elim))).trans hfC;exact⟨h1,(h2.Sy hfAC (fun q hq ⟨a,ha,e⟩=>by have:=hox6.lt a ha;have:=hq.1;omega)).mono (fun q hq=>⟨hq.1,TB hq.2 hfAC.size⟩)⟩
           exact Sz.stop
          exact Sz.stop
         have hke:k=xx.length:=by omega
         subst hke;refine Gz 14 ?_;have hH8:aA (fun k=>k=b∨k=g) w5 w8:=hH6v.step hI8 (fun k ⟨a,ha,e⟩=>.inr (by have:=hfx5 a ha;omega));have hI8s:=hI8.size;have hfoot:=hI8;have hon8:=hon6.Sy hI8 (fun a ha ⟨c,hc,e⟩=>hnx a c ha hc e);have hod8:=hod6.Sy hI8 (fun a ha ⟨c,hc,e⟩=>hdx a c ha hc e);have hoz8:=ho6v.Sy hI8 (fun a ha ⟨c,hc,e⟩=>by cases ha;have:=hfx c hc;have e:c.block=b:=e;omega);have hm8:=hm6v.Sy hI8 (fun⟨a,ha,e⟩=>by have:=hfx a ha;omega);have hpzv:NdV (fun k=>k≠b∧k≠g∧k<w8.heap.size) w8.heap pz:=by
          rw[hpz];refine⟨⟨rfl,hon8.vw,fun _ k ⟨a,ha,e⟩=>?_⟩,⟨rfl,hod8.vw,fun _ k ⟨a,ha,e⟩=>?_⟩,⟨hxl,us,hou.vw bQ,hXI.1.trans hxl,fun _ k ⟨a,ha,e⟩=>?_,fun j u x hu hx=>?_⟩⟩
          ·have h1:=hfn a ha;have h2:=hon8.lt a ha;exact⟨by omega,by omega,by omega⟩
          ·have h1:=hfd a ha;have h2:=hod8.lt a ha;exact⟨by omega,by omega,by omega⟩
          ·have h1:=hfx a ha;have h2:=hou.lt a ha;exact⟨by omega,by omega,by omega⟩
          · obtain⟨h1,h2⟩:=hXI.2.2 j u x (by have:=(SG.1 hu).1;have:=hXI.1;omega) hu hx
            exact⟨h1,h2.mono (fun k hk=>⟨by have:=hk.1;omega,by have:=hk.1;omega,hk.2⟩)⟩
         exact aG ⟨i+1,zs.set i pz,m2⟩ ⟨by omega,hoz8,(hC.Sw hH8).put hp (by rw[hpz]) hpzv,hm8,hMI2,hF5.St hH8 (fun k e=>.inr (by rcases e with e|e<;>omega))⟩ (by show ps.length-(i+1)<ps.length-i;omega)
        exact Sz.stop
       exact Sz.stop
      exact Sz.stop
     exact Sz.stop
    exact Sz.stop
   exact Sz.stop
  rw[SC h39];rw[SA h39];have hnew:((m.length:Nat):Int)+1=gL Z p.2.ino:=by rw[hml,hZ,mP hp,Au h39]
  refine Gz 4 ?_;refine Po (β:=List (I6×Value)) (fun m2=>[(5,.slice (some ⟨b,0,none⟩) ps.length c3),(6,.map (some g)),(8,.pointer (some (adr (some ⟨b,0,none⟩) (i*10)))),(9,iV (gL Z p.2.ino)),(24,iV ps.length),(25,iV i)]) (fun m2 w=>cF enI w.heap g m2∧lW Z (aK (ys.take (i+1))) m2∧bJ 10 aE 37 w.heap (some ⟨b,0,none⟩) c3 zs∧aA (fun k=>k=b∨k=g) w5 w) ?_ ?_
  ·refine Gz 3 ?_;refine cL (O7 rfl) ?_;refine Gz 6 ?_;refine cL (Qe KH rfl (fun _ e=>by rw[e];exact hm5)) ?_;refine Gz 9 ?_;refine cL (OR aJ rfl (hv5.rowZ i rfl hzi 1 _ rfl)) ?_;refine Gz 1 ?_;refine Ph KH qQ (a:=(⟨p.2.ino,hzb⟩:I6)) rfl rfl rfl hm5 ?_;intro w6 hm6 hs6 hf6;rw[hnew] at hm6;refine Gz 1 ?_
   first
   |exact aC m ⟨hm5,by rw[nW hp];exact hMI.old h39,ho5,RL _ _⟩
   |exact Pk _ ⟨rfl,rfl,rfl,congrArg (fun z:Int=>some (Value.int .i64 z)) hnew,rfl,rfl,trivial⟩ ⟨hm6,by rw[nW hp];exact hMI.new (⟨p.2.ino,hzb⟩:I6) h39,ho5.Sy hf6 (fun a ha e=>by cases ha;have e:b=g:=e;omega),hf6.mono (fun k e=>.inr e)⟩
  rintro m2 w6 ⟨hm6,hMI2,ho6,hH6⟩;refine Gz 6 ?_;refine Pt aB (i:=i) (j:=1) (x':=dS Z p) hzi (by decide) rfl aJ rfl rfl rfl rfl ho6 ?_;intro w7 ho7 hs7 hf7;have hH7:aA (fun k=>k=b∨k=g) w5 w7:=hH6.step hf7 (fun k ⟨a,ha,e⟩=>.inl (.inl (by cases ha;exact e.symm)));have hzi7:(zs.set i (dS Z p))[i]?=some (dS Z p):=Tj (by omega);have hm7:=hm6.Sy hf7 (fun⟨a,ha,e⟩=>by cases ha;have e:b=g:=e;omega);refine Gz 3 ?_;obtain⟨hxn0,xx,hxv,hxl,hxd,hxx⟩:=hpv.2.2;have hxn:p.1.xs.n=xx.length:=by rw[hxn0,hxl]
  have hx8:p.2.xs.length≤8:=hpmay.2.2.2.2.2.2.2.2.2;have hG7:aA nob W w7:=hF5.St hH7 (fun k e=>.inr (by rcases e with e|e<;>omega));refine PG 20 [6,11,16] (fun H=>VwM 10 aE H (some ⟨b,0,none⟩) c3 (zs.set i (dS Z p))) [7,12,17,20,23,26] [0,1,2,3,4,5,6,8,9,10,11,13,14,15,16] (.alt 7 [] (.alt 12 [] (.alt 17 [18,19] (.alt 20 [21,22] (.alt 23 [24,25] (.alt 26 [] .fin .stop) .stop) .stop) .stop) .stop) .stop) aL (by kernel_rfl) ((ho7.vw aB)) ?_;have hH0:aA (fun k=>k=b∨k=g) w5 (w7.drewN 1):=hH7.draws 1;have hG0:aA nob W (w7.drewN 1):=hG7.draws 1;have ho0:bJ 10 aE 37 (w7.drewN 1).heap (some ⟨b,0,none⟩) c3 (zs.set i (dS Z p)):=ho7;have hm0:cF enI (w7.drewN 1).heap g m2:=hm7;generalize w7.drewN 1=v0 at hH0 hG0 ho0 hm0 ⊢;refine Sz.calm rfl rfl (OW rfl) rfl ?_;refine Sz.calm rfl rfl (OW rfl) rfl ?_;refine Sz.calm rfl rfl (OW rfl) rfl ?_;refine Sz.calm rfl rfl (OW rfl) rfl ?_;refine Sz.calm rfl rfl (O8 rfl) rfl ?_;refine Sz.calm rfl rfl (Pc rL.h rfl) rfl ?_;refine Sz.calm rfl rfl (OX kP rfl (fun H (hH:VwM 10 aE H (some ⟨b,0,none⟩) c3 (zs.set i (dS Z p)))=>hH.rowZ i rfl hzi7 0 _ rfl)) rfl ?_;refine Sz.calm rfl rfl (OW rfl) rfl ?_;refine Sz.calm rfl rfl (O8 rfl) rfl ?_;refine Sz.calm rfl rfl (Pc rK.h rfl) rfl ?_;refine Sz.calm rfl rfl (OX aO rfl (fun H (hH:VwM 10 aE H (some ⟨b,0,none⟩) c3 (zs.set i (dS Z p)))=>hH.rowZ i rfl hzi7 6 _ rfl)) rfl ?_;refine Sz.calm rfl rfl (OW rfl) rfl ?_;refine Sz.calm rfl rfl (O8 rfl) rfl ?_;refine Sz.calm rfl rfl (Pc lN.h rfl) rfl ?_;refine Sz.calm rfl rfl (OX cN rfl (fun H (hH:VwM 10 aE H (some ⟨b,0,none⟩) c3 (zs.set i (dS Z p)))=>hH.rowZ i rfl hzi7 8 _ rfl)) rfl ?_;refine Sz.alt ?_ ?_
  ·refine Sb rfl rfl (OP LL rfl ((by show Calls _ _ [Value.slice p.1.names.a p.1.names.n p.1.names.c].toArray _ _;rw[hpv.1.1];exact xA _ _ p.2.names v0 (hpv.Sw hG0).1.2.1 (by have:=hnm16 p hpm;omega))) rfl ?_);rintro _ v1 ⟨on,cn,rfl,hon1,hfn,hf1⟩;have hH1:aA (fun k=>k=b∨k=g) w5 v1:=hH0.step hf1 (fun _ h=>h.elim);have hG1:=hG0.trans hf1;have ho1:=ho0.Sw hf1;have hm1:=hm0.Sy hf1 id;refine Sz.on (by exact(ho1.vw aB)) ?_;refine Sz.alt ?_ ?_
   ·refine Sb rfl rfl (OP Ce rfl ((by show Calls _ _ [Value.slice p.1.data.a p.1.data.n p.1.data.c].toArray _ _;rw[hpv.2.1.1];exact lQ _ _ p.2.data v1 (hpv.Sw hG1).2.1.2.1 (by have:=hpmay.2.2.2.2.2.2.1;omega))) rfl ?_);rintro _ v2 ⟨od,cd,rfl,hod2,hfd,hf2b⟩;have hH2:aA (fun k=>k=b∨k=g) w5 v2:=hH1.step hf2b (fun _ h=>h.elim);have hG2:=hG1.trans hf2b;have ho2:=ho1.Sw hf2b;have hm2b:=hm1.Sy hf2b id;have hon2:=hon1.Sw hf2b;refine Sz.on (by exact(ho2.vw aB)) ?_;refine Sz.alt ?_ ?_
    ·refine Sb rfl rfl (OP LK rfl ((by show Calls _ _ [Value.slice p.1.xs.a p.1.xs.n p.1.xs.c].toArray _ _;rw[hxn];exact wZ _ _ xx v2 (hxv.keep' hG2 (fun _ _ _=>id)) (by omega))) rfl ?_);rintro _ v3 ⟨ox,cx,rfl,hox3,hfx,hf3b⟩;have hH3:aA (fun k=>k=b∨k=g) w5 v3:=hH2.step hf3b (fun _ h=>h.elim);have hG3:=hG2.trans hf3b;have ho3b:=ho2.Sw hf3b;have hm3b:=hm2b.Sy hf3b id;have hon3:=hon2.Sw hf3b;have hod3:=hod2.Sw hf3b;have hfx5:∀ a,ox=some a→w5.heap.size≤a.block:=fun a ha=>by have h1:v2.heap.size≤a.block:=hfx a ha;have:=hH2.size;omega
     have hnx:∀ a c:Addr,on=some a→ox=some c→c.block=a.block→False:=fun a c ha hc e=>by have h1:v2.heap.size≤c.block:=hfx c hc;have h2:=hon2.lt a ha;omega
     have hdx:∀ a c:Addr,od=some a→ox=some c→c.block=a.block→False:=fun a c ha hc e=>by have h1:v2.heap.size≤c.block:=hfx c hc;have h2:=hod2.lt a ha;omega
     have hb0:b<v0.heap.size:=ho0.lt _ rfl;have hg0:g<v0.heap.size:=hm0.obj;have hfn:∀ a,on=some a→b<a.block∧g<a.block:=fun a ha=>by have:=hfn a ha;omega
     have hfd:∀ a,od=some a→b<a.block∧g<a.block:=fun a ha=>by have:=hfd a ha;have:=hf1.size;omega
     have hfx:∀ a,ox=some a→b<a.block∧g<a.block:=fun a ha=>by have:=hfx a ha;have:=hf1.size;have:=hf2b.size;omega
     refine Sz.on (by exact(ho3b.vw aB)) ?_;refine Sz.calm rfl rfl (O8 rfl) rfl ?_;refine Sz.calm rfl rfl (Pc rL.h rfl) rfl ?_;refine Sz.alt ?_ ?_
     ·refine Sb rfl rfl (Pt aB (i:=i) (j:=0) (x':=((⟨⟨on,p.2.names.length,cn⟩,p.1.data,p.1.xs⟩:NdH),(dS Z p).2)) hzi7 (by decide) rfl kP rfl rfl rfl rfl ho3b ?_);intro v4 ho4v hs4v hf4v;rw[UJ] at ho4v;have hz4:=Tj (a:=(((⟨⟨on,p.2.names.length,cn⟩,p.1.data,p.1.xs⟩:NdH),(dS Z p).2):NdH×Nd)) hizs;have hH4:aA (fun k=>k=b∨k=g) w5 v4:=hH3.step hf4v (fun k ⟨a,ha,e⟩=>.inl (.inl (by cases ha;exact e.symm)));have hm4v:=hm3b.Sy hf4v (fun⟨a,ha,e⟩=>by cases ha;have e:b=g:=e;omega);have hon4:=hon3.Sy hf4v (fun a ha ⟨c,hc,e⟩=>by cases hc;have e:b=a.block:=e;have:=hfn a ha;omega);have hod4:=hod3.Sy hf4v (fun a ha ⟨c,hc,e⟩=>by cases hc;have e:b=a.block:=e;have:=hfd a ha;omega);have hox4:=hox3.Sy hf4v (fun a ha ⟨c,hc,e⟩=>by cases hc;have e:b=a.block:=e;have:=hfx a ha;omega);refine Sz.off rfl ?_;refine Sz.calm rfl rfl (O8 rfl) rfl ?_;refine Sz.calm rfl rfl (Pc rK.h rfl) rfl ?_;refine Sz.alt ?_ ?_
      ·refine Sb rfl rfl (Pt aB (i:=i) (j:=6) (x':=((⟨⟨on,p.2.names.length,cn⟩,⟨od,p.2.data.length,cd⟩,p.1.xs⟩:NdH),(dS Z p).2)) hz4 (by decide) rfl aO rfl rfl rfl rfl ho4v ?_);intro v5 ho5v hs5v hf5v;rw[UJ] at ho5v;have hz5:=Tj (a:=(((⟨⟨on,p.2.names.length,cn⟩,⟨od,p.2.data.length,cd⟩,p.1.xs⟩:NdH),(dS Z p).2):NdH×Nd)) hizs;have hH5:aA (fun k=>k=b∨k=g) w5 v5:=hH4.step hf5v (fun k ⟨a,ha,e⟩=>.inl (.inl (by cases ha;exact e.symm)));have hm5v:=hm4v.Sy hf5v (fun⟨a,ha,e⟩=>by cases ha;have e:b=g:=e;omega);have hon5:=hon4.Sy hf5v (fun a ha ⟨c,hc,e⟩=>by cases hc;have e:b=a.block:=e;have:=hfn a ha;omega);have hod5:=hod4.Sy hf5v (fun a ha ⟨c,hc,e⟩=>by cases hc;have e:b=a.block:=e;have:=hfd a ha;omega);have hox5:=hox4.Sy hf5v (fun a ha ⟨c,hc,e⟩=>by cases hc;have e:b=a.block:=e;have:=hfx a ha;omega);refine Sz.off rfl ?_;refine Sz.calm rfl rfl (O8 rfl) rfl ?_;refine Sz.calm rfl rfl (Pc lN.h rfl) rfl ?_;refine Sz.alt ?_ ?_
       ·refine Sb rfl rfl (Pt aB (i:=i) (j:=8) (x':=((⟨⟨on,p.2.names.length,cn⟩,⟨od,p.2.data.length,cd⟩,⟨ox,xx.length,cx⟩⟩:NdH),(dS Z p).2)) hz5 (by decide) rfl cN rfl rfl rfl rfl ho5v ?_);intro v6 ho6v hs6v hf6v;rw[UJ] at ho6v;have hH6v:aA (fun k=>k=b∨k=g) w5 v6:=hH5.step hf6v (fun k ⟨a,ha,e⟩=>.inl (.inl (by cases ha;exact e.symm)));have hm6v:=hm5v.Sy hf6v (fun⟨a,ha,e⟩=>by cases ha;have e:b=g:=e;omega);have hon6:=hon5.Sy hf6v (fun a ha ⟨c,hc,e⟩=>by cases hc;have e:b=a.block:=e;have:=hfn a ha;omega);have hod6:=hod5.Sy hf6v (fun a ha ⟨c,hc,e⟩=>by cases hc;have e:b=a.block:=e;have:=hfd a ha;omega);have hox6:=hox5.Sy hf6v (fun a ha ⟨c,hc,e⟩=>by cases hc;have e:b=a.block:=e;have:=hfx a ha;omega);obtain⟨pz,hpz⟩:∃ pz:NdH×Nd,pz=((⟨⟨on,p.2.names.length,cn⟩,⟨od,p.2.data.length,cd⟩,⟨ox,xx.length,cx⟩⟩:NdH),(dS Z p).2):=⟨_,rfl⟩
        rw[←hpz] at ho6v;have hzi6:(zs.set i pz)[i]?=some pz:=Tj (by omega);have hG6:aA nob W v6:=hF5.St hH6v (fun k e=>.inr (by rcases e with e|e<;>omega));refine Sz.off rfl ?_;refine Sd ?_;refine Gz 6 ?_;refine cL (OQ (u:=.slice ox xx.length cx) (OR cN rfl ((ho6v.vw aB).rowZ i rfl hzi6 8 _ rfl)) (by rw[hpz];rfl)) ?_;refine Gz 5 ?_;have hb6:b<v6.heap.size:=ho6v.lt _ rfl;have hg6:g<v6.heap.size:=hm6v.obj;refine OU (β:=Nat×List (By×Hd)) (fun⟨k,us⟩=>[(5,.slice (some ⟨b,0,none⟩) ps.length c3),(6,.map (some g)),(8,.pointer (some (adr (some ⟨b,0,none⟩) (i*10)))),(24,iV ps.length),(25,iV i),(82,.slice ox xx.length cx),(83,iV xx.length),(84,iV k)]) (fun⟨k,us⟩ w=>k≤xx.length∧bJ 2 dW 123 w.heap ox cx us∧XrJ v6.heap.size k xx p.2.xs us w∧aA (blk ox) v6 w) (fun⟨k,us⟩=>xx.length-k) ⟨0,xx⟩ ⟨rfl,rfl,rfl,rfl,rfl,rfl,rfl,rfl,trivial⟩ ⟨SQ _,hox6,⟨rfl,fun _ _=>rfl,fun j _ _ hj=>by omega⟩,RL _ _⟩ ?_;rintro⟨k,us⟩ w8 ⟨hk,hou,hXI,hI8⟩;refine fK 2 ?_ ?_<;>intro h85
        ·have hkx:k<xx.length:=by omega
         obtain⟨x,hx⟩:∃ x,xx[k]?=some x:=⟨_,SD hkx⟩
         obtain⟨y,hy⟩:∃ y,p.2.xs[k]?=some y:=⟨_,SD (by omega)⟩
         have hux:us[k]?=some x:=by rw[hXI.2.1 k (SI _)];exact hx
         have hvu:=hou.vw bQ;have hul:=hXI.1;have hxy:=hxx k x y hx hy;have hyl4:y.2.length≤200:=De hpmay hy;refine Gz 11 ?_;refine cL (OV kO rfl rfl (by rw[←hul];exact hvu.non) (by omega)) ?_;refine cL (O2 (cs:=dW x) dP rfl (fun j v hj=>hvu.rowZ k rfl hux j v hj)) ?_;refine OS rS rfl ?_;intro w9 hg9 hs9 hf9;obtain⟨qx,hqx⟩:∃ qx,qx=w8.heap.size:=⟨_,rfl⟩
         rw[←hqx] at hg9 ⊢;refine Gz 1 ?_;refine O1 (vs:=dW x) dP rfl rfl (bQ x).2 hg9 rfl ?_;intro wA hgA hsA hfA;have hf8A:aA nob w8 wA:=hf9.St hfA (fun k e=>.inr (by have e:k=qx:=e;omega));have hI_A:aA (blk ox) v6 wA:=hI8.step hf8A (fun _ h=>h.elim);have hoz8:=ho6v.Sy hI8 (fun a ha ⟨c,hc,e⟩=>by cases ha;have:=hfx c hc;have e:c.block=b:=e;omega);have hozA:=hoz8.Sw hf8A;have houA:=hou.Sw hf8A;have hqv:v6.heap.size≤qx:=by rw[hqx];exact hI8.size
         refine Gz 1 ?_;refine aW [(5,_),(6,_),(8,_),(11,_),(12,_),(24,_),(25,_),(82,_),(83,_),(84,_),(85,_)] ?_;refine Gz 1 ?_;refine PG 10 [3,6] (fun H=>VwM 10 aE H (some ⟨b,0,none⟩) c3 (zs.set i pz)∧H[qx]?=some (.cells (dW x).toArray 123 (0,0))) [7,10] [0,1,2,3,4,5,6] (.alt 7 [8,9] (.alt 10 [] .fin .stop) .stop) aL (by kernel_rfl) (⟨hozA.vw aB,hgA⟩) ?_;refine Sz.calm rfl rfl (OW rfl) rfl ?_;refine Sz.calm rfl rfl (O8 rfl) rfl ?_;refine Sz.calm rfl rfl (Pc lN.h rfl) rfl ?_;refine Sz.calm rfl rfl (OQ (u:=.slice ox xx.length cx) (OX cN rfl (fun H (hH:VwM 10 aE H (some ⟨b,0,none⟩) c3 (zs.set i pz)∧H[qx]?=some (.cells (dW x).toArray 123 (0,0)))=>hH.1.rowZ i rfl hzi6 8 _ rfl)) (by rw[hpz];rfl)) rfl ?_;refine Sz.calm rfl rfl (OW rfl) rfl ?_;refine Sz.calm rfl rfl (Pc oC.h rfl) rfl ?_;refine Sz.calm rfl rfl (OQ (u:=.slice x.2.a y.2.length x.2.c) (OX aO rfl (fun H (hH:VwM 10 aE H (some ⟨b,0,none⟩) c3 (zs.set i pz)∧H[qx]?=some (.cells (dW x).toArray 123 (0,0)))=>aD hH.2 rfl)) (by rw[←hxy.2.1];rfl)) rfl ?_;refine Sz.alt ?_ ?_
         ·refine Sb rfl rfl (OP Ce rfl (lQ _ _ y.2 _ ((hxy.2.Sy (hG6.St hI_A (fun k ⟨a,ha,e⟩=>.inr (by have:=hfx a ha;omega))) (fun _ _=>id)).2.1) (by omega)) rfl ?_);rintro _ wB ⟨oB,cB,rfl,hoB,hfB,hfBf⟩;have hfBf:aA nob wA wB:=hfBf.Su;have hozB:=hozA.Sw hfBf;have houB:=houA.Sw hfBf;refine Sz.on (by exact⟨hozB.vw aB,hfBf.obj hgA id⟩) ?_;refine Sz.calm rfl rfl (OV kO rfl rfl (by rw[←hul];exact hvu.non) (by omega)) rfl ?_;refine Sz.calm rfl rfl (Pc oC.h rfl) rfl ?_;refine Sz.alt ?_ ?_
          ·refine Sb rfl rfl (Pt bQ (i:=k) (j:=1) (x':=(x.1,(⟨oB,y.2.length,cB⟩:Hd))) hux (by decide) rfl aO rfl rfl rfl rfl houB ?_);intro wC houC hsC hfC;have hI_C:aA (blk ox) v6 wC:=(hI_A.step hfBf (fun _ h=>h.elim)).trans hfC;have hoBC:=hoB.Sy hfC (fun a ha ⟨c,hc,e⟩=>by have h1:=hfB a ha;have h2:=hou.lt c hc;have h3:=hf8A.size;have e:c.block=a.block:=e;have h1:wA.heap.size≤a.block:=h1;omega);refine Sz.off rfl ?_;refine Sd ?_;refine Gz 6 ?_;refine aG ⟨k+1,us.set k (x.1,(⟨oB,y.2.length,cB⟩:Hd))⟩ ⟨by omega,houC,⟨by rw[Tz];exact hul,fun j hj=>by rw[TC (by omega)];exact hXI.2.1 j (by omega),fun j u z hj hu hz=>?_⟩,hI_C⟩ (by show xx.length-(k+1)<xx.length-k;omega);by_cases e:j=k
           · subst e
             rw[Tj (by omega)] at hu;cases hu;rw[hy] at hz;cases hz;exact⟨hxy.1,rfl,hoBC.vw,fun _ q ⟨a,ha,e⟩=>⟨by have h1:wA.heap.size≤a.block:=hfB a ha;have:=hI_A.size;omega,by have:=hoBC.lt a ha;omega⟩⟩
           · rw[TC (fun h=>e h.symm)] at hu
             obtain⟨h1,h2⟩:=hXI.2.2 j u z (by omega) hu hz;have hfAC:aA (blk ox) w8 wC:=((hf8A.mono (fun _ h=>h.elim)).trans (hfBf.mono (fun _ h=>h.elim))).trans hfC;exact⟨h1,(h2.Sy hfAC (fun q hq ⟨a,ha,e⟩=>by have:=hox6.lt a ha;have:=hq.1;omega)).mono (fun q hq=>⟨hq.1,TB hq.2 hfAC.size⟩)⟩
          exact Sz.stop
         exact Sz.stop
        have hke:k=xx.length:=by omega
        subst hke;refine Gz 14 ?_;have hH8:aA (fun k=>k=b∨k=g) w5 w8:=hH6v.step hI8 (fun k ⟨a,ha,e⟩=>.inr (by have:=hfx5 a ha;omega));have hI8s:=hI8.size;have hfoot:=hI8;have hon8:=hon6.Sy hI8 (fun a ha ⟨c,hc,e⟩=>hnx a c ha hc e);have hod8:=hod6.Sy hI8 (fun a ha ⟨c,hc,e⟩=>hdx a c ha hc e);have hoz8:=ho6v.Sy hI8 (fun a ha ⟨c,hc,e⟩=>by cases ha;have:=hfx c hc;have e:c.block=b:=e;omega);have hm8:=hm6v.Sy hI8 (fun⟨a,ha,e⟩=>by have:=hfx a ha;omega);have hpzv:NdV (fun k=>k≠b∧k≠g∧k<w8.heap.size) w8.heap pz:=by
         rw[hpz];refine⟨⟨rfl,hon8.vw,fun _ k ⟨a,ha,e⟩=>?_⟩,⟨rfl,hod8.vw,fun _ k ⟨a,ha,e⟩=>?_⟩,⟨hxl,us,hou.vw bQ,hXI.1.trans hxl,fun _ k ⟨a,ha,e⟩=>?_,fun j u x hu hx=>?_⟩⟩
         ·have h1:=hfn a ha;have h2:=hon8.lt a ha;exact⟨by omega,by omega,by omega⟩
         ·have h1:=hfd a ha;have h2:=hod8.lt a ha;exact⟨by omega,by omega,by omega⟩
         ·have h1:=hfx a ha;have h2:=hou.lt a ha;exact⟨by omega,by omega,by omega⟩
         · obtain⟨h1,h2⟩:=hXI.2.2 j u x (by have:=(SG.1 hu).1;have:=hXI.1;omega) hu hx
           exact⟨h1,h2.mono (fun k hk=>⟨by have:=hk.1;omega,by have:=hk.1;omega,hk.2⟩)⟩
        exact aG ⟨i+1,zs.set i pz,m2⟩ ⟨by omega,hoz8,(hC.Sw hH8).put hp (by rw[hpz]) hpzv,hm8,hMI2,hF5.St hH8 (fun k e=>.inr (by rcases e with e|e<;>omega))⟩ (by show ps.length-(i+1)<ps.length-i;omega)
       exact Sz.stop
      exact Sz.stop
     exact Sz.stop
    exact Sz.stop
   exact Sz.stop
  exact Sz.stop
 have hie:i=ps.length:=by omega
 subst hie;refine Gz 15 ?_;refine aW [(2,_),(3,_),(5,_),(6,_),(24,_),(25,_),(26,_)] ?_;refine Gz 3 ?_;have hle:zs.length=ps.length:=by rw[hC.1,hyl]
 refine⟨_,rfl,some ⟨b,0,none⟩,c3,zs,by rw[hle,hz],fun h=>absurd hz h,fun _=>?_,⟨ho5.vw aB,fun q hq=>?_⟩,fun a ha=>by cases ha;exact hbW,hF5⟩
 ·rw[←hyl,hZ] at hC;rw[hC.eq,hys];rfl
 · obtain⟨j,hj⟩:=SZ hq
   have hjl:=(SG.1 hj).1;exact(hC.2.2 j q _ (by omega) hj (SD (by omega))).2.mono (fun _ _=>trivial)
end
section
variable {P:Program}{N:Nt}{ops:Array Oper}{Q:Exit→Act→World→Prop}{rest:List Oper}{l:SF}{w:World}{d:Nat}{ty:TypeId}{pos:String}{aft:Array Edge}{x y:Operand}{t:TypeId}
theorem Rj{α:Type}{enc:α→Value}(henc:∀ x,(enc x).oneCell'=true){e:TypeId}{bytes g:Nat}(ht:aM P t e 1 bytes){b:Addr}{cap bcap:Nat}{xs ys:List α}
 (hx:evL l x=some (.slice (some ⟨g,0,none⟩) xs.length cap))(hy:evL l y=some (.slice (some b) ys.length bcap))(ho:Own enc e w.heap (some ⟨g,0,none⟩) cap xs)(hv:Vw enc w.heap (some b) bcap ys)(hl:ys.length≤xs.length)(hd:Nat.blt d N.n=true)
 (h:∀ w',Own enc e w'.heap (some ⟨g,0,none⟩) cap (ys++xs.drop ys.length)→w'.heap.size=w.heap.size→aA (· = g) w w'→Sl P N ops Q rest ((d,iV (ys.length:Nat))::l) w') :
 Sl P N ops Q (⟨some d,.call ⟨.builtin .copy,#[x,y],#[t,t]⟩,ty,pos,aft,none⟩::rest) l w:=by
 obtain⟨i,z,hi,h1,hz,h2,h3⟩:=ht.parts;rcases ho with⟨h,_⟩|⟨g',cur,he,hg,g1,g2,g3,g4⟩
 ·cases h
 cases he;have hnews:∀ j v,(ys.map enc)[j]?=some v→w.cell? (b.add j)=some v:=by
  intro j v hv2;rw[Ti] at hv2;obtain⟨u,hu,rfl⟩:=SY.1 hv2;exact hv.get j u hu
 have hr:=run_copy_row (P:=P) w t t ty e g 0 xs.length cap b ys.length bcap cur e (ys.map enc) ht.und (by rw[hi];simp[h2]) hg (by rw[SX];exact(TK hl).symm) hnews (by rw[SX];omega)
  (fun v hv2=>by obtain⟨u,_,rfl⟩:=S6.1 hv2;exact henc u)
 refine Pm (w':=_) (v:=iV (ys.length:Nat)) (fun a ha=>?_) hd (h (w.setRow g (cur.toList.take 0++ys.map enc++cur.toList.drop (0+(ys.map enc).length)).toArray) ?_ ?_ ?_)
 ·simp[execOp,ha.ev hx,ha.ev hy,resolve,invoke,builtin,hr,goInt]
 · refine .inr ⟨g,_,rfl,setRow_heap w g cur _ e _ hg,?_,g2,?_,?_⟩
   ·rw[SE,SP];omega
   ·simp only[List.size_toArray,SE,SL,SP,SX,TW];omega
   · have e1:(ys++xs.drop ys.length).length=xs.length:=by rw[SE,SP];omega
     rw[e1,Uf,List.map_drop,←g4];simp only[List.take_zero,Tr,SX,Tu];rw[List.take_append,SX,SV (by rw[SX];exact hl),List.drop_take]
 ·simp[World.setRow]
 ·exact⟨rfl,rfl,rfl,by simp[World.setRow],fun k hk hn=>setRow_other w g k _ (fun e=>hn e)⟩
end
section
open Go Go.RowKit Go.Maps
theorem ByV.lts{D:Nat→Prop}{H:Array Obj}{h:Hd}{l:By}(v:ByV D H h l):ByV (fun k=>k<H.size) H h l:=⟨v.1,v.2.1,fun hne k ⟨a,ha,e⟩=>by have:=v.2.1.lt hne a ha;show k<H.size;omega⟩
theorem XsV.lts{D:Nat→Prop}{H:Array Obj}{h:Hd}{X:List Xa}(v:XsV D H h X):XsV (fun k=>k<H.size) H h X:=by
 obtain⟨h1,ys,h2,h3,h4,h5⟩:=v;exact⟨h1,ys,h2,h3,fun hne k ⟨a,ha,e⟩=>by have:=h2.lt hne (fun x e=>by cases e) a ha;show k<H.size;omega,fun i x y hx hy=>⟨(h5 i x y hx hy).1,(h5 i x y hx hy).2.lts⟩⟩
theorem aU.lts{D:Nat→Prop}{H:Array Obj}{ao:Option Addr}{c:Nat}{ps:List (NdH×Nd)}(v:aU D H ao c ps):aU (fun k=>k<H.size) H ao c ps:=⟨v.1,fun p hp=>⟨(v.2 p hp).1.real,(v.2 p hp).2.1.lts,(v.2 p hp).2.2.lts⟩⟩
theorem jD{qs rs:List (NdH×Nd)}(h:nds qs=nds rs){i:Nat}{q:NdH×Nd}(hq:qs[i]?=some q):∃ r,rs[i]?=some r∧r.2=q.2:=by
 have h1:=dK hq;rw[h] at h1;unfold nds at h1;rw[Ti] at h1;obtain⟨r,hr,e⟩:=SY.1 h1;exact⟨r,hr,e⟩
theorem gQ{qs rs:List (NdH×Nd)}(h:nds qs=nds rs){q:NdH×Nd}(hq:q∈qs):∃ r∈rs,r.2=q.2:=by
 obtain⟨i,hi⟩:=SZ hq;obtain⟨r,hr,e⟩:=jD h hi;exact⟨r,SM hr,e⟩
theorem GdT.nds{rs qs:List (NdH×Nd)}(G:GdT rs)(h:nds qs=nds rs):GdT qs:=by
 have hl:=nR h;refine⟨by rw[hl];exact G.n,fun q hq=>?_,fun q hq=>?_,fun q hq=>?_,fun q hq=>?_,fun i j p q hij hp hq=>?_,fun i j p q hij hp hq e=>?_,?_,fun q hq hne=>?_⟩
 · obtain⟨r,hr,e⟩:=gQ h hq
   rw[←e,hl];exact G.ino r hr
 · obtain⟨r,hr,e⟩:=gQ h hq
   rw[←e];exact G.may r hr
 · obtain⟨r,hr,e⟩:=gQ h hq
   rw[←e];exact G.nmv r hr
 · obtain⟨r,hr,e⟩:=gQ h hq
   rw[←e];exact G.dep r hr
 · obtain⟨r,hr,e⟩:=jD h hp
   obtain⟨t,ht,e2⟩:=jD h hq;rw[←e,←e2];exact G.lt i j r t hij hr ht
 · obtain⟨r,hr,e1⟩:=jD h hp
   obtain⟨t,ht,e2⟩:=jD h hq;rw[←e1,←e2] at e ⊢;exact G.lnk i j r t hij hr ht e
 · obtain⟨q,hq,h1,h2⟩:=G.root
   obtain⟨r,hr,e⟩:=jD h.symm hq;exact⟨r,hr,by rw[e];exact h1,by rw[e];exact h2⟩
 · obtain⟨r,hr,e⟩:=gQ h hq
   rw[←e] at hne;obtain⟨p,hp,h1,h2⟩:=G.up r hr hne;obtain⟨t,ht,e2⟩:=gQ h.symm hp;exact⟨t,ht,by rw[e2,h1,e],by rw[e2];exact h2⟩
theorem C6(ps:List (NdH×Nd)):iB ps=(nds ps).flatMap (fun n=>[n.ud,n.gd]):=by simp[iB,nds,List.flatMap_map]
theorem kZ.nds{qs rs:List (NdH×Nd)}{ids:List Int}(h:kZ qs ids)(e:nds qs=nds rs):kZ rs ids:=⟨h.1,fun z=>by rw[h.2 z,C6,C6,e]⟩
theorem GdT.okN{qs:List (NdH×Nd)}(G:GdT qs):∀ q∈qs,okN q.2:=by
 intro q hq z hz;obtain⟨⟨k1,k2⟩,_,⟨m1,m2⟩,⟨u1,u2⟩,⟨g1,g2⟩,_⟩:=G.may q hq;have:=G.ino q hq;have hn:=G.n.2;simp only[Ta,Tp,or_false] at hz;rcases hz with rfl|rfl|rfl|rfl|rfl<;>omega
theorem KU{qs:List (NdH×Nd)}{ids:List Int}(G:GdT qs)(I:kZ qs ids)(F:FI (nds qs) (qs.length+1) (aS qs)):GdP qs ids (aS qs).files where
 B:=G.gdB F.l (Hc F)
 xs:=fun q hq=>(G.may q hq).2.2.2.2.2.2.2.2
 tg:=fun q hq hk=>by
  have h:=(G.may q hq).2.2.2.2.2.2.2.1;unfold okT at h;rw[SA hk] at h;exact h
 kd:=fun q hq=>by have:=(G.may q hq).1;omega
 fo:=fun q hq hk=>F.a q.2 (S6.2 ⟨q,hq,rfl⟩) hk
 fz:=fun q hq hk h=>by
  by_cases hl:q.2.ino.toNat<(aS qs).files.length
  · have he:=SD hl
    have hd:(aS qs).files.getD q.2.ino.toNat bX=(aS qs).files[q.2.ino.toNat]:=by rw[SS,he];rfl
    rcases F.f _ _ he with e|⟨x,hx,hx2,hxi,_⟩
    ·rw[hd,e] at h;cases h
    · obtain⟨y,hy,rfl⟩:=S6.1 hx
      have h1:=G.ino q hq;have h2:=G.ino y hy;exact hk (by rw[←(G.same hq hy (by omega)).1];exact hx2)
  ·rw[SS,To (by omega)] at h;cases h
 ft:=fun f hf=>by
  obtain⟨i,hi⟩:=SZ hf;rcases F.f i f hi with e|⟨x,_,_,_,st,fr,off,e,_⟩
  ·rw[e];rfl
  ·rw[e]
 ir:=I.1
 io:=fun q hq=>⟨(I.2 _).2 (rB hq).1,(I.2 _).2 (rB hq).2⟩
 il:=by have:=nZ I;have:=G.n.2;omega
theorem Db(tp:Nat)(lo:Option Addr)(lc:Nat)(l:List Int)(wide:Int)(W:World)(ht:TbV W.heap tp)(hv:Vw i64 W.heap lo lc l)(hl:l.length≤1000)(hb:(aI l wide).1.length≤100000) :
 Calls Tryz.prog 24 (([.slice lo l.length lc,iV wide]:List Value)++([pT tp]:List Value)).toArray W (Ret (lA W (dnW (aI l wide).1))):=by
 simp only[List.cons_append,Tr];have htl:=(SJ.1 ht).1;refine cS 21 [(0,_),(1,_),(2,_)] Tryz.func24 ?_;refine cA 7 Jh (nN tp W ht) ?_;rintro _ w1 ⟨rfl,hM1,hf1⟩;have hz1:=hf1.size;refine Gz 7 ?_;refine OP Ox rfl (BS lo lc l wide w1 (hv.Sw hf1) (by omega)) rfl ?_;rintro _ w2 ⟨o2,c2,rfl,ho2,hfr2,hf2⟩;have hM2:=hM1.Sy hf2 (fun _ _=>id) id;have hz2:=hf2.size;refine Gz 11 ?_;refine OP Jg rfl (nQ (fun k=>W.heap.size≤k∧k<w1.heap.size) W.heap.size tp [] o2 c2 (aI l wide).1 w2 hM2 ho2.vw (by rw[S9];omega)) rfl ?_;rintro _ w3 ⟨rfl,hM3,hf3⟩;rw[Tr] at hM3;have hz3:=hf3.size;refine Gz 5 ?_;refine OP Jf rfl (lF (Nx (fun k=>W.heap.size≤k∧k<w1.heap.size) w2 w3) W.heap.size tp (aI l wide).1 w3 hM3 (by omega)) rfl ?_;rintro _ w4 ⟨o4,c4,rfl,ho4,hfr4,hf4⟩;refine Gz 5 ?_;have hF3:aA nob W w3:=(hf1.trans hf2).St hf3 (fun k h=>.inr h.1);exact⟨_,rfl,o4,c4,rfl,ho4,hfr4.mono (by omega),hF3.trans hf4⟩
def owB(B1 B2 B3 B4 B5 B6:Nat):Nat→Nat:=fun k=>if k<B1 then 4 else if k<B2 then 1 else if k<B3 then 2 else if k<B4 then 3 else if k<B5 then 4 else if k=B5 then 5 else if k=B5+1 then 7 else if k=B5+2 then 8 else if k=B5+3 then 6 else if k<B6 then 9 else 0
section
variable {B1 B2 B3 B4 B5 B6:Nat}(h:B1≤B2∧B2≤B3∧B3≤B4∧B4≤B5∧B5+4≤B6){k:Nat}
theorem N0(hk:k<B1):owB B1 B2 B3 B4 B5 B6 k=4:=SB hk
theorem N3(hk:B1≤k∧k<B2):owB B1 B2 B3 B4 B5 B6 k=1:=by unfold owB;rw[SA (by omega),SB (by omega)]
include h
theorem N2(hk:B2≤k∧k<B3):owB B1 B2 B3 B4 B5 B6 k=2:=by unfold owB;rw[SA (by omega),SA (by omega),SB (by omega)]
theorem N1(hk:B3≤k∧k<B4):owB B1 B2 B3 B4 B5 B6 k=3:=by unfold owB;rw[SA (by omega),SA (by omega),SA (by omega),SB (by omega)]
theorem LD(hk:B4≤k∧k<B5):owB B1 B2 B3 B4 B5 B6 k=4:=by unfold owB;rw[SA (by omega),SA (by omega),SA (by omega),SA (by omega),SB (by omega)]
theorem NZ:owB B1 B2 B3 B4 B5 B6 B5=5:=by unfold owB;rw[SA (by omega),SA (by omega),SA (by omega),SA (by omega),SA (by omega),SB rfl]
theorem NX:owB B1 B2 B3 B4 B5 B6 (B5+1)=7:=by unfold owB;rw[SA (by omega),SA (by omega),SA (by omega),SA (by omega),SA (by omega),SA (by omega),SB rfl]
theorem NW:owB B1 B2 B3 B4 B5 B6 (B5+2)=8:=by unfold owB;rw[SA (by omega),SA (by omega),SA (by omega),SA (by omega),SA (by omega),SA (by omega),SA (by omega),SB rfl]
theorem NY:owB B1 B2 B3 B4 B5 B6 (B5+3)=6:=by unfold owB;rw[SA (by omega),SA (by omega),SA (by omega),SA (by omega),SA (by omega),SA (by omega),SA (by omega),SA (by omega),SB rfl]
theorem NV(hk:B5+4≤k∧k<B6):owB B1 B2 B3 B4 B5 B6 k=9:=by unfold owB;rw[SA (by omega),SA (by omega),SA (by omega),SA (by omega),SA (by omega),SA (by omega),SA (by omega),SA (by omega),SA (by omega),SB (by omega)]
theorem N4(hk:B6≤k):owB B1 B2 B3 B4 B5 B6 k=0:=by unfold owB;rw[SA (by omega),SA (by omega),SA (by omega),SA (by omega),SA (by omega),SA (by omega),SA (by omega),SA (by omega),SA (by omega),SA (by omega)]
end
theorem PiX.relab{a:PiA}{ow ow':Nat→Nat}{H:Array Obj}{g tp:Nat}{qs:List (NdH×Nd)}{ids:List Int}{files:List Ino}{s:BSt}(h:PiX 0 a ow H g tp qs ids files s)(kz:∀ c,c≠0→c≤8→∀ k,ow k=c→ow' k=c):PiX 0 a ow' H g tp qs ids files s:=by
 obtain⟨⟨b1,b2⟩,⟨⟨n0,n1⟩,n2⟩,⟨i1,i2⟩,⟨t1,t2⟩,w1,w2,w3,⟨r1,r2⟩,⟨f1,f2⟩,z1,z2⟩:=h;have k4:=kz 4 (by decide) (by decide);have tn:∀ c,c≠4→¬ ow' tp=c:=fun c hc=>by rw[k4 tp t2];exact fun h=>hc h.symm
 exact⟨⟨b1,kz 6 (by decide) (by decide) g b2⟩,⟨⟨n0,fun p hp=>(n1 p hp).mono k4⟩,fun hne k hk=>k4 k (n2 hne k hk)⟩,⟨i1,fun hne k hk=>k4 k (i2 hne k hk)⟩,⟨t1,k4 tp t2⟩,
  fun hc=>(w1 hc).mono (kz 1 (by decide) (by decide)) (tn 1 (by decide)),fun hc=>(w2 hc).mono (kz 2 (by decide) (by decide)) (tn 2 (by decide)),fun hc=>(w3 hc).mono (kz 3 (by decide) (by decide)) (tn 3 (by decide)),
  ⟨kz 5 (by decide) (by decide) _ r1,r2⟩,⟨kz 7 (by decide) (by decide) _ f1,f2⟩,kz 8 (by decide) (by decide) _ z1,z2⟩
theorem uZ.zero(n:Nat):uZ [] (S7 n 0):=fun a _=>by
 have e:(S7 n (0:Int)).getD a.1.toNat 0=0:=by rw[SS,U4];split<;>rfl
 rw[e];rfl
theorem CB.zero(n:Nat):CB [] (S7 n bX):=fun a _=>by
 have e:(S7 n bX).getD a.1.toNat bX=bX:=by rw[SS,U4];split<;>rfl
 rw[e];rfl
theorem Cx.zero:Cx [] []:=fun X _ _=>rfl
theorem D5(n:Nat):(qO (mV n)).length=0:=by
 unfold qO mV;rw[List.filter_replicate];rfl
def oB:List Nat:=[2,3,4,5,6,0]
def ffB(F:Nat→Int)(Ps:List By):Nat→(Nat→Int)
|0=>F
|i+1=>upd (ffB F Ps i) (oB.getD i 0) (64+((Ps.take (i+1)).flatten.length:Nat))
theorem JU{i:Nat}(h:i<6):oB.getD i 0<10:=by
 match i,h with
|0,_|1,_|2,_|3,_|4,_|5,_=>decide
theorem Ji{Ps:List By}{i:Nat}{x:By}(h:Ps[i]?=some x):(Ps.take (i+1)).flatten=(Ps.take i).flatten++x:=by rw[tkL h];simp
def cY(A:uN)(ids:List Int):List By:=[A.d.B,dnW A.s.ino,dnW A.s.lst,dnW (aI A.pl 4).1,dnW (aI ids 2).1,dnW A.s.fur]
theorem mI(A:uN)(ids:List Int):(cY A ids).flatten=eX A ids:=by
 unfold cY eX iC gD fP eY eZ;simp only[List.flatten_cons,List.flatten_nil,TU,Tc]
theorem Jn(A:uN)(qs:List (NdH×Nd))(ids:List Int)(F:Nat→Int)(hF:F=fun j=>[0,(A.s.many:Int),0,0,0,0,0,(ids.length:Int),(A.pl.length:Int),A.s.refs.getD (ndB qs 0).ino.toNat 0-1].getD j 0):cJ (ffB F (cY A ids) 6)=cJ (fL qs ids A):=by
 have e1:((cY A ids).take 1).flatten=eZ A:=by simp[cY,eZ]
 have e2:((cY A ids).take 2).flatten=eY A:=by simp[cY,eZ,eY]
 have e3:((cY A ids).take 3).flatten=fP A:=by simp[cY,eZ,eY,fP]
 have e4:((cY A ids).take 4).flatten=gD A:=by simp[cY,eZ,eY,fP,gD]
 have e5:((cY A ids).take 5).flatten=iC A ids:=by simp[cY,eZ,eY,fP,gD,iC]
 have e6:((cY A ids).take 6).flatten=eX A ids:=by rw[←mI];rfl
 have e:ffB F (cY A ids) 6=upd (upd (upd (upd (upd (upd F 2 (64+((eZ A).length:Nat))) 3 (64+((eY A).length:Nat))) 4 (64+((fP A).length:Nat))) 5 (64+((gD A).length:Nat))) 6 (64+((iC A ids).length:Nat))) 0 (64+((eX A ids).length:Nat)):=by
  rw[←e1,←e2,←e3,←e4,←e5,←e6];rfl
 rw[e,hF];rfl
end
section
open Go Go.RowKit Go.Maps
theorem pB(lo0:Option Addr)(lc0:Nat)(ps:List (NdH×Nd))(W:World)(hv:aU (fun k=>k<W.heap.size) W.heap lo0 lc0 ps)(hsm:∀ p∈ps,smN p.2)(hok:∀ p∈ps,okN p.2)(hl:ps.length≤40) :
 CA 10 [.slice lo0 ps.length lc0] W (BuP W ps):=by
 refine cS 127 [(0,_)] Tryz.func10 ?_;refine cA 9 OB (HE lo0 lc0 ps W hv hsm hok) ?_;rintro _ w1 ⟨lo,lc,qs,rfl,_,hq1,hvq,hfrq,hf1⟩;refine fK 11 ?_ ?_<;>intro h23
 ·refine Gz 13 ?_;exact⟨_,rfl,.inl ⟨h23,rfl,hf1⟩⟩
 have hz:chk (nds ps)=0:=Tw.1 h23;have hqs:=hq1 hz;have G:=(GR hz hl).nds hqs;have hq40:=G.n.2;have hq0:=G.n.1;have hvq:=hvq.lts;refine cA 7 Ms (wX w1) ?_;rintro _ w2 ⟨rfl,hf2⟩;refine OS HX rfl ?_;intro w3 hg3 hs3 hf3;refine O1 (vs:=tab) uI rfl rfl xP hg3 (by rw[qV,Tn]) ?_;intro w4 hg4 hs4 hf4;obtain⟨tp,hp⟩:∃ p,p=w2.heap.size:=⟨_,rfl⟩
 have hF4:aA nob w1 w4:=(hf2.trans hf3).St hf4 (fun k hk=>.inr (by have h:k=w2.heap.size:=hk;have:=hf2.size;omega));rw[←hp] at hg4 ⊢;have ht4:TbV w4.heap tp:=hg4;have htl:=(SJ.1 hg4).1;have hz4:=hF4.size;have hvq4:=hvq.Sw hF4;refine cA 4 Jh (nN tp w4 ht4) ?_;rintro _ w5 ⟨rfl,hW1,hf5⟩;have ht5:=hf5.obj ht4 id;have hz5:=hf5.size;refine cA 0 Jh (nN tp w5 ht5) ?_;rintro _ w6 ⟨rfl,hW2,hf6⟩;have ht6:=hf6.obj ht5 id;have hz6:=hf6.size;refine cA 0 Jh (nN tp w6 ht6) ?_;rintro _ w7 ⟨rfl,hW3,hf7⟩;have ht7:=hf7.obj ht6 id;have hz7:=hf7.size;have hf47:=(hf5.trans hf6).trans hf7;have hvq7:=hvq4.Sw hf47;refine cL (PO (cs:=#[pT w4.heap.size,pT w5.heap.size,pT w6.heap.size]) LB NO rfl (by kernel_rfl)) ?_;refine Gz 2 ?_;refine OP OA rfl (KO lo lc qs w7 hvq7.1 G.okN (by omega)) rfl ?_;rintro _ w8 ⟨io,ic,ids,rfl,hI8,hfI,hIds,hf8⟩;have hz8:=hf8.size;have hIl:=hI8.lt;have hid80:=nZ hIds;refine Pq (enc:=enI) rfl ?_;intro w9 hm9 hs9 hf9;refine Pq (enc:=enI) rfl ?_;intro w10 hm10 hs10 hf10;refine Pq (enc:=enS) rfl ?_;intro w11 hm11 hs11 hf11;refine cL (bU (piC ⟨lo,lc,io,ic,w4.heap.size,w5.heap.size,w6.heap.size,w8.heap.size,w9.heap.size,w10.heap.size⟩ qs.length ids.length) LA NN) ?_;refine Pf rfl rfl ?_;intro w12 hg12 hs12 hf12;obtain⟨a,ea⟩:∃ a:PiA,a=⟨lo,lc,io,ic,w4.heap.size,w5.heap.size,w6.heap.size,w8.heap.size,w9.heap.size,w10.heap.size⟩:=⟨_,rfl⟩
 have hg12:w12.heap[w11.heap.size]?=some (.cells (piC a qs.length ids.length).toArray 62 (0,0)):=by rw[ea];exact hg12
 obtain⟨g,eg⟩:∃ g,g=w11.heap.size:=⟨_,rfl⟩
 rw[←eg] at hg12 ⊢;have hf812:=((hf9.trans hf10).trans hf11).trans hf12;have hf712:=hf8.trans hf812;have ht12:=hf712.obj ht7 id;refine cA 5 Oz (Ho tp 64 w12 ht12) ?_;rintro _ w13 ⟨rfl,hD13,hf13⟩;have hz13:=hf13.size;obtain⟨ow,how⟩:∃ o,o=owB w4.heap.size w5.heap.size w6.heap.size w7.heap.size w8.heap.size w13.heap.size:=⟨_,rfl⟩
 have hB:w4.heap.size≤w5.heap.size∧w5.heap.size≤w6.heap.size∧w6.heap.size≤w7.heap.size∧w7.heap.size≤w8.heap.size∧w8.heap.size+4≤w13.heap.size:=by omega
 have hf713:=hf712.trans hf13;have hf813:=hf812.trans hf13;have o4:∀ k,k<w4.heap.size→ow k=4:=fun k hk=>by rw[how];exact N0 hk
 have otp:=o4 tp htl;have hn13:∀ k,w13.heap.size≤k→ow k=0:=fun k hk=>by rw[how];exact N4 hB hk
 have ntp:∀ c,c≠4→¬ ow tp=c:=fun c hc h=>hc (by rw[←h,otp]);have hM13:PiX 0 a ow w13.heap g tp qs ids (S7 (qs.length+1) bX) (mV (qs.length+1)):=by
  rw[ea] at hg12 ⊢;refine⟨⟨hf13.obj hg12 id,by rw[eg,show w11.heap.size=w8.heap.size+3 by omega,how];exact NY hB⟩,⟨⟨(hvq7.1.keep' hf713 (fun _ _ _=>id)),fun p hp=>((hvq7.2 p hp).Sw hf713).mono (fun k hk=>o4 k (by omega))⟩,fun hne k ⟨x,hx,e⟩=>o4 k (by have:=hvq.1.lt hne (fun x e=>by cases e) x hx;omega)⟩,⟨(hI8.Sw hf813).vw,fun _ k ⟨x,hx,e⟩=>by have h1:=hfI x hx;have h2:=hIl x hx;rw[how];exact LD hB ⟨by omega,by omega⟩⟩,⟨hf13.obj ht12 id,otp⟩,fun _=>?_,fun _=>?_,fun _=>?_,⟨by rw[how];exact NZ hB,fun _=>⟨[],(((hm9.Sy hf10 id).Sy hf11 id).Sy hf12 id).Sy hf13 id,uZ.zero _,(D5 _).symm⟩⟩,⟨by show ow w9.heap.size=7;rw[show w9.heap.size=w8.heap.size+1 by omega,how];exact NX hB,fun _=>⟨[],((hm10.Sy hf11 id).Sy hf12 id).Sy hf13 id,CB.zero _⟩⟩,by show ow w10.heap.size=8;rw[show w10.heap.size=w8.heap.size+2 by omega,how];exact NW hB,fun _=>⟨[],(hm11.Sy hf12 id).Sy hf13 id,Cx.zero⟩⟩
  ·exact(((hW1.Sy hf6 (fun _ _=>id) id).Sy hf7 (fun _ _=>id) id).Sy hf713 (fun _ _=>id) id).mono (fun k hk=>by rw[how];exact N3 hk) (ntp 1 (by decide))
  ·exact((hW2.Sy hf7 (fun _ _=>id) id).Sy hf713 (fun _ _=>id) id).mono (fun k hk=>by rw[how];exact N2 hB hk) (ntp 2 (by decide))
  ·exact(hW3.Sy hf713 (fun _ _=>id) id).mono (fun k hk=>by rw[how];exact N1 hB hk) (ntp 3 (by decide))
 obtain⟨dg,edg⟩:∃ d,d=w12.heap.size+1:=⟨_,rfl⟩
 rw[←edg] at hD13 ⊢;have hD13:DwO (fun k=>ow k=9) w13.heap dg tp 64 ⟨[],[]⟩:=hD13.mono (fun k hk=>by rw[how];exact NV hB ⟨by omega,hk.2⟩) (ntp 9 (by decide));refine cA 7 Oy (BT a ow g tp qs ids (mV (qs.length+1)) dg G w13 hM13 hn13 hD13) ?_;rintro _ w14 ⟨po,pc,ow14,rfl,hpo,hpd,hM14,hD14,hFI,hl14,hn14,hf14⟩;obtain⟨S,eS,hInv,_,hpos⟩:=lR G hIds hFI;have hAll:=DF G hIds;have hGP:=KU G hIds hFI;have hz14:=hf14.size;obtain⟨pl,epl⟩:∃ l,l=(dN (aS qs).tails (aS qs).ds).2:=⟨_,rfl⟩
 obtain⟨ds,eds⟩:∃ d,d=(dN (aS qs).tails (aS qs).ds).1:=⟨_,rfl⟩
 rw[←epl] at hpo ⊢;rw[←eds] at hD14;have hpll:pl.length≤40:=by have h1:=kL (aS qs).tails (aS qs).ds;have h2:=hFI.tn;rw[SX] at h2;rw[epl];omega
 have hdsl:ds.B.length≤200000:=by rw[eds];exact hAll.B
 have eAll:aF qs ids=⟨ds,pl,S⟩:=by unfold aF;rw[←eds,←epl,eS]
 obtain⟨q0,hq00,hq0n,hq0k⟩:=G.root;have hnd0:=eM hq00;obtain⟨ow15,eo15⟩:∃ o:Nat→Nat,o=fun k=>if ow14 k≤8 then ow14 k else 0:=⟨_,rfl⟩
 have o15e:∀ k,ow15 k=if ow14 k≤8 then ow14 k else 0:=fun k=>by rw[eo15]
 have o15a:∀ k,ow14 k≤8→ow15 k=ow14 k:=fun k h=>by rw[o15e,SB h]
 have o15b:∀ k,8<ow14 k→ow15 k=0:=fun k h=>by rw[o15e,SA (by omega)]
 have hM15:=hM14.relab (ow':=ow15) (fun c _ hc k hk=>by rw[o15a k (by omega)];exact hk);have hn15:∀ k,w14.heap.size≤k→ow15 k=0:=fun k hk=>by have:=hn14 k hk;rw[o15a k (by omega)];exact this
 have hokS:okS qs (mV (qs.length+1)):=⟨Tn,⟨fun z hz=>by have hz:=List.eq_of_mem_replicate hz;omega,fun y hy=>by cases hy⟩,fun y hy=>by cases hy⟩
 have hbd:bdB (wrB qs ids (aS qs).files 17 0 (mV (qs.length+1))):=hAll.b;refine Gz 6 ?_;refine OP LU rfl (vR a g tp qs ids (aS qs).files hGP 17 ow15 (mV (qs.length+1)) 0 w14 hM15 hn15 ⟨by omega,by omega⟩ (by omega) hokS hbd) rfl ?_;rw[eS];rintro _ w15 ⟨rfl,ow16,hM16,hl16,hn16,hf15⟩;have hz15:=hf15.size;have nLb:∀ k,ow14 k=0∨ow14 k=9∨ow14 k=4→¬ Lb ow15 k:=fun k h h2=>by
  rcases h with h|h|h
  ·exact h2.1 (by rw[o15a k (by omega)];exact h)
  ·exact h2.1 (o15b k (by omega))
  ·exact h2.2 (by rw[o15a k (by omega)];exact h)
 have hD15:=hD14.Sy hf15 (fun k hk=>nLb k (.inr (.inl hk))) (nLb tp (.inr (.inr hM14.2.2.2.1.2)));have hpo15:=hpo.Sy hf15 (fun x hx=>nLb _ (.inl (hpd _ ⟨x,hx,rfl⟩).2));have hpol:=hpo.lt;obtain⟨⟨hg15,hg6⟩,_,⟨i15,_⟩,⟨ht15,ht154⟩,cw1,cw2,cw3,⟨_,c5⟩,_⟩:=id hM16;obtain⟨mr,hmr,_,hmrl⟩:=c5 (by decide);have hmany:mr.length=S.many:=by rw[hmrl,hInv.many]
 have hW15:aA (fun k=>w1.heap.size≤k) w1 w15:=by
  have f0:aA nob w1 w13:=(hF4.trans hf47).trans hf713;refine(f0.any.St hf14 (fun k h=>?_)).St hf15 (fun k h=>?_)
  · by_cases hk:k<w4.heap.size
    ·exact absurd (o4 k hk) h.2
    ·exact .inr (by omega)
  · by_cases hk:k<w4.heap.size
    ·exact absurd (by rw[o15a k (by rw[hl14 k (by omega),o4 k hk];decide),hl14 k (by omega)];exact o4 k hk) h.2
    ·exact .inr (by omega)
 have hg15l:=(SJ.1 hg15).1;refine Gz 5 ?_;refine cL (PL (vs:=[pT tp]) rfl) ?_;refine Gz 4 ?_;refine O4 15 (fun H=>H[g]?=some (.cells (piC a qs.length ids.length).toArray 62 (0,0))∧cF enI H a.r mr) [14,15] [0,1,2,3,4,5,6,7,8,9,10,11,12,13,14,15] aL (by kernel_rfl) (⟨hg15,hmr⟩) ?_;refine Gz 4 ?_;refine xC rfl (OQ (u:=iV (S.many:Nat)) (Qe mpQ rfl (fun H hH=>hH.2)) (by rw[hmany])) ?_;refine Gz 8 ?_;refine xC rfl (bU (cJ (fun j=>[0,(S.many:Int),0,0,0,0,0,(ids.length:Int),(pl.length:Int),S.refs.getD (ndB qs 0).ino.toNat 0-1].getD j 0)) qB qL) ?_;obtain⟨F0,hF0⟩:∃ F:Nat→Int,F=fun j=>[0,(S.many:Int),0,0,0,0,0,(ids.length:Int),(pl.length:Int),S.refs.getD (ndB qs 0).ino.toNat 0-1].getD j 0:=⟨_,rfl⟩
 rw[←hF0];refine OZ rfl rfl (OS qL rfl ?_);intro w16 hg16 hs16 hf16;have hf16:aA nob w15 w16:=hf16.Su;refine O6 (by exact⟨hf16.obj hg15 id,hmr.Sy hf16 id⟩) ?_;obtain⟨gS,egS⟩:∃ x,x=w15.heap.size:=⟨_,rfl⟩
 rw[show (w15.drewN 1).heap.size=gS from egS.symm] at hg16 ⊢;refine OZ rfl rfl (O1 (vs:=cJ F0) dF rfl rfl (by exact dR _) hg16 rfl ?_);intro w17 hS17 hs17 hf17;refine Pv rfl ?_;have hf17:aA (· = gS) w16 w17:=hf17;have hs16b:w16.heap.size=w15.heap.size+1:=hs16;have hs17b:w17.heap.size=w16.heap.size:=hs17;have hf1517:aA nob w15 w17:=hf16.tw hf17;refine Gz 4 ?_;refine QN b8 (0:UInt8) aN z5 rfl rfl rfl (by decide) (by decide) (by decide) (by decide) rfl ?_;intro w18 ho18 hs18 hf18;have ho18:Own b8 5 w18.heap (some ⟨w17.heap.size,0,none⟩) 64 (S7 64 0):=ho18;have hs18b:w18.heap.size=w17.heap.size+1:=hs18;have hf1518:=hf1517.trans hf18;have hg18:=hf1518.obj hg15 id;have hS18:=hf18.obj hS17 id;have n4:=hAll.n4;have n2:=hAll.n2;have li:=hAll.i;have ll:=hAll.l;have lf:=hAll.f;have o6:=hAll.o6;rw[eAll] at n4 li ll lf o6
 replace n4:(aI pl 4).1.length≤160:=n4
 replace li:S.ino.length≤10000:=li
 replace ll:S.lst.length≤500000:=ll
 replace lf:S.fur.length≤200000:=lf
 refine Gz 4 ?_;refine O4 31 (fun H=>H[g]?=some (.cells (piC a qs.length ids.length).toArray 62 (0,0))) [1,7,13,16,22,28,29] [0,2,3,4,5,6,8,9,10,11,12,14,15,17,18,19,20,21,23,24,25,26,27,1,7,13,16,22,28,29,30] aL (by kernel_rfl) (hg18) ?_;refine Gz 5 ?_;refine xC rfl (OX sG rfl (fun H hH=>by rw[xH];exact aD (i:=0) hH rfl)) ?_;refine Gz 4 ?_;refine xC rfl (OX sG rfl (fun H hH=>by rw[xH];exact aD (i:=1) hH rfl)) ?_;refine Gz 11 ?_;refine xC rfl (OX sG rfl (fun H hH=>by rw[xH];exact aD (i:=2) hH rfl)) ?_;refine OZ rfl rfl (OP Ow rfl (Hs (fun k=>ow14 k=9) dg tp 64 ds (w18.drewN 1) (hD15.Sw (hf1518.draws 1)) (by omega)) rfl ?_);rintro _ w19 ⟨o1,c1,rfl,ho1,hfr1,hf19⟩;have hf19:aA nob w18 w19:=hf19.Su;have hfr1:Fr w18.heap.size o1:=hfr1;have hf1519:=hf1518.trans hf19;have hz19:=hf19.size;refine O6 (by exact hf1519.obj hg15 id) ?_;refine OZ rfl rfl (OP Jf rfl (lF (fun k=>ow16 k=1) a.g1 tp S.ino w19 ((cw1 (by decide)).Sy hf1519 (fun _ _=>id) id) (by omega)) rfl ?_);rintro _ w20 ⟨o2,c2,rfl,ho2,hfr2,hf20⟩;have hf1520:=hf1519.trans hf20;have hz20:=hf20.size;refine O6 (by exact hf1520.obj hg15 id) ?_;refine OZ rfl rfl (OP Jf rfl (lF (fun k=>ow16 k=2) a.g2 tp S.lst w20 ((cw2 (by decide)).Sy hf1520 (fun _ _=>id) id) (by omega)) rfl ?_);rintro _ w21 ⟨o3,c3,rfl,ho3,hfr3,hf21⟩;have hf1521:=hf1520.trans hf21;have hz21:=hf21.size;refine O6 (by exact hf1521.obj hg15 id) ?_;refine OZ rfl rfl (Px LR rfl rfl (Db tp po pc pl 4 w21 (hf1521.obj ht15 id) (hpo15.Sw hf1521).vw (by omega) (by omega)) rfl ?_);intro v22 w22 hr22;obtain⟨o4,c4,rfl,ho4,hfr4,hf22⟩:=hr22;have hf1522:=hf1521.trans hf22;have hz22:=hf22.size;refine O6 (by exact hf1522.obj hg15 id) ?_;refine OZ rfl rfl (Px LR rfl rfl (Db tp a.io a.ic ids 2 w22 (hf1522.obj ht15 id) (i15.Sw hf1522) (by omega) (by omega)) rfl ?_);intro v23 w23 hr23;obtain⟨o5,c5,rfl,ho5,hfr5,hf23⟩:=hr23;have hf1523:=hf1522.trans hf23;have hz23:=hf23.size;refine O6 (by exact hf1523.obj hg15 id) ?_;refine OZ rfl rfl (OP Jf rfl (lF (fun k=>ow16 k=3) a.g3 tp S.fur w23 ((cw3 (by decide)).Sy hf1523 (fun _ _=>id) id) (by omega)) rfl ?_);rintro _ w24 ⟨o6b,c6,rfl,ho6,hfr6,hf24⟩;have hf1524:=hf1523.trans hf24;have hz24:=hf24.size;refine O6 (by exact hf1524.obj hg15 id) ?_;refine OZ rfl rfl (Pg sD (cs:=([(⟨o1,ds.B.length,c1⟩:Hd),⟨o2,(dnW S.ino).length,c2⟩,⟨o3,(dnW S.lst).length,c3⟩,⟨o4,(dnW (aI pl 4).1).length,c4⟩,⟨o5,(dnW (aI ids 2).1).length,c5⟩,⟨o6b,(dnW S.fur).length,c6⟩].map hd).toArray) Lk rfl rfl rfl (by kernel_rfl) rfl ?_);intro w25 hg25 hs25 hf25;have hf1525:=hf1524.trans hf25;have hs25b:w25.heap.size=w24.heap.size+1:=hs25;refine O6 (by exact hf1525.obj hg15 id) ?_;obtain⟨hs,ehs⟩:∃ l:List Hd,l=[⟨o1,ds.B.length,c1⟩,⟨o2,(dnW S.ino).length,c2⟩,⟨o3,(dnW S.lst).length,c3⟩,⟨o4,(dnW (aI pl 4).1).length,c4⟩,⟨o5,(dnW (aI ids 2).1).length,c5⟩,⟨o6b,(dnW S.fur).length,c6⟩]:=⟨_,rfl⟩
 have hhs6:hs.length=6:=by rw[ehs];rfl
 have hp25:Own hd 25 w25.heap (some ⟨w24.heap.size,0,none⟩) 6 hs:=by rw[ehs];exact iO hg25 (show 6≤maxLen by decide)
 have hPl:(cY ⟨ds,pl,S⟩ ids).length=6:=rfl;have hrw25:cM (fun k=>w18.heap.size≤k∧k<w25.heap.size) w25.heap hs (cY ⟨ds,pl,S⟩ ids):=by
  have k:∀ {o:Option Addr} {c:Nat} {x:By} {u v:World},Own b8 5 v.heap o c x→aA nob v w25→Fr u.heap.size o→w18.heap.size≤u.heap.size→Vw b8 w25.heap o c x∧(x≠[]→∀ k,blk o k→w18.heap.size≤k∧k<w25.heap.size):=fun h f hfr hu=>⟨(h.Sw f).vw,fun _ k ⟨y,hy,e⟩=>by have:=hfr y hy;have:=h.lt y hy;have:=f.size;omega⟩
  have k6:=k ho6 hf25 hfr6 (by omega);have k5:=k ho5 (hf24.trans hf25) hfr5 (by omega);have k4:=k ho4 ((hf23.trans hf24).trans hf25) hfr4 (by omega);have k3:=k ho3 (((hf22.trans hf23).trans hf24).trans hf25) hfr3 (by omega);have k2:=k ho2 ((((hf21.trans hf22).trans hf23).trans hf24).trans hf25) hfr2 (by omega);have k1:=k ho1 (((((hf20.trans hf21).trans hf22).trans hf23).trans hf24).trans hf25) hfr1 (by omega);rw[ehs];exact((((((RX (H:=w25.heap)).snoc (x:=⟨o1,ds.B.length,c1⟩) rfl k1.1 k1.2).snoc (x:=⟨o2,(dnW S.ino).length,c2⟩) rfl k2.1 k2.2).snoc (x:=⟨o3,(dnW S.lst).length,c3⟩) rfl k3.1 k3.2).snoc (x:=⟨o4,(dnW (aI pl 4).1).length,c4⟩) rfl k4.1 k4.2).snoc (x:=⟨o5,(dnW (aI ids 2).1).length,c5⟩) rfl k5.1 k5.2).snoc (x:=⟨o6b,(dnW S.fur).length,c6⟩) rfl k6.1 k6.2
 have hS25:w25.heap[gS]?=some (.cells (cJ F0).toArray 44 (0,0)):=(((((((hf19.trans hf20).trans hf21).trans hf22).trans hf23).trans hf24).trans hf25)).obj hS18 id;refine Gz 12 ?_;refine Pg xT (cs:=(oB.map (ptO gS)).toArray) Kb rfl rfl rfl (by kernel_rfl) rfl ?_;intro w26 hg26 hs26 hf26;have hs26b:w26.heap.size=w25.heap.size+1:=hs26;have hq26:Own (ptO gS) 72 w26.heap (some ⟨w25.heap.size,0,none⟩) 6 oB:=iO (xs:=oB) hg26 (by decide);have hf1826:=((((((hf19.trans hf20).trans hf21).trans hf22).trans hf23).trans hf24).trans hf25).trans hf26;have hN15:aA nob W w15:=hf1.St hW15 (fun k h=>.inr (by have:=hf1.size;omega));have hN26:aA nob W w26:=(hN15.trans hf1518).trans hf1826;obtain⟨Ps,ePs⟩:∃ P,P=cY ⟨ds,pl,S⟩ ids:=⟨_,rfl⟩
 rw[←ePs] at hrw25 hPl;have hPf:Ps.flatten.length≤1500000:=by rw[ePs,mI];exact o6
 have hzW:=hN15.size;refine Gz 5 ?_;refine OU (β:=Nat×(Option Addr×Nat)) (fun⟨i,⟨oo,oc⟩⟩=>[(5,pT tp),(11,pT gS),(12,.slice oo (S7 64 (0:UInt8)++(Ps.take i).flatten).length oc),(13,.slice (some ⟨w24.heap.size,0,none⟩) 6 6),(96,.slice (some ⟨w25.heap.size,0,none⟩) 6 6),(97,iV 6),(98,iV i)]) (fun⟨i,⟨oo,oc⟩⟩ w=>i≤6∧Own b8 5 w.heap oo oc (S7 64 (0:UInt8)++(Ps.take i).flatten)∧(∀ k,blk oo k→k=w17.heap.size∨w26.heap.size≤k)∧w.heap[gS]?=some (.cells (cJ (ffB F0 Ps i)).toArray 44 (0,0))∧Own hd 25 w.heap (some ⟨w24.heap.size,0,none⟩) 6 hs∧Own (ptO gS) 72 w.heap (some ⟨w25.heap.size,0,none⟩) 6 oB∧cM (fun k=>w18.heap.size≤k∧k<w25.heap.size) w.heap hs Ps∧TbV w.heap tp∧w26.heap.size≤w.heap.size∧aA nob W w) (fun⟨i,⟨oo,oc⟩⟩=>6-i) ⟨0,⟨some ⟨w17.heap.size,0,none⟩,64⟩⟩ ⟨rfl,rfl,rfl,rfl,rfl,rfl,rfl,trivial⟩ ⟨by decide,by rw[show S7 64 (0:UInt8)++(Ps.take 0).flatten=S7 64 0 by simp];exact ho18.Sw hf1826,fun k ⟨z,hz,e⟩=>by cases hz;exact .inl e.symm,hf26.obj hS25 id,hp25.Sw hf26,hq26,hrw25.Sy hf26 (fun _ _=>id),(hf1518.trans hf1826).obj ht15 id,SI _,hN26⟩ ?_;rintro⟨i,⟨oo,oc⟩⟩ w27 ⟨hi,hoo,hob,hS,hp,hq,hrw,ht27,hz27,hN⟩;refine fK 2 ?_ ?_<;>intro h99
 ·have hi6:i<6:=by omega
  obtain⟨x,hx⟩:∃ x,Ps[i]?=some x:=⟨_,SD (by omega)⟩
  obtain⟨y,hy⟩:∃ y,hs[i]?=some y:=⟨_,SD (by omega)⟩
  obtain⟨hyn,hyv,_⟩:=hrw.2 i y x hy hx;have hft:=Ji hx;have hfl:=kD Ps (i+1);have hfl2:(Ps.take i).flatten.length+x.length≤1500000:=by have h:=congrArg Tf hft;rw[SE] at h;omega
  refine Gz 11 ?_;refine cL (OO xT rfl rfl hq.vw.non (by have e:oB.length=6:=rfl;omega)) ?_;refine cL (OR vN rfl (hq.vw.gz 0 i rfl (by show i<6;exact hi6))) ?_;refine Gz 3 ?_;refine aW [(5,_),(11,_),(12,_),(13,_),(14,_),(15,_),(96,_),(97,_),(98,_),(99,_)] ?_;refine Gz 6 ?_;refine cL (OO sD rfl rfl (fun _=>by simp) (by omega)) ?_;refine cL (OQ (u:=.slice y.a x.length y.c) (OR aO rfl (hp.vw.get i y hy)) (by rw[←hyn];rfl)) ?_;refine O5 cR aN rfl rfl hoo hyv (by simp only[SE,Tn];omega) (by simp only[SE,Tn];unfold maxLen;omega) rfl ?_;intro o28 c28 w28 ho28 hf28 hr28 hn28;have eL:S7 64 (0:UInt8)++(Ps.take i).flatten++x=S7 64 0++(Ps.take (i+1)).flatten:=by rw[hft,Tc]
  rw[eL] at ho28 ⊢;have hz28:=hf28.size;have kd:∀ k,k<w26.heap.size→k≠w17.heap.size→¬ blk oo k:=fun k h1 h2 h3=>by rcases hob k h3 with h|h;exact h2 h;omega
  have hS28:=hf28.obj hS (kd gS (by omega) (by omega));have hp28:=hp.Sy hf28 (fun z hz=>by cases hz;exact kd w24.heap.size (by omega) (by omega));have hq28:=hq.Sy hf28 (fun z hz=>by cases hz;exact kd w25.heap.size (by omega) (by omega));have hrw28:=hrw.Sy hf28 (fun k hk=>kd k (by omega) (by omega));have hN28:aA nob W w28:=hN.St hf28 (fun k h=>.inr (by rcases hob k h with h|h;omega;have:=hN26.size;omega));have hob28:∀ k,blk o28 k→k=w17.heap.size∨w26.heap.size≤k:=fun k ⟨z,hz,e⟩=>by
   rcases hr28 z hz with h|h
   ·exact hob k ⟨z,h,e⟩
   ·exact .inr (by omega)
  refine Gz 6 ?_;refine cL (OQ (u:=iV (64+((Ps.take (i+1)).flatten.length:Nat))) (QB aN rfl) (by rw[SE,Tn];rfl)) ?_;refine Gz 1 ?_;refine O0 aJ rfl rfl rfl hS28 (by have:=JU hi6;rw[Nat.blt_eq];exact this) ?_;intro w29 hS29 hs29 hf29;have hS29:w29.heap[gS]?=some (.cells (cJ (ffB F0 Ps (i+1))).toArray 44 (0,0)):=by rw[show ffB F0 Ps (i+1)=upd (ffB F0 Ps i) (oB.getD i 0) (64+((Ps.take (i+1)).flatten.length:Nat)) from rfl,←zU _ (JU hi6)];exact hS29
  have hf29:aA (· = gS) w28 w29:=hf29;have hs29b:w29.heap.size=w28.heap.size:=hs29;refine Gz 7 ?_;exact aG ⟨i+1,⟨o28,c28⟩⟩ ⟨by omega,ho28.Sy hf29 (fun z hz h=>by have h:z.block=gS:=h;rcases hob28 _ ⟨z,hz,h⟩ with h2|h2<;>omega),hob28,hS29,hp28.Sy hf29 (fun z hz h=>by cases hz;have h:w24.heap.size=gS:=h;omega),hq28.Sy hf29 (fun z hz h=>by cases hz;have h:w25.heap.size=gS:=h;omega),hrw28.Sy hf29 (fun k hk h=>by have h:k=gS:=h;omega),hf29.obj (hf28.obj ht27 (kd tp (by omega) (by omega))) (show ¬ tp=gS by omega),by omega,hN28.tw hf29⟩ (by show 6-(i+1)<6-i;omega)
 have hi6:i=6:=by omega
 subst hi6;refine Gz 13 ?_;have hfin:Ps.flatten=eX (aF qs ids) ids:=by rw[ePs,mI,eAll]
 have htk6:Ps.take 6=Ps:=SV (by omega);have eT:(Ps.take 6).flatten=eX (aF qs ids) ids:=by rw[htk6,hfin]
 have hff:cJ (ffB F0 Ps 6)=cJ (fL qs ids (aF qs ids)):=by rw[ePs,eAll];exact Jn _ qs ids F0 hF0
 rw[hff] at hS;refine cL (OQ (u:=iV (64+((eX (aF qs ids) ids).length:Int))) (OR aJ rfl (aD (i:=0) hS rfl)) rfl) ?_;refine fK 0 ?_ ?_<;>intro h116
 ·have hib:tJ qs ids=([],3):=by unfold tJ;rw[SB h116]
  refine Gz 1 ?_;refine aW [(5,_),(11,_),(12,_),(13,_),(96,_),(97,_),(98,_),(99,_),(116,_)] ?_;refine Gz 11 ?_;refine⟨_,rfl,.inr ⟨hz,ids,none,0,hIds.nds hqs,?_,?_,RQ,hN⟩⟩
  ·rw[←nY hqs ids,hib];rfl
  ·rw[←nY hqs ids,hib];exact RS
 have M:ImB qs ids:=⟨G,hIds,by omega⟩
 refine Gz 1 ?_;refine aW [(5,_),(11,_),(12,_),(13,_),(96,_),(97,_),(98,_),(99,_),(116,_)] ?_;refine Gz 6 ?_;refine cL (O2 (cs:=cJ (fL qs ids (aF qs ids))) dF rfl (bF hS 0 rfl)) ?_;refine cA 0 Ov (Fp tp (fL qs ids (aF qs ids)) w27 ht27) ?_;rintro _ w31 ⟨o31,c31,rfl,ho31,hfr31,hf31⟩;have ep:hO (fL qs ids (aF qs ids))=(suB (fL qs ids (aF qs ids)),0):=SB M.may;rw[ep] at ho31 ⊢;have hsl:=qZ (fL qs ids (aF qs ids));obtain⟨b31,rfl⟩:∃ b,o31=some b:=by
  cases o31 with
 |none=>exact absurd rfl (ho31.vw.non (by rw[show ((suB (fL qs ids (aF qs ids)),(0:Int)):By×Int).1=suB (fL qs ids (aF qs ids)) from rfl,hsl];decide))
 |some b=>exact⟨b,rfl⟩
 have hoo31:=hoo.Sw hf31;obtain⟨bb,rfl⟩:∃ b,oo=some (⟨b,0,none⟩:Addr):=by
  rcases hoo31 with⟨_,_,h⟩|⟨x,_,h,_⟩
  · have h:=congrArg Tf h
    rw[SE,Tn,S9] at h;omega
  ·exact⟨x,h⟩
 refine Gz 11 ?_;refine Rj cR aN (b:=b31) (ys:=suB (fL qs ids (aF qs ids))) rfl rfl hoo31 ho31.vw (by rw[hsl,SE,Tn];omega) rfl ?_;intro w32 ho32 hs32 hf32;refine Gz 12 ?_;have hbW:W.heap.size≤bb:=by rcases hob bb ⟨_,rfl,rfl⟩ with h|h<;>omega
 have efin:suB (fL qs ids (aF qs ids))++(S7 64 (0:UInt8)++(Ps.take 6).flatten).drop (suB (fL qs ids (aF qs ids))).length=imB qs ids:=by rw[hsl,eT,List.drop_left' Tn];rfl
 have elen:(S7 64 (0:UInt8)++(Ps.take 6).flatten).length=(imB qs ids).length:=by unfold imB;rw[eT,SE,SE,Tn,hsl]
 refine⟨_,rfl,.inr ⟨hz,ids,some ⟨bb,0,none⟩,oc,hIds.nds hqs,?_,?_,fun z hz=>by cases hz;exact hbW,(hN.trans hf31).tw hf32⟩⟩
 · rw[←nY hqs ids,M.img]
   show _=Value.tuple #[.slice _ (imB qs ids).length oc,iV 0];rw[←elen]
 · rw[←nY hqs ids,M.img]
   show Own b8 5 w32.heap (some ⟨bb,0,none⟩) oc (imB qs ids);rw[←efin];exact ho32
end
section
open Go Go.RowKit Go.Maps
def JV(n:Nd):Nd:={ n with names:=n.names.take 18,data:=n.data.take 1500,xs:=n.xs.take 10 }
def bD(p:NdH×Nd):NdH×Nd:=(⟨fB p.1.names 18,fB p.1.data 1500,fB p.1.xs 10⟩,JV p.2)
def qC(ps:List (NdH×Nd)):List (NdH×Nd):=(ps.take 40).map bD
variable {D:Nat→Prop}
theorem NdV.mfew{H:Array Obj}{p:NdH×Nd}(v:NdV D H p):NdV D H (bD p):=⟨v.1.cut 18,v.2.1.cut 1500,v.2.2.cut 10⟩
theorem smN.mfew{n:Nd}(h:smN n):smN (JV n):=⟨h.1,fun s hs=>h.2.1 s (Tx hs),fun x hx=>h.2.2 x (Tx hx)⟩
theorem Gl(ps:List (NdH×Nd)):(qC ps).length≤40:=by unfold qC;rw[SX,SL];omega
theorem kR{ps:List (NdH×Nd)}{i:Nat}{p:NdH×Nd}(hp:ps[i]?=some p):(ps.take (i+1)).map bD=(ps.take i).map bD++[bD p]:=by rw[tkL hp];simp
theorem IS(lo:Option Addr)(lc:Nat)(ps:List (NdH×Nd))(W:World)(hv:aU D W.heap lo lc ps) :
 CA 9 [.slice lo ps.length lc] W fun v w'=>∃ o c,v=.slice o (qC ps).length c∧bJ 10 aE 37 w'.heap o c (qC ps)∧Fr W.heap.size o∧aA nob W w'∧aU D w'.heap o c (qC ps):=by
 have h63:=hv.1.Sv;refine cS 50 [(0,_)] Tryz.func9 ?_;refine Gz 7 ?_;refine PP aB bR rfl ?_;intro w1 ho1 hs1 hf1;refine Gz 10 ?_;refine OU (β:=Nat×Option Addr×Nat) (fun⟨i,o,c⟩=>[(0,.slice lo ps.length lc),(3,.slice o ((ps.take i).map bD).length c),(4,iV i)]) (fun⟨i,o,c⟩ w=>i≤ps.length∧i≤40∧bJ 10 aE 37 w.heap o c ((ps.take i).map bD)∧Fr W.heap.size o∧aA nob W w) (fun⟨i,o,c⟩=>ps.length-i) ⟨0,some ⟨W.heap.size,0,none⟩,0⟩ ⟨rfl,rfl,rfl,trivial⟩ ⟨SQ _,SQ _,ho1,fun a ha=>by cases ha;exact SI _,hf1⟩ ?_;rintro⟨i,o,c⟩ w2 ⟨hi,hi60,ho2,hfo,hF2⟩;refine fK 6 ?_ ?_<;>intro h10
 ·refine fW 2 ?_ ?_<;>intro h13
  ·have hil:i<ps.length:=by omega
   obtain⟨p,hp⟩:∃ p,ps[i]?=some p:=⟨_,SD hil⟩
   have hpm:=SM hp;have hv2:=hv.Sw hF2;refine Gz 2 ?_;refine aW [(0,_),(3,_),(4,_),(14,_)] ?_;refine Gz 10 ?_;refine cL (OV bR rfl rfl hv2.1.non (by omega)) ?_;refine cL (O2 (cs:=aE p) aT rfl (fun j v hj=>hv2.1.rowZ i rfl hp j v hj)) ?_;refine OS eW rfl ?_;intro w3 hg3 hs3 hf3;obtain⟨q,hq⟩:∃ q,q=w2.heap.size:=⟨_,rfl⟩
   rw[←hq] at hg3 ⊢;have hqW:W.heap.size≤q:=by rw[hq];exact hF2.size
   refine O1 (vs:=aE p) aT rfl rfl (aB p).2 hg3 rfl ?_;intro w4 hg4 hs4 hf4;have hf24:aA nob w2 w4:=hf3.St hf4 (fun k e=>.inr (by have e:k=q:=e;omega));have hF4:aA nob W w4:=hF2.trans hf24;have hn4:=(hv.Sw hF4).2 p hpm;have ho4:=ho2.Sw hf24;have hoq:∀ a,o=some a→¬ a.block=q:=fun a ha=>by have:=ho2.lt a ha;omega
   refine fK 8 ?_ ?_<;>intro h24
   ·refine Gz 6 ?_;refine cL (OQ (u:=hd ⟨p.1.names.a,18,p.1.names.c⟩) (Pa nA rfl rfl (by have:=hn4.1.2.1.le;have:=hn4.1.1;omega)) (by rw[aP];rfl)) ?_;refine Gz 1 ?_;refine O0 kP rfl rfl rfl hg4 rfl ?_;intro w5 hg5 hs5 hf5;have hgA:w5.heap[q]?=some (.cells (aE ((⟨fB p.1.names 18,p.1.data,p.1.xs⟩:NdH),p.2)).toArray 37 (0,0)):=by rw[cX (by omega)];exact hg5
    have hF5:aA nob W w5:=hF4.St hf5 (fun k e=>.inr (by have e:k=q:=e;omega));have ho5:=ho4.Sy hf5 hoq;refine Gz 6 ?_;have hn5:=(hv.Sw hF5).2 p hpm;refine cL (OQ (u:=hd p.1.data) (OR aO rfl (aD hgA rfl)) rfl) ?_;refine fK 1 ?_ ?_<;>intro h32
    ·refine Gz 5 ?_;refine cL (OQ (u:=hd p.1.data) (OR aO rfl (aD hgA rfl)) rfl) ?_;refine cL (OQ (u:=hd ⟨p.1.data.a,1500,p.1.data.c⟩) (Pa aN rfl rfl (by have:=hn5.2.1.2.1.le;have:=hn5.2.1.1;omega)) (by rw[aP];rfl)) ?_;refine Gz 1 ?_;refine O0 aO rfl rfl rfl hgA rfl ?_;intro w6 hg6 hs6 hf6;have hgB:w6.heap[q]?=some (.cells (aE ((⟨fB p.1.names 18,fB p.1.data 1500,p.1.xs⟩:NdH),p.2)).toArray 37 (0,0)):=by rw[cX (n:=1500) (by omega)];exact hg6
     have hF6:aA nob W w6:=hF5.St hf6 (fun k e=>.inr (by have e:k=q:=e;omega));have ho6:=ho5.Sy hf6 hoq;refine Gz 6 ?_;have hn6:=(hv.Sw hF6).2 p hpm;refine cL (OQ (u:=hd p.1.xs) (OR cN rfl (aD hgB rfl)) rfl) ?_;refine fK 1 ?_ ?_<;>intro h40
     ·refine Gz 5 ?_;refine cL (OQ (u:=hd p.1.xs) (OR cN rfl (aD hgB rfl)) rfl) ?_;refine cL (OQ (u:=hd ⟨p.1.xs.a,10,p.1.xs.c⟩) (Pa kO rfl rfl (by obtain⟨k1,ys,k2,k3,_⟩:=hn6.2.2;have:=k2.le;omega)) (by rw[aP];rfl)) ?_;refine Gz 1 ?_;refine O0 cN rfl rfl rfl hgB rfl ?_;intro w7 hg7 hs7 hf7;have hgC:w7.heap[q]?=some (.cells (aE (bD p)).toArray 37 (0,0)):=by unfold bD;rw[cX (n:=10) (by omega)];exact hg7
      have hF7:aA nob W w7:=hF6.St hf7 (fun k e=>.inr (by have e:k=q:=e;omega));have ho7:=ho6.Sy hf7 hoq;refine Gz 4 ?_;refine cL (O2 (cs:=aE (bD p)) aT rfl (bF hgC 0 rfl)) ?_;obtain⟨y,hy⟩:∃ y,y=bD p:=⟨_,rfl⟩
      rw[←hy];refine Pg bR (cs:=(aE y).toArray) eW rfl rfl rfl (by kernel_rfl) rfl ?_;intro w8 hg8 hs8 hf8;have ho8:bJ 10 aE 37 w8.heap (some ⟨w7.heap.size,0,none⟩) 1 [y]:=bW (xs:=[y]) aB (by simpa using hg8) (by show 1≤maxLen;decide);refine O9 aB rfl bR rfl rfl (ho7.Sw hf8) (ho8.vw aB) (by simp only[SO,SX,SL];omega) (by simp only[SO,SX,SL];unfold maxLen;omega) rfl ?_;intro o9 c9 w9 ho9 hf9 hr9 hn9;rw[hy,←kR hp] at ho9 ⊢;have hF9:aA nob W w9:=(hF7.trans hf8).St hf9 hfo.step;have hfo9:Fr W.heap.size o9:=dE hfo hr9 (by have:=hF7.size;have:=hf8.size;omega);refine Gz 9 ?_;exact aG ⟨i+1,o9,c9⟩ ⟨by omega,by omega,ho9,hfo9,hF9⟩ (by show ps.length-(i+1)<ps.length-i;omega)
     have hgC:w6.heap[q]?=some (.cells (aE (bD p)).toArray 37 (0,0)):=by unfold bD;rw[dX (n:=10) (by omega)];exact hgB
     have hF7:=hF6;have ho7:=ho6
     rename World=>w7
     refine Gz 7 ?_;refine cL (O2 (cs:=aE (bD p)) aT rfl (bF hgC 0 rfl)) ?_;obtain⟨y,hy⟩:∃ y,y=bD p:=⟨_,rfl⟩
     rw[←hy];refine Pg bR (cs:=(aE y).toArray) eW rfl rfl rfl (by kernel_rfl) rfl ?_;intro w8 hg8 hs8 hf8;have ho8:bJ 10 aE 37 w8.heap (some ⟨w7.heap.size,0,none⟩) 1 [y]:=bW (xs:=[y]) aB (by simpa using hg8) (by show 1≤maxLen;decide);refine O9 aB rfl bR rfl rfl (ho7.Sw hf8) (ho8.vw aB) (by simp only[SO,SX,SL];omega) (by simp only[SO,SX,SL];unfold maxLen;omega) rfl ?_;intro o9 c9 w9 ho9 hf9 hr9 hn9;rw[hy,←kR hp] at ho9 ⊢;have hF9:aA nob W w9:=(hF7.trans hf8).St hf9 hfo.step;have hfo9:Fr W.heap.size o9:=dE hfo hr9 (by have:=hF7.size;have:=hf8.size;omega);refine Gz 9 ?_;exact aG ⟨i+1,o9,c9⟩ ⟨by omega,by omega,ho9,hfo9,hF9⟩ (by show ps.length-(i+1)<ps.length-i;omega)
    have hgB:w5.heap[q]?=some (.cells (aE ((⟨fB p.1.names 18,fB p.1.data 1500,p.1.xs⟩:NdH),p.2)).toArray 37 (0,0)):=by rw[dX (n:=1500) (by omega)];exact hgA
    have hF6:=hF5;have ho6:=ho5
    rename World=>w6
    refine Gz 9 ?_;have hn6:=(hv.Sw hF6).2 p hpm;refine cL (OQ (u:=hd p.1.xs) (OR cN rfl (aD hgB rfl)) rfl) ?_;refine fK 1 ?_ ?_<;>intro h40
    ·refine Gz 5 ?_;refine cL (OQ (u:=hd p.1.xs) (OR cN rfl (aD hgB rfl)) rfl) ?_;refine cL (OQ (u:=hd ⟨p.1.xs.a,10,p.1.xs.c⟩) (Pa kO rfl rfl (by obtain⟨k1,ys,k2,k3,_⟩:=hn6.2.2;have:=k2.le;omega)) (by rw[aP];rfl)) ?_;refine Gz 1 ?_;refine O0 cN rfl rfl rfl hgB rfl ?_;intro w7 hg7 hs7 hf7;have hgC:w7.heap[q]?=some (.cells (aE (bD p)).toArray 37 (0,0)):=by unfold bD;rw[cX (n:=10) (by omega)];exact hg7
     have hF7:aA nob W w7:=hF6.St hf7 (fun k e=>.inr (by have e:k=q:=e;omega));have ho7:=ho6.Sy hf7 hoq;refine Gz 4 ?_;refine cL (O2 (cs:=aE (bD p)) aT rfl (bF hgC 0 rfl)) ?_;obtain⟨y,hy⟩:∃ y,y=bD p:=⟨_,rfl⟩
     rw[←hy];refine Pg bR (cs:=(aE y).toArray) eW rfl rfl rfl (by kernel_rfl) rfl ?_;intro w8 hg8 hs8 hf8;have ho8:bJ 10 aE 37 w8.heap (some ⟨w7.heap.size,0,none⟩) 1 [y]:=bW (xs:=[y]) aB (by simpa using hg8) (by show 1≤maxLen;decide);refine O9 aB rfl bR rfl rfl (ho7.Sw hf8) (ho8.vw aB) (by simp only[SO,SX,SL];omega) (by simp only[SO,SX,SL];unfold maxLen;omega) rfl ?_;intro o9 c9 w9 ho9 hf9 hr9 hn9;rw[hy,←kR hp] at ho9 ⊢;have hF9:aA nob W w9:=(hF7.trans hf8).St hf9 hfo.step;have hfo9:Fr W.heap.size o9:=dE hfo hr9 (by have:=hF7.size;have:=hf8.size;omega);refine Gz 9 ?_;exact aG ⟨i+1,o9,c9⟩ ⟨by omega,by omega,ho9,hfo9,hF9⟩ (by show ps.length-(i+1)<ps.length-i;omega)
    have hgC:w6.heap[q]?=some (.cells (aE (bD p)).toArray 37 (0,0)):=by unfold bD;rw[dX (n:=10) (by omega)];exact hgB
    have hF7:=hF6;have ho7:=ho6
    rename World=>w7
    refine Gz 7 ?_;refine cL (O2 (cs:=aE (bD p)) aT rfl (bF hgC 0 rfl)) ?_;obtain⟨y,hy⟩:∃ y,y=bD p:=⟨_,rfl⟩
    rw[←hy];refine Pg bR (cs:=(aE y).toArray) eW rfl rfl rfl (by kernel_rfl) rfl ?_;intro w8 hg8 hs8 hf8;have ho8:bJ 10 aE 37 w8.heap (some ⟨w7.heap.size,0,none⟩) 1 [y]:=bW (xs:=[y]) aB (by simpa using hg8) (by show 1≤maxLen;decide);refine O9 aB rfl bR rfl rfl (ho7.Sw hf8) (ho8.vw aB) (by simp only[SO,SX,SL];omega) (by simp only[SO,SX,SL];unfold maxLen;omega) rfl ?_;intro o9 c9 w9 ho9 hf9 hr9 hn9;rw[hy,←kR hp] at ho9 ⊢;have hF9:aA nob W w9:=(hF7.trans hf8).St hf9 hfo.step;have hfo9:Fr W.heap.size o9:=dE hfo hr9 (by have:=hF7.size;have:=hf8.size;omega);refine Gz 9 ?_;exact aG ⟨i+1,o9,c9⟩ ⟨by omega,by omega,ho9,hfo9,hF9⟩ (by show ps.length-(i+1)<ps.length-i;omega)
   have hgA:w4.heap[q]?=some (.cells (aE ((⟨fB p.1.names 18,p.1.data,p.1.xs⟩:NdH),p.2)).toArray 37 (0,0)):=by rw[dX (by omega)];exact hg4
   have hF5:=hF4;have ho5:=ho4
   rename World=>w5
   refine Gz 9 ?_;have hn5:=(hv.Sw hF5).2 p hpm;refine cL (OQ (u:=hd p.1.data) (OR aO rfl (aD hgA rfl)) rfl) ?_;refine fK 1 ?_ ?_<;>intro h32
   ·refine Gz 5 ?_;refine cL (OQ (u:=hd p.1.data) (OR aO rfl (aD hgA rfl)) rfl) ?_;refine cL (OQ (u:=hd ⟨p.1.data.a,1500,p.1.data.c⟩) (Pa aN rfl rfl (by have:=hn5.2.1.2.1.le;have:=hn5.2.1.1;omega)) (by rw[aP];rfl)) ?_;refine Gz 1 ?_;refine O0 aO rfl rfl rfl hgA rfl ?_;intro w6 hg6 hs6 hf6;have hgB:w6.heap[q]?=some (.cells (aE ((⟨fB p.1.names 18,fB p.1.data 1500,p.1.xs⟩:NdH),p.2)).toArray 37 (0,0)):=by rw[cX (n:=1500) (by omega)];exact hg6
    have hF6:aA nob W w6:=hF5.St hf6 (fun k e=>.inr (by have e:k=q:=e;omega));have ho6:=ho5.Sy hf6 hoq;refine Gz 6 ?_;have hn6:=(hv.Sw hF6).2 p hpm;refine cL (OQ (u:=hd p.1.xs) (OR cN rfl (aD hgB rfl)) rfl) ?_;refine fK 1 ?_ ?_<;>intro h40
    ·refine Gz 5 ?_;refine cL (OQ (u:=hd p.1.xs) (OR cN rfl (aD hgB rfl)) rfl) ?_;refine cL (OQ (u:=hd ⟨p.1.xs.a,10,p.1.xs.c⟩) (Pa kO rfl rfl (by obtain⟨k1,ys,k2,k3,_⟩:=hn6.2.2;have:=k2.le;omega)) (by rw[aP];rfl)) ?_;refine Gz 1 ?_;refine O0 cN rfl rfl rfl hgB rfl ?_;intro w7 hg7 hs7 hf7;have hgC:w7.heap[q]?=some (.cells (aE (bD p)).toArray 37 (0,0)):=by unfold bD;rw[cX (n:=10) (by omega)];exact hg7
     have hF7:aA nob W w7:=hF6.St hf7 (fun k e=>.inr (by have e:k=q:=e;omega));have ho7:=ho6.Sy hf7 hoq;refine Gz 4 ?_;refine cL (O2 (cs:=aE (bD p)) aT rfl (bF hgC 0 rfl)) ?_;obtain⟨y,hy⟩:∃ y,y=bD p:=⟨_,rfl⟩
     rw[←hy];refine Pg bR (cs:=(aE y).toArray) eW rfl rfl rfl (by kernel_rfl) rfl ?_;intro w8 hg8 hs8 hf8;have ho8:bJ 10 aE 37 w8.heap (some ⟨w7.heap.size,0,none⟩) 1 [y]:=bW (xs:=[y]) aB (by simpa using hg8) (by show 1≤maxLen;decide);refine O9 aB rfl bR rfl rfl (ho7.Sw hf8) (ho8.vw aB) (by simp only[SO,SX,SL];omega) (by simp only[SO,SX,SL];unfold maxLen;omega) rfl ?_;intro o9 c9 w9 ho9 hf9 hr9 hn9;rw[hy,←kR hp] at ho9 ⊢;have hF9:aA nob W w9:=(hF7.trans hf8).St hf9 hfo.step;have hfo9:Fr W.heap.size o9:=dE hfo hr9 (by have:=hF7.size;have:=hf8.size;omega);refine Gz 9 ?_;exact aG ⟨i+1,o9,c9⟩ ⟨by omega,by omega,ho9,hfo9,hF9⟩ (by show ps.length-(i+1)<ps.length-i;omega)
    have hgC:w6.heap[q]?=some (.cells (aE (bD p)).toArray 37 (0,0)):=by unfold bD;rw[dX (n:=10) (by omega)];exact hgB
    have hF7:=hF6;have ho7:=ho6
    rename World=>w7
    refine Gz 7 ?_;refine cL (O2 (cs:=aE (bD p)) aT rfl (bF hgC 0 rfl)) ?_;obtain⟨y,hy⟩:∃ y,y=bD p:=⟨_,rfl⟩
    rw[←hy];refine Pg bR (cs:=(aE y).toArray) eW rfl rfl rfl (by kernel_rfl) rfl ?_;intro w8 hg8 hs8 hf8;have ho8:bJ 10 aE 37 w8.heap (some ⟨w7.heap.size,0,none⟩) 1 [y]:=bW (xs:=[y]) aB (by simpa using hg8) (by show 1≤maxLen;decide);refine O9 aB rfl bR rfl rfl (ho7.Sw hf8) (ho8.vw aB) (by simp only[SO,SX,SL];omega) (by simp only[SO,SX,SL];unfold maxLen;omega) rfl ?_;intro o9 c9 w9 ho9 hf9 hr9 hn9;rw[hy,←kR hp] at ho9 ⊢;have hF9:aA nob W w9:=(hF7.trans hf8).St hf9 hfo.step;have hfo9:Fr W.heap.size o9:=dE hfo hr9 (by have:=hF7.size;have:=hf8.size;omega);refine Gz 9 ?_;exact aG ⟨i+1,o9,c9⟩ ⟨by omega,by omega,ho9,hfo9,hF9⟩ (by show ps.length-(i+1)<ps.length-i;omega)
   have hgB:w5.heap[q]?=some (.cells (aE ((⟨fB p.1.names 18,fB p.1.data 1500,p.1.xs⟩:NdH),p.2)).toArray 37 (0,0)):=by rw[dX (n:=1500) (by omega)];exact hgA
   have hF6:=hF5;have ho6:=ho5
   rename World=>w6
   refine Gz 9 ?_;have hn6:=(hv.Sw hF6).2 p hpm;refine cL (OQ (u:=hd p.1.xs) (OR cN rfl (aD hgB rfl)) rfl) ?_;refine fK 1 ?_ ?_<;>intro h40
   ·refine Gz 5 ?_;refine cL (OQ (u:=hd p.1.xs) (OR cN rfl (aD hgB rfl)) rfl) ?_;refine cL (OQ (u:=hd ⟨p.1.xs.a,10,p.1.xs.c⟩) (Pa kO rfl rfl (by obtain⟨k1,ys,k2,k3,_⟩:=hn6.2.2;have:=k2.le;omega)) (by rw[aP];rfl)) ?_;refine Gz 1 ?_;refine O0 cN rfl rfl rfl hgB rfl ?_;intro w7 hg7 hs7 hf7;have hgC:w7.heap[q]?=some (.cells (aE (bD p)).toArray 37 (0,0)):=by unfold bD;rw[cX (n:=10) (by omega)];exact hg7
    have hF7:aA nob W w7:=hF6.St hf7 (fun k e=>.inr (by have e:k=q:=e;omega));have ho7:=ho6.Sy hf7 hoq;refine Gz 4 ?_;refine cL (O2 (cs:=aE (bD p)) aT rfl (bF hgC 0 rfl)) ?_;obtain⟨y,hy⟩:∃ y,y=bD p:=⟨_,rfl⟩
    rw[←hy];refine Pg bR (cs:=(aE y).toArray) eW rfl rfl rfl (by kernel_rfl) rfl ?_;intro w8 hg8 hs8 hf8;have ho8:bJ 10 aE 37 w8.heap (some ⟨w7.heap.size,0,none⟩) 1 [y]:=bW (xs:=[y]) aB (by simpa using hg8) (by show 1≤maxLen;decide);refine O9 aB rfl bR rfl rfl (ho7.Sw hf8) (ho8.vw aB) (by simp only[SO,SX,SL];omega) (by simp only[SO,SX,SL];unfold maxLen;omega) rfl ?_;intro o9 c9 w9 ho9 hf9 hr9 hn9;rw[hy,←kR hp] at ho9 ⊢;have hF9:aA nob W w9:=(hF7.trans hf8).St hf9 hfo.step;have hfo9:Fr W.heap.size o9:=dE hfo hr9 (by have:=hF7.size;have:=hf8.size;omega);refine Gz 9 ?_;exact aG ⟨i+1,o9,c9⟩ ⟨by omega,by omega,ho9,hfo9,hF9⟩ (by show ps.length-(i+1)<ps.length-i;omega)
   have hgC:w6.heap[q]?=some (.cells (aE (bD p)).toArray 37 (0,0)):=by unfold bD;rw[dX (n:=10) (by omega)];exact hgB
   have hF7:=hF6;have ho7:=ho6
   rename World=>w7
   refine Gz 7 ?_;refine cL (O2 (cs:=aE (bD p)) aT rfl (bF hgC 0 rfl)) ?_;obtain⟨y,hy⟩:∃ y,y=bD p:=⟨_,rfl⟩
   rw[←hy];refine Pg bR (cs:=(aE y).toArray) eW rfl rfl rfl (by kernel_rfl) rfl ?_;intro w8 hg8 hs8 hf8;have ho8:bJ 10 aE 37 w8.heap (some ⟨w7.heap.size,0,none⟩) 1 [y]:=bW (xs:=[y]) aB (by simpa using hg8) (by show 1≤maxLen;decide);refine O9 aB rfl bR rfl rfl (ho7.Sw hf8) (ho8.vw aB) (by simp only[SO,SX,SL];omega) (by simp only[SO,SX,SL];unfold maxLen;omega) rfl ?_;intro o9 c9 w9 ho9 hf9 hr9 hn9;rw[hy,←kR hp] at ho9 ⊢;have hF9:aA nob W w9:=(hF7.trans hf8).St hf9 hfo.step;have hfo9:Fr W.heap.size o9:=dE hfo hr9 (by have:=hF7.size;have:=hf8.size;omega);refine Gz 9 ?_;exact aG ⟨i+1,o9,c9⟩ ⟨by omega,by omega,ho9,hfo9,hF9⟩ (by show ps.length-(i+1)<ps.length-i;omega)
  refine Gz 2 ?_;refine aW [(0,_),(3,_),(4,_),(14,_)] ?_;refine Gz 15 ?_;have e:ps.take i=ps.take 40:=by
   by_cases k:i=40
   ·rw[k]
   ·rw[SV (by omega),SV (by omega)]
  rw[e] at ho2 ⊢;refine⟨_,rfl,o,c,rfl,ho2,hfo,hF2,ho2.vw aB,fun p hp=>?_⟩;obtain⟨r,hr,rfl⟩:=S6.1 hp;exact((hv.Sw hF2).2 r (Tx hr)).mfew
 refine Gz 5 ?_;refine aW [(0,_),(3,_),(4,_),(14,_)] ?_;refine Gz 15 ?_;have e:ps.take i=ps.take 40:=by
  by_cases k:i=40
  ·rw[k]
  ·rw[SV (by omega),SV (by omega)]
 rw[e] at ho2 ⊢;refine⟨_,rfl,o,c,rfl,ho2,hfo,hF2,ho2.vw aB,fun p hp=>?_⟩;obtain⟨r,hr,rfl⟩:=S6.1 hp;exact((hv.Sw hF2).2 r (Tx hr)).mfew
theorem DT{qs:List (NdH×Nd)}{ids:List Int}(G:GdT qs)(I:kZ qs ids)(h1:qs.length≤3):64+((eX (aF qs ids) ids).length:Int)≤1048576:=by
 have F:=yT (qs:=qs) (fun q hq=>⟨G.ino q hq,(G.may q hq).2.2.2.2.2.2.1⟩);obtain⟨S,e,hI,hB,_⟩:=lR G I F;have e:(aF qs ids).s=S:=e;have hA:=DF G I;have hm:S.many≤4:=by
  have h1:=List.length_filter_le (fun r:Int=>decide (0<r)) S.refs;rw[hI.many];unfold qO;rw[hI.rl] at h1;omega
 have h2:=hI.bi;have h3:S.lst.length≤10440*S.many:=hB;have h4:=hI.bf;have hT:=F.tn;have hFB:=F.b;rw[SX] at hT hFB;have hb:=Fk F.t (aS qs).ds;have n4:=hA.n4;have n2:=hA.n2;have d1:=mD (aF qs ids).s.ino;have d2:=mD (aF qs ids).s.lst;have d3:=mD (aI (aF qs ids).pl 4).1;have d4:=mD (aI ids 2).1;have d5:=mD (aF qs ids).s.fur;rw[e] at d1 d2 d5;have l1:(eZ (aF qs ids)).length=(dN (aS qs).tails (aS qs).ds).1.B.length:=rfl;have l2:(eY (aF qs ids)).length=(eZ (aF qs ids)).length+(dnW (aF qs ids).s.ino).length:=SE;have l3:(fP (aF qs ids)).length=(eY (aF qs ids)).length+(dnW (aF qs ids).s.lst).length:=SE;have l4:(gD (aF qs ids)).length=(fP (aF qs ids)).length+(dnW (aI (aF qs ids).pl 4).1).length:=SE;have l5:(iC (aF qs ids) ids).length=(gD (aF qs ids)).length+(dnW (aI ids 2).1).length:=SE;have l6:(eX (aF qs ids) ids).length=(iC (aF qs ids) ids).length+(dnW (aF qs ids).s.fur).length:=SE;rw[e] at l2 l3 l6;omega
theorem Ir{D:Nat→Prop}(H:Array Obj):NdV D H bB:=
 ⟨⟨rfl,RR 0 (SQ _),fun h=>absurd rfl h⟩,⟨rfl,RR 0 (SQ _),fun h=>absurd rfl h⟩,⟨rfl,[],⟨SQ _,SQ _,fun h=>absurd rfl h,fun i x hx=>by simp at hx⟩,rfl,fun h=>absurd rfl h,fun i x y hx=>by simp at hx⟩⟩
theorem Gr{qs:List (NdH×Nd)}{ids:List Int}(M:ImB qs ids)(hall:∀ m:Nat,1≤m→m≤qs.length→∃ q∈qs,q.2.ino.toNat=m):(aF qs ids).s.many=qs.length:=by
 obtain⟨h,h2⟩:=M.st;show (stB qs ids).many=qs.length;rw[h.many];unfold qO;have hl:=h.rl;have h0:¬ 0<(stB qs ids).refs.getD 0 0:=fun hc=>by
  obtain⟨k,q,i,xr,o,hq,hi,_⟩:=h.std 0 hc;have:=M.G.ino q (SM hq);omega
 have hp:∀ m:Nat,1≤m→m≤qs.length→0<(stB qs ids).refs.getD m 0:=fun m h1 hm=>by
  obtain⟨q,hq,e⟩:=hall m h1 hm;rw[←e];exact h2 q hq
 generalize (stB qs ids).refs=L at hl h0 hp ⊢
 match L,hl with
|x::r,hl=>
   rw[List.filter_cons_of_neg (by simpa using h0),List.filter_eq_self.2 (fun z hz=>?_)]
   ·rw[S1] at hl;omega
   · obtain⟨i,hi⟩:=SZ hz
     have hil:=(SG.1 hi).1;rw[S1] at hl;have h:=hp (i+1) (by omega) (by omega);rw[SS,List.getElem?_cons_succ,hi] at h;simpa using h
theorem AY:∀ (L:List Nd) (s:FSt),(∀ x∈L,x.kind≠2)→L.foldl gE s=s
|[],_,_=>rfl
|x::r,s,h=>by
   rw[List.foldl_cons,tQ (.inl (h x (by simp)))];exact AY r s (fun y hy=>h y (by simp[hy]))
theorem GL{l:List Int}(hp:l.Pairwise (· < ·))(h:∀ z∈l,z=0):l.length≤1:=by
 match l,hp,h with
|[],_,_=>exact SQ _
|[_],_,_=>exact SI _
|a::b::_,hp,h=>
   have h1:=h a (by simp);have h2:=h b (by simp);have h3:=(List.pairwise_cons.1 hp).1 b (by simp);omega
theorem EW:fY [bB]=[bB]:=by
 unfold fY;rw[show fE [bB]=[bB] from List.mergeSort_singleton _];rfl
theorem FK{ids:List Int}(M:ImB [bB] ids):(fL [bB] ids (aF [bB] ids)) 1=1∧(fL [bB] ids (aF [bB] ids)) 7=1∧(fL [bB] ids (aF [bB] ids)) 8=0∧(fL [bB] ids (aF [bB] ids)) 2=64:=by
 have ef:aS [bB]=⟨⟨[],[]⟩,[],S7 2 bX⟩:=AY [bB.2] _ (fun x hx=>by rw[Th] at hx;subst hx;decide);have e1:=Gr M (fun m h1 hm=>⟨bB,by simp,by have:m≤1:=hm;show (1:Int).toNat=m;omega⟩);have e2:ids.length=1:=by
  have h1:=M.ids0.1;have h2:=GL M.I.1 (fun z hz=>by have h:=(M.I.2 z).1 hz;simpa[iB,bB,nd0] using h);omega
 refine⟨?_,?_,?_,?_⟩
 · show ((aF [bB] ids).s.many:Int)=1
   rw[e1];rfl
 · show (ids.length:Int)=1
   rw[e2];rfl
 · show (((dN (aS [bB]).tails (aS [bB]).ds).2.length:Nat):Int)=0
   rw[ef];rfl
 · show 64+(((dN (aS [bB]).tails (aS [bB]).ds).1.B.length:Nat):Int)=64
   rw[ef];rfl
theorem EX(W:World):Calls Tryz.prog 8 #[] W (Ret fun v w'=>v=.bool true∧aA nob W w'):=by
 refine cS 44 [] Tryz.func8 ?_;refine Gz 7 ?_;refine cL (bU (aE bB) LC eW) ?_;refine Pg bR (cs:=(aE bB).toArray) eW rfl rfl rfl (by kernel_rfl) rfl ?_;intro w2 hg2 hs2 hf2;have ho2:bJ 10 aE 37 w2.heap (some ⟨W.heap.size,0,none⟩) 1 [bB]:=bW (xs:=[bB]) aB (by simpa using hg2) (by show 1≤maxLen;decide);refine OP K5 rfl (pB (some ⟨W.heap.size,0,none⟩) 1 [bB] w2 ⟨ho2.vw aB,by simp only[Th];rintro p rfl;exact Ir _⟩ (by simp only[Th];rintro p rfl;exact Ip) (by simp only[Th];rintro p rfl;exact Iq) (by decide)) rfl ?_;rintro _ w3 hB;obtain⟨hz,ids,o3,c3,hIds,rfl,ho3,hfr3,hf3⟩:=hB.resolve_left (fun h=>h.1 Bm);have hG:=GR Bm (by decide);rw[EW] at hG hIds ho3 ⊢;have M:ImB [bB] ids:=⟨hG,hIds,DT hG hIds (by decide)⟩
 rw[M.img] at ho3 ⊢;obtain⟨s1,s2,s3,s4⟩:=FK M;have himl:(imB [bB] ids).length≤1048576:=by unfold imB;rw[SE,qZ];have:=M.sz;omega
 obtain⟨F,hF⟩:∃ F,F=fL [bB] ids (aF [bB] ids):=⟨_,rfl⟩
 have hsp:=M.sup;rw[←hF] at hsp s1 s2 s3 s4;refine cA 9 Ms (wX w3) ?_;rintro _ w4 ⟨rfl,hf4⟩;refine OS HX rfl ?_;intro w5 hg5 hs5 hf5;refine O1 (vs:=tab) uI rfl rfl xP hg5 (by rw[qV,Tn]) ?_;intro w6 hg6 hs6 hf6;obtain⟨tp,hp⟩:∃ p,p=w4.heap.size:=⟨_,rfl⟩
 have hF6:aA nob w3 w6:=(hf4.trans hf5).St hf6 (fun k hk=>.inr (by have h:k=w4.heap.size:=hk;have:=hf4.size;omega));rw[←hp] at hg6 ⊢;have ht6:TbV w6.heap tp:=hg6;refine Gz 5 ?_;refine OP OC rfl (DQ tp o3 c3 (imB [bB] ids) w6 ht6 (ho3.Sw hF6).vw (by omega)) rfl ?_;rw[hsp];rintro _ w7 ⟨rfl,hf7⟩;refine Gz 3 ?_;refine OS qL rfl ?_;intro w8 hg8 hs8 hf8;obtain⟨b,eb⟩:∃ b,b=w7.heap.size:=⟨_,rfl⟩
 rw[←eb] at hg8 ⊢;refine sA rfl dF (by exact dR _) hg8 ?_;intro w9 hg9 hs9 hf9;have hF9:aA nob w7 w9:=hf8.tw hf9;refine Gz 6 ?_;refine cL (PC (Pw rfl rfl) rfl) ?_;refine Gz 2 ?_;refine cW (PC (Pw rfl rfl) rfl) ?_;refine Gz 3 ?_;refine cW (OR aJ rfl (aD (i:=1) hg9 rfl)) ?_;refine cW (PC (Pw rfl rfl) s1) ?_;refine Gz 3 ?_;refine cW (OR aJ rfl (aD (i:=7) hg9 rfl)) ?_;refine cW (PC (Pw rfl rfl) s2) ?_;refine Gz 3 ?_;refine cW (OR aJ rfl (aD (i:=8) hg9 rfl)) ?_;refine cW (PC (Pw rfl rfl) s3) ?_;refine Gz 3 ?_;refine cW (OR aJ rfl (aD (i:=2) hg9 rfl)) ?_;refine cW (PC (Pw rfl rfl) s4) ?_;refine Gz 6 ?_;exact⟨_,rfl,rfl,(((hf2.trans hf3).trans hF6).trans hf7).trans hF9⟩
end
section
open Go Go.RowKit Go.Maps
def HV(ps:List (NdH×Nd))(r:By×Int):Prop:=(chk (nds ps)≠0∧r=([],chk (nds ps)))∨(chk (nds ps)=0∧∃ ids,kZ (fY ps) ids∧r=tJ (fY ps) ids)
theorem HV.uniq{ps:List (NdH×Nd)}{r t:By×Int}(h:HV ps r)(k:HV ps t):r=t:=by
 rcases h with⟨h1,rfl⟩|⟨h1,i,hi,rfl⟩
 · rcases k with⟨_,rfl⟩|⟨k1,_⟩
   ·rfl
   ·exact absurd k1 h1
 · rcases k with⟨k1,_⟩|⟨_,j,hj,rfl⟩
   ·exact absurd h1 k1
   ·rw[hi.eq hj]
theorem BuP.res{W w':World}{ps:List (NdH×Nd)}{v:Value}(h:BuP W ps v w'):∃ (r:By×Int) (o:Option Addr) (c:Nat),v=.tuple #[.slice o r.1.length c,iV r.2]∧HV ps r∧Own b8 5 w'.heap o c r.1∧Fr W.heap.size o∧aA nob W w':=by
 rcases h with⟨h1,rfl,h2⟩|⟨h1,ids,o,c,h2,rfl,h3,h4,h5⟩
 ·exact⟨([],chk (nds ps)),none,0,rfl,.inl ⟨h1,rfl⟩,RS,RQ,h2⟩
 ·exact⟨_,o,c,rfl,.inr ⟨h1,ids,h2,rfl⟩,h3,h4,h5⟩
theorem aU.old{W w:World}{o:Option Addr}{c:Nat}{ps:List (NdH×Nd)}(h:aU (fun k=>k<W.heap.size) w.heap o c ps)(hs:W.heap.size≤w.heap.size):aU (fun k=>k<w.heap.size) w.heap o c ps:=⟨h.1,fun p hp=>(h.2 p hp).mono (fun k hk=>TB hk hs)⟩
theorem IE{ps:List (NdH×Nd)}(h:∀ p∈ps,okN p.2∧smN p.2):∀ p∈qC ps,okN p.2:=by
 intro p hp;obtain⟨q,hq,rfl⟩:=S6.1 hp;exact(h q (Tx hq)).1
theorem Ij{ps:List (NdH×Nd)}(h:∀ p∈ps,okN p.2∧smN p.2):∀ p∈qC ps,smN p.2:=by
 intro p hp;obtain⟨q,hq,rfl⟩:=S6.1 hp;exact(h q (Tx hq)).2.mfew
end
section
open Go Go.RowKit Go.Maps
def DH(a b:Int):Int:=IntKind.i64.wrap (((BitVec.ofInt 64 a ^^^ BitVec.ofInt 64 b).toNat:Nat):Int)
theorem Fa(z:Int):IntKind.i64.wrap z=if 9223372036854775808≤z%18446744073709551616 then z%18446744073709551616-18446744073709551616 else z%18446744073709551616:=by
 unfold IntKind.wrap;simp[IntKind.bits,IntKind.signed]
theorem E9{a b:Nat}(ha:a<2 ^ 64)(hb:b<2 ^ 64)(h:IntKind.i64.wrap (a:Int)=IntKind.i64.wrap (b:Int)):a=b:=by
 rw[Fa,Fa] at h
 split at h<;>split at h<;>omega
theorem Bx(a:Nat) : -9223372036854775808≤IntKind.i64.wrap (a:Int)∧IntKind.i64.wrap (a:Int)≤9223372036854775807:=by
 rw[Fa]
 split<;>omega
theorem Em{a b:Int}(ha : -9223372036854775808≤a∧a≤9223372036854775807)(hb : -9223372036854775808≤b∧b≤9223372036854775807)(h:BitVec.ofInt 64 a=BitVec.ofInt 64 b):a=b:=by
 have h1:=congrArg BitVec.toInt h;rw[BitVec.toInt_ofInt,BitVec.toInt_ofInt,Int.bmod_eq_of_le (by omega) (by omega),Int.bmod_eq_of_le (by omega) (by omega)] at h1;exact h1
theorem E7{a b m:Int}(ha : -9223372036854775808≤a∧a≤9223372036854775807)(hb : -9223372036854775808≤b∧b≤9223372036854775807)(h:DH a m=DH b m):a=b:=by
 have h1:=E9 (BitVec.isLt _) (BitVec.isLt _) h;have h2:=BitVec.eq_of_toNat_eq h1;refine Em ha hb ?_;have h3:=congrArg (· ^^^ BitVec.ofInt 64 m) h2;simpa[BitVec.xor_assoc] using h3
section
variable {P:Program}{N:Nt}{l:SF}{ty t':TypeId}{pos:String}{aft:Array Edge}{dd:Option Nat}{g:Option (Nat×Bool)}{CH:Array Obj→Prop}{x y:Operand}{t:TypeId}{a b:Int}
theorem RD(hx:evL l x=some (iV a))(hy:evL l y=some (iV b)):Cm P N CH l ⟨dd,.binOp .xor t x y t',ty,pos,aft,g⟩ (iV (DH a b)):=fun c w hc _=>by
 have h3:(Op.intBits .xor .i64 a b).run P w=.ok (iV (DH a b)) w:=rfl;simp[execOp,hc.ev hx,hc.ev hy,eqGuard,binOp,h3]
end
theorem H5(z:Int){n:Nat}(h:0<n) : -(n:Int)<z.tmod n∧z.tmod n<n:=by
 rcases Int.le_total 0 z with hz|hz
 · rw[US hz]
   have:=Int.emod_nonneg z (show (n:Int)≠0 by omega);have:=Int.emod_lt_of_pos z (show (0:Int)<n by omega);omega
 · have e:z = -(-z):=by omega
   rw[e,Int.neg_tmod,US (show 0≤-z by omega)];have:=Int.emod_nonneg (-z) (show (n:Int)≠0 by omega);have:=Int.emod_lt_of_pos (-z) (show (0:Int)<n by omega);omega
theorem D7{α:Type}{os rs R:List α}{k:Nat}{q:α}(h:(os++rs).Perm R)(hq:rs[k]?=some q):((os++[q])++(rs.take k++rs.drop (k+1))).Perm R:=by
 refine List.Perm.trans ?_ h;have e:rs=rs.take k++q::rs.drop (k+1):=by rw[←oK hq,List.take_append_drop]
 conv=>rhs;rw[e]
 rw[Tc];exact List.Perm.append_left os (show (q::(rs.take k++rs.drop (k+1))).Perm _ from List.perm_middle.symm)
variable {D:Nat→Prop}
theorem Kv{m:Int}{n:Nd}(h:okN n):okN (nG (fun z=>DH z m) n):=fun z hz=>by
 simp only[nG,Ta,Tp,or_false] at hz;rcases hz with rfl|rfl|rfl|rfl|rfl
 ·exact Bx _
 ·exact h _ (by simp)
 ·exact h _ (by simp)
 ·exact h _ (by simp)
 ·exact h _ (by simp)
theorem uY(a0:Option Addr)(cap0:Nat)(x0:List (NdH×Nd))(oo:Option Addr)(oc:Nat)(od:List Int)(more:Int)(W:World)(hv0:aU (fun k=>k<W.heap.size) W.heap a0 cap0 x0)(hw0:∀ p∈x0,okN p.2∧smN p.2)(hvo:Vw i64 W.heap oo oc od) :
 CA 4 [.slice a0 x0.length cap0,.slice oo od.length oc,iV more] W fun v w'=>v=.bool true∧aA nob W w':=by
 have hfl:=Gl x0;have ho63:=hvo.Sv;obtain⟨f,hf⟩:∃ f:Int→Int,f=fun z=>DH z more:=⟨_,rfl⟩
 refine cS 92 [(0,_),(1,_),(2,_)] Tryz.func4 ?_;refine cA 7 fn8 (EX W) ?_;rintro _ w1 ⟨rfl,hf1⟩;refine cA 6 fn9 (IS a0 cap0 x0 w1 (hv0.Sw hf1)) ?_;rintro _ w2 ⟨o,c,rfl,_,_,hf2,hvf⟩;obtain⟨ls,hls⟩:∃ ls,ls=qC x0:=⟨_,rfl⟩
 have hok2:=IE hw0;have hsm2:=Ij hw0;rw[←hls] at hvf hok2 hsm2 hfl ⊢;have hz1:=hf1.size;have hz2:=hf2.size;refine Gz 6 ?_;refine OP K5 rfl (pB o c ls w2 (hvf.old (by omega)) hsm2 hok2 hfl) rfl ?_;rintro _ w3 hA;obtain⟨r,oa,ca,rfl,hra,hoa,hfra,hf3⟩:=hA.res;have hF3:=(hf1.trans hf2).trans hf3;have hz3:=hf3.size;have hv3:=hvf.Sw hf3;have hinj:kE f (aK ls):=fun a ha b hb h=>by
  obtain⟨p,hp,rfl⟩:=S6.1 ha;obtain⟨q,hq,rfl⟩:=S6.1 hb;rw[hf] at h;exact E7 (hok2 p hp _ (by simp)) (hok2 q hq _ (by simp)) h
 refine Gz 9 ?_;refine PP aB bR rfl ?_;intro w4 ho4 hs4 hf4;have hv4:=hv3.Sw hf4;refine Gz 1 ?_;refine O9 aB rfl bR rfl rfl ho4 hv4.1 (by simp only[S9];omega) (by simp only[S9];unfold maxLen;omega) rfl ?_;intro o5 c5 w5 ho5 hf5 hr5 hn5;rw[Tr] at ho5 ⊢;have hf35:aA nob w3 w5:=hf4.St hf5 (iG _).step;have hfr5:Fr w3.heap.size o5:=dE (iG _) hr5 hf4.size;have hl5:=ho5.lt;refine Gz 5 ?_;refine PP aB bR rfl ?_;intro wB hoB hsB hfB;have hFB:=hf35.trans hfB;refine Gz 10 ?_;refine OU (β:=Nat×(Option Addr×Nat×List (NdH×Nd))×(Option Addr×Nat×List (NdH×Nd))) (fun⟨i,⟨o1,c1,rs⟩,⟨o2,c2,os⟩⟩=>[(1,.slice oo od.length oc),(2,iV more),(7,.bool true),(8,.slice oa r.1.length ca),(9,iV r.2),(10,.slice o1 rs.length c1),(11,.slice o2 os.length c2),(12,iV i)]) (fun⟨i,⟨o1,c1,rs⟩,⟨o2,c2,os⟩⟩ w=>(i+rs.length=ls.length∧os.length=i)∧bJ 10 aE 37 w.heap o1 c1 rs∧Fr w3.heap.size o1∧bJ 10 aE 37 w.heap o2 c2 os∧Fr w3.heap.size o2∧(∀ a b:Addr,o1=some a→o2=some b→a.block≠b.block)∧(os++rs.map (jS f)).Perm (ls.map (jS f))∧aA nob w3 w) (fun⟨i,⟨o1,c1,rs⟩,⟨o2,c2,os⟩⟩=>rs.length) ⟨0,⟨o5,c5,ls⟩,⟨some ⟨w5.heap.size,0,none⟩,0,[]⟩⟩ ⟨rfl,rfl,rfl,rfl,rfl,rfl,rfl,rfl,trivial⟩ ⟨⟨by omega,rfl⟩,ho5.Sw hfB,hfr5,hoB,fun a ha=>by cases ha;exact hf35.size,fun a b ha hb e=>by cases hb;have:=hl5 a ha;have e:a.block=w5.heap.size:=e;omega,by simp,hFB⟩ ?_;rintro⟨i,⟨o1,c1,rs⟩,⟨o2,c2,os⟩⟩ wC ⟨⟨hir,hol⟩,ho1,hfr1,ho2,hfr2,hap,hpe,hFC⟩;refine fK 5 ?_ ?_<;>intro h31
 ·have hrl:0<rs.length:=by omega
  refine Gz 1 ?_;refine aW [(1,_),(2,_),(7,_),(8,_),(9,_),(10,_),(11,_),(12,_),(31,_)] ?_;refine Gz 11 ?_;refine Po (β:=Int) (fun z=>[(1,.slice oo od.length oc),(2,iV more),(7,.bool true),(8,.slice oa r.1.length ca),(9,iV r.2),(10,.slice o1 rs.length c1),(11,.slice o2 os.length c2),(12,iV i),(13,iV z)]) (fun z w=>(-(rs.length:Int)<z∧z<rs.length)∧w=wC) ?_ ?_
  ·refine fK 5 ?_ ?_<;>intro h37
   ·have hov:=hvo.Sw (hF3.trans hFC);obtain⟨z,hz⟩:∃ z,od[i]?=some z:=⟨_,SD (by omega)⟩
    refine Gz 6 ?_;refine cL (OO bO rfl rfl hov.non (by omega)) ?_;refine cL (OR aJ rfl (hov.get i z hz)) ?_;refine Gz 2 ?_;refine cL (QL rfl rfl (by omega)) ?_;have htb:=H5 z hrl;refine Gz 2 ?_
    first
    |exact aC _ ⟨htb,rfl⟩
    |exact aC 0 ⟨by omega,rfl⟩
   refine Gz 4 ?_
   first
   |exact aC _ ⟨htb,rfl⟩
   |exact aC 0 ⟨by omega,rfl⟩
  rintro z wz ⟨htz,hwz⟩;subst wz;refine Po (β:=Nat) (fun k=>[(1,.slice oo od.length oc),(2,iV more),(7,.bool true),(8,.slice oa r.1.length ca),(9,iV r.2),(10,.slice o1 rs.length c1),(11,.slice o2 os.length c2),(12,iV i),(13,iV k)]) (fun k w=>k<rs.length∧w=wC) ?_ ?_
  ·refine fK 3 ?_ ?_<;>intro h46
   ·refine Gz 5 ?_;refine cL (Q5 rfl (by omega)) ?_;refine Gz 2 ?_
    first
    |exact Pk (-z).toNat ⟨rfl,rfl,rfl,rfl,rfl,rfl,rfl,rfl,congrArg (fun z:Int=>some (Value.int .i64 z)) (by omega),trivial⟩ ⟨by omega,rfl⟩
    |exact Pk z.toNat ⟨rfl,rfl,rfl,rfl,rfl,rfl,rfl,rfl,congrArg (fun z:Int=>some (Value.int .i64 z)) (by omega),trivial⟩ ⟨by omega,rfl⟩
   refine Gz 4 ?_
   first
   |exact Pk (-z).toNat ⟨rfl,rfl,rfl,rfl,rfl,rfl,rfl,rfl,congrArg (fun z:Int=>some (Value.int .i64 z)) (by omega),trivial⟩ ⟨by omega,rfl⟩
   |exact Pk z.toNat ⟨rfl,rfl,rfl,rfl,rfl,rfl,rfl,rfl,congrArg (fun z:Int=>some (Value.int .i64 z)) (by omega),trivial⟩ ⟨by omega,rfl⟩
  rintro k wz ⟨hkr,hwz⟩;subst wz;refine Gz 4 ?_;obtain⟨q,hq⟩:∃ q,rs[k]?=some q:=⟨_,SD hkr⟩
  have hvr:=ho1.vw aB;refine cL (OV bR rfl rfl hvr.non (by omega)) ?_;refine cL (O2 (cs:=aE q) aT rfl (fun j v hj=>hvr.rowZ k rfl hq j v hj)) ?_;refine OS eW rfl ?_;intro w6 hg6 hs6 hf6;obtain⟨qb,hqb⟩:∃ q,q=wC.heap.size:=⟨_,rfl⟩
  rw[←hqb] at hg6 ⊢;refine O1 (vs:=aE q) aT rfl rfl (aB q).2 hg6 rfl ?_;intro w7 hg7 hs7 hf7;have hf57:aA nob wC w7:=hf6.St hf7 (fun k e=>.inr (by have e:k=qb:=e;omega));refine Gz 7 ?_;refine cL (RD rfl rfl) ?_;refine Gz 1 ?_;refine O0 aJ rfl rfl rfl hg7 rfl ?_;intro w8 hg8 hs8 hf8;have hf58:aA nob wC w8:=hf57.St hf8 (fun k e=>.inr (by have e:k=qb:=e;omega));have hgr:w8.heap[qb]?=some (.cells (aE (jS f q)).toArray 37 (0,0)):=by rw[hf];exact hg8
  refine Gz 5 ?_;refine cL (O2 (cs:=aE (jS f q)) aT rfl (bF hgr 0 rfl)) ?_;obtain⟨y,hy⟩:∃ y,y=jS f q:=⟨_,rfl⟩
  rw[←hy];refine Pg bR (cs:=(aE y).toArray) eW rfl rfl rfl (by kernel_rfl) rfl ?_;intro wD hgD hsD hfD;have hoD:bJ 10 aE 37 wD.heap (some ⟨w8.heap.size,0,none⟩) 1 [y]:=bW (xs:=[y]) aB (by simpa using hgD) (by show 1≤maxLen;decide);have hfCD:=hf58.trans hfD;refine O9 aB rfl bR rfl rfl (ho2.Sw hfCD) (hoD.vw aB) (by simp only[SO];omega) (by simp only[SO];unfold maxLen;omega) rfl ?_;intro o2n c2n wE ho2E hfE hrE hnE;have hFE:aA nob w3 wE:=(hFC.trans hfCD).St hfE hfr2.step;have hfr2n:Fr w3.heap.size o2n:=dE hfr2 hrE (by have:=hFC.size;have:=hfCD.size;omega);have ho1E:=(ho1.Sw hfCD).Sy hfE (fun a ha ⟨b,hb,e⟩=>hap a b ha hb e.symm);have hapE:∀ a b:Addr,o1=some a→o2n=some b→a.block≠b.block:=fun a b ha hb e=>by rcases hrE b hb with h|h;exact hap a b ha h e;have:=(ho1.Sw hfCD).lt a ha;omega
  refine Gz 3 ?_;refine O4 11 (fun _=>True) [0,4,9] [1,2,3,5,6,7,8,0,4,9,10] aL (by kernel_rfl) (trivial) ?_;refine Gz 2 ?_;refine xC rfl (OQ (u:=.slice o1 (rs.take k).length c1) (Pa bR rfl rfl (by have:=(ho1.vw aB).le;omega)) (by rw[aP,SL,TK (by omega)];rfl)) ?_;refine Gz 3 ?_;refine xC rfl (OQ (u:=.slice (aQ o1 c1 (k+1) 10) (rs.drop (k+1)).length (c1-(k+1))) (Pr bR rfl rfl (by omega)) (by rw[SP];rfl)) ?_;refine OZ rfl rfl (PP aB bR rfl ?_);intro wF hoF hsF hfF;have hfF:=hfF.Su;have hoF:bJ 10 aE 37 wF.heap (some ⟨wE.heap.size,0,none⟩) 0 []:=hoF;have ho1F:=ho1E.Sw hfF;have ho2F:=ho2E.Sw hfF;have hl1:=ho1E.lt;have hl2:=ho2E.lt;have hFF:=hFE.trans hfF;refine O6 (by exact trivial) ?_;refine OZ rfl rfl (O9 aB rfl bR rfl rfl hoF ((ho1F.vw aB).take k) (by simp only[S9,SL];omega) (by simp only[S9,SL];unfold maxLen;omega) rfl ?_);intro oG cG wG hoG hfG hrG hnG;rw[Tr] at hoG ⊢;have hFG:aA nob w3 wG:=hFF.St hfG (fun j ⟨a,ha,e⟩=>.inr (by cases ha;have e:wE.heap.size=j:=e;have:=hFE.size;omega));have ho1G:=ho1F.Sy hfG (fun a ha ⟨b,hb,e⟩=>by cases hb;have e:wE.heap.size=a.block:=e;have:=hl1 a ha;omega);have ho2G:=ho2F.Sy hfG (fun a ha ⟨b,hb,e⟩=>by cases hb;have e:wE.heap.size=a.block:=e;have:=hl2 a ha;omega);have hfrG:Fr wE.heap.size oG:=dE (iG _) hrG hfF.size;refine O6 (by exact trivial) ?_;refine OZ rfl rfl (O9 aB rfl bR rfl rfl hoG ((ho1G.vw aB).dropK hkr) (by simp only[SL,SP];omega) (by simp only[SL,SP];unfold maxLen;omega) rfl ?_);intro oH cH wH hoH hfH hrH hnH;have hFH:aA nob w3 wH:=hFG.St hfH (fun j ⟨a,ha,e⟩=>.inr (by have:=hfrG a ha;have:=hFE.size;omega));have ho2H:=ho2G.Sy hfH (fun a ha ⟨b,hb,e⟩=>by have:=hfrG b hb;have:=hl2 a ha;omega);have hfrH:Fr wE.heap.size oH:=dE hfrG hrH (by have:=hfF.size;have:=hfG.size;omega);refine O6 (by exact trivial) ?_;refine Gz 9 ?_;have hpe2:((os++[y])++(rs.take k++rs.drop (k+1)).map (jS f)).Perm (ls.map (jS f)):=by
   have h:=D7 (k:=k) (q:=jS f q) hpe (by rw[Ti,hq];rfl);rw[←List.map_take,←List.map_drop,←Uf,←hy] at h;exact h
  exact aG ⟨i+1,⟨oH,cH,rs.take k++rs.drop (k+1)⟩,⟨o2n,c2n,os++[y]⟩⟩ ⟨⟨by simp only[SE,SL,SP];omega,by simp[hol]⟩,hoH,fun a ha=>by have:=hfrH a ha;have:=hFE.size;omega,ho2H,hfr2n,fun a b ha hb e=>by have:=hfrH a ha;have:=hl2 b hb;omega,hpe2,hFH⟩ (by show (rs.take k++rs.drop (k+1)).length<rs.length;simp only[SE,SL,SP];omega)
 have hr0:rs=[]:=List.length_eq_zero_iff.1 (by omega);subst hr0;rw[List.map_nil,TU] at hpe;refine Gz 1 ?_;refine aW [(1,_),(2,_),(7,_),(8,_),(9,_),(10,_),(11,_),(12,_),(31,_)] ?_;refine Gz 10 ?_;have hRm:∀ q∈os,∃ p∈ls,q=jS f p:=fun q hq=>by
  have:=hpe.mem_iff.1 hq;obtain⟨p,hp,e⟩:=S6.1 this;exact⟨p,hp,e.symm⟩
 have hgd:=Dq hpe hinj;have hzC:=hFC.size;have hol40:os.length≤40:=by have:=hpe.length_eq;rw[SX] at this;omega
 refine OP K5 rfl (pB o2 c2 os wC (show aU (fun k=>k<wC.heap.size) wC.heap o2 c2 os from ⟨ho2.vw aB,fun q hq=>by obtain⟨p,hp,rfl⟩:=hRm q hq;exact((hv3.Sw hFC).2 p hp).mono (fun k hk=>by have hk:k<W.heap.size:=hk;show k<wC.heap.size;omega)⟩) (fun q hq=>by obtain⟨p,hp,rfl⟩:=hRm q hq;exact hsm2 p hp) (fun q hq=>by obtain⟨p,hp,rfl⟩:=hRm q hq;rw[hf];exact Kv (hok2 p hp)) hol40) rfl ?_;rintro _ wK hB;obtain⟨r2,ob,cb,rfl,hrb,hob,hfrb,hfK⟩:=hB.res
 have hE:r.1=r2.1∧(r.2=0↔r2.2=0):=by
  by_cases hz:chk (nds ls)=0
  · have hgl:=(kW _).1 hz
    have hbz:chk (nds os)=0:=(kW _).2 (hgd.2 hgl);have hcan:=JH hpe hinj (pN hbz);have hrc:HV ls r2:=by
     rcases hrb with⟨h,_⟩|⟨_,ids,hi,e⟩
     ·exact absurd hbz h
     ·exact .inr ⟨hz,ids,by rw[←hcan];exact hi,by rw[←hcan];exact e⟩
    rw[hra.uniq hrc];exact⟨rfl,Iff.rfl⟩
  · have hbz:chk (nds os)≠0:=fun h=>hz ((kW _).2 (hgd.1 ((kW _).1 h)))
    rcases hra with⟨_,e⟩|⟨h,_⟩
    · rcases hrb with⟨_,e2⟩|⟨h,_⟩
      ·rw[e,e2];exact⟨rfl,fun h=>absurd h hz,fun h=>absurd h hbz⟩
      ·exact absurd h hbz
    ·exact absurd h hz
 refine Gz 12 ?_;refine cW (PN aN ty5 ty9 rfl (((hoa.Sw hFC).Sw hfK).vw)) ?_;refine Gz 1 ?_;refine cW (PN aN ty5 ty9 rfl hob.vw) ?_;refine cW (PC (PA rfl rfl) hE.1) ?_;refine fW 3 ?_ ?_<;>intro h87
 ·refine Gz 1 ?_;refine cW (PC (Pw rfl rfl) (hE.2.1 h87)) ?_;refine cW (Py ty4 rfl rfl) ?_;refine Gz 6 ?_;exact⟨_,rfl,rfl,(hF3.trans hFC).trans hfK⟩
 refine Gz 1 ?_;refine cW (Qc (Pw rfl rfl) (fun h=>h87 (hE.2.2 h))) ?_;refine cW (Py ty4 rfl rfl) ?_;refine Gz 6 ?_;exact⟨_,rfl,rfl,(hF3.trans hFC).trans hfK⟩
end
end Go.Proofs.YthmmmagklhiiiaaGreatDoor
