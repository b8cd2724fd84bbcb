/- lamella: what the law needs. No condition beyond the bounds that each states. -/
import Derived.Deep.Fields
import Derived.Test.YthdecfkdgdagcaaGreatMountReadsQ5
namespace Go.Proofs.YthdecfkdgdagcaaGreat
open Go Go.RowKit
set_option linter.unusedVariables false
set_option linter.unusedSectionVars false
set_option maxHeartbeats 64000000
open List renaming getElem?_eq_getElem → ZQ, length_append → ZR, getElem?_eq_some_iff → ZS, getD → Z2, mem_map → av, getElem?_map → ax, getElem?_eq_none → bq, mem_range → bt, range → bu, ext_getElem? → cd, all_eq_true → fu
open _root_.Nat renaming zero_le → ZZ, beq → ja
open _root_.Option renaming map_eq_some_iff → ae
open _root_.Bool renaming and_eq_true → ag
open Classical renaming not_not → br
section
open Go Go.RowKit Go.ChangeShapes Go.WideShapes Go.ChangeAt Go.Deep
def CS(x:Int×Int):List Value:=[iV x.1,iV x.2]
def NJ(P:Program)(fs:Array Field):Bool:=oneCellFields P fs && ja fs.size 2 && (bu 2).all fun i=>match fs[i]? with
|some f=>(match P.underlying f.type with|some (.int .i64)=>true|_=>false)
|none=>false
section
variable {H:Type}{enc:TypeId×Value→H}{P:Program}{w:World}{t e:TypeId}{d:DataW H}{p:List MemPlace}
theorem JO{fs:Array Field}(ht:P.underlying e=some (.struct fs))(hb:NJ P fs=true)(hc:P.cellsOf e=2){fuel:Nat}{cs:List Value}{x:DataW H×List MemPlace}
 (h:DataW.trod enc P w 0 (fun _=>true) true fuel e cs=some x):∃ y:Int×Int,cs=CS y∧(Lit.int .i64 y.1).wf=true∧(Lit.int .i64 y.2).wf=true:=by
 simp only[NJ,ag,Nat.beq_eq] at hb;obtain⟨⟨h1,h2⟩,h3⟩:=hb;obtain⟨xs,n,_,_,hl,hxl,hf⟩:=DataW.trod_struct ht h;rw[hc] at hl
 have key:∀ i,i<2→∃ n:Int,cs[i]?=some (iV n)∧(Lit.int .i64 n).wf=true:=fun i hi=>by
  have h4:=fu.1 h3 i (bt.2 hi);cases hfi:fs[i]? with
 |none=>simp[hfi] at h4
 |some f=>
    obtain⟨ho,h5⟩:=hone_of h1 i f hfi;have g:=hf i f hfi;rw[ho,h5,take1_drop cs i undef (by omega),ZQ (by omega)] at g;simp only[hfi] at h4;have hty:P.underlying f.type=some (.int .i64):=by
     split at h4
     ·assumption
     ·cases h4
    obtain⟨m,hm,_,hw⟩:=DataW.trod_int hty g;refine⟨m,?_,hw⟩;rw[ZQ (by omega)];have:cs.getD i undef=iV m:=by simpa using hm
    rw[←this];simp[Z2,ZQ (show i<cs.length by omega)]
 obtain⟨a,ha,wa⟩:=key 0 (by decide);obtain⟨b,hb,wb⟩:=key 1 (by decide);refine⟨(a,b),?_,wa,wb⟩;apply cd;intro i
 match i with
|0=>rw[ha];rfl
|1=>rw[hb];rfl
|i+2=>rw[bq (by omega)];rfl
theorem GR{fs:Array Field}(ht:P.underlying t=some (.slice e))(he:P.underlying e=some (.struct fs))(hb:NJ P fs=true)(hc:P.cellsOf e=2){v:Value}(h:DataW.Trod enc P w 0 (fun _=>true) true t v d p)(hv:∃ a n c,v=.slice a n c) :
 ∃ (a:Option Addr) (cap:Nat) (xs:List (Int×Int)),v=.slice a xs.length cap∧VwM 2 CS w.heap a cap xs∧∀ x∈xs,(Lit.int .i64 x.1).wf=true∧(Lit.int .i64 x.2).wf=true:=by
 obtain⟨fuel,hf⟩:=h;obtain⟨a,n,c,rfl⟩:=hv;rcases open_slice ht hf with⟨hcs,_⟩|⟨x,l,c',m,n',D,Pl,hcs,_,hl,hm,hmm,_,hx⟩
 ·refine⟨none,0,[],by simpa[Value.cells] using hcs,Zx 0 (ZZ _),by simp⟩
 · simp only[if_true] at hmm
   have:Inhabited (Int×Int):=⟨(0,0)⟩
   obtain⟨Y,hY⟩:=choose_lt (α:=Int×Int) (p:=fun i y=>(∀ j v,(CS y)[j]?=some v→w.cell? ((x.add (i*2)).add j)=some v)∧(Lit.int .i64 y.1).wf=true∧(Lit.int .i64 y.2).wf=true) (n:=m) (fun i hi=>by
    obtain⟨cs',h1,h2⟩:=hx i hi;rw[hc] at h1;obtain⟨_,hlen,hcell⟩:=World.cells?_some h1;obtain⟨y,hy,w1,w2⟩:=JO he hb hc h2;refine⟨y,fun j v hj=>?_,w1,w2⟩;rw[←hy] at hj;have hjl:=(ZS.1 hj).1;rw[hcell j (by omega)];rw[←hj])
   refine⟨some x,c',(bu l).map Y,by simpa[Value.cells] using hcs,⟨by simp;omega,hm,fun _=>by simp,fun i u hu j v hj=>?_⟩,fun y hy=>?_⟩
   · rw[ax] at hu
     obtain⟨k,hk,rfl⟩:=ae.1 hu;have hki:k=i∧i<l:=by
      have:=ZS.1 hk;obtain⟨h1,h2⟩:=this;simp at h1 h2;omega
     obtain⟨rfl,hil⟩:=hki;have h1:=(hY k (by omega)).1 j v hj;show w.cell? (x.add (k*2+j))=some v;rw[←rZ];exact h1
   · obtain⟨k,hk,rfl⟩:=av.1 hy
     exact(hY k (by have:=bt.1 hk;omega)).2
end
end
section
open Go Go.RowKit Go.ChangeShapes Go.WideShapes Go.ChangeAt Go.Deep
section
variable {H:Type}{enc:TypeId×Value→H}{P:Program}{w:World}{t e:TypeId}{d:DataW H}{p:List MemPlace}
theorem Di{fs:Array Field}(ht:P.underlying t=some (.struct fs))(hone:∀ (i:Nat) (f:Field),fs[i]?=some f→f.offset=i∧P.cellsOf f.type=1)(hc:P.cellsOf t=fs.size){fuel:Nat}{cs:List Value}{x:DataW H×List MemPlace}
 (h:DataW.trod enc P w 0 (fun _=>true) true fuel t cs=some x):cs.length=fs.size∧∃ n,∀ (i:Nat) (f:Field),fs[i]?=some f→∃ v y,cs[i]?=some v∧DataW.trod enc P w 0 (fun _=>true) true n f.type [v]=some y:=by
 obtain⟨xs,n,_,_,hl,hxl,hf⟩:=DataW.trod_struct ht h;rw[hc] at hl;refine⟨hl,n,fun i f hi=>?_⟩;have hlt:i<fs.size:=(Array.getElem?_eq_some_iff.1 hi).1;obtain⟨ho,h1⟩:=hone i f hi;have g:=hf i f hi;rw[ho,h1,take1_drop cs i undef (by omega),ZQ (by omega)] at g;exact⟨cs.getD i undef,_,by simp[Z2,ZQ (show i<cs.length by omega)],g⟩
end
end
section
open Go Go.RowKit Go.ChangeShapes Go.WideShapes Go.ChangeAt Go.Deep
def NI(P:Program)(fs:Array Field):Bool:=oneCellFields P fs && ja fs.size 3 && (bu 3).all fun i=>match fs[i]? with
|some f=>(match P.underlying f.type with|some (.int .i64)=>Nat.blt 0 i|some .string=>ja i 0|_=>false)
|none=>false
section
variable {H:Type}{enc:TypeId×Value→H}{P:Program}{w:World}{t e:TypeId}{d:DataW H}{p:List MemPlace}
theorem GQ{fs:Array Field}(ht:P.underlying e=some (.struct fs))(hb:NI P fs=true)(hc:P.cellsOf e=3){fuel:Nat}{cs:List Value}{x:DataW H×List MemPlace}
 (h:DataW.trod enc P w 0 (fun _=>true) true fuel e cs=some x):∃ y:Ent,cs=bH y∧y.1.length≤maxLen∧(Lit.int .i64 y.2.1).wf=true∧(Lit.int .i64 y.2.2).wf=true:=by
 simp only[NI,ag,Nat.beq_eq] at hb;obtain⟨⟨h1,h2⟩,h3⟩:=hb;obtain⟨hl,n,hall⟩:=Di ht (hone_of h1) (by rw[hc,h2]) h
 have hty:∀ i,i<3→∃ f,fs[i]?=some f∧(0<i→P.underlying f.type=some (.int .i64))∧(i=0→P.underlying f.type=some .string):=fun i hi=>by
  have h4:=fu.1 h3 i (bt.2 hi);cases hf:fs[i]? with
 |none=>simp[hf] at h4
 |some f=>
    refine⟨f,rfl,fun h10=>?_,fun h10=>?_⟩
    · simp only[hf] at h4
      split at h4
      ·assumption
      ·simp at h4;omega
      ·cases h4
    · simp only[hf] at h4
      split at h4
      ·simp[Nat.blt_eq] at h4;omega
      ·assumption
      ·cases h4
 have hi:∀ i,0<i→i<3→∃ z:Int,cs[i]?=some (iV z)∧(Lit.int .i64 z).wf=true:=fun i h0 h10=>by
  obtain⟨f,hf,h5,_⟩:=hty i (by omega);obtain⟨v,y,h6,h7⟩:=hall i f hf;obtain⟨m,hm,_,hw⟩:=DataW.trod_int (h5 h0) h7;have:v=iV m:=by simpa using hm
  subst this;exact⟨m,h6,hw⟩
 obtain⟨f,hf,_,h5⟩:=hty 0 (by decide);obtain⟨v,y,h6,h7⟩:=hall 0 f hf;obtain⟨s,hs,_,hsz⟩:=DataW.trod_string (h5 rfl) h7;have hv:v=.string s:=by simpa using hs
 subst hv;obtain⟨a,ha,wa⟩:=hi 1 (by decide) (by decide);obtain⟨b,hb,wb⟩:=hi 2 (by decide) (by decide);refine⟨(s.data.toList,a,b),?_,hsz,wa,wb⟩;apply cd;intro i
 match i with
|0=>rw[h6];rfl
|1=>rw[ha];rfl
|2=>rw[hb];rfl
|i+3=>rw[bq (by omega)];rfl
theorem JN{fs:Array Field}(ht:P.underlying t=some (.slice e))(he:P.underlying e=some (.struct fs))(hb:NI P fs=true)(hc:P.cellsOf e=3){v:Value}(h:DataW.Trod enc P w 0 (fun _=>true) true t v d p)(hv:∃ a n c,v=.slice a n c) :
 ∃ (a:Option Addr) (cap:Nat) (xs:List Ent),v=.slice a xs.length cap∧VwM 3 bH w.heap a cap xs∧∀ x∈xs,x.1.length≤maxLen∧(Lit.int .i64 x.2.1).wf=true∧(Lit.int .i64 x.2.2).wf=true:=by
 obtain⟨fuel,hf⟩:=h;obtain⟨a,n,c,rfl⟩:=hv;rcases open_slice ht hf with⟨hcs,_⟩|⟨x,l,c',m,n',D,Pl,hcs,_,hl,hm,hmm,_,hx⟩
 ·refine⟨none,0,[],by simpa[Value.cells] using hcs,Zx 0 (ZZ _),by simp⟩
 · simp only[if_true] at hmm
   have:Inhabited Ent:=⟨lJ⟩
   obtain⟨Y,hY⟩:=choose_lt (α:=Ent) (p:=fun i y=>(∀ j v,(bH y)[j]?=some v→w.cell? ((x.add (i*3)).add j)=some v)∧y.1.length≤maxLen∧(Lit.int .i64 y.2.1).wf=true∧(Lit.int .i64 y.2.2).wf=true) (n:=m) (fun i hi=>by
    obtain⟨cs',h1,h2⟩:=hx i hi;rw[hc] at h1;obtain⟨_,hlen,hcell⟩:=World.cells?_some h1;obtain⟨y,hy,w1,w2,w3⟩:=GQ he hb hc h2;refine⟨y,fun j v hj=>?_,w1,w2,w3⟩;rw[←hy] at hj;have hjl:=(ZS.1 hj).1;rw[hcell j (by omega)];rw[←hj])
   refine⟨some x,c',(bu l).map Y,by simpa[Value.cells] using hcs,⟨by simp;omega,hm,fun _=>by simp,fun i u hu j v hj=>?_⟩,fun y hy=>?_⟩
   · rw[ax] at hu
     obtain⟨k,hk,rfl⟩:=ae.1 hu;have hki:k=i∧i<l:=by
      have:=ZS.1 hk;obtain⟨h1,h2⟩:=this;simp at h1 h2;omega
     obtain⟨rfl,hil⟩:=hki;have h1:=(hY k (by omega)).1 j v hj;show w.cell? (x.add (k*3+j))=some v;rw[←rZ];exact h1
   · obtain⟨k,hk,rfl⟩:=av.1 hy
     exact(hY k (by have:=bt.1 hk;omega)).2
end
end
section
open Go Go.RowKit Go.Maps
theorem O5{qs:List (NdH×Nd)}{ids:List Int}(G:GdT qs)(I:Bx qs ids)(h:(uX qs ids).2=0):64≤(uX qs ids).1.length∧(uX qs ids).1.length≤1048576∧uX qs ids=(imB qs ids,0)∧∃ M:ImB qs ids,True:=by
 have hs:64+((gJ (aI qs ids) ids).length:Int)≤1048576:=by
  unfold uX at h;by_cases hc:(1048576:Int)<64+((gJ (aI qs ids) ids).length:Int)
  ·rw[ZP hc] at h;cases h
  ·omega
 have M:ImB qs ids:=⟨G,I,hs⟩
 have e:=M.img;rw[e];refine⟨?_,?_,rfl,M,trivial⟩
 ·show 64≤(imB qs ids).length;unfold imB;rw[ZR,mS];omega
 ·show (imB qs ids).length≤1048576;unfold imB;rw[ZR,mS];omega
theorem BuP.of{W w':World}{ps:List (NdH×Nd)}{v:Value}(h:BuP W ps v w')(hl:ps.length≤40):∃ (o:Option Addr) (c:Nat) (b:By) (E:Int),v=.tuple #[.slice o b.length c,iV E]∧Own b8 5 w'.heap o c b∧Fr W.heap.size o∧aA nob W w' ∧
 (E=0→chk (nds ps)=0∧∃ (ids:List Int) (M:ImB (iR ps) ids),b=imB (iR ps) ids∧64≤b.length∧b.length≤1048576):=by
 rcases h with⟨hz,rfl,hf⟩|⟨hz,ids,o,c,hI,rfl,ho,hfr,hf⟩
 ·exact⟨none,0,[],_,rfl,Zu,Zs,hf,fun e=>absurd e hz⟩
 · refine⟨o,c,_,_,rfl,ho,hfr,hf,fun e=>⟨hz,ids,?_⟩⟩
   obtain⟨h1,h2,h3,M,_⟩:=O5 (G6 hz hl) hI e;exact⟨M,by rw[h3],h1,h2⟩
theorem Rz{a:Int}{n:Nat}(h:0<n) : -(n:Int)<a.tmod n∧a.tmod n<n:=by
 have h1:=Int.tmod_lt_of_pos a (show (0:Int)<n by omega);have h2:=Int.tmod_lt_of_pos (-a) (show (0:Int)<n by omega);rw[Int.neg_tmod] at h2;omega
theorem NU(z:Int):∃ u:UInt8,IntKind.u8.wrap z=u.toNat:=by
 have h:IntKind.u8.wrap z=z%256:=by unfold IntKind.wrap;simp[IntKind.bits,IntKind.signed]
 refine⟨UInt8.ofNat (z%256).toNat,?_⟩;rw[h,UInt8.toNat_ofNat'];omega
theorem Bn(a0:Option Addr)(cap0:Nat)(x0:List (NdH×Nd))(a1:Option Addr)(cap1:Nat)(x1:List (Int×Int))(a2:Option Addr)(cap2:Nat)(x2:List Ent)(W:World)(hv0:dG (fun k=>k<W.heap.size) W.heap a0 cap0 x0)(hw0:∀ p∈x0,okN p.2∧smN p.2)(hv1:VwM 2 CS W.heap a1 cap1 x1)(hw1:∀ z∈x1,(-9223372036854775808≤z.1∧z.1≤9223372036854775807)∧(-9223372036854775808≤z.2∧z.2≤9223372036854775807))
 (hv2:VwM 3 bH W.heap a2 cap2 x2)(hw2:∀ z∈x2,(-9223372036854775808≤z.2.1∧z.2.1≤9223372036854775807)∧(-9223372036854775808≤z.2.2∧z.2.2≤9223372036854775807)) :
 CA 6 [.slice a0 x0.length cap0,.slice a1 x1.length cap1,.slice a2 x2.length cap2] W fun v w'=>v=.bool true∧aA nob W w':=by
 have hfl:=Ml x0;refine cS 67 [(0,_),(1,_),(2,_)] Tryz.func6 ?_;refine cA 7 fn8 (JS W) ?_;rintro _ w1 ⟨rfl,hf1⟩;refine cA 6 V8 (OP a0 cap0 x0 w1 (hv0.ZM hf1)) ?_;rintro _ w2 ⟨o2,c2,rfl,ho2,hfo2,hf2,hvf⟩;obtain⟨ls,hls⟩:∃ ls,ls=Ao x0:=⟨_,rfl⟩
 have hsm2:∀ p∈ls,smN p.2:=by rw[hls];exact Mm (fun p hp=>(hw0 p hp).2.mfew)
 rw[←hls] at hvf hfl ⊢;have hF2:=hf1.trans hf2;have hz2:=hF2.size;refine Wh fn9 rfl (B7 o2 c2 ls w2 ⟨hvf.1,fun p hp=>(hvf.2 p hp).mono (fun k (hk:k<W.heap.size)=>(by omega:k<w2.heap.size))⟩ hsm2 hfl) rfl ?_;intro v w3 hB;obtain⟨o3,c3,B,E,rfl,hoB,hfrB,hf3,hE⟩:=hB.of hfl;have hF3:=hF2.trans hf3;refine fK 11 ?_ ?_<;>intro h21
 ·refine Gz 12 ?_;exact⟨_,rfl,rfl,hF3⟩
 obtain⟨hz,ids,M,hBe,hB64,hBm⟩:=hE (br.1 h21);obtain⟨nb,hnb⟩:∃ n,n=B.length:=⟨_,rfl⟩
 rw[←hnb];have hnb3:∀ a,o3=some a→W.heap.size≤a.block:=fun a ha=>by have:=hfrB a ha;omega
 refine Gz 12 ?_;refine Wp (β:=Nat×By) (fun⟨i,b⟩=>[(1,.slice a1 x1.length cap1),(2,.slice a2 x2.length cap2),(7,.bool true),(8,.slice o3 nb c3),(10,iV i)]) (fun⟨i,b⟩ w=>i≤x1.length∧b.length=nb∧Own b8 5 w.heap o3 c3 b∧aA (blk o3) w3 w) (fun⟨i,b⟩=>x1.length-i) ⟨0,B⟩ ⟨rfl,rfl,rfl,rfl,rfl,trivial⟩ ⟨ZZ _,hnb.symm,hoB,Zn _ _⟩ ?_;rintro⟨i,b⟩ w4 ⟨hi,hbl,ho4,hf4⟩;refine fK 6 ?_ ?_<;>intro h26
 ·refine fW 2 ?_ ?_<;>intro h29
  ·have hil:i<x1.length:=by omega
   obtain⟨x,hx⟩:∃ x,x1[i]?=some x:=⟨_,ZQ hil⟩
   have htd:=Rz (a:=x.1) (n:=nb) (by omega);have hv1w:VwM 2 CS w4.heap a1 cap1 x1:=(hv1.keep' hF3 (fun _ _ _=>id)).keep' hf4 (fun hne a ha hb=>by obtain⟨c,hc,e⟩:=hb;have h1:=hnb3 c hc;have h2:=hv1.lt hne (fun x e=>by cases e) a ha;omega);refine Gz 2 ?_;refine aW [(1,_),(2,_),(7,_),(8,_),(10,_),(30,_)] ?_;refine Gz 10 ?_;refine cL (Wj Qw rfl rfl hv1w.non (by omega)) ?_;refine Gz 1 ?_;refine cL (Wk aF rfl (hv1w.rowZ i rfl hx 0 _ rfl)) ?_;refine Gz 2 ?_;refine cL (Yu rfl rfl (by omega)) ?_;refine Gz 3 ?_;refine WL (β:=Nat) (fun tn=>[(1,.slice a1 x1.length cap1),(2,.slice a2 x2.length cap2),(7,.bool true),(8,.slice o3 nb c3),(10,iV i),(11,iV tn)]) (fun tn w=>tn<nb∧w=w4) ?_ ?_
   ·refine fK 3 ?_ ?_<;>intro h42
    ·refine Gz 5 ?_;refine cL (YJ rfl (by omega)) ?_;refine Gz 2 ?_;exact WY (- x.1.tmod nb).toNat ⟨rfl,rfl,rfl,rfl,rfl,congrArg (fun z:Int=>some (Value.int .i64 z)) (by omega),trivial⟩ ⟨by omega,rfl⟩
    refine Gz 4 ?_;exact WY (x.1.tmod nb).toNat ⟨rfl,rfl,rfl,rfl,rfl,congrArg (fun z:Int=>some (Value.int .i64 z)) (by omega),trivial⟩ ⟨by omega,rfl⟩
   rintro tn w5 ⟨htn,hw5⟩;subst w5;refine Wv 14 (fun H=>Vw b8 H o3 c3 b∧VwM 2 CS H a1 cap1 x1) [14] [0,1,2,3,4,5,6,7,8,9,10,11,12,13,14] aK (by kernel_rfl) (⟨ho4.vw,hv1w⟩) ?_;refine Gz 4 ?_;refine xC rfl (Wi aH rfl rfl (by rw[←hbl];exact ho4.vw.non) (by omega)) ?_;refine xC rfl (Wt eC rfl (fun H hH=>hH.1.gd 0 (by omega))) ?_;refine Gz 2 ?_;refine xC rfl (Wj Qw rfl rfl hv1w.non (by omega)) ?_;refine Gz 1 ?_;refine xC rfl (Wt aF rfl (fun H hH=>hH.2.rowZ i rfl hx 1 _ rfl)) ?_;obtain⟨u,hu⟩:=NU x.2;refine xC rfl (Wr (n:=(u.toNat:Int)) is3 ty5 rfl hu) ?_;refine xC rfl (Wm (u:=b8 (b.getD tn 0 ^^^ u)) (XR rfl rfl (b.getD tn 0).toNat_lt u.toNat_lt) (by unfold b8;rw[UInt8.toNat_xor];rfl)) ?_;refine xC rfl (Wi aH rfl rfl (by rw[←hbl];exact ho4.vw.non) (by omega)) ?_;refine Wo rfl rfl (W0 aP eC rfl rfl ho4 (by omega) ?_);intro w6 ho6 hs6 hf6;refine WW rfl ?_;refine Gz 8 ?_;exact aG ⟨i+1,b.set tn (b.getD tn 0 ^^^ u)⟩ ⟨by omega,by rw[List.length_set];exact hbl,by rw[Int.toNat_natCast] at ho6;exact ho6,hf4.trans hf6.ZK⟩ (by show x1.length-(i+1)<x1.length-i;omega)
  refine Gz 2 ?_;refine aW [(1,_),(2,_),(7,_),(8,_),(10,_),(30,_)] ?_;refine Gz 11 ?_;subst hbl;refine WD bP (cs:=(([0,1,-1,7,300]:List Int).map i64).toArray) zc3 rfl rfl rfl (by kernel_rfl) rfl ?_;intro w6 hg6 hs6 hf6;have ho6:Own i64 3 w6.heap (some ⟨w4.heap.size,0,none⟩) 5 ([0,1,-1,7,300]:List Int):=kJ (xs:=([0,1,-1,7,300]:List Int)) hg6 (by decide);have hv2w:VwM 3 bH w4.heap a2 cap2 x2:=(hv2.keep' hF3 (fun _ _ _=>id)).keep' hf4 (fun hne a ha hb=>by obtain⟨c,hc,e⟩:=hb;have h1:=hnb3 c hc;have h2:=hv2.lt hne (fun x e=>by cases e) a ha;omega);refine Wh Sg rfl (IL o3 c3 b a2 cap2 x2 (some ⟨w4.heap.size,0,none⟩) 5 [0,1,-1,7,300] w6 (ho4.ZM hf6).vw (by omega) (hv2w.keep' hf6 (fun _ _ _=>id)) hw2 ho6.vw (by decide)) rfl ?_;rintro _ w7 ⟨rfl,hf7⟩;refine Gz 14 ?_;exact⟨_,rfl,rfl,((hF3.ZJ hf4 (fun k ⟨a,ha,e⟩=>.inr (by have:=hnb3 a ha;omega))).trans hf6).trans hf7⟩
 refine Gz 5 ?_;refine aW [(1,_),(2,_),(7,_),(8,_),(10,_),(30,_)] ?_;refine Gz 11 ?_;subst hbl;refine WD bP (cs:=(([0,1,-1,7,300]:List Int).map i64).toArray) zc3 rfl rfl rfl (by kernel_rfl) rfl ?_;intro w6 hg6 hs6 hf6;have ho6:Own i64 3 w6.heap (some ⟨w4.heap.size,0,none⟩) 5 ([0,1,-1,7,300]:List Int):=kJ (xs:=([0,1,-1,7,300]:List Int)) hg6 (by decide);have hv2w:VwM 3 bH w4.heap a2 cap2 x2:=(hv2.keep' hF3 (fun _ _ _=>id)).keep' hf4 (fun hne a ha hb=>by obtain⟨c,hc,e⟩:=hb;have h1:=hnb3 c hc;have h2:=hv2.lt hne (fun x e=>by cases e) a ha;omega);refine Wh Sg rfl (IL o3 c3 b a2 cap2 x2 (some ⟨w4.heap.size,0,none⟩) 5 [0,1,-1,7,300] w6 (ho4.ZM hf6).vw (by omega) (hv2w.keep' hf6 (fun _ _ _=>id)) hw2 ho6.vw (by decide)) rfl ?_;rintro _ w7 ⟨rfl,hf7⟩;refine Gz 14 ?_;exact⟨_,rfl,rfl,((hF3.ZJ hf4 (fun k ⟨a,ha,e⟩=>.inr (by have:=hnb3 a ha;omega))).trans hf6).trans hf7⟩
end
end Go.Proofs.YthdecfkdgdagcaaGreat
