/- lamella: what the law needs. No condition beyond the bounds that each states. -/
import Derived.Shelf.SlSortCmp.InsertionK
import Derived.Shelf.SlSortCmp.WholeK
import Derived.Laws.CopyRow
import Derived.Test.YthmmmagklhiiiaaGreatDoorBuildOneQ3
namespace Go.Proofs.YthmmmagklhiiiaaGreatDoor
open Go Go.RowKit
set_option linter.unusedVariables false
set_option linter.unusedSectionVars false
set_option maxHeartbeats 64000000
open List (countP_map sum_cons)
open List renaming getElem?_eq_getElem → Wv, length_append → Ww, getElem?_eq_some_iff → Wy, mem_of_getElem? → Wz, length_take → WB, length_drop → WE, length_singleton → WF, getD → WI, take_of_length_le → WJ, length_map → WK, append_assoc → WL, length_eq_zero_iff → WM, length_pos_iff → WN, getElem?_of_mem → WO, mem_map → WS, length_cons → WT, take_append_drop → WX, mem_singleton → WY, mem_append → WZ, length_nil → W2, replicate → W4, mem_cons → W5, length → W6, getElem?_map → W7, pairwise_iff_getElem → W8, nil_append → Xc, getElem?_eq_none → Xe, getElem?_take → Xf, take_length → Xg, getElem?_set_self → Xi, length_replicate → Xl, not_mem_nil → Xm, getElem_of_mem → Xn, map_cons → Xo, cons_append → Xq, range → Xr, drop_left' → Xs, findIdx?_eq_some_iff_getElem → Xu, drop_eq_getElem_cons → Xv, getElem_mem → Xw, ext_getElem? → Xy, take_left' → Xz, mem_range → XB, flatMap_cons → XD, length_set → XH, getElem?_set_ne → XJ, append_nil → XK, map_map → XL, filter_append → XQ, getElem?_set → XT, findIdx?_eq_none_iff → XX, mem_flatMap → XZ, pairwise_map → X2, map_congr_left → X5, pairwise_cons → X9, mem_append_left → Ye, length_dropLast → Yf, filter_cons_of_pos → Yi, map_append → Yo, cons → Yr, mem_of_find?_eq_some → Yz, mem_filter → YE, take_zero → YH, length_filter_le → YL, take_append → YO, nodup_cons → YQ, append_inj → YR, set_set → YT, nodup_append → Y3, eq_of_mem_replicate → Y8, getElem_map → Zd, getElem?_replicate → Ze, flatMap_map → Zf
open _root_.Nat renaming le_refl → WC, zero_le → WG, le_trans → W9, mul_le_mul_right → Xh, lt_of_lt_of_le → Xk, zero_add → Xp, add_zero → Yd, le_add_right → YM
open _root_.Array renaming getElem?_eq_some_iff → WD, length_toList → X6, getElem?_eq_getElem → Yb, getElem?_modify → Ys
open Classical renaming byContradiction → WH, not_not → W3
open UInt8 renaming ofNat → WP, toNat_ofNat' → Xj
open _root_.Option renaming map_eq_some_iff → WR, map_some → Ym
open Go.Op renaming bytesLess → WU
open _root_.Int renaming toNat_natCast → Xd, eq_ofNat_of_zero_le → XR, natCast_nonneg → Ya
open Prod renaming ext → Yl
theorem rP(b:By)(i:Nat):∀ j,∃ r,dX b (i+j)=dX b i++r
|0=>⟨[],by simp⟩
|j+1=>by
   obtain⟨r,hr⟩:=rP b i j;exact⟨r++frB (chB b (i+j)),by rw[show i+(j+1)=(i+j)+1 by omega,nG,hr,WL]⟩
theorem DZ{b:By}{i n:Nat}(h:i<n):∃ r,dX b n=dX b i++(frB (chB b i)++r):=by
 obtain⟨r,hr⟩:=rP b (i+1) (n-(i+1));rw[show i+1+(n-(i+1))=n by omega,nG] at hr;exact⟨r,by rw[hr,WL]⟩
theorem Mq{x:By}(h:x.length=128):¬ ((hX x).length≠0∧(hX x).length≠128)∧M1 (hX x)=x:=by
 unfold hX
 split
 · rename_i hh
   refine⟨by simp,?_⟩;show W4 128 0=x
   symm
   rw[List.eq_replicate_iff];refine⟨h,fun c hc=>?_⟩;obtain⟨i,hi,rfl⟩:=Xn hc;have:=hh i hi;simpa[WI,hi] using this
 ·exact⟨by omega,by unfold M1;rw[Wt (by omega)]⟩
section
variable {im pre rest b:List UInt8}(him:im=pre++(cD b++rest))
include him
theorem BX{i:Nat}(h:i<b.length/128):cM im (pre.length+(dX b i).length:Nat)=(hX (chB b i),((pre.length+(dX b (i+1)).length:Nat):Int),0)∧lQ im (pre.length+(dX b i).length:Nat)=(((pre.length+(dX b (i+1)).length:Nat):Int),0):=by
 obtain⟨r,hr⟩:=DZ (b:=b) h;have e:im=(pre++dX b i)++((bW (hX (chB b i))).1++(r++rest)):=by
  rw[him,show cD b=dX b (b.length/128) from rfl,hr];show _=(pre++dX b i)++(frB (chB b i)++(r++rest))
  simp
 have hl:(hX (chB b i)).length≤128:=W9 (JO _) (uY _ _);have h1:=rL hl (pre++dX b i) (r++rest);rw[←e,Ww] at h1;have hs:(dX b (i+1)).length=(dX b i).length+(bW (hX (chB b i))).1.length:=by rw[nG,Ww];rfl
 refine⟨?_,?_⟩
 · rw[h1.1]
   refine Yl rfl (Yl ?_ rfl);show ((pre.length+(dX b i).length:Nat):Int)+_=((pre.length+(dX b (i+1)).length:Nat):Int)
   omega
 · rw[h1.2]
   refine Yl ?_ rfl;show ((pre.length+(dX b i).length:Nat):Int)+_=((pre.length+(dX b (i+1)).length:Nat):Int)
   omega
end
theorem Ct{im pre rest b:By}(him:im=pre++(cD b++rest))(n:Nat)(hn:b.length/128*128≤n):∀ k i,k=b.length/128-i→i≤b.length/128 →
 Cw im 0 n k i (pre.length+(dX b i).length:Nat) (b.take (i*128))=(b.take (b.length/128*128),0)
|0,i,hk,hi=>by
   rw[show i=b.length/128 by omega];rfl
|k+1,i,hk,hi=>by
   have hN:b.length/128*128≤b.length:=Nat.div_mul_le_self _ _;have hi2:(i+1)*128≤b.length/128*128:=Xh 128 (show i+1≤b.length/128 by omega);obtain⟨h1,h2⟩:=BX him (i:=i) (by omega);obtain⟨g1,g2⟩:=Mq (yB (b:=b) (i:=i) (by omega));have hl:(b.take (i*128)).length=i*128:=by rw[WB];omega
   rw[GT (by omega) (by omega) (by rw[h1];rintro(h|h);exact h rfl;exact g1 h),h1,g2];have e:b.take (i*128)++((chB b i).drop (0-i*128)).take (n-(b.take (i*128)).length)=b.take ((i+1)*128):=by
    have hc:=yB (b:=b) (i:=i) (by omega);have e1:((chB b i).drop (0-i*128)).take (n-(b.take (i*128)).length)=chB b i:=by
     rw[show 0-i*128=0 by omega,List.drop_zero];exact WJ (by omega)
    rw[e1];unfold chB;rw[show (i+1)*128=i*128+128 by omega,List.take_add]
   rw[e];exact Ct him n hn k (i+1) (by omega) (by omega)
theorem Ed{im pre rest b:By}(him:im=pre++(cD b++rest))(hb:b.length≤4096):kE im (pre.length:Nat) (b.length:Nat) 0 (b.length:Nat)=(b.take (b.length/128*128),0):=by
 by_cases h:b.length/128*128≤0
 · have:=zV (im:=im) (start:=(pre.length:Nat)) (off:=0) (n:=b.length) hb h
   rw[show b.length/128*128=0 by omega];exact this
 · have h1:=IQ (im:=im) (start:=(pre.length:Nat)) (n:=b.length) hb h
   have h2:=Ct him b.length (Nat.div_mul_le_self _ _) (b.length/128) 0 rfl (WG _);rw[Nat.zero_mul,YH] at h2;exact h1.trans h2
theorem Ec{im b:By}{start:Int}(hb:b.length/128=0):kE im start (b.length:Nat) 0 (b.length:Nat)=(b.take (b.length/128*128),0):=by
 have:=zV (im:=im) (start:=start) (size:=b.length) (off:=0) (n:=b.length) (by omega) (by omega);rw[hb];exact this
theorem BP{im pre rest b:By}(him:im=pre++(cD b++rest)){e:Int}(he:((pre.length+(cD b).length:Nat):Int)≤e):∀ k i,k=b.length/128-i→i≤b.length/128 →
 AO im e k (pre.length+(dX b i).length:Nat)=(((pre.length+(cD b).length:Nat):Int),0)
|0,i,hk,hi=>by
   rw[show i=b.length/128 by omega];rfl
|k+1,i,hk,hi=>by
   obtain⟨h1,h2⟩:=BX him (i:=i) (by omega);obtain⟨r,hr⟩:=rP b (i+1) (b.length/128-(i+1));rw[show i+1+(b.length/128-(i+1))=b.length/128 by omega] at hr;have h4:(dX b (i+1)).length≤(cD b).length:=by show _≤(dX b (b.length/128)).length;rw[hr,Ww];omega
   rw[Lf (by rw[h2];rintro(h|h);exact h rfl;have h:e<((pre.length+(dX b (i+1)).length:Nat):Int):=h;omega),h2];exact BP him he k (i+1) (by omega) (by omega)
def DM(B b:By)(st:Nat):Prop:=(cD b=[]∧st=0)∨(cD b≠[]∧∃ pre rest,B=pre++(cD b++rest)∧st=64+pre.length)
def yO(s:DS):Prop:=∀ a v,gH s.m a=some v→∃ pre rest,s.B=pre++(a.1++rest)∧64+pre.length=v
theorem yO.zero:yO ⟨[],[]⟩:=fun a v h=>by cases h
theorem HW(s:DS)(b:By):∃ z,(iD 64 s b).1.B=s.B++z:=by
 unfold iD K6
 split
 ·exact⟨[],by simp⟩
 · split
   ·exact⟨[],by simp⟩
   ·exact⟨_,rfl⟩
theorem HX{s:DS}(h:yO s)(b:By)(hb:(cD b).length≤maxLen):yO (iD 64 s b).1∧DM (iD 64 s b).1.B b (iD 64 s b).2:=by
 by_cases hr:cD b=[]
 · have e:iD 64 s b=(s,0):=by unfold iD;rw[Wu hr]
   rw[e];exact⟨h,.inl ⟨hr,rfl⟩⟩
 · cases hf:gH s.m (jT (cD b)) with
  |some k=>
     have e:iD 64 s b=(s,k):=DK (fun e=>hr (WM.1 e)) hf;rw[e];obtain⟨pre,rest,h1,h2⟩:=h _ _ hf;rw[pO hb] at h1;exact⟨h,.inr ⟨hr,pre,rest,h1,h2.symm⟩⟩
  |none=>
     have e:iD 64 s b=(⟨s.B++cD b,s.m++[(jT (cD b),64+s.B.length)]⟩,64+s.B.length):=DL (fun e=>hr (WM.1 e)) hf;rw[e];refine⟨fun a v hv=>?_,.inr ⟨hr,s.B,[],by simp,rfl⟩⟩;have hv:gH (s.m++[(jT (cD b),64+s.B.length)]) a=some v:=hv;rw[EI] at hv;show ∃ pre rest,s.B++cD b=pre++(a.1++rest)∧64+pre.length=v;cases ha:gH s.m a with
    |some k=>
       rw[ha] at hv;have hkv:k=v:=by simpa using hv
       subst hkv;obtain⟨pre,rest,h1,h2⟩:=h a k ha;exact⟨pre,rest++cD b,by rw[h1];simp,h2⟩
    |none=>
       rw[ha] at hv;by_cases hk:jT (cD b)=a
       · have hv:64+s.B.length=v:=by simpa[hk] using hv
         refine⟨s.B,[],?_,hv⟩;rw[←hk,pO hb,XK]
       ·simp[hk] at hv
theorem DM.more{B b z:By}{st:Nat}(h:DM B b st):DM (B++z) b st:=by
 rcases h with h|⟨h,pre,rest,h1,h2⟩
 ·exact .inl h
 ·exact .inr ⟨h,pre,rest++z,by rw[h1];simp,h2⟩
def TlS(L:List By)(t:By)(fr off:Nat):Prop:=(t=[]∧fr=0∧off=0)∨(0<t.length∧∃ (n:Nat) (a z:By),n<L.length∧fr=n+1∧off=a.length∧L.getD n []=a++(t++z))
def ExL(A B:List By):Prop:=A.length≤B.length∧∀ q,q<A.length→∃ z,B.getD q []=A.getD q []++z
theorem TlS.ext{A B:List By}{t:By}{fr off:Nat}(h:TlS A t fr off)(k:ExL A B):TlS B t fr off:=by
 rcases h with h|⟨h,n,a,z,h1,h2,h3,h4⟩
 ·exact .inl h
 · obtain⟨y,hy⟩:=k.2 n h1
   exact .inr ⟨h,n,a,z++y,Xk h1 k.1,h2,h3,by rw[hy,h4];simp⟩
def yX(L:List By):Prop:=∀ b∈L,0<b.length∧b.length≤128
theorem K5{L:List By}(hL:yX L){t:By}(ht:t.length<128):ExL L (kW L t).1∧yX (kW L t).1∧(kW L t).1.length≤L.length+1∧TlS (kW L t).1 t (kW L t).2.1 (kW L t).2.2:=by
 unfold kW;by_cases h0:t.length<1
 · rw[Wu (yI (.inl h0))]
   exact⟨⟨WC _,fun q _=>⟨[],by simp⟩⟩,hL,Nat.le_succ _,.inl ⟨WM.1 (by omega),rfl,rfl⟩⟩
 · rw[Wt (by rw[vA ⟨by omega,ht⟩];simp)]
   by_cases hn:L=[]∨128<(L.getD (L.length-1) []).length+t.length
   · rw[Wu hn]
     refine⟨⟨by simp,fun q hq=>⟨[],by rw[WI,WI,List.getElem?_append_left hq];simp⟩⟩,fun b hb=>?_,by simp,.inr ⟨by omega,L.length,[],[],by simp,rfl,rfl,by simp[WI]⟩⟩;rcases WZ.1 hb with hb|hb
     ·exact hL b hb
     ·rw[WY] at hb;subst hb;omega
   · rw[Wt hn]
     have hne:L≠[]:=fun e=>hn (.inl e);have hl:=WN.2 hne;have hsum:(L.getD (L.length-1) []).length+t.length≤128:=Nat.le_of_not_lt (fun h=>hn (.inr h));have hlast:(L.set (L.length-1) (L.getD (L.length-1) []++t)).getD (L.length-1) []=L.getD (L.length-1) []++t:=by
      rw[WI,XT,Wu rfl,Wu (by omega)];rfl
     refine⟨⟨by simp,fun q hq=>?_⟩,fun b hb=>?_,by simp,.inr ⟨by omega,L.length-1,L.getD (L.length-1) [],[],by rw[XH];omega,by show L.length=_;omega,rfl,by rw[hlast];simp⟩⟩
     · by_cases e:q=L.length-1
       ·subst e;exact⟨t,hlast⟩
       ·exact⟨[],by rw[WI,XT,Wt (fun h=>e h.symm)];simp[WI]⟩
     · rcases List.mem_or_eq_of_mem_set hb with hb|hb
       ·exact hL b hb
       ·rw[hb,Ww];omega
def FOk(B:By)(L:List By)(d:By)(f:Ino):Prop:=
 ∃ st fr off:Nat,f=(fun j=>[2,0,0,0,0,0,(st:Int),(d.length:Int),(fr:Int),(off:Int)].getD j 0,[])∧DM B d st∧TlS L (cR d) fr off
structure FI (V:List Nd)(n:Nat)(s:FSt):Prop where
 g:yO s.ds
 t:yX s.tails
 tn:s.tails.length≤V.length
 l:s.files.length=n
 b:s.ds.B.length≤4320*V.length
 f:∀ i f,s.files[i]?=some f→f=cO∨∃ x∈V,x.kind=2∧x.ino.toNat=i∧FOk s.ds.B s.tails x.data f
 a:∀ x∈V,x.kind=2→(s.files.getD x.ino.toNat cO).1 0=2
theorem GE(d:By):(cR d).length<128:=by unfold cR;rw[WE];omega
theorem NO(d:By)(h:d.length≤4096):(cD d).length≤maxLen:=by
 have:=kC d (d.length/128);have:(cD d).length≤135*(d.length/128):=this.1;unfold maxLen;omega
theorem OO(s:DS)(b:By)(h:b.length≤4096):(iD 64 s b).1.B.length≤s.B.length+4320:=by
 have h1:(cD b).length≤135*(b.length/128):=(kC b (b.length/128)).1;unfold iD K6
 split
 ·exact YM _ _
 · split
   ·exact YM _ _
   · show (s.B++cD b).length≤_
     rw[Ww];omega
theorem Dh{V:List Nd}{n:Nat}{s:FSt}(h:FI V n s){x:Nd}(hx:0≤x.ino∧x.ino<n)(hd:x.data.length≤4096):FI (V++[x]) n (iI s x):=by
 unfold iI;by_cases hc:x.kind≠2∨(s.files.getD x.ino.toNat cO).1 0=2
 · rw[Wu hc]
   refine⟨h.g,h.t,by rw[Ww];exact W9 h.tn (YM _ _),h.l,by rw[Ww];have:=h.b;omega,fun i f hf=>(h.f i f hf).imp id (fun⟨y,hy,r⟩=>⟨y,Ye _ hy,r⟩),fun y hy hk=>?_⟩;rcases WZ.1 hy with hy|hy
   ·exact h.a y hy hk
   · rw[WY] at hy;subst hy
     exact hc.resolve_left (fun h=>h hk)
 · rw[Wt hc]
   have hk:x.kind=2:=WH fun h=>hc (.inl h);obtain⟨g1,g2⟩:=HX h.g x.data (NO _ hd);obtain⟨a1,a2,a3,a4⟩:=K5 h.t (GE x.data);obtain⟨z,hz⟩:=HW s.ds x.data;refine⟨g1,a2,by rw[Ww];exact W9 a3 (Nat.add_le_add_right h.tn 1),by show (s.files.set _ _).length=n;rw[XH];exact h.l,by
    have h1:=OO s.ds x.data hd;have:=h.b;show (iD 64 s.ds x.data).1.B.length≤_;rw[Ww];simp only[WF];omega,fun i f hf=>?_,fun y hy hk2=>?_⟩
   · have hf:(s.files.set x.ino.toNat _)[i]?=some f:=hf
     rw[XT] at hf;by_cases e:x.ino.toNat=i
     · rw[Wu e] at hf
       split at hf
       · cases hf
         exact .inr ⟨x,by simp,hk,e,_,_,_,rfl,g2,a4⟩
       ·cases hf
     · rw[Wt e] at hf
       rcases h.f i f hf with hf|⟨y,hy,k1,k2,st,fr,off,k3,k4,k5⟩
       ·exact .inl hf
       ·exact .inr ⟨y,Ye _ hy,k1,k2,st,fr,off,k3,by show DM (iD 64 s.ds x.data).1.B _ _;rw[hz];exact k4.more,k5.ext a1⟩
   · show ((s.files.set x.ino.toNat _).getD y.ino.toNat cO).1 0=2
     rw[WI,XT];by_cases e:x.ino.toNat=y.ino.toNat
     ·rw[Wu e,Wu (by rw[h.l];omega)];rfl
     · rw[Wt e]
       rcases WZ.1 hy with hy|hy
       ·exact h.a y hy hk2
       ·rw[WY] at hy;subst hy;exact absurd rfl e
theorem Au{n:Nat}:∀ (L V:List Nd) (s:FSt),FI V n s→(∀ x∈L,(0≤x.ino∧x.ino<n)∧x.data.length≤4096)→FI (V++L) n (L.foldl iI s)
|[],V,s,h,_=>by rw[XK];exact h
|x::r,V,s,h,hL=>by
   have h1:=Dh h (hL x (by simp)).1 (hL x (by simp)).2;have h2:=Au r (V++[x]) _ h1 (fun y hy=>hL y (by simp[hy]));rw[WL] at h2;exact h2
theorem Bx{qs:List (NdH×Nd)}(h:∀ q∈qs,(1≤q.2.ino∧q.2.ino≤qs.length)∧q.2.data.length≤4096):FI (nds qs) (qs.length+1) (aV qs):=by
 have h0:FI [] (qs.length+1) ⟨⟨[],[]⟩,[],W4 (qs.length+1) cO⟩:=⟨yO.zero,(by intro b hb;cases hb),WC _,Xl,WC _,fun i f hf=>.inl (by
  have:=Wz hf;exact Y8 this),(by intro x hx;cases hx)⟩
 have:=Au (nds qs) [] _ h0 (fun x hx=>by
  obtain⟨q,hq,rfl⟩:=WS.1 hx;have:=h q hq;omega)
 exact this
theorem jZ:∀ (L:List By) (s:DS),(dD L s).2.length=L.length
|[],_=>rfl
|t::r,s=>by show ((_::(dD r (lY 64 s t).1).2).length=_);rw[WT,jZ r,WT]
theorem nA:∀ (L:List By) (s:DS),∃ z,(dD L s).1.B=s.B++z∧z.length≤(L.map (fun t=>(bW t).1.length)).sum
|[],s=>⟨[],by simp[dD],by simp⟩
|t::r,s=>by
   obtain⟨z,hz,hl⟩:=nA r (lY 64 s t).1;refine⟨(bW t).1++z,?_,?_⟩
   · show (dD r (lY 64 s t).1).1.B=_
     rw[hz];show (s.B++(bW t).1)++z=_;rw[WL]
   ·rw[Ww,Xo,sum_cons];omega
theorem uC:∀ (L:List By) (s:DS) (j:Nat),j<L.length→∃ pre rest,(dD L s).1.B=pre++((bW (L.getD j [])).1++rest)∧(dD L s).2.getD j 0=64+(pre.length:Int)
|[],s,j,h=>absurd h (Nat.not_lt_zero _)
|t::r,s,0,_=>by
   obtain⟨z,hz,_⟩:=nA r (lY 64 s t).1;refine⟨s.B,z,?_,?_⟩
   · show (dD r (lY 64 s t).1).1.B=_
     rw[hz];show (s.B++(bW t).1)++z=_;rw[WL];rfl
   · show ((64+s.B.length:Nat):Int)=_
     omega
|t::r,s,j+1,h=>uC r (lY 64 s t).1 j (Nat.lt_of_succ_lt_succ h)
theorem Gg{F:Nat→Int}:∀ (L:List Fd) (G:Nat→Int) (t:By),(∀ x∈L,(1≤x.b∧x.b≤4)∧0≤F x.o∧F x.o<256 ^ x.b.toNat)→L.foldl gF ((0,dG F L++t),G)=((0,t),fun o=>if o∈L.map (·.o) then F o else G o)
|[],G,t,_=>by simp[dG]
|x::r,G,t,h=>by
   obtain⟨⟨b1,b4⟩,h0,hx⟩:=h x (by simp);have e:dG F (x::r)++t=le (F x.o) x.b.toNat++(dG F r++t):=by simp[dG]
   obtain⟨g1,g2⟩:=Ow (n:=x.b.toNat) (x:=F x.o) (by omega) (by omega) h0 hx (dG F r++t);rw[show ((x.b.toNat:Nat):Int)=x.b by omega] at g1 g2;have hs:gF ((0,dG F (x::r)++t),G) x=((0,dG F r++t),upd G x.o (F x.o)):=by
    unfold gF;rw[e];simp only;rw[g1,g2]
   rw[List.foldl_cons,hs,Gg r _ t (fun y hy=>h y (by simp[hy]))];refine Yl rfl (funext fun o=>?_);simp only[Xo,W5];by_cases ho:o∈r.map (·.o)
   ·rw[Wu ho,Wu (.inr ho)]
   · rw[Wt ho]
     by_cases hx2:o=x.o
     ·rw[Wu (.inl hx2)];subst hx2;simp[upd]
     ·rw[Wt (fun h=>h.elim hx2 ho)];simp[upd,hx2]
theorem Lr{F:Nat→Int}(h:lG F):∀ x∈suL,(1≤x.b∧x.b≤4)∧0≤F x.o∧F x.o<256 ^ x.b.toNat:=by
 obtain⟨⟨a1,a2,a3,a4,a5,a6,a7⟩,b1,b2,b3,b4,b5,b6,b7,b8⟩:=h;intro x hx;simp only[suL,W5,Xm,or_false] at hx;rcases hx with rfl|rfl|rfl|rfl|rfl|rfl|rfl|rfl|rfl|rfl
 ·exact⟨by decide,by show 0≤F 0;omega,by show F 0<4294967296;omega⟩
 ·exact⟨by decide,by show 0≤F 2;omega,by show F 2<4294967296;omega⟩
 ·exact⟨by decide,by show 0≤F 3;omega,by show F 3<4294967296;omega⟩
 ·exact⟨by decide,by show 0≤F 4;omega,by show F 4<4294967296;omega⟩
 ·exact⟨by decide,by show 0≤F 5;omega,by show F 5<4294967296;omega⟩
 ·exact⟨by decide,by show 0≤F 6;omega,by show F 6<4294967296;omega⟩
 ·exact⟨by decide,by show 0≤F 9;omega,by show F 9<4294967296;omega⟩
 ·exact⟨by decide,by show 0≤F 1;omega,by show F 1<65536;omega⟩
 ·exact⟨by decide,by show 0≤F 7;omega,by show F 7<65536;omega⟩
 ·exact⟨by decide,by show 0≤F 8;omega,by show F 8<65536;omega⟩
theorem Iq(o:Nat):o∈suL.map (·.o)↔o<10:=by
 show o∈[0,2,3,4,5,6,9,1,7,8]↔_;simp only[W5,Xm,or_false];omega
theorem Ls{F:Nat→Int}(h:lG F)(h0:∀ o,10≤o→F o=0)(rest:By):suF (suB F++rest)=F:=by
 have e:((suB F++rest).take 64).drop 4=dG F suL++(le (fG (suH F):Nat) 4++W4 22 0):=by
  rw[Xz (nC F)];unfold suB suH;rw[WL];exact Xs (show suM.length=4 from rfl)
 unfold suF suQ;rw[e,Gg suL zF _ (Lr h)];funext o;show (if o∈suL.map (·.o) then F o else zF o)=F o;by_cases ho:o<10
 ·rw[Wu ((Iq o).2 ho)]
 ·rw[Wt (fun h=>ho ((Iq o).1 h)),h0 o (by omega)];rfl
theorem BZ{F:Nat→Int}(h:lG F)(h0:∀ o,10≤o→F o=0)(rest:By)(hs:F 0=64+(rest.length:Int)):aO (suB F++rest)=(F,0):=by
 have hl:=nC F;have hF:=Ls h h0 rest;have hok:jJ (suB F++rest):=by
  unfold jJ;rw[hF];exact⟨by rw[Ww];omega,h,Xz hl,by rw[Ww];omega⟩
 unfold aO;rw[Wu hok,hF]
theorem Dr{L:List Ent}(h:cX [] L):nZ L=(bZ L,0)∧Kr (bZ L)=(L,0):=by
 refine⟨?_,Kq h rfl⟩;unfold nZ;rw[Wu h]
section
open Go Go.RowKit Go.Maps
def At3(T X:By)(o:Nat):Prop:=∃ pre rest,T=pre++(X++rest)∧pre.length=o
theorem At3.more{T X z:By}{o:Nat}(h:At3 T X o):At3 (T++z) X o:=by
 obtain⟨pre,rest,h1,h2⟩:=h;exact⟨pre,rest++z,by rw[h1];simp,h2⟩
theorem At3.le{T X:By}{o:Nat}(h:At3 T X o):o+X.length≤T.length:=by
 obtain⟨pre,rest,h1,h2⟩:=h;rw[h1,Ww,Ww];omega
theorem At3.drop{T X:By}{o:Nat}(h:At3 T X o):∃ rest,T.drop o=X++rest:=by
 obtain⟨pre,rest,h1,h2⟩:=h;exact⟨rest,by rw[h1,←h2,Xs rfl]⟩
theorem At3.new(T X:By):At3 (T++X) X T.length:=⟨T,[],by simp,rfl⟩
theorem fM{T z:By}{o:Nat}(h:o≤T.length):aM (T++z) o=aM T o:=by
 rw[zU (T:=T++z) (by rw[Ww];omega),zU (T:=T) h,List.take_append_of_le_length h]
theorem LF(T:By){o p:Nat}(h:o<p):aM T o<aM T p:=by
 unfold aM;by_cases e:o/128=p/128
 ·rw[e];omega
 · have h1:(frW T (o/128+1)).length≤(frW T (p/128)).length:=xD (by omega)
   have h2:=Oy (T:=T) (o/128);omega
structure Ex (s t:BSt):Prop where
 i:∃ z,t.ino=s.ino++z
 l:∃ z,t.lst=s.lst++z
 f:∃ z,t.fur=s.fur++z
 r:∀ m,0<s.refs.getD m 0→t.refs.getD m 0=s.refs.getD m 0
theorem Ex.rfl{s:BSt}:Ex s s:=⟨⟨[],by simp⟩,⟨[],by simp⟩,⟨[],by simp⟩,fun _ _=>Eq.refl _⟩
theorem Ex.trans{s t u:BSt}(h:Ex s t)(k:Ex t u):Ex s u:=by
 obtain⟨⟨a,ha⟩,⟨b,hb⟩,⟨c,hc⟩,hr⟩:=h;obtain⟨⟨a',ha'⟩,⟨b',hb'⟩,⟨c',hc'⟩,hr'⟩:=k;exact⟨⟨a++a',by rw[ha',ha,WL]⟩,⟨b++b',by rw[hb',hb,WL]⟩,⟨c++c',by rw[hc',hc,WL]⟩,fun m hm=>by rw[hr' m (by rw[hr m hm];exact hm),hr m hm]⟩
def XrI(s:BSt)(X:List Xa)(xr:Int):Prop:=(X=[]∧xr=0)∨(X≠[]∧∃ o,xr=((aM s.fur o:Nat):Int)+1∧At3 s.fur (cU X) o)
theorem XrI.ex{s t:BSt}{X:List Xa}{xr:Int}(h:XrI s X xr)(e:Ex s t):XrI t X xr:=by
 rcases h with h|⟨h,o,h1,h2⟩
 ·exact .inl h
 · obtain⟨z,hz⟩:=e.f
   have:=h2.le;exact .inr ⟨h,o,by rw[hz,fM (by omega)];exact h1,by rw[hz];exact h2.more⟩
def fV(qs:List (NdH×Nd))(s:BSt)(ys:List Int):List Ent:=ys.map fun j=>(bI (ndB qs j).names,(ndB qs j).kind,s.refs.getD (ndB qs j).ino.toNat 0-1)
def Ch(qs:List (NdH×Nd))(s:BSt)(ys:List Int):Prop:=∀ j∈ys,0<s.refs.getD (ndB qs j).ino.toNat 0
theorem Ch.ex{qs:List (NdH×Nd)}{s t:BSt}{ys:List Int}(h:Ch qs s ys)(e:Ex s t):Ch qs t ys:=fun j hj=>by rw[e.r _ (h j hj)];exact h j hj
theorem BA{qs:List (NdH×Nd)}{s t:BSt}{ys:List Int}(h:Ch qs s ys)(e:Ex s t):fV qs t ys=fV qs s ys:=by
 unfold fV;apply X5;intro j hj;rw[e.r _ (h j hj)]
def MJ(s:BSt)(o n:Nat):Ino:=(fun j=>if j=6 then ((aM s.lst o:Nat):Int) else if j=7 then (n:Int) else 0,[])
def KiI(qs:List (NdH×Nd))(files:List Ino)(s:BSt)(q:Nd)(i:Ino):Prop:=
 (q.kind=2→i=files.getD q.ino.toNat cO)∧(q.kind=3→i=(zF,q.tgt)) ∧
 (q.kind=1→Ch qs s (bA qs q.names qs.length)∧∃ o,i=MJ s o (bZ (fV qs s (bA qs q.names qs.length))).length∧At3 s.lst (bZ (fV qs s (bA qs q.names qs.length))) o)
theorem KiI.ex{qs:List (NdH×Nd)}{files:List Ino}{s t:BSt}{q:Nd}{i:Ino}(h:KiI qs files s q i)(e:Ex s t):KiI qs files t q i:=by
 obtain⟨h1,h2,h3⟩:=h;refine⟨h1,h2,fun hk=>?_⟩;obtain⟨a,o,b,c⟩:=h3 hk;obtain⟨z,hz⟩:=e.l;have hl:=c.le;have he:=BA a e;refine⟨a.ex e,o,?_,?_⟩
 ·rw[he,b];unfold MJ;rw[hz,fM (by omega)]
 ·rw[he,hz];exact c.more
def M6(qs:List (NdH×Nd))(ids:List Int)(files:List Ino)(s:BSt)(m:Nat):Prop:=
 ∃ (k:Nat) (q:NdH×Nd) (i:Ino) (xr:Int) (o:Nat),qs[k]?=some q∧q.2.ino=(m:Int)∧s.refs.getD m 0=((aM s.ino o:Nat):Int)+1∧fU (inB qs ids k i xr).1 (inB qs ids k i xr).2∧At3 s.ino (fL (inB qs ids k i xr)) o∧XrI s q.2.xs xr∧KiI qs files s q.2 i
theorem M6.ex{qs:List (NdH×Nd)}{ids:List Int}{files:List Ino}{s t:BSt}{m:Nat}(h:M6 qs ids files s m)(h0:0<s.refs.getD m 0)(e:Ex s t):M6 qs ids files t m:=by
 obtain⟨k,q,i,xr,o,h1,h2,h3,h4,h5,h6,h7⟩:=h;obtain⟨z,hz⟩:=e.i;have hl:=h5.le;exact⟨k,q,i,xr,o,h1,h2,by rw[e.r m h0,hz,fM (by omega)];exact h3,h4,by rw[hz];exact h5.more,h6.ex e,h7.ex e⟩
def lW(s:BSt):List Int:=s.refs.filter (fun r=>decide (0<r))
structure lP (qs:List (NdH×Nd))(ids:List Int)(files:List Ino)(s:BSt):Prop where
 std:∀ m,0<s.refs.getD m 0→M6 qs ids files s m
 rl:s.refs.length=qs.length+1
 rn:∀ m,0≤s.refs.getD m 0
 sets:∀ y∈s.sets,∃ o,y.2=((aM s.fur o:Nat):Int)∧At3 s.fur (cU y.1) o
 many:s.many=(lW s).length
 dist:∀ m n,0<s.refs.getD m 0→s.refs.getD m 0=s.refs.getD n 0→m=n
 bi:s.ino.length≤214*s.many
 bf:s.fur.length≤4200*s.many
 sn:s.sets.length≤s.many
 sh:shS s
theorem xI{l:List Int}{m:Nat}{v:Int}(h:m<l.length)(h0:l.getD m 0≤0)(hv:0<v):((l.set m v).filter (fun r=>decide (0<r))).length=(l.filter (fun r=>decide (0<r))).length+1:=by
 have e:l=l.take m++l.getD m 0::l.drop (m+1):=by
  rw[show l.getD m 0=l[m] by simp[WI,h],←Xv h,WX]
 have e2:l.set m v=l.take m++v::l.drop (m+1):=List.set_eq_take_append_cons_drop .. |>.trans (by rw[Wu h]);rw[e2]
 conv=>rhs;rw[e]
 rw[XQ,XQ,Yi (by simpa using hv),List.filter_cons_of_neg (by simp only[decide_eq_true_eq];omega)];simp;omega
theorem Pk{l:List Int}{m n:Nat}{v:Int}(h:m<l.length):(l.set m v).getD n 0=if n=m then v else l.getD n 0:=by
 rw[WI,XT];by_cases e:m=n
 ·subst e;rw[Wu rfl,Wu h,Wu rfl];rfl
 ·rw[Wt e,Wt (fun h=>e h.symm)];rfl
theorem sF{X:List Xa}(h:dF X):(cU X).length≤4200:=by
 have hb:∀ x∈X,x.1.length≤255∧x.2.length≤255:=fun x hx=>by
  obtain⟨i,hi,rfl⟩:=Xn hx;obtain⟨_,g2,_,g4⟩:=h.1 i hi;have e:X.getD i x0=X[i]:=by simp[WI,hi]
  rw[e] at g2 g4;omega
 have key:∀ Y:List Xa,(∀ x∈Y,x.1.length≤255∧x.2.length≤255)→(Y.flatMap gB).length≤512*Y.length:=by
  intro Y
  induction Y with
 |nil=>intro _;exact WC _
 |cons x r ih=>
    intro hy;have h1:=hy x (by simp);have h2:=ih (fun y h=>hy y (by simp[h]));have e:(gB x).length=(1+x.1.length)+(1+x.2.length):=by unfold gB;rw[Ww,qV,qV]
    rw[XD,Ww,WT,e];omega
 have h1:=key X hb;have h2:=h.2;unfold cU;rw[WT];omega
section
variable {qs:List (NdH×Nd)}{ids:List Int}{files:List Ino}
theorem JV{s:BSt}(h:lP qs ids files s){X:List Xa}(hX:dF X) :
 XrI (cJ s X).2 X (cJ s X).1∧Ex s (cJ s X).2∧(cJ s X).2.refs=s.refs∧(cJ s X).2.many=s.many∧(cJ s X).2.ino=s.ino∧(cJ s X).2.lst=s.lst∧(cJ s X).2.fur.length≤s.fur.length+4200 ∧
 (∀ y∈(cJ s X).2.sets,∃ o,y.2=((aM (cJ s X).2.fur o:Nat):Int)∧At3 (cJ s X).2.fur (cU y.1) o)∧0≤(cJ s X).1∧shS (cJ s X).2∧(cJ s X).2.sets.length≤s.sets.length+1:=by
 have hsh:shS (cJ s X).2:=Gi h.sh (fun x hx=>by
  obtain⟨i,hi,rfl⟩:=Xn hx;obtain⟨_,g2,_,_⟩:=hX.1 i hi;have e:X.getD i x0=X[i]:=by simp[WI,hi]
  rw[e] at g2;omega)
 by_cases h0:X.length=0
 · have e:cJ s X=(0,s):=by unfold cJ;rw[Wu h0]
   rw[e] at hsh ⊢;exact⟨.inl ⟨WM.1 h0,rfl⟩,.rfl,rfl,rfl,rfl,rfl,YM _ _,h.sets,Int.le_refl _,hsh,Nat.le_succ _⟩
 · have hne:X≠[]:=fun e=>h0 (by rw[e];rfl)
   cases hf:s.sets.find? (fun y=>decide (y.1=X)) with
  |some y=>
     have e:cJ s X=(y.2+1,s):=by unfold cJ;rw[Wt h0,hf]
     rw[e] at hsh ⊢;obtain⟨o,h1,h2⟩:=h.sets y (Yz hf);have h3:y.1=X:=by simpa using List.find?_some hf
     exact⟨.inr ⟨hne,o,by rw[h1],by rw[←h3];exact h2⟩,.rfl,rfl,rfl,rfl,rfl,YM _ _,h.sets,by show 0≤y.2+1;omega,hsh,Nat.le_succ _⟩
  |none=>
     have e:cJ s X=(((aM s.fur s.fur.length:Nat):Int)+1,{ s with fur:=s.fur++(kF X).1,sets:=s.sets++[(X,((aM s.fur s.fur.length:Nat):Int))] }):=by unfold cJ;rw[Wt h0,hf]
     have hp:(kF X).1=cU X:=by rw[rR hX (by omega)]
     rw[hp] at e;rw[e] at hsh ⊢;have hl:=sF hX;refine⟨.inr ⟨hne,s.fur.length,by show _=((aM (s.fur++cU X) s.fur.length:Nat):Int)+1;rw[fM (WC _)],.new _ _⟩,⟨⟨[],by simp⟩,⟨[],by simp⟩,⟨_,rfl⟩,fun _ _=>rfl⟩,rfl,rfl,rfl,rfl,by show (s.fur++cU X).length≤_;rw[Ww];omega,fun y hy=>?_,by show (0:Int)≤((aM _ _:Nat):Int)+1;omega,hsh,by show (s.sets++_).length≤_;rw[Ww];exact WC _⟩;show ∃ o,y.2=((aM (s.fur++cU X) o:Nat):Int)∧At3 (s.fur++cU X) (cU y.1) o;rcases WZ.1 hy with hy|hy
     · obtain⟨o,h1,h2⟩:=h.sets y hy
       have:=h2.le;exact⟨o,by rw[fM (by omega)];exact h1,h2.more⟩
     · rw[WY] at hy;subst hy
       exact⟨s.fur.length,by rw[fM (WC _)],.new _ _⟩
theorem J6{s:BSt}(h:lP qs ids files s){k m:Nat}{q:NdH×Nd}(hq:qs[k]?=some q)(hm:q.2.ino=(m:Int))(hml:m≤qs.length)(h0:s.refs.getD m 0=0)(hX:dF q.2.xs){i:Ino}(hk:KiI qs files s q.2 i)
 (hmay:∀ xr,0≤xr→xr≤4294967295→fU (inB qs ids k i xr).1 (inB qs ids k i xr).2)(hn:qs.length≤40) :
 lP qs ids files (fB qs ids k i s)∧Ex s (fB qs ids k i s)∧0<(fB qs ids k i s).refs.getD m 0∧(∀ n,n≠m→(fB qs ids k i s).refs.getD n 0=s.refs.getD n 0)∧(fB qs ids k i s).lst=s.lst∧(fB qs ids k i s).many=s.many+1:=by
 have hmn:s.many≤41:=by
  have h1:=YL (fun r:Int=>decide (0<r)) s.refs;rw[h.many];unfold lW;rw[h.rl] at h1;omega
 obtain⟨x1,x2,x3,x4,x5,x6,x7,x8,x9,x10,x11⟩:=JV h hX;have hnd:=bC hq;obtain⟨R,hR⟩:∃ R,R=cJ s q.2.xs:=⟨_,rfl⟩
 rw[←hR] at x1 x2 x3 x4 x5 x6 x7 x8 x9 x10 x11;have hxr:R.1≤4294967295:=by
  rcases x1 with⟨_,e⟩|⟨_,o,e,ha⟩
  ·rw[e];decide
  · have h1:=ha.le
    have h2:=h.bf;have h3:=sC R.2.fur (o/128);rw[e];unfold aM;omega
 have hmy:=hmay R.1 x9 hxr;obtain⟨I,hI⟩:∃ I,I=inB qs ids k i R.1:=⟨_,rfl⟩
 rw[←hI] at hmy;have hput:(pS I.1 I.2).1=fL I:=by unfold pS fL;rw[Wu hmy]
 have hlen:=qW hmy;have hfix:fB qs ids (k:Int) i s = { R.2 with ino:=R.2.ino++fL I,refs:=R.2.refs.set m ((aM R.2.ino R.2.ino.length:Nat)+1),many:=R.2.many+1 }:=by
  unfold fB;rw[hnd,←hR,hm,Xd,←hI,hput]
 obtain⟨t,ht⟩:∃ t,t=fB qs ids (k:Int) i s:=⟨_,rfl⟩
 rw[←ht];have t1:t.ino=R.2.ino++fL I:=by rw[ht,hfix]
 have t2:t.refs=R.2.refs.set m ((aM R.2.ino R.2.ino.length:Nat)+1):=by rw[ht,hfix]
 have t3:t.many=R.2.many+1:=by rw[ht,hfix]
 have t4:t.fur=R.2.fur:=by rw[ht,hfix]
 have t5:t.lst=R.2.lst:=by rw[ht,hfix]
 have t6:t.sets=R.2.sets:=by rw[ht,hfix]
 have hrl:m<R.2.refs.length:=by rw[x3,h.rl];omega
 have hgd:∀ n,t.refs.getD n 0=if n=m then ((aM s.ino s.ino.length:Nat):Int)+1 else s.refs.getD n 0:=fun n=>by rw[t2,Pk hrl,x3,x5]
 have hex2:Ex R.2 t:=⟨⟨_,t1⟩,⟨[],by rw[t5];simp⟩,⟨[],by rw[t4];simp⟩,fun n hn=>by
  rw[hgd n,x3];by_cases e:n=m
  ·subst e;rw[x3,h0] at hn;exact absurd hn (by decide)
  ·rw[Wt e]⟩
 have hex:=x2.trans hex2;have hpos:0<t.refs.getD m 0:=by rw[hgd m,Wu rfl];omega
 have hmt:At3 t.ino (fL I) s.ino.length:=by rw[t1,x5];exact .new _ _
 have hrt:aM t.ino s.ino.length=aM s.ino s.ino.length:=by rw[t1,x5];exact fM (WC _)
 refine⟨⟨fun n hn=>?_,by rw[t2,XH,x3];exact h.rl,fun n=>?_,fun y hy=>?_,?_,fun a b ha hab=>?_,by rw[t1,t3,x5,x4,Ww];have:=h.bi;omega,by rw[t4,t3,x4];have:=h.bf;omega,by rw[t6,t3,x4];have:=h.sn;omega,fun y hy=>x10 y (by rw[←t6];exact hy)⟩,hex,hpos,fun n hn=>by rw[hgd n,Wt hn],by rw[t5,x6],by rw[t3,x4]⟩
 · by_cases e:n=m
   · subst e
     refine⟨k,q,i,R.1,s.ino.length,hq,hm,?_,by rw[←hI];exact hmy,by rw[←hI];exact hmt,x1.ex hex2,hk.ex hex⟩;rw[hgd n,Wu rfl,hrt]
   · have hn':0<s.refs.getD n 0:=by rw[hgd n,Wt e] at hn;exact hn
     exact(h.std n hn').ex hn' hex
 · rw[hgd n]
   split
   ·omega
   ·exact h.rn n
 · rw[t6] at hy
   rw[t4];exact x8 y hy
 · rw[t3,x4,h.many]
   unfold lW;rw[t2,xI hrl (by rw[x3,h0];exact Int.le_refl _) (by omega),x3]
 · have old:∀ c,c≠m→0<s.refs.getD c 0→s.refs.getD c 0<((aM s.ino s.ino.length:Nat):Int)+1:=fun c hc hp=>by
    obtain⟨_,_,_,_,o,_,_,e,hmy2,ha,_⟩:=h.std c hp;have h1:=ha.le;have h2:=qW hmy2;have h3:=LF s.ino (show o<s.ino.length by omega);rw[e];omega
   rw[hgd a] at ha hab;rw[hgd b] at hab;by_cases ea:a=m
   · by_cases eb:b=m
     ·rw[ea,eb]
     · rw[Wu ea,Wt eb] at hab
       have:=old b eb (by omega);omega
   · rw[Wt ea] at ha hab
     by_cases eb:b=m
     · rw[Wu eb] at hab
       have:=old a ea ha;omega
     · rw[Wt eb] at hab
       exact h.dist a b ha hab
end
end
theorem DwO.tight{D B:Nat→Prop}{w:World}{g p first:Nat}{s:DS}(h:DwO D w.heap g p first s)(hB:∀ k,k<w.heap.size→D k→B k)(hp:¬ B p):DwO B w.heap g p first s:=h.fresh (VK _ _) hB hp
theorem Ko(p first:Nat)(W:World)(ht:TbV W.heap p) :
 CA 21 [pT p,iV first] W fun v w'=>v=.pointer (some ⟨W.heap.size+1,0,none⟩)∧DwO (fun k=>W.heap.size≤k∧k<w'.heap.size) w'.heap (W.heap.size+1) p first ⟨[],[]⟩∧aA nob W w':=by
 have hpl:=(WD.1 ht).1;refine(MH p first W ht).mono ?_;rintro e w' ⟨v,rfl,rfl,h1,h2⟩;exact⟨_,rfl,rfl,h1.tight (fun k hk h=>⟨h,hk⟩) (fun h=>by omega),h2⟩
theorem Kt(A:Nat→Prop)(g p first:Nat)(s:DS)(bo:Option Addr)(bc:Nat)(b:By)(W:World)(hM:DwO A W.heap g p first s)(hv:Vw b8 W.heap bo bc b)(hfi:first≤1000)(hb:s.B.length≤1099511627776)(hbl:b.length≤1048576) :
 CA 66 [pT g,.slice bo b.length bc] W fun v w'=>∃ o c,v=.tuple #[iV ((iD first s b).2:Nat),.slice o (cR b).length c]∧Own b8 5 w'.heap o c (cR b)∧Fr W.heap.size o∧DwO (fun k=>Nx A W w' k∧¬ blk o k) w'.heap g p first (iD first s b).1∧aA A W w':=by
 obtain⟨ht,hp⟩:=hM.tab;have hpl:=(WD.1 ht).1;refine(MK (fun k=>A k∨W.heap.size≤k) g p first s bo bc b W (hM.mono (fun k h=>.inl h) (fun h=>h.elim hp (fun h=>by omega))) (fun k h=>.inr h) hv hfi hb hbl).mono ?_;rintro e w' ⟨v,rfl,o,c,rfl,h1,h2,h3,h4⟩;exact⟨_,rfl,o,c,rfl,h1,h2,h3.tight (fun k hk h=>⟨h.1.imp id (fun h=>⟨h,hk⟩),h.2⟩) (fun h=>h.1.elim hp (fun h=>by omega)),h4.nx⟩
theorem EQ(A:Nat→Prop)(g p first:Nat)(s:DS)(bo:Option Addr)(bc:Nat)(b:By)(W:World)(hM:DwO A W.heap g p first s)(hv:Vw b8 W.heap bo bc b)(hfi:first≤1000)(hb:s.B.length≤1099511627776)(hbl:b.length≤128) :
 CA 69 [pT g,.slice bo b.length bc] W fun v w'=>v=iV ((lY first s b).2:Nat)∧DwO (Nx A W w') w'.heap g p first (lY first s b).1∧aA A W w':=by
 obtain⟨ht,hp⟩:=hM.tab;have hpl:=(WD.1 ht).1;refine(HH (fun k=>A k∨W.heap.size≤k) g p first s bo bc b W (hM.mono (fun k h=>.inl h) (fun h=>h.elim hp (fun h=>by omega))) (fun k h=>.inr h) hv hfi hb hbl).mono ?_;rintro e w' ⟨v,rfl,rfl,h3,h4⟩;exact⟨_,rfl,rfl,h3.tight (fun k hk h=>h.imp id (fun h=>⟨h,hk⟩)) (fun h=>h.elim hp (fun h=>by omega)),h4.nx⟩
section
open Go Go.RowKit Go.Maps
structure PiA where
 lo:Option Addr
 lc:Nat
 io:Option Addr
 ic:Nat
 g1:Nat
 g2:Nat
 g3:Nat
 r:Nat
 f:Nat
 z:Nat
def piC(a:PiA)(n m:Nat):List Value:=[pT a.g1,pT a.g2,pT a.g3,.slice a.lo n a.lc,.slice a.io m a.ic,.map (some a.r),.map (some a.f),.map (some a.z)]
def fl0(f:Ino):Ino:=(fun j=>if j=0 then 0 else f.1 j,f.2)
def Bn(f:Ino):Value:=.agg (Ho f).toArray
def yY(m:List (I6×Value))(refs:List Int):Prop:=∀ a:I6,1≤a.1→cG m a=if 0<refs.getD a.1.toNat 0 then some (iV (refs.getD a.1.toNat 0-1)) else none
def Fa(m:List (I6×Value))(files:List Ino):Prop:=∀ a:I6,1≤a.1→cG m a=if (files.getD a.1.toNat cO).1 0=2 then some (Bn (fl0 (files.getD a.1.toNat cO))) else none
def EY(m:List (SK×Value))(sets:List (List Xa×Int)):Prop:=∀ X,dF X→X≠[]→cG m (jT (cU X))=(sets.find? (fun y=>decide (y.1=X))).map (fun y=>iV y.2)
def PiX(z:Nat)(a:PiA)(ow:Nat→Nat)(H:Array Obj)(g tp:Nat)(qs:List (NdH×Nd))(ids:List Int)(files:List Ino)(s:BSt):Prop:=
 (H[g]?=some (.cells (piC a qs.length ids.length).toArray 62 (0,0))∧ow g=6)∧(aQ (fun k=>ow k=4) H a.lo a.lc qs∧(qs≠[]→∀ k,blk a.lo k→ow k=4))∧(Vw i64 H a.io a.ic ids∧(ids≠[]→∀ k,blk a.io k→ow k=4))∧(TbV H tp∧ow tp=4) ∧
 (z≠1→MwO (fun k=>ow k=1) H a.g1 tp (dI [] s.ino).1 (dI [] s.ino).2)∧(z≠2→MwO (fun k=>ow k=2) H a.g2 tp (dI [] s.lst).1 (dI [] s.lst).2)∧(z≠3→MwO (fun k=>ow k=3) H a.g3 tp (dI [] s.fur).1 (dI [] s.fur).2) ∧
 (ow a.r=5∧(z≠5→∃ m,cY enI H a.r m∧yY m s.refs∧m.length=(lW s).length))∧(ow a.f=7∧(z≠7→∃ m,cY enI H a.f m∧Fa m files))∧(ow a.z=8∧(z≠8→∃ m,cY enS H a.z m∧EY m s.sets))
section
variable {a:PiA}{ow ow':Nat→Nat}{g tp:Nat}{qs:List (NdH×Nd)}{ids:List Int}{files:List Ino}{s:BSt}{w w':World}
theorem PiX.step{S:Nat→Prop}(h:PiX 0 a ow w.heap g tp qs ids files s)(f:aA S w w')(z:Nat)(hz:z≠4∧z≠6)(hS:∀ k,S k→ow k=z∨ow k=0)(ho:∀ k,ow k≠0→ow' k=ow k):PiX z a ow' w'.heap g tp qs ids files s:=by
 obtain⟨⟨b1,b2⟩,⟨n1,n2⟩,⟨i1,i2⟩,⟨t1,t2⟩,w1,w2,w3,⟨r1,r2⟩,⟨f1,f2⟩,z1,z2⟩:=h;have key:∀ c,c≠0→c≠z→∀ k,ow k=c→¬ S k:=fun c h0 h1 k hk hs=>by rcases hS k hs with h|h<;>omega
 have kz:∀ c,c≠0→∀ k,ow k=c→ow' k=c:=fun c h0 k hk=>by rw[ho k (by omega)];exact hk
 have tb:¬ S tp:=key 4 (by decide) (fun h=>hz.1 h.symm) tp t2;have tn:∀ c,c≠4→¬ ow' tp=c:=fun c hc=>by rw[kz 4 (by decide) tp t2];exact fun h=>hc h.symm
 have d4:=key 4 (by decide) (fun h=>hz.1 h.symm);refine⟨⟨f.obj b1 (key 6 (by decide) (fun h=>hz.2 h.symm) g b2),kz 6 (by decide) g b2⟩,⟨Ep n1 f d4 (fun hne k hk=>d4 k (n2 hne k hk)) (kz 4 (by decide)),fun hne k hk=>kz 4 (by decide) k (n2 hne k hk)⟩,
  ⟨i1.keep' f (fun hne b hb=>d4 _ (i2 hne _ ⟨b,hb,rfl⟩)),fun hne k hk=>kz 4 (by decide) k (i2 hne k hk)⟩,⟨f.obj t1 tb,kz 4 (by decide) tp t2⟩,
  fun hc=>((w1 (by decide)).Ws f (key 1 (by decide) (fun h=>hc h.symm)) tb).mono (kz 1 (by decide)) (tn 1 (by decide)),fun hc=>((w2 (by decide)).Ws f (key 2 (by decide) (fun h=>hc h.symm)) tb).mono (kz 2 (by decide)) (tn 2 (by decide)),
  fun hc=>((w3 (by decide)).Ws f (key 3 (by decide) (fun h=>hc h.symm)) tb).mono (kz 3 (by decide)) (tn 3 (by decide)),
  ⟨kz 5 (by decide) _ r1,fun hc=>?_⟩,⟨kz 7 (by decide) _ f1,fun hc=>?_⟩,kz 8 (by decide) _ z1,fun hc=>?_⟩
 · obtain⟨m,m1,m2⟩:=r2 (by decide)
   exact⟨m,m1.Ws f (key 5 (by decide) (fun h=>hc h.symm) _ r1),m2⟩
 · obtain⟨m,m1,m2⟩:=f2 (by decide)
   exact⟨m,m1.Ws f (key 7 (by decide) (fun h=>hc h.symm) _ f1),m2⟩
 · obtain⟨m,m1,m2⟩:=z2 (by decide)
   exact⟨m,m1.Ws f (key 8 (by decide) (fun h=>hc h.symm) _ z1),m2⟩
theorem PiX.Wr(h:PiX 0 a ow w.heap g tp qs ids files s)(f:aA nob w w'):PiX 0 a ow w'.heap g tp qs ids files s:=h.step f 0 (by decide) (fun k h=>h.elim) (fun _ _=>rfl)
def oY(W w':World)(z:Nat)(ow:Nat→Nat):Nat→Nat:=fun k=>if k<W.heap.size then ow k else if k<w'.heap.size then z else 0
theorem jG{W:World}(z:Nat)(ow:Nat→Nat){k:Nat}(h:k<W.heap.size):oY W w' z ow k=ow k:=Wu h
theorem kL{W:World}(z:Nat)(ow:Nat→Nat)(hs:W.heap.size≤w'.heap.size){k:Nat}(h:w'.heap.size≤k):oY W w' z ow k=0:=by unfold oY;rw[Wt (by omega),Wt (by omega)]
theorem gP{W:World}(z:Nat)(hn:∀ k,W.heap.size≤k→ow k=0){k:Nat}(h:ow k≠0):oY W w' z ow k=ow k:=jG z ow (WH fun hc=>h (hn k (by omega)))
theorem nM{W:World}(z:Nat)(hn:∀ k,W.heap.size≤k→ow k=0)(hz:z≠0){k:Nat}(h:Nx (fun k=>ow k=z) W w' k):oY W w' z ow k=z:=by
 rcases h with h|⟨h1,h2⟩
 ·rw[gP z hn (by omega)];exact h
 ·unfold oY;rw[Wt (by omega),Wu h2]
def jW(a:PiA)(ow:Nat→Nat)(W:World)(g tp:Nat)(qs:List (NdH×Nd))(ids:List Int)(files:List Ino)(s':BSt)(w':World):Prop:=
 ∃ ow':Nat→Nat,PiX 0 a ow' w'.heap g tp qs ids files s'∧(∀ k,k<W.heap.size→ow' k=ow k)∧(∀ k,w'.heap.size≤k→ow' k=0)∧aA (Lb ow) W w'
theorem jW.trans{W:World}{s1 s2:BSt}{ow1:Nat→Nat}{w1:World}(h1:∀ k,k<W.heap.size→ow1 k=ow k)(f1:aA (Lb ow) W w1)(h:jW a ow1 w1 g tp qs ids files s2 w'):jW a ow W g tp qs ids files s2 w':=by
 obtain⟨ow2,a1,a2,a3,a4⟩:=h;refine⟨ow2,a1,fun k hk=>by rw[a2 k (by have:=f1.size;omega),h1 k hk],a3,f1.Wo a4 (fun k hk=>?_)⟩;by_cases hk2:k<W.heap.size
 ·left;unfold Lb at hk ⊢;rw[h1 k hk2] at hk;exact hk
 ·right;omega
theorem G4(bo:Option Addr)(bc:Nat)(b:By)(W:World)(hM:PiX 0 a ow W.heap g tp qs ids files s)(hn:∀ k,W.heap.size≤k→ow k=0)(hv:Vw b8 W.heap bo bc b)(hl:s.ino.length+b.length≤274877906944) :
 CA 26 [pT a.g1,.slice bo b.length bc] W fun v w'=>v=iV (aM s.ino s.ino.length:Nat)∧jW a ow W g tp qs ids files { s with ino:=s.ino++b } w':=by
 obtain⟨_,_,_,⟨_,ht⟩,w1,w2,w3,_⟩:=id hM;refine(qD (fun k=>ow k=1) a.g1 tp s.ino bo bc b W (w1 (by decide)) hv hl).mono ?_;rintro e w' ⟨v,rfl,rfl,h1,h2⟩;have hs:=h2.size;obtain⟨b0,b1,b2,b3,c1,c2,c3,b4⟩:=hM.step h2 1 (by decide) (fun k hk=>.inl hk) (fun k hk=>gP (w':=w') 1 hn hk);have hw:=h1.mono (D':=fun k=>oY W w' 1 ow k=1) (fun k hk=>nM 1 hn (by decide) hk) (by rw[gP 1 hn (by omega),ht];decide);exact⟨_,rfl,rfl,oY W w' 1 ow,⟨b0,b1,b2,b3,fun _=>hw,fun _=>c2 (by decide),fun _=>c3 (by decide),b4.1.imp id (fun h _=>h (by decide)),b4.2.1.imp id (fun h _=>h (by decide)),b4.2.2.imp id (fun h _=>h (by decide))⟩,fun k hk=>jG 1 ow hk,fun k hk=>kL 1 ow hs hk,h2.mono (fun k hk=>by unfold Lb;omega)⟩
theorem G3(bo:Option Addr)(bc:Nat)(b:By)(W:World)(hM:PiX 0 a ow W.heap g tp qs ids files s)(hn:∀ k,W.heap.size≤k→ow k=0)(hv:Vw b8 W.heap bo bc b)(hl:s.lst.length+b.length≤274877906944) :
 CA 26 [pT a.g2,.slice bo b.length bc] W fun v w'=>v=iV (aM s.lst s.lst.length:Nat)∧jW a ow W g tp qs ids files { s with lst:=s.lst++b } w':=by
 obtain⟨_,_,_,⟨_,ht⟩,w1,w2,w3,_⟩:=id hM;refine(qD (fun k=>ow k=2) a.g2 tp s.lst bo bc b W (w2 (by decide)) hv hl).mono ?_;rintro e w' ⟨v,rfl,rfl,h1,h2⟩;have hs:=h2.size;obtain⟨b0,b1,b2,b3,c1,c2,c3,b4⟩:=hM.step h2 2 (by decide) (fun k hk=>.inl hk) (fun k hk=>gP (w':=w') 2 hn hk);have hw:=h1.mono (D':=fun k=>oY W w' 2 ow k=2) (fun k hk=>nM 2 hn (by decide) hk) (by rw[gP 2 hn (by omega),ht];decide);exact⟨_,rfl,rfl,oY W w' 2 ow,⟨b0,b1,b2,b3,fun _=>c1 (by decide),fun _=>hw,fun _=>c3 (by decide),b4.1.imp id (fun h _=>h (by decide)),b4.2.1.imp id (fun h _=>h (by decide)),b4.2.2.imp id (fun h _=>h (by decide))⟩,fun k hk=>jG 2 ow hk,fun k hk=>kL 2 ow hs hk,h2.mono (fun k hk=>by unfold Lb;omega)⟩
theorem G2(bo:Option Addr)(bc:Nat)(b:By)(W:World)(hM:PiX 0 a ow W.heap g tp qs ids files s)(hn:∀ k,W.heap.size≤k→ow k=0)(hv:Vw b8 W.heap bo bc b)(hl:s.fur.length+b.length≤274877906944) :
 CA 26 [pT a.g3,.slice bo b.length bc] W fun v w'=>v=iV (aM s.fur s.fur.length:Nat)∧jW a ow W g tp qs ids files { s with fur:=s.fur++b } w':=by
 obtain⟨_,_,_,⟨_,ht⟩,w1,w2,w3,_⟩:=id hM;refine(qD (fun k=>ow k=3) a.g3 tp s.fur bo bc b W (w3 (by decide)) hv hl).mono ?_;rintro e w' ⟨v,rfl,rfl,h1,h2⟩;have hs:=h2.size;obtain⟨b0,b1,b2,b3,c1,c2,c3,b4⟩:=hM.step h2 3 (by decide) (fun k hk=>.inl hk) (fun k hk=>gP (w':=w') 3 hn hk);have hw:=h1.mono (D':=fun k=>oY W w' 3 ow k=3) (fun k hk=>nM 3 hn (by decide) hk) (by rw[gP 3 hn (by omega),ht];decide);exact⟨_,rfl,rfl,oY W w' 3 ow,⟨b0,b1,b2,b3,fun _=>c1 (by decide),fun _=>c2 (by decide),fun _=>hw,b4.1.imp id (fun h _=>h (by decide)),b4.2.1.imp id (fun h _=>h (by decide)),b4.2.2.imp id (fun h _=>h (by decide))⟩,fun k hk=>jG 3 ow hk,fun k hk=>kL 3 ow hs hk,h2.mono (fun k hk=>by unfold Lb;omega)⟩
end
end
section
open Go Go.RowKit Go.Maps
theorem Dn{s t A B:By}(hs:s.length≤255)(ht:t.length≤255)(h:lM s++A=lM t++B):s=t∧A=B:=by
 unfold lM at h;simp only[Xq,Yr.injEq] at h;have hl:s.length=t.length:=by
  have:=congrArg UInt8.toNat h.1;rw[Xj,Xj] at this;omega
 exact YR h.2 hl
theorem Do:∀ {X Y:List Xa},(∀ x∈X,x.1.length≤255∧x.2.length≤255)→(∀ x∈Y,x.1.length≤255∧x.2.length≤255)→X.length=Y.length→X.flatMap gB=Y.flatMap gB→X=Y
|[],[],_,_,_,_=>rfl
|[],y::r,_,_,h,_=>by simp at h
|x::r,[],_,_,h,_=>by simp at h
|x::r,y::q,hX,hY,hl,h=>by
   have hx:=hX x (by simp);have hy:=hY y (by simp);rw[XD,XD] at h;unfold gB at h;rw[WL,WL] at h;obtain⟨e1,h1⟩:=Dn hx.1 hy.1 h;obtain⟨e2,h2⟩:=Dn hx.2 hy.2 h1;rw[Do (fun z hz=>hX z (by simp[hz])) (fun z hz=>hY z (by simp[hz])) (by simpa using hl) h2,Yl e1 e2]
theorem Bh{X:List Xa}(h:dF X):∀ x∈X,x.1.length≤255∧x.2.length≤255:=fun x hx=>by
 obtain⟨i,hi,rfl⟩:=Xn hx;obtain⟨_,g2,_,g4⟩:=h.1 i hi;have e:X.getD i x0=X[i]:=by simp[WI,hi]
 rw[e] at g2 g4;omega
theorem HE{X Y:List Xa}(hX:dF X)(hY:dF Y)(h:cU X=cU Y):X=Y:=by
 unfold cU at h;rw[Yr.injEq] at h;have hl:X.length=Y.length:=by
  have:=congrArg UInt8.toNat h.1;rw[Xj,Xj] at this;have:=hX.2;have:=hY.2;omega
 exact Do (Bh hX) (Bh hY) hl h.2
theorem EY.put{m:List (SK×Value)}{sets:List (List Xa×Int)}(h:EY m sets){X:List Xa}(hX:dF X)(h0:X≠[])(hl:(cU X).length≤maxLen)(hno:cG m (jT (cU X))=none)(v:Int):EY (cN m (jT (cU X)) (iV v)) (sets++[(X,v)]):=by
 intro Y hY hY0;have hYl:(cU Y).length≤maxLen:=by have:=sF hY;unfold maxLen;omega
 rw[iZ,List.find?_append];by_cases e:Y=X
 · subst e
   have hn:=h Y hY hY0;rw[hno] at hn;have hn:sets.find? (fun y=>decide (y.1=Y))=none:=by
    cases hf:sets.find? (fun y=>decide (y.1=Y)) with
   |none=>rfl
   |some y=>rw[hf] at hn;cases hn
   rw[Wu rfl,hn];simp
 · rw[Wt (fun he=>e (HE hY hX (by have:=congrArg Subtype.val he;rwa[pO hYl,pO hl] at this))),h Y hY hY0]
   have hx:[(X,v)].find? (fun y=>decide (y.1=Y))=none:=by
    simp only[List.find?_cons,List.find?_nil];rw[Wx (fun h=>e h.symm)]
   rw[hx];cases sets.find? (fun y=>decide (y.1=Y))<;>rfl
theorem I4(a:PiA)(ow:Nat→Nat)(g tp:Nat)(qs:List (NdH×Nd))(ids:List Int)(files:List Ino)(s:BSt)(p:NdH×Nd)(W:World)(hM:PiX 0 a ow W.heap g tp qs ids files s)(hn:∀ k,W.heap.size≤k→ow k=0)(hp:NdV (fun k=>ow k=4) W.heap p)(hX:dF p.2.xs)(hb:s.fur.length≤137438953472)(hR:∀ y∈s.sets,0≤y.2∧y.2≤1152921504606846976) :
 CA 73 [pT g,.agg (aF p).toArray] W fun v w'=>v=iV (cJ s p.2.xs).1∧jW a ow W g tp qs ids files (cJ s p.2.xs).2 w':=by
 obtain⟨⟨hg,hg6⟩,_,_,_,_,_,_,_,_,hz8,hzm⟩:=id hM;obtain⟨mz,hmz,hms⟩:=hzm (by decide);obtain⟨X,hXe⟩:∃ X,X=p.2.xs:=⟨_,rfl⟩
 obtain⟨_,_,hxv⟩:=hp;have hxn:p.1.xs.n=X.length:=by rw[hXe];exact hxv.1
 rw[←hXe] at hX hxv ⊢;have hxl:=sF hX;have hxm:(cU X).length≤maxLen:=by unfold maxLen;omega
 have hlg:=(WD.1 hg).1;refine cS 45 [(0,_),(1,_)] Tryz.func73 ?_;refine Gz 2 ?_;refine Td rfl rfl ?_;intro w1 hg1 hs1 hf1;have hg1:w1.heap[W.heap.size]?=some (.cells (aF p).toArray 37 (0,0)):=hg1;have hM1:=hM.Wr hf1;refine Gz 6 ?_;refine cL (SN (u:=.slice p.1.xs.a X.length p.1.xs.c) (SM cF rfl (aD hg1 rfl)) (by rw[←hxn];rfl)) ?_;refine SJ Qd rfl (LK p.1.xs.a p.1.xs.c X w1 ((XsV.Ws hxv hf1 (fun _ _=>id)).xav (fun x hx=>by have:=(Bh hX x hx).1;unfold maxLen;omega))) rfl ?_;rintro _ w2 ⟨bo,bc,rfl,ho2,hfr2,hf2⟩;have hF2:=hf1.trans hf2;have hM2:=hM1.Wr hf2;refine fK 11 ?_ ?_<;>intro h16
 ·have h0:X=[]:=WH fun hc=>h16 (by rw[rR hX (WN.2 hc)]);have hfu:cJ s X=(0,s):=Hv (by rw[h0];rfl);refine Gz 11 ?_;exact⟨_,rfl,by rw[hfu],by rw[hfu];exact⟨ow,hM2,fun _ _=>rfl,fun k hk=>hn k (by have:=hF2.size;omega),hF2.any⟩⟩
 have hX0:X≠[]:=fun e=>h16 (by rw[e];decide);have hpx:=rR hX (WN.2 hX0);rw[hpx] at ho2 ⊢;obtain⟨B,hB⟩:∃ B,B=cU X:=⟨_,rfl⟩
 have ho2:Own b8 5 w2.heap bo bc B:=by rw[hB];exact ho2
 rw[show ((cU X,(0:Int)):By×Int).1=B from hB.symm];have hBs:(jT (cU X))=⟨B,by rw[hB];exact hxm⟩:=Subtype.ext (by rw[pO hxm];exact hB.symm);have hfx:=hms X hX hX0;rw[hBs] at hfx;refine Gz 6 ?_;refine SZ 12 (fun H=>H[g]?=some (.cells (piC a qs.length ids.length).toArray 62 (0,0))∧Vw b8 H bo bc B∧cY enS H a.z mz) [] [0,1,2,3,4,5,6,7,8,9,10,11] aL (by kernel_rfl) (⟨hF2.obj hg id,ho2.vw,hmz.Ws hF2 id⟩) ?_;refine Gz 5 ?_;refine xC rfl (Uc aT ty5 ty9 rfl (fun H hH=>hH.2.1)) ?_;refine xC rfl (Tr mpS C1 (a:=⟨B,by rw[hB];exact hxm⟩) rfl rfl (fun H hH=>hH.2.2)) ?_;refine Gz 11 ?_;refine Tl (T3 rfl) rfl (fun h28=>?_) (fun h28=>?_)
 ·have hno:s.sets.find? (fun y=>decide (y.1=X))=none:=by
   cases hf:s.sets.find? (fun y=>decide (y.1=X)) with
  |none=>rfl
  |some y=>rw[hfx,hf] at h28;simp at h28
  have hrb:=D9 (T:=s.fur) (o:=s.fur.length) (by omega);have hfu:cJ s X=(((aM s.fur s.fur.length:Nat):Int)+1,{ s with fur:=s.fur++(kF X).1,sets:=s.sets++[(X,((aM s.fur s.fur.length:Nat):Int))] }):=by
   unfold cJ;rw[Wt (fun h=>hX0 (WM.1 h)),hno]
  rw[hpx] at hfu;have hz2:=hF2.size;refine Gz 9 ?_;refine cL (SM vV rfl (by rw[AK];exact aD (i:=2) (hF2.obj hg id) rfl)) ?_;refine Gz 1 ?_;refine SJ Mw rfl (G2 bo bc B (w2.drewN 1) hM2 (fun k hk=>hn k (by have hk:w2.heap.size≤k:=hk;omega)) ho2.vw (by rw[hB];omega)) rfl ?_;rintro _ w3 ⟨rfl,ow3,hM3,hl3,hn3,hf3⟩;have hf3:aA (Lb ow) w2 w3:=hf3.Wp;have hF3:aA (Lb ow) W w3:=hF2.any.trans hf3;have hl3:∀ k,k<w2.heap.size→ow3 k=ow k:=hl3;have ho3:=ho2.Ws hf3 (fun b hb h=>by have h1:=hfr2 b hb;have h2:=hf1.size;exact h.1 (hn _ (by omega)));obtain⟨⟨hg3,_⟩,_,_,_,_,_,_,_,_,hz38,hzm3⟩:=id hM3;obtain⟨mz3,hmz3,hms3⟩:=hzm3 (by decide);have hfx3:=hms3 X hX hX0;rw[show ({ s with fur:=s.fur++B }:BSt).sets=s.sets from rfl,hno] at hfx3;have hkey:=hfx3;rw[hBs] at hkey;refine Gz 3 ?_;refine SZ 7 (fun H=>H[g]?=some (.cells (piC a qs.length ids.length).toArray 62 (0,0))∧Vw b8 H bo bc B) [7] [0,1,2,3,4,5,6,7] aL (by kernel_rfl) (⟨hg3,ho3.vw⟩) ?_;refine Gz 5 ?_;refine xC rfl (Uc aT ty5 ty9 rfl (fun H hH=>hH.2)) ?_;refine Gz 1 ?_;refine SU rfl rfl (Th mpS C1 (a:=⟨B,by rw[hB];exact hxm⟩) rfl rfl rfl hmz3 ?_);intro w4 hm4 hs4 hf4;refine Ts rfl ?_;have hf4:aA (· = a.z) w3 w4:=hf4.Wp;rw[←hBs] at hm4;have hst:=hM3.step hf4 8 (by decide) (fun k hk=>.inl (by have h:k=a.z:=hk;rw[h];exact hz38)) (fun _ _=>rfl);obtain⟨c0,c1,c2,c3,c4,c5,c6,c7,c8,c9,_⟩:=hst;have hM4:PiX 0 a ow3 w4.heap g tp qs ids files { s with fur:=s.fur++cU X,sets:=s.sets++[(X,((aM s.fur s.fur.length:Nat):Int))] }:=by
   rw[←hB];exact⟨c0,c1,c2,c3,fun _=>c4 (by decide),fun _=>c5 (by decide),fun _=>c6 (by decide),c7.imp id (fun h _=>h (by decide)),c8.imp id (fun h _=>h (by decide)),c9,fun _=>⟨_,hm4,hms3.put hX hX0 hxm hfx3 _⟩⟩
  have hz4:=hf4.size;have hz3:=hf3.size;have hF4:aA (Lb ow) W w4:=hF3.Wo hf4 (fun k hk=>.inl (by have h:k=a.z:=hk;rw[h];unfold Lb;omega));refine Gz 11 ?_
  first
  |exact⟨_,rfl,by rw[hfu],by rw[hfu];exact⟨ow3,hM4,fun k hk=>hl3 k (by omega),fun k hk=>hn3 k (by omega),hF4⟩⟩
  |exact⟨_,rfl,by rw[hfu],by rw[hfu];exact⟨ow,hM2,fun _ _=>rfl,fun k hk=>hn k (by have h1:=hF2.size;have h2:w2.heap.size≤k:=hk;omega),hF2.any.draws 1⟩⟩
 obtain⟨y,hy⟩:∃ y,s.sets.find? (fun y=>decide (y.1=X))=some y:=by
  cases hf:s.sets.find? (fun y=>decide (y.1=X)) with
 |none=>rw[hfx,hf] at h28;simp at h28
 |some y=>exact⟨y,rfl⟩
 have eg:(cG mz ⟨B,by rw[hB];exact hxm⟩).getD (iV 0)=iV y.2:=by rw[hfx,hy];rfl
 rw[eg];have hfu:cJ s X=(y.2+1,s):=by
  unfold cJ;rw[Wt (fun h=>hX0 (WM.1 h)),hy]
 have hyb:=hR y (Yz hy);refine Gz 14 ?_
 first
 |exact⟨_,rfl,by rw[hfu],by rw[hfu];exact⟨ow3,hM4,fun k hk=>hl3 k (by omega),fun k hk=>hn3 k (by omega),hF4⟩⟩
 |exact⟨_,rfl,by rw[hfu],by rw[hfu];exact⟨ow,hM2,fun _ _=>rfl,fun k hk=>hn k (by have h1:=hF2.size;have h2:w2.heap.size≤k:=hk;omega),hF2.any.draws 1⟩⟩
end
theorem LM{l:List Int}(hr:l.Pairwise (· < ·)){e:Nat}{z:Int}(he:l[e]?=some z):oM l z=e∧∀ q,q<l.length→(l.getD q 0<z↔q<e):=by
 obtain⟨hel,hez⟩:=Wy.1 he;have key:∀ q,q<l.length→(l.getD q 0<z↔q<e):=fun q hq=>by
  have hd:l.getD q 0=l[q]:=by rw[WI,Wv hq];rfl
  rw[hd];have hp:=W8.1 hr;constructor
  · intro h
    apply WH;intro hc;rcases Nat.lt_or_eq_of_le (Nat.le_of_not_lt hc) with h1|h1
    ·have:=hp e q hel hq h1;rw[hez] at this;omega
    ·subst h1;rw[hez] at h;omega
  · intro h
    have:=hp q e hq hel h;rw[hez] at this;exact this
 refine⟨?_,key⟩;unfold oM;have h:l.findIdx? (fun x=>decide (x=z))=some e:=by
  rw[Xu];refine⟨hel,by simpa using hez,fun j hj=>?_⟩;have h1:=(key j (by omega)).2 hj;have hd:l.getD j 0=l[j]'(by omega):=by rw[WI,Wv (by omega)];rfl
  rw[hd] at h1;simp only[decide_eq_true_eq];omega
 rw[h]
theorem KR(lo:Option Addr)(lc:Nat)(l:List Int)(z:Int)(W:World)(hv:Vw i64 W.heap lo lc l)(hr:l.Pairwise (· < ·))(hz:z∈l)(hll:l.length≤1099511627776) :
 CA 72 [.slice lo l.length lc,iV z] W fun v w'=>v=.tuple #[iV (oM l z),.bool true]∧w'=W:=by
 obtain⟨e,he⟩:=WO hz;obtain⟨hpe,hlt⟩:=LM hr he;obtain⟨hel,hez⟩:=Wy.1 he;have hed:l.getD e 0=z:=by rw[WI,he];rfl
 refine cS 54 [(0,_),(1,_)] Tryz.func72 ?_;refine Gz 22 ?_;refine SO (β:=Nat×Nat) (fun⟨i,j⟩=>[(0,.slice lo l.length lc),(1,iV z),(6,iV l.length),(7,iV i),(8,iV j)]) (fun⟨i,j⟩ w=>i≤e∧e≤j∧j≤l.length∧w=W) (fun⟨i,j⟩=>j-i) ⟨0,l.length⟩ ⟨rfl,rfl,rfl,rfl,rfl,trivial⟩ ⟨WG _,Nat.le_of_lt hel,WC _,rfl⟩ ?_;rintro⟨i,j⟩ w2 ⟨hie,hej,hjl,hw⟩;subst w2;refine fK 5 ?_ ?_<;>intro h15
 ·have hij:i<j:=by omega
  refine Gz 11 ?_;refine cL (S1 (n:=((i:Int)+j)) is3 H9 rfl (BN (by omega))) ?_;refine cL (T4 rfl rfl (by decide)) ?_;refine cL (S1 (n:=(((i+j)/2:Nat):Int)) JE ty3 rfl (C6 (by omega))) ?_;obtain⟨q,hq⟩:∃ q:Nat,q=(i+j)/2:=⟨_,rfl⟩
  rw[←hq];have hql:q<l.length:=by omega
  have hqe:=hlt q hql;refine Gz 7 ?_;refine cL (SI cI rfl rfl hv.non (by omega)) ?_;refine cL (SM aN rfl (hv.gz 0 q rfl hql)) ?_;refine cA 1 Nw (zN (l.getD q 0) z W) ?_;rintro _ wq ⟨rfl,hwq⟩;subst wq;by_cases h27:l.getD q 0<z
  ·rw[WA h27];refine Gz 9 ?_;exact aG ⟨q+1,j⟩ ⟨by have:=hqe.1 h27;omega,hej,hjl,rfl⟩ (by show j-(q+1)<j-i;omega)
  rw[Wx h27];refine Gz 8 ?_;exact aG ⟨i,q⟩ ⟨hie,by have:¬ q<e:=fun h=>h27 (hqe.2 h);omega,by omega,rfl⟩ (by show q-i<j-i;omega)
 have hie:i=e:=by omega
 subst hie;refine Gz 13 ?_;refine cL (TD (TI rfl rfl) (by omega)) ?_;refine Gz 3 ?_;refine cW (SI cI rfl rfl hv.non (by omega)) ?_;refine cW (SM aN rfl (hv.gz 0 i rfl hel)) ?_;refine Gz 1 ?_;refine cW (TD (Ty rfl rfl) hed) ?_;refine Gz 18 ?_;exact⟨_,rfl,by rw[hpe],rfl⟩
theorem Le(D:Nat→Prop)(p:Nat)(E:Int)(xs:By)(W:World)(hP:WrL D W.heap p E xs)(hb:xs.length≤1099511627776) :
 CA 82 [pT p] W fun v w'=>v=iV (jS E xs).length∧aA nob W w':=by
 refine cS 6 [(0,_)] Tryz.func82 ?_;refine cA 8 Bw (fY D p E xs W hP hb) ?_;rintro _ w1 ⟨o1,c1,rfl,ho1,hfr1,hf1⟩;refine Gz 6 ?_;exact⟨_,rfl,rfl,hf1⟩
theorem Wk{cs:Int→Value→List Value}{T:TypeId}{A:Nat→Prop}{W w':World}{p:Nat}{E:Int}{xs:By}(h:WrO cs T (fun k=>A k∨W.heap.size≤k) w'.heap p E xs):WrO cs T (Nx A W w') w'.heap p E xs:=
 h.bound (fun k hk hl=>hk.imp id (fun h=>⟨h,hl⟩))
theorem uM(A:Nat→Prop)(p:Nat)(xs:By)(x n:Int)(W:World)(hx:¬ gD x n)(hP:WrL A W.heap p 0 xs)(hb:xs.length≤1099511627776) :
 CA 76 [pT p,iV x,iV n] W fun v w'=>WrL (Nx A W w') w'.heap p 0 (xs++le x n.toNat)∧aA A W w':=by
 refine(oR (fun k=>A k∨W.heap.size≤k) p 0 xs x n W (WrO.mono hP (fun k h=>.inl h)) (fun k h=>.inr h) hb).mono ?_;rintro e w' ⟨v,rfl,h1,h2⟩;have h0:fH 0 x n=0:=bT hx;rw[h0,iT h0] at h1;exact⟨_,rfl,Wk h1,h2.nx⟩
theorem BO(A:Nat→Prop)(p:Nat)(xs:By)(yo:Option Addr)(yc:Nat)(ys:By)(W:World)(hP:WrL A W.heap p 0 xs)(hv:Vw b8 W.heap yo yc ys)(hb:xs.length≤1099511627776)(hb2:ys.length≤1099511627776) :
 CA 81 [pT p,.slice yo ys.length yc] W fun v w'=>WrL (Nx A W w') w'.heap p 0 (xs++ys)∧aA A W w':=by
 refine(mY (fun k=>A k∨W.heap.size≤k) p 0 xs yo yc ys W (WrO.mono hP (fun k h=>.inl h)) (fun k h=>.inr h) hv hb hb2).mono ?_;rintro e w' ⟨v,rfl,h1,h2⟩;exact⟨_,rfl,Wk h1,h2.nx⟩
theorem Fq(F:Nat→Int)(hm:lG F)(j:Nat)(hj:j<10)(b:Int)(hb:(suL.getD j fdZ).b=b)(A:Nat→Prop)(p:Nat)(W:World)(hP:WrL A W.heap p 0 (suE F j)) :
 CA 76 [pT p,iV (F (suL.getD j fdZ).o),iV b] W fun v w'=>WrL (Nx A W w') w'.heap p 0 (suE F (j+1))∧aA A W w':=by
 subst hb;rw[Ir F hj];exact uM A p _ _ _ W (L3 hm hj) hP (by have:=Lu F j;omega)
theorem Im(tp:Nat)(F:Nat→Int)(W:World)(ht:TbV W.heap tp) :
 CA 29 [pT tp,.agg (dA F).toArray] W (EZ W (jC F)):=by
 refine cS 51 [(0,_),(1,_)] Tryz.func29 ?_;refine Gz 2 ?_;refine Td rfl rfl ?_;intro w1 hg1 hs1 hf1;have hg1:w1.heap[W.heap.size]?=some (.cells (dA F).toArray 44 (0,0)):=hg1;obtain⟨g,eg⟩:∃ g,g=W.heap.size:=⟨_,rfl⟩
 rw[←eg] at hg1 ⊢;refine Gz 7 ?_;refine cL (SX (cs:=dA F) eF rfl (bJ hg1 0 rfl)) ?_;refine cA 0 Pq (Cc F w1) ?_;rintro _ w2 ⟨rfl,hf2⟩;have hg2:=hf2.obj hg1 id;have hW2:=hf1.trans hf2;obtain⟨p,ep⟩:∃ p,p=w2.heap.size:=⟨_,rfl⟩
 by_cases h12:lG F
 ·rw[WA h12];refine cL (S3 rfl) ?_;refine Gz 7 ?_;refine SP zA rfl ?_;intro w3 hg3 hs3 hf3;rw[←ep] at hg3 ⊢;have hP3:WrL (· = p) w3.heap p 0 []:=VY hg3 rfl;refine Gz 4 ?_;refine Tc aT (cs:=(suM.map b8).toArray) zc5 rfl rfl rfl (by kernel_rfl) rfl ?_;intro w5 hg5 hs5 hf5;have ho5:=jQ (e:=5) (enc:=b8) (xs:=suM) hg5 (by decide);refine U9 aT ty5 (xs:=suM) rfl hg5 ho5.vw rfl ?_;intro w6 hv6 hs6 hf6;have hz3:=hf3.size;have hf36:aA nob w3 w6:=hf5.tw hf6;have hF6:=hf3.trans hf36;refine SJ JX rfl (BO (· = p) p [] _ _ suM w6 (hP3.Wr hf36) hv6 (by simp) (by decide)) rfl ?_;rintro _ u0 ⟨hP0,hQ0⟩;have hz6:=hF6.size;have hA0:∀ k,Nx (· = p) w6 u0 k→p≤k∧k<u0.heap.size:=fun k hk=>hk.elim (fun h=>by have h:k=p:=h;have:=hP0.lt;omega) (fun h=>by omega);generalize Nx (· = p) w6 u0=A0 at hP0 hA0;have hP0:WrL A0 u0.heap p 0 (suE F 0):=hP0;have hF0:aA nob w2 u0:=hF6.tw hQ0;have hg0:=hF0.obj hg2 id;have hg_lt:=(WD.1 hg2).1;refine cA 5 Pu (zK g u0) ?_;rintro _ w7 ⟨l,rfl,ho7,hl1,hl2,hf7⟩;have hF7:=hF0.trans hf7;refine Gz 5 ?_;refine SO (β:=Nat×(Nat→Prop)) (fun⟨i,A⟩=>[(0,pT tp),(3,pT g),(6,pT p),(17,.slice (some ⟨l,0,none⟩) oW.length 7),(18,iV (oW.length:Nat)),(19,iV i)]) (fun⟨i,A⟩ w=>i≤7∧WrL A w.heap p 0 (suE F i)∧(∀ k,A k→p≤k∧k<w.heap.size∧k≠l)∧w.heap[g]?=some (.cells (dA F).toArray 44 (0,0))∧Own (ptO g) 72 w.heap (some ⟨l,0,none⟩) 7 oW∧aA nob w2 w∧w7.heap.size≤w.heap.size) (fun⟨i,A⟩=>7-i) ⟨0,A0⟩ ⟨rfl,rfl,rfl,rfl,rfl,rfl,trivial⟩ ⟨by decide,hP0.Wr hf7,fun k hk=>by have h1:=hA0 k hk;have h2:=hf7.size;omega,hf7.obj hg0 id,ho7,hF7,WC _⟩ ?_;rintro⟨i,A⟩ w8 ⟨hi,hP8,hA,hg8,how,hF8,hz8⟩;refine fK 2 ?_ ?_<;>intro h20
  ·have hi7:i<7:=by have:(i:Int)<(oW.length:Nat):=h20;have e:oW.length=7:=rfl;omega
   refine Gz 10 ?_;refine cL (SI AW rfl rfl how.vw.non (by have e:oW.length=7:=rfl;omega)) ?_;refine cL (SM zQ rfl (how.vw.gz 0 i rfl (by show i<7;exact hi7))) ?_;rw[(FP hi7).1];refine Gz 2 ?_;refine aW [(0,_),(3,_),(6,_),(8,_),(17,_),(18,_),(19,_),(20,_)] ?_;refine Gz 4 ?_;refine cL (SM aN rfl (bN hg8 (Cb F (Ce (by omega))))) ?_;refine SJ xG rfl (Fq F h12 i (by omega) 4 (FP hi7).2 A p w8 hP8) rfl ?_;rintro _ w9 ⟨hP9,hQ9⟩;have hz9:=hQ9.size;have hz8b:=hF8.size;have hF9:aA nob w2 w9:=hF8.Wo hQ9 (fun k hk=>.inr (by have:=(hA k hk).1;omega));have hA9:∀ k,Nx A w8 w9 k→p≤k∧k<w9.heap.size∧k≠l:=fun k hk=>hk.elim (fun h=>by have:=hA k h;omega) (fun h=>by omega);refine Gz 7 ?_;exact aG ⟨i+1,Nx A w8 w9⟩ ⟨by omega,hP9,hA9,hQ9.obj hg8 (fun h=>by have:=(hA _ h).1;omega),how.Ws hQ9 (fun a ha h=>by cases ha;exact(hA _ h).2.2 rfl),hF9,by omega⟩ (by show 7-(i+1)<7-i;omega)
  have hi7:i=7:=by have h20:¬ (i:Int)<(oW.length:Nat):=h20;have e:oW.length=7:=rfl;omega
  subst hi7;refine cA 12 Pt (sW g w8) ?_;rintro _ w10 ⟨l2,rfl,ho10,hm1,hm2,hf10⟩;have hF10:=hF8.trans hf10;refine Gz 5 ?_;refine SO (β:=Nat×(Nat→Prop)) (fun⟨i,A⟩=>[(0,pT tp),(3,pT g),(6,pT p),(28,.slice (some ⟨l2,0,none⟩) oN.length 3),(29,iV (oN.length:Nat)),(30,iV i)]) (fun⟨i,A⟩ w=>i≤3∧WrL A w.heap p 0 (suE F (7+i))∧(∀ k,A k→p≤k∧k<w.heap.size∧k≠l2)∧w.heap[g]?=some (.cells (dA F).toArray 44 (0,0))∧Own (ptO g) 72 w.heap (some ⟨l2,0,none⟩) 3 oN∧aA nob w2 w∧w10.heap.size≤w.heap.size) (fun⟨i,A⟩=>3-i) ⟨0,A⟩ ⟨rfl,rfl,rfl,rfl,rfl,rfl,trivial⟩ ⟨by decide,hP8.Wr hf10,fun k hk=>by have h1:=hA k hk;have h2:=hf10.size;omega,hf10.obj hg8 id,ho10,hF10,WC _⟩ ?_;rintro⟨i,A⟩ w8 ⟨hi,hP8,hA,hg8,how,hF8,hz8⟩;refine fK 2 ?_ ?_<;>intro h31
  ·have hi3:i<3:=by have:(i:Int)<(oN.length:Nat):=h31;have e:oN.length=3:=rfl;omega
   refine Gz 10 ?_;refine cL (SI AW rfl rfl how.vw.non (by have e:oN.length=3:=rfl;omega)) ?_;refine cL (SM zQ rfl (how.vw.gz 0 i rfl (by show i<3;exact hi3))) ?_;rw[(FQ hi3).1];refine Gz 2 ?_;refine aW [(0,_),(3,_),(6,_),(10,_),(28,_),(29,_),(30,_),(31,_)] ?_;refine Gz 4 ?_;refine cL (SM aN rfl (bN hg8 (Cb F (Ce (by omega))))) ?_;refine SJ xG rfl (Fq F h12 (7+i) (by omega) 2 (FQ hi3).2 A p w8 hP8) rfl ?_;rintro _ w9 ⟨hP9,hQ9⟩;have hz9:=hQ9.size;have hz8b:=hF8.size;have hF9:aA nob w2 w9:=hF8.Wo hQ9 (fun k hk=>.inr (by have:=(hA k hk).1;omega));have hA9:∀ k,Nx A w8 w9 k→p≤k∧k<w9.heap.size∧k≠l2:=fun k hk=>hk.elim (fun h=>by have:=hA k h;omega) (fun h=>by omega);refine Gz 7 ?_;exact aG ⟨i+1,Nx A w8 w9⟩ ⟨by omega,hP9,hA9,hQ9.obj hg8 (fun h=>by have:=(hA _ h).1;omega),how.Ws hQ9 (fun a ha h=>by cases ha;exact(hA _ h).2.2 rfl),hF9,by omega⟩ (by show 3-(i+1)<3-i;omega)
  have hi3:i=3:=by have h31:¬ (i:Int)<(oN.length:Nat):=h31;have e:oN.length=3:=rfl;omega
  subst hi3;refine Gz 12 ?_;refine SJ Bw rfl (fY A p 0 (suH F) w8 hP8 (by rw[uF];decide)) rfl ?_;rintro _ w11 ⟨o11,c11,rfl,ho11,hfr11,hf11⟩;have ho11:Own b8 5 w11.heap o11 c11 (suH F):=ho11;have hF11:=hF8.trans hf11;have hP11:=hP8.Wr hf11;refine cA 0 Oz (DR tp o11 c11 (suH F) w11 ((hW2.trans hF11).obj ht id) ho11.vw) ?_;rintro _ wq ⟨rfl,hwq⟩;subst wq;refine cL (S1 (n:=((fG (suH F):Nat):Int)) Oi ty3 rfl (dC (by have:=pL (suH F);omega))) ?_;refine SJ xG rfl (uM A p (suH F) _ 4 w11 (eD (m:=4294967295) (by decide) (by decide) (Ya _) (by have:=pL (suH F);omega) (by decide)) hP11 (by rw[uF];decide)) rfl ?_;rintro _ u11 ⟨hP12,hQ12⟩;have hF12:aA nob w2 u11:=hF11.Wo hQ12 (fun k hk=>.inr (by have:=(hA k hk).1;omega));have hz11:=hF11.size;have hA12:∀ k,Nx A w11 u11 k→p≤k:=fun k hk=>hk.elim (fun h=>(hA k h).1) (fun h=>by omega);generalize Nx A w11 u11=A12 at hP12 hA12;have hP12:WrL A12 u11.heap p 0 (suX F 0):=by rw[show suX F 0=suH F++le (fG (suH F):Nat) 4 by unfold suX;simp];exact hP12
  refine Gz 1 ?_;refine aW [(0,_),(3,_),(6,_),(28,_),(29,_),(30,_),(31,_)] ?_;refine Gz 3 ?_;refine SJ RR rfl (Le A12 p 0 (suX F 0) u11 hP12 (by rw[uE];decide)) rfl ?_;rintro _ w13 ⟨rfl,hf13⟩;rw[show (jS 0 (suX F 0)).length=42 from uE F 0];have hP13:=hP12.Wr hf13;have hF13:=hF12.trans hf13;refine cL (SN (u:=iV 22) (TK rfl rfl (by decide)) rfl) ?_;refine UR b8 (0:UInt8) aT z5 rfl rfl rfl (by decide) (by decide) (by decide) (by decide) rfl ?_;intro w14 ho14 hs14 hf14;have ho14:Own b8 5 w14.heap (some ⟨w13.heap.size,0,none⟩) 22 (W4 22 0):=ho14;have hF14:=hF13.trans hf14;refine SJ JX rfl (BO A12 p (suX F 0) (some ⟨w13.heap.size,0,none⟩) 22 (W4 22 0) w14 (hP13.Wr hf14) ho14.vw (by rw[uE];decide) (by decide)) rfl ?_;rintro _ w15 ⟨hP15,hQ15⟩;have hF15:aA nob w2 w15:=hF14.Wo hQ15 (fun k hk=>.inr (by have:=hA12 k hk;omega));generalize Nx A12 w14 w15=A15 at hP15;have hP15:WrL A15 w15.heap p 0 (suX F 22):=by rw[show suX F 22=suX F 0++W4 22 0 by unfold suX;simp];exact hP15
  refine Gz 4 ?_;refine SJ Bw rfl (fY A15 p 0 (suX F 22) w15 hP15 (by rw[uE];decide)) rfl ?_;rintro _ w16 ⟨o16,c16,rfl,ho16,hfr16,hf16⟩;have ho16:Own b8 5 w16.heap o16 c16 (suX F 22):=ho16;have hP16:=hP15.Wr hf16;refine cA 1 Dc (pD A15 p 0 (suX F 22) w16 hP16) ?_;rintro _ wq ⟨rfl,hwq⟩;subst wq;refine Gz 6 ?_
  first
  |exact⟨_,rfl,none,0,by rw[show jC F=([],1) from Wt h12];rfl,by rw[show jC F=([],1) from Wt h12];exact VR,VP,hW2⟩
  |(have e:jC F=(suX F 22,0):=Wu h12;rw[e];exact⟨_,rfl,o16,c16,rfl,ho16,hfr16.mono (by have:=hF15.size;have:=hW2.size;omega),(hW2.trans hF15).trans hf16⟩)
 rw[Wx h12];refine cL (S3 rfl) ?_;refine Gz 12 ?_
 first
 |exact⟨_,rfl,none,0,by rw[show jC F=([],1) from Wt h12];rfl,by rw[show jC F=([],1) from Wt h12];exact VR,VP,hW2⟩
 |(have e:jC F=(suX F 22,0):=Wu h12;rw[e];exact⟨_,rfl,o16,c16,rfl,ho16,hfr16.mono (by have:=hF15.size;have:=hW2.size;omega),(hW2.trans hF15).trans hf16⟩)
theorem H2(A:Nat→Prop)(p:Nat)(xs s:By)(W:World)(hs:s.length≤255)(hP:WrL A W.heap p 0 xs)(hb:xs.length≤549755813888) :
 CA 128 [pT p,.string (bs s)] W fun v w'=>WrL (Nx A W w') w'.heap p 0 (xs++(WP s.length::s))∧aA A W w':=by
 refine(pI (fun k=>A k∨W.heap.size≤k) p 0 xs s W (WrO.mono hP (fun k h=>.inl h)) (fun k h=>.inr h) hb).mono ?_;rintro e w' ⟨v,rfl,h1,h2⟩;have e1:nY 0 s=0:=by unfold nY;rw[Wt (by decide),Wt (by omega)]
 have e2:mC 0 xs s=xs++(WP s.length::s):=by unfold mC;rw[Wt (by omega)]
 rw[e1,e2] at h1;exact⟨_,rfl,Wk h1,h2.nx⟩
theorem Kl(lo:Option Addr)(lc:Nat)(L:List Ent)(W:World)(hv:VwM 3 xO W.heap lo lc L)(hsm:∀ x∈L,x.1.length≤maxLen)(hll:L.length≤1073741824) :
 CA 121 [.slice lo L.length lc] W (EZ W (nZ L)):=by
 have h63:=hv.Wq;refine cS 33 [(0,_)] Tryz.func121 ?_;refine Gz 8 ?_;refine SP zA rfl ?_;intro w1 hg1 hs1 hf1;obtain⟨p,ep⟩:∃ p,p=W.heap.size:=⟨_,rfl⟩
 rw[←ep] at hg1 ⊢;have hP1:WrL (· = p) w1.heap p 0 []:=VY hg1 rfl;have hpl:=(WD.1 hg1).1;refine Gz 16 ?_;refine SO (β:=Nat×By×(Nat→Prop)) (fun⟨i,last,A⟩=>[(4,pT p),(5,.string (bs last)),(8,.slice lo L.length lc),(9,iV L.length),(10,iV i)]) (fun⟨i,last,A⟩ w=>i≤L.length∧cX [] (L.take i)∧last=(if i=0 then [] else (L.getD (i-1) EN).1)∧WrL A w.heap p 0 (bZ (L.take i))∧(∀ k,A k→p≤k∧k<w.heap.size)∧aA nob W w) (fun⟨i,last,A⟩=>L.length-i) ⟨0,[],(· = p)⟩ ⟨rfl,rfl,rfl,rfl,rfl,trivial⟩ ⟨WG _,trivial,rfl,hP1,fun k hk=>by have h:k=p:=hk;omega,hf1⟩ ?_;rintro⟨i,last,A⟩ w2 ⟨hi,hch,hla,hP2,hA,hF2⟩;refine fK 2 ?_ ?_<;>intro h11
 ·have hil:i<L.length:=by omega
  obtain⟨x,hx⟩:∃ x,L[i]?=some x:=⟨_,Wv hil⟩
  have hxm:=hsm x (Wz hx);have hv2:=hv.Wr hF2;have hchl:=xN hch;have htl:(L.take i).length=i:=by rw[WB];omega
  have hnext:cX [] L→jL x (if i=0 then [] else (L.getD (i-1) EN).1):=fun h=>AH h hx;have hz2:=hF2.size;refine Gz 10 ?_;refine cL (SL Fy rfl rfl hv2.non (by omega)) ?_;refine cL (SX (cs:=xO x) EX rfl (fun j v hj=>hv2.rowZ i rfl hx j v hj)) ?_;refine SP H1 rfl ?_;intro w3 hg3 hs3 hf3;obtain⟨q,eq⟩:∃ q,q=w2.heap.size:=⟨_,rfl⟩
  rw[←eq] at hg3 ⊢;refine sA rfl EX (by exact Ki _) hg3 ?_;intro w4 hg4 hs4 hf4;have hF24:aA nob w2 w4:=hf3.tw hf4;have hF4:=hF2.trans hF24;have hz24:=hF24.size;refine Gz 1 ?_;refine aW [(4,_),(5,_),(7,_),(8,_),(9,_),(10,_),(11,_)] ?_;refine Gz 4 ?_;refine cL (SX (cs:=xO x) EX rfl (bJ hg4 0 rfl)) ?_;refine cA 1 PU (Km x last w4 hxm) ?_;rintro _ w5 ⟨rfl,hf5⟩;have hg5:=hf5.obj hg4 id;have hF5:=hF4.trans hf5;have hF25:=hF24.trans hf5;have hz5:=hf5.size;by_cases h16:jL x last
  ·rw[WA h16];have hfit:=qA h16;refine cL (S3 rfl) ?_;refine Gz 9 ?_;refine SJ Gk rfl (H2 A p (bZ (L.take i)) x.1 w5 hfit.1 (hP2.Wr hF25) (by omega)) rfl ?_;rintro _ w6 ⟨hP6,hQ6⟩;have hA6:∀ k,Nx A w5 w6 k→p≤k∧k<w6.heap.size∧k≠q:=fun k hk=>hk.elim (fun h=>by have:=hA k h;have:=hQ6.size;omega) (fun h=>by omega);generalize Nx A w5 w6=A6 at hP6 hA6;have hg6:=hQ6.obj hg5 (fun h=>by have:=(hA _ h).2;omega);have hF6:aA nob W w6:=hF5.Wo hQ6 (fun k hk=>.inr (by have:=(hA k hk).1;omega));refine Gz 6 ?_;refine SJ xG rfl (uM A6 p (bZ (L.take i)++(WP x.1.length::x.1)) x.2.1 1 w6 (Sw hfit) hP6 (by simp only[Ww,WT];have:=hfit.1;omega)) rfl ?_;rintro _ w7 ⟨hP7,hQ7⟩;have hA7:∀ k,Nx A6 w6 w7 k→p≤k∧k<w7.heap.size∧k≠q:=fun k hk=>hk.elim (fun h=>by have:=hA6 k h;have:=hQ7.size;omega) (fun h=>by have:=hQ6.size;omega);generalize Nx A6 w6 w7=A7 at hP7 hA7;have hg7:=hQ7.obj hg6 (fun h=>(hA6 _ h).2.2 rfl);have hF7:aA nob W w7:=hF6.Wo hQ7 (fun k hk=>.inr (by have:=(hA6 k hk).1;omega));refine Gz 6 ?_;refine SJ xG rfl (uM A7 p (bZ (L.take i)++(WP x.1.length::x.1)++le x.2.1 1) x.2.2 4 w7 (Sv hfit) hP7 (by simp only[Ww,WT,aY];have:=hfit.1;omega)) rfl ?_;rintro _ w8 ⟨hP8,hQ8⟩;have hA8:∀ k,Nx A7 w7 w8 k→p≤k∧k<w8.heap.size:=fun k hk=>hk.elim (fun h=>by have:=hA7 k h;have:=hQ8.size;omega) (fun h=>by have:=hQ7.size;have:=hQ6.size;omega);have hg8:=hQ8.obj hg7 (fun h=>(hA7 _ h).2.2 rfl);have hF8:aA nob W w8:=hF7.Wo hQ8 (fun k hk=>.inr (by have:=(hA7 k hk).1;omega));refine Gz 13 ?_;refine aG ⟨i+1,x.1,Nx A7 w7 w8⟩ ⟨by omega,?_,?_,?_,hA8,hF8⟩ (by show L.length-(i+1)<L.length-i;omega)
   · rw[vI hx,tL]
     refine⟨hch,?_⟩;rw[hla] at h16;by_cases hi0:i=0
     ·rw[Wu hi0] at h16;rw[Wu (by rw[hi0];rfl)];exact h16
     ·rw[Wt hi0] at h16;rw[Wt (fun e=>by rw[e] at htl;simp at htl;omega),Ev (by omega) (by omega)];exact h16
   ·rw[Wt (by omega),WI,show i+1-1=i by omega,hx];rfl
   · rw[vI hx,EL]
     have e:bZ (L.take i)++mV x=bZ (L.take i)++(WP x.1.length::x.1)++le x.2.1 1++le x.2.2 4:=by unfold mV;simp only[WL]
     rw[e];exact hP8
  rw[Wx h16];have hno:¬ cX [] L:=fun h=>h16 (by rw[hla];exact hnext h);refine cL (S3 rfl) ?_;refine Gz 17 ?_;have e:nZ L=([],1):=Wt hno;rw[e];exact⟨_,rfl,none,0,rfl,VR,VP,hF5⟩
 have hie:i=L.length:=by omega
 subst hie;rw[Xg] at hP2 hch;refine Gz 11 ?_;refine SJ Bw rfl (fY A p 0 (bZ L) w2 hP2 (by have:=xN hch;omega)) rfl ?_;rintro _ w3 ⟨o3,c3,rfl,ho3,hfr3,hf3⟩;have ho3:Own b8 5 w3.heap o3 c3 (bZ L):=ho3;refine cA 1 Dc (pD A p 0 (bZ L) w3 (hP2.Wr hf3)) ?_;rintro _ wq ⟨rfl,hwq⟩;subst wq;refine Gz 3 ?_;refine aW [(2,_),(3,_),(4,_),(5,_),(8,_),(9,_),(10,_),(11,_)] ?_;refine Gz 3 ?_;have e:nZ L=(bZ L,0):=Wu hch;rw[e];exact⟨_,rfl,o3,c3,rfl,ho3,hfr3.mono hF2.size,hF2.trans hf3⟩
section
open Go Go.RowKit Go.Maps
section
variable {qs:List (NdH×Nd)}{ids:List Int}{files:List Ino}
theorem JW{s:BSt}{X:List Xa}(h:bdR s)(hb:bdB (cJ s X).2):bdR (cJ s X).2:=by
 revert hb
 unfold cJ
 split
 ·exact fun _=>h
 · split
   ·exact fun _=>h
   · intro hb
     refine⟨h.1,fun y hy=>?_⟩;rcases WZ.1 hy with hy|hy
     ·exact h.2 y hy
     · rw[WY] at hy
       subst hy;have h3:=hb.2.2.1;simp only[Ww] at h3;have:=D9 (T:=s.fur) (o:=s.fur.length) (by omega);exact⟨Ya _,by show ((aM s.fur s.fur.length:Nat):Int)≤_;omega⟩
theorem qS{k:Int}{i:Ino}{s:BSt}(h:bdR s)(hb:bdB (fB qs ids k i s)):bdR (fB qs ids k i s):=by
 have h2:=JW h ((uV (qs:=qs) (ids:=ids) k i s).bd hb);refine⟨fun z hz=>?_,h2.2⟩;have hz:z∈(cJ s (ndB qs k).xs).2.refs.set (ndB qs k).ino.toNat _:=hz;rcases List.mem_or_eq_of_mem_set hz with hz|hz
 ·exact h2.1 z hz
 · have h3:=((uV (qs:=qs) (ids:=ids) k i s).bd hb).1
   have:=D9 (T:=(cJ s (ndB qs k).xs).2.ino) (o:=(cJ s (ndB qs k).xs).2.ino.length) (by omega);omega
theorem Fh{wr:Int→BSt→BSt}(hw:∀ k s,bdR s→bdB (wr k s)→bdR (wr k s))(hl:∀ k s,leB s (wr k s)):∀ (ys:List Int) (s:BSt),bdR s→bdB (wrK wr qs ys s).1→bdR (wrK wr qs ys s).1
|[],s,h,_=>h
|j::r,s,h,hb=>Fh hw hl r (wr j s) (hw j s h ((AM hl r (wr j s)).bd hb)) hb
theorem Fj:∀ (n:Nat) (k:Int) (s:BSt),bdR s→bdB (wrB qs ids files n k s)→bdR (wrB qs ids files n k s)
|0,k,s,h,_=>h
|n+1,k,s,h,hb=>by
   revert hb
   unfold wrB
   split
   ·exact fun _=>h
   · split
     ·exact fun hb=>qS h hb
     · split
       ·exact fun hb=>qS h hb
       · split
         · intro hb
           have h1:=(kQ _ _ _).bd hb;have h2:=Fh (Fj n) (AN n) _ s h ((Er _ _).bd h1);exact qS (show bdR { (wrK (wrB qs ids files n) qs (bA qs (ndB qs k).names qs.length) s).1 with lst:=_ } from h2) hb
         ·exact fun hb=>qS h hb
theorem NE(G:GdB qs files){n:Nat}{k:Int}{s:BSt}(h:okS qs s)(hb:bdB (wrB qs ids files n k s)):okS qs (wrB qs ids files n k s):=⟨by rw[(AN n k s).r];exact h.r,Fj n k s h.b hb,H4 G n k s h.h⟩
structure GdP (qs:List (NdH×Nd))(ids:List Int)(files:List Ino):Prop where
 B:GdB qs files
 xs:∀ q∈qs,dF q.2.xs
 tg:∀ q∈qs,q.2.kind≠3→q.2.tgt=[]
 kd:∀ q∈qs,q.2.kind=1∨q.2.kind=2∨q.2.kind=3
 fo:∀ q∈qs,q.2.kind=2→(files.getD q.2.ino.toNat cO).1 0=2
 fz:∀ q∈qs,q.2.kind≠2→(files.getD q.2.ino.toNat cO).1 0≠2
 ft:∀ f∈files,f.2=[]
 ir:ids.Pairwise (· < ·)
 io:∀ q∈qs,q.2.ud∈ids∧q.2.gd∈ids
 il:ids.length≤1099511627776
theorem GdP.ft0(G:GdP qs ids files)(m:Nat):(files.getD m cO).2=[]:=by
 rw[WI];cases h:files[m]? with
|none=>rfl
|some f=>exact G.ft f (Wz h)
theorem J7(k:Int)(f:Ino)(t:By)(s:BSt)(h:f.2=t):fB qs ids k ((fl0 f).1,t) s=fB qs ids k f s:=by subst h;rfl
end
theorem yY.put{m:List (I6×Value)}{refs:List Int}(h:yY m refs)(x:I6){v:Nat}(hx:1≤x.1)(hl:x.1.toNat<refs.length):yY (cN m x (iV (v:Int))) (refs.set x.1.toNat ((v:Int)+1)):=by
 intro a ha;rw[iZ];by_cases e:a=x
 · subst e
   rw[Wu rfl,WI,Xi hl];show _=if 0<(v:Int)+1 then _ else _
   rw[Wu (by omega)];show _=some (Value.int .i64 ((v:Int)+1-1));rw[show (v:Int)+1-1=v by omega]
 · have hne:¬ a.1.toNat=x.1.toNat:=fun h=>e (Subtype.ext (by omega))
   rw[Wt e,h a ha];have e2:(refs.set x.1.toNat ((v:Int)+1)).getD a.1.toNat 0=refs.getD a.1.toNat 0:=by
    rw[WI,XJ (fun h=>hne h.symm)];rfl
   rw[e2]
theorem Df{l:List Int}{m:Nat}{v:Int}(h:m<l.length)(h0:0<l.getD m 0)(hv:0<v):((l.set m v).filter (fun r=>decide (0<r))).length=(l.filter (fun r=>decide (0<r))).length:=by
 have e:l=l.take m++l.getD m 0::l.drop (m+1):=by
  rw[show l.getD m 0=l[m] by simp[WI,h],←Xv h,WX]
 have e2:l.set m v=l.take m++v::l.drop (m+1):=List.set_eq_take_append_cons_drop .. |>.trans (by rw[Wu h]);rw[e2]
 conv=>rhs;rw[e]
 rw[XQ,XQ,Yi (by simpa using hv),Yi (by simpa using h0)];simp
theorem zP{α:Type}[DecidableEq α]{a:α}{v v0:Value}:∀ {l:List (α×Value)},cG l a=some v0→(cN l a v).length=l.length
|[],h=>by cases h
|p::r,h=>by
   unfold cG at h;unfold cN;by_cases e:p.1=a
   ·rw[Wu e];rfl
   · rw[Wt e] at h ⊢
     rw[WT,WT,zP h]
theorem yY.len{m:List (I6×Value)}{refs:List Int}(h:yY m refs)(hn:m.length=(refs.filter (fun r=>decide (0<r))).length)(x:I6){v:Int}(u:Value)(hx:1≤x.1)(hl:x.1.toNat<refs.length)(hv:0<v):(cN m x u).length=((refs.set x.1.toNat v).filter (fun r=>decide (0<r))).length:=by
 have hg:=h x hx;by_cases h0:0<refs.getD x.1.toNat 0
 · rw[Wu h0] at hg
   rw[zP hg,hn,Df hl h0 hv]
 · rw[Wt h0] at hg
   rw[gL _ hg,Ww,hn,xI hl (by omega) hv];rfl
theorem mpQ:sQ Tryz.prog 58 3 3 (iV 0):=⟨by kernel_rfl,by kernel_rfl⟩
theorem mpF:sQ Tryz.prog 59 3 88 (Bn cO):=⟨by kernel_rfl,by kernel_rfl⟩
def PwS(a:PiA)(g tp:Nat)(qs:List (NdH×Nd))(ids:List Int)(files:List Ino)(n:Nat):Prop:=∀ (ow:Nat→Nat) (s:BSt) (k:Int) (W:World),PiX 0 a ow W.heap g tp qs ids files s→(∀ k,W.heap.size≤k→ow k=0)→(0≤k∧k<qs.length)→17≤(ndB qs k).names.length+n→okS qs s→bdB (wrB qs ids files n k s) →
 CA 23 [pT g,iV k] W fun v w'=>v=iV ((wrB qs ids files n k s).refs.getD (ndB qs k).ino.toNat 0-1)∧jW a ow W g tp qs ids files (wrB qs ids files n k s) w'
theorem IZ(a:PiA)(g tp:Nat)(qs:List (NdH×Nd))(ids:List Int)(files:List Ino)(G:GdP qs ids files)(n:Nat)(ih:PwS a g tp qs ids files n)(ow:Nat→Nat)(s:BSt)(q:NdH×Nd)(W:World)(hM:PiX 0 a ow W.heap g tp qs ids files s)(hn:∀ k,W.heap.size≤k→ow k=0)(hqv:NdV (fun k=>ow k=4) W.heap q)(hdp:16≤q.2.names.length+n)(hok:okS qs s)
 (K:BSt×List Ent)(hK:wrK (wrB qs ids files n) qs (bA qs q.2.names qs.length) s=K)(hbd:bdB { K.1 with lst:=K.1.lst++(nZ K.2).1 }) :
 CA 70 [pT g,.agg (aF q).toArray] W fun v w'=>v=.tuple [iV (aM K.1.lst K.1.lst.length:Nat),iV (nZ K.2).1.length].toArray∧okS qs K.1∧jW a ow W g tp qs ids files { K.1 with lst:=K.1.lst++(nZ K.2).1 } w':=by
 obtain⟨hvn,hvd,hvx⟩:=id hqv;have hqn:q.1.names.n=q.2.names.length:=hvn.1;have hn1024:=G.B.n;have hgl:=(WD.1 hM.1.1).1;have hbK:=(Er _ _).bd hbd;refine cS 62 [(0,_),(1,_)] Tryz.func70 ?_;refine Gz 2 ?_;refine Td rfl rfl ?_;intro w1 hg1 hs1 hf1;have hg1:w1.heap[W.heap.size]?=some (.cells (aF q).toArray 37 (0,0)):=hg1;obtain⟨b,eb⟩:∃ b,b=W.heap.size:=⟨_,rfl⟩
 rw[←eb] at hg1 ⊢;have hM1:=hM.Wr hf1;have hbl:ow b=0:=hn b (by omega);have hg2:=hM1.1.1;refine Gz 11 ?_;refine SZ 9 (fun H=>H[g]?=some (.cells (piC a qs.length ids.length).toArray 62 (0,0))∧H[b]?=some (.cells (aF q).toArray 37 (0,0))) [6] [0,1,2,3,4,5,8,6,7] aL (by kernel_rfl) (⟨hg2,hg1⟩) ?_;refine Gz 5 ?_;refine xC rfl (SN (u:=.slice q.1.names.a q.2.names.length q.1.names.c) (SR eW rfl (fun H hH=>aD hH.2 rfl)) (by rw[←hqn];rfl)) ?_;refine Gz 1 ?_;refine SU rfl rfl (SJ Qf rfl (Mf a.lo a.lc qs q.1.names.a q.1.names.c q.2.names (w1.drewN 1) (show aQ _ w1.heap a.lo a.lc qs from hM1.2.1.1) ((hvn.2.1.Wr hf1).Wr (VL 1)) (by omega)) rfl ?_);rintro _ w5 ⟨ko,kc,ys,rfl,hoy,hfy,hky,hf5⟩;have hf5:=hf5.Wp;refine S5 (by exact⟨hf5.obj hg2 id,hf5.obj hg1 id⟩) ?_;have hfy:Fr w1.heap.size ko:=hfy;have hky:=G.B.k _ _ hky;rw[←hky] at hK;have hysl:ys.length≤qs.length:=by rw[hky];exact F5 _
 have hyv:=hoy.vw;have hy63:=hyv.Wq;have hz5:=hf5.size;have hz1:=hf1.size;have hb5:=hf5.obj hg1 id;have hF5:=hf1.trans hf5;have hM5:=hM1.Wr hf5;have hlk5:=hoy.lt;have hq5:=hqv.Wr hF5;have hb5l:=(WD.1 hb5).1;refine Gz 4 ?_;refine SO (β:=(Nat×BSt)×((Nat→Nat)×(Option Addr×(Nat×List Ent)))) (fun⟨⟨j,s9⟩,⟨ow9,⟨lo9,⟨lc9,L9⟩⟩⟩⟩=>[(0,pT g),(3,pT b),(6,.slice lo9 L9.length lc9),(18,.slice ko ys.length kc),(19,iV ys.length),(20,iV j)]) (fun⟨⟨j,s9⟩,⟨ow9,⟨lo9,⟨lc9,L9⟩⟩⟩⟩ w=>j≤ys.length∧L9.length=j∧K=((wrK (wrB qs ids files n) qs (ys.drop j) s9).1,L9++(wrK (wrB qs ids files n) qs (ys.drop j) s9).2)∧PiX 0 a ow9 w.heap g tp qs ids files s9∧okS qs s9∧(∀ k,k<w5.heap.size→ow9 k=ow k)∧(∀ k,w.heap.size≤k→ow9 k=0)∧bP 3 xO 157 w.heap lo9 lc9 L9∧(∀ k,blk lo9 k→w5.heap.size≤k∧ow9 k=0)∧(∀ x∈L9,x.1.length≤255)∧aA (Lb ow) w5 w) (fun⟨⟨j,s9⟩,⟨ow9,⟨lo9,⟨lc9,L9⟩⟩⟩⟩=>ys.length-j) ⟨⟨0,s⟩,⟨ow,⟨none,⟨0,[]⟩⟩⟩⟩ ⟨rfl,rfl,rfl,rfl,rfl,rfl,trivial⟩ ⟨WG _,rfl,hK.symm,hM5,hok,fun _ _=>rfl,fun k hk=>hn k (by omega),VV,(fun k ⟨a,ha,e⟩=>by cases ha),(by simp),VK _ _⟩ ?_;rintro⟨⟨j,s9⟩,⟨ow9,⟨lo9,⟨lc9,L9⟩⟩⟩⟩ w9 ⟨hj,hLj,hwk,hM9,hok9,hl9,hn9,ho9,hb9l,hL9,hF9⟩;refine fK 2 ?_ ?_<;>intro h21
 ·have hjl:j<ys.length:=by omega
  obtain⟨z,hz⟩:∃ z,ys[j]?=some z:=⟨_,Wv hjl⟩
  have hzd:ys.getD j 0=z:=by rw[WI,hz];rfl
  have hzm:=Wz hz;rw[hky] at hzm;obtain⟨i,rfl,hil,hkq⟩:=eZ.1 hzm;obtain⟨r,hr⟩:∃ r,qs[i]?=some r:=⟨_,Wv hil⟩
  rw[rW hr] at hkq;obtain⟨hrne,hrdl⟩:=kM.1 hkq;have hrl:r.2.names.length=q.2.names.length+1:=by have h0:=WN.2 hrne;rw[←hrdl,Yf];omega
  have hnr:=bC hr;obtain⟨⟨hr1,hr2⟩,hrnl,hrnc,hrtl,hrxl⟩:=G.B.q r (Wz hr);obtain⟨mr,hmr⟩:=XR (show 0≤r.2.ino by omega);have hdr:ys.drop j=(i:Int)::ys.drop (j+1):=by obtain⟨h,e⟩:=Wy.1 hz;rw[←e];exact Xv h
  rw[hdr] at hwk;have hb9:bdB (wrB qs ids files n (i:Int) s9):=(AM (qs:=qs) (AN n) (ys.drop (j+1)) _).bd (by have h:=hbK;rw[hwk] at h;exact h);have hvy9:=hyv.Ws hF9 (fun a ha h=>by have h1:=hfy a ha;have h2:=hlk5 a ha;have h:(ow a.block≠0∧ow a.block≠4):=h;exact h.1 (hn _ (by omega)));have hN9:=hM9.2.1.1;refine Gz 10 ?_;refine cL (SI cI rfl rfl hvy9.non (by omega)) ?_;refine cL (SM aN rfl (hvy9.gz 0 j rfl hjl)) ?_;rw[hzd];refine Gz 2 ?_;refine aW [(0,_),(3,_),(6,_),(8,_),(18,_),(19,_),(20,_),(21,_)] ?_;refine Gz 6 ?_;refine cL (SM zR rfl (aD hM9.1.1 rfl)) ?_;refine Gz 1 ?_;refine cL (SL aS rfl rfl hN9.1.non (by omega)) ?_;refine cL (SX (cs:=aF r) bB rfl (fun a v hv=>hN9.1.rowZ i rfl hr a v hv)) ?_;refine SP fF rfl ?_;intro w11 hg11 hs11 hf11;obtain⟨d,ed⟩:∃ d,d=w9.heap.size:=⟨_,rfl⟩
  rw[←ed] at hg11 ⊢;refine SY (vs:=aF r) bB rfl rfl (aB r).2 hg11 rfl ?_;intro w12 hd12 hs12 hf12;have hf912:aA nob w9 w12:=hf11.tw hf12;have hM12:=hM9.Wr hf912;obtain⟨hrn,_⟩:=hM12.2.1.1.2 r (Wz hr);have hrnn:r.1.names.n=r.2.names.length:=hrn.1;have hb12:=(hF9.trans hf912.any).obj hb5 (fun h=>h.1 hbl);have hz12:=hf912.size;have hz9:=hF9.size;have hn12:∀ k,w12.heap.size≤k→ow9 k=0:=fun k hk=>hn9 k (by omega);have hdl:=hn9 d (by omega);have hl9lt:=ho9.lt;refine Gz 2 ?_;refine SZ 17 (fun H=>H[d]?=some (.cells (aF r).toArray 37 (0,0))∧H[b]?=some (.cells (aF q).toArray 37 (0,0))∧Vw gQ H r.1.names.a r.1.names.c r.2.names) [12,14,15] [0,1,2,3,4,5,6,7,8,9,10,11,12,13,14,15,16] aL (by kernel_rfl) (⟨hd12,hb12,hrn.2.1⟩) ?_;refine Gz 2 ?_;refine xC rfl (SN (u:=.slice r.1.names.a r.2.names.length r.1.names.c) (SR eW rfl (fun H hH=>aD hH.1 rfl)) (by rw[←hrnn];rfl)) ?_;refine Gz 1 ?_;refine xC rfl (SN (u:=.slice q.1.names.a q.2.names.length q.1.names.c) (SR eW rfl (fun H hH=>aD hH.2.1 rfl)) (by rw[←hqn];rfl)) ?_;refine Gz 1 ?_;refine xC rfl (SI jK rfl rfl hrn.2.1.non (by omega)) ?_;refine xC rfl (SR fT rfl (fun H hH=>hH.2.2.gz [] q.2.names.length rfl (by omega))) ?_;refine Gz 4 ?_;refine SU rfl rfl (SJ Pz rfl (ih ow9 s9 (i:Int) (w12.drewN 1) hM12 hn12 ⟨by omega,by omega⟩ (by rw[hnr,hrl];omega) hok9 hb9) rfl ?_);rintro _ w13 ⟨rfl,ow13,hM13,hl13,hn13,hf13⟩;have hf13:aA (Lb ow9) w12 w13:=hf13.Wp;have hl13:∀ k,k<w12.heap.size→ow13 k=ow9 k:=hl13;have hr13:=hrn.2.1.Ws hf13 (fun x hx h=>by have h1:=hrn.2.2 hrne _ ⟨x,hx,rfl⟩;have h:(ow9 x.block≠0∧ow9 x.block≠4):=h;exact h.2 h1);have hd13:=hf13.obj hd12 (fun h=>h.1 hdl);have hb13:=hf13.obj hb12 (fun h=>h.1 (by rw[hl9 b (by omega)];exact hbl));rw[hnr,hmr,Xd];refine S5 (by exact⟨hd13,hb13,hr13⟩) ?_;obtain⟨s10,es10⟩:∃ t,t=wrB qs ids files n (i:Int) s9:=⟨_,rfl⟩
  obtain⟨e,ee⟩:∃ e:Ent,e=(bI r.2.names,r.2.kind,s10.refs.getD mr 0-1):=⟨_,rfl⟩
  have hok10:okS qs s10:=by rw[es10];exact NE G.B hok9 hb9
  have hwk2:K=((wrK (wrB qs ids files n) qs (ys.drop (j+1)) s10).1,(L9++[e])++(wrK (wrB qs ids files n) qs (ys.drop (j+1)) s10).2):=by
   rw[hwk];show ((wrK (wrB qs ids files n) qs (ys.drop (j+1)) (wrB qs ids files n (i:Int) s9)).1,L9++((bI (ndB qs i).names,(ndB qs i).kind,(wrB qs ids files n (i:Int) s9).refs.getD (ndB qs i).ino.toNat 0-1)::(wrK (wrB qs ids files n) qs (ys.drop (j+1)) (wrB qs ids files n (i:Int) s9)).2))=_;rw[hnr,hmr,Xd,←es10,←ee,WL];rfl
  rw[←es10] at hM13 ⊢;have hz13:=hf13.size;have ho13:=(ho9.Wr hf912).Ws hf13 (fun x hx h=>h.1 (hb9l _ ⟨x,hx,rfl⟩).2);have hln:r.2.names.getD q.2.names.length []=bI r.2.names:=by unfold bI;rw[hrl];rfl
  rw[hln];refine xC rfl (bU (xO (bI r.2.names,r.2.kind,s10.refs.getD mr 0-1)) NW H1) ?_;rw[←ee];refine SU rfl rfl (Tc Fy (cs:=(xO e).toArray) H1 rfl rfl rfl (by kernel_rfl) rfl ?_);intro w14 hg14 hs14 hf14;have ho14:=bX (e:=157) (xs:=[e]) jI (by simpa using hg14) (by show 1≤maxLen;decide);refine S5 (by exact⟨hf14.obj hd13 id,hf14.obj hb13 id,hr13.Wr hf14⟩) ?_;refine SU rfl rfl (S2 jI rfl Fy rfl rfl (ho13.Wr hf14) (ho14.vw jI) (by simp only[WF];omega) (by simp only[WF];unfold maxLen;omega) rfl ?_);intro lo15 lc15 w15 ho15 hf15 hr15 hn15;have hz14:=hf14.size;have hz15:=hf15.size;have hn9l:∀ k,blk lo9 k→ow13 k=0∧k<w9.heap.size:=fun k hk=>by
   have hk2:k<w9.heap.size:=by obtain⟨x,hx,hxe⟩:=hk;have:=hl9lt x hx;omega
   exact⟨by rw[hl13 k (by omega)];exact(hb9l k hk).2,hk2⟩
  refine S5 (by exact⟨hf15.obj (hf14.obj hd13 id) (fun h=>by have:=(hn9l d h).2;omega),hf15.obj (hf14.obj hb13 id) (fun h=>by have:=(hb9l b h).1;omega),(hr13.Wr hf14).Ws hf15 (fun x hx h=>by have h1:=hrn.2.2 hrne _ ⟨x,hx,rfl⟩;have h1:ow9 x.block=4:=h1;have:=(hb9l _ h).2;omega)⟩) ?_;have hM15:=(hM13.Wr hf14).step hf15 0 (by decide) (fun k hk=>.inr (hn9l k hk).1) (fun _ _=>rfl);have hF15:aA (Lb ow) w5 w15:=((lJ hl9 (hF9.trans hf912.any) hf13).trans hf14.any).Wo hf15 (fun k h=>.inr (hb9l k h).1);have hb15:∀ k,blk lo15 k→w5.heap.size≤k∧ow13 k=0:=fun k hk=>by
   obtain⟨x,hx,hxe⟩:=hk;rcases hr15 x hx with h|h
   ·exact⟨(hb9l k ⟨x,h,hxe⟩).1,(hn9l k ⟨x,h,hxe⟩).1⟩
   ·exact⟨by omega,hn13 k (by omega)⟩
  refine Gz 8 ?_;exact aG ⟨⟨j+1,s10⟩,⟨ow13,⟨lo15,⟨lc15,L9++[e]⟩⟩⟩⟩ ⟨by omega,by rw[Ww,hLj];rfl,hwk2,hM15,hok10,fun k hk=>by rw[hl13 k (by omega)];exact hl9 k hk,fun k hk=>hn13 k (by omega),ho15,hb15,fun x hx=>by
   rcases WZ.1 hx with hx|hx
   ·exact hL9 x hx
   ·rw[WY] at hx;subst hx;rw[ee];exact CZ hrnc,hF15⟩ (by show ys.length-(j+1)<ys.length-j;omega)
 have hje:ys.drop j=[]:=List.drop_of_length_le (by omega);rw[hje] at hwk;have hwk:K=(s9,L9):=by rw[hwk];show (s9,L9++[])=(s9,L9);rw[XK]
 subst hwk;have hL9n:L9.length≤1024:=by omega
 refine Gz 12 ?_;refine SJ Qe rfl (Kl lo9 lc9 L9 w9 (ho9.vw jI) (fun x hx=>W9 (hL9 x hx) (by decide)) (by omega)) rfl ?_;rintro _ w10 ⟨o10,c10,rfl,ho10,hfr10,hf10⟩;have hz10:=hf10.size;have hz9:=hF9.size;have hM10:=hM9.Wr hf10;refine Gz 6 ?_;refine aW [(0,_),(3,_),(6,_),(10,_),(18,_),(19,_),(20,_),(21,_)] ?_;refine Gz 7 ?_;refine cL (SM vV rfl (by rw[AK];exact aD (i:=1) hM10.1.1 rfl)) ?_;refine Gz 1 ?_;refine SJ Mw rfl (G3 o10 c10 (nZ L9).1 w10 hM10 (fun k hk=>hn9 k (by omega)) ho10.vw (by have h:=hbd.2.1;simp only[Ww] at h;omega)) rfl ?_;rintro _ w11 ⟨rfl,hP11⟩;refine Gz 8 ?_;refine⟨_,rfl,rfl,hok9,?_⟩;refine jW.trans (W:=W) (s1:=s9) (ow1:=ow9) (w1:=w10) (fun k hk=>hl9 k (by omega)) ((hF5.any.trans hF9).trans hf10.any) hP11
theorem Ei(a:PiA)(g tp:Nat)(qs:List (NdH×Nd))(ids:List Int)(files:List Ino)(G:GdP qs ids files)(n:Nat)(ih:PwS a g tp qs ids files n):PwS a g tp qs ids files (n+1):=by
 intro ow s k W hM hn hk hdp hok hbd;obtain⟨kn,rfl⟩:=XR hk.1;have hkl:kn<qs.length:=by omega
 obtain⟨q,hq⟩:∃ q,qs[kn]?=some q:=⟨_,Wv hkl⟩
 have hqm:=Wz hq;have hnd:=bC hq;obtain⟨⟨hi1,hi2⟩,hnl,hnc,htl,hxl⟩:=G.B.q q hqm;obtain⟨m,hm⟩:=XR (show 0≤q.2.ino by omega);have hwr:=H5 (ids:=ids) (files:=files) n s hq hm;obtain⟨⟨hg,hg6⟩,⟨⟨nd1,ndq⟩,nd2⟩,_,_,_,_,_,⟨r5,r1⟩,⟨f7,f1⟩,_⟩:=id hM;obtain⟨mr,hmr,hRM,hmrl⟩:=r1 (by decide);obtain⟨mf,hmf,hFM⟩:=f1 (by decide);have hn1024:=G.B.n;have hlr:=hok.r;have hqv:=ndq q hqm;have hib : -9223372036854775808≤q.2.ino∧q.2.ino≤9223372036854775807:=by omega
 have hrv:=hRM ⟨q.2.ino,hib⟩ hi1;have hfv:=hFM ⟨q.2.ino,hib⟩ hi1;have htn:q.2.ino.toNat=m:=by omega
 rw[show (⟨q.2.ino,hib⟩:I6).1.toNat=m from htn] at hrv hfv;obtain⟨R0,hR0⟩:∃ R0:Ino,R0=if (files.getD m cO).1 0=2 then fl0 (files.getD m cO) else cO:=⟨_,rfl⟩
 have hfe:(cG mf ⟨q.2.ino,hib⟩).getD (Bn cO)=Bn R0:=by rw[hfv,hR0];split<;>rfl
 have hR02:R0.2=[]:=by rw[hR0];split;exact G.ft0 m;rfl
 have hfz:=fun h=>G.fz q hqm h;have hfo:=fun h=>G.fo q hqm h;rw[htn] at hfz hfo
 have hi8:q.2.kind≠1→wrB qs ids files (n+1) (kn:Int) s=if 0<s.refs.getD m 0 then s else fB qs ids kn (R0.1,q.2.tgt) s:=fun h=>by
  rw[hwr]
  split
  ·rfl
  · rcases G.kd q hqm with h1|h1|h1
    ·exact absurd h1 h
    · rw[Wu h1,hR0,Wu (hfo h1)]
      exact(J7 _ _ _ _ (by rw[G.ft0 m,G.tg q hqm (by omega)])).symm
    ·rw[Wt (by omega),Wu h1,hR0,Wt (hfz (by omega))];rfl
 refine cS 114 [(0,_),(1,_)] Tryz.func23 ?_;refine Gz 12 ?_;refine cL (SL aS rfl rfl nd1.non (by omega)) ?_;refine cL (SX (cs:=aF q) bB rfl (fun j v hj=>nd1.rowZ kn rfl hq j v hj)) ?_;refine SP fF rfl ?_;intro w1 hg1 hs1 hf1;obtain⟨b,eb⟩:∃ b,b=W.heap.size:=⟨_,rfl⟩
 rw[←eb] at hg1 ⊢;refine SY (vs:=aF q) bB rfl rfl (aB q).2 hg1 rfl ?_;intro w2 hb2 hs2 hf2;have hF2:aA nob W w2:=hf1.tw hf2;have hs1b:w1.heap.size=W.heap.size+1:=hs1;have hs2b:w2.heap.size=w1.heap.size:=hs2;have hg2:=hF2.obj hg id;have hmf2:=hmf.Ws hF2 id;refine Gz 4 ?_;refine SZ 12 (fun H=>H[g]?=some (.cells (piC a qs.length ids.length).toArray 62 (0,0))∧H[b]?=some (.cells (aF q).toArray 37 (0,0))∧cY enI H a.r mr) [] [0,1,2,3,4,5,6,7,8,9,10,11] aL (by kernel_rfl) (⟨hg2,hb2,hmr.Ws hF2 id⟩) ?_;refine Gz 6 ?_;refine xC rfl (Tr mpQ tW (a:=⟨q.2.ino,hib⟩) rfl rfl (fun H hH=>hH.2.2)) ?_;refine Gz 9 ?_;refine Tl (S6 (SQ rfl)) rfl (fun h29=>?_) (fun h29=>?_)
 ·have h29:=of_decide_eq_true h29;have hpos:0<s.refs.getD m 0:=WH fun hc=>by rw[hrv,Wt hc] at h29;cases h29
  have hgv:(cG mr ⟨q.2.ino,hib⟩).getD (iV 0)=iV (s.refs.getD m 0-1):=by rw[hrv,Wu hpos];rfl
  rw[hgv];rw[Wu hpos] at hwr;refine Gz 12 ?_;exact⟨_,rfl,by rw[hwr,hnd,htn],by rw[hwr];exact⟨ow,hM.Wr (hF2.draws 1),fun _ _=>rfl,fun k hk=>hn k (by have hk:w2.heap.size≤k:=hk;omega),(hF2.draws 1).any⟩⟩
 have hpos:¬ 0<s.refs.getD m 0:=fun hc=>h29 (WA (by rw[hrv,Wu hc];rfl));rw[Wt hpos] at hwr;refine Gz 6 ?_;refine SZ 8 (fun H=>H[g]?=some (.cells (piC a qs.length ids.length).toArray 62 (0,0))∧H[b]?=some (.cells (aF q).toArray 37 (0,0))∧cY enI H a.f mf) [7,8] [0,1,2,3,4,5,6,7,8] aL (by kernel_rfl) (⟨hg2,hb2,hmf2⟩) ?_;refine Gz 6 ?_;refine xC rfl (SN (u:=Bn R0) (TY mpF tW (a:=⟨q.2.ino,hib⟩) rfl rfl (fun H hH=>hH.2.2)) hfe) ?_;refine SU rfl rfl (SP HZ rfl ?_);intro w3 hg3 hs3 hf3;have hf3:=hf3.Wp.Wp;obtain⟨c,ec⟩:∃ c,c=w2.heap.size:=⟨_,rfl⟩
 rw[show ((w2.drewN 1).drewN 1).heap.size=c from ec.symm] at hg3 ⊢;refine S5 (by exact⟨hf3.obj hg2 id,hf3.obj hb2 id,hmf2.Ws hf3 id⟩) ?_;refine SU rfl rfl (SY (vs:=Ho R0) tO rfl rfl (wZ _ _) hg3 rfl ?_);intro w4 hc4 hs4 hf4;refine Ts rfl ?_;have hf4:aA (· = c) w3 w4:=hf4;have hf24:aA nob w2 w4:=hf3.tw hf4;have hF4:=hF2.trans hf24;have hs3b:w3.heap.size=w2.heap.size+1:=hs3;have hs4b:w4.heap.size=w3.heap.size:=hs4;have hb4:=hf24.obj hb2 id;have hM4:=hM.Wr hF4;have hg4:=hF4.obj hg id;have hbl:ow b=0:=hn b (by omega);have hcl:ow c=0:=hn c (by omega);have hn4:∀ k,w4.heap.size≤k→ow k=0:=fun k hk=>hn k (by omega);have hbc:b≠c:=by omega
 have hc4:w4.heap[c]?=some (.cells (bY R0.1 []).toArray 88 (0,0)):=by rw[←hR02];exact hc4
 refine Gz 2 ?_;refine Tj (β:=(BSt×Ino)×(Nat→Nat)) (fun⟨⟨s8,i8⟩,ow8⟩=>[(0,pT g),(1,iV (kn:Int)),(5,pT b),(8,pT c)]) (fun⟨⟨s8,i8⟩,ow8⟩ w=>PiX 0 a ow8 w.heap g tp qs ids files s8∧w.heap[b]?=some (.cells (aF q).toArray 37 (0,0))∧w.heap[c]?=some (.cells (bY i8.1 []).toArray 88 (0,0))∧wrB qs ids files (n+1) (kn:Int) s=fB qs ids kn i8 s8∧i8.2=q.2.tgt∧okS qs s8∧s8.refs.getD m 0=s8.refs.getD m 0∧(∀ k,k<w4.heap.size→ow8 k=ow k)∧(∀ k,w.heap.size≤k→ow8 k=0)∧aA (fun k=>Lb ow k∨k=c) w4 w) ?_ ?_
 ·refine fK 4 ?_ ?_<;>intro h40
  ·obtain⟨K,hK⟩:∃ K,wrK (wrB qs ids files n) qs (bA qs q.2.names qs.length) s=K:=⟨_,rfl⟩
   rw[Wt (by omega),Wt (by omega),Wu h40,hK] at hwr;have hbK:bdB { K.1 with lst:=K.1.lst++(nZ K.2).1 }:=(kQ (qs:=qs) (ids:=ids) _ _ _).bd (show bdB _ from hwr ▸ hbd);rw[hR0,Wt (hfz (by omega))] at hc4;refine Gz 5 ?_;refine cL (SX (cs:=aF q) bB rfl (bJ hb4 0 rfl)) ?_;refine SJ RX rfl (IZ a g tp qs ids files G n ih ow s q w4 hM4 hn4 (hqv.Wr hF4) (by rw[hnd] at hdp;omega) hok K hK hbK) rfl ?_;rintro _ w5 ⟨rfl,hokK,ow5,hM5,hl5,hn5,hf5⟩;have hz5:=hf5.size;have hb5:=hf5.obj hb4 (fun h=>h.1 hbl);have hc5:=hf5.obj hc4 (fun h=>h.1 hcl);have hc5l:ow5 c=0:=by rw[hl5 c (by omega)];exact hcl
   refine Gz 4 ?_;refine SV aN rfl rfl rfl hc5 rfl ?_;intro w6 hc6 hs6 hf6;have hb6:=hf6.obj hb5 hbc;have hM6:=hM5.step hf6 0 (by decide) (fun k hk=>.inr (by have h:k=c:=hk;rw[h];exact hc5l)) (fun _ _=>rfl);have hs6b:w6.heap.size=w5.heap.size:=hs6;refine Gz 1 ?_;refine SV aN rfl rfl rfl hc6 rfl ?_;intro w7 hc7 hs7 hf7;have hb7:=hf7.obj hb6 hbc;have hM7:=hM6.step hf7 0 (by decide) (fun k hk=>.inr (by have h:k=c:=hk;rw[h];exact hc5l)) (fun _ _=>rfl);have hs7b:w7.heap.size=w6.heap.size:=hs7;refine Gz 1 ?_;refine aC ⟨⟨{ K.1 with lst:=K.1.lst++(nZ K.2).1 },HG K.1 (nZ K.2).1⟩,ow5⟩ ⟨hM7,hb7,hc7,hwr,(G.tg q hqm (by omega)).symm,⟨hokK.r,hokK.b,hokK.h⟩,rfl,fun k hk=>hl5 k hk,fun k hk=>hn5 k (by omega),?_⟩;exact(hf5.mono (fun k h=>.inl h)).trans ((hf6.mono (fun k h=>.inr h)).trans (hf7.mono (fun k h=>.inr h)))
  have h8:=hi8 h40;rw[Wt hpos] at h8;refine Gz 4 ?_;exact aC ⟨⟨s,(R0.1,q.2.tgt)⟩,ow⟩ ⟨hM4,hb4,hc4,h8,rfl,hok,rfl,fun _ _=>rfl,hn4,VK _ _⟩
 rintro⟨⟨s8,i8⟩,ow8⟩ w8 ⟨hM8,hb8,hc8,hw8,ht8,hok8,_,hl8,hn8,hF8⟩;refine Gz 1 ?_;refine SZ 20 (fun H=>H[b]?=some (.cells (aF q).toArray 37 (0,0))∧H[g]?=some (.cells (piC a qs.length ids.length).toArray 62 (0,0))) [12,14,16,18,20] [0,1,2,3,4,5,6,7,8,9,10,11,13,12,14,15,16,17,18,19,20] aL (by kernel_rfl) (⟨hb8,hM8.1.1⟩) ?_;refine Gz 1 ?_;have hz8:=hF8.size;have hcs:c<w4.heap.size:=by omega
 have hbs:b<w4.heap.size:=by omega
 have hc8l:ow8 c=0:=by rw[hl8 c hcs];exact hcl
 have hb8l:ow8 b=0:=by rw[hl8 b hbs];exact hbl
 have kc:∀ {w w2:World},PiX 0 a ow8 w.heap g tp qs ids files s8→aA (· = c) w w2→PiX 0 a ow8 w2.heap g tp qs ids files s8:=fun hM hf=>hM.step hf 0 (by decide) (fun k hk=>.inr (by have h:k=c:=hk;rw[h];exact hc8l)) (fun _ _=>rfl);obtain⟨R,hR⟩:∃ R,R=cJ s8 q.2.xs:=⟨_,rfl⟩
 have hfix:fB qs ids (kn:Int) i8 s8 = { R.2 with ino:=R.2.ino++(pS (inB qs ids kn i8 R.1).1 (inB qs ids kn i8 R.1).2).1,refs:=R.2.refs.set m ((aM R.2.ino R.2.ino.length:Nat)+1),many:=R.2.many+1 }:=by unfold fB;rw[hnd,←hR,hm,Xd]
 have hbF:bdB R.2:=by have h:=(uV (qs:=qs) (ids:=ids) kn i8 s8).bd (by rw[←hw8];exact hbd);rw[hnd,←hR] at h;exact h
 have hbT:R.2.ino.length+(pS (inB qs ids kn i8 R.1).1 (inB qs ids kn i8 R.1).2).1.length≤137438953472:=by have h:=hbd.1;rw[hw8,hfix] at h;simp only[Ww] at h;exact h
 refine Gz 3 ?_;refine xC rfl (SR aN rfl (fun H hH=>aD (i:=3) hH.1 rfl)) ?_;refine Gz 8 ?_;refine SU rfl rfl (SJ RW rfl (Js a.lo a.lc qs kn (w8.drewN 1) (show aQ _ w8.heap a.lo a.lc qs from hM8.2.1.1)) rfl ?_);rintro _ w9 ⟨rfl,hf9⟩;have hf9:=hf9.Wp;refine S5 (by exact⟨hf9.obj hb8 id,hf9.obj hM8.1.1 id⟩) ?_;have hz9:=hf9.size;have hc9:=hf9.obj hc8 id;have hb9:=hf9.obj hb8 id;have hg9:=hf9.obj hM8.1.1 id;have hgc:g≠c:=fun e=>by have h:=hM8.1.2;rw[e,hc8l] at h;cases h
 have hM9:=hM8.Wr hf9;refine SU rfl rfl (SV aN rfl rfl rfl hc9 rfl ?_);intro w10 hc10 hs10 hf10;have hb10:=hf10.obj hb9 hbc;have hg10:=hf10.obj hg9 hgc;refine S5 (by exact⟨hb10,hg10⟩) ?_;have hs10b:w10.heap.size=w9.heap.size:=hs10;refine Gz 1 ?_;refine SU rfl rfl (SV aN rfl rfl rfl hc10 rfl ?_);intro w11 hc11 hs11 hf11;have hb11:=hf11.obj hb10 hbc;have hg11:=hf11.obj hg10 hgc;refine S5 (by exact⟨hb11,hg11⟩) ?_;have hs11b:w11.heap.size=w10.heap.size:=hs11;refine Gz 1 ?_;refine SU rfl rfl (SV fT rfl rfl rfl hc11 rfl ?_);intro w12 hc12 hs12 hf12;have hb12:=hf12.obj hb11 hbc;have hg12:=hf12.obj hg11 hgc;refine S5 (by exact⟨hb12,hg12⟩) ?_;have hs12b:w12.heap.size=w11.heap.size:=hs12;refine Gz 1 ?_;refine SU rfl rfl (SV aN rfl rfl rfl hc12 rfl ?_);intro w13 hc13 hs13 hf13;refine Ts rfl ?_;have hs13b:w13.heap.size=w12.heap.size:=hs13;have hM13:=kc (kc (kc (kc hM9 hf10) hf11) hf12) hf13;have hb13:=hf13.obj (hf12.obj (hf11.obj (hf10.obj hb9 hbc) hbc) hbc) hbc;refine Gz 3 ?_;refine SZ 13 (fun H=>H[g]?=some (.cells (piC a qs.length ids.length).toArray 62 (0,0))∧H[b]?=some (.cells (aF q).toArray 37 (0,0))) [7,12] [0,1,2,3,4,5,6,7,8,9,10,11,12] aL (by kernel_rfl) (⟨hM13.1.1,hb13⟩) ?_;refine Gz 6 ?_;refine xC rfl (SR aN rfl (fun H hH=>aD (i:=4) hH.2 rfl)) ?_;refine SU rfl rfl (SJ Pm rfl (KR a.io a.ic ids q.2.ud (w13.drewN 1) (show Vw i64 w13.heap a.io a.ic ids from hM13.2.2.1.1) G.ir (G.io q hqm).1 G.il) rfl ?_);rintro _ w14 ⟨rfl,hw⟩;subst hw;refine S5 (by exact⟨hM13.1.1,hb13⟩) ?_;refine Gz 4 ?_;refine SU rfl rfl (SV aN rfl rfl rfl hc13 rfl ?_);intro w15 hc15 hs15 hf15;have hf15:=hf15.Wp;have hb15:=hf15.obj hb13 hbc;refine S5 (by exact⟨hf15.obj hM13.1.1 hgc,hb15⟩) ?_;have hM15:=kc hM13 hf15;have hs15b:w15.heap.size=w13.heap.size:=hs15;refine Gz 3 ?_;refine SZ 13 (fun H=>H[g]?=some (.cells (piC a qs.length ids.length).toArray 62 (0,0))∧H[b]?=some (.cells (aF q).toArray 37 (0,0))) [7,12] [0,1,2,3,4,5,6,7,8,9,10,11,12] aL (by kernel_rfl) (⟨hM15.1.1,hb15⟩) ?_;refine Gz 6 ?_;refine xC rfl (SR aN rfl (fun H hH=>aD (i:=5) hH.2 rfl)) ?_;refine SU rfl rfl (SJ Pm rfl (KR a.io a.ic ids q.2.gd (w15.drewN 1) (show Vw i64 w15.heap a.io a.ic ids from hM15.2.2.1.1) G.ir (G.io q hqm).2 G.il) rfl ?_);rintro _ w16 ⟨rfl,hw⟩;subst hw;refine S5 (by exact⟨hM15.1.1,hb15⟩) ?_;refine Gz 4 ?_;refine SU rfl rfl (SV aN rfl rfl rfl hc15 rfl ?_);intro w17 hc17 hs17 hf17;have hf17:=hf17.Wp;have hb17:=hf17.obj hb15 hbc;refine S5 (by exact⟨hf17.obj hM15.1.1 hgc,hb17⟩) ?_;have hM17:=kc hM15 hf17;have hs17b:w17.heap.size=w15.heap.size:=hs17;have hn17:∀ k,w17.heap.size≤k→ow8 k=0:=fun k hk=>hn8 k (by omega);refine Gz 5 ?_;refine cL (SX (cs:=aF q) bB rfl (bJ hb17 0 rfl)) ?_;refine SJ RV rfl (I4 a ow8 g tp qs ids files s8 q w17 hM17 hn17 (hM17.2.1.1.2 q hqm) (G.xs q hqm) (by have h:=(Bs s8 q.2.xs).f;rw[←hR] at h;have:=hbF.2.2.1;omega) hok8.b.2) rfl ?_;rw[←hR];rintro _ w18 ⟨rfl,ow18,hM18,hl18,hn18,hf18⟩;have hz18:=hf18.size;have hb18:=hf18.obj hb17 (fun h=>h.1 hb8l);have hc18:=hf18.obj hc17 (fun h=>h.1 hc8l);have hc18l:ow18 c=0:=by rw[hl18 c (by omega)];exact hc8l
 have hb18l:ow18 b=0:=by rw[hl18 b (by omega)];exact hb8l
 refine Gz 1 ?_;refine SV aN rfl rfl rfl hc18 rfl ?_;intro w19 hc19 hs19 hf19;have hs19b:w19.heap.size=w18.heap.size:=hs19;have hb19:=hf19.obj hb18 hbc;have hM19:=hM18.step hf19 0 (by decide) (fun k hk=>.inr (by have h:k=c:=hk;rw[h];exact hc18l)) (fun _ _=>rfl);have hcF:w19.heap[c]?=some (.cells (bY (inB qs ids kn i8 R.1).1 (inB qs ids kn i8 R.1).2).toArray 88 (0,0)):=by unfold inB;rw[hnd,ht8];exact hc19
 refine Gz 4 ?_;refine cL (SX (cs:=bY (inB qs ids kn i8 R.1).1 (inB qs ids kn i8 R.1).2) tO rfl (bJ hcF 0 rfl)) ?_;refine SJ RU rfl (NT (inB qs ids kn i8 R.1).1 (inB qs ids kn i8 R.1).2 w19 (by show i8.2.length≤maxLen;rw[ht8];unfold maxLen;omega)) rfl ?_;rintro _ w20 ⟨o20,c20,rfl,ho20,hfr20,hf20⟩;have hz20:=hf20.size;have hb20:=hf20.obj hb19 id;have hM20:=hM19.Wr hf20;refine Gz 13 ?_;refine cL (SM vV rfl (by rw[AK];exact aD (i:=0) hM20.1.1 rfl)) ?_;refine Gz 1 ?_;refine SJ Mw rfl (G4 o20 c20 (pS (inB qs ids kn i8 R.1).1 (inB qs ids kn i8 R.1).2).1 w20 hM20 (fun k hk=>hn18 k (by omega)) ho20.vw (by omega)) rfl ?_;rintro _ w21 ⟨rfl,ow21,hM21,hl21,hn21,hf21⟩;have hz21:=hf21.size;have hb21:=hf21.obj hb20 (fun h=>h.1 hb18l);obtain⟨s21,es21⟩:∃ t:BSt,t = { R.2 with ino:=R.2.ino++(pS (inB qs ids kn i8 R.1).1 (inB qs ids kn i8 R.1).2).1 }:=⟨_,rfl⟩
 have zr:s21.refs=R.2.refs:=by rw[es21]
 have zm:s21.many=R.2.many:=by rw[es21]
 rw[←es21] at hM21;obtain⟨⟨hg21,_⟩,_,_,_,_,_,_,⟨r521,r121⟩,_⟩:=id hM21;obtain⟨mr21,hmr21,hRM21,hmrl21⟩:=r121 (by decide);refine Gz 4 ?_;refine SZ 7 (fun H=>H[g]?=some (.cells (piC a qs.length ids.length).toArray 62 (0,0))∧H[b]?=some (.cells (aF q).toArray 37 (0,0))) [7] [0,1,2,3,4,5,6,7] aL (by kernel_rfl) (⟨hg21,hb21⟩) ?_;refine Gz 7 ?_;refine SU rfl rfl (Th mpQ tW (a:=(⟨q.2.ino,hib⟩:I6)) rfl rfl rfl hmr21 ?_);intro w22 hm22 hs22 hf22;refine Ts rfl ?_;have hf22:aA (· = a.r) w21 w22:=hf22.Wp;refine Gz 10 ?_;have hRl:R.2.refs.length=qs.length+1:=by rw[hR,(Bs s8 q.2.xs).r];exact hok8.r
 rw[hw8,hfix];refine⟨_,rfl,?_,?_⟩
 · rw[hnd,htn]
   show _=Value.int .i64 ((R.2.refs.set m (((aM R.2.ino R.2.ino.length:Nat):Int)+1)).getD m 0-1);rw[WI,Xi (by omega)];show _=Value.int .i64 (((aM R.2.ino R.2.ino.length:Nat):Int)+1-1);rw[show ((aM R.2.ino R.2.ino.length:Nat):Int)+1-1=(aM R.2.ino R.2.ino.length:Nat) by omega]
 · have hst:=hM21.step hf22 5 (by decide) (fun k hk=>.inl (by have h:k=a.r:=hk;rw[h];exact r521)) (fun _ _=>rfl)
   obtain⟨c0,c1,c2,c3,c4,c5,c6,⟨c7,_⟩,c8,c9⟩:=hst;subst es21;have h1l:R.2.refs.length=qs.length+1:=hRl;have hp1:=hRM21.put ⟨q.2.ino,hib⟩ (v:=aM R.2.ino R.2.ino.length) hi1 (by show q.2.ino.toNat<R.2.refs.length;omega);have hp2:=yY.len hRM21 hmrl21 ⟨q.2.ino,hib⟩ (v:=((aM R.2.ino R.2.ino.length:Nat):Int)+1) (iV ((aM R.2.ino R.2.ino.length:Nat):Int)) hi1 (by show q.2.ino.toNat<R.2.refs.length;omega) (by omega);rw[show (⟨q.2.ino,hib⟩:I6).1.toNat=m from htn] at hp1 hp2;have hz22:=hf22.size;have A8:aA (Lb ow) W w8:=(hF4.any (S:=Lb ow)).Wo hF8 (fun k h=>h.elim .inl (fun h=>.inr (by omega)));have A13:aA (Lb ow) W w13:=((((A8.trans hf9.any).tw hf10).tw hf11).tw hf12).tw hf13;have A17:aA (Lb ow) W w17:=(A13.tw hf15).tw hf17;have l8:∀ k,k<W.heap.size→ow8 k=ow k:=fun k hk=>hl8 k (by omega);have l18:∀ k,k<W.heap.size→ow18 k=ow k:=fun k hk=>by rw[hl18 k (by omega),l8 k hk]
   have l21:∀ k,k<W.heap.size→ow21 k=ow k:=fun k hk=>by rw[hl21 k (by omega),l18 k hk]
   have A19:aA (Lb ow) W w19:=(lJ l8 A17 hf18).tw hf19;have A21:aA (Lb ow) W w21:=lJ l18 (A19.trans hf20.any) hf21;refine⟨ow21,⟨c0,c1,c2,c3,fun _=>c4 (by decide),fun _=>c5 (by decide),fun _=>c6 (by decide),⟨c7,fun _=>⟨_,hm22,hp1,hp2⟩⟩,c8.imp id (fun h _=>h (by decide)),c9.imp id (fun h _=>h (by decide))⟩,l21,fun k hk=>hn21 k (by omega),A21.Wo hf22 (fun k h=>?_)⟩;have h:k=a.r:=h;by_cases hk:k<W.heap.size
   · refine .inl ?_
     rw[h] at hk ⊢;show ow a.r≠0∧ow a.r≠4;rw[r5];decide
   ·exact .inr (by omega)
theorem zY(a:PiA)(g tp:Nat)(qs:List (NdH×Nd))(ids:List Int)(files:List Ino)(G:GdP qs ids files):∀ (n:Nat),PwS a g tp qs ids files n
|0=>fun ow s k W hM hn hk hdp hok hbd=>by
   exfalso;obtain⟨kn,rfl⟩:=XR hk.1;obtain⟨q,hq⟩:∃ q,qs[kn]?=some q:=⟨_,Wv (by omega)⟩
   have h:=(G.B.q q (Wz hq)).2.1;rw[bC hq] at hdp;omega
|n+1=>Ei a g tp qs ids files G n (zY a g tp qs ids files G n)
end
section
open Go Go.RowKit Go.Maps
theorem rV{α:Type}[DecidableEq α]:∀ (l m:List α),l.Nodup→(∀ x∈l,x∈m)→l.length≤m.length
|[],_,_,_=>WG _
|x::r,m,hn,h=>by
   have hx:=h x (by simp);have h1:=YQ.1 hn;have h2:=rV r (m.erase x) h1.2 (fun y hy=>(List.mem_erase_of_ne (fun e=>h1.1 (by rw[←e];exact hy))).2 (h y (by simp[hy])));rw[List.length_erase_of_mem hx] at h2;have:=List.length_pos_of_mem hx;rw[WT];omega
theorem qM{qs:List (NdH×Nd)}{ids:List Int}(h:mA qs ids):ids.length≤2*qs.length:=by
 have:=rV ids (gY qs) (h.1.imp (fun h=>by omega)) (fun x hx=>(h.2 x).1 hx);rw[wL] at this;exact this
theorem uK{ids:List Int}{z:Int}(h:z∈ids):0≤oM ids z∧oM ids z<ids.length∧ids.getD (oM ids z).toNat 0=z:=by
 unfold oM;cases hf:ids.findIdx? (fun x=>decide (x=z)) with
|none=>
   rw[XX] at hf;have:=hf z h;simp at this
|some i=>
   rw[Xu] at hf;obtain⟨hi,h1,_⟩:=hf;have h1:ids[i]=z:=by simpa using h1
   refine⟨Ya _,by show (i:Int)<_;omega,?_⟩;show ids.getD ((i:Int)).toNat 0=z;rw[Xd,WI,Wv hi];exact h1
theorem pU{qs:List (NdH×Nd)}{q:NdH×Nd}(h:q∈qs):q.2.ud∈gY qs∧q.2.gd∈gY qs:=by
 obtain⟨i,hi⟩:=WO h;have hl:=(Wy.1 hi).1;have hz:=wL qs;have g:∀ j,j<2*qs.length→(gY qs).getD j 0∈gY qs:=fun j hj=>by
  rw[WI,Wv (by omega)];exact Xw _
 obtain⟨k0,k1⟩:=FL qs i q hi;refine⟨?_,?_⟩
 · have:=g (2*i) (by omega)
   rw[k0] at this;exact this
 · have:=g (2*i+1) (by omega)
   rw[k1] at this;exact this
theorem MO{qs:List (NdH×Nd)}{q:NdH×Nd}(h:q∈qs):1≤gC qs q.2.ino:=by
 unfold gC;have:0<qs.countP (fun p=>decide (p.2.ino=q.2.ino)):=List.countP_pos_iff.2 ⟨q,h,by simp⟩;omega
section
variable {qs:List (NdH×Nd)}{ids:List Int}{fs:FSt}(G:GdT qs)(I:mA qs ids)(F:FI (nds qs) (qs.length+1) fs)
include G
theorem GdT.one{k:Nat}{q:NdH×Nd}(hq:qs[k]?=some q)(hk:q.2.kind=1):gC qs q.2.ino=1:=by
 have hl:=(Wy.1 hq).1;have hz:∀ L:List (NdH×Nd),(∀ p∈L,p.2.ino≠q.2.ino)→L.countP (fun p=>decide (p.2.ino=q.2.ino))=0:=fun L h=>List.countP_eq_zero.2 (fun p hp=>by simpa using h p hp);have e:qs=qs.take k++q::qs.drop (k+1):=by rw[←(Wy.1 hq).2,List.getElem_cons_drop,WX]
 unfold gC;have h1:(qs.take k).countP (fun p=>decide (p.2.ino=q.2.ino))=0:=hz _ (fun p hp he=>by
  obtain⟨j,hj⟩:=WO hp;rw[Xf] at hj
  split at hj
  · rename_i hlt
    exact(G.lnk k j q p (by omega) hq hj he.symm).1 hk
  ·cases hj)
 have h2:(qs.drop (k+1)).countP (fun p=>decide (p.2.ino=q.2.ino))=0:=hz _ (fun p hp he=>by
  obtain⟨j,hj⟩:=WO hp;rw[List.getElem?_drop] at hj;exact(G.lnk k (k+1+j) q p (by omega) hq hj he.symm).1 hk)
 have h3:qs.countP (fun p=>decide (p.2.ino=q.2.ino))=(qs.take k).countP (fun p=>decide (p.2.ino=q.2.ino))+(1+(qs.drop (k+1)).countP (fun p=>decide (p.2.ino=q.2.ino))):=by
  conv=>lhs;rw[e]
  rw[List.countP_append,List.countP_cons_of_pos (by simp)];omega
 rw[h3,h1,h2];rfl
theorem GdT.same{q x:NdH×Nd}(hq:q∈qs)(hx:x∈qs)(e:x.2.ino=q.2.ino):Alk x.2 q.2:=by
 obtain⟨i,hi⟩:=WO hx;obtain⟨j,hj⟩:=WO hq;by_cases h:i=j
 ·subst h;rw[hi] at hj;cases hj;exact V5 _
 ·exact(G.lnk i j x q h hi hj e).2
include F in
theorem Gq {q:NdH×Nd} (hq:q∈qs) (hk:q.2.kind=2):FOk fs.ds.B fs.tails q.2.data (fs.files.getD q.2.ino.toNat cO):=by
 have hi:=G.ino q hq;have hl:=F.l;obtain⟨f,hf⟩:∃ f,fs.files[q.2.ino.toNat]?=some f:=⟨_,Wv (by omega)⟩
 have hd:fs.files.getD q.2.ino.toNat cO=f:=by rw[WI,hf];rfl
 have ha:=F.a q.2 (WS.2 ⟨q,hq,rfl⟩) hk;rw[hd] at ha ⊢;rcases F.f _ f hf with e|⟨x,hx,h1,h2,h3⟩
 ·rw[e] at ha;exact absurd (show (0:Int)=2 from ha) (by decide)
 · obtain⟨p,hp,rfl⟩:=WS.1 hx
   have:=G.ino p hp;have e:=G.same hq hp (by omega);rw[←e.2.2.2.2.1];exact h3
omit G in
theorem Gx {B:By} {L:List By} {d:By} {f:Ino} (h:FOk B L d f) (hL:yX L):∃ st fr off:Nat,f=(fun j=>[2,0,0,0,0,0,(st:Int),(d.length:Int),(fr:Int),(off:Int)].getD j 0,[])∧st≤64+B.length∧fr≤L.length∧(0<fr↔0<d.length%128)∧off<128∧(0<fr∨off=0)∧DM B d st∧TlS L (cR d) fr off:=by
 obtain⟨st,fr,off,h1,h2,h3⟩:=h;have ht:(cR d).length=d.length%128:=by unfold cR;rw[WE];omega
 have hs:st≤64+B.length:=by
  rcases h2 with⟨_,e⟩|⟨_,pre,rest,e1,e2⟩
  ·omega
  ·rw[e1,e2,Ww];omega
 refine⟨st,fr,off,h1,hs,?_⟩;have h3':=h3;rcases h3 with⟨e1,e2,e3⟩|⟨e0,n,a,z,e1,e2,e3,e4⟩
 · rw[e1] at ht
   have ht:0=d.length%128:=ht;exact⟨by omega,by omega,by omega,.inr e3,h2,h3'⟩
 · have hb:=hL (L.getD n []) (by rw[WI,Wv e1];exact Xw _)
   rw[e4,Ww,Ww] at hb;exact⟨by omega,by omega,by omega,.inl (by omega),h2,h3'⟩
include I F in
theorem Bg {k:Nat} {q:NdH×Nd} (hq:qs[k]?=some q) {i:Ino} {xr:Int} (hx:0≤xr∧xr≤4294967295)
 (h2:q.2.kind=2→i=fs.files.getD q.2.ino.toNat cO) (h3:q.2.kind=3→i=(zF,q.2.tgt)) (h1:q.2.kind=1→∃ a n:Nat,i=(fun j=>if j=6 then (a:Int) else if j=7 then (n:Int) else 0,[])∧a≤4294967295∧n≤1048576) :
 fU (inB qs ids k i xr).1 (inB qs ids k i xr).2:=by
 have hm:=Wz hq;have hkl:=(Wy.1 hq).1;obtain⟨⟨k1,k3⟩,_,m1,m2,m3,m4,m5,m6,_⟩:=G.may q hm;have hn:=G.n;have hil:=qM I;obtain⟨o1,o2⟩:=pU hm;obtain⟨u1,u2,_⟩:=uK ((I.2 _).2 o1);obtain⟨g1,g2,_⟩:=uK ((I.2 _).2 o2);have hl:wQ qs (k:Int)=gC qs q.2.ino:=qE ⟨by omega,by omega⟩ (by rw[Xd];exact hq);have hc:=KA qs q.2.ino;have hc1:=MO hm;have hnd:=bC hq;have f0:(inB qs ids k i xr).1 0=q.2.kind:=by unfold inB;rw[hnd];rfl
 have f1:(inB qs ids k i xr).1 1=q.2.md:=by unfold inB;rw[hnd];rfl
 have f2:(inB qs ids k i xr).1 2=oM ids q.2.ud:=by unfold inB;rw[hnd];rfl
 have f3:(inB qs ids k i xr).1 3=oM ids q.2.gd:=by unfold inB;rw[hnd];rfl
 have f4:(inB qs ids k i xr).1 4=gC qs q.2.ino:=by rw[←hl];rfl
 have f5:(inB qs ids k i xr).1 5=xr:=rfl;have f6:(inB qs ids k i xr).1 6=i.1 6:=rfl;have f7:(inB qs ids k i xr).1 7=i.1 7:=rfl;have f8:(inB qs ids k i xr).1 8=i.1 8:=rfl;have f9:(inB qs ids k i xr).1 9=i.1 9:=rfl;have ft:(inB qs ids k i xr).2=i.2:=rfl;unfold fU iE;rw[f0,f1,f2,f3,f4,f5,f6,f7,f8,f9,ft];by_cases c2:q.2.kind=2
 · have hf:=Gq G F hm c2
   rw[←h2 c2] at hf;obtain⟨st,fr,off,rfl,a1,a2,a3,a4,a5,_,_⟩:=Gx hf F.t;have hB:=F.b;have hT:=F.tn;rw[WK] at hB hT;refine⟨⟨by omega,by omega,by omega,by omega,by omega,by omega,by omega,by omega,by omega,by omega,.inl ⟨c2,?_⟩⟩,fun h=>by omega⟩;show 0≤((q.2.data.length:Nat):Int)∧((q.2.data.length:Nat):Int)≤4096∧0≤((fr:Nat):Int)∧((fr:Nat):Int)≤1024∧(0<((fr:Nat):Int)↔0<((q.2.data.length:Nat):Int)%128)∧0≤((st:Nat):Int)∧((st:Nat):Int)≤4294967295∧0≤((off:Nat):Int)∧((off:Nat):Int)<128∧(0<((fr:Nat):Int)∨((off:Nat):Int)=0)∧([]:By).length=0;refine⟨by omega,by omega,by omega,by omega,by omega,by omega,by omega,by omega,by omega,by omega,rfl⟩
 · by_cases c3:q.2.kind=3
   · unfold okT at m6
     rw[Wu c3] at m6;have hp:=WN.2 m6.1;rw[h3 c3];refine⟨⟨by omega,by omega,by omega,by omega,by omega,by omega,by omega,by omega,by omega,by omega,.inr (.inr ⟨c3,by show 1≤q.2.tgt.length;omega,m6.2.1,rfl,rfl,rfl,rfl⟩)⟩,fun _=>m6.2.2⟩
   · have c1:q.2.kind=1:=by omega
     obtain⟨a,n,rfl,ha,hn2⟩:=h1 c1;have h11:=G.one hq c1;refine⟨⟨by omega,by omega,by omega,by omega,by omega,by omega,by omega,by omega,by omega,by omega,.inr (.inl ⟨c1,?_⟩)⟩,fun h=>by omega⟩;show 0≤((a:Nat):Int)∧((a:Nat):Int)≤4294967295∧0≤((n:Nat):Int)∧((n:Nat):Int)≤1048576∧gC qs q.2.ino=1∧(0:Int)=0∧(0:Int)=0∧([]:By).length=0;exact⟨by omega,by omega,by omega,by omega,h11,rfl,rfl,rfl⟩
end
theorem lP.many41{qs:List (NdH×Nd)}{ids:List Int}{files:List Ino}{s:BSt}(h:lP qs ids files s)(hn:qs.length≤40):s.many≤41:=by
 have h1:=YL (fun r:Int=>decide (0<r)) s.refs;rw[h.many];unfold lW;rw[h.rl] at h1;omega
theorem lP.ref_le{qs:List (NdH×Nd)}{ids:List Int}{files:List Ino}{s:BSt}(h:lP qs ids files s)(hn:qs.length≤40){m:Nat}(hm:0<s.refs.getD m 0):s.refs.getD m 0-1≤4294967295:=by
 obtain⟨_,_,_,_,o,_,_,e,_,ha,_⟩:=h.std m hm;have h1:=ha.le;have h2:=h.bi;have h3:=h.many41 hn;have h4:=sC s.ino (o/128);rw[e];unfold aM;omega
section
variable {qs:List (NdH×Nd)}{ids:List Int}{files:List Ino}(G:GdT qs)
include G
theorem sE{s:BSt}(h:lP qs ids files s){S:List By}:∀ (ys:List Int) (last:By),(∀ z∈ys,z∈bA qs S qs.length)→ys.Pairwise (· < ·)→Ch qs s ys→(∀ z∈ys,WU last (bI (ndB qs z).names)=true)→cX last (fV qs s ys)
|[],_,_,_,_,_=>trivial
|z::r,last,hk,hp,hs,hl=>by
   obtain⟨k,q,rfl,hq,hn⟩:=gA (hk z (by simp));have hnd:=bC hq;have hm:=Wz hq;obtain⟨⟨k1,k3⟩,_⟩:=G.may q hm;have hpos:=hs (k:Int) (by simp);have hrl:=h.ref_le G.n.2 hpos;have hp2:=X9.1 hp;refine⟨⟨?_,hl _ (by simp),?_,?_,?_,?_⟩,?_⟩
   · show cZ (bI (ndB qs k).names)=0
     rw[hnd];refine G.nmv q hm _ ?_;rw[hn];simp[bI]
   ·show 1≤(ndB qs k).kind;rw[hnd];exact k1
   ·show (ndB qs k).kind≤3;rw[hnd];exact k3
   ·show 0≤s.refs.getD _ 0-1;omega
   ·show s.refs.getD _ 0-1≤4294967295;exact hrl
   · refine sE h r _ (fun z hz=>hk z (by simp[hz])) hp2.2 (fun z hz=>hs z (by simp[hz])) (fun z hz=>?_)
     obtain⟨j,p,rfl,hj,hnj⟩:=gA (hk z (by simp[hz]));have hlt:=hp2.1 _ hz;have hless:=G.lt k j q p (by omega) hq hj;rw[bC hj];show WU (bI (ndB qs k).names) _=true;rw[hnd];have hkq:jM q.2.names S:=kM.2 ⟨by rw[hn];simp,by rw[hn];simp⟩;have hkp:jM p.2.names S:=kM.2 ⟨by rw[hnj];simp,by rw[hnj];simp⟩;unfold bO at hless;have h5:=of_decide_eq_true hless;rw[Mg hkq hkp] at h5;exact MQ.1 h5
theorem Ke{s:BSt}{S:List By}:(bZ (fV qs s (bA qs S qs.length))).length≤10440:=by
 have key:∀ ys:List Int,(∀ z∈ys,z∈bA qs S qs.length)→(bZ (fV qs s ys)).length≤261*ys.length:=by
  intro ys
  induction ys with
 |nil=>intro _;exact WC _
 |cons z r ih=>
    intro h;obtain⟨k,q,rfl,hq,hn⟩:=gA (h z (by simp));have h2:=ih (fun y hy=>h y (by simp[hy]));have h3:(bI (ndB qs k).names).length≤255:=by
     rw[bC hq];refine(jN (G.nmv q (Wz hq) _ ?_)).1;rw[hn];simp[bI]
    have e:bZ (fV qs s ((k:Int)::r))=mV (bI (ndB qs k).names,(ndB qs k).kind,s.refs.getD (ndB qs k).ino.toNat 0-1)++bZ (fV qs s r):=rfl;rw[e,Ww,qU,WT];show (bI (ndB qs k).names).length+6+_≤_;omega
 have h1:=key _ (fun z hz=>hz);have h2:=qJ (ps:=qs) (s:=S) qs.length;have h3:=G.n.2;omega
end
end
section
open Go Go.RowKit Go.Maps
def BlI(s:BSt):Prop:=s.lst.length≤10440*s.many
structure GdW (qs:List (NdH×Nd))(ids:List Int)(files:List Ino)(s t:BSt)(q:Nd):Prop where
 inv:lP qs ids files t
 bl:BlI t
 ex:Ex s t
 set:0<t.refs.getD q.ino.toNat 0
 ch:∀ m,t.refs.getD m 0≠s.refs.getD m 0→∃ x∈qs,x.2.ino=(m:Int)∧∃ r,x.2.names=q.names++r
section
variable {qs:List (NdH×Nd)}{ids:List Int}{fs:FSt}(G:GdT qs)(I:mA qs ids)(F:FI (nds qs) (qs.length+1) fs)
include G
theorem Fg{wr:Int→BSt→BSt}{S:List By}(IH:∀ (k:Nat) (q:NdH×Nd) (s:BSt),qs[k]?=some q→q.2.names.length=S.length+1→lP qs ids fs.files s→BlI s→GdW qs ids fs.files s (wr k s) q.2) :
 ∀ (ys:List Int) (s:BSt),(∀ z∈ys,z∈bA qs S qs.length)→lP qs ids fs.files s→BlI s→∃ t,wrK wr qs ys s=(t,fV qs t ys)∧lP qs ids fs.files t∧BlI t∧Ex s t∧Ch qs t ys ∧
  ∀ m,t.refs.getD m 0≠s.refs.getD m 0→∃ x∈qs,x.2.ino=(m:Int)∧∃ a r,x.2.names=S++a::r
|[],s,_,h,hb=>⟨s,rfl,h,hb,.rfl,(by intro j hj;cases hj),fun m hm=>absurd rfl hm⟩
|z::r,s,hk,h,hb=>by
   obtain⟨k,q,rfl,hq,hn⟩:=gA (hk z (by simp));have g:=IH k q s hq (by rw[hn];simp) h hb;obtain⟨t,e,i1,i2,i3,i4,i5⟩:=Fg IH r (wr k s) (fun y hy=>hk y (by simp[hy])) g.inv g.bl;have hnd:=bC hq;have hset:0<t.refs.getD q.2.ino.toNat 0:=by rw[i3.r _ g.set];exact g.set
   refine⟨t,?_,i1,i2,g.ex.trans i3,?_,fun m hm=>?_⟩
   · show ((wrK wr qs r (wr k s)).1,(bI (ndB qs k).names,(ndB qs k).kind,(wr k s).refs.getD (ndB qs k).ino.toNat 0-1)::(wrK wr qs r (wr k s)).2)=_
     rw[e];refine Yl rfl ?_;show _::fV qs t r=(bI (ndB qs k).names,(ndB qs k).kind,t.refs.getD (ndB qs k).ino.toNat 0-1)::fV qs t r;rw[hnd,i3.r _ g.set]
   · intro j hj
     rcases W5.1 hj with rfl|hj
     ·rw[hnd];exact hset
     ·exact i4 j hj
   · by_cases hc:t.refs.getD m 0=(wr k s).refs.getD m 0
     · obtain⟨x,hx,h1,y,h2⟩:=g.ch m (by rw[←hc];exact hm)
       obtain⟨a,ha⟩:∃ a,a=bI q.2.names:=⟨_,rfl⟩
       rw[←ha] at hn;exact⟨x,hx,h1,a,y,by rw[h2,hn];simp⟩
     ·exact i5 m hc
include I F in
theorem Fi:∀ (n:Nat) (k:Nat) (q:NdH×Nd) (s:BSt),qs[k]?=some q→17≤q.2.names.length+n→lP qs ids fs.files s→BlI s→GdW qs ids fs.files s (wrB qs ids fs.files n k s) q.2
|0,k,q,s,hq,hd,h,hb=>by
   have:=G.dep q (Wz hq);omega
|n+1,k,q,s,hq,hd,h,hb=>by
   have hqm:=Wz hq;have hi:=G.ino q hqm;have hn40:=G.n.2;obtain⟨m,hm⟩:=XR (show 0≤q.2.ino by omega);have hmt:q.2.ino.toNat=m:=by omega
   have hX:=(G.may q hqm).2.2.2.2.2.2.2.2;obtain⟨k1,k3⟩:=(G.may q hqm).1;rw[H5 n s hq hm];have one:∀ (s':BSt) (i:Ino),lP qs ids fs.files s'→s'.lst.length≤10440*(s'.many+1)→s'.refs.getD m 0=0→Ex s s'→KiI qs fs.files s' q.2 i →
    (∀ xr,0≤xr→xr≤4294967295→fU (inB qs ids k i xr).1 (inB qs ids k i xr).2)→(∀ a,s'.refs.getD a 0≠s.refs.getD a 0→∃ x∈qs,x.2.ino=(a:Int)∧∃ r,x.2.names=q.2.names++r)→GdW qs ids fs.files s (fB qs ids k i s') q.2:=by
    intro s' i hI hl h0 he hk hmay hch;obtain⟨f1,f2,f3,f4,f5,f6⟩:=J6 hI hq hm (by omega) h0 hX hk hmay hn40;refine⟨f1,by unfold BlI;rw[f5,f6];exact hl,he.trans f2,by rw[hmt];exact f3,fun a ha=>?_⟩;by_cases e:a=m
    ·exact⟨q,hqm,by rw[e];exact hm,[],by simp⟩
    ·rw[f4 a e] at ha;exact hch a ha
   by_cases c0:0<s.refs.getD m 0
   · rw[Wu c0]
     exact⟨h,hb,.rfl,by rw[hmt];exact c0,fun a ha=>absurd rfl ha⟩
   · rw[Wt c0]
     have h0:s.refs.getD m 0=0:=by have:=h.rn m;omega
     have hbl:s.lst.length≤10440*(s.many+1):=by have:s.lst.length≤10440*s.many:=hb;omega
     have hno:∀ a,s.refs.getD a 0≠s.refs.getD a 0→∃ x∈qs,x.2.ino=(a:Int)∧∃ r,x.2.names=q.2.names++r:=fun a ha=>absurd rfl ha;by_cases c2:q.2.kind=2
     · rw[Wu c2]
       have e:fs.files.getD m cO=fs.files.getD q.2.ino.toNat cO:=by rw[hmt]
       exact one s _ h hbl h0 .rfl ⟨fun _=>e,fun h=>by omega,fun h=>by omega⟩ (fun xr a b=>Bg G I F hq ⟨a,b⟩ (fun _=>e) (fun h=>by omega) (fun h=>by omega)) hno
     · rw[Wt c2]
       by_cases c3:q.2.kind=3
       · rw[Wu c3]
         exact one s _ h hbl h0 .rfl ⟨fun h=>by omega,fun _=>rfl,fun h=>by omega⟩ (fun xr a b=>Bg G I F hq ⟨a,b⟩ (fun h=>by omega) (fun _=>rfl) (fun h=>by omega)) hno
       · rw[Wt c3,Wu (by omega)]
         have c1:q.2.kind=1:=by omega
         obtain⟨t,e,i1,i2,i3,i4,i5⟩:=Fg (S:=q.2.names) (ids:=ids) (fs:=fs) G (wr:=wrB qs ids fs.files n) (fun k' q' s' hq' hl h' hb'=>Fi n k' q' s' hq' (by omega) h' hb') (bA qs q.2.names qs.length) s (fun _ hz=>hz) h hb;rw[e];have hch:cX [] (fV qs t (bA qs q.2.names qs.length)):=sE G i1 _ _ (fun _ hz=>hz) (jH _) i4 (fun z hz=>by
          obtain⟨k',q',rfl,hq',hn'⟩:=gA hz;rw[bC hq'];have hv:=(jN (G.nmv q' (Wz hq') (bI q'.2.names) (by rw[hn'];simp[bI]))).2.1;cases hc:bI q'.2.names with
         |nil=>exact absurd hc hv
         |cons a r=>rfl)
         have hp:=(Dr hch).1;have hlen:=Ke (s:=t) G (S:=q.2.names);simp only;rw[hp];simp only;obtain⟨B,hB⟩:∃ B,B=bZ (fV qs t (bA qs q.2.names qs.length)):=⟨_,rfl⟩
         rw[←hB] at hlen ⊢;have hex:Ex t { t with lst:=t.lst++B }:=⟨⟨[],by simp⟩,⟨_,rfl⟩,⟨[],by simp⟩,fun _ _=>rfl⟩
         obtain⟨u,hu⟩:∃ u,u = { t with lst:=t.lst++B }:=⟨_,rfl⟩
         rw[←hu] at hex ⊢;have u1:u.ino=t.ino:=by rw[hu]
         have u2:u.refs=t.refs:=by rw[hu]
         have u3:u.fur=t.fur:=by rw[hu]
         have u4:u.sets=t.sets:=by rw[hu]
         have u5:u.many=t.many:=by rw[hu]
         have u6:u.lst=t.lst++B:=by rw[hu]
         have hIu:lP qs ids fs.files u:=⟨fun a ha=>by rw[u2] at ha;exact(i1.std a ha).ex ha hex,by rw[u2];exact i1.rl,fun a=>by rw[u2];exact i1.rn a,fun y hy=>by rw[u4] at hy;rw[u3];exact i1.sets y hy,by rw[u5,i1.many];unfold lW;rw[u2],fun a b=>by rw[u2];exact i1.dist a b,by rw[u1,u5];exact i1.bi,by rw[u3,u5];exact i1.bf,by rw[u4,u5];exact i1.sn,fun y hy=>i1.sh y (by rw[←u4];exact hy)⟩
         have ht0:u.refs.getD m 0=0:=by
          rw[u2];apply WH;intro hne;obtain⟨x,hx,hxi,a,r,hxn⟩:=i5 m (by rw[h0];exact hne);obtain⟨j,hj⟩:=WO hx;by_cases ej:k=j
          · subst ej;rw[hq] at hj;cases hj
            have:=congrArg W6 hxn;simp at this
          ·exact(G.lnk k j q x ej hq hj (by omega)).1 c1
         have hd1:HG t B=MJ u t.lst.length (bZ (fV qs u (bA qs q.2.names qs.length))).length:=by
          have e1:fV qs u (bA qs q.2.names qs.length)=fV qs t (bA qs q.2.names qs.length):=BA i4 hex;rw[e1,←hB];unfold HG MJ;rw[u6,fM (WC _)]
         have hki:KiI qs fs.files u q.2 (HG t B):=⟨fun h=>by omega,fun h=>by omega,fun _=>⟨i4.ex hex,t.lst.length,hd1,by
          rw[BA i4 hex,←hB,u6];exact .new _ _⟩⟩
         have hm41:=i1.many41 hn40;have hlt:t.lst.length≤10440*t.many:=i2;refine one u _ hIu (by rw[u6,u5,Ww];omega) ht0 (i3.trans hex) hki (fun xr a b=>Bg G I F hq ⟨a,b⟩ (fun h=>by omega) (fun h=>by omega) (fun _=>⟨aM t.lst t.lst.length,B.length,rfl,?_,by omega⟩)) (fun a ha=>?_)
         · have:=sC t.lst (t.lst.length/128)
           unfold aM;omega
         · rw[u2] at ha
           obtain⟨x,hx,h1,b,r,h2⟩:=i5 a ha;exact⟨x,hx,h1,b::r,h2⟩
omit G in
theorem RO:lP qs ids fs.files (pG (qs.length+1))∧BlI (pG (qs.length+1)):=by
 have hz:∀ m,(pG (qs.length+1)).refs.getD m 0=0:=fun m=>by
  show (W4 (qs.length+1) (0:Int)).getD m 0=0;rw[WI,Ze]
  split<;>rfl
 refine⟨⟨fun m hm=>?_,Xl,fun m=>by rw[hz];exact Int.le_refl _,(by intro y hy;cases hy),?_,fun m n hm=>?_,WG _,WG _,WG _,(by intro y hy;cases hy)⟩,WG _⟩
 ·rw[hz] at hm;exact absurd hm (by decide)
 · show 0=(List.filter _ (W4 (qs.length+1) (0:Int))).length
   rw[List.filter_replicate];simp
 ·rw[hz] at hm;exact absurd hm (by decide)
include I F in
theorem nW:∃ S,wrB qs ids fs.files 17 0 (pG (qs.length+1))=S∧lP qs ids fs.files S∧BlI S∧∀ q∈qs,0<S.refs.getD q.2.ino.toNat 0:=by
 obtain⟨r,hr,hr1,hr2⟩:=G.root;obtain⟨a,b⟩:=RO (qs:=qs) (ids:=ids) (fs:=fs);have g:=Fi G I F 17 0 r (pG (qs.length+1)) hr (by omega) a b;refine⟨_,rfl,g.inv,g.bl,?_⟩;obtain⟨S,hS⟩:∃ S,S=wrB qs ids fs.files 17 (0:Nat) (pG (qs.length+1)):=⟨_,rfl⟩
 rw[←hS] at g;show ∀ q∈qs,0<(wrB qs ids fs.files 17 ((0:Nat):Int) (pG (qs.length+1))).refs.getD q.2.ino.toNat 0;rw[←hS];have key:∀ (d:Nat) (q:NdH×Nd),q∈qs→q.2.names.length=d→0<S.refs.getD q.2.ino.toNat 0:=by
  intro d
  induction d with
 |zero=>
    intro q hq hl;obtain⟨j,hj⟩:=WO hq;have e:=G.inj hr hj (by rw[hr1,WM.1 hl]);subst e;rw[hr] at hj;cases hj;exact g.set
 |succ d ih=>
    intro q hq hl;obtain⟨j,hj⟩:=WO hq;have hne:q.2.names≠[]:=fun e=>by rw[e] at hl;cases hl
    obtain⟨p,hp,hpn,hpk⟩:=G.up q hq hne;have hpos:=ih p hp (by rw[hpn,Yf];omega);obtain⟨k',q',i,xr,o,h1,h2,h3,h4,h5,h6,h7⟩:=g.inv.std _ hpos;obtain⟨jp,hjp⟩:=WO hp;have hpi:=G.ino p hp;have e:k'=jp:=WH fun hne=>(G.lnk jp k' p q' (fun h=>hne h.symm) hjp h1 (by omega)).1 hpk;subst e;rw[h1] at hjp;cases hjp;have hk:=(h7.2.2 hpk).1 (j:Int) (JA hj hne hpn.symm);rw[bC hj] at hk;exact hk
 exact fun q hq=>key _ q hq rfl
end
end
section
open Go Go.RowKit Go.Maps
theorem zH:∀ (L:List By) (t:By) (s:DS),dD (L++[t]) s=((lY 64 (dD L s).1 t).1,(dD L s).2++[((lY 64 (dD L s).1 t).2:Int)])
|[],t,s=>rfl
|x::r,t,s=>by
   show ((dD (r++[t]) (lY 64 s x).1).1,_::(dD (r++[t]) (lY 64 s x).1).2)=_;rw[zH r t];rfl
theorem Ii{L:List By}(h:yX L)(s:DS):(dD L s).1.B.length≤s.B.length+135*L.length:=by
 obtain⟨z,hz,hl⟩:=nA L s;have key:∀ M:List By,yX M→(M.map (fun t=>(bW t).1.length)).sum≤135*M.length:=by
  intro M
  induction M with
 |nil=>intro _;exact WC _
 |cons x r ih=>
    intro hb;have h1:=ih (fun y hy=>hb y (by simp[hy]));have h2:=hb x (by simp);have h3:=gX (b:=x) h2.2;rw[Xo,sum_cons,WT];omega
 have:=key L h;rw[hz,Ww];omega
theorem oJ(T:By):(dnW T).length≤135*((T.length+127)/128):=sC T (nF T)
structure SG (qs:List (NdH×Nd))(ids:List Int):Prop where
 B:(dD (aV qs).tails (aV qs).ds).1.B.length≤200000
 i:(aE qs ids).s.ino.length≤10000
 l:(aE qs ids).s.lst.length≤500000
 f:(aE qs ids).s.fur.length≤200000
 b:bdB (aE qs ids).s
 m:(aE qs ids).s.many≤41
 d:ids.length≤80
 n4:(aJ (aE qs ids).pl 4).1.length≤160
 n2:(aJ ids 2).1.length≤160
 o1:(fO (aE qs ids)).length≤200000
 o2:(eC (aE qs ids)).length≤400000
 o3:(eB (aE qs ids)).length≤1000000
 o4:(eA (aE qs ids)).length≤1100000
 o5:(dZ (aE qs ids) ids).length≤1200000
 o6:(dE (aE qs ids) ids).length≤1500000
theorem zZ(l:List Int)(w:Nat)(hw:w24 w)(h:inW w l):(aJ l w).1.length=w*l.length:=by rw[mJ hw h,qX]
theorem Gw{qs:List (NdH×Nd)}{ids:List Int}(G:GdT qs)(I:mA qs ids):SG qs ids:=by
 have F:=Bx (qs:=qs) (fun q hq=>⟨G.ino q hq,(G.may q hq).2.2.2.2.2.2.1⟩);obtain⟨S,e,hI,hB,_⟩:=nW G I F;have e:(aE qs ids).s=S:=e;have hn:=G.n.2;have h41:=hI.many41 hn;have hid:=qM I;have h1:=hI.bi;have h2:S.lst.length≤10440*S.many:=hB;have h3:=hI.bf;have h4:=hI.sn;have hT:=F.tn;have hFB:=F.b;rw[WK] at hT hFB;have hb:=Ii F.t (aV qs).ds;have hpl:=jZ (aV qs).tails (aV qs).ds;have hpi:inW 4 (aE qs ids).pl:=by
  intro x hx;obtain⟨j,hj,rfl⟩:=Xn hx;have hj2:j<(aV qs).tails.length:=by have:j<(dD (aV qs).tails (aV qs).ds).2.length:=hj;omega
  obtain⟨pre,rest,a1,a2⟩:=uC (aV qs).tails (aV qs).ds j hj2;have e:(aE qs ids).pl[j]=(dD (aV qs).tails (aV qs).ds).2.getD j 0:=by
   have e2:(aE qs ids).pl=(dD (aV qs).tails (aV qs).ds).2:=rfl;rw[WI,←e2,Wv hj];rfl
  have a3:=congrArg W6 a1;rw[Ww] at a3;rw[e,a2];refine⟨by omega,?_⟩;show (64:Int)+pre.length<4294967296;omega
 have hii:inW 2 ids:=by
  intro x hx;have h:=(I.2 x).1 hx;unfold gY at h;obtain⟨q,hq,h1⟩:=XZ.1 h;obtain⟨_,_,_,m2,m3,_⟩:=G.may q hq;simp only[W5,Xm,or_false] at h1;refine⟨by rcases h1 with rfl|rfl<;>omega,?_⟩;show x<65536;rcases h1 with rfl|rfl<;>omega
 have hp4:(aJ (aE qs ids).pl 4).1.length=4*(aE qs ids).pl.length:=zZ _ 4 (.inr rfl) hpi;have hp2:(aJ ids 2).1.length=2*ids.length:=zZ _ 2 (.inl rfl) hii;have hpl2:(aE qs ids).pl.length=(aV qs).tails.length:=hpl;have d1:=oJ (aE qs ids).s.ino;have d2:=oJ (aE qs ids).s.lst;have d3:=oJ (aJ (aE qs ids).pl 4).1;have d4:=oJ (aJ ids 2).1;have d5:=oJ (aE qs ids).s.fur;rw[e] at d1 d2 d5;rw[hp4] at d3;rw[hp2] at d4;have l1:(fO (aE qs ids)).length=(dD (aV qs).tails (aV qs).ds).1.B.length:=rfl;have l2:(eC (aE qs ids)).length=(fO (aE qs ids)).length+(dnW (aE qs ids).s.ino).length:=Ww;have l3:(eB (aE qs ids)).length=(eC (aE qs ids)).length+(dnW (aE qs ids).s.lst).length:=Ww;have l4:(eA (aE qs ids)).length=(eB (aE qs ids)).length+(dnW (aJ (aE qs ids).pl 4).1).length:=Ww;have l5:(dZ (aE qs ids) ids).length=(eA (aE qs ids)).length+(dnW (aJ ids 2).1).length:=Ww;have l6:(dE (aE qs ids) ids).length=(dZ (aE qs ids) ids).length+(dnW (aE qs ids).s.fur).length:=Ww;rw[e] at l2 l3 l6;refine⟨by omega,by rw[e];omega,by rw[e];omega,by rw[e];omega,by rw[e];exact⟨by omega,by omega,by omega,by omega,by omega⟩,by rw[e];omega,by omega,by omega,by omega,by omega,by omega,by omega,by omega,by omega,by omega⟩
def fs0(n:Nat):FSt:=⟨⟨[],[]⟩,[],W4 n cO⟩
theorem fi0(n:Nat):FI [] n (fs0 n):=⟨yO.zero,(by intro b hb;cases hb),WC _,Xl,WC _,fun i f hf=>.inl (Y8 (Wz hf)),(by intro x hx;cases hx)⟩
theorem Kc{V:List Nd}{n:Nat}{s:FSt}(h:FI V n s):∀ f∈s.files,f.2.length≤200:=by
 intro f hf;obtain⟨i,hi⟩:=WO hf;rcases h.f i f hi with e|⟨x,_,_,_,st,fr,off,e,_⟩
 ·rw[e];exact WG _
 ·rw[e];exact WG _
theorem Ji{qs:List (NdH×Nd)}{k:Nat}{q:NdH×Nd}(h:qs[k]?=some q):nds (qs.take (k+1))=nds (qs.take k)++[q.2]:=by rw[tkL h];simp[nds]
theorem J8{qs:List (NdH×Nd)}{k:Nat}{q:NdH×Nd}(h:qs[k]?=some q)(s:FSt):(nds (qs.take (k+1))).foldl iI s=iI ((nds (qs.take k)).foldl iI s) q.2:=by rw[Ji h,List.foldl_append];rfl
theorem xJ{s:FSt}{x:Nd}(h:x.kind≠2∨(s.files.getD x.ino.toNat cO).1 0=2):iI s x=s:=by unfold iI;rw[Wu h]
def BuP(W:World)(ps:List (NdH×Nd)):Value→World→Prop:=fun v w'=>
 (chk (nds ps)≠0∧v=.tuple #[sN,iV (chk (nds ps))]∧aA nob W w') ∨
 (chk (nds ps)=0∧∃ ids o c,mA (aP ps) ids∧v=.tuple #[.slice o (qL (aP ps) ids).1.length c,iV (qL (aP ps) ids).2]∧Own b8 5 w'.heap o c (qL (aP ps) ids).1∧Fr W.heap.size o∧aA nob W w')
end
section
open Go Go.RowKit Go.Maps
theorem PiX.calm{z:Nat}{a:PiA}{ow:Nat→Nat}{H:Array Obj}{g tp:Nat}{qs:List (NdH×Nd)}{ids:List Int}{files:List Ino}{s:BSt}(h:PiX z a ow H g tp qs ids files s)(hz:z≠1∧z≠2∧z≠3∧z≠5∧z≠7∧z≠8):PiX 0 a ow H g tp qs ids files s:=by
 obtain⟨b0,b1,b2,b3,c1,c2,c3,⟨c4,c5⟩,⟨c6,c7⟩,c8,c9⟩:=h;exact⟨b0,b1,b2,b3,fun _=>c1 hz.1,fun _=>c2 hz.2.1,fun _=>c3 hz.2.2.1,⟨c4,fun _=>c5 hz.2.2.2.1⟩,⟨c6,fun _=>c7 hz.2.2.2.2.1⟩,c8,fun _=>c9 hz.2.2.2.2.2⟩
theorem iJ.mono{D D':Nat→Prop}{H:Array Obj}{p:Nat}{L:List By}(h:iJ D H p L)(hd:∀ k,D k→D' k):iJ D' H p L:=by
 obtain⟨ao,c,bo,c',h1,h2,h3,h4,h5,h6,h7,h8,h9⟩:=h;exact⟨ao,c,bo,c',h1,h2,h3,h4,h5,h6,hd _ h7,fun k hk=>hd k (h8 k hk),fun k hk=>hd k (h9 k hk)⟩
theorem Ly{D:Nat→Prop}{H:Array Obj}{hs:List Hd}{L:List By}(h:dB D H hs L):dB (fun k=>D k∧k<H.size) H hs L:=
 ⟨h.1,fun i x y hx hy=>by
  obtain⟨a,b,c⟩:=h.2 i x y hx hy;exact⟨a,b,fun hne k hk=>⟨c hne k hk,by obtain⟨z,hz,e⟩:=hk;have:=b.lt hne z hz;omega⟩⟩⟩
theorem Fa.put{m:List (I6×Value)}{files:List Ino}(h:Fa m files)(x:I6){f:Ino}(hx:1≤x.1)(hl:x.1.toNat<files.length)(hf:f.1 0=2):Fa (cN m x (Bn (fl0 f))) (files.set x.1.toNat f):=by
 intro a ha;rw[iZ];by_cases e:a=x
 · subst e
   rw[Wu rfl,WI,Xi hl];show _=if f.1 0=2 then _ else _
   rw[Wu hf];rfl
 · have hne:¬ a.1.toNat=x.1.toNat:=fun h=>e (Subtype.ext (by omega))
   rw[Wt e,h a ha];have e2:(files.set x.1.toNat f).getD a.1.toNat cO=files.getD a.1.toNat cO:=by
    rw[WI,XJ (fun h=>hne h.symm)];rfl
   rw[e2]
theorem De:∀ {L:List By},yX L→L.length≤1048576→L.flatten.length≤1099511627776:=by
 have key:∀ L:List By,yX L→L.flatten.length≤128*L.length:=by
  intro L
  induction L with
 |nil=>intro _;exact WC _
 |cons x r ih=>
    intro h;have h1:=ih (fun y hy=>h y (by simp[hy]));have h2:=(h x (by simp)).2;rw[List.flatten_cons,Ww,WT];omega
 intro L h hn;have:=key L h;omega
noncomputable def Bl (W w':World) (z:Nat) (o:Option Addr) (ow:Nat→Nat):Nat→Nat:=fun k=>open Classical in if k<W.heap.size then ow k else if k<w'.heap.size∧¬ blk o k then z else 0
theorem C0{W w':World}{z:Nat}{o:Option Addr}{ow:Nat→Nat}{k:Nat}(h:k<W.heap.size):Bl W w' z o ow k=ow k:=Wu h
theorem Jw{W w':World}{z:Nat}{o:Option Addr}{ow:Nat→Nat}(hs:W.heap.size≤w'.heap.size){k:Nat}(h:w'.heap.size≤k):Bl W w' z o ow k=0:=by unfold Bl;rw[Wt (by omega),Wt (fun h2=>by have:=h2.1;omega)]
theorem F4{W w':World}{z:Nat}{o:Option Addr}{ow:Nat→Nat}(hn:∀ k,W.heap.size≤k→ow k=0){k:Nat}(h:ow k≠0):Bl W w' z o ow k=ow k:=C0 (WH fun hc=>h (hn k (by omega)))
theorem Jy{W w':World}{z:Nat}{o:Option Addr}{ow:Nat→Nat}(hf:Fr W.heap.size o){k:Nat}(h:blk o k):Bl W w' z o ow k=0:=by
 obtain⟨x,hx,rfl⟩:=id h;have:=hf x hx;unfold Bl;rw[Wt (by omega),Wt (fun h2=>h2.2 h)]
theorem Me{W w':World}{z:Nat}{o:Option Addr}{ow:Nat→Nat}(hn:∀ k,W.heap.size≤k→ow k=0)(hz:z≠0){k:Nat}(h:Nx (fun k=>ow k=z) W w' k∧¬ blk o k):Bl W w' z o ow k=z:=by
 obtain⟨h,hb⟩:=h;rcases h with h|⟨h1,h2⟩
 ·rw[F4 hn (by omega)];exact h
 ·unfold Bl;rw[Wt (by omega),Wu ⟨h2,hb⟩]
theorem El(a:PiA)(ow:Nat→Nat)(g tp:Nat)(qs:List (NdH×Nd))(ids:List Int)(S0:BSt)(dg:Nat)(G:GdT qs)(W:World)(hM:PiX 0 a ow W.heap g tp qs ids (W4 (qs.length+1) cO) S0)(hn:∀ k,W.heap.size≤k→ow k=0)(hD:DwO (fun k=>ow k=9) W.heap dg tp 64 ⟨[],[]⟩) :
 CA 22 [pT g,pT dg] W fun v w'=>∃ o c ow',v=.slice o (dD (aV qs).tails (aV qs).ds).2.length c∧Own i64 3 w'.heap o c (dD (aV qs).tails (aV qs).ds).2∧(∀ k,blk o k→W.heap.size≤k∧ow' k=0)∧PiX 0 a ow' w'.heap g tp qs ids (aV qs).files S0∧DwO (fun k=>ow' k=9) w'.heap dg tp 64 (dD (aV qs).tails (aV qs).ds).1 ∧
  FI (nds qs) (qs.length+1) (aV qs)∧(∀ k,k<W.heap.size→ow' k=ow k)∧(∀ k,w'.heap.size≤k→ow' k=0)∧aA (Lb ow) W w':=by
 have hq40:=G.n.2;have htn:∀ {ow9:Nat→Nat} {H:Array Obj} {files:List Ino} {c:Nat},PiX 0 a ow9 H g tp qs ids files S0→c≠4→¬ ow9 tp=c:=fun h hc e=>by have h4:=h.2.2.2.1.2;rw[h4] at e;exact hc e.symm
 refine cS 86 [(0,_),(1,_)] Tryz.func22 ?_;refine cA 7 R5 (Oa W) ?_;rintro _ w1 ⟨rfl,hP1,hf1,hs1⟩;obtain⟨pg,epg⟩:∃ p,p=W.heap.size:=⟨_,rfl⟩
 rw[←epg] at hP1 ⊢;obtain⟨ow1,eo1⟩:∃ o,o=oY W w1 10 ow:=⟨_,rfl⟩
 have o1n:∀ k,ow k≠0→ow1 k=ow k:=fun k hk=>by rw[eo1];exact gP 10 hn hk
 have o1o:∀ k,k<W.heap.size→ow1 k=ow k:=fun k hk=>by rw[eo1];exact jG 10 ow hk
 have o1z:∀ k,w1.heap.size≤k→ow1 k=0:=fun k hk=>by rw[eo1];exact kL 10 ow hf1.size hk
 have hM1:PiX 0 a ow1 w1.heap g tp qs ids (W4 (qs.length+1) cO) S0:=hM.step hf1 0 (by decide) (fun k h=>h.elim) o1n;have hD1:DwO (fun k=>ow1 k=9) w1.heap dg tp 64 ⟨[],[]⟩:=(hD.Wr hf1).mono (fun k hk=>by have hk:ow k=9:=hk;rw[o1n k (by omega)];exact hk) (htn hM1 (by decide));have hP1:iJ (fun k=>ow1 k=10) w1.heap pg []:=hP1.mono (fun k hk=>by have hk:k=pg:=hk;rw[eo1];exact nM 10 hn (by decide) (.inr ⟨by omega,by omega⟩));refine Gz 9 ?_;refine cL (SM zR rfl (aD hM1.1.1 rfl)) ?_;refine Gz 5 ?_;refine SO (β:=Nat×(FSt×(Nat→Nat))) (fun⟨k,⟨s,ow9⟩⟩=>[(0,pT g),(1,pT dg),(5,pT pg),(20,.slice a.lo qs.length a.lc),(21,iV qs.length),(22,iV k)]) (fun⟨k,⟨s,ow9⟩⟩ w=>k≤qs.length∧s=(nds (qs.take k)).foldl iI (fs0 (qs.length+1))∧FI (nds (qs.take k)) (qs.length+1) s∧PiX 0 a ow9 w.heap g tp qs ids s.files S0∧DwO (fun k=>ow9 k=9) w.heap dg tp 64 s.ds∧iJ (fun k=>ow9 k=10) w.heap pg s.tails∧(∀ k,k<W.heap.size→ow9 k=ow k)∧(∀ k,w.heap.size≤k→ow9 k=0)∧aA (Lb ow) W w) (fun⟨k,⟨s,ow9⟩⟩=>qs.length-k) ⟨0,⟨fs0 (qs.length+1),ow1⟩⟩ ⟨rfl,rfl,rfl,rfl,rfl,rfl,trivial⟩ ⟨WG _,rfl,fi0 _,hM1,hD1,hP1,o1o,o1z,hf1.any⟩ ?_;rintro⟨k,⟨s,ow9⟩⟩ w9 ⟨hk,hs,hFI,hM,hD9,hP9,hl9,hn9,hF9⟩;refine fK 2 ?_ ?_<;>intro h23
 ·have hkl:k<qs.length:=by omega
  obtain⟨q,hq⟩:∃ q,qs[k]?=some q:=⟨_,Wv hkl⟩
  have hqm:=Wz hq;have hqi:=G.ino q hqm;obtain⟨m,hm⟩:=XR (show 0≤q.2.ino by omega);have htm:q.2.ino.toNat=m:=by omega
  have hib : -9223372036854775808≤q.2.ino∧q.2.ino≤9223372036854775807:=by omega
  have hml:m<s.files.length:=by rw[hFI.l];omega
  have hdat:q.2.data.length≤4096:=(G.may q hqm).2.2.2.2.2.2.1;have hnd:=hM.2.1.1;obtain⟨⟨hg9,hg96⟩,_,_,_,_,_,_,_,⟨f97,f91⟩,_⟩:=id hM;obtain⟨mf,hmf,hFM⟩:=f91 (by decide);have hfv:=hFM ⟨q.2.ino,hib⟩ hqi.1;rw[show (⟨q.2.ino,hib⟩:I6).1.toNat=m from htm] at hfv;obtain⟨R0,hR0⟩:∃ R0:Ino,R0=if (s.files.getD m cO).1 0=2 then fl0 (s.files.getD m cO) else cO:=⟨_,rfl⟩
  have hfe:(cG mf ⟨q.2.ino,hib⟩).getD (Bn cO)=Bn R0:=by rw[hfv,hR0];split<;>rfl
  have hfs:decide ((cG mf ⟨q.2.ino,hib⟩).isSome=true)=decide ((s.files.getD m cO).1 0=2):=by
   rw[hfv];by_cases h:(s.files.getD m cO).1 0=2
   ·rw[Wu h,WA h];rfl
   ·rw[Wt h,Wx h];rfl
  have hs2:=J8 hq (fs0 (qs.length+1));rw[←hs] at hs2;have hFI2:=Dh hFI (x:=q.2) ⟨by omega,by omega⟩ hdat;rw[←Ji hq] at hFI2;refine Gz 6 ?_;refine Tj (β:=FSt×(Nat→Nat)) (fun⟨s,ow9⟩=>[(0,pT g),(1,pT dg),(5,pT pg),(20,.slice a.lo qs.length a.lc),(21,iV qs.length),(22,iV k)]) (fun⟨s,ow9⟩ w=>s=(nds (qs.take (k+1))).foldl iI (fs0 (qs.length+1))∧FI (nds (qs.take (k+1))) (qs.length+1) s∧PiX 0 a ow9 w.heap g tp qs ids s.files S0∧DwO (fun k=>ow9 k=9) w.heap dg tp 64 s.ds∧iJ (fun k=>ow9 k=10) w.heap pg s.tails∧(∀ k,k<W.heap.size→ow9 k=ow k)∧(∀ k,w.heap.size≤k→ow9 k=0)∧aA (Lb ow) W w) ?_ ?_
  ·refine Gz 3 ?_;refine cL (SL aS rfl rfl hnd.1.non (by omega)) ?_;refine cL (SX (cs:=aF q) bB rfl (fun j v hj=>hnd.1.rowZ k rfl hq j v hj)) ?_;refine SP fF rfl ?_;intro w10 hg10 hs10 hf10;obtain⟨d,ed⟩:∃ d,d=w9.heap.size:=⟨_,rfl⟩
   rw[←ed] at hg10 ⊢;refine SY (vs:=aF q) bB rfl rfl (aB q).2 hg10 rfl ?_;intro w11 hd11 hs11 hf11;have hs10b:w10.heap.size=w9.heap.size+1:=hs10;have hs11b:w11.heap.size=w10.heap.size:=hs11;have hf911:aA nob w9 w11:=hf10.tw hf11;have hg11:=hf911.obj hg9 id;have hmf11:=hmf.Ws hf911 id;refine Gz 1 ?_;refine aW [(0,_),(1,_),(5,_),(7,_),(20,_),(21,_),(22,_),(23,_)] ?_;refine Gz 3 ?_;refine SZ 13 (fun H=>H[g]?=some (.cells (piC a qs.length ids.length).toArray 62 (0,0))∧H[d]?=some (.cells (aF q).toArray 37 (0,0))∧cY enI H a.f mf) [10,11] [0,1,2,3,4,5,6,7,8,9,10,11,12] aL (by kernel_rfl) (⟨hg11,hd11,hmf11⟩) ?_;refine Gz 6 ?_;refine xC rfl (SN (u:=.tuple [Bn R0,.bool (decide ((s.files.getD m cO).1 0=2))].toArray) (Tr mpF tW (a:=⟨q.2.ino,hib⟩) rfl rfl (fun H hH=>hH.2.2)) (by rw[hfe,hfs])) ?_;refine Gz 3 ?_;refine SU rfl rfl (SP HZ rfl ?_);intro w12 hg12 hs12 hf12;have hf12:=hf12.Wp;refine S5 (by exact⟨hf12.obj hg11 id,hf12.obj hd11 id,hmf11.Ws hf12 id⟩) ?_;refine SU rfl rfl (SY (vs:=Ho R0) tO rfl rfl (wZ _ _) hg12 rfl ?_);intro w13 hc13 hs13 hf13;have hs12b:w12.heap.size=w11.heap.size+1:=hs12;have hs13b:w13.heap.size=w12.heap.size:=hs13;have hf1113:aA nob w11 w13:=hf12.tw hf13;refine S5 (by exact⟨hf1113.obj hg11 id,hf1113.obj hd11 id,hmf11.Ws hf1113 id⟩) ?_;have hf913:=hf911.trans hf1113;have hd13:=hf1113.obj hd11 id;have hn13:∀ k,w13.heap.size≤k→ow9 k=0:=fun k hk=>hn9 k (by omega);refine Gz 5 ?_;refine Tl (S6 (SQ rfl)) rfl (fun h36=>?_) (fun h36=>?_)
   ·have h36:=of_decide_eq_true h36;have hsk:iI s q.2=s:=xJ (.inr (by rw[htm];exact h36));rw[hsk] at hs2 hFI2;refine Gz 11 ?_;exact aC ⟨s,ow9⟩ ⟨hs2.symm,hFI2,hM.Wr hf913,hD9.Wr hf913,hP9.Ws hf913 (fun _ _=>id),hl9,hn13,hF9.trans hf913.any⟩
   have h36:¬ (s.files.getD m cO).1 0=2:=fun h=>h36 (WA h);refine fW 3 ?_ ?_<;>intro h40
   ·have hsk:iI s q.2=s:=xJ (.inl h40);rw[hsk] at hs2 hFI2;refine Gz 7 ?_;exact aC ⟨s,ow9⟩ ⟨hs2.symm,hFI2,hM.Wr hf913,hD9.Wr hf913,hP9.Ws hf913 (fun _ _=>id),hl9,hn13,hF9.trans hf913.any⟩
   have hk2:q.2.kind=2:=W3.1 h40;have hnf:¬ (q.2.kind≠2∨(s.files.getD q.2.ino.toNat cO).1 0=2):=by rw[htm];rintro(h|h);exact h hk2;exact h36 h
   obtain⟨R1,hR1⟩:∃ R,R=iD 64 s.ds q.2.data:=⟨_,rfl⟩
   obtain⟨R2,hR2⟩:∃ R,R=kW s.tails (cR q.2.data):=⟨_,rfl⟩
   obtain⟨fN,hfN⟩:∃ f:Ino,f=(fun j=>[2,0,0,0,0,0,(R1.2:Int),q.2.data.length,(R2.2.1:Int),(R2.2.2:Int)].getD j 0,[]):=⟨_,rfl⟩
   have hsn:iI s q.2=⟨R1.1,R2.1,s.files.set m fN⟩:=by unfold iI;rw[Wt hnf,←hR1,←hR2,hfN,htm]
   rw[hsn] at hs2 hFI2;have hdv:=(hnd.2 q hqm).2.1;have hdn:q.1.data.n=q.2.data.length:=hdv.1;refine Gz 9 ?_;refine cL (SN (u:=.slice q.1.data.a q.2.data.length q.1.data.c) (SM aX rfl (aD hd13 rfl)) (by rw[←hdn];rfl)) ?_;refine Gz 1 ?_;refine cL (bU (bY (fun j=>if j=7 then (q.2.data.length:Int) else 0) []) Pb HZ) ?_;refine SP HZ rfl ?_;intro w14 hg14 hs14 hf14;obtain⟨e,ee⟩:∃ d,d=w13.heap.size:=⟨_,rfl⟩
   rw[←ee] at hg14 ⊢;refine sA rfl tO (wZ _ _) hg14 ?_;intro w15 he15 hs15 hf15;have hs14b:w14.heap.size=w13.heap.size+1:=hs14;have hs15b:w15.heap.size=w14.heap.size:=hs15;have hf915:aA nob w9 w15:=(hf913.trans hf14).tw hf15;have hf1315:aA nob w13 w15:=hf14.tw hf15;have hd15:=hf1315.obj hd13 id;have hM15:=hM.Wr hf915;have hD15:=hD9.Wr hf915;have hP15:=hP9.Ws hf915 (fun _ _=>id);have hn15:∀ k,w15.heap.size≤k→ow9 k=0:=fun k hk=>hn9 k (by omega);have hel:ow9 e=0:=hn9 e (by omega);have hdl:ow9 d=0:=hn9 d (by omega);refine Gz 6 ?_;refine cL (SN (u:=.slice q.1.data.a q.2.data.length q.1.data.c) (SM aX rfl (aD hd15 rfl)) (by rw[←hdn];rfl)) ?_;refine SJ R4 rfl (Kt (fun k=>ow9 k=9) dg tp 64 s.ds q.1.data.a q.1.data.c q.2.data w15 hD15 (hdv.2.1.Wr hf915) (by decide) (by have:=hFI.b;rw[WK,WB] at this;omega) (by omega)) rfl ?_;rw[←hR1];rintro _ w16 ⟨o16,c16,rfl,ho16,hfr16,hD16,hf16⟩;have hz16:=hf16.size;obtain⟨ow16,eo16⟩:∃ o,o=Bl w15 w16 9 o16 ow9:=⟨_,rfl⟩
   have o16n:∀ k,ow9 k≠0→ow16 k=ow9 k:=fun k hk=>by rw[eo16];exact F4 hn15 hk
   have o16o:∀ k,k<w15.heap.size→ow16 k=ow9 k:=fun k hk=>by rw[eo16];exact C0 hk
   have o16z:∀ k,w16.heap.size≤k→ow16 k=0:=fun k hk=>by rw[eo16];exact Jw hz16 hk
   have o16b:∀ k,blk o16 k→ow16 k=0:=fun k hk=>by rw[eo16];exact Jy hfr16 hk
   have hM16:PiX 0 a ow16 w16.heap g tp qs ids s.files S0:=(hM15.step hf16 9 (by decide) (fun k hk=>.inl hk) o16n).calm (by decide);have hD16:DwO (fun k=>ow16 k=9) w16.heap dg tp 64 R1.1:=hD16.mono (fun k hk=>by rw[eo16];exact Me hn15 (by decide) hk) (htn hM16 (by decide));have hP16:iJ (fun k=>ow16 k=10) w16.heap pg s.tails:=(hP15.Ws hf16 (fun k hk h=>by have hk:ow9 k=10:=hk;have h:ow9 k=9:=h;omega)).mono (fun k hk=>by have hk:ow9 k=10:=hk;rw[o16n k (by omega)];exact hk);have he16:=hf16.obj he15 (fun h=>by have h:ow9 e=9:=h;omega);have hd16:=hf16.obj hd15 (fun h=>by have h:ow9 d=9:=h;omega);have hel16:ow16 e=0:=by rw[o16o e (by omega)];exact hel
   have hF16:aA (Lb ow) W w16:=lJ hl9 (hF9.trans hf915.any) (hf16.mono (fun k h=>by have h:ow9 k=9:=h;unfold Lb;omega));refine Gz 11 ?_;refine SV aN rfl rfl rfl he16 rfl ?_;intro w17 he17 hs17 hf17;have hs17b:w17.heap.size=w16.heap.size:=hs17;have ke:∀ k,k=e→ow16 k=0:=fun k h=>by rw[h];exact hel16
   have hM17:=hM16.step hf17 0 (by decide) (fun k hk=>.inr (ke k hk)) (fun _ _=>rfl);have hD17:=hD16.Ws hf17 (fun k hk h=>by have:=ke k h;omega) (fun h=>by have:=ke tp h;rw[hM16.2.2.2.1.2] at this;omega);have hP17:=hP16.Ws hf17 (fun k hk h=>by have:=ke k h;have hk:ow16 k=10:=hk;omega);have hd17:=hf17.obj hd16 (show ¬ d=e by omega);have hfr16l:=ho16.lt;have ho17:=ho16.Ws hf17 (fun x hx h=>by have h:x.block=e:=h;have:=hfr16 x hx;omega);have hF17:=hF16.Wo hf17 (fun k h=>.inr (by have h:k=e:=h;have:=hF9.size;omega));refine Gz 6 ?_;refine SJ R3 rfl (ON (fun k=>ow16 k=10) pg s.tails o16 c16 (cR q.2.data) w17 hP17 (fun k hk=>WH fun hc=>by have:=o16z k (by omega);have hk:ow16 k=10:=hk;omega) ho17.vw (fun _ x hx h=>by have h:ow16 x.block=10:=h;rw[o16b _ ⟨x,hx,rfl⟩] at h;omega) (De hFI.t (by have:=hFI.tn;rw[WK,WB] at this;omega)) (by have:=hFI.tn;rw[WK,WB] at this;omega)) rfl ?_;rw[←M5,←hR2];rintro _ w18 ⟨rfl,D18,hP18,hD18a,hD18b,hf18⟩;have hz18:=hf18.size;have hn17:∀ k,w17.heap.size≤k→ow16 k=0:=fun k hk=>o16z k (by omega);obtain⟨ow18,eo18⟩:∃ o,o=oY w17 w18 10 ow16:=⟨_,rfl⟩
   have o18n:∀ k,ow16 k≠0→ow18 k=ow16 k:=fun k hk=>by rw[eo18];exact gP 10 hn17 hk
   have o18o:∀ k,k<w17.heap.size→ow18 k=ow16 k:=fun k hk=>by rw[eo18];exact jG 10 ow16 hk
   have o18z:∀ k,w18.heap.size≤k→ow18 k=0:=fun k hk=>by rw[eo18];exact kL 10 ow16 hz18 hk
   have hM18:PiX 0 a ow18 w18.heap g tp qs ids s.files S0:=(hM17.step hf18 10 (by decide) (fun k hk=>.inl hk) o18n).calm (by decide);have hD18:DwO (fun k=>ow18 k=9) w18.heap dg tp 64 R1.1:=(hD17.Ws hf18 (fun k hk h=>by have hk:ow16 k=9:=hk;have h:ow16 k=10:=h;omega) (htn hM17 (by decide))).mono (fun k hk=>by have hk:ow16 k=9:=hk;rw[o18n k (by omega)];exact hk) (htn hM18 (by decide));have hP18:iJ (fun k=>ow18 k=10) w18.heap pg R2.1:=hP18.mono (fun k hk=>by rw[eo18];exact nM 10 hn17 (by decide) ((hD18a k hk).imp id (fun h=>⟨h,hD18b k hk⟩)));have he18:=hf18.obj he17 (fun h=>by have h:ow16 e=10:=h;omega);have hd18:=hf18.obj hd17 (fun h=>by have h:ow16 d=10:=h;rw[o16o d (by omega)] at h;omega);have hel18:ow18 e=0:=by rw[o18o e (by omega)];exact hel16
   have l16:∀ k,k<W.heap.size→ow16 k=ow k:=fun k hk=>by rw[o16o k (by have:=hF9.size;omega)];exact hl9 k hk
   have l18:∀ k,k<W.heap.size→ow18 k=ow k:=fun k hk=>by rw[o18o k (by have:=hF9.size;omega)];exact l16 k hk
   have hF18:aA (Lb ow) W w18:=lJ l16 hF17 (hf18.mono (fun k h=>by have h:ow16 k=10:=h;unfold Lb;omega));have ke18:∀ k,k=e→ow18 k=0:=fun k h=>by rw[h];exact hel18
   refine Gz 4 ?_;refine SV aN rfl rfl rfl he18 rfl ?_;intro w19 he19 hs19 hf19;have hs19b:w19.heap.size=w18.heap.size:=hs19;refine Gz 1 ?_;refine SV aN rfl rfl rfl he19 rfl ?_;intro w20 he20 hs20 hf20;have hs20b:w20.heap.size=w19.heap.size:=hs20;have hf1820:aA (· = e) w18 w20:=hf19.trans hf20;have hM20:=hM18.step hf1820 0 (by decide) (fun k hk=>.inr (ke18 k hk)) (fun _ _=>rfl);have hD20:=hD18.Ws hf1820 (fun k hk h=>by have:=ke18 k h;omega) (fun h=>by have:=ke18 tp h;rw[hM18.2.2.2.1.2] at this;omega);have hP20:=hP18.Ws hf1820 (fun k hk h=>by have:=ke18 k h;have hk:ow18 k=10:=hk;omega);have hd20:=hf1820.obj hd18 (show ¬ d=e by omega);have hF20:=hF18.Wo hf1820 (fun k h=>.inr (by have h:k=e:=h;have:=hF9.size;omega));have he20:w20.heap[e]?=some (.cells (Ho (fl0 fN)).toArray 88 (0,0)):=by rw[hfN];exact he20
   obtain⟨⟨hg20,_⟩,_,_,_,_,_,_,_,⟨f207,f201⟩,_⟩:=id hM20;obtain⟨mf20,hmf20,hFM20⟩:=f201 (by decide);refine Gz 2 ?_;refine SZ 7 (fun H=>H[g]?=some (.cells (piC a qs.length ids.length).toArray 62 (0,0))∧H[d]?=some (.cells (aF q).toArray 37 (0,0))∧H[e]?=some (.cells (Ho (fl0 fN)).toArray 88 (0,0))) [7] [0,1,2,3,4,5,6,7] aL (by kernel_rfl) (⟨hg20,hd20,he20⟩) ?_;refine Gz 6 ?_;refine xC rfl (TN (cs:=Ho (fl0 fN)) tO rfl (fun H hH=>bJ hH.2.2 0 rfl)) ?_;refine SU rfl rfl (Th mpF tW (a:=(⟨q.2.ino,hib⟩:I6)) rfl rfl rfl hmf20 ?_);intro w21 hm21 hs21 hf21;refine Ts rfl ?_;have hf21:aA (· = a.f) w20 w21:=hf21.Wp;have hz21:=hf21.size;have hfp:=hFM20.put ⟨q.2.ino,hib⟩ (f:=fN) (by show (1:Int)≤q.2.ino;omega) (by show q.2.ino.toNat<s.files.length;omega) (by rw[hfN];rfl);rw[show (⟨q.2.ino,hib⟩:I6).1.toNat=m from htm] at hfp;have kf:∀ k,k=a.f→ow18 k=7:=fun k h=>by rw[h];exact f207
   obtain⟨b0,b1,b2,b3,c1,c2,c3,⟨c4,c5⟩,⟨c6,_⟩,c8,c9⟩:=hM20.step hf21 7 (by decide) (fun k hk=>.inl (kf k hk)) (fun _ _=>rfl);have hM21:PiX 0 a ow18 w21.heap g tp qs ids (s.files.set m fN) S0:=⟨b0,b1,b2,b3,fun _=>c1 (by decide),fun _=>c2 (by decide),fun _=>c3 (by decide),⟨c4,fun _=>c5 (by decide)⟩,⟨c6,fun _=>⟨_,hm21,hfp⟩⟩,c8,fun _=>c9 (by decide)⟩
   have hD21:=hD20.Ws hf21 (fun k hk h=>by have:=kf k h;omega) (fun h=>by have:=kf tp h;rw[hM20.2.2.2.1.2] at this;omega);have hP21:=hP20.Ws hf21 (fun k hk h=>by have:=kf k h;have hk:ow18 k=10:=hk;omega);have hF21:aA (Lb ow) W w21:=lJ l18 hF20 (hf21.mono (fun k h=>by have:=kf k h;unfold Lb;omega));refine Gz 2 ?_;exact aC ⟨⟨R1.1,R2.1,s.files.set m fN⟩,ow18⟩ ⟨hs2.symm,hFI2,hM21,hD21,hP21,l18,fun k hk=>o18z k (by omega),hF21⟩
  rintro⟨s,ow9⟩ w9 ⟨hs,hFI,hM,hD9,hP9,hl9,hn9,hF9⟩;refine Gz 4 ?_;exact aG ⟨k+1,⟨s,ow9⟩⟩ ⟨by omega,hs,hFI,hM,hD9,hP9,hl9,hn9,hF9⟩ (by show qs.length-(k+1)<qs.length-k;omega)
 have hke:k=qs.length:=by omega
 subst hke;rw[Xg] at hs hFI;have hs:s=aV qs:=hs;subst hs;refine Gz 18 ?_;refine SJ RZ rfl (HR (fun k=>ow9 k=10) pg (aV qs).tails w9 hP9 (De hFI.t (by have:=hFI.tn;rw[WK] at this;omega)) (by have:=hFI.tn;rw[WK] at this;omega)) rfl ?_;rintro _ w20 ⟨go,gc,gs,rfl,hgo,hrw,hgfr,hf20⟩;have hz20:=hf20.size;have hrw:=Ly hrw;obtain⟨L,hL⟩:∃ L,L=(aV qs).tails:=⟨_,rfl⟩
 rw[←hL] at hrw;have hgl:=hrw.1;have hLn:L.length≤40:=by have:=hFI.tn;rw[WK] at this;rw[hL];omega
 have hLb:yX L:=by rw[hL];exact hFI.t
 have hdB:(aV qs).ds.B.length≤172800:=by have:=hFI.b;rw[WK] at this;omega
 have hg63:=hgo.vw.Wq;have hgol:=hgo.lt;refine Gz 3 ?_;refine aW [(0,_),(1,_),(5,_),(13,_),(20,_),(21,_),(22,_),(23,_),(72,_),(73,_),(74,_)] ?_;refine Gz 2 ?_;refine SO (β:=(Nat×(DS×List Int))×((Nat→Nat)×(Option Addr×Nat))) (fun⟨⟨j,⟨d9,pl9⟩⟩,⟨ow11,⟨po,pc⟩⟩⟩=>[(1,pT dg),(13,.slice po pl9.length pc),(72,.slice go gs.length gc),(73,iV gs.length),(74,iV j)]) (fun⟨⟨j,⟨d9,pl9⟩⟩,⟨ow11,⟨po,pc⟩⟩⟩ w=>j≤L.length∧dD (L.take j) (aV qs).ds=(d9,pl9)∧PiX 0 a ow11 w.heap g tp qs ids (aV qs).files S0∧DwO (fun k=>ow11 k=9) w.heap dg tp 64 d9∧(∀ k,k<W.heap.size→ow11 k=ow k)∧(∀ k,w.heap.size≤k→ow11 k=0)∧Own i64 3 w.heap po pc pl9∧(∀ k,blk po k→W.heap.size≤k∧ow11 k=0)∧(∀ k,blk po k→¬ (w9.heap.size≤k∧k<w20.heap.size))∧Own hd 25 w.heap go gc gs∧dB (fun k=>w9.heap.size≤k∧k<w20.heap.size) w.heap gs L∧(∀ k,w9.heap.size≤k→k<w20.heap.size→ow11 k=0)∧w20.heap.size≤w.heap.size∧aA (Lb ow) W w) (fun⟨⟨j,⟨d9,pl9⟩⟩,⟨ow11,⟨po,pc⟩⟩⟩=>L.length-j) ⟨⟨0,⟨(aV qs).ds,[]⟩⟩,⟨ow9,⟨none,0⟩⟩⟩ ⟨rfl,rfl,rfl,rfl,rfl,trivial⟩ ⟨WG _,rfl,hM.Wr hf20,hD9.Wr hf20,hl9,fun k hk=>hn9 k (by omega),VR,(fun k ⟨x,hx,e⟩=>by cases hx),(fun k ⟨x,hx,e⟩=>by cases hx),hgo,hrw,fun k h _=>hn9 k h,WC _,hF9.trans hf20.any⟩ ?_;rintro⟨⟨j,⟨d9,pl9⟩⟩,⟨ow11,⟨po,pc⟩⟩⟩ w11 ⟨hj,htl,hM11,hD11,hl11,hn11,hpo,hpd,hpx,hgo9,hrw9,hz11,hzz,hF11⟩;refine fK 2 ?_ ?_<;>intro h75
 ·have hjl:j<L.length:=by omega
  have hjg:j<gs.length:=by omega
  obtain⟨t,ht⟩:∃ t,L[j]?=some t:=⟨_,Wv hjl⟩
  obtain⟨x,hx⟩:∃ x,gs[j]?=some x:=⟨_,Wv hjg⟩
  obtain⟨hxn,hxv,_⟩:=hrw9.2 j x t hx ht;have htb:=hLb t (Wz ht);have htk:L.take (j+1)=L.take j++[t]:=tkL ht;have hsn:=zH (L.take j) t (aV qs).ds;rw[←htk,htl] at hsn;have hdb9:d9.B.length≤200000:=by have h:=Ii (L:=L.take j) (fun b hb=>hLb b (List.mem_of_mem_take hb)) (aV qs).ds;rw[htl,WB] at h;have h:d9.B.length≤_:=h;omega
  have hplj:pl9.length=j:=by have h:=jZ (L.take j) (aV qs).ds;rw[htl,WB] at h;have h:pl9.length=_:=h;omega
  refine Gz 10 ?_;refine cL (SI vS rfl rfl hgo9.vw.non (by omega)) ?_;refine cL (SN (u:=.slice x.a t.length x.c) (SM aX rfl (hgo9.vw.get j x hx)) (by rw[←hxn];rfl)) ?_;refine Gz 2 ?_;refine aW [(1,_),(13,_),(15,_),(72,_),(73,_),(74,_),(75,_)] ?_;refine Gz 5 ?_;refine SJ RY rfl (EQ (fun k=>ow11 k=9) dg tp 64 d9 x.a x.c t w11 hD11 hxv (by decide) (by omega) htb.2) rfl ?_;obtain⟨R,hR⟩:∃ R,R=lY 64 d9 t:=⟨_,rfl⟩
  rw[←hR] at hsn ⊢;rintro _ w12 ⟨rfl,hD12,hf12⟩;have hz12:=hf12.size;obtain⟨ow12,eo12⟩:∃ o,o=oY w11 w12 9 ow11:=⟨_,rfl⟩
  have o12n:∀ k,ow11 k≠0→ow12 k=ow11 k:=fun k hk=>by rw[eo12];exact gP 9 hn11 hk
  have o12o:∀ k,k<w11.heap.size→ow12 k=ow11 k:=fun k hk=>by rw[eo12];exact jG 9 ow11 hk
  have o12z:∀ k,w12.heap.size≤k→ow12 k=0:=fun k hk=>by rw[eo12];exact kL 9 ow11 hz12 hk
  have hM12:PiX 0 a ow12 w12.heap g tp qs ids (aV qs).files S0:=(hM11.step hf12 9 (by decide) (fun k hk=>.inl hk) o12n).calm (by decide);have hD12:DwO (fun k=>ow12 k=9) w12.heap dg tp 64 R.1:=hD12.mono (fun k hk=>by rw[eo12];exact nM 9 hn11 (by decide) hk) (htn hM12 (by decide));have k12:∀ k,ow11 k=0→¬ (fun k=>ow11 k=9) k:=fun k h h2=>by have h2:ow11 k=9:=h2;omega
  have hpo12:=hpo.Ws hf12 (fun y hy=>k12 _ (hpd _ ⟨y,hy,rfl⟩).2);have hgo12:=hgo9.Ws hf12 (fun y hy=>k12 _ (hz11 _ (hgfr y hy) (hgol y hy)));have hrw12:=hrw9.Ws hf12 (fun k hk=>k12 k (hz11 k hk.1 hk.2));have hpol:=hpo.lt;refine TJ (enc:=i64) (u:=(R.2:Int)) cI rfl rfl rfl ?_;intro w13 ho13 hs13 hf13;refine S4 JM cI rfl rfl (hpo12.Wr hf13) ho13.vw (by simp only[WF];omega) (by simp only[WF];unfold maxLen;omega) rfl ?_;intro po14 pc14 w14 ho14 hf14 hr14 hn14;have hz13:=hf13.size;have hz14:=hf14.size;have kp:∀ k,blk po k→ow12 k=0∧k<w11.heap.size∧W.heap.size≤k∧¬ (w9.heap.size≤k∧k<w20.heap.size):=fun k ⟨y,hy,e⟩=>by
   have h1:=hpol y hy;have h2:=hpd k ⟨y,hy,e⟩;have h3:=hpx k ⟨y,hy,e⟩;exact⟨by rw[o12o k (by omega)];exact h2.2,by omega,h2.1,h3⟩
  have hM14:=(hM12.Wr hf13).step hf14 0 (by decide) (fun k hk=>.inr (kp k hk).1) (fun _ _=>rfl);have hD14:=(hD12.Wr hf13).Ws hf14 (fun k hk h=>by have:=(kp k h).1;omega) (fun h=>by have:=(kp tp h).1;rw[hM12.2.2.2.1.2] at this;omega);have hgo14:=(hgo12.Wr hf13).Ws hf14 (fun y hy h=>(kp _ h).2.2.2 ⟨hgfr y hy,hgol y hy⟩);have hrw14:=(hrw12.Ws hf13 (fun _ _=>id)).Ws hf14 (fun k hk h=>(kp k h).2.2.2 hk);have l12:∀ k,k<W.heap.size→ow12 k=ow k:=fun k hk=>by rw[o12o k (by have:=hF11.size;omega)];exact hl11 k hk
  have hF14:aA (Lb ow) W w14:=((lJ hl11 hF11 (hf12.mono (fun k h=>by have h:ow11 k=9:=h;unfold Lb;omega))).trans hf13.any).Wo hf14 (fun k h=>.inr (kp k h).2.2.1);have hF11z:=hF11.size;have hpd14:∀ k,blk po14 k→(W.heap.size≤k∧ow12 k=0)∧¬ (w9.heap.size≤k∧k<w20.heap.size):=fun k ⟨y,hy,e⟩=>by
   rcases hr14 y hy with h|h
   ·have:=kp k ⟨y,h,e⟩;exact⟨⟨this.2.2.1,this.1⟩,this.2.2.2⟩
   ·exact⟨⟨by omega,o12z k (by omega)⟩,by omega⟩
  refine Gz 8 ?_;exact aG ⟨⟨j+1,⟨R.1,pl9++[(R.2:Int)]⟩⟩,⟨ow12,⟨po14,pc14⟩⟩⟩ ⟨by omega,hsn,hM14,hD14,l12,fun k hk=>o12z k (by omega),ho14,fun k hk=>(hpd14 k hk).1,fun k hk=>(hpd14 k hk).2,hgo14,hrw14,fun k h1 h2=>by rw[o12o k (by omega)];exact hz11 k h1 h2,by omega,hF14⟩ (by show L.length-(j+1)<L.length-j;omega)
 have hje:j=L.length:=by omega
 subst hje;rw[Xg,hL] at htl;refine Gz 14 ?_;refine aW [(1,_),(4,_),(13,_),(72,_),(73,_),(74,_),(75,_)] ?_;refine Gz 3 ?_;subst epg;refine⟨_,rfl,po,pc,ow11,?_,?_,hpd,hM11,?_,hFI,hl11,hn11,hF11⟩
 ·rw[htl]
 ·rw[htl];exact hpo
 ·rw[htl];exact hD11
end
section
open Go Go.RowKit Go.Maps
structure ImB (qs:List (NdH×Nd))(ids:List Int) where
 G:GdT qs
 I:mA qs ids
 sz:64+((dE (aE qs ids) ids).length:Int)≤1048576
section
variable {qs:List (NdH×Nd)}{ids:List Int}(M:ImB qs ids)
def stB(qs:List (NdH×Nd))(ids:List Int):BSt:=(aE qs ids).s
def plB(qs:List (NdH×Nd))(ids:List Int):List Int:=(aE qs ids).pl
def imB(qs:List (NdH×Nd))(ids:List Int):By:=suB (aR qs ids (aE qs ids))++dE (aE qs ids) ids
include M
theorem ImB.fi:FI (nds qs) (qs.length+1) (aV qs):=Bx (fun q hq=>⟨M.G.ino q hq,(M.G.may q hq).2.2.2.2.2.2.1⟩)
theorem ImB.st:lP qs ids (aV qs).files (stB qs ids)∧(∀ q∈qs,0<(stB qs ids).refs.getD q.2.ino.toNat 0):=by
 obtain⟨S,e,h1,_,h2⟩:=nW M.G M.I M.fi;have e2:stB qs ids=S:=e;rw[e2];exact⟨h1,h2⟩
theorem ImB.pln:(plB qs ids).length=(aV qs).tails.length∧(plB qs ids).length≤40:=by
 have h:=jZ (aV qs).tails (aV qs).ds;have h2:=M.fi.tn;have h3:=M.G.n.2;rw[WK] at h2;have e:(plB qs ids).length=(aV qs).tails.length:=h;exact⟨e,by omega⟩
theorem ImB.ids0:1≤ids.length∧ids.length≤80:=by
 obtain⟨r,hr,_⟩:=M.G.root;have h:=(M.I.2 _).2 (pU (Wz hr)).1;have h2:=List.length_pos_of_mem h;have h3:=qM M.I;have h4:=M.G.n.2;omega
theorem ImB.many:1≤(stB qs ids).many∧(stB qs ids).many≤41:=by
 obtain⟨h,h2⟩:=M.st;refine⟨?_,h.many41 M.G.n.2⟩;obtain⟨r,hr,_⟩:=M.G.root;have h3:=h2 r (Wz hr);have h4:=M.G.ino r (Wz hr);rw[h.many];have hm:(stB qs ids).refs.getD r.2.ino.toNat 0∈lW (stB qs ids):=by
  unfold lW;rw[YE];have hl:r.2.ino.toNat<(stB qs ids).refs.length:=by rw[h.rl];omega
  exact⟨by rw[WI,Wv hl];exact Xw _,by simpa using h3⟩
 exact List.length_pos_of_mem hm
theorem ImB.may:lG (aR qs ids (aE qs ids)):=by
 obtain⟨a1,a2⟩:=M.many;obtain⟨b1,b2⟩:=M.ids0;obtain⟨c1,c2⟩:=M.pln;obtain⟨h,h2⟩:=M.st;obtain⟨r,hr,_⟩:=M.G.root;have h3:=h2 r (Wz hr);have h4:=h.ref_le M.G.n.2 h3;have hs:=M.sz;have nd:=bC hr;have l2:(eC (aE qs ids)).length=(fO (aE qs ids)).length+(dnW (aE qs ids).s.ino).length:=Ww;have l3:(eB (aE qs ids)).length=(eC (aE qs ids)).length+(dnW (aE qs ids).s.lst).length:=Ww;have l4:(eA (aE qs ids)).length=(eB (aE qs ids)).length+(dnW (aJ (aE qs ids).pl 4).1).length:=Ww;have l5:(dZ (aE qs ids) ids).length=(eA (aE qs ids)).length+(dnW (aJ ids 2).1).length:=Ww;have l6:(dE (aE qs ids) ids).length=(dZ (aE qs ids) ids).length+(dnW (aE qs ids).s.fur).length:=Ww;refine⟨⟨?_,?_,?_,?_,?_,?_,?_⟩,?_,?_,?_,?_,?_,?_,?_,?_⟩
 ·show (64:Int)≤64+((fO (aE qs ids)).length:Int);omega
 ·show 64+((fO (aE qs ids)).length:Int)≤64+((eC (aE qs ids)).length:Int);omega
 ·show 64+((eC (aE qs ids)).length:Int)≤64+((eB (aE qs ids)).length:Int);omega
 ·show 64+((eB (aE qs ids)).length:Int)≤64+((eA (aE qs ids)).length:Int);omega
 ·show 64+((eA (aE qs ids)).length:Int)≤64+((dZ (aE qs ids) ids).length:Int);omega
 ·show 64+((dZ (aE qs ids) ids).length:Int)≤64+((dE (aE qs ids) ids).length:Int);omega
 ·exact hs
 ·show 1≤((stB qs ids).many:Int);omega
 ·show ((stB qs ids).many:Int)≤1024;omega
 ·show 1≤(ids.length:Int);omega
 ·show (ids.length:Int)≤2048;omega
 ·show 0≤((plB qs ids).length:Int);omega
 ·show ((plB qs ids).length:Int)≤1024;omega
 · show 0≤(stB qs ids).refs.getD (ndB qs ((0:Nat):Int)).ino.toNat 0-1
   rw[nd];omega
 · show (stB qs ids).refs.getD (ndB qs ((0:Nat):Int)).ino.toNat 0-1≤4294967295
   rw[nd];exact h4
theorem ImB.img:qL qs ids=(imB qs ids,0):=by
 unfold qL;rw[Wt (by have:=M.sz;omega)];have:(jC (aR qs ids (aE qs ids))).1=suB (aR qs ids (aE qs ids)):=by unfold jC;rw[Wu M.may]
 rw[this];rfl
theorem ImB.sup:aO (imB qs ids)=(aR qs ids (aE qs ids),0):=by
 refine BZ M.may (fun o ho=>?_) _ rfl;show WI [_,_,_,_,_,_,_,_,_,_] o (0:Int)=0;rw[WI,Xe (by simp only[WT,W2];omega)];rfl
omit M in
theorem vY {im:By} {fr to:Int} (pre X post:By) (h:im=pre++(X++post)) (hf:fr=pre.length) (ht:to=(pre.length:Int)+X.length):aI im fr to=aI X 0 X.length∧qB im fr to=qB X 0 X.length:=by
 subst h hf ht;exact⟨GR pre X post,by rw[FX,CV]⟩
omit M in
theorem oD (F:Nat→Int) (Z:By):(64:Int)+(Z.length:Int)=((suB F++Z).length:Nat):=by rw[Ww,nC];omega
theorem ImB.r1:aI (imB qs ids) ((aR qs ids (aE qs ids)) 2) ((aR qs ids (aE qs ids)) 3)=aI (dnW (stB qs ids).ino) 0 (dnW (stB qs ids).ino).length:=by
 obtain⟨F,hF⟩:∃ F,F=aR qs ids (aE qs ids):=⟨_,rfl⟩
 refine(vY (suB F++fO (aE qs ids)) (dnW (stB qs ids).ino) (dnW (aE qs ids).s.lst++(dnW (aJ (aE qs ids).pl 4).1++(dnW (aJ ids 2).1++dnW (aE qs ids).s.fur))) ?_ ?_ ?_).1
 ·unfold imB dE dZ eA eB eC;rw[←hF];simp only[WL];rfl
 ·rw[←oD];rfl
 · rw[←oD]
   show 64+((fO (aE qs ids)++dnW (stB qs ids).ino).length:Int)=_;rw[Ww];omega
theorem ImB.r2:aI (imB qs ids) ((aR qs ids (aE qs ids)) 3) ((aR qs ids (aE qs ids)) 4)=aI (dnW (stB qs ids).lst) 0 (dnW (stB qs ids).lst).length:=by
 obtain⟨F,hF⟩:∃ F,F=aR qs ids (aE qs ids):=⟨_,rfl⟩
 refine(vY (suB F++eC (aE qs ids)) (dnW (stB qs ids).lst) (dnW (aJ (aE qs ids).pl 4).1++(dnW (aJ ids 2).1++dnW (aE qs ids).s.fur)) ?_ ?_ ?_).1
 ·unfold imB dE dZ eA eB;rw[←hF];simp only[WL];rfl
 ·rw[←oD];rfl
 · rw[←oD]
   show 64+((eC (aE qs ids)++dnW (stB qs ids).lst).length:Int)=_;rw[Ww];omega
theorem ImB.r5:aI (imB qs ids) ((aR qs ids (aE qs ids)) 6) ((aR qs ids (aE qs ids)) 0)=aI (dnW (stB qs ids).fur) 0 (dnW (stB qs ids).fur).length:=by
 obtain⟨F,hF⟩:∃ F,F=aR qs ids (aE qs ids):=⟨_,rfl⟩
 refine(vY (suB F++dZ (aE qs ids) ids) (dnW (stB qs ids).fur) [] ?_ ?_ ?_).1
 ·unfold imB dE;rw[←hF];simp only[WL,XK];rfl
 ·rw[←oD];rfl
 · rw[←oD]
   show 64+((dZ (aE qs ids) ids++dnW (stB qs ids).fur).length:Int)=_;rw[Ww];omega
theorem ImB.pl_in:inW 4 (plB qs ids):=by
 intro x hx;obtain⟨j,hj,rfl⟩:=Xn hx;have hl:=M.pln.1;obtain⟨pre,rest,h1,h2⟩:=uC (aV qs).tails (aV qs).ds j (by omega);have e:(plB qs ids)[j]=(dD (aV qs).tails (aV qs).ds).2.getD j 0:=by
  have e2:plB qs ids=(dD (aV qs).tails (aV qs).ds).2:=rfl;rw[WI,←e2,Wv hj];rfl
 rw[e,h2];have h3:=M.sz;have h4:=congrArg W6 h1;rw[Ww] at h4;have l6:(dE (aE qs ids) ids).length=(dD (aV qs).tails (aV qs).ds).1.B.length+(dnW (aE qs ids).s.ino++(dnW (aE qs ids).s.lst++(dnW (aJ (aE qs ids).pl 4).1++(dnW (aJ ids 2).1++dnW (aE qs ids).s.fur)))).length:=by
  rw[←Ww];unfold dE dZ eA eB eC;simp only[WL];rfl
 refine⟨by omega,?_⟩;show (64:Int)+pre.length<4294967296;omega
theorem ImB.pl:tnS (imB qs ids) ((aR qs ids (aE qs ids)) 4) ((aR qs ids (aE qs ids)) 5) ((aR qs ids (aE qs ids)) 8) 4=(plB qs ids,0):=by
 obtain⟨F,hF⟩:∃ F,F=aR qs ids (aE qs ids):=⟨_,rfl⟩
 have he:(aJ (plB qs ids) 4).1=enW 4 (plB qs ids):=by
  have h:=mJ (w:=4) (.inr rfl) M.pl_in;have h:aJ (plB qs ids) 4=(enW 4 (plB qs ids),0):=h;rw[h]
 obtain⟨a,b⟩:=vY (im:=imB qs ids) (fr:=(aR qs ids (aE qs ids)) 4) (to:=(aR qs ids (aE qs ids)) 5) (suB F++eB (aE qs ids)) (dnW (enW 4 (plB qs ids))) (dnW (aJ ids 2).1++dnW (aE qs ids).s.fur) (by
  rw[←he];unfold imB dE dZ eA;rw[←hF];simp only[WL];rfl) (by rw[←oD];rfl) (by
  rw[←oD,←he];show 64+((eB (aE qs ids)++dnW (aJ (plB qs ids) 4).1).length:Int)=_;rw[Ww];omega)
 rw[zG a b];exact Fo (w:=4) (.inr rfl) M.pl_in
theorem ImB.ids_in:inW 2 ids:=by
 intro x hx;have h:=(M.I.2 x).1 hx;unfold gY at h;obtain⟨q,hq,h1⟩:=XZ.1 h;obtain⟨_,_,_,m2,m3,_⟩:=M.G.may q hq;simp only[W5,Xm,or_false] at h1;refine⟨by rcases h1 with rfl|rfl<;>omega,?_⟩;show x<65536;rcases h1 with rfl|rfl<;>omega
theorem ImB.id:tnS (imB qs ids) ((aR qs ids (aE qs ids)) 5) ((aR qs ids (aE qs ids)) 6) ((aR qs ids (aE qs ids)) 7) 2=(ids,0):=by
 obtain⟨F,hF⟩:∃ F,F=aR qs ids (aE qs ids):=⟨_,rfl⟩
 have he:(aJ ids 2).1=enW 2 ids:=by
  have h:=mJ (w:=2) (.inl rfl) M.ids_in;have h:aJ ids 2=(enW 2 ids,0):=h;rw[h]
 obtain⟨a,b⟩:=vY (im:=imB qs ids) (fr:=(aR qs ids (aE qs ids)) 5) (to:=(aR qs ids (aE qs ids)) 6) (suB F++eA (aE qs ids)) (dnW (enW 2 ids)) (dnW (aE qs ids).s.fur) (by
  rw[←he];unfold imB dE dZ;rw[←hF];simp only[WL]) (by rw[←oD];rfl) (by
  rw[←oD,←he];show 64+((eA (aE qs ids)++dnW (aJ ids 2).1).length:Int)=_;rw[Ww];omega)
 rw[zG a b];exact Fo (w:=2) (.inl rfl) M.ids_in
theorem ImB.blk:∃ rest,imB qs ids=suB (aR qs ids (aE qs ids))++((dD (aV qs).tails (aV qs).ds).1.B++rest)∧(aR qs ids (aE qs ids)) 2=64+((dD (aV qs).tails (aV qs).ds).1.B.length:Int):=by
 refine⟨dnW (aE qs ids).s.ino++(dnW (aE qs ids).s.lst++(dnW (aJ (aE qs ids).pl 4).1++(dnW (aJ ids 2).1++dnW (aE qs ids).s.fur))),?_,rfl⟩;unfold imB dE dZ eA eB eC;simp only[WL];rfl
end
theorem HB{sup rest im:By}(hs:sup.length=64){L:List By}(hL:yX L){ds:DS}(him:im=sup++((dD L ds).1.B++rest)){d:By}{st fr off:Nat}(hd:d.length≤4096)(h1:DM ds.B d st)(h2:TlS L (cR d) fr off){e:Int}(he:64+((dD L ds).1.B.length:Int)≤e){g:Img}(hg:g.im=im)(hp:g.places=(dD L ds).2){x:Rec}(x6:x.ino.1 6=st)(x7:x.ino.1 7=d.length)(x8:x.ino.1 8=fr)(x9:x.ino.1 9=off) :
 GP g x 0 d.length=(d,0)∧(128≤d.length→(vE im st d.length e).2=0∧64≤st):=by
 obtain⟨z,hz,_⟩:=nA L ds
 have hrd:kE im st d.length 0 d.length=(d.take (d.length/128*128),0)∧(128≤d.length→(vE im st d.length e).2=0∧64≤st):=by
  rcases h1 with⟨a,b⟩|⟨a,pre,r2,b,c⟩
  · have h128:d.length/128=0:=by
     have h3:=(kC d (d.length/128)).2;have h3:3*(d.length/128)≤(cD d).length:=h3;rw[a] at h3;simp at h3;omega
    exact⟨Ec h128,fun h=>by omega⟩
  · have hi:im=(sup++pre)++(cD d++(r2++(z++rest))):=by rw[him,hz,b];simp only[WL]
    have hl:(sup++pre).length=st:=by rw[Ww,hs,c]
    have h3:=Ed hi hd;rw[hl] at h3;refine⟨h3,fun h=>⟨?_,by omega⟩⟩;have h4:=congrArg W6 hz;rw[b] at h4;simp only[Ww] at h4;have h5:=BP hi (e:=e) (by rw[hl];omega) (d.length/128) 0 rfl (WG _);rw[hl] at h5;have h6:vE im (st:Nat) (d.length:Nat) e=AO im e (d.length/128) st:=H6 hd;rw[h6];have h5:AO im e (d.length/128) ((st+(dX d 0).length:Nat):Int)=_:=h5;rw[show (dX d 0).length=0 from rfl,Yd] at h5;rw[h5]
 refine⟨?_,hrd.2⟩;have hw:d.length/128*128≤d.length:=Nat.div_mul_le_self _ _;unfold GP;rw[x6,x7,x8,x9,hg,hrd.1,Wt (fun h=>h rfl)];have htl:(d.take (d.length/128*128)).length=d.length/128*128:=by rw[WB];omega
 by_cases hc:d.length/128*128=d.length
 · rw[Wu (by show ((d.take (d.length/128*128)).length:Int)=d.length;omega)]
   show (d.take (d.length/128*128),(0:Int))=(d,0)
   rw[hc,Xg]
 · rw[Wt (by show ¬ ((d.take (d.length/128*128)).length:Int)=d.length;omega)]
   have e1:(if (0:Int)-(d.length:Int)/128*128<0 then (0:Int) else 0-(d.length:Int)/128*128)=0:=by split<;>omega
   rw[e1,Int.add_zero];show (if (An im g.places fr off ((d.length:Int)-(d.take (d.length/128*128)).length)).2≠0 then _ else (d.take (d.length/128*128)++(An im g.places fr off ((d.length:Int)-(d.take (d.length/128*128)).length)).1,(0:Int)))=(d,0)
   have ht:(cR d).length=d.length-d.length/128*128:=by unfold cR;rw[WE]
   have e2:(d.length:Int)-((d.take (d.length/128*128)).length:Int)=((cR d).length:Nat):=by omega
   rw[e2];have hf:An im g.places fr off ((cR d).length:Nat)=(cR d,0):=by
    rcases h2 with⟨a,_⟩|⟨a,n,p,q,b1,b2,b3,b4⟩
    ·rw[a] at ht;simp at ht;omega
    · obtain⟨pre,r2,c1,c2⟩:=uC L ds n b1
      have hbl:=jZ L ds;have hbn:=(hL (L.getD n []) (by rw[WI,Wv b1];exact Xw _)).2;have hi:im=(sup++pre)++((bW (L.getD n [])).1++(r2++rest)):=by rw[him,c1];simp only[WL]
      have ht2:=(rL hbn (sup++pre) (r2++rest)).1;rw[←hi] at ht2;have hal:(L.getD n []).length=p.length+((cR d).length+q.length):=by rw[b4];simp
      unfold An;rw[hp,Wt (by omega),b2,show (((n+1:Nat):Int)-1).toNat=n by omega,c2,show (64:Int)+pre.length=((sup++pre).length:Nat) by rw[Ww];omega,ht2];unfold Nh;rw[Wt (by simp only;rintro(h|h|h|h);exact h rfl;omega;omega;omega)];simp only;rw[b4,b3,Xd,Xd,Xs rfl,Xz rfl]
   rw[hf,Wt (fun h=>h rfl)];show (d.take (d.length/128*128)++d.drop (d.length/128*128),(0:Int))=(d,0)
   rw[WX]
end
section
open Go Go.RowKit Go.Maps
def rfB(qs:List (NdH×Nd))(ids:List Int)(q:Nd):Int:=(stB qs ids).refs.getD q.ino.toNat 0-1
structure ROk (qs:List (NdH×Nd))(ids:List Int)(q:Nd)(x:Rec):Prop where
 ref:x.ref=rfB qs ids q
 kd:x.ino.1 0=q.kind
 md:x.ino.1 1=q.md
 ud:ids.getD (x.ino.1 2).toNat 0=q.ud
 gd:ids.getD (x.ino.1 3).toNat 0=q.gd
 ln:x.ino.1 4=gC qs q.ino
 tg:q.kind=3→x.ino.2=q.tgt
 ls:x.list=fV qs (stB qs ids) (bA qs q.names qs.length)
 xs:x.xs=q.xs
 fl:q.kind=2→x.ino.1 7=q.data.length∧∀ g:Img,g.im=imB qs ids→g.places=plB qs ids→GP g x 0 q.data.length=(q.data,0)
theorem EM{qs:List (NdH×Nd)}{ids:List Int}{files:List Ino}(G:GdT qs){s:BSt}(h:lP qs ids files s){S:List By}(hs:Ch qs s (bA qs S qs.length)):cX [] (fV qs s (bA qs S qs.length)):=
 sE G h _ _ (fun _ hz=>hz) (jH _) hs (fun z hz=>by
  obtain⟨k',q',rfl,hq',hn'⟩:=gA hz;rw[bC hq'];have hv:=(jN (G.nmv q' (Wz hq') (bI q'.2.names) (by rw[hn'];simp[bI]))).2.1;cases hc:bI q'.2.names with
 |nil=>exact absurd hc hv
 |cons a r=>rfl)
section
variable {qs:List (NdH×Nd)}{ids:List Int}(M:ImB qs ids)
include M
theorem ImB.rcd{q:NdH×Nd}(hq:q∈qs):∃ x,Ea (imB qs ids) (aR qs ids (aE qs ids)) ids (rfB qs ids q.2) q.2.kind=some x∧ROk qs ids q.2 x:=by
 have G:=M.G;have F:=M.fi;obtain⟨hinv,hpos⟩:=M.st;have hqi:=G.ino q hq;obtain⟨k,p,i,xr,o,hk,hpi,href,hmay,hat,hxr,hki⟩:=hinv.std _ (hpos q hq);have hpm:=Wz hk;have hkl:=(Wy.1 hk).1;have hal:=G.same hq hpm (by omega);obtain⟨j,hj⟩:=WO hq;have hkids:bA qs p.2.names qs.length=bA qs q.2.names qs.length:=by
  by_cases e:k=j
  ·subst e;rw[hk] at hj;cases hj;rfl
  · have h1:=(G.lnk k j p q e hk hj (by omega)).1
    rw[G.nodir hk h1,G.nodir hj (by rw[←hal.1];exact h1)]
 obtain⟨ka,⟨kb1,kb2,kb3⟩,kc,kd,ke,kf⟩:=hal;have hmp:=G.may p hpm;obtain⟨o1,o2⟩:=pU hpm;obtain⟨u1,u2,u3⟩:=uK ((M.I.2 _).2 o1);obtain⟨g1,g2,g3⟩:=uK ((M.I.2 _).2 o2);have hl:wQ qs (k:Int)=gC qs p.2.ino:=qE ⟨by omega,by omega⟩ (by rw[Xd];exact hk);have hnd:=bC hk;obtain⟨x0,hx0⟩:∃ x:Ino,x=inB qs ids k i xr:=⟨_,rfl⟩
 have f0:x0.1 0=p.2.kind:=by rw[hx0];unfold inB;rw[hnd];rfl
 have f1:x0.1 1=p.2.md:=by rw[hx0];unfold inB;rw[hnd];rfl
 have f2:x0.1 2=oM ids p.2.ud:=by rw[hx0];unfold inB;rw[hnd];rfl
 have f3:x0.1 3=oM ids p.2.gd:=by rw[hx0];unfold inB;rw[hnd];rfl
 have f4:x0.1 4=gC qs p.2.ino:=by rw[hx0,←hl];rfl
 have f5:x0.1 5=xr:=by rw[hx0];rfl
 have f6:x0.1 6=i.1 6:=by rw[hx0];rfl
 have f7:x0.1 7=i.1 7:=by rw[hx0];rfl
 have f8:x0.1 8=i.1 8:=by rw[hx0];rfl
 have f9:x0.1 9=i.1 9:=by rw[hx0];rfl
 have ft:x0.2=i.2:=by rw[hx0];rfl
 rw[←hx0] at hmay hat;obtain⟨rest,hdr⟩:=hat.drop;have hle:=hat.le;have hR:lX (imB qs ids) (aR qs ids (aE qs ids) 2) (aR qs ids (aE qs ids) 3) (rfB qs ids q.2)=((gFn (fL x0),gT (fL x0)),((aM (stB qs ids).ino (o+(fL x0).length):Nat):Int),0):=by
  rw[Ez M.r1];have e:rfB qs ids q.2=((aM (stB qs ids).ino o:Nat):Int):=by unfold rfB;rw[href];omega
  rw[e];exact Ok hmay hdr hle
 obtain⟨hs,hst⟩:=Hq hmay;have s0:=hs 0 (by decide);have s1:=hs 1 (by decide);have s2:=hs 2 (by decide);have s3:=hs 3 (by decide);have s4:=hs 4 (by decide);have s5:=hs 5 (by decide);have s6:=hs 6 (by decide);have s7:=hs 7 (by decide);have s8:=hs 8 (by decide);have s9:=hs 9 (by decide);obtain⟨E,hE⟩:∃ E:Ino,E=(gFn (fL x0),gT (fL x0)):=⟨_,rfl⟩
 have E0:E.1 0=p.2.kind:=by rw[hE];exact s0.trans f0
 have E1:E.1 1=p.2.md:=by rw[hE];exact s1.trans f1
 have E2:E.1 2=oM ids p.2.ud:=by rw[hE];exact s2.trans f2
 have E3:E.1 3=oM ids p.2.gd:=by rw[hE];exact s3.trans f3
 have E4:E.1 4=gC qs p.2.ino:=by rw[hE];exact s4.trans f4
 have E5:E.1 5=xr:=by rw[hE];exact s5.trans f5
 have E6:E.1 6=i.1 6:=by rw[hE];exact s6.trans f6
 have E7:E.1 7=i.1 7:=by rw[hE];exact s7.trans f7
 have E8:E.1 8=i.1 8:=by rw[hE];exact s8.trans f8
 have E9:E.1 9=i.1 9:=by rw[hE];exact s9.trans f9
 have ET:E.2=i.2:=by rw[hE];exact hst.trans ft
 rw[←hE] at hR;have hX:A3 (imB qs ids) (aR qs ids (aE qs ids)) (E.1 5)=(p.2.xs,0):=by
  rw[E5];unfold A3;rcases hxr with⟨e1,e2⟩|⟨e1,o2,e2,e3⟩
  ·rw[e2,Wt (by decide),e1]
  · obtain⟨r2,hr2⟩:=e3.drop
    rw[Wu (by omega),D2 M.r5,e2,show ((aM (stB qs ids).fur o2:Nat):Int)+1-1=((aM (stB qs ids).fur o2:Nat):Int) by omega];exact OX hmp.2.2.2.2.2.2.2.2 (WN.2 e1) hr2
 have hF8:(aR qs ids (aE qs ids)) 8=((plB qs ids).length:Int):=rfl;have hpl:=M.pln;have hbad:i.1 8≤(plB qs ids).length→¬ K1 (aR qs ids (aE qs ids)) ids (E,((aM (stB qs ids).ino (o+(fL x0).length):Nat):Int),0) q.2.kind:=fun h8=>by
  unfold K1;show ¬ ((0:Int)≠0∨E.1 0≠q.2.kind∨(ids.length:Int)≤E.1 2∨(ids.length:Int)≤E.1 3∨aR qs ids (aE qs ids) 8<E.1 8);rw[E0,E2,E3,E8,hF8];rintro(h|h|h|h|h)
  ·exact h rfl
  ·exact h ka
  ·omega
  ·omega
  ·omega
 have hcnt:gC qs p.2.ino=gC qs q.2.ino:=by rw[show p.2.ino=q.2.ino by omega]
 have fin:∀ L:List Ent,L=fV qs (stB qs ids) (bA qs q.2.names qs.length)→(q.2.kind=3→E.2=q.2.tgt)→(q.2.kind=2→E.1 7=q.2.data.length∧∀ g:Img,g.im=imB qs ids→g.places=plB qs ids→GP g ⟨rfB qs ids q.2,E,L,p.2.xs⟩ 0 q.2.data.length=(q.2.data,0))→ROk qs ids q.2 ⟨rfB qs ids q.2,E,L,p.2.xs⟩:=fun L hL h3 h2=>
  ⟨rfl,E0.trans ka,E1.trans kb1,by show ids.getD (E.1 2).toNat 0=q.2.ud;rw[E2,u3,kb2],by show ids.getD (E.1 3).toNat 0=q.2.gd;rw[E3,g3,kb3],by show E.1 4=_;rw[E4,hcnt],h3,hL,kf,h2⟩
 obtain⟨⟨k1,k3⟩,_⟩:=G.may q hq;by_cases c2:q.2.kind=2
 · have hi:=hki.1 (ka.trans c2)
   have hf:=Gq G F hpm (ka.trans c2);rw[←hi] at hf;obtain⟨st,fr,off,rfl,a1,a2,a3,a4,a5,a6,a7⟩:=Gx hf F.t;obtain⟨rst,hb1,hb2⟩:=M.blk;have hd:p.2.data.length≤4096:=hmp.2.2.2.2.2.2.1;have hb:=hbad (by show ((fr:Nat):Int)≤_;omega);have key:∀ (g:Img) (L:List Ent) (X:List Xa),g.im=imB qs ids→g.places=plB qs ids→GP g ⟨rfB qs ids q.2,E,L,X⟩ 0 p.2.data.length=(p.2.data,0)∧(128≤p.2.data.length→(vE (imB qs ids) st p.2.data.length (aR qs ids (aE qs ids) 2)).2=0∧64≤st):=fun g L X hg hp=>
    HB (nC _) F.t hb1 hd a6 a7 (by rw[hb2];exact Int.le_refl _) hg hp (by show E.1 6=_;rw[E6];rfl) (by show E.1 7=_;rw[E7];rfl) (by show E.1 8=_;rw[E8];rfl) (by show E.1 9=_;rw[E9];rfl)
   have h7:E.1 7=((p.2.data.length:Nat):Int):=by rw[E7];rfl
   have h6:E.1 6=((st:Nat):Int):=by rw[E6];rfl
   have hnb:¬ HS (imB qs ids) (aR qs ids (aE qs ids)) E.1:=by
    unfold HS;rw[h7,h6];rintro⟨h,h2⟩;obtain⟨w1,w2⟩:=(key ⟨imB qs ids,zF,plB qs ids,[],[]⟩ [] [] rfl rfl).2 (by omega);rcases h2 with h2|h2
    ·exact h2 w1
    ·omega
   refine⟨⟨rfB qs ids q.2,E,[],p.2.xs⟩,?_,fin [] ?_ (fun h=>by omega) (fun _=>⟨by rw[h7,ke],fun g hg hp=>?_⟩)⟩
   · unfold Ea
     rw[hR,Wt hb];show (if (A3 (imB qs ids) (aR qs ids (aE qs ids)) (E.1 5)).2≠0 then _ else _)=_;rw[hX,Wt (fun h=>h rfl),Wu c2];show (if HS (imB qs ids) (aR qs ids (aE qs ids)) E.1 then none else some _)=_;rw[Wt hnb]
   ·rw[G.nodir hj (by omega)];rfl
   · have:=(key g [] p.2.xs hg hp).1
     rw[ke] at this;exact this
 · by_cases c1:q.2.kind=1
   · obtain⟨ks,o2,hi,hat2⟩:=hki.2.2 (ka.trans c1)
     have hch:=EM G hinv ks;have hL:=(Dr hch).2;obtain⟨r2,hr2⟩:=hat2.drop;have hle2:=hat2.le;have hb:=hbad (by rw[hi];exact Ya _);have h6:E.1 6=((aM (stB qs ids).lst o2:Nat):Int):=by rw[E6,hi];rfl
     have h7:E.1 7=(((bZ (fV qs (stB qs ids) (bA qs p.2.names qs.length))).length:Nat):Int):=by rw[E7,hi];rfl
     have hlis:Jr (imB qs ids) (aR qs ids (aE qs ids)) E.1=(fV qs (stB qs ids) (bA qs p.2.names qs.length),0):=by
      unfold Jr;rw[M.r2,h6,h7];have h8:=Cv hle2;have h8:aI (dnW (stB qs ids).lst) 0 (dnW (stB qs ids).lst).length ((aM (stB qs ids).lst o2:Nat):Int) (((bZ (fV qs (stB qs ids) (bA qs p.2.names qs.length))).length:Nat):Int)=_:=h8;rw[h8,Wt (fun h=>h rfl)];show Kr (((stB qs ids).lst.drop o2).take _)=_;rw[hr2,Xz rfl,hL]
     refine⟨⟨rfB qs ids q.2,E,fV qs (stB qs ids) (bA qs p.2.names qs.length),p.2.xs⟩,?_,fin _ (by rw[hkids]) (fun h=>by omega) (fun h=>by omega)⟩;unfold Ea;rw[hR,Wt hb];show (if (A3 (imB qs ids) (aR qs ids (aE qs ids)) (E.1 5)).2≠0 then _ else _)=_;rw[hX,Wt (fun h=>h rfl),Wt c2,Wu c1];show (if (Jr (imB qs ids) (aR qs ids (aE qs ids)) E.1).2≠0 then none else some _)=_;rw[hlis,Wt (fun h=>h rfl)]
   · have c3:q.2.kind=3:=by omega
     have hi:=hki.2.1 (ka.trans c3);have hb:=hbad (by rw[hi];exact Ya _);refine⟨⟨rfB qs ids q.2,E,[],p.2.xs⟩,?_,fin [] ?_ (fun _=>by rw[ET,hi];exact kc) (fun h=>by omega)⟩
     · unfold Ea
       rw[hR,Wt hb];show (if (A3 (imB qs ids) (aR qs ids (aE qs ids)) (E.1 5)).2≠0 then _ else _)=_;rw[hX,Wt (fun h=>h rfl),Wt c2,Wt c1]
     ·rw[G.nodir hj (by omega)];rfl
end
end
section
open Go Go.RowKit Go.Maps
def eY(qs:List (NdH×Nd)):Nat→Int→List Int
|0,_=>[]
|n+1,k=>k::(bA qs (ndB qs k).names qs.length).flatMap (eY qs n)
def vld(qs:List (NdH×Nd))(V:List Int):Prop:=∀ k∈V,∃ (i:Nat) (q:NdH×Nd),k=(i:Int)∧qs[i]?=some q
def cV(qs:List (NdH×Nd))(V:List Int)(z:Int):Nat:=V.countP (fun j=>decide ((ndB qs j).ino=z))
def Rk(qs:List (NdH×Nd))(ids:List Int)(k:Int):Rec:=(Ea (imB qs ids) (aR qs ids (aE qs ids)) ids (rfB qs ids (ndB qs k)) (ndB qs k).kind).getD Eb
structure MI (qs:List (NdH×Nd))(ids:List Int)(V:List Int)(s:MSt):Prop where
 cnt:s.2=V.length
 nd:(s.1.map (·.1.ref)).Nodup
 mem:∀ r∈s.1,∃ k∈V,r.1=Rk qs ids k∧r.2=(cV qs V (ndB qs k).ino:Int)
 all:∀ k∈V,∃ r∈s.1,r.1.ref=rfB qs ids (ndB qs k)
section
variable {qs:List (NdH×Nd)}
theorem uZ(V:List Int)(k z:Int):cV qs (V++[k]) z=cV qs V z+if (ndB qs k).ino=z then 1 else 0:=by
 unfold cV;rw[List.countP_append,List.countP_singleton];by_cases h:(ndB qs k).ino=z
 ·simp[h]
 ·simp[h]
theorem Ah{l:List (Rec×Int)}{ref:Int}(h:xA l ref=none):∀ r∈l,r.1.ref≠ref:=by
 unfold xA at h;rw[XX] at h;intro r hr e;have:=h r hr;simp[e] at this
theorem rZ{l:List (Rec×Int)}{ref:Int}{i:Nat}(h:xA l ref=some i):∃ r,l[i]?=some r∧r.1.ref=ref:=by
 unfold xA at h;rw[Xu] at h;obtain⟨hi,h1,_⟩:=h;exact⟨l[i],Wv hi,by simpa using h1⟩
theorem mL:∀ (n k:Nat) (q:NdH×Nd),qs[k]?=some q→∀ z∈eY qs n k,∃ (i:Nat) (p:NdH×Nd) (r:List By),z=(i:Int)∧qs[i]?=some p∧p.2.names=q.2.names++r
|0,k,q,hq,z,hz=>by cases hz
|n+1,k,q,hq,z,hz=>by
   have hz:z∈(k:Int)::(bA qs (ndB qs k).names qs.length).flatMap (eY qs n):=hz;rcases W5.1 hz with rfl|hz
   ·exact⟨k,q,[],rfl,hq,by simp⟩
   · obtain⟨y,hy,hz⟩:=XZ.1 hz
     rw[bC hq] at hy;obtain⟨j,p,rfl,hj,hn⟩:=gA hy;obtain⟨i,x,r,h1,h2,h3⟩:=mL n j p hj z hz;obtain⟨a,ha⟩:∃ a,a=bI p.2.names:=⟨_,rfl⟩
     rw[←ha] at hn;exact⟨i,x,a::r,h1,h2,by rw[h3,hn];simp⟩
theorem mK(n:Nat){k:Nat}{q:NdH×Nd}(hq:qs[k]?=some q):vld qs (eY qs n k):=fun z hz=>by
 obtain⟨i,p,_,h1,h2,_⟩:=mL n k q hq z hz;exact⟨i,p,h1,h2⟩
variable (G:GdT qs)
include G
theorem lD:∀ (n k:Nat) (q:NdH×Nd),qs[k]?=some q→(eY qs n k).Nodup
|0,_,_,_=>List.Pairwise.nil
|n+1,k,q,hq=>by
   show ((k:Int)::(bA qs (ndB qs k).names qs.length).flatMap (eY qs n)).Nodup;rw[bC hq];refine YQ.2 ⟨fun hm=>?_,?_⟩
   · obtain⟨y,hy,hz⟩:=XZ.1 hm
     obtain⟨j,p,rfl,hj,hn⟩:=gA hy;obtain⟨i,x,r,h1,h2,h3⟩:=mL n j p hj _ hz;have e:i=k:=by omega
     subst e;rw[hq] at h2;cases h2;have:=congrArg W6 h3;rw[hn] at this;simp at this
   · unfold List.Nodup
     rw[List.pairwise_flatMap];refine⟨fun y hy=>?_,?_⟩
     · obtain⟨j,p,rfl,hj,_⟩:=gA hy
       exact lD n j p hj
     · refine(jH qs.length).imp_of_mem (fun {a b} ha hb hab=>?_)
       obtain⟨i,p,rfl,hi,hn⟩:=gA ha;obtain⟨j,r,rfl,hj,hm⟩:=gA hb;intro x hx y hy e;subst e;obtain⟨i1,x1,r1,a1,a2,a3⟩:=mL n i p hi x hx;obtain⟨i2,x2,r2,b1,b2,b3⟩:=mL n j r hj x hy;have e:i1=i2:=by omega
       subst e;rw[a2] at b2;cases b2;have hlen:p.2.names.length=r.2.names.length:=by rw[hn,hm];simp
       have h2:=a3.symm.trans b3;have h3:=(YR h2 hlen).1;have:=G.inj hi hj h3;omega
theorem Cy:∀ (n k:Nat) (q:NdH×Nd),qs[k]?=some q→17≤q.2.names.length+n→∀ (i:Nat) (p:NdH×Nd) (r:List By),qs[i]?=some p→p.2.names=q.2.names++r→(i:Int)∈eY qs n k
|0,k,q,hq,hd,i,p,r,hp,hr=>by have:=G.dep q (Wz hq);omega
|n+1,k,q,hq,hd,i,p,r,hp,hr=>by
   show (i:Int)∈(k:Int)::(bA qs (ndB qs k).names qs.length).flatMap (eY qs n);rw[bC hq];by_cases h0:r=[]
   · subst h0
     have e:=G.inj hp hq (by rw[hr];simp);rw[e];exact List.mem_cons_self
   · refine List.mem_cons_of_mem _ (XZ.2 ?_)
     have hl:p.2.names.length=q.2.names.length+r.length:=by rw[hr,Ww]
     have hr0:=WN.2 h0;obtain⟨j,y,hj,hy,_⟩:=G.above (Wz hp) (r.length-1) (q.2.names.length+1) (by omega);have hyl:y.2.names=q.2.names++r.take 1:=by
      rw[hy,hr,YO,WJ (by omega)];congr 2;omega
     have hne:y.2.names≠[]:=fun e=>by
      have:=congrArg W6 (hyl.symm.trans e);simp only[Ww,WB,W2] at this;omega
     have hdl:y.2.names.dropLast=q.2.names:=by
      rw[hyl];cases r with
     |nil=>exact absurd rfl h0
     |cons a b=>simp
     refine⟨(j:Int),JA hj hne hdl,?_⟩;have hyn:y.2.names.length=q.2.names.length+1:=by rw[hyl,Ww,WB];omega
     refine Cy n j y hj (by omega) i p (r.drop 1) hp ?_;rw[hyl,hr,WL,WX]
theorem IX{n k:Nat}{q:NdH×Nd}(hq:qs[k]?=some q):(eY qs n k).length≤qs.length:=by
 have h:=rV (eY qs n k) ((Xr qs.length).map (fun(i:Nat)=>(i:Int))) (lD G n k q hq) (fun x hx=>by
  obtain⟨i,p,h1,h2⟩:=mK n hq x hx;exact WS.2 ⟨i,XB.2 (Wy.1 h2).1,h1.symm⟩)
 simpa using h
omit G in
theorem Cx (n:Nat):((Xr n).map (fun(i:Nat)=>(i:Int))).Nodup:=by
 unfold List.Nodup;rw[X2];exact(List.nodup_range (n:=n)).imp (fun h e=>h (by omega))
theorem rT:(eY qs 17 0).Perm ((Xr qs.length).map (fun(i:Nat)=>(i:Int))):=by
 obtain⟨r,hr,hrn,_⟩:=G.root;refine(List.perm_ext_iff_of_nodup (lD G 17 0 r hr) (Cx _)).2 (fun x=>⟨fun hx=>?_,fun hx=>?_⟩)
 · obtain⟨i,p,h1,h2⟩:=mK 17 hr x hx
   exact WS.2 ⟨i,XB.2 (Wy.1 h2).1,h1.symm⟩
 · obtain⟨i,hi,rfl⟩:=WS.1 hx
   have hi:=XB.1 hi;exact Cy G 17 0 r hr (by omega) i _ _ (Wv hi) (by rw[hrn];simp;rfl)
omit G in
theorem MZ {V U:List Int} (h:V.Perm U) (z:Int):cV qs V z=cV qs U z:=h.countP_eq _
omit G in
theorem KN (z:Int):(cV qs ((Xr qs.length).map (fun(i:Nat)=>(i:Int))) z:Int)=gC qs z:=by
 unfold cV gC;congr 1;rw[countP_map];have e:qs=(Xr qs.length).map (fun i=>qs.getD i (mN,nd0)):=by
  apply Xy;intro i;rw[W7];by_cases hi:i<qs.length
  ·rw[List.getElem?_range hi,Wv hi];simp[WI,hi]
  ·rw[Xe (by omega),Xe (by rw[List.length_range];omega)];rfl
 conv=>rhs;rw[e]
 rw[countP_map];congr 1
end
section
variable {qs:List (NdH×Nd)}{ids:List Int}(M:ImB qs ids)
include M
theorem ImB.rk{k:Nat}{q:NdH×Nd}(hq:qs[k]?=some q):Ea (imB qs ids) (aR qs ids (aE qs ids)) ids (rfB qs ids q.2) q.2.kind=some (Rk qs ids k)∧ROk qs ids q.2 (Rk qs ids k):=by
 obtain⟨x,h1,h2⟩:=M.rcd (Wz hq);have e:Rk qs ids k=x:=by unfold Rk;rw[bC hq,h1];rfl
 rw[e];exact⟨h1,h2⟩
theorem ImB.rf_ino{p q:NdH×Nd}(hp:p∈qs)(hq:q∈qs):rfB qs ids p.2=rfB qs ids q.2↔p.2.ino=q.2.ino:=by
 obtain⟨h,hpos⟩:=M.st;have h1:=hpos p hp;have h2:=hpos q hq;have i1:=M.G.ino p hp;have i2:=M.G.ino q hq;unfold rfB;constructor
 · intro e
   have:=h.dist p.2.ino.toNat q.2.ino.toNat h1 (by omega);omega
 ·intro e;rw[e]
theorem ImB.rk_same{j k:Nat}{p q:NdH×Nd}(hp:qs[j]?=some p)(hq:qs[k]?=some q)(e:p.2.ino=q.2.ino):Rk qs ids j=Rk qs ids k:=by
 have h:=M.G.same (Wz hq) (Wz hp) e;unfold Rk rfB;rw[bC hp,bC hq,e,h.1]
theorem MI.new{V:List Int}{s:MSt}(h:MI qs ids V s)(hV:vld qs V){k:Nat}{q:NdH×Nd}(hq:qs[k]?=some q)(hn:xA s.1 (rfB qs ids q.2)=none):MI qs ids (V++[(k:Int)]) (s.1++[(Rk qs ids k,1)],s.2+1):=by
 have hno:=Ah hn;have hR:=(M.rk hq).2;have hnd:=bC hq;refine⟨by show s.2+1=_;rw[h.cnt,Ww];rfl,?_,fun r hr=>?_,fun j hj=>?_⟩
 · show ((s.1++[(Rk qs ids k,1)]).map (fun r:Rec×Int=>r.1.ref)).Nodup
   rw[Yo,Y3];refine⟨h.nd,by simp,fun a ha b hb e=>?_⟩;obtain⟨r,hr,rfl⟩:=WS.1 ha;simp only[Xo,List.map_nil,WY] at hb;subst hb;exact hno r hr (e.trans hR.ref)
 · rcases WZ.1 hr with hr|hr
   · obtain⟨j,hj,h1,h2⟩:=h.mem r hr
     obtain⟨i,p,rfl,hp⟩:=hV j hj;refine⟨(i:Int),Ye _ hj,h1,?_⟩;rw[uZ,Wt (fun e=>?_),h2,Yd];rw[hnd,bC hp] at e;have h3:=(M.rk hp).2.ref;rw[←h1,(M.rf_ino (Wz hp) (Wz hq)).2 e.symm] at h3;exact hno r hr h3
   · rw[WY] at hr;subst hr
     refine⟨(k:Int),by simp,rfl,?_⟩;rw[uZ,Wu rfl];have h0:cV qs V (ndB qs k).ino=0:=List.countP_eq_zero.2 (fun j hj=>by
      obtain⟨i,p,rfl,hp⟩:=hV j hj;obtain⟨r,hr,h1⟩:=h.all _ hj;rw[bC hp] at h1 ⊢;rw[hnd];simp only[decide_eq_true_eq];intro e;rw[(M.rf_ino (Wz hp) (Wz hq)).2 e] at h1;exact hno r hr h1)
     rw[h0];rfl
 · rcases WZ.1 hj with hj|hj
   · obtain⟨r,hr,h1⟩:=h.all j hj
     exact⟨r,Ye _ hr,h1⟩
   · rw[WY] at hj;subst hj
     exact⟨(Rk qs ids k,1),by simp,by rw[hnd];exact hR.ref⟩
theorem MI.old{V:List Int}{s:MSt}(h:MI qs ids V s)(hV:vld qs V){k i:Nat}{q:NdH×Nd}(hq:qs[k]?=some q)(hi:xA s.1 (rfB qs ids q.2)=some i):MI qs ids (V++[(k:Int)]) (tM s.1 i,s.2+1):=by
 obtain⟨r0,hr0,hrf⟩:=rZ hi;have hil:=(Wy.1 hr0).1;have hnd:=bC hq;have hb:tM s.1 i=s.1.set i (r0.1,r0.2+1):=by unfold tM;rw[WI,hr0];rfl
 have hmap:(tM s.1 i).map (·.1.ref)=s.1.map (·.1.ref):=by
  rw[hb,List.map_set];apply Xy;intro j;rw[XT];by_cases e:i=j
  · subst e
    rw[Wu rfl,WK,Wu hil,W7,hr0];rfl
  ·rw[Wt e]
 have at_:∀ (j:Nat) (r:Rec×Int),s.1[j]?=some r→r.1.ref=rfB qs ids q.2→j=i:=fun j r hr e=>by
  have hjl:=(Wy.1 hr).1;apply WH;intro hne;have hn:=W8.1 h.nd;have e1:(s.1.map (·.1.ref))[j]'(by rw[WK];exact hjl)=rfB qs ids q.2:=by rw[Zd,(Wy.1 hr).2];exact e
  have e2:(s.1.map (·.1.ref))[i]'(by rw[WK];exact hil)=rfB qs ids q.2:=by rw[Zd,(Wy.1 hr0).2];exact hrf
  rcases Nat.lt_or_gt_of_ne hne with c|c
  ·exact hn j i (by rw[WK];exact hjl) (by rw[WK];exact hil) c (e1.trans e2.symm)
  ·exact hn i j (by rw[WK];exact hil) (by rw[WK];exact hjl) c (e2.trans e1.symm)
 refine⟨by show s.2+1=_;rw[h.cnt,Ww];rfl,by rw[hmap];exact h.nd,fun r hr=>?_,fun j hj=>?_⟩
 · obtain⟨j,hj⟩:=WO hr
   have hj:(tM s.1 i)[j]?=some r:=hj;rw[hb,XT] at hj;by_cases e:i=j
   · rw[Wu e,Wu hil] at hj
     cases hj;obtain⟨k',hk',h1,h2⟩:=h.mem r0 (Wz hr0);obtain⟨i',p,rfl,hp⟩:=hV k' hk';have h3:=(M.rk hp).2.ref;rw[←h1,hrf] at h3;have h4:=(M.rf_ino (Wz hq) (Wz hp)).1 h3;refine⟨(i':Int),Ye _ hk',h1,?_⟩;rw[uZ,Wu (by rw[hnd,bC hp];exact h4)];show r0.2+1=_;rw[h2];rfl
   · rw[Wt e] at hj
     obtain⟨k',hk',h1,h2⟩:=h.mem r (Wz hj);obtain⟨i',p,rfl,hp⟩:=hV k' hk';refine⟨(i':Int),Ye _ hk',h1,?_⟩;rw[uZ,Wt (fun e2=>?_),h2,Yd];rw[hnd,bC hp] at e2;have h3:=(M.rk hp).2.ref;rw[←h1,(M.rf_ino (Wz hp) (Wz hq)).2 e2.symm] at h3;exact e (at_ j r hj h3).symm
 · rcases WZ.1 hj with hj|hj
   · obtain⟨r,hr,h1⟩:=h.all j hj
     have h2:r.1.ref∈(tM s.1 i).map (·.1.ref):=by rw[hmap];exact WS.2 ⟨r,hr,rfl⟩
     obtain⟨r',hr',h3⟩:=WS.1 h2;exact⟨r',hr',h3.trans h1⟩
   · rw[WY] at hj;subst hj
     have h2:r0.1.ref∈(tM s.1 i).map (·.1.ref):=by rw[hmap];exact WS.2 ⟨r0,Wz hr0,rfl⟩
     obtain⟨r',hr',h3⟩:=WS.1 h2;exact⟨r',hr',by rw[h3,hnd];exact hrf⟩
omit M in
theorem Fl {V U:List Int} (h:vld qs V) (g:vld qs U):vld qs (V++U):=fun k hk=>(WZ.1 hk).elim (h k) (g k)
theorem Gd{f:Int→Int→MSt→Option MSt}{P:Int→List Int}{S:List By}
 (IH:∀ (k:Nat) (q:NdH×Nd) (V:List Int) (s:MSt),qs[k]?=some q→q.2.names.length=S.length+1→MI qs ids V s→vld qs V→(V++P k).Nodup→(V++P k).length≤1024→∃ s',f (rfB qs ids q.2) q.2.kind s=some s'∧MI qs ids (V++P k) s')
 (hP:∀ z∈bA qs S qs.length,vld qs (P z)):∀ (ys:List Int) (V:List Int) (s:MSt),(∀ z∈ys,z∈bA qs S qs.length)→MI qs ids V s→vld qs V→(V++ys.flatMap P).Nodup→(V++ys.flatMap P).length≤1024→∃ s',goL f (fV qs (stB qs ids) ys) s=some s'∧MI qs ids (V++ys.flatMap P) s'
|[],V,s,_,h,_,_,_=>⟨s,rfl,by simpa using h⟩
|z::r,V,s,hk,h,hV,hn,hl=>by
   obtain⟨k,q,rfl,hq,hnm⟩:=gA (hk z (by simp));rw[XD,←WL] at hn hl;have hn1:=(Y3.1 hn).1;obtain⟨s1,e1,h1⟩:=IH k q V s hq (by rw[hnm];simp) h hV hn1 (by rw[Ww] at hl;omega);obtain⟨s2,e2,h2⟩:=Gd IH hP r (V++P k) s1 (fun y hy=>hk y (by simp[hy])) h1 (Fl hV (hP _ (hk _ (by simp)))) hn hl;refine⟨s2,?_,by rw[XD,←WL];exact h2⟩;have e:fV qs (stB qs ids) ((k:Int)::r)=(bI (ndB qs k).names,(ndB qs k).kind,rfB qs ids (ndB qs k))::fV qs (stB qs ids) r:=rfl;rw[e,bC hq];show (match f (rfB qs ids q.2) q.2.kind s with|none=>none|some s'=>goL f (fV qs (stB qs ids) r) s')=_;rw[e1];exact e2
theorem Gc:∀ (n k:Nat) (q:NdH×Nd) (V:List Int) (s:MSt),qs[k]?=some q→17≤q.2.names.length+n→MI qs ids V s→vld qs V→(V++eY qs n k).Nodup→(V++eY qs n k).length≤1024 →
 ∃ s',goM (imB qs ids) (aR qs ids (aE qs ids)) ids n (rfB qs ids q.2) q.2.kind s=some s'∧MI qs ids (V++eY qs n k) s'
|0,k,q,V,s,hq,hd,_,_,_,_=>by have:=M.G.dep q (Wz hq);omega
|n+1,k,q,V,s,hq,hd,h,hV,hn,hl=>by
   have e:eY qs (n+1) k=(k:Int)::(bA qs q.2.names qs.length).flatMap (eY qs n):=by show (k:Int)::_=_;rw[bC hq]
   rw[e] at hn hl ⊢;have hkV:(k:Int)∉V:=fun hm=>(Y3.1 hn).2.2 _ hm _ (by simp) rfl;have hc:=h.cnt;have hlen:V.length+1≤1024:=by rw[Ww,WT] at hl;omega
   unfold goM;rw[Wt (by omega)];cases hi:xA s.1 (rfB qs ids q.2) with
  |some i=>
     obtain⟨r0,hr0,hrf⟩:=rZ hi;obtain⟨k',hk',h1,h2⟩:=h.mem r0 (Wz hr0);obtain⟨i',p,rfl,hp⟩:=hV k' hk';have hpR:=(M.rk hp).2;have h3:=hpR.ref;rw[←h1,hrf] at h3;have h4:=(M.rf_ino (Wz hq) (Wz hp)).1 h3;have hne:k≠i':=fun e=>hkV (by rw[e];exact hk');obtain⟨g1,g2⟩:=M.G.lnk k i' q p hne hq hp h4;have hkids:=M.G.nodir hq g1;have hkd:(s.1.getD i (Eb,0)).1.ino.1 0=q.2.kind:=by rw[WI,hr0];show r0.1.ino.1 0=_;rw[h1,hpR.kd,g2.1]
     simp only;rw[Wu ⟨g1,hkd⟩,hkids];exact⟨_,rfl,MI.old M h hV hq hi⟩
  |none=>
     simp only;rw[(M.rk hq).1];simp only;rw[(M.rk hq).2.ls];have hnew:=MI.new M h hV hq hi;rw[show V++(k:Int)::(bA qs q.2.names qs.length).flatMap (eY qs n)=(V++[(k:Int)])++(bA qs q.2.names qs.length).flatMap (eY qs n) by simp] at hn hl ⊢;exact Gd M (S:=q.2.names) (fun k' q' V' s' hq' hnl h' hV' hn' hl'=>Gc n k' q' V' s' hq' (by omega) h' hV' hn' hl') (fun z hz=>by
      obtain⟨j,p,rfl,hj,_⟩:=gA hz;exact mK n hj) _ (V++[(k:Int)]) _ (fun _ hz=>hz) hnew (Fl hV (fun z hz=>by rw[WY] at hz;exact⟨k,q,hz,hq⟩)) hn hl
theorem ImB.mnt:∃ s:MSt,mnt (imB qs ids)=some ⟨imB qs ids,aR qs ids (aE qs ids),plB qs ids,ids,s.1⟩∧MI qs ids (eY qs 17 0) s:=by
 obtain⟨r,hr,hrn,hrk⟩:=M.G.root;have h0:MI qs ids [] ([],0):=⟨rfl,List.Pairwise.nil,by intro r hr;(cases hr),by intro k hk;(cases hk)⟩
 have hlen:=IX M.G (n:=17) hr;obtain⟨s,e,hs⟩:=Gc M 17 0 r [] ([],0) hr (by omega) h0 (by intro k hk;cases hk) (by rw[Xc];exact lD M.G 17 0 r hr) (by rw[Xc];have:=M.G.n.2;have:(eY qs 17 ((0:Nat):Int)).length≤qs.length:=hlen;omega);rw[Xc] at hs;have hs:MI qs ids (eY qs 17 0) s:=hs;have hperm:=rT M.G;obtain⟨hinv,hpos⟩:=M.st;have hF9:(aR qs ids (aE qs ids)) 9=rfB qs ids r.2:=by
  show (stB qs ids).refs.getD (ndB qs ((0:Nat):Int)).ino.toNat 0-1=_;rw[bC hr];rfl
 have hrise:IL ids:=fun i hi=>by
  have h:=W8.1 M.I.1 i (i+1) (by omega) hi (by omega);rw[WI,WI,Wv (by omega),Wv hi];exact h
 have hvl:vld qs (eY qs 17 0):=mK 17 hr
 have hcount:(s.1.length:Int)=(aR qs ids (aE qs ids)) 1:=by
  show (s.1.length:Int)=((stB qs ids).many:Int)
  rw[hinv.many];have h1:((lW (stB qs ids)).map (fun z=>z-1)).Nodup:=by
   have hp:(lW (stB qs ids)).Nodup:=by
    have hr2:(stB qs ids).refs.Pairwise (fun a b=>0<a→a≠b):=W8.2 (fun i j hi hj hij h0 e=>by
     have e1:(stB qs ids).refs.getD i 0=(stB qs ids).refs[i]:=by simp[WI,hi]
     have e2:(stB qs ids).refs.getD j 0=(stB qs ids).refs[j]:=by simp[WI,hj]
     have:=hinv.dist i j (by rw[e1];exact h0) (by rw[e1,e2];exact e);omega)
    unfold lW List.Nodup;rw[List.pairwise_filter];exact hr2.imp (fun h a _=>h (by simpa using a))
   unfold List.Nodup;rw[X2];exact hp.imp (fun h e=>h (by omega))
  have h2:(s.1.map (·.1.ref)).Perm ((lW (stB qs ids)).map (fun z=>z-1)):=(List.perm_ext_iff_of_nodup hs.nd h1).2 (fun z=>by
   constructor
   · intro hz
     obtain⟨x,hx,rfl⟩:=WS.1 hz;obtain⟨k,hk,e1,_⟩:=hs.mem x hx;obtain⟨i,p,rfl,hp⟩:=hvl k hk;have hpm:=Wz hp;have hpi:=M.G.ino p hpm;refine WS.2 ⟨(stB qs ids).refs.getD p.2.ino.toNat 0,?_,by rw[e1,(M.rk hp).2.ref];rfl⟩;unfold lW;rw[YE];have hl:p.2.ino.toNat<(stB qs ids).refs.length:=by rw[hinv.rl];omega
     exact⟨by rw[WI,Wv hl];exact Xw _,by simpa using hpos p hpm⟩
   · intro hz
     obtain⟨y,hy,rfl⟩:=WS.1 hz;unfold lW at hy;rw[YE] at hy;obtain⟨m,hm⟩:=WO hy.1;have e1:(stB qs ids).refs.getD m 0=y:=by rw[WI,hm];rfl
     obtain⟨k,p,_,_,_,hk,hpi,_⟩:=hinv.std m (by rw[e1];simpa using hy.2);have hmem:(k:Int)∈eY qs 17 0:=hperm.mem_iff.2 (WS.2 ⟨k,XB.2 (Wy.1 hk).1,rfl⟩);obtain⟨x,hx,e2⟩:=hs.all _ hmem;refine WS.2 ⟨x,hx,?_⟩;rw[e2,bC hk];unfold rfB;rw[hpi,Xd,e1])
  have h3:=h2.length_eq;rw[WK,WK] at h3;omega
 have hlinks:∀ x∈s.1,x.2=x.1.ino.1 4:=fun x hx=>by
  obtain⟨k,hk,e1,e2⟩:=hs.mem x hx;obtain⟨i,p,rfl,hp⟩:=hvl k hk;rw[e2,e1,(M.rk hp).2.ln,bC hp,MZ hperm,KN]
 refine⟨s,?_,hs⟩;unfold Go.Proofs.YthmmmagklhiiiaaGreatDoor.mnt;rw[M.sup];simp only;rw[Wt (fun h=>h rfl),M.pl];simp only;rw[Wt (fun h=>h rfl),M.id];simp only;rw[Wt (fun h=>h rfl),Wt (fun h=>h hrise),hF9];have e:goM (imB qs ids) (aR qs ids (aE qs ids)) ids 17 (rfB qs ids r.2) 1 ([],0)=some s:=by rw[←hrk];exact e
 rw[e];simp only;rw[Wt (fun h=>h.elim (fun h=>h hcount) (fun h=>h hlinks))]
theorem ImB.known{s:MSt}(hs:MI qs ids (eY qs 17 0) s){k:Nat}{q:NdH×Nd}(hq:qs[k]?=some q):knM ⟨imB qs ids,aR qs ids (aE qs ids),plB qs ids,ids,s.1⟩ (rfB qs ids q.2)=some (Rk qs ids k):=by
 obtain⟨r,hr,_⟩:=M.G.root;have hmem:(k:Int)∈eY qs 17 0:=(rT M.G).mem_iff.2 (WS.2 ⟨k,XB.2 (Wy.1 hq).1,rfl⟩);unfold knM;show (xA s.1 (rfB qs ids q.2)).map (fun i=>(s.1.getD i (Eb,0)).1)=_;cases hi:xA s.1 (rfB qs ids q.2) with
|none=>
   obtain⟨x,hx,e⟩:=hs.all _ hmem;rw[bC hq] at e;exact absurd e (Ah hi x hx)
|some i=>
   obtain⟨r0,hr0,hrf⟩:=rZ hi;obtain⟨k',hk',h1,_⟩:=hs.mem r0 (Wz hr0);obtain⟨i',p,rfl,hp⟩:=mK 17 hr k' hk';have h3:=(M.rk hp).2.ref;rw[←h1,hrf] at h3;have h4:=(M.rf_ino (Wz hq) (Wz hp)).1 h3;rw[Ym,WI,hr0];show some r0.1=_;rw[h1,M.rk_same hp hq h4.symm]
end
end
section
open Go Go.RowKit Go.Maps
def ndM(g:Img)(ref:Int)(nm:List By)(x:Rec):Nd:=
 ⟨nm,ref,x.ino.1 0,x.ino.1 1,g.ids.getD (x.ino.1 2).toNat 0,g.ids.getD (x.ino.1 3).toNat 0,if x.ino.1 0=2 then (LG g ref 0 4096).1 else [],if x.ino.1 0=3 then x.ino.2 else [],x.xs,false⟩
def wlk(g:Img):Nat→Int→List By→List Nd
|0,_,_=>[]
|n+1,ref,nm=>match knM g ref with
  |none=>[]
  |some x=>ndM g ref nm x::x.list.flatMap fun y=>wlk g n y.2.2 (nm++[y.1])
theorem NF{g:Img}{n:Nat}{ref:Int}{nm:List By}{x:Rec}(h:knM g ref=some x):wlk g (n+1) ref nm=ndM g ref nm x::x.list.flatMap fun y=>wlk g n y.2.2 (nm++[y.1]):=by
 show (match knM g ref with|none=>[]|some x=>ndM g ref nm x::x.list.flatMap fun(y:Ent)=>wlk g n y.2.2 (nm++[y.1]))=_;rw[h]
end
section
open Go Go.RowKit Go.Maps
def EmP(p:NdH×Nd):NdH×Nd:=(mN,p.2)
theorem Bf(a:List (NdH×Nd)):nds (a.map EmP)=nds a:=by simp[nds,EmP,Function.comp_def]
theorem F8(a:List (NdH×Nd)):aH (a.map EmP)=aH a:=by simp[aH,EmP,Function.comp_def]
theorem N8(L:List (NdH×Nd)):lF (L.map EmP)=(lF L).map EmP:=by
 unfold lF;rw[F8,XL,XL];rfl
theorem KJ{a:List (NdH×Nd)}(ht:¬ bL (nds a)):aP (a.map EmP)=(aP a).map EmP:=by
 have h1:(eV a).map EmP=eV (a.map EmP):=mG (by rw[Bf];exact ht) ((gU a).map EmP) (by rw[X2];exact pN a);unfold aP;rw[←h1,N8]
theorem OF(a:List (NdH×Nd)):a.map EmP=(nds a).map (fun n=>(mN,n)):=by simp[nds,EmP,Function.comp_def]
theorem MW{f:Int→Int}{a b:List (NdH×Nd)}(hp:(nds a).Perm ((nds b).map (lC f)))(hf:kX f (aH b))(ht:¬ bL (nds a)):nds (aP a)=nds (aP b):=by
 have hb:¬ bL (nds b):=by
  unfold bL at *;rw[W3] at *;have h1:=(hp.pairwise_iff (R:=fun a b:Nd=>a.names≠b.names) (fun h e=>h e.symm)).1 ht;rw[X2] at h1;exact h1
 have h1:(a.map EmP).Perm ((b.map EmP).map (rQ f)):=by
  have e:(b.map EmP).map (rQ f)=((nds b).map (lC f)).map (fun n=>(mN,n)):=by simp[nds,EmP,rQ,Function.comp_def]
  rw[e,OF];exact hp.map _
 have h2:=MU h1 (by rw[F8];exact hf) (by rw[Bf];exact ht);rw[KJ ht,KJ hb] at h2;rw[←Bf (aP a),h2,Bf]
section
variable {qs:List (NdH×Nd)}{ids:List Int}(M:ImB qs ids)
include M
theorem ImB.file0{s:MSt}(hs:MI qs ids (eY qs 17 0) s){k:Nat}{q:NdH×Nd}(hq:qs[k]?=some q)(h2:q.2.kind=2):LG ⟨imB qs ids,aR qs ids (aE qs ids),plB qs ids,ids,s.1⟩ (rfB qs ids q.2) 0 4096=(q.2.data,0):=by
 obtain⟨h7,hr⟩:=(M.rk hq).2.fl h2;have hk:=(M.rk hq).2.kd;have hd:=(M.G.may q (Wz hq)).2.2.2.2.2.2.1;unfold LG;rw[M.known hs hq];simp only;rw[Wt (by omega),Wt (by omega)];by_cases h0:q.2.data.length=0
 ·rw[Wu (by omega),WM.1 h0]
 · rw[Wt (by omega)]
   have e:(if (Rk qs ids k).ino.1 7-0<4096 then (Rk qs ids k).ino.1 7-0 else 4096)=(q.2.data.length:Int):=by split<;>omega
   rw[e];exact hr _ rfl rfl
theorem ImB.ndM{s:MSt}(hs:MI qs ids (eY qs 17 0) s){k:Nat}{q:NdH×Nd}(hq:qs[k]?=some q):Go.Proofs.YthmmmagklhiiiaaGreatDoor.ndM ⟨imB qs ids,aR qs ids (aE qs ids),plB qs ids,ids,s.1⟩ (rfB qs ids q.2) q.2.names (Rk qs ids k)=lC (fun z=>(stB qs ids).refs.getD z.toNat 0-1) q.2:=by
 have R:=(M.rk hq).2;obtain⟨mk,mo,_,_,_,md,_,mt,_⟩:=M.G.may q (Wz hq);have e1:(if (Rk qs ids k).ino.1 0=2 then (LG ⟨imB qs ids,aR qs ids (aE qs ids),plB qs ids,ids,s.1⟩ (rfB qs ids q.2) 0 4096).1 else [])=q.2.data:=by
  rw[R.kd];by_cases h:q.2.kind=2
  ·rw[Wu h,M.file0 hs hq h]
  ·rw[Wt h,md.resolve_left h]
 have e2:(if (Rk qs ids k).ino.1 0=3 then (Rk qs ids k).ino.2 else [])=q.2.tgt:=by
  rw[R.kd];unfold okT at mt;by_cases h:q.2.kind=3
  ·rw[Wu h,R.tg h]
  ·rw[Wt h] at mt ⊢;rw[mt]
 unfold Go.Proofs.YthmmmagklhiiiaaGreatDoor.ndM;rw[e1,e2,R.kd,R.md,R.ud,R.gd,R.xs];unfold lC;obtain⟨hd,nd⟩:=q;simp only at mo ⊢;rw[←mo];rfl
theorem ImB.wlk{s:MSt}(hs:MI qs ids (eY qs 17 0) s):∀ (n k:Nat) (q:NdH×Nd),qs[k]?=some q →
 Go.Proofs.YthmmmagklhiiiaaGreatDoor.wlk ⟨imB qs ids,aR qs ids (aE qs ids),plB qs ids,ids,s.1⟩ n (rfB qs ids q.2) q.2.names=(eY qs n k).map (fun j=>lC (fun z=>(stB qs ids).refs.getD z.toNat 0-1) (ndB qs j))
|0,_,_,_=>rfl
|n+1,k,q,hq=>by
   rw[NF (M.known hs hq),M.ndM hs hq];have e:eY qs (n+1) k=(k:Int)::(bA qs q.2.names qs.length).flatMap (eY qs n):=by show (k:Int)::_=_;rw[bC hq]
   rw[e,Xo,bC hq,List.map_flatMap,(M.rk hq).2.ls];congr 1;unfold fV;rw[Zf];simp only[List.flatMap_def];congr 1;refine X5 (fun j hj=>?_);obtain⟨i,p,rfl,hp,hn⟩:=gA hj;rw[bC hp];have:=ImB.wlk hs n i p hp;rw[hn] at this;exact this
end
theorem yF{ps:List (NdH×Nd)}{ids:List Int}(M:ImB (aP ps) ids)(hg:mR (nds ps)){s:MSt}(hs:MI (aP ps) ids (eY (aP ps) 17 0) s){got:List (NdH×Nd)}
 (h:nds got=wlk ⟨imB (aP ps) ids,aR (aP ps) ids (aE (aP ps) ids),plB (aP ps) ids,ids,s.1⟩ 17 ((aR (aP ps) ids (aE (aP ps) ids)) 9) []):¬ bL (nds got)∧nds (aP got)=nds (aP ps):=by
 obtain⟨qs,hqs⟩:∃ qs,qs=aP ps:=⟨_,rfl⟩
 have hgq:mR (nds (aP ps)):=yD hg;have hag:nds (aP (aP ps))=nds (aP ps):=HO hg rfl;rw[←hqs] at M hs h hgq hag ⊢;obtain⟨r,hr,hrn,hrk⟩:=M.G.root;obtain⟨f,hf⟩:∃ f:Int→Int,f=fun z=>(stB qs ids).refs.getD z.toNat 0-1:=⟨_,rfl⟩
 have h9:(aR qs ids (aE qs ids)) 9=rfB qs ids r.2:=by
  show (stB qs ids).refs.getD (ndB qs ((0:Nat):Int)).ino.toNat 0-1=_;rw[bC hr];rfl
 have hw:=M.wlk hs 17 0 r hr;rw[hrn] at hw;rw[h9,hw,←hf] at h;have hperm:(nds got).Perm ((nds qs).map (lC f)):=by
  rw[h];refine((rT M.G).map _).trans (List.Perm.of_eq ?_);rw[XL];unfold nds;rw[XL];apply Xy;intro i;rw[W7,W7];by_cases hi:i<qs.length
  · rw[List.getElem?_range hi]
    have e:=bC (Wv hi);rw[Wv hi];show some (lC f (ndB qs (i:Int)))=_;rw[e];rfl
  · have h1:(Xr qs.length)[i]?=none:=Xe (by rw[List.length_range];omega)
    have h2:qs[i]?=none:=Xe (by omega);rw[h1,h2];rfl
 have hinj:kX f (aH qs):=fun a ha b hb e=>by
  obtain⟨p,hp,rfl⟩:=WS.1 ha;obtain⟨q,hq,rfl⟩:=WS.1 hb;rw[hf] at e;exact(M.rf_ino hp hq).1 e
 have hin:(nds qs).map (·.ino)=aH qs:=by simp[nds,aH,Function.comp_def]
 have hgg:mR (nds got):=nN hperm.symm ((xB (by rw[hin];exact hinj)).2 hgq);have ht:¬ bL (nds got):=fun h=>h hgg.2.2.2.1;exact⟨ht,by rw[MW hperm hinj ht,hag]⟩
end
section
open Go Go.RowKit Go.Maps
theorem kO(qs:List (NdH×Nd))(i:Nat):(qs.getD i (mN,nd0)).2=(nds qs).getD i nd0:=by
 unfold nds;rw[WI,WI,W7];cases qs[i]?<;>rfl
section
variable {qs rs:List (NdH×Nd)}(h:nds qs=nds rs)
include h
theorem qG:qs.length=rs.length:=by have:=congrArg W6 h;simpa[nds] using this
theorem uO:ndB qs=ndB rs:=by
 funext k;unfold ndB;rw[kO,kO,h]
theorem LU:nmG qs=nmG rs:=by
 funext k;unfold nmG;rw[kO,kO,h]
theorem JB:bA qs=bA rs:=by
 funext s n
 induction n with
|zero=>rfl
|succ n ih=>rw[bA,bA,ih,LU h]
theorem KB:gC qs=gC rs:=by
 funext z;have e:∀ l:List (NdH×Nd),gC l z=(((nds l).countP (fun n=>decide (n.ino=z)):Nat):Int):=fun l=>by
  unfold gC nds;rw[countP_map];rfl
 rw[e,e,h]
theorem Jq:wQ qs=wQ rs:=by
 funext i;unfold wQ;rw[kO,kO,h,qG h,KB h]
theorem J5(ids:List Int):fB qs ids=fB rs ids:=by
 funext k i s;unfold fB inB;rw[uO h,Jq h]
theorem Lc(wr:Int→BSt→BSt):wrK wr qs=wrK wr rs:=by
 funext l
 induction l with
|nil=>rfl
|cons j r ih=>
   funext s;rw[wrK,wrK,ih,uO h]
theorem Ld(ids:List Int)(files:List Ino):wrB qs ids files=wrB rs ids files:=by
 funext n
 induction n with
|zero=>rfl
|succ n ih=>
   funext k s;rw[wrB,wrB,ih,uO h,J5 h,Lc h,JB h,qG h]
theorem J9:aV qs=aV rs:=by unfold aV;rw[h,qG h]
theorem DJ(ids:List Int):aE qs ids=aE rs ids:=by
 unfold aE;rw[J9 h,Ld h,qG h]
theorem mP(ids:List Int):qL qs ids=qL rs ids:=by
 have e:aR qs ids (aE qs ids)=aR rs ids (aE rs ids):=by
  funext j;unfold aR;rw[DJ h,uO h]
 unfold qL;rw[e,DJ h]
end
theorem Cq:∀ {l m:List Int},l.Pairwise (· < ·)→m.Pairwise (· < ·)→(∀ z,z∈l↔z∈m)→l=m
|[],[],_,_,_=>rfl
|[],b::m,_,_,h=>by have:=(h b).2 (by simp);cases this
|a::l,[],_,_,h=>by have:=(h a).1 (by simp);cases this
|a::l,b::m,hl,hm,h=>by
   obtain⟨h1,h2⟩:=X9.1 hl;obtain⟨h3,h4⟩:=X9.1 hm;have e:a=b:=by
    rcases W5.1 ((h a).1 (by simp)) with e|ha
    ·exact e
    · rcases W5.1 ((h b).2 (by simp)) with e|hb
      ·exact e.symm
      ·have:=h1 b hb;have:=h3 a ha;omega
   subst e;congr 1;refine Cq h2 h4 (fun z=>⟨fun hz=>?_,fun hz=>?_⟩)
   · rcases W5.1 ((h z).1 (by simp[hz])) with e|hm
     ·have:=h1 z hz;omega
     ·exact hm
   · rcases W5.1 ((h z).2 (by simp[hz])) with e|hm
     ·have:=h3 z hz;omega
     ·exact hm
theorem Ml{qs rs:List (NdH×Nd)}{ids jds:List Int}(h:nds qs=nds rs)(hi:mA qs ids)(hj:mA rs jds):ids=jds:=by
 have e:∀ l:List (NdH×Nd),gY l=(nds l).flatMap (fun n=>[n.ud,n.gd]):=fun l=>by unfold gY nds;rw[Zf]
 refine Cq hi.1 hj.1 (fun z=>?_);rw[hi.2,hj.2,e,e,h]
theorem JJ{qs rs:List (NdH×Nd)}{ids jds:List Int}(h:nds qs=nds rs)(hi:mA qs ids)(hj:mA rs jds):qL qs ids=qL rs jds:=by
 rw[Ml h hi hj,mP h]
theorem Mk{ps rs:List (NdH×Nd)}{ids jds:List Int}(M:ImB (aP ps) ids)(M2:ImB (aP rs) jds)(hg:mR (nds ps))(hg2:mR (nds rs))(h:imB (aP ps) ids=imB (aP rs) jds):nds (aP ps)=nds (aP rs):=by
 obtain⟨s,h1,hs⟩:=M.mnt;obtain⟨t,h2,ht⟩:=M2.mnt;rw[h,h2] at h1;have hx:=Option.some.inj h1;obtain⟨got,hgot⟩:∃ got:List (NdH×Nd),got=(wlk ⟨imB (aP ps) ids,aR (aP ps) ids (aE (aP ps) ids),plB (aP ps) ids,ids,s.1⟩ 17 ((aR (aP ps) ids (aE (aP ps) ids)) 9) []).map (fun n=>(mN,n)):=⟨_,rfl⟩
 have hn:nds got=wlk ⟨imB (aP ps) ids,aR (aP ps) ids (aE (aP ps) ids),plB (aP ps) ids,ids,s.1⟩ 17 ((aR (aP ps) ids (aE (aP ps) ids)) 9) []:=by rw[hgot];simp[nds,Function.comp_def]
 have e9:(aR (aP ps) ids (aE (aP ps) ids)) 9=(aR (aP rs) jds (aE (aP rs) jds)) 9:=congrArg (fun g:Img=>g.F 9) hx.symm;have hn2:=hn;rw[h,e9] at hn2;have hx2:(⟨imB (aP rs) jds,aR (aP ps) ids (aE (aP ps) ids),plB (aP ps) ids,ids,s.1⟩:Img)=⟨imB (aP rs) jds,aR (aP rs) jds (aE (aP rs) jds),plB (aP rs) jds,jds,t.1⟩:=hx.symm;rw[hx2] at hn2;exact(yF M hg hs hn).2.symm.trans (yF M2 hg2 ht hn2).2
end
section
open Go Go.RowKit Go.Maps Go.Sort
section
variable {P:Program}{N:Nt}{Q:Exit→Act→World→Prop}{l:SF}{w:World}{ops:Array Oper}{rest:List Oper}{ty:TypeId}{pos:String}{aft:Array Edge}{x:Operand}{v:Value}{d:Nat}
theorem UT{T:TypeId}(hx:evL l x=some v)(hd:Nat.blt d N.n=true)
 (h:∀ w',w'=w.alloc (.cells v.cells T)→Sl P N ops Q rest ((d,pT w.heap.size)::l) w') :
 Sl P N ops Q (⟨some d,.box T x,ty,pos,aft,none⟩::rest) l w:=by
 refine Tk (w':=w.alloc (.cells v.cells T)) (fun a ha=>?_) hd (h _ rfl);simp[execOp,ha.ev hx,Instr.box,newVar,newRow]
end
theorem HN(p q:NdH×Nd)(W:World){D:Nat→Prop}(hp:NmV D W.heap p.1.names p.2.names)(hq:NmV D W.heap q.1.names q.2.names) :
 CA 58 [.agg (aF p).toArray,.agg (aF q).toArray] W fun v w'=>v=iV (cQ p.2.names q.2.names)∧∃ o1 o2,w'=(W.alloc o1).alloc o2:=by
 refine cS 10 [(0,_),(1,_)] Tryz.func58 ?_;refine Gz 2 ?_;refine UT rfl rfl ?_;intro w1 hw1;have hg1:w1.heap[W.heap.size]?=some (.cells (aF p).toArray 37 (0,0)):=by rw[hw1];exact heap_alloc_new W _
 have hf1:aA nob W w1:=by rw[hw1];exact aA.alloc _ _ _
 obtain⟨g,hg⟩:∃ g,g=W.heap.size:=⟨_,rfl⟩
 rw[←hg] at hg1 ⊢;refine UT rfl rfl ?_;intro w2 hw2;have hg2:w2.heap[w1.heap.size]?=some (.cells (aF q).toArray 37 (0,0)):=by rw[hw2];exact heap_alloc_new w1 _
 have hf2:aA nob w1 w2:=by rw[hw2];exact aA.alloc _ _ _
 obtain⟨r,hr⟩:∃ r,r=w1.heap.size:=⟨_,rfl⟩
 rw[←hr] at hg2 ⊢;have hgp:=hf2.obj hg1 id;have hp2:=hp.Ws (hf1.trans hf2) (fun _ _=>id);have hq2:=hq.Ws (hf1.trans hf2) (fun _ _=>id);refine Gz 9 ?_;refine SJ Pp rfl ((by show Calls _ _ [Value.slice p.1.names.a p.1.names.n p.1.names.c,Value.slice q.1.names.a q.1.names.n q.1.names.c].toArray _ _;rw[hp2.1,hq2.1];exact xU _ _ _ _ p.2.names q.2.names w2 hp2.2.1 hq2.2.1)) rfl ?_;rintro _ w3 ⟨rfl,hw3⟩;subst w3;refine Gz 5 ?_;exact⟨_,rfl,rfl,_,_,by rw[hw2,hw1]⟩
theorem vR{α:Type}[Inhabited α](enc:α→List Value)(K:Nat)(W:World)(b m:Nat)(dk:Array α)(os:Array Obj):aA (· = b) W (sortWorldK enc K W b 0 m dk os):=by
 unfold sortWorldK putRowK putRow mapBlock grow Go.Sort.ahead;refine⟨rfl,rfl,rfl,by simp,fun k hk hne=>?_⟩;show (W.heap.modify b _++os)[k]?=_;rw[Array.getElem?_append_left (by simpa using hk),Ys,Wt (fun e=>hne e.symm)]
theorem As{α:Type}[Inhabited α]{enc:α→List Value}{K:Nat}(hk:∀ x,(enc x).length=K)(hK:0<K)(d:Array α)(t:Nat)(ht:t<d.size*K):(flatK enc K d)[t]?=(d.toList.flatMap enc)[t]?:=by
 have h1:t/K<d.size:=(Nat.div_lt_iff_lt_mul hK).2 ht;have h2:t%K<K:=Nat.mod_lt _ hK;have e1:d.toList[t/K]?=some d[t/K]!:=by rw[Array.getElem?_toList,getElem!_pos d _ h1];exact Yb h1
 have e2:(enc d[t/K]!)[t%K]?=some (enc d[t/K]!)[t%K]!:=by
  have:t%K<(enc d[t/K]!).length:=by rw[hk];exact h2
  rw[Wv this];exact congrArg some (getElem!_pos (enc d[t/K]!) (t%K) this).symm
 have e3:=pC hk d.toList (t/K) _ e1 (t%K) _ e2;rw[Nat.div_add_mod'] at e3;rw[e3];have:t<(flatK enc K d).size:=by rw[size_flatK];exact ht
 rw[Yb this,←getElem!_pos (flatK enc K d) t this,get_flatK enc K d t ht]
theorem G8{α:Type}[Inhabited α]{enc:α→List Value}{K:Nat}(hk:∀ x,(enc x).length=K)(hK:0<K){W:World}{b:Nat}{cur:Array Value}{T:TypeId}{d:Array α}(hg:W.heap[b]?=some (.cells cur T (0,0)))(hc:cur.toList.take (d.size*K)=d.toList.flatMap enc):HoldsK enc K W b 0 d:=by
 intro j hj;rw[size_flatK] at hj;have h1:=As hk hK d j hj;rw[←hc,Xf,Wu hj,Array.getElem?_toList] at h1;have h2:j<(flatK enc K d).size:=by rw[size_flatK];exact hj
 have h3:(flatK enc K d)[j]?=some (flatK enc K d)[j]!:=by rw[getElem!_pos _ j h2];exact Yb h2
 refine⟨?_,?_⟩
 · show World.cell? W ⟨b,0+j,none⟩=some (flatK enc K d)[j]!
   rw[Xp,←h3,h1];simp[World.cell?,hg]
 ·simp[World.frozen?,hg]
theorem Hs{α:Type}[Inhabited α]{enc:α→List Value}{K:Nat}(hk:∀ x,(enc x).length=K)(hK:0<K){W:World}{b cap m:Nat}{cur:Array Value}{T:TypeId}{d:Array α}{os:Array Obj}(hg:W.heap[b]?=some (.cells cur T (0,0)))(hl:d.size≤cap)(hm:cap≤maxLen)(hs:cur.size=cap*K) :
 ∃ cur':Array Value,(sortWorldK enc K W b 0 m d os).heap[b]?=some (.cells cur' T (0,0))∧cur'.size=cap*K∧cur'.toList.take (d.size*K)=d.toList.flatMap enc:=by
 have hb:=(WD.1 hg).1;refine⟨putCells id 0 (flatK enc K d) cur,?_,by simp[putCells,hs],?_⟩
 · unfold sortWorldK putRowK putRow mapBlock grow Go.Sort.ahead
   show (W.heap.modify b _++os)[b]?=_;rw[Array.getElem?_append_left (by simpa using hb),Ys,Wu rfl,hg];rfl
 · apply Xy
   intro t;have hle:d.size*K≤cap*K:=Xh K hl;by_cases ht:t<d.size*K
   · rw[Xf,Wu ht,Array.getElem?_toList,←As hk hK d t ht]
     have h2:t<(flatK enc K d).size:=by rw[size_flatK];exact ht
     unfold putCells;rw[Array.getElem?_mapIdx,Yb (show t<cur.size by omega),Ym,Wu ⟨WG _,by omega⟩];rw[Yb h2,←getElem!_pos (flatK enc K d) t h2];rfl
   ·rw[Xf,Wt ht,Xe (by rw[cE hk,X6];omega)]
end
section
open Go Go.Proofs Go.Shelf
def Wl:Go.Shelf.Ren:=⟨fun|6=>57|15=>113|14=>112|28=>162|29=>163|20=>154|21=>155|22=>156|23=>157|24=>158|25=>159|26=>160|27=>161|46=>197|47=>198|48=>199|49=>200|50=>201|57=>221|n=>n,fun|22=>22|24=>37|25=>116|3=>3|39=>97|0=>0|53=>39|55=>227|4=>4|46=>220|45=>219|50=>118|5=>5|9=>9|66=>252|70=>72|76=>273|77=>91|n=>n,fun|n=>n⟩
theorem Wm:Go.Proofs.SlLaysF0.n6 Tryz.prog Wl where
 mixed:=by kernel_rfl
 f6 := ⟨ "slices.SortFunc[[]lamella/api.Node,lamella/api.Node]", by decide, Tryz.func57.trans (congrArg some (by kernel_rfl))⟩
 f14 := ⟨ "slices.pdqsortCmpFunc[lamella/api.Node]", by decide, Tryz.func112.trans (congrArg some (by kernel_rfl))⟩
 f15:=Tryz.func113.trans (congrArg some (by kernel_rfl))
 f20 := ⟨ "slices.insertionSortCmpFunc[lamella/api.Node]", by decide, Tryz.func154.trans (congrArg some (by kernel_rfl))⟩
 f21 := ⟨ "slices.heapSortCmpFunc[lamella/api.Node]", by decide, Tryz.func155.trans (congrArg some (by kernel_rfl))⟩
 f22 := ⟨ "slices.breakPatternsCmpFunc[lamella/api.Node]", by decide, Tryz.func156.trans (congrArg some (by kernel_rfl))⟩
 f23 := ⟨ "slices.choosePivotCmpFunc[lamella/api.Node]", by decide, Tryz.func157.trans (congrArg some (by kernel_rfl))⟩
 f24 := ⟨ "slices.reverseRangeCmpFunc[lamella/api.Node]", by decide, Tryz.func158.trans (congrArg some (by kernel_rfl))⟩
 f25 := ⟨ "slices.partialInsertionSortCmpFunc[lamella/api.Node]", by decide, Tryz.func159.trans (congrArg some (by kernel_rfl))⟩
 f26 := ⟨ "slices.partitionEqualCmpFunc[lamella/api.Node]", by decide, Tryz.func160.trans (congrArg some (by kernel_rfl))⟩
 f27 := ⟨ "slices.partitionCmpFunc[lamella/api.Node]", by decide, Tryz.func161.trans (congrArg some (by kernel_rfl))⟩
 f28:=Tryz.func162.trans (congrArg some (by kernel_rfl))
 f29:=Tryz.func163.trans (congrArg some (by kernel_rfl))
 f46 := ⟨ "slices.siftDownCmpFunc[lamella/api.Node]", by decide, Tryz.func197.trans (congrArg some (by kernel_rfl))⟩
 f47:=Tryz.func198.trans (congrArg some (by kernel_rfl))
 f48:=Tryz.func199.trans (congrArg some (by kernel_rfl))
 f49 := ⟨ "slices.medianAdjacentCmpFunc[lamella/api.Node]", by decide, Tryz.func200.trans (congrArg some (by kernel_rfl))⟩
 f50 := ⟨ "slices.medianCmpFunc[lamella/api.Node]", by decide, Tryz.func201.trans (congrArg some (by kernel_rfl))⟩
 f57 := ⟨ "slices.order2CmpFunc[lamella/api.Node]", by decide, Tryz.func221.trans (congrArg some (by kernel_rfl))⟩
 t0:=Tryz.underlying0
 a0:=Tryz.isAgg0
 z0:=Tryz.sizeOf0
 v0:=Tryz.zeroValue0
 t3:=Tryz.underlying3
 a3:=Tryz.isAgg3
 z3:=Tryz.sizeOf3
 v3:=Tryz.zeroValue3
 t4:=Tryz.underlying4
 a4:=Tryz.isAgg4
 z4:=Tryz.sizeOf4
 v4:=Tryz.zeroValue4
 t5:=Tryz.underlying5
 a5:=Tryz.isAgg5
 z5:=Tryz.sizeOf5
 v5:=Tryz.zeroValue5
 t9:=Tryz.underlying9
 a9:=Tryz.isAgg9
 z9:=Tryz.sizeOf9
 v9:=Tryz.zeroValue9
 t22:=Tryz.underlying22
 a22:=Tryz.isAgg22
 z22:=Tryz.sizeOf22
 v22:=Tryz.zeroValue22
 t25:=Tryz.underlying116
 a25:=Tryz.isAgg116
 z25:=Tryz.sizeOf116
 v25:=Tryz.zeroValue116
 t39:=Tryz.underlying97
 a39:=Tryz.isAgg97
 z39:=Tryz.sizeOf97
 v39:=Tryz.zeroValue97
 t45:=Tryz.underlying219
 a45:=Tryz.isAgg219
 z45:=Tryz.sizeOf219
 v45:=Tryz.zeroValue219
 t46:=Tryz.underlying220
 a46:=Tryz.isAgg220
 z46:=Tryz.sizeOf220
 v46:=Tryz.zeroValue220
 t50:=Tryz.underlying118
 a50:=Tryz.isAgg118
 z50:=Tryz.sizeOf118
 v50:=Tryz.zeroValue118
 t53:=Tryz.underlying39
 a53:=Tryz.isAgg39
 z53:=Tryz.sizeOf39
 v53:=Tryz.zeroValue39
 t55:=Tryz.underlying227
 a55:=Tryz.isAgg227
 z55:=Tryz.sizeOf227
 v55:=Tryz.zeroValue227
 t66:=Tryz.underlying252
 a66:=Tryz.isAgg252
 z66:=Tryz.sizeOf252
 v66:=Tryz.zeroValue252
 t70:=Tryz.underlying72
 a70:=Tryz.isAgg72
 z70:=Tryz.sizeOf72
 v70:=Tryz.zeroValue72
 t76:=Tryz.underlying273
 a76:=Tryz.isAgg273
 z76:=Tryz.sizeOf273
 v76:=Tryz.zeroValue273
 t77:=Tryz.underlying91
 a77:=Tryz.isAgg91
 z77:=Tryz.sizeOf91
 v77:=Tryz.zeroValue91
end
section
open Go Go.RowKit Go.Maps Go.Sort
def NmB(W:World)(b:Nat)(p:NdH×Nd):Prop:=NmV (fun k=>k≠b∧k<W.heap.size) W.heap p.1.names p.2.names
abbrev NmS(W:World)(b:Nat):={ p:NdH×Nd // NmB W b p }
instance (W:World)(b:Nat):Inhabited (NmS W b):=⟨⟨(mN,nd0),⟨rfl,VQ 0 (WG _),fun h=>absurd rfl h⟩⟩⟩
def EO{W:World}{b:Nat}(x:NmS W b):List Value:=aF x.1
def cfS{W:World}{b:Nat}(x y:NmS W b):Int:=cQ x.1.2.names y.1.2.names
theorem RC{W:World}{b:Nat}:SWO (Go.Proofs.ltOf (cfS (W:=W) (b:=b))) where
 irrefl x:=rY _
 trans x y z h1 h2:=tD (a:=x.1.2.names) (b:=y.1.2.names) (c:=z.1.2.names) h1 h2
 ntrans x y z h1 h2:=wR (a:=x.1.2.names) (b:=y.1.2.names) (c:=z.1.2.names) h1 h2
theorem Lv(b cap:Nat)(xs:List (NdH×Nd))(W:World)(ho:bP 10 aF 37 W.heap (some ⟨b,0,none⟩) cap xs)(hn:∀ p∈xs,NmB W b p)(hl:xs.length≤1024) :
 CA 57 [.slice (some ⟨b,0,none⟩) xs.length cap,.func (.func 58) #[] #[]] W fun v w'=>v=.tuple #[]∧∃ ys:List (NdH×Nd),bP 10 aF 37 w'.heap (some ⟨b,0,none⟩) cap ys∧ys.Perm xs∧ys.Pairwise oQ∧aA (· = b) W w':=by
 rcases ho with⟨h,_⟩|⟨g,cur,hg0,hg,g1,g2,g3,g4⟩
 ·cases h
 · cases hg0
   obtain⟨d,hd⟩:∃ d:Array (NmS W b),d=(xs.attach.map fun x=>(⟨x.1,hn x.1 x.2⟩:NmS W b)).toArray:=⟨_,rfl⟩
   have hdl:d.toList.map (·.1)=xs:=by rw[hd];simp only[XL];exact List.attach_map_subtype_val xs
   have hds:d.size=xs.length:=by rw[←hdl];simp
   have hfl:∀ e:Array (NmS W b),e.toList.flatMap EO=(e.toList.map (·.1)).flatMap aF:=fun e=>by rw[Zf];rfl
   have hH:HoldsK EO 10 W b 0 d:=G8 (enc:=EO) (K:=10) (fun _=>rfl) (by decide) hg (by rw[hds,hfl,hdl];exact g4);have hcmp:CmpLays Tryz.prog 58 #[] EO 10 cfS b 0 d.size W:=fun m os dk _ x y=>by
    have hf:=vR EO 10 W b m dk os;refine(HN x.1 y.1 _ (x.2.Ws hf (fun k hk e=>hk.1 e)) (y.2.Ws hf (fun k hk e=>hk.1 e))).mono ?_;rintro e w' ⟨v,rfl,rfl,o1,o2,rfl⟩;exact⟨rfl,0,#[o1]++#[o2],by rw[alloc_eq_grow,alloc_eq_grow,grow_grow];rfl⟩
   have h:=AnyQ.slices_SortFunc Wm 10 Tryz.isAgg37 Tryz.sizeOf37 EO (fun _=>rfl) (fun x v hv=>(aB x.1).2 v hv) cfS RC 58 #[] b 0 cap d W (enters_of Tryz.func58 (by kernel_rfl) rfl) hcmp hH (WD.1 hg).1 (by omega);rw[hds] at h;refine Calls.mono h ?_;rintro e w' ⟨rfl,d',n,os,⟨p1,_,p3⟩,hs,rfl⟩;have q1:d'.size=xs.length:=by rw[p1,hds]
   obtain⟨cur',c1,c2,c3⟩:=Hs (enc:=EO) (K:=10) (m:=n) (d:=d') (os:=os) (fun _=>rfl) (by decide) hg (by rw[q1];exact g1) g2 g3;refine⟨_,rfl,rfl,d'.toList.map (·.1),.inr ⟨b,cur',rfl,c1,by rw[WK,X6,q1];exact g1,g2,c2,?_⟩,?_,?_,vR _ _ _ _ _ _ _⟩
   ·rw[WK,X6,c3,hfl]
   · rw[←hdl]
     refine List.Perm.map _ ?_;have e1:d'.extract 0 xs.length=d':=by rw[←q1];exact Array.extract_size
     have e2:d.extract 0 xs.length=d:=by rw[←hds];exact Array.extract_size
     rw[e1,e2] at p3;exact p3
   · rw[W8]
     intro i j hi hj hij;rw[WK,X6] at hi hj;have h1:=hs i j (WG _) hij (by omega);rw[getElem!_pos d' i hi,getElem!_pos d' j hj] at h1;simp only[Zd,Array.getElem_toList];exact h1
end
section
open Go Go.RowKit Go.Maps
theorem Oe:sQ Tryz.prog 58 3 3 (iV 0):=⟨by kernel_rfl,by kernel_rfl⟩
def oC(Z zs:List Int)(m:List (I6×Value)):Prop:=(∀ z:I6,cG m z=if z.1∈zs then some (iV (eO Z z.1)) else none)∧m.length=(bM zs).length
section
variable {Z zs:List Int}{m:List (I6×Value)}
theorem Wn:oC Z [] []:=⟨fun z=>by simp[cG],rfl⟩
theorem oC.z(h:oC Z zs m)(z:I6):(cG m z).getD (iV 0)=iV (if z.1∈zs then eO Z z.1 else 0):=by
 rw[h.1 z];split<;>rfl
theorem oC.is(h:oC Z zs m)(z:I6):decide ((cG m z).isSome=true)=decide (z.1∈zs):=by
 apply decide_eq_decide.2;rw[h.1 z];split<;>simp_all
theorem oC.old(h:oC Z zs m){z:Int}(hz:z∈zs):oC Z (zs++[z]) m:=⟨fun y=>by
 rw[h.1 y];have:(y.1∈zs)↔y.1∈zs++[z]:=by
  rw[WZ,WY];exact⟨.inl,fun e=>e.elim id (fun e=>e ▸ hz)⟩
 by_cases hy:y.1∈zs
 ·rw[Wu hy,Wu (this.1 hy)]
 ·rw[Wt hy,Wt (fun e=>hy (this.2 e))],by rw[h.2,lA hz]⟩
theorem oC.new(h:oC Z zs m)(z:I6)(hz:z.1∉zs):oC Z (zs++[z.1]) (cN m z (iV (eO Z z.1))):=by
 have hn:cG m z=none:=by rw[h.1 z,Wt hz]
 refine⟨fun y=>?_,by rw[gL _ hn,Ww,h.2,lB hz];rfl⟩;rw[iZ];by_cases e:y=z
 ·subst e;rw[Wu rfl,Wu (by simp)]
 · have e2:¬ y.1=z.1:=fun h=>e (Subtype.ext h)
   rw[Wt e,h.1 y];by_cases hy:y.1∈zs
   ·rw[Wu hy,Wu (by simp[hy])]
   ·rw[Wt hy,Wt (by simp[hy,e2])]
end
theorem I7{α:Type}{K:Nat}{enc:α→List Value}{T:TypeId}{H:Array Obj}{ao:Option Addr}{cap:Nat}{xs:List α}(h:bP K enc T H ao cap xs)(hne:xs≠[]):∃ b,ao=some ⟨b,0,none⟩:=by
 rcases h with⟨_,_,h⟩|⟨g,_,h,_⟩
 ·exact absurd h hne
 ·exact⟨g,h⟩
theorem NmV.real{D:Nat→Prop}{H:Array Obj}{h:Hd}{l:List By}(v:NmV D H h l):NmV (fun k=>k<H.size) H h l:=⟨v.1,v.2.1,fun hne k ⟨a,ha,e⟩=>by have:=v.2.1.lt hne a ha;show k<H.size;omega⟩
def BL(b g i:Nat)(Z:List Int)(ys zs:List (NdH×Nd))(w:World):Prop:=zs.length=ys.length∧(∀ j:Nat,i≤j→zs[j]?=ys[j]?)∧∀ (j:Nat) (q p:NdH×Nd),j<i→zs[j]?=some q→ys[j]?=some p→q.2=(cK Z p).2∧NdV (fun k=>k≠b∧k≠g∧k<w.heap.size) w.heap q
theorem BL.Wr{b g i:Nat}{Z:List Int}{ys zs:List (NdH×Nd)}{w w':World}(h:BL b g i Z ys zs w)(f:aA (fun k=>k=b∨k=g) w w'):BL b g i Z ys zs w':=
 ⟨h.1,h.2.1,fun j q p hj hq hp=>⟨(h.2.2 j q p hj hq hp).1,((h.2.2 j q p hj hq hp).2.Ws f (fun k hk e=>e.elim hk.1 hk.2.1)).mono (fun k hk=>⟨hk.1,hk.2.1,Xk hk.2.2 f.size⟩)⟩⟩
theorem BL.put{b g i:Nat}{Z:List Int}{ys zs:List (NdH×Nd)}{w:World}{p q:NdH×Nd}(h:BL b g i Z ys zs w)(hp:ys[i]?=some p)(hq:q.2=(cK Z p).2)(hv:NdV (fun k=>k≠b∧k≠g∧k<w.heap.size) w.heap q):BL b g (i+1) Z ys (zs.set i q) w:=by
 have hil:=(Wy.1 hp).1;refine⟨by rw[XH];exact h.1,fun j hj=>by rw[XJ (by omega)];exact h.2.1 j (by omega),fun j r s hj hr hs=>?_⟩;by_cases e:j=i
 · subst e
   rw[Xi (by rw[h.1];exact hil)] at hr;cases hr;rw[hp] at hs;cases hs;exact⟨hq,hv⟩
 · rw[XJ (fun h=>e h.symm)] at hr
   exact h.2.2 j r s (by omega) hr hs
theorem BL.eq{b g:Nat}{ys zs:List (NdH×Nd)}{w:World}(h:BL b g ys.length (aH ys) ys zs w):nds zs=nds (lF ys):=by
 apply Xy;intro j;by_cases hj:j<ys.length
 · have h1:=Wv hj
   have h2:zs[j]?=some (zs[j]'(by rw[h.1];exact hj)):=Wv _;have h3:=(h.2.2 j _ _ hj h2 h1).1;rw[bE h2,h3];simp[nds,lF,h1]
 ·rw[Xe (by rw[WK,h.1];omega),Xe (by rw[WK,lF,WK];omega)]
theorem MT{ps:List (NdH×Nd)}(h:chk (nds ps)=0):∀ p∈ps,dL p.2:=by
 intro p hp;have h0:=rD h;rw[aK,h0] at h;rw[Wt (show ¬ ((0:Int)≠0) from fun h=>h rfl)] at h;by_cases hm:∃ n∈nds ps,¬ dL n
 ·rw[Wu hm] at h;cases h
 ·exact WH fun hn=>hm ⟨p.2,WS.2 ⟨p,hp,rfl⟩,hn⟩
theorem FW{n:Nd}(h:dL n){k:Nat}{y:Xa}(hy:n.xs[k]?=some y):y.2.length≤200:=by
 have hk:=(Wy.1 hy).1;have h1:=(h.2.2.2.2.2.2.2.2.1 k hk).2.2.2;have e:n.xs.getD k x0=y:=by simp[WI,hy]
 rwa[e] at h1
variable {D:Nat→Prop}
def XrJ(s k:Nat)(xx:List (By×Hd))(X:List Xa)(us:List (By×Hd))(w:World):Prop:=us.length=xx.length∧(∀ j:Nat,k≤j→us[j]?=xx[j]?)∧∀ (j:Nat) (u:By×Hd) (x:Xa),j<k→us[j]?=some u→X[j]?=some x→u.1=x.1∧ByV (fun q=>s≤q∧q<w.heap.size) w.heap u.2 x.2
theorem KI(lo:Option Addr)(lc:Nat)(ps:List (NdH×Nd))(W:World)(hv:aQ D W.heap lo lc ps)(hsm:∀ p∈ps,smN p.2)(hok:∀ p∈ps,okN p.2) :
 CA 18 [.slice lo ps.length lc] W fun v w'=>∃ (o:Option Addr) (c:Nat) (qs:List (NdH×Nd)),v=.tuple [.slice o qs.length c,iV (chk (nds ps))].toArray∧(chk (nds ps)≠0→qs=[])∧(chk (nds ps)=0→nds qs=nds (aP ps))∧aQ (fun _=>True) w'.heap o c qs∧Fr W.heap.size o∧aA nob W w':=by
 have hll:(nds ps).length=ps.length:=by simp
 refine cS 102 [(0,_)] Tryz.func18 ?_;refine cA 10 Sa (KE lo lc ps W hv hsm hok) ?_;rintro _ w2 ⟨rfl,hf2⟩;refine fK 6 ?_ ?_<;>intro h16
 ·refine Gz 13 ?_;exact⟨_,rfl,none,0,[],rfl,fun _=>rfl,fun h=>absurd h h16,⟨⟨WG _,WG _,fun h=>absurd rfl h,fun i x hx=>by simp at hx⟩,by simp⟩,VP,hf2⟩
 have hz:chk (nds ps)=0:=W3.1 h16;have hlen:=BB hz;have ht:=sM hz;have hne:ps≠[]:=fun e=>by subst e;exact absurd hz (by decide +kernel)
 have hmay:∀ p∈ps,dL p.2:=MT hz;have hnm16:∀ p∈ps,p.2.names.length≤16:=fun p hp=>(iA (wI (rD hz))).2.1 p.2 (WS.2 ⟨p,hp,rfl⟩);refine Gz 8 ?_;refine SJ R9 rfl (HL lo lc ps w2 (hv.Wr hf2).1 (by omega)) rfl ?_;rintro _ w3 ⟨o,c3,rfl,ho3,hfo,hf3⟩;obtain⟨b,rfl⟩:=I7 ho3 hne;have hF3:=hf2.trans hf3;have hbW:W.heap.size≤b:=by have:=hfo _ rfl;have:=hf2.size;exact W9 hf2.size (hfo _ rfl)
 refine Gz 6 ?_;refine SJ R8 rfl (Lv b c3 ps w3 ho3 (fun p hp=>(((hv.2 p hp).1.real).Ws hF3 (fun _ _=>id)).mono (fun k hk=>⟨fun e=>by omega,Xk hk hF3.size⟩)) (by omega)) rfl ?_;rintro _ w4 ⟨rfl,ys,ho4,hpe,hor,hf4⟩;have hF4:aA nob W w4:=hF3.Wo hf4 (fun k e=>.inr (by have e:k=b:=e;omega));have hys:=mG ht hpe hor;have hyl:=hpe.length_eq;obtain⟨Z,hZ⟩:∃ Z,Z=aH ys:=⟨_,rfl⟩
 have hym:∀ p∈ys,p∈ps:=fun p hp=>hpe.mem_iff.1 hp;have hb4:b<w4.heap.size:=ho4.lt _ rfl;refine Gz 4 ?_;refine To (enc:=enI) rfl ?_;intro w41 hm41 hs41 hf41;obtain⟨g,hg⟩:∃ g,g=w4.heap.size:=⟨_,rfl⟩
 rw[←hg] at hm41 ⊢;have hF41:=hF4.trans hf41;have hbg:b<g:=by omega
 have hgW:W.heap.size≤g:=by have:=hF4.size;omega
 refine Gz 12 ?_;refine SO (β:=Nat×List (NdH×Nd)×List (I6×Value)) (fun⟨i,zs,m⟩=>[(5,.slice (some ⟨b,0,none⟩) ps.length c3),(6,.map (some g)),(24,iV ps.length),(25,iV i)]) (fun⟨i,zs,m⟩ w=>i≤ps.length∧bP 10 aF 37 w.heap (some ⟨b,0,none⟩) c3 zs∧BL b g i Z ys zs w∧cY enI w.heap g m∧oC Z (aH (ys.take i)) m∧aA nob W w) (fun⟨i,zs,m⟩=>ps.length-i) ⟨0,ys,[]⟩ ⟨rfl,rfl,rfl,rfl,trivial⟩ ⟨WG _,ho4.Wr hf41,⟨rfl,fun _ _=>rfl,fun j _ _ hj=>by omega⟩,hm41,Wn,hF41⟩ ?_;rintro⟨i,zs,m⟩ w5 ⟨hi,ho5,hC,hm5,hMI,hF5⟩;refine fK 2 ?_ ?_<;>intro h26
 ·have hil:i<ps.length:=by omega
  obtain⟨p,hp⟩:∃ p,ys[i]?=some p:=⟨_,Wv (by omega)⟩
  have hpm:=hym p (Wz hp);have hzi:zs[i]?=some p:=by rw[hC.2.1 i (WC _)];exact hp
  have hv5:=ho5.vw aB;have hzb:=hok p hpm p.2.ino (by simp);have hsl:=AX (aH (ys.take i));have hil2:(aH (ys.take i)).length=i:=by simp[aH];omega
  have hml:=hMI.2;have hzl:=hC.1;have hizs:i<zs.length:=by omega
  have hpv:=hv.2 p hpm;have hpmay:=hmay p hpm;refine Gz 13 ?_;refine aW [(5,_),(6,_),(7,_),(24,_),(25,_),(26,_)] ?_;refine Gz 5 ?_;refine cL (SL aS rfl rfl (fun _=>by simp) (by omega)) ?_;refine Gz 9 ?_;refine cL (SM aN rfl (hv5.rowZ i rfl hzi 1 _ rfl)) ?_;refine cL (SN (u:=.tuple [iV (if p.2.ino∈aH (ys.take i) then eO Z p.2.ino else 0),.bool (decide (p.2.ino∈aH (ys.take i)))].toArray) (Tr Oe tW (a:=(⟨p.2.ino,hzb⟩:I6)) rfl rfl (fun _ e=>by rw[e];exact hm5)) (by rw[hMI.z,hMI.is])) ?_;refine Gz 3 ?_;by_cases h39:p.2.ino∈aH (ys.take i)
  ·rw[WA h39];rw[Wu h39];refine Gz 4 ?_;refine Tj (β:=List (I6×Value)) (fun m2=>[(5,.slice (some ⟨b,0,none⟩) ps.length c3),(6,.map (some g)),(8,.pointer (some (adr (some ⟨b,0,none⟩) (i*10)))),(9,iV (eO Z p.2.ino)),(24,iV ps.length),(25,iV i)]) (fun m2 w=>cY enI w.heap g m2∧oC Z (aH (ys.take (i+1))) m2∧bP 10 aF 37 w.heap (some ⟨b,0,none⟩) c3 zs∧aA (fun k=>k=b∨k=g) w5 w) ?_ ?_
   ·refine Gz 3 ?_;refine cL (S3 rfl) ?_;refine Gz 4 ?_
    first
    |exact aC m ⟨hm5,by rw[iO hp];exact hMI.old h39,ho5,VK _ _⟩
    |exact Tn _ ⟨rfl,rfl,rfl,congrArg (fun z:Int=>some (Value.int .i64 z)) hnew,rfl,rfl,trivial⟩ ⟨hm6,by rw[iO hp];exact hMI.new (⟨p.2.ino,hzb⟩:I6) h39,ho5.Ws hf6 (fun a ha e=>by cases ha;have e:b=g:=e;omega),hf6.mono (fun k e=>.inr e)⟩
   rintro m2 w6 ⟨hm6,hMI2,ho6,hH6⟩;refine Gz 6 ?_;refine Tq aB (i:=i) (j:=1) (x':=cK Z p) hzi (by decide) rfl aN rfl rfl rfl rfl ho6 ?_;intro w7 ho7 hs7 hf7;have hH7:aA (fun k=>k=b∨k=g) w5 w7:=hH6.step hf7 (fun k ⟨a,ha,e⟩=>.inl (.inl (by cases ha;exact e.symm)));have hzi7:(zs.set i (cK Z p))[i]?=some (cK Z p):=Xi (by omega);have hm7:=hm6.Ws hf7 (fun⟨a,ha,e⟩=>by cases ha;have e:b=g:=e;omega);refine Gz 3 ?_;obtain⟨hxn0,xx,hxv,hxl,hxd,hxx⟩:=hpv.2.2;have hxn:p.1.xs.n=xx.length:=by rw[hxn0,hxl]
   have hx8:p.2.xs.length≤8:=hpmay.2.2.2.2.2.2.2.2.2;have hG7:aA nob W w7:=hF5.Wo hH7 (fun k e=>.inr (by rcases e with e|e<;>omega));refine TH 20 [6,11,16] (fun H=>VwM 10 aF H (some ⟨b,0,none⟩) c3 (zs.set i (cK Z p))) [7,12,17,20,23,26] [0,1,2,3,4,5,6,8,9,10,11,13,14,15,16] (.alt 7 [] (.alt 12 [] (.alt 17 [18,19] (.alt 20 [21,22] (.alt 23 [24,25] (.alt 26 [] .fin .stop) .stop) .stop) .stop) .stop) .stop) aL (by kernel_rfl) ((ho7.vw aB)) ?_;have hH0:aA (fun k=>k=b∨k=g) w5 (w7.drewN 1):=hH7.draws 1;have hG0:aA nob W (w7.drewN 1):=hG7.draws 1;have ho0:bP 10 aF 37 (w7.drewN 1).heap (some ⟨b,0,none⟩) c3 (zs.set i (cK Z p)):=ho7;have hm0:cY enI (w7.drewN 1).heap g m2:=hm7;generalize w7.drewN 1=v0 at hH0 hG0 ho0 hm0 ⊢;refine Sz.calm rfl rfl (SQ rfl) rfl ?_;refine Sz.calm rfl rfl (SQ rfl) rfl ?_;refine Sz.calm rfl rfl (SQ rfl) rfl ?_;refine Sz.calm rfl rfl (SQ rfl) rfl ?_;refine Sz.calm rfl rfl (S7 rfl) rfl ?_;refine Sz.calm rfl rfl (Tb uT.h rfl) rfl ?_;refine Sz.calm rfl rfl (SR eW rfl (fun H (hH:VwM 10 aF H (some ⟨b,0,none⟩) c3 (zs.set i (cK Z p)))=>hH.rowZ i rfl hzi7 0 _ rfl)) rfl ?_;refine Sz.calm rfl rfl (SQ rfl) rfl ?_;refine Sz.calm rfl rfl (S7 rfl) rfl ?_;refine Sz.calm rfl rfl (Tb uS.h rfl) rfl ?_;refine Sz.calm rfl rfl (SR aX rfl (fun H (hH:VwM 10 aF H (some ⟨b,0,none⟩) c3 (zs.set i (cK Z p)))=>hH.rowZ i rfl hzi7 6 _ rfl)) rfl ?_;refine Sz.calm rfl rfl (SQ rfl) rfl ?_;refine Sz.calm rfl rfl (S7 rfl) rfl ?_;refine Sz.calm rfl rfl (Tb nQ.h rfl) rfl ?_;refine Sz.calm rfl rfl (SR cF rfl (fun H (hH:VwM 10 aF H (some ⟨b,0,none⟩) c3 (zs.set i (cK Z p)))=>hH.rowZ i rfl hzi7 8 _ rfl)) rfl ?_;refine Sz.alt ?_ ?_
   ·refine Wa rfl rfl (SJ Po rfl ((by show Calls _ _ [Value.slice p.1.names.a p.1.names.n p.1.names.c].toArray _ _;rw[hpv.1.1];exact AE _ _ p.2.names v0 (hpv.Wr hG0).1.2.1 (by have:=hnm16 p hpm;omega))) rfl ?_);rintro _ v1 ⟨on,cn,rfl,hon1,hfn,hf1⟩;have hH1:aA (fun k=>k=b∨k=g) w5 v1:=hH0.step hf1 (fun _ h=>h.elim);have hG1:=hG0.trans hf1;have ho1:=ho0.Wr hf1;have hm1:=hm0.Ws hf1 id;refine Sz.on (by exact(ho1.vw aB)) ?_;refine Sz.alt ?_ ?_
    ·refine Wa rfl rfl (SJ EF rfl ((by show Calls _ _ [Value.slice p.1.data.a p.1.data.n p.1.data.c].toArray _ _;rw[hpv.2.1.1];exact nT _ _ p.2.data v1 (hpv.Wr hG1).2.1.2.1 (by have:=hpmay.2.2.2.2.2.2.1;omega))) rfl ?_);rintro _ v2 ⟨od,cd,rfl,hod2,hfd,hf2b⟩;have hH2:aA (fun k=>k=b∨k=g) w5 v2:=hH1.step hf2b (fun _ h=>h.elim);have hG2:=hG1.trans hf2b;have ho2:=ho1.Wr hf2b;have hm2b:=hm1.Ws hf2b id;have hon2:=hon1.Wr hf2b;refine Sz.on (by exact(ho2.vw aB)) ?_;refine Sz.alt ?_ ?_
     ·refine Wa rfl rfl (SJ Pn rfl ((by show Calls _ _ [Value.slice p.1.xs.a p.1.xs.n p.1.xs.c].toArray _ _;rw[hxn];exact AD _ _ xx v2 (hxv.keep' hG2 (fun _ _ _=>id)) (by omega))) rfl ?_);rintro _ v3 ⟨ox,cx,rfl,hox3,hfx,hf3b⟩;have hH3:aA (fun k=>k=b∨k=g) w5 v3:=hH2.step hf3b (fun _ h=>h.elim);have hG3:=hG2.trans hf3b;have ho3b:=ho2.Wr hf3b;have hm3b:=hm2b.Ws hf3b id;have hon3:=hon2.Wr hf3b;have hod3:=hod2.Wr hf3b;have hfx5:∀ a,ox=some a→w5.heap.size≤a.block:=fun a ha=>by have h1:v2.heap.size≤a.block:=hfx a ha;have:=hH2.size;omega
      have hnx:∀ a c:Addr,on=some a→ox=some c→c.block=a.block→False:=fun a c ha hc e=>by have h1:v2.heap.size≤c.block:=hfx c hc;have h2:=hon2.lt a ha;omega
      have hdx:∀ a c:Addr,od=some a→ox=some c→c.block=a.block→False:=fun a c ha hc e=>by have h1:v2.heap.size≤c.block:=hfx c hc;have h2:=hod2.lt a ha;omega
      have hb0:b<v0.heap.size:=ho0.lt _ rfl;have hg0:g<v0.heap.size:=hm0.obj;have hfn:∀ a,on=some a→b<a.block∧g<a.block:=fun a ha=>by have:=hfn a ha;omega
      have hfd:∀ a,od=some a→b<a.block∧g<a.block:=fun a ha=>by have:=hfd a ha;have:=hf1.size;omega
      have hfx:∀ a,ox=some a→b<a.block∧g<a.block:=fun a ha=>by have:=hfx a ha;have:=hf1.size;have:=hf2b.size;omega
      refine Sz.on (by exact(ho3b.vw aB)) ?_;refine Sz.calm rfl rfl (S7 rfl) rfl ?_;refine Sz.calm rfl rfl (Tb uT.h rfl) rfl ?_;refine Sz.alt ?_ ?_
      ·refine Wa rfl rfl (Tq aB (i:=i) (j:=0) (x':=((⟨⟨on,p.2.names.length,cn⟩,p.1.data,p.1.xs⟩:NdH),(cK Z p).2)) hzi7 (by decide) rfl eW rfl rfl rfl rfl ho3b ?_);intro v4 ho4v hs4v hf4v;rw[YT] at ho4v;have hz4:=Xi (a:=(((⟨⟨on,p.2.names.length,cn⟩,p.1.data,p.1.xs⟩:NdH),(cK Z p).2):NdH×Nd)) hizs;have hH4:aA (fun k=>k=b∨k=g) w5 v4:=hH3.step hf4v (fun k ⟨a,ha,e⟩=>.inl (.inl (by cases ha;exact e.symm)));have hm4v:=hm3b.Ws hf4v (fun⟨a,ha,e⟩=>by cases ha;have e:b=g:=e;omega);have hon4:=hon3.Ws hf4v (fun a ha ⟨c,hc,e⟩=>by cases hc;have e:b=a.block:=e;have:=hfn a ha;omega);have hod4:=hod3.Ws hf4v (fun a ha ⟨c,hc,e⟩=>by cases hc;have e:b=a.block:=e;have:=hfd a ha;omega);have hox4:=hox3.Ws hf4v (fun a ha ⟨c,hc,e⟩=>by cases hc;have e:b=a.block:=e;have:=hfx a ha;omega);refine Sz.off rfl ?_;refine Sz.calm rfl rfl (S7 rfl) rfl ?_;refine Sz.calm rfl rfl (Tb uS.h rfl) rfl ?_;refine Sz.alt ?_ ?_
       ·refine Wa rfl rfl (Tq aB (i:=i) (j:=6) (x':=((⟨⟨on,p.2.names.length,cn⟩,⟨od,p.2.data.length,cd⟩,p.1.xs⟩:NdH),(cK Z p).2)) hz4 (by decide) rfl aX rfl rfl rfl rfl ho4v ?_);intro v5 ho5v hs5v hf5v;rw[YT] at ho5v;have hz5:=Xi (a:=(((⟨⟨on,p.2.names.length,cn⟩,⟨od,p.2.data.length,cd⟩,p.1.xs⟩:NdH),(cK Z p).2):NdH×Nd)) hizs;have hH5:aA (fun k=>k=b∨k=g) w5 v5:=hH4.step hf5v (fun k ⟨a,ha,e⟩=>.inl (.inl (by cases ha;exact e.symm)));have hm5v:=hm4v.Ws hf5v (fun⟨a,ha,e⟩=>by cases ha;have e:b=g:=e;omega);have hon5:=hon4.Ws hf5v (fun a ha ⟨c,hc,e⟩=>by cases hc;have e:b=a.block:=e;have:=hfn a ha;omega);have hod5:=hod4.Ws hf5v (fun a ha ⟨c,hc,e⟩=>by cases hc;have e:b=a.block:=e;have:=hfd a ha;omega);have hox5:=hox4.Ws hf5v (fun a ha ⟨c,hc,e⟩=>by cases hc;have e:b=a.block:=e;have:=hfx a ha;omega);refine Sz.off rfl ?_;refine Sz.calm rfl rfl (S7 rfl) rfl ?_;refine Sz.calm rfl rfl (Tb nQ.h rfl) rfl ?_;refine Sz.alt ?_ ?_
        ·refine Wa rfl rfl (Tq aB (i:=i) (j:=8) (x':=((⟨⟨on,p.2.names.length,cn⟩,⟨od,p.2.data.length,cd⟩,⟨ox,xx.length,cx⟩⟩:NdH),(cK Z p).2)) hz5 (by decide) rfl cF rfl rfl rfl rfl ho5v ?_);intro v6 ho6v hs6v hf6v;rw[YT] at ho6v;have hH6v:aA (fun k=>k=b∨k=g) w5 v6:=hH5.step hf6v (fun k ⟨a,ha,e⟩=>.inl (.inl (by cases ha;exact e.symm)));have hm6v:=hm5v.Ws hf6v (fun⟨a,ha,e⟩=>by cases ha;have e:b=g:=e;omega);have hon6:=hon5.Ws hf6v (fun a ha ⟨c,hc,e⟩=>by cases hc;have e:b=a.block:=e;have:=hfn a ha;omega);have hod6:=hod5.Ws hf6v (fun a ha ⟨c,hc,e⟩=>by cases hc;have e:b=a.block:=e;have:=hfd a ha;omega);have hox6:=hox5.Ws hf6v (fun a ha ⟨c,hc,e⟩=>by cases hc;have e:b=a.block:=e;have:=hfx a ha;omega);obtain⟨pz,hpz⟩:∃ pz:NdH×Nd,pz=((⟨⟨on,p.2.names.length,cn⟩,⟨od,p.2.data.length,cd⟩,⟨ox,xx.length,cx⟩⟩:NdH),(cK Z p).2):=⟨_,rfl⟩
         rw[←hpz] at ho6v;have hzi6:(zs.set i pz)[i]?=some pz:=Xi (by omega);have hG6:aA nob W v6:=hF5.Wo hH6v (fun k e=>.inr (by rcases e with e|e<;>omega));refine Sz.off rfl ?_;refine Wb ?_;refine Gz 6 ?_;refine cL (SN (u:=.slice ox xx.length cx) (SM cF rfl ((ho6v.vw aB).rowZ i rfl hzi6 8 _ rfl)) (by rw[hpz];rfl)) ?_;refine Gz 5 ?_;have hb6:b<v6.heap.size:=ho6v.lt _ rfl;have hg6:g<v6.heap.size:=hm6v.obj;refine SO (β:=Nat×List (By×Hd)) (fun⟨k,us⟩=>[(5,.slice (some ⟨b,0,none⟩) ps.length c3),(6,.map (some g)),(8,.pointer (some (adr (some ⟨b,0,none⟩) (i*10)))),(24,iV ps.length),(25,iV i),(82,.slice ox xx.length cx),(83,iV xx.length),(84,iV k)]) (fun⟨k,us⟩ w=>k≤xx.length∧bP 2 fC 123 w.heap ox cx us∧XrJ v6.heap.size k xx p.2.xs us w∧aA (blk ox) v6 w) (fun⟨k,us⟩=>xx.length-k) ⟨0,xx⟩ ⟨rfl,rfl,rfl,rfl,rfl,rfl,rfl,rfl,trivial⟩ ⟨WG _,hox6,⟨rfl,fun _ _=>rfl,fun j _ _ hj=>by omega⟩,VK _ _⟩ ?_;rintro⟨k,us⟩ w8 ⟨hk,hou,hXI,hI8⟩;refine fK 2 ?_ ?_<;>intro h85
         ·have hkx:k<xx.length:=by omega
          obtain⟨x,hx⟩:∃ x,xx[k]?=some x:=⟨_,Wv hkx⟩
          obtain⟨y,hy⟩:∃ y,p.2.xs[k]?=some y:=⟨_,Wv (by omega)⟩
          have hux:us[k]?=some x:=by rw[hXI.2.1 k (WC _)];exact hx
          have hvu:=hou.vw cH;have hul:=hXI.1;have hxy:=hxx k x y hx hy;have hyl4:y.2.length≤200:=FW hpmay hy;refine Gz 11 ?_;refine cL (SL iY rfl rfl (by rw[←hul];exact hvu.non) (by omega)) ?_;refine cL (SX (cs:=fC x) dS rfl (fun j v hj=>hvu.rowZ k rfl hux j v hj)) ?_;refine SP sS rfl ?_;intro w9 hg9 hs9 hf9;obtain⟨qx,hqx⟩:∃ qx,qx=w8.heap.size:=⟨_,rfl⟩
          rw[←hqx] at hg9 ⊢;refine Gz 1 ?_;refine SY (vs:=fC x) dS rfl rfl (cH x).2 hg9 rfl ?_;intro wA hgA hsA hfA;have hf8A:aA nob w8 wA:=hf9.Wo hfA (fun k e=>.inr (by have e:k=qx:=e;omega));have hI_A:aA (blk ox) v6 wA:=hI8.step hf8A (fun _ h=>h.elim);have hoz8:=ho6v.Ws hI8 (fun a ha ⟨c,hc,e⟩=>by cases ha;have:=hfx c hc;have e:c.block=b:=e;omega);have hozA:=hoz8.Wr hf8A;have houA:=hou.Wr hf8A;have hqv:v6.heap.size≤qx:=by rw[hqx];exact hI8.size
          refine Gz 1 ?_;refine aW [(5,_),(6,_),(8,_),(11,_),(12,_),(24,_),(25,_),(82,_),(83,_),(84,_),(85,_)] ?_;refine Gz 1 ?_;refine TH 10 [3,6] (fun H=>VwM 10 aF H (some ⟨b,0,none⟩) c3 (zs.set i pz)∧H[qx]?=some (.cells (fC x).toArray 123 (0,0))) [7,10] [0,1,2,3,4,5,6] (.alt 7 [8,9] (.alt 10 [] .fin .stop) .stop) aL (by kernel_rfl) (⟨hozA.vw aB,hgA⟩) ?_;refine Sz.calm rfl rfl (SQ rfl) rfl ?_;refine Sz.calm rfl rfl (S7 rfl) rfl ?_;refine Sz.calm rfl rfl (Tb nQ.h rfl) rfl ?_;refine Sz.calm rfl rfl (SN (u:=.slice ox xx.length cx) (SR cF rfl (fun H (hH:VwM 10 aF H (some ⟨b,0,none⟩) c3 (zs.set i pz)∧H[qx]?=some (.cells (fC x).toArray 123 (0,0)))=>hH.1.rowZ i rfl hzi6 8 _ rfl)) (by rw[hpz];rfl)) rfl ?_;refine Sz.calm rfl rfl (SQ rfl) rfl ?_;refine Sz.calm rfl rfl (Tb qP.h rfl) rfl ?_;refine Sz.calm rfl rfl (SN (u:=.slice x.2.a y.2.length x.2.c) (SR aX rfl (fun H (hH:VwM 10 aF H (some ⟨b,0,none⟩) c3 (zs.set i pz)∧H[qx]?=some (.cells (fC x).toArray 123 (0,0)))=>aD hH.2 rfl)) (by rw[←hxy.2.1];rfl)) rfl ?_;refine Sz.alt ?_ ?_
          ·refine Wa rfl rfl (SJ EF rfl (nT _ _ y.2 _ ((hxy.2.Ws (hG6.Wo hI_A (fun k ⟨a,ha,e⟩=>.inr (by have:=hfx a ha;omega))) (fun _ _=>id)).2.1) (by omega)) rfl ?_);rintro _ wB ⟨oB,cB,rfl,hoB,hfB,hfBf⟩;have hfBf:aA nob wA wB:=hfBf.Wp;have hozB:=hozA.Wr hfBf;have houB:=houA.Wr hfBf;refine Sz.on (by exact⟨hozB.vw aB,hfBf.obj hgA id⟩) ?_;refine Sz.calm rfl rfl (SL iY rfl rfl (by rw[←hul];exact hvu.non) (by omega)) rfl ?_;refine Sz.calm rfl rfl (Tb qP.h rfl) rfl ?_;refine Sz.alt ?_ ?_
           ·refine Wa rfl rfl (Tq cH (i:=k) (j:=1) (x':=(x.1,(⟨oB,y.2.length,cB⟩:Hd))) hux (by decide) rfl aX rfl rfl rfl rfl houB ?_);intro wC houC hsC hfC;have hI_C:aA (blk ox) v6 wC:=(hI_A.step hfBf (fun _ h=>h.elim)).trans hfC;have hoBC:=hoB.Ws hfC (fun a ha ⟨c,hc,e⟩=>by have h1:=hfB a ha;have h2:=hou.lt c hc;have h3:=hf8A.size;have e:c.block=a.block:=e;have h1:wA.heap.size≤a.block:=h1;omega);refine Sz.off rfl ?_;refine Wb ?_;refine Gz 6 ?_;refine aG ⟨k+1,us.set k (x.1,(⟨oB,y.2.length,cB⟩:Hd))⟩ ⟨by omega,houC,⟨by rw[XH];exact hul,fun j hj=>by rw[XJ (by omega)];exact hXI.2.1 j (by omega),fun j u z hj hu hz=>?_⟩,hI_C⟩ (by show xx.length-(k+1)<xx.length-k;omega);by_cases e:j=k
            · subst e
              rw[Xi (by omega)] at hu;cases hu;rw[hy] at hz;cases hz;exact⟨hxy.1,rfl,hoBC.vw,fun _ q ⟨a,ha,e⟩=>⟨by have h1:wA.heap.size≤a.block:=hfB a ha;have:=hI_A.size;omega,by have:=hoBC.lt a ha;omega⟩⟩
            · rw[XJ (fun h=>e h.symm)] at hu
              obtain⟨h1,h2⟩:=hXI.2.2 j u z (by omega) hu hz;have hfAC:aA (blk ox) w8 wC:=((hf8A.mono (fun _ h=>h.elim)).trans (hfBf.mono (fun _ h=>h.elim))).trans hfC;exact⟨h1,(h2.Ws hfAC (fun q hq ⟨a,ha,e⟩=>by have:=hox6.lt a ha;have:=hq.1;omega)).mono (fun q hq=>⟨hq.1,Xk hq.2 hfAC.size⟩)⟩
           exact Sz.stop
          exact Sz.stop
         have hke:k=xx.length:=by omega
         subst hke;refine Gz 14 ?_;have hH8:aA (fun k=>k=b∨k=g) w5 w8:=hH6v.step hI8 (fun k ⟨a,ha,e⟩=>.inr (by have:=hfx5 a ha;omega));have hI8s:=hI8.size;have hfoot:=hI8;have hon8:=hon6.Ws hI8 (fun a ha ⟨c,hc,e⟩=>hnx a c ha hc e);have hod8:=hod6.Ws hI8 (fun a ha ⟨c,hc,e⟩=>hdx a c ha hc e);have hoz8:=ho6v.Ws hI8 (fun a ha ⟨c,hc,e⟩=>by cases ha;have:=hfx c hc;have e:c.block=b:=e;omega);have hm8:=hm6v.Ws hI8 (fun⟨a,ha,e⟩=>by have:=hfx a ha;omega);have hpzv:NdV (fun k=>k≠b∧k≠g∧k<w8.heap.size) w8.heap pz:=by
          rw[hpz];refine⟨⟨rfl,hon8.vw,fun _ k ⟨a,ha,e⟩=>?_⟩,⟨rfl,hod8.vw,fun _ k ⟨a,ha,e⟩=>?_⟩,⟨hxl,us,hou.vw cH,hXI.1.trans hxl,fun _ k ⟨a,ha,e⟩=>?_,fun j u x hu hx=>?_⟩⟩
          ·have h1:=hfn a ha;have h2:=hon8.lt a ha;exact⟨by omega,by omega,by omega⟩
          ·have h1:=hfd a ha;have h2:=hod8.lt a ha;exact⟨by omega,by omega,by omega⟩
          ·have h1:=hfx a ha;have h2:=hou.lt a ha;exact⟨by omega,by omega,by omega⟩
          · obtain⟨h1,h2⟩:=hXI.2.2 j u x (by have:=(Wy.1 hu).1;have:=hXI.1;omega) hu hx
            exact⟨h1,h2.mono (fun k hk=>⟨by have:=hk.1;omega,by have:=hk.1;omega,hk.2⟩)⟩
         exact aG ⟨i+1,zs.set i pz,m2⟩ ⟨by omega,hoz8,(hC.Wr hH8).put hp (by rw[hpz]) hpzv,hm8,hMI2,hF5.Wo hH8 (fun k e=>.inr (by rcases e with e|e<;>omega))⟩ (by show ps.length-(i+1)<ps.length-i;omega)
        exact Sz.stop
       exact Sz.stop
      exact Sz.stop
     exact Sz.stop
    exact Sz.stop
   exact Sz.stop
  rw[Wx h39];rw[Wt h39];have hnew:((m.length:Nat):Int)+1=eO Z p.2.ino:=by rw[hml,hZ,lK hp,wN h39]
  refine Gz 4 ?_;refine Tj (β:=List (I6×Value)) (fun m2=>[(5,.slice (some ⟨b,0,none⟩) ps.length c3),(6,.map (some g)),(8,.pointer (some (adr (some ⟨b,0,none⟩) (i*10)))),(9,iV (eO Z p.2.ino)),(24,iV ps.length),(25,iV i)]) (fun m2 w=>cY enI w.heap g m2∧oC Z (aH (ys.take (i+1))) m2∧bP 10 aF 37 w.heap (some ⟨b,0,none⟩) c3 zs∧aA (fun k=>k=b∨k=g) w5 w) ?_ ?_
  ·refine Gz 3 ?_;refine cL (S3 rfl) ?_;refine Gz 6 ?_;refine cL (Ui Oe rfl (fun _ e=>by rw[e];exact hm5)) ?_;refine Gz 9 ?_;refine cL (SM aN rfl (hv5.rowZ i rfl hzi 1 _ rfl)) ?_;refine Gz 1 ?_;refine Th Oe tW (a:=(⟨p.2.ino,hzb⟩:I6)) rfl rfl rfl hm5 ?_;intro w6 hm6 hs6 hf6;rw[hnew] at hm6;refine Gz 1 ?_
   first
   |exact aC m ⟨hm5,by rw[iO hp];exact hMI.old h39,ho5,VK _ _⟩
   |exact Tn _ ⟨rfl,rfl,rfl,congrArg (fun z:Int=>some (Value.int .i64 z)) hnew,rfl,rfl,trivial⟩ ⟨hm6,by rw[iO hp];exact hMI.new (⟨p.2.ino,hzb⟩:I6) h39,ho5.Ws hf6 (fun a ha e=>by cases ha;have e:b=g:=e;omega),hf6.mono (fun k e=>.inr e)⟩
  rintro m2 w6 ⟨hm6,hMI2,ho6,hH6⟩;refine Gz 6 ?_;refine Tq aB (i:=i) (j:=1) (x':=cK Z p) hzi (by decide) rfl aN rfl rfl rfl rfl ho6 ?_;intro w7 ho7 hs7 hf7;have hH7:aA (fun k=>k=b∨k=g) w5 w7:=hH6.step hf7 (fun k ⟨a,ha,e⟩=>.inl (.inl (by cases ha;exact e.symm)));have hzi7:(zs.set i (cK Z p))[i]?=some (cK Z p):=Xi (by omega);have hm7:=hm6.Ws hf7 (fun⟨a,ha,e⟩=>by cases ha;have e:b=g:=e;omega);refine Gz 3 ?_;obtain⟨hxn0,xx,hxv,hxl,hxd,hxx⟩:=hpv.2.2;have hxn:p.1.xs.n=xx.length:=by rw[hxn0,hxl]
  have hx8:p.2.xs.length≤8:=hpmay.2.2.2.2.2.2.2.2.2;have hG7:aA nob W w7:=hF5.Wo hH7 (fun k e=>.inr (by rcases e with e|e<;>omega));refine TH 20 [6,11,16] (fun H=>VwM 10 aF H (some ⟨b,0,none⟩) c3 (zs.set i (cK Z p))) [7,12,17,20,23,26] [0,1,2,3,4,5,6,8,9,10,11,13,14,15,16] (.alt 7 [] (.alt 12 [] (.alt 17 [18,19] (.alt 20 [21,22] (.alt 23 [24,25] (.alt 26 [] .fin .stop) .stop) .stop) .stop) .stop) .stop) aL (by kernel_rfl) ((ho7.vw aB)) ?_;have hH0:aA (fun k=>k=b∨k=g) w5 (w7.drewN 1):=hH7.draws 1;have hG0:aA nob W (w7.drewN 1):=hG7.draws 1;have ho0:bP 10 aF 37 (w7.drewN 1).heap (some ⟨b,0,none⟩) c3 (zs.set i (cK Z p)):=ho7;have hm0:cY enI (w7.drewN 1).heap g m2:=hm7;generalize w7.drewN 1=v0 at hH0 hG0 ho0 hm0 ⊢;refine Sz.calm rfl rfl (SQ rfl) rfl ?_;refine Sz.calm rfl rfl (SQ rfl) rfl ?_;refine Sz.calm rfl rfl (SQ rfl) rfl ?_;refine Sz.calm rfl rfl (SQ rfl) rfl ?_;refine Sz.calm rfl rfl (S7 rfl) rfl ?_;refine Sz.calm rfl rfl (Tb uT.h rfl) rfl ?_;refine Sz.calm rfl rfl (SR eW rfl (fun H (hH:VwM 10 aF H (some ⟨b,0,none⟩) c3 (zs.set i (cK Z p)))=>hH.rowZ i rfl hzi7 0 _ rfl)) rfl ?_;refine Sz.calm rfl rfl (SQ rfl) rfl ?_;refine Sz.calm rfl rfl (S7 rfl) rfl ?_;refine Sz.calm rfl rfl (Tb uS.h rfl) rfl ?_;refine Sz.calm rfl rfl (SR aX rfl (fun H (hH:VwM 10 aF H (some ⟨b,0,none⟩) c3 (zs.set i (cK Z p)))=>hH.rowZ i rfl hzi7 6 _ rfl)) rfl ?_;refine Sz.calm rfl rfl (SQ rfl) rfl ?_;refine Sz.calm rfl rfl (S7 rfl) rfl ?_;refine Sz.calm rfl rfl (Tb nQ.h rfl) rfl ?_;refine Sz.calm rfl rfl (SR cF rfl (fun H (hH:VwM 10 aF H (some ⟨b,0,none⟩) c3 (zs.set i (cK Z p)))=>hH.rowZ i rfl hzi7 8 _ rfl)) rfl ?_;refine Sz.alt ?_ ?_
  ·refine Wa rfl rfl (SJ Po rfl ((by show Calls _ _ [Value.slice p.1.names.a p.1.names.n p.1.names.c].toArray _ _;rw[hpv.1.1];exact AE _ _ p.2.names v0 (hpv.Wr hG0).1.2.1 (by have:=hnm16 p hpm;omega))) rfl ?_);rintro _ v1 ⟨on,cn,rfl,hon1,hfn,hf1⟩;have hH1:aA (fun k=>k=b∨k=g) w5 v1:=hH0.step hf1 (fun _ h=>h.elim);have hG1:=hG0.trans hf1;have ho1:=ho0.Wr hf1;have hm1:=hm0.Ws hf1 id;refine Sz.on (by exact(ho1.vw aB)) ?_;refine Sz.alt ?_ ?_
   ·refine Wa rfl rfl (SJ EF rfl ((by show Calls _ _ [Value.slice p.1.data.a p.1.data.n p.1.data.c].toArray _ _;rw[hpv.2.1.1];exact nT _ _ p.2.data v1 (hpv.Wr hG1).2.1.2.1 (by have:=hpmay.2.2.2.2.2.2.1;omega))) rfl ?_);rintro _ v2 ⟨od,cd,rfl,hod2,hfd,hf2b⟩;have hH2:aA (fun k=>k=b∨k=g) w5 v2:=hH1.step hf2b (fun _ h=>h.elim);have hG2:=hG1.trans hf2b;have ho2:=ho1.Wr hf2b;have hm2b:=hm1.Ws hf2b id;have hon2:=hon1.Wr hf2b;refine Sz.on (by exact(ho2.vw aB)) ?_;refine Sz.alt ?_ ?_
    ·refine Wa rfl rfl (SJ Pn rfl ((by show Calls _ _ [Value.slice p.1.xs.a p.1.xs.n p.1.xs.c].toArray _ _;rw[hxn];exact AD _ _ xx v2 (hxv.keep' hG2 (fun _ _ _=>id)) (by omega))) rfl ?_);rintro _ v3 ⟨ox,cx,rfl,hox3,hfx,hf3b⟩;have hH3:aA (fun k=>k=b∨k=g) w5 v3:=hH2.step hf3b (fun _ h=>h.elim);have hG3:=hG2.trans hf3b;have ho3b:=ho2.Wr hf3b;have hm3b:=hm2b.Ws hf3b id;have hon3:=hon2.Wr hf3b;have hod3:=hod2.Wr hf3b;have hfx5:∀ a,ox=some a→w5.heap.size≤a.block:=fun a ha=>by have h1:v2.heap.size≤a.block:=hfx a ha;have:=hH2.size;omega
     have hnx:∀ a c:Addr,on=some a→ox=some c→c.block=a.block→False:=fun a c ha hc e=>by have h1:v2.heap.size≤c.block:=hfx c hc;have h2:=hon2.lt a ha;omega
     have hdx:∀ a c:Addr,od=some a→ox=some c→c.block=a.block→False:=fun a c ha hc e=>by have h1:v2.heap.size≤c.block:=hfx c hc;have h2:=hod2.lt a ha;omega
     have hb0:b<v0.heap.size:=ho0.lt _ rfl;have hg0:g<v0.heap.size:=hm0.obj;have hfn:∀ a,on=some a→b<a.block∧g<a.block:=fun a ha=>by have:=hfn a ha;omega
     have hfd:∀ a,od=some a→b<a.block∧g<a.block:=fun a ha=>by have:=hfd a ha;have:=hf1.size;omega
     have hfx:∀ a,ox=some a→b<a.block∧g<a.block:=fun a ha=>by have:=hfx a ha;have:=hf1.size;have:=hf2b.size;omega
     refine Sz.on (by exact(ho3b.vw aB)) ?_;refine Sz.calm rfl rfl (S7 rfl) rfl ?_;refine Sz.calm rfl rfl (Tb uT.h rfl) rfl ?_;refine Sz.alt ?_ ?_
     ·refine Wa rfl rfl (Tq aB (i:=i) (j:=0) (x':=((⟨⟨on,p.2.names.length,cn⟩,p.1.data,p.1.xs⟩:NdH),(cK Z p).2)) hzi7 (by decide) rfl eW rfl rfl rfl rfl ho3b ?_);intro v4 ho4v hs4v hf4v;rw[YT] at ho4v;have hz4:=Xi (a:=(((⟨⟨on,p.2.names.length,cn⟩,p.1.data,p.1.xs⟩:NdH),(cK Z p).2):NdH×Nd)) hizs;have hH4:aA (fun k=>k=b∨k=g) w5 v4:=hH3.step hf4v (fun k ⟨a,ha,e⟩=>.inl (.inl (by cases ha;exact e.symm)));have hm4v:=hm3b.Ws hf4v (fun⟨a,ha,e⟩=>by cases ha;have e:b=g:=e;omega);have hon4:=hon3.Ws hf4v (fun a ha ⟨c,hc,e⟩=>by cases hc;have e:b=a.block:=e;have:=hfn a ha;omega);have hod4:=hod3.Ws hf4v (fun a ha ⟨c,hc,e⟩=>by cases hc;have e:b=a.block:=e;have:=hfd a ha;omega);have hox4:=hox3.Ws hf4v (fun a ha ⟨c,hc,e⟩=>by cases hc;have e:b=a.block:=e;have:=hfx a ha;omega);refine Sz.off rfl ?_;refine Sz.calm rfl rfl (S7 rfl) rfl ?_;refine Sz.calm rfl rfl (Tb uS.h rfl) rfl ?_;refine Sz.alt ?_ ?_
      ·refine Wa rfl rfl (Tq aB (i:=i) (j:=6) (x':=((⟨⟨on,p.2.names.length,cn⟩,⟨od,p.2.data.length,cd⟩,p.1.xs⟩:NdH),(cK Z p).2)) hz4 (by decide) rfl aX rfl rfl rfl rfl ho4v ?_);intro v5 ho5v hs5v hf5v;rw[YT] at ho5v;have hz5:=Xi (a:=(((⟨⟨on,p.2.names.length,cn⟩,⟨od,p.2.data.length,cd⟩,p.1.xs⟩:NdH),(cK Z p).2):NdH×Nd)) hizs;have hH5:aA (fun k=>k=b∨k=g) w5 v5:=hH4.step hf5v (fun k ⟨a,ha,e⟩=>.inl (.inl (by cases ha;exact e.symm)));have hm5v:=hm4v.Ws hf5v (fun⟨a,ha,e⟩=>by cases ha;have e:b=g:=e;omega);have hon5:=hon4.Ws hf5v (fun a ha ⟨c,hc,e⟩=>by cases hc;have e:b=a.block:=e;have:=hfn a ha;omega);have hod5:=hod4.Ws hf5v (fun a ha ⟨c,hc,e⟩=>by cases hc;have e:b=a.block:=e;have:=hfd a ha;omega);have hox5:=hox4.Ws hf5v (fun a ha ⟨c,hc,e⟩=>by cases hc;have e:b=a.block:=e;have:=hfx a ha;omega);refine Sz.off rfl ?_;refine Sz.calm rfl rfl (S7 rfl) rfl ?_;refine Sz.calm rfl rfl (Tb nQ.h rfl) rfl ?_;refine Sz.alt ?_ ?_
       ·refine Wa rfl rfl (Tq aB (i:=i) (j:=8) (x':=((⟨⟨on,p.2.names.length,cn⟩,⟨od,p.2.data.length,cd⟩,⟨ox,xx.length,cx⟩⟩:NdH),(cK Z p).2)) hz5 (by decide) rfl cF rfl rfl rfl rfl ho5v ?_);intro v6 ho6v hs6v hf6v;rw[YT] at ho6v;have hH6v:aA (fun k=>k=b∨k=g) w5 v6:=hH5.step hf6v (fun k ⟨a,ha,e⟩=>.inl (.inl (by cases ha;exact e.symm)));have hm6v:=hm5v.Ws hf6v (fun⟨a,ha,e⟩=>by cases ha;have e:b=g:=e;omega);have hon6:=hon5.Ws hf6v (fun a ha ⟨c,hc,e⟩=>by cases hc;have e:b=a.block:=e;have:=hfn a ha;omega);have hod6:=hod5.Ws hf6v (fun a ha ⟨c,hc,e⟩=>by cases hc;have e:b=a.block:=e;have:=hfd a ha;omega);have hox6:=hox5.Ws hf6v (fun a ha ⟨c,hc,e⟩=>by cases hc;have e:b=a.block:=e;have:=hfx a ha;omega);obtain⟨pz,hpz⟩:∃ pz:NdH×Nd,pz=((⟨⟨on,p.2.names.length,cn⟩,⟨od,p.2.data.length,cd⟩,⟨ox,xx.length,cx⟩⟩:NdH),(cK Z p).2):=⟨_,rfl⟩
        rw[←hpz] at ho6v;have hzi6:(zs.set i pz)[i]?=some pz:=Xi (by omega);have hG6:aA nob W v6:=hF5.Wo hH6v (fun k e=>.inr (by rcases e with e|e<;>omega));refine Sz.off rfl ?_;refine Wb ?_;refine Gz 6 ?_;refine cL (SN (u:=.slice ox xx.length cx) (SM cF rfl ((ho6v.vw aB).rowZ i rfl hzi6 8 _ rfl)) (by rw[hpz];rfl)) ?_;refine Gz 5 ?_;have hb6:b<v6.heap.size:=ho6v.lt _ rfl;have hg6:g<v6.heap.size:=hm6v.obj;refine SO (β:=Nat×List (By×Hd)) (fun⟨k,us⟩=>[(5,.slice (some ⟨b,0,none⟩) ps.length c3),(6,.map (some g)),(8,.pointer (some (adr (some ⟨b,0,none⟩) (i*10)))),(24,iV ps.length),(25,iV i),(82,.slice ox xx.length cx),(83,iV xx.length),(84,iV k)]) (fun⟨k,us⟩ w=>k≤xx.length∧bP 2 fC 123 w.heap ox cx us∧XrJ v6.heap.size k xx p.2.xs us w∧aA (blk ox) v6 w) (fun⟨k,us⟩=>xx.length-k) ⟨0,xx⟩ ⟨rfl,rfl,rfl,rfl,rfl,rfl,rfl,rfl,trivial⟩ ⟨WG _,hox6,⟨rfl,fun _ _=>rfl,fun j _ _ hj=>by omega⟩,VK _ _⟩ ?_;rintro⟨k,us⟩ w8 ⟨hk,hou,hXI,hI8⟩;refine fK 2 ?_ ?_<;>intro h85
        ·have hkx:k<xx.length:=by omega
         obtain⟨x,hx⟩:∃ x,xx[k]?=some x:=⟨_,Wv hkx⟩
         obtain⟨y,hy⟩:∃ y,p.2.xs[k]?=some y:=⟨_,Wv (by omega)⟩
         have hux:us[k]?=some x:=by rw[hXI.2.1 k (WC _)];exact hx
         have hvu:=hou.vw cH;have hul:=hXI.1;have hxy:=hxx k x y hx hy;have hyl4:y.2.length≤200:=FW hpmay hy;refine Gz 11 ?_;refine cL (SL iY rfl rfl (by rw[←hul];exact hvu.non) (by omega)) ?_;refine cL (SX (cs:=fC x) dS rfl (fun j v hj=>hvu.rowZ k rfl hux j v hj)) ?_;refine SP sS rfl ?_;intro w9 hg9 hs9 hf9;obtain⟨qx,hqx⟩:∃ qx,qx=w8.heap.size:=⟨_,rfl⟩
         rw[←hqx] at hg9 ⊢;refine Gz 1 ?_;refine SY (vs:=fC x) dS rfl rfl (cH x).2 hg9 rfl ?_;intro wA hgA hsA hfA;have hf8A:aA nob w8 wA:=hf9.Wo hfA (fun k e=>.inr (by have e:k=qx:=e;omega));have hI_A:aA (blk ox) v6 wA:=hI8.step hf8A (fun _ h=>h.elim);have hoz8:=ho6v.Ws hI8 (fun a ha ⟨c,hc,e⟩=>by cases ha;have:=hfx c hc;have e:c.block=b:=e;omega);have hozA:=hoz8.Wr hf8A;have houA:=hou.Wr hf8A;have hqv:v6.heap.size≤qx:=by rw[hqx];exact hI8.size
         refine Gz 1 ?_;refine aW [(5,_),(6,_),(8,_),(11,_),(12,_),(24,_),(25,_),(82,_),(83,_),(84,_),(85,_)] ?_;refine Gz 1 ?_;refine TH 10 [3,6] (fun H=>VwM 10 aF H (some ⟨b,0,none⟩) c3 (zs.set i pz)∧H[qx]?=some (.cells (fC x).toArray 123 (0,0))) [7,10] [0,1,2,3,4,5,6] (.alt 7 [8,9] (.alt 10 [] .fin .stop) .stop) aL (by kernel_rfl) (⟨hozA.vw aB,hgA⟩) ?_;refine Sz.calm rfl rfl (SQ rfl) rfl ?_;refine Sz.calm rfl rfl (S7 rfl) rfl ?_;refine Sz.calm rfl rfl (Tb nQ.h rfl) rfl ?_;refine Sz.calm rfl rfl (SN (u:=.slice ox xx.length cx) (SR cF rfl (fun H (hH:VwM 10 aF H (some ⟨b,0,none⟩) c3 (zs.set i pz)∧H[qx]?=some (.cells (fC x).toArray 123 (0,0)))=>hH.1.rowZ i rfl hzi6 8 _ rfl)) (by rw[hpz];rfl)) rfl ?_;refine Sz.calm rfl rfl (SQ rfl) rfl ?_;refine Sz.calm rfl rfl (Tb qP.h rfl) rfl ?_;refine Sz.calm rfl rfl (SN (u:=.slice x.2.a y.2.length x.2.c) (SR aX rfl (fun H (hH:VwM 10 aF H (some ⟨b,0,none⟩) c3 (zs.set i pz)∧H[qx]?=some (.cells (fC x).toArray 123 (0,0)))=>aD hH.2 rfl)) (by rw[←hxy.2.1];rfl)) rfl ?_;refine Sz.alt ?_ ?_
         ·refine Wa rfl rfl (SJ EF rfl (nT _ _ y.2 _ ((hxy.2.Ws (hG6.Wo hI_A (fun k ⟨a,ha,e⟩=>.inr (by have:=hfx a ha;omega))) (fun _ _=>id)).2.1) (by omega)) rfl ?_);rintro _ wB ⟨oB,cB,rfl,hoB,hfB,hfBf⟩;have hfBf:aA nob wA wB:=hfBf.Wp;have hozB:=hozA.Wr hfBf;have houB:=houA.Wr hfBf;refine Sz.on (by exact⟨hozB.vw aB,hfBf.obj hgA id⟩) ?_;refine Sz.calm rfl rfl (SL iY rfl rfl (by rw[←hul];exact hvu.non) (by omega)) rfl ?_;refine Sz.calm rfl rfl (Tb qP.h rfl) rfl ?_;refine Sz.alt ?_ ?_
          ·refine Wa rfl rfl (Tq cH (i:=k) (j:=1) (x':=(x.1,(⟨oB,y.2.length,cB⟩:Hd))) hux (by decide) rfl aX rfl rfl rfl rfl houB ?_);intro wC houC hsC hfC;have hI_C:aA (blk ox) v6 wC:=(hI_A.step hfBf (fun _ h=>h.elim)).trans hfC;have hoBC:=hoB.Ws hfC (fun a ha ⟨c,hc,e⟩=>by have h1:=hfB a ha;have h2:=hou.lt c hc;have h3:=hf8A.size;have e:c.block=a.block:=e;have h1:wA.heap.size≤a.block:=h1;omega);refine Sz.off rfl ?_;refine Wb ?_;refine Gz 6 ?_;refine aG ⟨k+1,us.set k (x.1,(⟨oB,y.2.length,cB⟩:Hd))⟩ ⟨by omega,houC,⟨by rw[XH];exact hul,fun j hj=>by rw[XJ (by omega)];exact hXI.2.1 j (by omega),fun j u z hj hu hz=>?_⟩,hI_C⟩ (by show xx.length-(k+1)<xx.length-k;omega);by_cases e:j=k
           · subst e
             rw[Xi (by omega)] at hu;cases hu;rw[hy] at hz;cases hz;exact⟨hxy.1,rfl,hoBC.vw,fun _ q ⟨a,ha,e⟩=>⟨by have h1:wA.heap.size≤a.block:=hfB a ha;have:=hI_A.size;omega,by have:=hoBC.lt a ha;omega⟩⟩
           · rw[XJ (fun h=>e h.symm)] at hu
             obtain⟨h1,h2⟩:=hXI.2.2 j u z (by omega) hu hz;have hfAC:aA (blk ox) w8 wC:=((hf8A.mono (fun _ h=>h.elim)).trans (hfBf.mono (fun _ h=>h.elim))).trans hfC;exact⟨h1,(h2.Ws hfAC (fun q hq ⟨a,ha,e⟩=>by have:=hox6.lt a ha;have:=hq.1;omega)).mono (fun q hq=>⟨hq.1,Xk hq.2 hfAC.size⟩)⟩
          exact Sz.stop
         exact Sz.stop
        have hke:k=xx.length:=by omega
        subst hke;refine Gz 14 ?_;have hH8:aA (fun k=>k=b∨k=g) w5 w8:=hH6v.step hI8 (fun k ⟨a,ha,e⟩=>.inr (by have:=hfx5 a ha;omega));have hI8s:=hI8.size;have hfoot:=hI8;have hon8:=hon6.Ws hI8 (fun a ha ⟨c,hc,e⟩=>hnx a c ha hc e);have hod8:=hod6.Ws hI8 (fun a ha ⟨c,hc,e⟩=>hdx a c ha hc e);have hoz8:=ho6v.Ws hI8 (fun a ha ⟨c,hc,e⟩=>by cases ha;have:=hfx c hc;have e:c.block=b:=e;omega);have hm8:=hm6v.Ws hI8 (fun⟨a,ha,e⟩=>by have:=hfx a ha;omega);have hpzv:NdV (fun k=>k≠b∧k≠g∧k<w8.heap.size) w8.heap pz:=by
         rw[hpz];refine⟨⟨rfl,hon8.vw,fun _ k ⟨a,ha,e⟩=>?_⟩,⟨rfl,hod8.vw,fun _ k ⟨a,ha,e⟩=>?_⟩,⟨hxl,us,hou.vw cH,hXI.1.trans hxl,fun _ k ⟨a,ha,e⟩=>?_,fun j u x hu hx=>?_⟩⟩
         ·have h1:=hfn a ha;have h2:=hon8.lt a ha;exact⟨by omega,by omega,by omega⟩
         ·have h1:=hfd a ha;have h2:=hod8.lt a ha;exact⟨by omega,by omega,by omega⟩
         ·have h1:=hfx a ha;have h2:=hou.lt a ha;exact⟨by omega,by omega,by omega⟩
         · obtain⟨h1,h2⟩:=hXI.2.2 j u x (by have:=(Wy.1 hu).1;have:=hXI.1;omega) hu hx
           exact⟨h1,h2.mono (fun k hk=>⟨by have:=hk.1;omega,by have:=hk.1;omega,hk.2⟩)⟩
        exact aG ⟨i+1,zs.set i pz,m2⟩ ⟨by omega,hoz8,(hC.Wr hH8).put hp (by rw[hpz]) hpzv,hm8,hMI2,hF5.Wo hH8 (fun k e=>.inr (by rcases e with e|e<;>omega))⟩ (by show ps.length-(i+1)<ps.length-i;omega)
       exact Sz.stop
      exact Sz.stop
     exact Sz.stop
    exact Sz.stop
   exact Sz.stop
  exact Sz.stop
 have hie:i=ps.length:=by omega
 subst hie;refine Gz 15 ?_;refine aW [(2,_),(3,_),(5,_),(6,_),(24,_),(25,_),(26,_)] ?_;refine Gz 3 ?_;have hle:zs.length=ps.length:=by rw[hC.1,hyl]
 refine⟨_,rfl,some ⟨b,0,none⟩,c3,zs,by rw[hle,hz],fun h=>absurd hz h,fun _=>?_,⟨ho5.vw aB,fun q hq=>?_⟩,fun a ha=>by cases ha;exact hbW,hF5⟩
 ·rw[←hyl,hZ] at hC;rw[hC.eq,hys];rfl
 · obtain⟨j,hj⟩:=WO hq
   have hjl:=(Wy.1 hj).1;exact(hC.2.2 j q _ (by omega) hj (Wv (by omega))).2.mono (fun _ _=>trivial)
end
section
variable {P:Program}{N:Nt}{ops:Array Oper}{Q:Exit→Act→World→Prop}{rest:List Oper}{l:SF}{w:World}{d:Nat}{ty:TypeId}{pos:String}{aft:Array Edge}{x y:Operand}{t:TypeId}
theorem Vi{α:Type}{enc:α→Value}(henc:∀ x,(enc x).oneCell'=true){e:TypeId}{bytes g:Nat}(ht:aZ P t e 1 bytes){b:Addr}{cap bcap:Nat}{xs ys:List α}
 (hx:evL l x=some (.slice (some ⟨g,0,none⟩) xs.length cap))(hy:evL l y=some (.slice (some b) ys.length bcap))(ho:Own enc e w.heap (some ⟨g,0,none⟩) cap xs)(hv:Vw enc w.heap (some b) bcap ys)(hl:ys.length≤xs.length)(hd:Nat.blt d N.n=true)
 (h:∀ w',Own enc e w'.heap (some ⟨g,0,none⟩) cap (ys++xs.drop ys.length)→w'.heap.size=w.heap.size→aA (· = g) w w'→Sl P N ops Q rest ((d,iV (ys.length:Nat))::l) w') :
 Sl P N ops Q (⟨some d,.call ⟨.builtin .copy,#[x,y],#[t,t]⟩,ty,pos,aft,none⟩::rest) l w:=by
 obtain⟨i,z,hi,h1,hz,h2,h3⟩:=ht.parts;rcases ho with⟨h,_⟩|⟨g',cur,he,hg,g1,g2,g3,g4⟩
 ·cases h
 cases he;have hnews:∀ j v,(ys.map enc)[j]?=some v→w.cell? (b.add j)=some v:=by
  intro j v hv2;rw[W7] at hv2;obtain⟨u,hu,rfl⟩:=WR.1 hv2;exact hv.get j u hu
 have hr:=run_copy_row (P:=P) w t t ty e g 0 xs.length cap b ys.length bcap cur e (ys.map enc) ht.und (by rw[hi];simp[h2]) hg (by rw[WK];exact(Nat.min_eq_left hl).symm) hnews (by rw[WK];omega)
  (fun v hv2=>by obtain⟨u,_,rfl⟩:=WS.1 hv2;exact henc u)
 refine Tk (w':=_) (v:=iV (ys.length:Nat)) (fun a ha=>?_) hd (h (w.setRow g (cur.toList.take 0++ys.map enc++cur.toList.drop (0+(ys.map enc).length)).toArray) ?_ ?_ ?_)
 ·simp[execOp,ha.ev hx,ha.ev hy,resolve,invoke,builtin,hr,goInt]
 · refine .inr ⟨g,_,rfl,setRow_heap w g cur _ e _ hg,?_,g2,?_,?_⟩
   ·rw[Ww,WE];omega
   ·simp only[List.size_toArray,Ww,WB,WE,WK,X6];omega
   · have e1:(ys++xs.drop ys.length).length=xs.length:=by rw[Ww,WE];omega
     rw[e1,Yo,List.map_drop,←g4];simp only[YH,Xc,WK,Xp];rw[YO,WK,WJ (by rw[WK];exact hl),List.drop_take]
 ·simp[World.setRow]
 ·exact⟨rfl,rfl,rfl,by simp[World.setRow],fun k hk hn=>setRow_other w g k _ (fun e=>hn e)⟩
end
section
open Go Go.RowKit Go.Maps
theorem ByV.lts{D:Nat→Prop}{H:Array Obj}{h:Hd}{l:By}(v:ByV D H h l):ByV (fun k=>k<H.size) H h l:=⟨v.1,v.2.1,fun hne k ⟨a,ha,e⟩=>by have:=v.2.1.lt hne a ha;show k<H.size;omega⟩
theorem XsV.lts{D:Nat→Prop}{H:Array Obj}{h:Hd}{X:List Xa}(v:XsV D H h X):XsV (fun k=>k<H.size) H h X:=by
 obtain⟨h1,ys,h2,h3,h4,h5⟩:=v;exact⟨h1,ys,h2,h3,fun hne k ⟨a,ha,e⟩=>by have:=h2.lt hne (fun x e=>by cases e) a ha;show k<H.size;omega,fun i x y hx hy=>⟨(h5 i x y hx hy).1,(h5 i x y hx hy).2.lts⟩⟩
theorem aQ.lts{D:Nat→Prop}{H:Array Obj}{ao:Option Addr}{c:Nat}{ps:List (NdH×Nd)}(v:aQ D H ao c ps):aQ (fun k=>k<H.size) H ao c ps:=⟨v.1,fun p hp=>⟨(v.2 p hp).1.real,(v.2 p hp).2.1.lts,(v.2 p hp).2.2.lts⟩⟩
theorem kG{qs rs:List (NdH×Nd)}(h:nds qs=nds rs){i:Nat}{q:NdH×Nd}(hq:qs[i]?=some q):∃ r,rs[i]?=some r∧r.2=q.2:=by
 have h1:=bE hq;rw[h] at h1;unfold nds at h1;rw[W7] at h1;obtain⟨r,hr,e⟩:=WR.1 h1;exact⟨r,hr,e⟩
theorem iU{qs rs:List (NdH×Nd)}(h:nds qs=nds rs){q:NdH×Nd}(hq:q∈qs):∃ r∈rs,r.2=q.2:=by
 obtain⟨i,hi⟩:=WO hq;obtain⟨r,hr,e⟩:=kG h hi;exact⟨r,Wz hr,e⟩
theorem GdT.nds{rs qs:List (NdH×Nd)}(G:GdT rs)(h:nds qs=nds rs):GdT qs:=by
 have hl:=qG h;refine⟨by rw[hl];exact G.n,fun q hq=>?_,fun q hq=>?_,fun q hq=>?_,fun q hq=>?_,fun i j p q hij hp hq=>?_,fun i j p q hij hp hq e=>?_,?_,fun q hq hne=>?_⟩
 · obtain⟨r,hr,e⟩:=iU h hq
   rw[←e,hl];exact G.ino r hr
 · obtain⟨r,hr,e⟩:=iU h hq
   rw[←e];exact G.may r hr
 · obtain⟨r,hr,e⟩:=iU h hq
   rw[←e];exact G.nmv r hr
 · obtain⟨r,hr,e⟩:=iU h hq
   rw[←e];exact G.dep r hr
 · obtain⟨r,hr,e⟩:=kG h hp
   obtain⟨t,ht,e2⟩:=kG h hq;rw[←e,←e2];exact G.lt i j r t hij hr ht
 · obtain⟨r,hr,e1⟩:=kG h hp
   obtain⟨t,ht,e2⟩:=kG h hq;rw[←e1,←e2] at e ⊢;exact G.lnk i j r t hij hr ht e
 · obtain⟨q,hq,h1,h2⟩:=G.root
   obtain⟨r,hr,e⟩:=kG h.symm hq;exact⟨r,hr,by rw[e];exact h1,by rw[e];exact h2⟩
 · obtain⟨r,hr,e⟩:=iU h hq
   rw[←e] at hne;obtain⟨p,hp,h1,h2⟩:=G.up r hr hne;obtain⟨t,ht,e2⟩:=iU h.symm hp;exact⟨t,ht,by rw[e2,h1,e],by rw[e2];exact h2⟩
theorem FK(ps:List (NdH×Nd)):gY ps=(nds ps).flatMap (fun n=>[n.ud,n.gd]):=by simp[gY,nds,Zf]
theorem mA.nds{qs rs:List (NdH×Nd)}{ids:List Int}(h:mA qs ids)(e:nds qs=nds rs):mA rs ids:=⟨h.1,fun z=>by rw[h.2 z,FK,FK,e]⟩
theorem GdT.okN{qs:List (NdH×Nd)}(G:GdT qs):∀ q∈qs,okN q.2:=by
 intro q hq z hz;obtain⟨⟨k1,k2⟩,_,⟨m1,m2⟩,⟨u1,u2⟩,⟨g1,g2⟩,_⟩:=G.may q hq;have:=G.ino q hq;have hn:=G.n.2;simp only[W5,Xm,or_false] at hz;rcases hz with rfl|rfl|rfl|rfl|rfl<;>omega
theorem Ov{qs:List (NdH×Nd)}{ids:List Int}(G:GdT qs)(I:mA qs ids)(F:FI (nds qs) (qs.length+1) (aV qs)):GdP qs ids (aV qs).files where
 B:=G.gdB F.l (Kc F)
 xs:=fun q hq=>(G.may q hq).2.2.2.2.2.2.2.2
 tg:=fun q hq hk=>by
  have h:=(G.may q hq).2.2.2.2.2.2.2.1;unfold okT at h;rw[Wt hk] at h;exact h
 kd:=fun q hq=>by have:=(G.may q hq).1;omega
 fo:=fun q hq hk=>F.a q.2 (WS.2 ⟨q,hq,rfl⟩) hk
 fz:=fun q hq hk h=>by
  by_cases hl:q.2.ino.toNat<(aV qs).files.length
  · have he:=Wv hl
    have hd:(aV qs).files.getD q.2.ino.toNat cO=(aV qs).files[q.2.ino.toNat]:=by rw[WI,he];rfl
    rcases F.f _ _ he with e|⟨x,hx,hx2,hxi,_⟩
    ·rw[hd,e] at h;cases h
    · obtain⟨y,hy,rfl⟩:=WS.1 hx
      have h1:=G.ino q hq;have h2:=G.ino y hy;exact hk (by rw[←(G.same hq hy (by omega)).1];exact hx2)
  ·rw[WI,Xe (by omega)] at h;cases h
 ft:=fun f hf=>by
  obtain⟨i,hi⟩:=WO hf;rcases F.f i f hi with e|⟨x,_,_,_,st,fr,off,e,_⟩
  ·rw[e];rfl
  ·rw[e]
 ir:=I.1
 io:=fun q hq=>⟨(I.2 _).2 (pU hq).1,(I.2 _).2 (pU hq).2⟩
 il:=by have:=qM I;have:=G.n.2;omega
theorem FT(tp:Nat)(lo:Option Addr)(lc:Nat)(l:List Int)(wide:Int)(W:World)(ht:TbV W.heap tp)(hv:Vw i64 W.heap lo lc l)(hl:l.length≤1000)(hb:(aJ l wide).1.length≤100000) :
 Calls Tryz.prog 24 (([.slice lo l.length lc,iV wide]:List Value)++([pT tp]:List Value)).toArray W (Ret (mX W (dnW (aJ l wide).1))):=by
 simp only[Xq,Xc];have htl:=(WD.1 ht).1;refine cS 21 [(0,_),(1,_),(2,_)] Tryz.func24 ?_;refine cA 7 Mx (pZ tp W ht) ?_;rintro _ w1 ⟨rfl,hM1,hf1⟩;have hz1:=hf1.size;refine Gz 7 ?_;refine SJ Sm rfl (Ek lo lc l wide w1 (hv.Wr hf1) (by omega)) rfl ?_;rintro _ w2 ⟨o2,c2,rfl,ho2,hfr2,hf2⟩;have hM2:=hM1.Ws hf2 (fun _ _=>id) id;have hz2:=hf2.size;refine Gz 11 ?_;refine SJ Mw rfl (qD (fun k=>W.heap.size≤k∧k<w1.heap.size) W.heap.size tp [] o2 c2 (aJ l wide).1 w2 hM2 ho2.vw (by rw[W2];omega)) rfl ?_;rintro _ w3 ⟨rfl,hM3,hf3⟩;rw[Xc] at hM3;have hz3:=hf3.size;refine Gz 5 ?_;refine SJ Mv rfl (nI (Nx (fun k=>W.heap.size≤k∧k<w1.heap.size) w2 w3) W.heap.size tp (aJ l wide).1 w3 hM3 (by omega)) rfl ?_;rintro _ w4 ⟨o4,c4,rfl,ho4,hfr4,hf4⟩;refine Gz 5 ?_;have hF3:aA nob W w3:=(hf1.trans hf2).Wo hf3 (fun k h=>.inr h.1);exact⟨_,rfl,o4,c4,rfl,ho4,hfr4.mono (by omega),hF3.trans hf4⟩
def owB(B1 B2 B3 B4 B5 B6:Nat):Nat→Nat:=fun k=>if k<B1 then 4 else if k<B2 then 1 else if k<B3 then 2 else if k<B4 then 3 else if k<B5 then 4 else if k=B5 then 5 else if k=B5+1 then 7 else if k=B5+2 then 8 else if k=B5+3 then 6 else if k<B6 then 9 else 0
section
variable {B1 B2 B3 B4 B5 B6:Nat}(h:B1≤B2∧B2≤B3∧B3≤B4∧B4≤B5∧B5+4≤B6){k:Nat}
theorem RJ(hk:k<B1):owB B1 B2 B3 B4 B5 B6 k=4:=Wu hk
theorem RM(hk:B1≤k∧k<B2):owB B1 B2 B3 B4 B5 B6 k=1:=by unfold owB;rw[Wt (by omega),Wu (by omega)]
include h
theorem RL(hk:B2≤k∧k<B3):owB B1 B2 B3 B4 B5 B6 k=2:=by unfold owB;rw[Wt (by omega),Wt (by omega),Wu (by omega)]
theorem RK(hk:B3≤k∧k<B4):owB B1 B2 B3 B4 B5 B6 k=3:=by unfold owB;rw[Wt (by omega),Wt (by omega),Wt (by omega),Wu (by omega)]
theorem Pf(hk:B4≤k∧k<B5):owB B1 B2 B3 B4 B5 B6 k=4:=by unfold owB;rw[Wt (by omega),Wt (by omega),Wt (by omega),Wt (by omega),Wu (by omega)]
theorem RI:owB B1 B2 B3 B4 B5 B6 B5=5:=by unfold owB;rw[Wt (by omega),Wt (by omega),Wt (by omega),Wt (by omega),Wt (by omega),Wu rfl]
theorem RG:owB B1 B2 B3 B4 B5 B6 (B5+1)=7:=by unfold owB;rw[Wt (by omega),Wt (by omega),Wt (by omega),Wt (by omega),Wt (by omega),Wt (by omega),Wu rfl]
theorem RF:owB B1 B2 B3 B4 B5 B6 (B5+2)=8:=by unfold owB;rw[Wt (by omega),Wt (by omega),Wt (by omega),Wt (by omega),Wt (by omega),Wt (by omega),Wt (by omega),Wu rfl]
theorem RH:owB B1 B2 B3 B4 B5 B6 (B5+3)=6:=by unfold owB;rw[Wt (by omega),Wt (by omega),Wt (by omega),Wt (by omega),Wt (by omega),Wt (by omega),Wt (by omega),Wt (by omega),Wu rfl]
theorem RE(hk:B5+4≤k∧k<B6):owB B1 B2 B3 B4 B5 B6 k=9:=by unfold owB;rw[Wt (by omega),Wt (by omega),Wt (by omega),Wt (by omega),Wt (by omega),Wt (by omega),Wt (by omega),Wt (by omega),Wt (by omega),Wu (by omega)]
theorem RN(hk:B6≤k):owB B1 B2 B3 B4 B5 B6 k=0:=by unfold owB;rw[Wt (by omega),Wt (by omega),Wt (by omega),Wt (by omega),Wt (by omega),Wt (by omega),Wt (by omega),Wt (by omega),Wt (by omega),Wt (by omega)]
end
theorem PiX.relab{a:PiA}{ow ow':Nat→Nat}{H:Array Obj}{g tp:Nat}{qs:List (NdH×Nd)}{ids:List Int}{files:List Ino}{s:BSt}(h:PiX 0 a ow H g tp qs ids files s)(kz:∀ c,c≠0→c≤8→∀ k,ow k=c→ow' k=c):PiX 0 a ow' H g tp qs ids files s:=by
 obtain⟨⟨b1,b2⟩,⟨⟨n0,n1⟩,n2⟩,⟨i1,i2⟩,⟨t1,t2⟩,w1,w2,w3,⟨r1,r2⟩,⟨f1,f2⟩,z1,z2⟩:=h;have k4:=kz 4 (by decide) (by decide);have tn:∀ c,c≠4→¬ ow' tp=c:=fun c hc=>by rw[k4 tp t2];exact fun h=>hc h.symm
 exact⟨⟨b1,kz 6 (by decide) (by decide) g b2⟩,⟨⟨n0,fun p hp=>(n1 p hp).mono k4⟩,fun hne k hk=>k4 k (n2 hne k hk)⟩,⟨i1,fun hne k hk=>k4 k (i2 hne k hk)⟩,⟨t1,k4 tp t2⟩,
  fun hc=>(w1 hc).mono (kz 1 (by decide) (by decide)) (tn 1 (by decide)),fun hc=>(w2 hc).mono (kz 2 (by decide) (by decide)) (tn 2 (by decide)),fun hc=>(w3 hc).mono (kz 3 (by decide) (by decide)) (tn 3 (by decide)),
  ⟨kz 5 (by decide) (by decide) _ r1,r2⟩,⟨kz 7 (by decide) (by decide) _ f1,f2⟩,kz 8 (by decide) (by decide) _ z1,z2⟩
theorem yY.zero(n:Nat):yY [] (W4 n 0):=fun a _=>by
 have e:(W4 n (0:Int)).getD a.1.toNat 0=0:=by rw[WI,Ze];split<;>rfl
 rw[e];rfl
theorem Fa.zero(n:Nat):Fa [] (W4 n cO):=fun a _=>by
 have e:(W4 n cO).getD a.1.toNat cO=cO:=by rw[WI,Ze];split<;>rfl
 rw[e];rfl
theorem EY.zero:EY [] []:=fun X _ _=>rfl
theorem GY(n:Nat):(lW (pG n)).length=0:=by
 unfold lW pG;rw[List.filter_replicate];rfl
def oB:List Nat:=[2,3,4,5,6,0]
def ffB(F:Nat→Int)(Ps:List By):Nat→(Nat→Int)
|0=>F
|i+1=>upd (ffB F Ps i) (oB.getD i 0) (64+((Ps.take (i+1)).flatten.length:Nat))
theorem Nc{i:Nat}(h:i<6):oB.getD i 0<10:=by
 match i,h with
|0,_|1,_|2,_|3,_|4,_|5,_=>decide
theorem My{Ps:List By}{i:Nat}{x:By}(h:Ps[i]?=some x):(Ps.take (i+1)).flatten=(Ps.take i).flatten++x:=by rw[tkL h];simp
def dQ(A:yP)(ids:List Int):List By:=[A.d.B,dnW A.s.ino,dnW A.s.lst,dnW (aJ A.pl 4).1,dnW (aJ ids 2).1,dnW A.s.fur]
theorem oP(A:yP)(ids:List Int):(dQ A ids).flatten=dE A ids:=by
 unfold dQ dE dZ eA eB eC fO;simp only[List.flatten_cons,List.flatten_nil,XK,WL]
theorem MC(A:yP)(qs:List (NdH×Nd))(ids:List Int)(F:Nat→Int)(hF:F=fun j=>[0,(A.s.many:Int),0,0,0,0,0,(ids.length:Int),(A.pl.length:Int),A.s.refs.getD (ndB qs 0).ino.toNat 0-1].getD j 0):dA (ffB F (dQ A ids) 6)=dA (aR qs ids A):=by
 have e1:((dQ A ids).take 1).flatten=fO A:=by simp[dQ,fO]
 have e2:((dQ A ids).take 2).flatten=eC A:=by simp[dQ,fO,eC]
 have e3:((dQ A ids).take 3).flatten=eB A:=by simp[dQ,fO,eC,eB]
 have e4:((dQ A ids).take 4).flatten=eA A:=by simp[dQ,fO,eC,eB,eA]
 have e5:((dQ A ids).take 5).flatten=dZ A ids:=by simp[dQ,fO,eC,eB,eA,dZ]
 have e6:((dQ A ids).take 6).flatten=dE A ids:=by rw[←oP];rfl
 have e:ffB F (dQ A ids) 6=upd (upd (upd (upd (upd (upd F 2 (64+((fO A).length:Nat))) 3 (64+((eC A).length:Nat))) 4 (64+((eB A).length:Nat))) 5 (64+((eA A).length:Nat))) 6 (64+((dZ A ids).length:Nat))) 0 (64+((dE A ids).length:Nat)):=by
  rw[←e1,←e2,←e3,←e4,←e5,←e6];rfl
 rw[e,hF];rfl
end
section
open Go Go.RowKit Go.Maps
theorem rU(lo0:Option Addr)(lc0:Nat)(ps:List (NdH×Nd))(W:World)(hv:aQ (fun k=>k<W.heap.size) W.heap lo0 lc0 ps)(hsm:∀ p∈ps,smN p.2)(hok:∀ p∈ps,okN p.2)(hl:ps.length≤40) :
 CA 10 [.slice lo0 ps.length lc0] W (BuP W ps):=by
 refine cS 127 [(0,_)] Tryz.func10 ?_;refine cA 9 Sr (KI lo0 lc0 ps W hv hsm hok) ?_;rintro _ w1 ⟨lo,lc,qs,rfl,_,hq1,hvq,hfrq,hf1⟩;refine fK 11 ?_ ?_<;>intro h23
 ·refine Gz 13 ?_;exact⟨_,rfl,.inl ⟨h23,rfl,hf1⟩⟩
 have hz:chk (nds ps)=0:=W3.1 h23;have hqs:=hq1 hz;have G:=(ED hz hl).nds hqs;have hq40:=G.n.2;have hq0:=G.n.1;have hvq:=hvq.lts;refine cA 7 Qb (AB w1) ?_;rintro _ w2 ⟨rfl,hf2⟩;refine SP K9 rfl ?_;intro w3 hg3 hs3 hf3;refine SY (vs:=tab) yK rfl rfl AT hg3 (by rw[uD,Xl]) ?_;intro w4 hg4 hs4 hf4;obtain⟨tp,hp⟩:∃ p,p=w2.heap.size:=⟨_,rfl⟩
 have hF4:aA nob w1 w4:=(hf2.trans hf3).Wo hf4 (fun k hk=>.inr (by have h:k=w2.heap.size:=hk;have:=hf2.size;omega));rw[←hp] at hg4 ⊢;have ht4:TbV w4.heap tp:=hg4;have htl:=(WD.1 hg4).1;have hz4:=hF4.size;have hvq4:=hvq.Wr hF4;refine cA 4 Mx (pZ tp w4 ht4) ?_;rintro _ w5 ⟨rfl,hW1,hf5⟩;have ht5:=hf5.obj ht4 id;have hz5:=hf5.size;refine cA 0 Mx (pZ tp w5 ht5) ?_;rintro _ w6 ⟨rfl,hW2,hf6⟩;have ht6:=hf6.obj ht5 id;have hz6:=hf6.size;refine cA 0 Mx (pZ tp w6 ht6) ?_;rintro _ w7 ⟨rfl,hW3,hf7⟩;have ht7:=hf7.obj ht6 id;have hz7:=hf7.size;have hf47:=(hf5.trans hf6).trans hf7;have hvq7:=hvq4.Wr hf47;refine cL (TQ (cs:=#[pT w4.heap.size,pT w5.heap.size,pT w6.heap.size]) Pd RA rfl (by kernel_rfl)) ?_;refine Gz 2 ?_;refine SJ Sq rfl (On lo lc qs w7 hvq7.1 G.okN (by omega)) rfl ?_;rintro _ w8 ⟨io,ic,ids,rfl,hI8,hfI,hIds,hf8⟩;have hz8:=hf8.size;have hIl:=hI8.lt;have hid80:=qM hIds;refine To (enc:=enI) rfl ?_;intro w9 hm9 hs9 hf9;refine To (enc:=enI) rfl ?_;intro w10 hm10 hs10 hf10;refine To (enc:=enS) rfl ?_;intro w11 hm11 hs11 hf11;refine cL (bU (piC ⟨lo,lc,io,ic,w4.heap.size,w5.heap.size,w6.heap.size,w8.heap.size,w9.heap.size,w10.heap.size⟩ qs.length ids.length) Pc Rz) ?_;refine Td rfl rfl ?_;intro w12 hg12 hs12 hf12;obtain⟨a,ea⟩:∃ a:PiA,a=⟨lo,lc,io,ic,w4.heap.size,w5.heap.size,w6.heap.size,w8.heap.size,w9.heap.size,w10.heap.size⟩:=⟨_,rfl⟩
 have hg12:w12.heap[w11.heap.size]?=some (.cells (piC a qs.length ids.length).toArray 62 (0,0)):=by rw[ea];exact hg12
 obtain⟨g,eg⟩:∃ g,g=w11.heap.size:=⟨_,rfl⟩
 rw[←eg] at hg12 ⊢;have hf812:=((hf9.trans hf10).trans hf11).trans hf12;have hf712:=hf8.trans hf812;have ht12:=hf712.obj ht7 id;refine cA 5 So (Ko tp 64 w12 ht12) ?_;rintro _ w13 ⟨rfl,hD13,hf13⟩;have hz13:=hf13.size;obtain⟨ow,how⟩:∃ o,o=owB w4.heap.size w5.heap.size w6.heap.size w7.heap.size w8.heap.size w13.heap.size:=⟨_,rfl⟩
 have hB:w4.heap.size≤w5.heap.size∧w5.heap.size≤w6.heap.size∧w6.heap.size≤w7.heap.size∧w7.heap.size≤w8.heap.size∧w8.heap.size+4≤w13.heap.size:=by omega
 have hf713:=hf712.trans hf13;have hf813:=hf812.trans hf13;have o4:∀ k,k<w4.heap.size→ow k=4:=fun k hk=>by rw[how];exact RJ hk
 have otp:=o4 tp htl;have hn13:∀ k,w13.heap.size≤k→ow k=0:=fun k hk=>by rw[how];exact RN hB hk
 have ntp:∀ c,c≠4→¬ ow tp=c:=fun c hc h=>hc (by rw[←h,otp]);have hM13:PiX 0 a ow w13.heap g tp qs ids (W4 (qs.length+1) cO) (pG (qs.length+1)):=by
  rw[ea] at hg12 ⊢;refine⟨⟨hf13.obj hg12 id,by rw[eg,show w11.heap.size=w8.heap.size+3 by omega,how];exact RH hB⟩,⟨⟨(hvq7.1.keep' hf713 (fun _ _ _=>id)),fun p hp=>((hvq7.2 p hp).Wr hf713).mono (fun k hk=>o4 k (by omega))⟩,fun hne k ⟨x,hx,e⟩=>o4 k (by have:=hvq.1.lt hne (fun x e=>by cases e) x hx;omega)⟩,⟨(hI8.Wr hf813).vw,fun _ k ⟨x,hx,e⟩=>by have h1:=hfI x hx;have h2:=hIl x hx;rw[how];exact Pf hB ⟨by omega,by omega⟩⟩,⟨hf13.obj ht12 id,otp⟩,fun _=>?_,fun _=>?_,fun _=>?_,⟨by rw[how];exact RI hB,fun _=>⟨[],(((hm9.Ws hf10 id).Ws hf11 id).Ws hf12 id).Ws hf13 id,yY.zero _,(GY _).symm⟩⟩,⟨by show ow w9.heap.size=7;rw[show w9.heap.size=w8.heap.size+1 by omega,how];exact RG hB,fun _=>⟨[],((hm10.Ws hf11 id).Ws hf12 id).Ws hf13 id,Fa.zero _⟩⟩,by show ow w10.heap.size=8;rw[show w10.heap.size=w8.heap.size+2 by omega,how];exact RF hB,fun _=>⟨[],(hm11.Ws hf12 id).Ws hf13 id,EY.zero⟩⟩
  ·exact(((hW1.Ws hf6 (fun _ _=>id) id).Ws hf7 (fun _ _=>id) id).Ws hf713 (fun _ _=>id) id).mono (fun k hk=>by rw[how];exact RM hk) (ntp 1 (by decide))
  ·exact((hW2.Ws hf7 (fun _ _=>id) id).Ws hf713 (fun _ _=>id) id).mono (fun k hk=>by rw[how];exact RL hB hk) (ntp 2 (by decide))
  ·exact(hW3.Ws hf713 (fun _ _=>id) id).mono (fun k hk=>by rw[how];exact RK hB hk) (ntp 3 (by decide))
 obtain⟨dg,edg⟩:∃ d,d=w12.heap.size+1:=⟨_,rfl⟩
 rw[←edg] at hD13 ⊢;have hD13:DwO (fun k=>ow k=9) w13.heap dg tp 64 ⟨[],[]⟩:=hD13.mono (fun k hk=>by rw[how];exact RE hB ⟨by omega,hk.2⟩) (ntp 9 (by decide));refine cA 7 Sn (El a ow g tp qs ids (pG (qs.length+1)) dg G w13 hM13 hn13 hD13) ?_;rintro _ w14 ⟨po,pc,ow14,rfl,hpo,hpd,hM14,hD14,hFI,hl14,hn14,hf14⟩;obtain⟨S,eS,hInv,_,hpos⟩:=nW G hIds hFI;have hAll:=Gw G hIds;have hGP:=Ov G hIds hFI;have hz14:=hf14.size;obtain⟨pl,epl⟩:∃ l,l=(dD (aV qs).tails (aV qs).ds).2:=⟨_,rfl⟩
 obtain⟨ds,eds⟩:∃ d,d=(dD (aV qs).tails (aV qs).ds).1:=⟨_,rfl⟩
 rw[←epl] at hpo ⊢;rw[←eds] at hD14;have hpll:pl.length≤40:=by have h1:=jZ (aV qs).tails (aV qs).ds;have h2:=hFI.tn;rw[WK] at h2;rw[epl];omega
 have hdsl:ds.B.length≤200000:=by rw[eds];exact hAll.B
 have eAll:aE qs ids=⟨ds,pl,S⟩:=by unfold aE;rw[←eds,←epl,eS]
 obtain⟨q0,hq00,hq0n,hq0k⟩:=G.root;have hnd0:=bC hq00;obtain⟨ow15,eo15⟩:∃ o:Nat→Nat,o=fun k=>if ow14 k≤8 then ow14 k else 0:=⟨_,rfl⟩
 have o15e:∀ k,ow15 k=if ow14 k≤8 then ow14 k else 0:=fun k=>by rw[eo15]
 have o15a:∀ k,ow14 k≤8→ow15 k=ow14 k:=fun k h=>by rw[o15e,Wu h]
 have o15b:∀ k,8<ow14 k→ow15 k=0:=fun k h=>by rw[o15e,Wt (by omega)]
 have hM15:=hM14.relab (ow':=ow15) (fun c _ hc k hk=>by rw[o15a k (by omega)];exact hk);have hn15:∀ k,w14.heap.size≤k→ow15 k=0:=fun k hk=>by have:=hn14 k hk;rw[o15a k (by omega)];exact this
 have hokS:okS qs (pG (qs.length+1)):=⟨Xl,⟨fun z hz=>by have hz:=Y8 hz;omega,fun y hy=>by cases hy⟩,fun y hy=>by cases hy⟩
 have hbd:bdB (wrB qs ids (aV qs).files 17 0 (pG (qs.length+1))):=hAll.b;refine Gz 6 ?_;refine SJ Pz rfl (zY a g tp qs ids (aV qs).files hGP 17 ow15 (pG (qs.length+1)) 0 w14 hM15 hn15 ⟨by omega,by omega⟩ (by omega) hokS hbd) rfl ?_;rw[eS];rintro _ w15 ⟨rfl,ow16,hM16,hl16,hn16,hf15⟩;have hz15:=hf15.size;have nLb:∀ k,ow14 k=0∨ow14 k=9∨ow14 k=4→¬ Lb ow15 k:=fun k h h2=>by
  rcases h with h|h|h
  ·exact h2.1 (by rw[o15a k (by omega)];exact h)
  ·exact h2.1 (o15b k (by omega))
  ·exact h2.2 (by rw[o15a k (by omega)];exact h)
 have hD15:=hD14.Ws hf15 (fun k hk=>nLb k (.inr (.inl hk))) (nLb tp (.inr (.inr hM14.2.2.2.1.2)));have hpo15:=hpo.Ws hf15 (fun x hx=>nLb _ (.inl (hpd _ ⟨x,hx,rfl⟩).2));have hpol:=hpo.lt;obtain⟨⟨hg15,hg6⟩,_,⟨i15,_⟩,⟨ht15,ht154⟩,cw1,cw2,cw3,⟨_,c5⟩,_⟩:=id hM16;obtain⟨mr,hmr,_,hmrl⟩:=c5 (by decide);have hmany:mr.length=S.many:=by rw[hmrl,hInv.many]
 have hW15:aA (fun k=>w1.heap.size≤k) w1 w15:=by
  have f0:aA nob w1 w13:=(hF4.trans hf47).trans hf713;refine(f0.any.Wo hf14 (fun k h=>?_)).Wo hf15 (fun k h=>?_)
  · by_cases hk:k<w4.heap.size
    ·exact absurd (o4 k hk) h.2
    ·exact .inr (by omega)
  · by_cases hk:k<w4.heap.size
    ·exact absurd (by rw[o15a k (by rw[hl14 k (by omega),o4 k hk];decide),hl14 k (by omega)];exact o4 k hk) h.2
    ·exact .inr (by omega)
 have hg15l:=(WD.1 hg15).1;refine Gz 5 ?_;refine cL (TO (vs:=[pT tp]) rfl) ?_;refine Gz 4 ?_;refine SZ 15 (fun H=>H[g]?=some (.cells (piC a qs.length ids.length).toArray 62 (0,0))∧cY enI H a.r mr) [14,15] [0,1,2,3,4,5,6,7,8,9,10,11,12,13,14,15] aL (by kernel_rfl) (⟨hg15,hmr⟩) ?_;refine Gz 4 ?_;refine xC rfl (SN (u:=iV (S.many:Nat)) (Ui mpQ rfl (fun H hH=>hH.2)) (by rw[hmany])) ?_;refine Gz 8 ?_;refine xC rfl (bU (dA (fun j=>[0,(S.many:Int),0,0,0,0,0,(ids.length:Int),(pl.length:Int),S.refs.getD (ndB qs 0).ino.toNat 0-1].getD j 0)) tC tQ) ?_;obtain⟨F0,hF0⟩:∃ F:Nat→Int,F=fun j=>[0,(S.many:Int),0,0,0,0,0,(ids.length:Int),(pl.length:Int),S.refs.getD (ndB qs 0).ino.toNat 0-1].getD j 0:=⟨_,rfl⟩
 rw[←hF0];refine SU rfl rfl (SP tQ rfl ?_);intro w16 hg16 hs16 hf16;have hf16:aA nob w15 w16:=hf16.Wp;refine S5 (by exact⟨hf16.obj hg15 id,hmr.Ws hf16 id⟩) ?_;obtain⟨gS,egS⟩:∃ x,x=w15.heap.size:=⟨_,rfl⟩
 rw[show (w15.drewN 1).heap.size=gS from egS.symm] at hg16 ⊢;refine SU rfl rfl (SY (vs:=dA F0) eF rfl rfl (by exact eU _) hg16 rfl ?_);intro w17 hS17 hs17 hf17;refine Ts rfl ?_;have hf17:aA (· = gS) w16 w17:=hf17;have hs16b:w16.heap.size=w15.heap.size+1:=hs16;have hs17b:w17.heap.size=w16.heap.size:=hs17;have hf1517:aA nob w15 w17:=hf16.tw hf17;refine Gz 4 ?_;refine UR b8 (0:UInt8) aT z5 rfl rfl rfl (by decide) (by decide) (by decide) (by decide) rfl ?_;intro w18 ho18 hs18 hf18;have ho18:Own b8 5 w18.heap (some ⟨w17.heap.size,0,none⟩) 64 (W4 64 0):=ho18;have hs18b:w18.heap.size=w17.heap.size+1:=hs18;have hf1518:=hf1517.trans hf18;have hg18:=hf1518.obj hg15 id;have hS18:=hf18.obj hS17 id;have n4:=hAll.n4;have n2:=hAll.n2;have li:=hAll.i;have ll:=hAll.l;have lf:=hAll.f;have o6:=hAll.o6;rw[eAll] at n4 li ll lf o6
 replace n4:(aJ pl 4).1.length≤160:=n4
 replace li:S.ino.length≤10000:=li
 replace ll:S.lst.length≤500000:=ll
 replace lf:S.fur.length≤200000:=lf
 refine Gz 4 ?_;refine SZ 31 (fun H=>H[g]?=some (.cells (piC a qs.length ids.length).toArray 62 (0,0))) [1,7,13,16,22,28,29] [0,2,3,4,5,6,8,9,10,11,12,14,15,17,18,19,20,21,23,24,25,26,27,1,7,13,16,22,28,29,30] aL (by kernel_rfl) (hg18) ?_;refine Gz 5 ?_;refine xC rfl (SR vV rfl (fun H hH=>by rw[AK];exact aD (i:=0) hH rfl)) ?_;refine Gz 4 ?_;refine xC rfl (SR vV rfl (fun H hH=>by rw[AK];exact aD (i:=1) hH rfl)) ?_;refine Gz 11 ?_;refine xC rfl (SR vV rfl (fun H hH=>by rw[AK];exact aD (i:=2) hH rfl)) ?_;refine SU rfl rfl (SJ Sk rfl (Ks (fun k=>ow14 k=9) dg tp 64 ds (w18.drewN 1) (hD15.Wr (hf1518.draws 1)) (by omega)) rfl ?_);rintro _ w19 ⟨o1,c1,rfl,ho1,hfr1,hf19⟩;have hf19:aA nob w18 w19:=hf19.Wp;have hfr1:Fr w18.heap.size o1:=hfr1;have hf1519:=hf1518.trans hf19;have hz19:=hf19.size;refine S5 (by exact hf1519.obj hg15 id) ?_;refine SU rfl rfl (SJ Mv rfl (nI (fun k=>ow16 k=1) a.g1 tp S.ino w19 ((cw1 (by decide)).Ws hf1519 (fun _ _=>id) id) (by omega)) rfl ?_);rintro _ w20 ⟨o2,c2,rfl,ho2,hfr2,hf20⟩;have hf1520:=hf1519.trans hf20;have hz20:=hf20.size;refine S5 (by exact hf1520.obj hg15 id) ?_;refine SU rfl rfl (SJ Mv rfl (nI (fun k=>ow16 k=2) a.g2 tp S.lst w20 ((cw2 (by decide)).Ws hf1520 (fun _ _=>id) id) (by omega)) rfl ?_);rintro _ w21 ⟨o3,c3,rfl,ho3,hfr3,hf21⟩;have hf1521:=hf1520.trans hf21;have hz21:=hf21.size;refine S5 (by exact hf1521.obj hg15 id) ?_;refine SU rfl rfl (Tu Px rfl rfl (FT tp po pc pl 4 w21 (hf1521.obj ht15 id) (hpo15.Wr hf1521).vw (by omega) (by omega)) rfl ?_);intro v22 w22 hr22;obtain⟨o4,c4,rfl,ho4,hfr4,hf22⟩:=hr22;have hf1522:=hf1521.trans hf22;have hz22:=hf22.size;refine S5 (by exact hf1522.obj hg15 id) ?_;refine SU rfl rfl (Tu Px rfl rfl (FT tp a.io a.ic ids 2 w22 (hf1522.obj ht15 id) (i15.Wr hf1522) (by omega) (by omega)) rfl ?_);intro v23 w23 hr23;obtain⟨o5,c5,rfl,ho5,hfr5,hf23⟩:=hr23;have hf1523:=hf1522.trans hf23;have hz23:=hf23.size;refine S5 (by exact hf1523.obj hg15 id) ?_;refine SU rfl rfl (SJ Mv rfl (nI (fun k=>ow16 k=3) a.g3 tp S.fur w23 ((cw3 (by decide)).Ws hf1523 (fun _ _=>id) id) (by omega)) rfl ?_);rintro _ w24 ⟨o6b,c6,rfl,ho6,hfr6,hf24⟩;have hf1524:=hf1523.trans hf24;have hz24:=hf24.size;refine S5 (by exact hf1524.obj hg15 id) ?_;refine SU rfl rfl (Tc vS (cs:=([(⟨o1,ds.B.length,c1⟩:Hd),⟨o2,(dnW S.ino).length,c2⟩,⟨o3,(dnW S.lst).length,c3⟩,⟨o4,(dnW (aJ pl 4).1).length,c4⟩,⟨o5,(dnW (aJ ids 2).1).length,c5⟩,⟨o6b,(dnW S.fur).length,c6⟩].map hd).toArray) OR rfl rfl rfl (by kernel_rfl) rfl ?_);intro w25 hg25 hs25 hf25;have hf1525:=hf1524.trans hf25;have hs25b:w25.heap.size=w24.heap.size+1:=hs25;refine S5 (by exact hf1525.obj hg15 id) ?_;obtain⟨hs,ehs⟩:∃ l:List Hd,l=[⟨o1,ds.B.length,c1⟩,⟨o2,(dnW S.ino).length,c2⟩,⟨o3,(dnW S.lst).length,c3⟩,⟨o4,(dnW (aJ pl 4).1).length,c4⟩,⟨o5,(dnW (aJ ids 2).1).length,c5⟩,⟨o6b,(dnW S.fur).length,c6⟩]:=⟨_,rfl⟩
 have hhs6:hs.length=6:=by rw[ehs];rfl
 have hp25:Own hd 25 w25.heap (some ⟨w24.heap.size,0,none⟩) 6 hs:=by rw[ehs];exact jQ hg25 (show 6≤maxLen by decide)
 have hPl:(dQ ⟨ds,pl,S⟩ ids).length=6:=rfl;have hrw25:dB (fun k=>w18.heap.size≤k∧k<w25.heap.size) w25.heap hs (dQ ⟨ds,pl,S⟩ ids):=by
  have k:∀ {o:Option Addr} {c:Nat} {x:By} {u v:World},Own b8 5 v.heap o c x→aA nob v w25→Fr u.heap.size o→w18.heap.size≤u.heap.size→Vw b8 w25.heap o c x∧(x≠[]→∀ k,blk o k→w18.heap.size≤k∧k<w25.heap.size):=fun h f hfr hu=>⟨(h.Wr f).vw,fun _ k ⟨y,hy,e⟩=>by have:=hfr y hy;have:=h.lt y hy;have:=f.size;omega⟩
  have k6:=k ho6 hf25 hfr6 (by omega);have k5:=k ho5 (hf24.trans hf25) hfr5 (by omega);have k4:=k ho4 ((hf23.trans hf24).trans hf25) hfr4 (by omega);have k3:=k ho3 (((hf22.trans hf23).trans hf24).trans hf25) hfr3 (by omega);have k2:=k ho2 ((((hf21.trans hf22).trans hf23).trans hf24).trans hf25) hfr2 (by omega);have k1:=k ho1 (((((hf20.trans hf21).trans hf22).trans hf23).trans hf24).trans hf25) hfr1 (by omega);rw[ehs];exact((((((VW (H:=w25.heap)).snoc (x:=⟨o1,ds.B.length,c1⟩) rfl k1.1 k1.2).snoc (x:=⟨o2,(dnW S.ino).length,c2⟩) rfl k2.1 k2.2).snoc (x:=⟨o3,(dnW S.lst).length,c3⟩) rfl k3.1 k3.2).snoc (x:=⟨o4,(dnW (aJ pl 4).1).length,c4⟩) rfl k4.1 k4.2).snoc (x:=⟨o5,(dnW (aJ ids 2).1).length,c5⟩) rfl k5.1 k5.2).snoc (x:=⟨o6b,(dnW S.fur).length,c6⟩) rfl k6.1 k6.2
 have hS25:w25.heap[gS]?=some (.cells (dA F0).toArray 44 (0,0)):=(((((((hf19.trans hf20).trans hf21).trans hf22).trans hf23).trans hf24).trans hf25)).obj hS18 id;refine Gz 12 ?_;refine Tc AW (cs:=(oB.map (ptO gS)).toArray) NC rfl rfl rfl (by kernel_rfl) rfl ?_;intro w26 hg26 hs26 hf26;have hs26b:w26.heap.size=w25.heap.size+1:=hs26;have hq26:Own (ptO gS) 72 w26.heap (some ⟨w25.heap.size,0,none⟩) 6 oB:=jQ (xs:=oB) hg26 (by decide);have hf1826:=((((((hf19.trans hf20).trans hf21).trans hf22).trans hf23).trans hf24).trans hf25).trans hf26;have hN15:aA nob W w15:=hf1.Wo hW15 (fun k h=>.inr (by have:=hf1.size;omega));have hN26:aA nob W w26:=(hN15.trans hf1518).trans hf1826;obtain⟨Ps,ePs⟩:∃ P,P=dQ ⟨ds,pl,S⟩ ids:=⟨_,rfl⟩
 rw[←ePs] at hrw25 hPl;have hPf:Ps.flatten.length≤1500000:=by rw[ePs,oP];exact o6
 have hzW:=hN15.size;refine Gz 5 ?_;refine SO (β:=Nat×(Option Addr×Nat)) (fun⟨i,⟨oo,oc⟩⟩=>[(5,pT tp),(11,pT gS),(12,.slice oo (W4 64 (0:UInt8)++(Ps.take i).flatten).length oc),(13,.slice (some ⟨w24.heap.size,0,none⟩) 6 6),(96,.slice (some ⟨w25.heap.size,0,none⟩) 6 6),(97,iV 6),(98,iV i)]) (fun⟨i,⟨oo,oc⟩⟩ w=>i≤6∧Own b8 5 w.heap oo oc (W4 64 (0:UInt8)++(Ps.take i).flatten)∧(∀ k,blk oo k→k=w17.heap.size∨w26.heap.size≤k)∧w.heap[gS]?=some (.cells (dA (ffB F0 Ps i)).toArray 44 (0,0))∧Own hd 25 w.heap (some ⟨w24.heap.size,0,none⟩) 6 hs∧Own (ptO gS) 72 w.heap (some ⟨w25.heap.size,0,none⟩) 6 oB∧dB (fun k=>w18.heap.size≤k∧k<w25.heap.size) w.heap hs Ps∧TbV w.heap tp∧w26.heap.size≤w.heap.size∧aA nob W w) (fun⟨i,⟨oo,oc⟩⟩=>6-i) ⟨0,⟨some ⟨w17.heap.size,0,none⟩,64⟩⟩ ⟨rfl,rfl,rfl,rfl,rfl,rfl,rfl,trivial⟩ ⟨by decide,by rw[show W4 64 (0:UInt8)++(Ps.take 0).flatten=W4 64 0 by simp];exact ho18.Wr hf1826,fun k ⟨z,hz,e⟩=>by cases hz;exact .inl e.symm,hf26.obj hS25 id,hp25.Wr hf26,hq26,hrw25.Ws hf26 (fun _ _=>id),(hf1518.trans hf1826).obj ht15 id,WC _,hN26⟩ ?_;rintro⟨i,⟨oo,oc⟩⟩ w27 ⟨hi,hoo,hob,hS,hp,hq,hrw,ht27,hz27,hN⟩;refine fK 2 ?_ ?_<;>intro h99
 ·have hi6:i<6:=by omega
  obtain⟨x,hx⟩:∃ x,Ps[i]?=some x:=⟨_,Wv (by omega)⟩
  obtain⟨y,hy⟩:∃ y,hs[i]?=some y:=⟨_,Wv (by omega)⟩
  obtain⟨hyn,hyv,_⟩:=hrw.2 i y x hy hx;have hft:=My hx;have hfl:=lV Ps (i+1);have hfl2:(Ps.take i).flatten.length+x.length≤1500000:=by have h:=congrArg W6 hft;rw[Ww] at h;omega
  refine Gz 11 ?_;refine cL (SI AW rfl rfl hq.vw.non (by have e:oB.length=6:=rfl;omega)) ?_;refine cL (SM zQ rfl (hq.vw.gz 0 i rfl (by show i<6;exact hi6))) ?_;refine Gz 3 ?_;refine aW [(5,_),(11,_),(12,_),(13,_),(14,_),(15,_),(96,_),(97,_),(98,_),(99,_)] ?_;refine Gz 6 ?_;refine cL (SI vS rfl rfl (fun _=>by simp) (by omega)) ?_;refine cL (SN (u:=.slice y.a x.length y.c) (SM aX rfl (hp.vw.get i y hy)) (by rw[←hyn];rfl)) ?_;refine S4 dK aT rfl rfl hoo hyv (by simp only[Ww,Xl];omega) (by simp only[Ww,Xl];unfold maxLen;omega) rfl ?_;intro o28 c28 w28 ho28 hf28 hr28 hn28;have eL:W4 64 (0:UInt8)++(Ps.take i).flatten++x=W4 64 0++(Ps.take (i+1)).flatten:=by rw[hft,WL]
  rw[eL] at ho28 ⊢;have hz28:=hf28.size;have kd:∀ k,k<w26.heap.size→k≠w17.heap.size→¬ blk oo k:=fun k h1 h2 h3=>by rcases hob k h3 with h|h;exact h2 h;omega
  have hS28:=hf28.obj hS (kd gS (by omega) (by omega));have hp28:=hp.Ws hf28 (fun z hz=>by cases hz;exact kd w24.heap.size (by omega) (by omega));have hq28:=hq.Ws hf28 (fun z hz=>by cases hz;exact kd w25.heap.size (by omega) (by omega));have hrw28:=hrw.Ws hf28 (fun k hk=>kd k (by omega) (by omega));have hN28:aA nob W w28:=hN.Wo hf28 (fun k h=>.inr (by rcases hob k h with h|h;omega;have:=hN26.size;omega));have hob28:∀ k,blk o28 k→k=w17.heap.size∨w26.heap.size≤k:=fun k ⟨z,hz,e⟩=>by
   rcases hr28 z hz with h|h
   ·exact hob k ⟨z,h,e⟩
   ·exact .inr (by omega)
  refine Gz 6 ?_;refine cL (SN (u:=iV (64+((Ps.take (i+1)).flatten.length:Nat))) (UF aT rfl) (by rw[Ww,Xl];rfl)) ?_;refine Gz 1 ?_;refine SV aN rfl rfl rfl hS28 (by have:=Nc hi6;rw[Nat.blt_eq];exact this) ?_;intro w29 hS29 hs29 hf29;have hS29:w29.heap[gS]?=some (.cells (dA (ffB F0 Ps (i+1))).toArray 44 (0,0)):=by rw[show ffB F0 Ps (i+1)=upd (ffB F0 Ps i) (oB.getD i 0) (64+((Ps.take (i+1)).flatten.length:Nat)) from rfl,←Ca _ (Nc hi6)];exact hS29
  have hf29:aA (· = gS) w28 w29:=hf29;have hs29b:w29.heap.size=w28.heap.size:=hs29;refine Gz 7 ?_;exact aG ⟨i+1,⟨o28,c28⟩⟩ ⟨by omega,ho28.Ws hf29 (fun z hz h=>by have h:z.block=gS:=h;rcases hob28 _ ⟨z,hz,h⟩ with h2|h2<;>omega),hob28,hS29,hp28.Ws hf29 (fun z hz h=>by cases hz;have h:w24.heap.size=gS:=h;omega),hq28.Ws hf29 (fun z hz h=>by cases hz;have h:w25.heap.size=gS:=h;omega),hrw28.Ws hf29 (fun k hk h=>by have h:k=gS:=h;omega),hf29.obj (hf28.obj ht27 (kd tp (by omega) (by omega))) (show ¬ tp=gS by omega),by omega,hN28.tw hf29⟩ (by show 6-(i+1)<6-i;omega)
 have hi6:i=6:=by omega
 subst hi6;refine Gz 13 ?_;have hfin:Ps.flatten=dE (aE qs ids) ids:=by rw[ePs,oP,eAll]
 have htk6:Ps.take 6=Ps:=WJ (by omega);have eT:(Ps.take 6).flatten=dE (aE qs ids) ids:=by rw[htk6,hfin]
 have hff:dA (ffB F0 Ps 6)=dA (aR qs ids (aE qs ids)):=by rw[ePs,eAll];exact MC _ qs ids F0 hF0
 rw[hff] at hS;refine cL (SN (u:=iV (64+((dE (aE qs ids) ids).length:Int))) (SM aN rfl (aD (i:=0) hS rfl)) rfl) ?_;refine fK 0 ?_ ?_<;>intro h116
 ·have hib:qL qs ids=([],3):=by unfold qL;rw[Wu h116]
  refine Gz 1 ?_;refine aW [(5,_),(11,_),(12,_),(13,_),(96,_),(97,_),(98,_),(99,_),(116,_)] ?_;refine Gz 11 ?_;refine⟨_,rfl,.inr ⟨hz,ids,none,0,hIds.nds hqs,?_,?_,VP,hN⟩⟩
  ·rw[←mP hqs ids,hib];rfl
  ·rw[←mP hqs ids,hib];exact VR
 have M:ImB qs ids:=⟨G,hIds,by omega⟩
 refine Gz 1 ?_;refine aW [(5,_),(11,_),(12,_),(13,_),(96,_),(97,_),(98,_),(99,_),(116,_)] ?_;refine Gz 6 ?_;refine cL (SX (cs:=dA (aR qs ids (aE qs ids))) eF rfl (bJ hS 0 rfl)) ?_;refine cA 0 Sj (Im tp (aR qs ids (aE qs ids)) w27 ht27) ?_;rintro _ w31 ⟨o31,c31,rfl,ho31,hfr31,hf31⟩;have ep:jC (aR qs ids (aE qs ids))=(suB (aR qs ids (aE qs ids)),0):=Wu M.may;rw[ep] at ho31 ⊢;have hsl:=nC (aR qs ids (aE qs ids));obtain⟨b31,rfl⟩:∃ b,o31=some b:=by
  cases o31 with
 |none=>exact absurd rfl (ho31.vw.non (by rw[show ((suB (aR qs ids (aE qs ids)),(0:Int)):By×Int).1=suB (aR qs ids (aE qs ids)) from rfl,hsl];decide))
 |some b=>exact⟨b,rfl⟩
 have hoo31:=hoo.Wr hf31;obtain⟨bb,rfl⟩:∃ b,oo=some (⟨b,0,none⟩:Addr):=by
  rcases hoo31 with⟨_,_,h⟩|⟨x,_,h,_⟩
  · have h:=congrArg W6 h
    rw[Ww,Xl,W2] at h;omega
  ·exact⟨x,h⟩
 refine Gz 11 ?_;refine Vi dK aT (b:=b31) (ys:=suB (aR qs ids (aE qs ids))) rfl rfl hoo31 ho31.vw (by rw[hsl,Ww,Xl];omega) rfl ?_;intro w32 ho32 hs32 hf32;refine Gz 12 ?_;have hbW:W.heap.size≤bb:=by rcases hob bb ⟨_,rfl,rfl⟩ with h|h<;>omega
 have efin:suB (aR qs ids (aE qs ids))++(W4 64 (0:UInt8)++(Ps.take 6).flatten).drop (suB (aR qs ids (aE qs ids))).length=imB qs ids:=by rw[hsl,eT,Xs Xl];rfl
 have elen:(W4 64 (0:UInt8)++(Ps.take 6).flatten).length=(imB qs ids).length:=by unfold imB;rw[eT,Ww,Ww,Xl,hsl]
 refine⟨_,rfl,.inr ⟨hz,ids,some ⟨bb,0,none⟩,oc,hIds.nds hqs,?_,?_,fun z hz=>by cases hz;exact hbW,(hN.trans hf31).tw hf32⟩⟩
 · rw[←mP hqs ids,M.img]
   show _=Value.tuple #[.slice _ (imB qs ids).length oc,iV 0];rw[←elen]
 · rw[←mP hqs ids,M.img]
   show Own b8 5 w32.heap (some ⟨bb,0,none⟩) oc (imB qs ids);rw[←efin];exact ho32
end
end Go.Proofs.YthmmmagklhiiiaaGreatDoor
